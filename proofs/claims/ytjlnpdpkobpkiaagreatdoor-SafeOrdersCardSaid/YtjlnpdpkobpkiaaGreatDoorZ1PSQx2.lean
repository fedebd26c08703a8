import Derived.Test.YtjlnpdpkobpkiaaGreatDoorZ1PSQx0
import Derived.Test.YtjlnpdpkobpkiaaGreatDoorZ1PSQx1
import Derived.Test.YtjlnpdpkobpkiaaGreatDoorZ1PSPx2
import Derived.Test.YtjlnpdpkobpkiaaGreatDoorZ1PSPx4
namespace Go.Proofs.YtjlnpdpkobpkiaaGreatDoorPSP
open Go.RowKit Go.Proofs.YtjlnpdpkobpkiaaGreatDoorW.PrintWords Go.Proofs.YtjlnpdpkobpkiaaGreatDoorW.PrintLast Go.Proofs.YtjlnpdpkobpkiaaGreatDoorW.PrintMore
attribute [local go_sem] max2_int min2_int max_two min_two max_three min_three max_four min_four   -- for this text's walks alone
set_option linter.unusedVariables false
set_option linter.unusedSimpArgs false
def ergolaw13_P_Part.f (k:Nat) (a0_0:Int) (a0_1:Int) (a0_2:Int) (l0_3:List (S89)) (a0_4:Int) (a0_5:Int) (a0_6:Int) (a0_7:Int) (a0_8:Int) (a0_9:Int) (a0_10:Int) (a0_11:Int) (a0_12:Int) (a0_13:Int) (l0_14:List (S92)):Option (Int×ByteArray×(List (S98))×Int×Int×ByteArray×Int×Int×ByteArray×Int×ByteArray×Int×ByteArray×Int×Int×(List (S104))):=if (wrap64 (Int.tmod (IntKind.u64.wrap (a0_0)) 6))=3 then ((ergolaw13_A_Atom.f k a0_2 l0_3).bind fun bt147=>(some (1,bt147.1,bt147.2,0,0,(⟨#[]⟩:ByteArray),0,0,(⟨#[]⟩:ByteArray),0,(⟨#[]⟩:ByteArray),0,(⟨#[]⟩:ByteArray),0,0,([]:List (S104))))) else (if (wrap64 (Int.tmod (IntKind.u64.wrap (a0_0)) 6))=4 then ((ergolaw13_T_Term.f a0_4 a0_5 a0_6).bind fun bt151=>((ergolaw13_T_Term.f a0_7 a0_8 a0_9).bind fun bt154=>(some (2,(⟨#[]⟩:ByteArray),([]:List (S98)),wrap64 (Int.tmod (IntKind.u64.wrap (a0_1)) 6),bt151.1,bt151.2.1,bt151.2.2,bt154.1,bt154.2.1,bt154.2.2,(⟨#[]⟩:ByteArray),0,(⟨#[]⟩:ByteArray),0,0,([]:List (S104)))))) else (if (wrap64 (Int.tmod (IntKind.u64.wrap (a0_0)) 6))=5 then ((ergolaw13_T_Term.f 0 a0_5 a0_6).bind fun bt158=>((ergolaw13_E_Expr.f k a0_10 a0_11 a0_12 a0_13 l0_14).bind fun bt161=>(some (3,(⟨#[]⟩:ByteArray),([]:List (S98)),0,0,(⟨#[]⟩:ByteArray),0,0,(⟨#[]⟩:ByteArray),0,bt158.2.1,bt161.1,bt161.2.1,bt161.2.2.1,bt161.2.2.2.1,bt161.2.2.2.2)))) else ((ergolaw13_A_Atom.f k a0_2 l0_3).bind fun bt168=>(some (0,bt168.1,bt168.2,0,0,(⟨#[]⟩:ByteArray),0,0,(⟨#[]⟩:ByteArray),0,(⟨#[]⟩:ByteArray),0,(⟨#[]⟩:ByteArray),0,0,([]:List (S104)))))))
def ergolaw13_P_Part.T5:Bool×List (List Nat×List Nat):=(true,[([],[]),([0],[0]),([1],[1]),([2],[2]),([3],[3]),([],[]),([5],[5]),([6],[6]),([],[]),([8],[8]),([9,7],[9]),([4,7,10],[4,7,10]),([11,10,0,1,2,3,4,5,6,7,8,9,10,11],[11])])
def ergolaw13_P_Part.B5:List Nat:=[0,1,3,7,15,0,32,96,0,256,992,2047,4095]
theorem ergolaw13_P_Part.tab5:rtab .any (opsOf Tryz.f33 5)=ergolaw13_P_Part.T5:=by kernel_rfl
theorem ergolaw13_P_Part.bits5:waitsOk ergolaw13_P_Part.T5.2 ergolaw13_P_Part.B5=true:=by kernel_rfl
def ergolaw13_P_Part.T9:Bool×List (List Nat×List Nat):=(true,[([],[]),([0],[0]),([1],[1]),([],[]),([3],[3]),([4,1],[4]),([2,5],[2,5]),([6,5,0,1,2,3,4,5,6],[6])])
def ergolaw13_P_Part.B9:List Nat:=[0,1,3,0,8,27,63,127]
theorem ergolaw13_P_Part.tab9:rtab .any (opsOf Tryz.f33 9)=ergolaw13_P_Part.T9:=by kernel_rfl
theorem ergolaw13_P_Part.bits9:waitsOk ergolaw13_P_Part.T9.2 ergolaw13_P_Part.B9=true:=by kernel_rfl
set_option maxHeartbeats 8000000 in
set_option maxRecDepth 100000 in
theorem ergolaw13_P_Part.calls (k:Nat) (a0_0:Int) (a0_1:Int) (a0_2:Int) (A0_3:Option Addr) (c0_3:Nat) (l0_3:List (S89)) (a0_4:Int) (a0_5:Int) (a0_6:Int) (a0_7:Int) (a0_8:Int) (a0_9:Int) (a0_10:Int) (a0_11:Int) (a0_12:Int) (a0_13:Int) (A0_14:Option Addr) (c0_14:Nat) (l0_14:List (S92)) (r1:Int) (r2:ByteArray) (r3:List (S98)) (r4:Int) (r5:Int) (r6:ByteArray) (r7:Int) (r8:Int) (r9:ByteArray) (r10:Int) (r11:ByteArray) (r12:Int) (r13:ByteArray) (r14:Int) (r15:Int) (r16:List (S104)) (w:World) (hr0_3:Kd.C k89 w A0_3 l0_3.length l0_3) (hc0_3:l0_3.length≤c0_3) (hr0_14:Kd.C k92 w A0_14 l0_14.length l0_14) (hc0_14:l0_14.length≤c0_14) (h:ergolaw13_P_Part.f k a0_0 a0_1 a0_2 l0_3 a0_4 a0_5 a0_6 a0_7 a0_8 a0_9 a0_10 a0_11 a0_12 a0_13 l0_14=some (r1,r2,r3,r4,r5,r6,r7,r8,r9,r10,r11,r12,r13,r14,r15,r16)):
  Calls Tryz.prog 33 #[.agg #[.int .i64 a0_0,.int .i64 a0_1,.int .i64 a0_2,.slice A0_3 l0_3.length c0_3,.int .i64 a0_4,.int .i64 a0_5,.int .i64 a0_6,.int .i64 a0_7,.int .i64 a0_8,.int .i64 a0_9,.int .i64 a0_10,.int .i64 a0_11,.int .i64 a0_12,.int .i64 a0_13,.slice A0_14 l0_14.length c0_14]] w fun e w'=>∃v2_ v15_:Value,e= .returned (.agg #[.int .i64 r1,.string r2,v2_,.int .i64 r4,.int .i64 r5,.string r6,.int .i64 r7,.int .i64 r8,.string r9,.int .i64 r10,.string r11,.int .i64 r12,.string r13,.int .i64 r14,.int .i64 r15,v15_])∧Kd.R k98 98 w' w.heap.size (fun k_=>(w.heap.size≤k_)) v2_ r3∧Kd.N k104 104 w' w.heap.size (fun k_=>(w.heap.size≤k_)∧some k_≠(v2_:Value).ownBlock) v15_ r16∧Below w.heap.size w w':=by
 have hfd98:∀(z0:Int) (z1:ByteArray) (z2:Int) (w_:World),(Instr.field 98 (.agg #[.int .i64 z0,.string z1,.int .i64 z2]) 1).run Tryz.prog w_= .ok (.string z1) w_:=fun _ _ _ _=>by kernel_rfl
 have hu94:=Tryz.underlying94
 have hu106:=Tryz.underlying106
 have hu24:=Tryz.underlying24
 have hu89:=Tryz.underlying89
 have hu92:=Tryz.underlying92
 have HR0_3:=aK_ hr0_3
 have HC0_3:=aK_ hc0_3
 clear hr0_3 hc0_3
 have HR0_14:=aK_ hr0_14
 have HC0_14:=aK_ hc0_14
 clear hr0_14 hc0_14
 have HB:=aK_ (Below.refl w.heap.size w)
 have H:(if (wrap64 (Int.tmod (IntKind.u64.wrap (a0_0)) 6))=3 then ((ergolaw13_A_Atom.f k a0_2 l0_3).bind fun bt147=>(some (1,bt147.1,bt147.2,0,0,(⟨#[]⟩:ByteArray),0,0,(⟨#[]⟩:ByteArray),0,(⟨#[]⟩:ByteArray),0,(⟨#[]⟩:ByteArray),0,0,([]:List (S104))))) else (if (wrap64 (Int.tmod (IntKind.u64.wrap (a0_0)) 6))=4 then ((ergolaw13_T_Term.f a0_4 a0_5 a0_6).bind fun bt151=>((ergolaw13_T_Term.f a0_7 a0_8 a0_9).bind fun bt154=>(some (2,(⟨#[]⟩:ByteArray),([]:List (S98)),wrap64 (Int.tmod (IntKind.u64.wrap (a0_1)) 6),bt151.1,bt151.2.1,bt151.2.2,bt154.1,bt154.2.1,bt154.2.2,(⟨#[]⟩:ByteArray),0,(⟨#[]⟩:ByteArray),0,0,([]:List (S104)))))) else (if (wrap64 (Int.tmod (IntKind.u64.wrap (a0_0)) 6))=5 then ((ergolaw13_T_Term.f 0 a0_5 a0_6).bind fun bt158=>((ergolaw13_E_Expr.f k a0_10 a0_11 a0_12 a0_13 l0_14).bind fun bt161=>(some (3,(⟨#[]⟩:ByteArray),([]:List (S98)),0,0,(⟨#[]⟩:ByteArray),0,0,(⟨#[]⟩:ByteArray),0,bt158.2.1,bt161.1,bt161.2.1,bt161.2.2.1,bt161.2.2.2.1,bt161.2.2.2.2)))) else ((ergolaw13_A_Atom.f k a0_2 l0_3).bind fun bt168=>(some (0,bt168.1,bt168.2,0,0,(⟨#[]⟩:ByteArray),0,0,(⟨#[]⟩:ByteArray),0,(⟨#[]⟩:ByteArray),0,(⟨#[]⟩:ByteArray),0,0,([]:List (S104))))))))=some (r1,r2,r3,r4,r5,r6,r7,r8,r9,r10,r11,r12,r13,r14,r15,r16):=h
 clear h
 by_cases c2:(wrap64 (Int.tmod (IntKind.u64.wrap (a0_0)) 6))=3
 ·rw [if_pos c2] at H
  have c2b0:((wrap64 (Int.tmod (IntKind.u64.wrap (a0_0)) 6))==3)=true:=beq_iff_eq.mpr c2
  have c2b1:((wrap64 (Int.tmod (IntKind.u64.wrap (a0_0)) 6)) !=3)=false:=bne_eq_false_iff_eq.mpr c2
  clear c2
  replace H:=Option.bind_eq_some_iff.mp H
  obtain ⟨⟨t147,t148⟩,A30,H⟩:=H
  replace H:(some (1,t147,t148,0,0,(⟨#[]⟩:ByteArray),0,0,(⟨#[]⟩:ByteArray),0,(⟨#[]⟩:ByteArray),0,(⟨#[]⟩:ByteArray),0,0,([]:List (S104))))=some (r1,r2,r3,r4,r5,r6,r7,r8,r9,r10,r11,r12,r13,r14,r15,r16):=H
  have A3:=aK_ A30
  clear A30
  simp only [Option.some.injEq,Prod.mk.injEq] at H
  obtain ⟨rfl,rfl,rfl,rfl,rfl,rfl,rfl,rfl,rfl,rfl,rfl,rfl,rfl,rfl,rfl,rfl⟩:=H
  go_enter Tryz.func33,Tryz.ntmps33
  go_wp2_with (first|((with_reducible refine gate_dst (N:=1) rfl ?_);refine box_event ?hg (N:=1) ?hd (cs:= #[.int .i64 a0_0,.int .i64 a0_1,.int .i64 a0_2,.slice A0_3 l0_3.length c0_3,.int .i64 a0_4,.int .i64 a0_5,.int .i64 a0_6,.int .i64 a0_7,.int .i64 a0_8,.int .i64 a0_9,.int .i64 a0_10,.int .i64 a0_11,.int .i64 a0_12,.int .i64 a0_13,.slice A0_14 l0_14.length c0_14]) (t:=94) ?hr ?_;(case hd=>rfl);(case hg=>rfl);(case hr=>first|(go_simp;done)|(go_simp;rfl));intro gb145 hg w4 hbox hb;have n0_:=aK_ (lT_ (lB0_ HB.out) hb);have n1_:=aK_ (hbox);have n2_:=aK_ ((by rw [hg];exact (lZ_ (lB0_ HB.out)):w.heap.size≤gb145));have n3_:=aK_ ((by rw [hg];exact (lZ_ (lB0_ HB.out)):w.heap.size≤gb145));clear HB;have HB:=n0_;have BK145:=n1_;have GW145:=n2_;have GE145:=n3_;clear n0_ n1_ n2_ n3_;clear hb hbox hg)|((with_reducible refine gate_dst (N:=2) rfl ?_);refine box_event ?hg (N:=2) ?hd (cs:= #[.int .i64 0,.string (⟨#[]⟩:ByteArray),.slice none 0 0,.int .i64 0,.int .i64 0,.string (⟨#[]⟩:ByteArray),.int .i64 0,.int .i64 0,.string (⟨#[]⟩:ByteArray),.int .i64 0,.string (⟨#[]⟩:ByteArray),.int .i64 0,.string (⟨#[]⟩:ByteArray),.int .i64 0,.int .i64 0,.slice none 0 0]) (t:=106) ?hr ?_;(case hd=>rfl);(case hg=>rfl);(case hr=>first|(go_simp;done)|(go_simp;rfl));intro gb146 hg w5 hbox hb;have n0_:=aK_ (bB (bK_ BK145.out) hb);have n1_:=aK_ (lT_ (lB1_ HB.out GE145.out) hb);have n2_:=aK_ (hbox);have n3_:=aK_ ((by rw [hg];exact (lZ_ (lB1_ HB.out GE145.out)):w.heap.size≤gb146));have n4_:=aK_ ((by rw [hg];exact (lZ_ (lB1_ HB.out GE145.out)):w.heap.size≤gb146));have n5_:=aK_ ((by rw [hg];exact Nat.ne_of_lt (blk_lt (g:=gb145) (o:= .cells #[.int .i64 a0_0,.int .i64 a0_1,.int .i64 a0_2,.slice A0_3 l0_3.length c0_3,.int .i64 a0_4,.int .i64 a0_5,.int .i64 a0_6,.int .i64 a0_7,.int .i64 a0_8,.int .i64 a0_9,.int .i64 a0_10,.int .i64 a0_11,.int .i64 a0_12,.int .i64 a0_13,.slice A0_14 l0_14.length c0_14] 94 (0,0)) (bK_ BK145.out)):gb145≠gb146));have n6_:=aK_ ((by rw [hg];exact Nat.ne_of_gt (blk_lt (g:=gb145) (o:= .cells #[.int .i64 a0_0,.int .i64 a0_1,.int .i64 a0_2,.slice A0_3 l0_3.length c0_3,.int .i64 a0_4,.int .i64 a0_5,.int .i64 a0_6,.int .i64 a0_7,.int .i64 a0_8,.int .i64 a0_9,.int .i64 a0_10,.int .i64 a0_11,.int .i64 a0_12,.int .i64 a0_13,.slice A0_14 l0_14.length c0_14] 94 (0,0)) (bK_ BK145.out)):gb146≠gb145));clear BK145;clear HB;have BK145:=n0_;have HB:=n1_;have BK146:=n2_;have GW146:=n3_;have GE146:=n4_;have NB145_146:=n5_;have NB146_145:=n6_;clear n0_ n1_ n2_ n3_ n4_ n5_ n6_;clear hb hbox hg;have hnb6:=NB145_146.out;have hnc6:=NB146_145.out;obtain ⟨⟨hcz7_0,hcz7_1,hcz7_2,hcz7_3,hcz7_4,hcz7_5,hcz7_6,hcz7_7,hcz7_8,hcz7_9,hcz7_10,hcz7_11,hcz7_12,hcz7_13,hcz7_14⟩,hfz7_0,hfz7_1,hfz7_2,hfz7_3,hfz7_4,hfz7_5,hfz7_6,hfz7_7,hfz7_8,hfz7_9,hfz7_10,hfz7_11,hfz7_12,hfz7_13,hfz7_14⟩:=c15_ BK145.out)|((with_reducible refine gate_callee (f:=23) rfl ?_);refine goesL_ (some 13) rfl rfl Tryz.func23 (by kernel_rfl) rfl #[.agg #[.int .i64 a0_2,.slice A0_3 l0_3.length c0_3]] rfl (by (try simp only [List.map_toArray,List.map_cons,List.map_nil]);first|done|rfl|(simp only [List.length_drop,List.length_take];rfl)) ?_;(with_reducible refine (ergolaw13_A_Atom.calls k a0_2 _ _ l0_3 t147 t148 _ ?side1 ?side2 A3.out).mono ?_);(case side1=>repeat (first|exact (Kd.C_below HR0_3.out HB.out)|(with_reducible refine Kd.C_alloc ?_ _)|(with_reducible refine Kd.C_drewN ?_ _)|(with_reducible refine Kd.C_drew ?_)));(case side2=>exact HC0_3.out);rintro e w8 ⟨v149,rfl,ho0,hb⟩;refine ⟨_,rfl,?_⟩;have n0_:=aK_ (Kd.R_lower (Kd.R_newM (M:=fun k_=>(w.heap.size≤k_)) ho0 (lZ_ (lB2_ HB.out GE145.out GE146.out)) (fun k_ h_=>h_)) (lZ_ (lB2_ HB.out GE145.out GE146.out)));have n1_:=aK_ (bB (bK_ BK145.out) hb);have n2_:=aK_ (bB (bK_ BK146.out) hb);have n3_:=aK_ (lT_ (lB2_ HB.out GE145.out GE146.out) hb);clear BK145;clear BK146;clear HB;have HO150:=n0_;have BK145:=n1_;have BK146:=n2_;have HB:=n3_;clear n0_ n1_ n2_ n3_;(try clear hb);(try clear hb2);(try clear hk);(try clear hi);(try clear ho0);obtain ⟨Ao9,co9,eo9⟩:=Kd.R_slice HO150.out;subst eo9;obtain ⟨⟨hcz10_0,hcz10_1,hcz10_2,hcz10_3,hcz10_4,hcz10_5,hcz10_6,hcz10_7,hcz10_8,hcz10_9,hcz10_10,hcz10_11,hcz10_12,hcz10_13,hcz10_14,hcz10_15⟩,hfz10_0,hfz10_1,hfz10_2,hfz10_3,hfz10_4,hfz10_5,hfz10_6,hfz10_7,hfz10_8,hfz10_9,hfz10_10,hfz10_11,hfz10_12,hfz10_13,hfz10_14,hfz10_15⟩:=c16_ BK146.out))
  refine bodyPost_ret (results_cell_row rfl _ _ gb146 106 #[.int .i64 1,.string t147,.slice Ao9 t148.length co9,.int .i64 0,.int .i64 0,.string (⟨#[]⟩:ByteArray),.int .i64 0,.int .i64 0,.string (⟨#[]⟩:ByteArray),.int .i64 0,.string (⟨#[]⟩:ByteArray),.int .i64 0,.string (⟨#[]⟩:ByteArray),.int .i64 0,.int .i64 0,.slice none 0 0] (0,0) _ rfl ((by apply eC_;(with_reducible repeat (first|refine bDN ?_ _|refine bD ?_|refine bA ?_ _));apply b2_;(with_reducible repeat (first|refine bDN ?_ _|refine bD ?_|refine bA ?_ _));apply b2_;(with_reducible repeat (first|refine bDN ?_ _|refine bD ?_|refine bA ?_ _));apply b2_;(with_reducible repeat (first|refine bDN ?_ _|refine bD ?_|refine bA ?_ _));apply b2_;(with_reducible repeat (first|refine bDN ?_ _|refine bD ?_|refine bA ?_ _));apply b2_;(with_reducible repeat (first|refine bDN ?_ _|refine bD ?_|refine bA ?_ _));apply b2_;(with_reducible repeat (first|refine bDN ?_ _|refine bD ?_|refine bA ?_ _));apply b2_;(with_reducible repeat (first|refine bDN ?_ _|refine bD ?_|refine bA ?_ _));apply b2_;(with_reducible repeat (first|refine bDN ?_ _|refine bD ?_|refine bA ?_ _));apply b2_;(with_reducible repeat (first|refine bDN ?_ _|refine bD ?_|refine bA ?_ _));apply b2_;(with_reducible repeat (first|refine bDN ?_ _|refine bD ?_|refine bA ?_ _));apply b2_;(with_reducible repeat (first|refine bDN ?_ _|refine bD ?_|refine bA ?_ _));apply b2_;(with_reducible repeat (first|refine bDN ?_ _|refine bD ?_|refine bA ?_ _));apply b2_;(with_reducible repeat (first|refine bDN ?_ _|refine bD ?_|refine bA ?_ _));apply b2_;(with_reducible repeat (first|refine bDN ?_ _|refine bD ?_|refine bA ?_ _));apply b2_;(with_reducible repeat (first|refine bDN ?_ _|refine bD ?_|refine bA ?_ _));apply b2_;(with_reducible repeat (first|refine bDN ?_ _|refine bD ?_|refine bA ?_ _));exact BK146.out;kernel_rfl)) Tryz.underlying106 rfl (by kernel_rfl)) rfl ?_
  exact ⟨_,_,by first|rfl|(simp [errW_none,errW_some] <;>rfl)|(simp [*,errW_none,errW_some] <;>rfl),by (with_reducible repeat (first|apply Kd.R_alloc|apply Kd.R_drewN|apply Kd.R_drew));exact Kd.R_mono (Kd.R_far (p:=⟨gb146,15,none⟩) (Kd.R_far (p:=⟨gb146,14,none⟩) (Kd.R_far (p:=⟨gb146,13,none⟩) (Kd.R_far (p:=⟨gb146,12,none⟩) (Kd.R_far (p:=⟨gb146,11,none⟩) (Kd.R_far (p:=⟨gb146,10,none⟩) (Kd.R_far (p:=⟨gb146,9,none⟩) (Kd.R_far (p:=⟨gb146,8,none⟩) (Kd.R_far (p:=⟨gb146,7,none⟩) (Kd.R_far (p:=⟨gb146,6,none⟩) (Kd.R_far (p:=⟨gb146,5,none⟩) (Kd.R_far (p:=⟨gb146,4,none⟩) (Kd.R_far (p:=⟨gb146,3,none⟩) (Kd.R_far (p:=⟨gb146,2,none⟩) (Kd.R_far (p:=⟨gb146,1,none⟩) (Kd.R_far (p:=⟨gb146,0,none⟩) (Kd.R_types HO150.out BK146.out (by decide)) (fun _ hk=>hk.2) (.int .i64 1)) (fun _ hk=>hk.2) (.string t147)) (fun _ hk=>hk.2) (.slice Ao9 t148.length co9)) (fun _ hk=>hk.2) (.int .i64 0)) (fun _ hk=>hk.2) (.int .i64 0)) (fun _ hk=>hk.2) (.string (⟨#[]⟩:ByteArray))) (fun _ hk=>hk.2) (.int .i64 0)) (fun _ hk=>hk.2) (.int .i64 0)) (fun _ hk=>hk.2) (.string (⟨#[]⟩:ByteArray))) (fun _ hk=>hk.2) (.int .i64 0)) (fun _ hk=>hk.2) (.string (⟨#[]⟩:ByteArray))) (fun _ hk=>hk.2) (.int .i64 0)) (fun _ hk=>hk.2) (.string (⟨#[]⟩:ByteArray))) (fun _ hk=>hk.2) (.int .i64 0)) (fun _ hk=>hk.2) (.int .i64 0)) (fun _ hk=>hk.2) (.slice none 0 0)) (fun _ hk=>hk.1.1),by first|exact Kd.R_nil _ _ _ _ _|exact Kd.N_nil _ _ _ _ _|exact Kd.V_nil _ _ _ _ _|exact Kd.Q_nil _ _ _ _ _|exact Kd.S_nil _ _ _ _ _,(lB2_ HB.out GE145.out GE146.out)⟩
 ·rw [if_neg c2] at H
  have c2b0:((wrap64 (Int.tmod (IntKind.u64.wrap (a0_0)) 6))==3)=false:=beq_eq_false_iff_ne.mpr c2
  have c2b1:((wrap64 (Int.tmod (IntKind.u64.wrap (a0_0)) 6)) !=3)=true:=bne_iff_ne.mpr c2
  by_cases c11:(wrap64 (Int.tmod (IntKind.u64.wrap (a0_0)) 6))=4
  ·rw [if_pos c11] at H
   have c11b0:((wrap64 (Int.tmod (IntKind.u64.wrap (a0_0)) 6))==4)=true:=beq_iff_eq.mpr c11
   have c11b1:((wrap64 (Int.tmod (IntKind.u64.wrap (a0_0)) 6)) !=4)=false:=bne_eq_false_iff_eq.mpr c11
   clear c11
   replace H:=Option.bind_eq_some_iff.mp H
   obtain ⟨⟨t151,t152,t153⟩,A120,H⟩:=H
   replace H:((ergolaw13_T_Term.f a0_7 a0_8 a0_9).bind fun bt154=>(some (2,(⟨#[]⟩:ByteArray),([]:List (S98)),wrap64 (Int.tmod (IntKind.u64.wrap (a0_1)) 6),t151,t152,t153,bt154.1,bt154.2.1,bt154.2.2,(⟨#[]⟩:ByteArray),0,(⟨#[]⟩:ByteArray),0,0,([]:List (S104)))))=some (r1,r2,r3,r4,r5,r6,r7,r8,r9,r10,r11,r12,r13,r14,r15,r16):=H
   have A12:=aK_ A120
   clear A120
   replace H:=Option.bind_eq_some_iff.mp H
   obtain ⟨⟨t154,t155,t156⟩,A130,H⟩:=H
   replace H:(some (2,(⟨#[]⟩:ByteArray),([]:List (S98)),wrap64 (Int.tmod (IntKind.u64.wrap (a0_1)) 6),t151,t152,t153,t154,t155,t156,(⟨#[]⟩:ByteArray),0,(⟨#[]⟩:ByteArray),0,0,([]:List (S104))))=some (r1,r2,r3,r4,r5,r6,r7,r8,r9,r10,r11,r12,r13,r14,r15,r16):=H
   have A13:=aK_ A130
   clear A130
   simp only [Option.some.injEq,Prod.mk.injEq] at H
   obtain ⟨rfl,rfl,rfl,rfl,rfl,rfl,rfl,rfl,rfl,rfl,rfl,rfl,rfl,rfl,rfl,rfl⟩:=H
   go_enter Tryz.func33,Tryz.ntmps33
   try go_wp2_with (first|((with_reducible refine gate_dst (N:=1) rfl ?_);refine box_event ?hg (N:=1) ?hd (cs:= #[.int .i64 a0_0,.int .i64 a0_1,.int .i64 a0_2,.slice A0_3 l0_3.length c0_3,.int .i64 a0_4,.int .i64 a0_5,.int .i64 a0_6,.int .i64 a0_7,.int .i64 a0_8,.int .i64 a0_9,.int .i64 a0_10,.int .i64 a0_11,.int .i64 a0_12,.int .i64 a0_13,.slice A0_14 l0_14.length c0_14]) (t:=94) ?hr ?_;(case hd=>rfl);(case hg=>rfl);(case hr=>first|(go_simp;done)|(go_simp;rfl));intro gb145 hg w14 hbox hb;have n0_:=aK_ (lT_ (lB0_ HB.out) hb);have n1_:=aK_ (hbox);have n2_:=aK_ ((by rw [hg];exact (lZ_ (lB0_ HB.out)):w.heap.size≤gb145));have n3_:=aK_ ((by rw [hg];exact (lZ_ (lB0_ HB.out)):w.heap.size≤gb145));clear HB;have HB:=n0_;have BK145:=n1_;have GW145:=n2_;have GE145:=n3_;clear n0_ n1_ n2_ n3_;clear hb hbox hg)|((with_reducible refine gate_dst (N:=2) rfl ?_);refine box_event ?hg (N:=2) ?hd (cs:= #[.int .i64 0,.string (⟨#[]⟩:ByteArray),.slice none 0 0,.int .i64 0,.int .i64 0,.string (⟨#[]⟩:ByteArray),.int .i64 0,.int .i64 0,.string (⟨#[]⟩:ByteArray),.int .i64 0,.string (⟨#[]⟩:ByteArray),.int .i64 0,.string (⟨#[]⟩:ByteArray),.int .i64 0,.int .i64 0,.slice none 0 0]) (t:=106) ?hr ?_;(case hd=>rfl);(case hg=>rfl);(case hr=>first|(go_simp;done)|(go_simp;rfl));intro gb146 hg w15 hbox hb;have n0_:=aK_ (bB (bK_ BK145.out) hb);have n1_:=aK_ (lT_ (lB1_ HB.out GE145.out) hb);have n2_:=aK_ (hbox);have n3_:=aK_ ((by rw [hg];exact (lZ_ (lB1_ HB.out GE145.out)):w.heap.size≤gb146));have n4_:=aK_ ((by rw [hg];exact (lZ_ (lB1_ HB.out GE145.out)):w.heap.size≤gb146));have n5_:=aK_ ((by rw [hg];exact Nat.ne_of_lt (blk_lt (g:=gb145) (o:= .cells #[.int .i64 a0_0,.int .i64 a0_1,.int .i64 a0_2,.slice A0_3 l0_3.length c0_3,.int .i64 a0_4,.int .i64 a0_5,.int .i64 a0_6,.int .i64 a0_7,.int .i64 a0_8,.int .i64 a0_9,.int .i64 a0_10,.int .i64 a0_11,.int .i64 a0_12,.int .i64 a0_13,.slice A0_14 l0_14.length c0_14] 94 (0,0)) (bK_ BK145.out)):gb145≠gb146));have n6_:=aK_ ((by rw [hg];exact Nat.ne_of_gt (blk_lt (g:=gb145) (o:= .cells #[.int .i64 a0_0,.int .i64 a0_1,.int .i64 a0_2,.slice A0_3 l0_3.length c0_3,.int .i64 a0_4,.int .i64 a0_5,.int .i64 a0_6,.int .i64 a0_7,.int .i64 a0_8,.int .i64 a0_9,.int .i64 a0_10,.int .i64 a0_11,.int .i64 a0_12,.int .i64 a0_13,.slice A0_14 l0_14.length c0_14] 94 (0,0)) (bK_ BK145.out)):gb146≠gb145));clear BK145;clear HB;have BK145:=n0_;have HB:=n1_;have BK146:=n2_;have GW146:=n3_;have GE146:=n4_;have NB145_146:=n5_;have NB146_145:=n6_;clear n0_ n1_ n2_ n3_ n4_ n5_ n6_;clear hb hbox hg;have hnb16:=NB145_146.out;have hnc16:=NB146_145.out;obtain ⟨⟨hcz17_0,hcz17_1,hcz17_2,hcz17_3,hcz17_4,hcz17_5,hcz17_6,hcz17_7,hcz17_8,hcz17_9,hcz17_10,hcz17_11,hcz17_12,hcz17_13,hcz17_14⟩,hfz17_0,hfz17_1,hfz17_2,hfz17_3,hfz17_4,hfz17_5,hfz17_6,hfz17_7,hfz17_8,hfz17_9,hfz17_10,hfz17_11,hfz17_12,hfz17_13,hfz17_14⟩:=c15_ BK145.out))
   have n0_:=aK_ (bD BK145.out)
   have n1_:=aK_ (bD BK146.out)
   have n2_:=aK_ (lD_ HB.out)
   clear BK145
   clear BK146
   clear HB
   have BK145:=n0_
   have BK146:=n1_
   have HB:=n2_
   clear n0_ n1_ n2_
   refine start_ (n:=13) (S:=fun w'=>w'.cell? ⟨gb145,0,none⟩=some (.int .i64 a0_0)∧w'.cell? ⟨gb145,1,none⟩=some (.int .i64 a0_1)∧w'.cell? ⟨gb145,2,none⟩=some (.int .i64 a0_2)∧w'.cell? ⟨gb145,3,none⟩=some (.slice A0_3 l0_3.length c0_3)∧w'.cell? ⟨gb145,4,none⟩=some (.int .i64 a0_4)∧w'.cell? ⟨gb145,5,none⟩=some (.int .i64 a0_5)∧w'.cell? ⟨gb145,6,none⟩=some (.int .i64 a0_6)∧w'.cell? ⟨gb145,7,none⟩=some (.int .i64 a0_7)∧w'.cell? ⟨gb145,8,none⟩=some (.int .i64 a0_8)∧w'.cell? ⟨gb145,9,none⟩=some (.int .i64 a0_9)∧w'.cell? ⟨gb145,10,none⟩=some (.int .i64 a0_10)∧w'.cell? ⟨gb145,11,none⟩=some (.int .i64 a0_11)∧w'.cell? ⟨gb145,12,none⟩=some (.int .i64 a0_12)∧w'.cell? ⟨gb145,13,none⟩=some (.int .i64 a0_13)∧w'.cell? ⟨gb145,14,none⟩=some (.slice A0_14 l0_14.length c0_14)) (ds:=[]) #[false,false,false,false,false,false,false,false,false,false,false,false,false] (by kernel_rfl) rfl rfl ⟨(bC BK145.out 0).trans rfl,(bC BK145.out 1).trans rfl,(bC BK145.out 2).trans rfl,(bC BK145.out 3).trans rfl,(bC BK145.out 4).trans rfl,(bC BK145.out 5).trans rfl,(bC BK145.out 6).trans rfl,(bC BK145.out 7).trans rfl,(bC BK145.out 8).trans rfl,(bC BK145.out 9).trans rfl,(bC BK145.out 10).trans rfl,(bC BK145.out 11).trans rfl,(bC BK145.out 12).trans rfl,(bC BK145.out 13).trans rfl,(bC BK145.out 14).trans rfl⟩ (fun hHeld=> ?_);refine with_tabW ergolaw13_P_Part.tab5 ergolaw13_P_Part.bits5 (fun HT_ HW_=> ?_)
   generalize w15.drew=w18 at BK145 BK146 HB hHeld ⊢
   refine pure_ (i:=0) (N:=some 17) (v:= ?_) (a':= ?_) #[true,false,false,false,false,false,false,false,false,false,false,false,false] rfl rfl (any_of HT_.out (by kernel_rfl)) (fun _ _ _ h=>h) (Or.inl ⟨by rfl,?_⟩) ?_ ?_
   rotate_left
   ·intro w'
    go_simp
    with_reducible rfl
   rotate_left
   ·simp only [Act.put, sA_, sZ_, sS_, i64_w, i32_w]
    rfl
   refine pure_ (i:=5) (N:=some 22) (v:= ?_) (a':= ?_) #[true,false,false,false,false,true,false,false,false,false,false,false,false] rfl rfl (any_of HT_.out (by kernel_rfl)) (fun _ _ _ h=>h) (Or.inl ⟨by rfl,?_⟩) ?_ ?_
   rotate_left
   ·intro w'
    go_simp
    with_reducible rfl
   rotate_left
   ·simp only [Act.put, sA_, sZ_, sS_, i64_w, i32_w]
    rfl
   refine pure_ (i:=8) (N:=some 25) (v:= ?_) (a':= ?_) #[true,false,false,false,false,true,false,false,true,false,false,false,false] rfl rfl (any_of HT_.out (by kernel_rfl)) (fun _ _ _ h=>h) (Or.inl ⟨by rfl,?_⟩) ?_ ?_
   rotate_left
   ·intro w'
    go_simp
    with_reducible rfl
   rotate_left
   ·simp only [Act.put, sA_, sZ_, sS_, i64_w, i32_w]
    rfl
   refine take_ (i:=1) (N:=some 18) (v:= ?_) (a':= ?_) #[true,true,false,false,false,true,false,false,true,false,false,false,false] rfl rfl (take_ofW HT_.out HW_.out (by kernel_rfl)) (fun _ _ _ h=>h) (Or.inl ⟨by rfl,?_⟩) hHeld ?_ ?_
   rotate_left
   ·rintro w' ⟨s0, s1, s2, s3, s4, s5, s6, s7, s8, s9, s10, s11, s12, s13, s14⟩
    go_simp
    with_reducible rfl
   rotate_left
   ·simp only [Act.put, sA_, sZ_, sS_, i64_w, i32_w]
    rfl
   refine pure_ (i:=2) (N:=some 19) (v:= ?_) (a':= ?_) #[true,true,true,false,false,true,false,false,true,false,false,false,false] rfl rfl (any_of HT_.out (by kernel_rfl)) (fun _ _ _ h=>h) (Or.inl ⟨by rfl,?_⟩) ?_ ?_
   rotate_left
   ·intro w'
    go_simp
    with_reducible rfl
   rotate_left
   ·simp only [Act.put, sA_, sZ_, sS_, i64_w, i32_w]
    rfl
   refine pure_ (i:=3) (N:=some 20) (v:= ?_) (a':= ?_) #[true,true,true,true,false,true,false,false,true,false,false,false,false] rfl rfl (any_of HT_.out (by kernel_rfl)) (fun _ _ _ h=>h) (Or.inl ⟨by rfl,?_⟩) ?_ ?_
   rotate_left
   ·intro w'
    go_simp
    with_reducible rfl
   rotate_left
   ·simp only [Act.put, sA_, sZ_, sS_, i64_w, i32_w]
    rfl
   refine pure_ (i:=4) (N:=some 21) (v:= ?_) (a':= ?_) #[true,true,true,true,true,true,false,false,true,false,false,false,false] rfl rfl (any_of HT_.out (by kernel_rfl)) (fun _ _ _ h=>h) (Or.inl ⟨by rfl,?_⟩) ?_ ?_
   rotate_left
   ·intro w'
    go_simp
    with_reducible rfl
   rotate_left
   ·simp only [Act.put, sA_, sZ_, sS_, i64_w, i32_w]
    rfl
   refine take_ (i:=6) (N:=some 23) (v:= ?_) (a':= ?_) #[true,true,true,true,true,true,true,false,true,false,false,false,false] rfl rfl (take_ofW HT_.out HW_.out (by kernel_rfl)) (fun _ _ _ h=>h) (Or.inl ⟨by rfl,?_⟩) hHeld ?_ ?_
   rotate_left
   ·rintro w' ⟨s0, s1, s2, s3, s4, s5, s6, s7, s8, s9, s10, s11, s12, s13, s14⟩
    go_simp
    with_reducible rfl
   rotate_left
   ·simp only [Act.put, sA_, sZ_, sS_, i64_w, i32_w]
    rfl
   refine take_ (i:=9) (N:=some 26) (v:= ?_) (a':= ?_) #[true,true,true,true,true,true,true,false,true,true,false,false,false] rfl rfl (take_ofW HT_.out HW_.out (by kernel_rfl)) (fun _ _ _ h=>h) (Or.inl ⟨by rfl,?_⟩) hHeld ?_ ?_
   rotate_left
   ·rintro w' ⟨s0, s1, s2, s3, s4, s5, s6, s7, s8, s9, s10, s11, s12, s13, s14⟩
    go_simp
    with_reducible rfl
   rotate_left
   ·simp only [Act.put, sA_, sZ_, sS_, i64_w, i32_w]
    rfl
   refine one_ (i:=7) (N:=some 24) #[true,true,true,true,true,true,true,true,true,true,false,false,false] rfl rfl (one_of HT_.out (by kernel_rfl)) (by decide) (fun K hK=> ?_)
   refine goes_ Tryz.func56 (by kernel_rfl) rfl #[.agg #[.int .i64 a0_4,.int .i64 a0_5,.int .i64 a0_6]] (by rfl) rfl rfl (by (try simp only [List.map_toArray,List.map_cons,List.map_nil]);first|done|rfl|(simp only [List.length_drop,List.length_take];rfl)) ?_
   with_reducible refine (ergolaw13_T_Term.calls a0_4 a0_5 a0_6 t151 t152 t153 _ A12.out).mono ?_
   rintro e w19 ⟨rfl,hb⟩
   refine ⟨_,rfl,?_⟩
   have n0_:=aK_ (bB (bK_ BK145.out) hb)
   have n1_:=aK_ (bB (bK_ BK146.out) hb)
   have n2_:=aK_ (lT_ (lB2_ HB.out GE145.out GE146.out) hb)
   clear BK145
   clear BK146
   clear HB
   have BK145:=n0_
   have BK146:=n1_
   have HB:=n2_
   clear n0_ n1_ n2_
   (try clear hb)
   (try clear hb2)
   (try clear hk)
   (try clear hi)
   refine hK.out _ _ ⟨(bC BK145.out 0).trans rfl,(bC BK145.out 1).trans rfl,(bC BK145.out 2).trans rfl,(bC BK145.out 3).trans rfl,(bC BK145.out 4).trans rfl,(bC BK145.out 5).trans rfl,(bC BK145.out 6).trans rfl,(bC BK145.out 7).trans rfl,(bC BK145.out 8).trans rfl,(bC BK145.out 9).trans rfl,(bC BK145.out 10).trans rfl,(bC BK145.out 11).trans rfl,(bC BK145.out 12).trans rfl,(bC BK145.out 13).trans rfl,(bC BK145.out 14).trans rfl⟩ (fun hHeld=> ?_)
   clear hK K
   refine norm_ (a':= ?_) ?_ ?_
   rotate_left
   ·show Act.put _ (some 24) _ = _
    simp only [Act.put,sA_,sZ_,sS_,i64_w,i32_w]
    rfl
   refine one_ (i:=10) (N:=some 27) #[true,true,true,true,true,true,true,true,true,true,true,false,false] rfl rfl (one_of HT_.out (by kernel_rfl)) (by decide) (fun K hK=> ?_)
   refine goes_ Tryz.func56 (by kernel_rfl) rfl #[.agg #[.int .i64 a0_7,.int .i64 a0_8,.int .i64 a0_9]] (by rfl) rfl rfl (by (try simp only [List.map_toArray,List.map_cons,List.map_nil]);first|done|rfl|(simp only [List.length_drop,List.length_take];rfl)) ?_
   with_reducible refine (ergolaw13_T_Term.calls a0_7 a0_8 a0_9 t154 t155 t156 _ A13.out).mono ?_
   rintro e w20 ⟨rfl,hb⟩
   refine ⟨_,rfl,?_⟩
   have n0_:=aK_ (bB (bK_ BK145.out) hb)
   have n1_:=aK_ (bB (bK_ BK146.out) hb)
   have n2_:=aK_ (lT_ (lB2_ HB.out GE145.out GE146.out) hb)
   clear BK145
   clear BK146
   clear HB
   have BK145:=n0_
   have BK146:=n1_
   have HB:=n2_
   clear n0_ n1_ n2_
   (try clear hb)
   (try clear hb2)
   (try clear hk)
   (try clear hi)
   refine hK.out _ _ ⟨(bC BK145.out 0).trans rfl,(bC BK145.out 1).trans rfl,(bC BK145.out 2).trans rfl,(bC BK145.out 3).trans rfl,(bC BK145.out 4).trans rfl,(bC BK145.out 5).trans rfl,(bC BK145.out 6).trans rfl,(bC BK145.out 7).trans rfl,(bC BK145.out 8).trans rfl,(bC BK145.out 9).trans rfl,(bC BK145.out 10).trans rfl,(bC BK145.out 11).trans rfl,(bC BK145.out 12).trans rfl,(bC BK145.out 13).trans rfl,(bC BK145.out 14).trans rfl⟩ (fun hHeld=> ?_)
   clear hK K
   refine norm_ (a':= ?_) ?_ ?_
   rotate_left
   ·show Act.put _ (some 27) _ = _
    simp only [Act.put,sA_,sZ_,sS_,i64_w,i32_w]
    rfl
   refine pure_ (i:=11) (N:=some 28) (v:= ?_) (a':= ?_) #[true,true,true,true,true,true,true,true,true,true,true,true,false] rfl rfl (any_of HT_.out (by kernel_rfl)) (fun _ _ _ h=>h) (Or.inl ⟨by rfl,?_⟩) ?_ ?_
   rotate_left
   ·intro w'
    go_simp
    with_reducible rfl
   rotate_left
   ·simp only [Act.put, sA_, sZ_, sS_, i64_w, i32_w]
    rfl
   refine one_ (i:=12) (N:=none) #[true,true,true,true,true,true,true,true,true,true,true,true,true] rfl rfl (one_of HT_.out (by kernel_rfl)) (by decide) (fun K hK=> ?_)
   have hs21:w20.cell? ⟨gb146,0,none⟩=some (.int .i64 0):=(bC BK146.out 0).trans rfl
   have hfs21:=bF BK146.out 0
   have hns21_0:=NB145_146.out
   have hms21_0:=NB146_145.out
   have hs22:w20.cell? ⟨gb146,1,none⟩=some (.string (⟨#[]⟩:ByteArray)):=(bC BK146.out 1).trans rfl
   have hfs22:=bF BK146.out 1
   have hns22_0:=NB145_146.out
   have hms22_0:=NB146_145.out
   have hs23:w20.cell? ⟨gb146,2,none⟩=some (.slice none 0 0):=(bC BK146.out 2).trans rfl
   have hfs23:=bF BK146.out 2
   have hns23_0:=NB145_146.out
   have hms23_0:=NB146_145.out
   have hs24:w20.cell? ⟨gb146,3,none⟩=some (.int .i64 0):=(bC BK146.out 3).trans rfl
   have hfs24:=bF BK146.out 3
   have hns24_0:=NB145_146.out
   have hms24_0:=NB146_145.out
   have hs25:w20.cell? ⟨gb146,4,none⟩=some (.int .i64 0):=(bC BK146.out 4).trans rfl
   have hfs25:=bF BK146.out 4
   have hns25_0:=NB145_146.out
   have hms25_0:=NB146_145.out
   have hs26:w20.cell? ⟨gb146,5,none⟩=some (.string (⟨#[]⟩:ByteArray)):=(bC BK146.out 5).trans rfl
   have hfs26:=bF BK146.out 5
   have hns26_0:=NB145_146.out
   have hms26_0:=NB146_145.out
   have hs27:w20.cell? ⟨gb146,6,none⟩=some (.int .i64 0):=(bC BK146.out 6).trans rfl
   have hfs27:=bF BK146.out 6
   have hns27_0:=NB145_146.out
   have hms27_0:=NB146_145.out
   have hs28:w20.cell? ⟨gb146,7,none⟩=some (.int .i64 0):=(bC BK146.out 7).trans rfl
   have hfs28:=bF BK146.out 7
   have hns28_0:=NB145_146.out
   have hms28_0:=NB146_145.out
   have hs29:w20.cell? ⟨gb146,8,none⟩=some (.string (⟨#[]⟩:ByteArray)):=(bC BK146.out 8).trans rfl
   have hfs29:=bF BK146.out 8
   have hns29_0:=NB145_146.out
   have hms29_0:=NB146_145.out
   have hs30:w20.cell? ⟨gb146,9,none⟩=some (.int .i64 0):=(bC BK146.out 9).trans rfl
   have hfs30:=bF BK146.out 9
   have hns30_0:=NB145_146.out
   have hms30_0:=NB146_145.out
   have hs31:w20.cell? ⟨gb146,10,none⟩=some (.string (⟨#[]⟩:ByteArray)):=(bC BK146.out 10).trans rfl
   have hfs31:=bF BK146.out 10
   have hns31_0:=NB145_146.out
   have hms31_0:=NB146_145.out
   have hs32:w20.cell? ⟨gb146,11,none⟩=some (.int .i64 0):=(bC BK146.out 11).trans rfl
   have hfs32:=bF BK146.out 11
   have hns32_0:=NB145_146.out
   have hms32_0:=NB146_145.out
   have hs33:w20.cell? ⟨gb146,12,none⟩=some (.string (⟨#[]⟩:ByteArray)):=(bC BK146.out 12).trans rfl
   have hfs33:=bF BK146.out 12
   have hns33_0:=NB145_146.out
   have hms33_0:=NB146_145.out
   have hs34:w20.cell? ⟨gb146,13,none⟩=some (.int .i64 0):=(bC BK146.out 13).trans rfl
   have hfs34:=bF BK146.out 13
   have hns34_0:=NB145_146.out
   have hms34_0:=NB146_145.out
   have hs35:w20.cell? ⟨gb146,14,none⟩=some (.int .i64 0):=(bC BK146.out 14).trans rfl
   have hfs35:=bF BK146.out 14
   have hns35_0:=NB145_146.out
   have hms35_0:=NB146_145.out
   have hs36:w20.cell? ⟨gb146,15,none⟩=some (.slice none 0 0):=(bC BK146.out 15).trans rfl
   have hfs36:=bF BK146.out 15
   have hns36_0:=NB145_146.out
   have hms36_0:=NB146_145.out
   refine skip_ (w1:= ?_) (by rfl) rfl ?_ ?_
   rotate_left
   ·go_simp
    rfl
   refine hK.out _ _ ⟨(q16_ NB145_146.out (hHeld.1)),(q16_ NB145_146.out (hHeld.2.1)),(q16_ NB145_146.out (hHeld.2.2.1)),(q16_ NB145_146.out (hHeld.2.2.2.1)),(q16_ NB145_146.out (hHeld.2.2.2.2.1)),(q16_ NB145_146.out (hHeld.2.2.2.2.2.1)),(q16_ NB145_146.out (hHeld.2.2.2.2.2.2.1)),(q16_ NB145_146.out (hHeld.2.2.2.2.2.2.2.1)),(q16_ NB145_146.out (hHeld.2.2.2.2.2.2.2.2.1)),(q16_ NB145_146.out (hHeld.2.2.2.2.2.2.2.2.2.1)),(q16_ NB145_146.out (hHeld.2.2.2.2.2.2.2.2.2.2.1)),(q16_ NB145_146.out (hHeld.2.2.2.2.2.2.2.2.2.2.2.1)),(q16_ NB145_146.out (hHeld.2.2.2.2.2.2.2.2.2.2.2.2.1)),(q16_ NB145_146.out (hHeld.2.2.2.2.2.2.2.2.2.2.2.2.2.1)),(q16_ NB145_146.out (hHeld.2.2.2.2.2.2.2.2.2.2.2.2.2.2))⟩ (fun hHeld=> ?_)
   clear hK K
   refine done_ (done_of HT_.out (by kernel_rfl)) ?_
   try go_wp2
   refine bodyPost_ret (results_cell_row rfl _ _ gb146 106 #[.int .i64 2,.string (⟨#[]⟩:ByteArray),.slice none 0 0,.int .i64 (wrap64 (Int.tmod (IntKind.u64.wrap (a0_1)) 6)),.int .i64 t151,.string t152,.int .i64 t153,.int .i64 t154,.string t155,.int .i64 t156,.string (⟨#[]⟩:ByteArray),.int .i64 0,.string (⟨#[]⟩:ByteArray),.int .i64 0,.int .i64 0,.slice none 0 0] (0,0) _ rfl ((by apply eC_;(with_reducible repeat (first|refine bDN ?_ _|refine bD ?_|refine bA ?_ _));apply b2_;(with_reducible repeat (first|refine bDN ?_ _|refine bD ?_|refine bA ?_ _));apply b2_;(with_reducible repeat (first|refine bDN ?_ _|refine bD ?_|refine bA ?_ _));apply b2_;(with_reducible repeat (first|refine bDN ?_ _|refine bD ?_|refine bA ?_ _));apply b2_;(with_reducible repeat (first|refine bDN ?_ _|refine bD ?_|refine bA ?_ _));apply b2_;(with_reducible repeat (first|refine bDN ?_ _|refine bD ?_|refine bA ?_ _));apply b2_;(with_reducible repeat (first|refine bDN ?_ _|refine bD ?_|refine bA ?_ _));apply b2_;(with_reducible repeat (first|refine bDN ?_ _|refine bD ?_|refine bA ?_ _));apply b2_;(with_reducible repeat (first|refine bDN ?_ _|refine bD ?_|refine bA ?_ _));apply b2_;(with_reducible repeat (first|refine bDN ?_ _|refine bD ?_|refine bA ?_ _));apply b2_;(with_reducible repeat (first|refine bDN ?_ _|refine bD ?_|refine bA ?_ _));apply b2_;(with_reducible repeat (first|refine bDN ?_ _|refine bD ?_|refine bA ?_ _));apply b2_;(with_reducible repeat (first|refine bDN ?_ _|refine bD ?_|refine bA ?_ _));apply b2_;(with_reducible repeat (first|refine bDN ?_ _|refine bD ?_|refine bA ?_ _));apply b2_;(with_reducible repeat (first|refine bDN ?_ _|refine bD ?_|refine bA ?_ _));apply b2_;(with_reducible repeat (first|refine bDN ?_ _|refine bD ?_|refine bA ?_ _));apply b2_;(with_reducible repeat (first|refine bDN ?_ _|refine bD ?_|refine bA ?_ _));exact BK146.out;kernel_rfl)) Tryz.underlying106 rfl (by kernel_rfl)) rfl ?_
   exact ⟨_,_,by first|rfl|(simp [errW_none,errW_some] <;>rfl)|(simp [*,errW_none,errW_some] <;>rfl),by first|exact Kd.R_nil _ _ _ _ _|exact Kd.N_nil _ _ _ _ _|exact Kd.V_nil _ _ _ _ _|exact Kd.Q_nil _ _ _ _ _|exact Kd.S_nil _ _ _ _ _,by first|exact Kd.R_nil _ _ _ _ _|exact Kd.N_nil _ _ _ _ _|exact Kd.V_nil _ _ _ _ _|exact Kd.Q_nil _ _ _ _ _|exact Kd.S_nil _ _ _ _ _,(lB2_ HB.out GE145.out GE146.out)⟩
  ·rw [if_neg c11] at H
   have c11b0:((wrap64 (Int.tmod (IntKind.u64.wrap (a0_0)) 6))==4)=false:=beq_eq_false_iff_ne.mpr c11
   have c11b1:((wrap64 (Int.tmod (IntKind.u64.wrap (a0_0)) 6)) !=4)=true:=bne_iff_ne.mpr c11
   by_cases c37:(wrap64 (Int.tmod (IntKind.u64.wrap (a0_0)) 6))=5
   ·rw [if_pos c37] at H
    have c37b0:((wrap64 (Int.tmod (IntKind.u64.wrap (a0_0)) 6))==5)=true:=beq_iff_eq.mpr c37
    have c37b1:((wrap64 (Int.tmod (IntKind.u64.wrap (a0_0)) 6)) !=5)=false:=bne_eq_false_iff_eq.mpr c37
    clear c37
    replace H:=Option.bind_eq_some_iff.mp H
    obtain ⟨⟨t158,t159,t160⟩,A380,H⟩:=H
    replace H:((ergolaw13_E_Expr.f k a0_10 a0_11 a0_12 a0_13 l0_14).bind fun bt161=>(some (3,(⟨#[]⟩:ByteArray),([]:List (S98)),0,0,(⟨#[]⟩:ByteArray),0,0,(⟨#[]⟩:ByteArray),0,t159,bt161.1,bt161.2.1,bt161.2.2.1,bt161.2.2.2.1,bt161.2.2.2.2)))=some (r1,r2,r3,r4,r5,r6,r7,r8,r9,r10,r11,r12,r13,r14,r15,r16):=H
    have A38:=aK_ A380
    clear A380
    replace H:=Option.bind_eq_some_iff.mp H
    obtain ⟨⟨t161,t162,t163,t164,t165⟩,A390,H⟩:=H
    replace H:(some (3,(⟨#[]⟩:ByteArray),([]:List (S98)),0,0,(⟨#[]⟩:ByteArray),0,0,(⟨#[]⟩:ByteArray),0,t159,t161,t162,t163,t164,t165))=some (r1,r2,r3,r4,r5,r6,r7,r8,r9,r10,r11,r12,r13,r14,r15,r16):=H
    have A39:=aK_ A390
    clear A390
    simp only [Option.some.injEq,Prod.mk.injEq] at H
    obtain ⟨rfl,rfl,rfl,rfl,rfl,rfl,rfl,rfl,rfl,rfl,rfl,rfl,rfl,rfl,rfl,rfl⟩:=H
    go_enter Tryz.func33,Tryz.ntmps33
    try go_wp2_with (first|((with_reducible refine gate_dst (N:=1) rfl ?_);refine box_event ?hg (N:=1) ?hd (cs:= #[.int .i64 a0_0,.int .i64 a0_1,.int .i64 a0_2,.slice A0_3 l0_3.length c0_3,.int .i64 a0_4,.int .i64 a0_5,.int .i64 a0_6,.int .i64 a0_7,.int .i64 a0_8,.int .i64 a0_9,.int .i64 a0_10,.int .i64 a0_11,.int .i64 a0_12,.int .i64 a0_13,.slice A0_14 l0_14.length c0_14]) (t:=94) ?hr ?_;(case hd=>rfl);(case hg=>rfl);(case hr=>first|(go_simp;done)|(go_simp;rfl));intro gb145 hg w40 hbox hb;have n0_:=aK_ (lT_ (lB0_ HB.out) hb);have n1_:=aK_ (hbox);have n2_:=aK_ ((by rw [hg];exact (lZ_ (lB0_ HB.out)):w.heap.size≤gb145));have n3_:=aK_ ((by rw [hg];exact (lZ_ (lB0_ HB.out)):w.heap.size≤gb145));clear HB;have HB:=n0_;have BK145:=n1_;have GW145:=n2_;have GE145:=n3_;clear n0_ n1_ n2_ n3_;clear hb hbox hg)|((with_reducible refine gate_dst (N:=2) rfl ?_);refine box_event ?hg (N:=2) ?hd (cs:= #[.int .i64 0,.string (⟨#[]⟩:ByteArray),.slice none 0 0,.int .i64 0,.int .i64 0,.string (⟨#[]⟩:ByteArray),.int .i64 0,.int .i64 0,.string (⟨#[]⟩:ByteArray),.int .i64 0,.string (⟨#[]⟩:ByteArray),.int .i64 0,.string (⟨#[]⟩:ByteArray),.int .i64 0,.int .i64 0,.slice none 0 0]) (t:=106) ?hr ?_;(case hd=>rfl);(case hg=>rfl);(case hr=>first|(go_simp;done)|(go_simp;rfl));intro gb146 hg w41 hbox hb;have n0_:=aK_ (bB (bK_ BK145.out) hb);have n1_:=aK_ (lT_ (lB1_ HB.out GE145.out) hb);have n2_:=aK_ (hbox);have n3_:=aK_ ((by rw [hg];exact (lZ_ (lB1_ HB.out GE145.out)):w.heap.size≤gb146));have n4_:=aK_ ((by rw [hg];exact (lZ_ (lB1_ HB.out GE145.out)):w.heap.size≤gb146));have n5_:=aK_ ((by rw [hg];exact Nat.ne_of_lt (blk_lt (g:=gb145) (o:= .cells #[.int .i64 a0_0,.int .i64 a0_1,.int .i64 a0_2,.slice A0_3 l0_3.length c0_3,.int .i64 a0_4,.int .i64 a0_5,.int .i64 a0_6,.int .i64 a0_7,.int .i64 a0_8,.int .i64 a0_9,.int .i64 a0_10,.int .i64 a0_11,.int .i64 a0_12,.int .i64 a0_13,.slice A0_14 l0_14.length c0_14] 94 (0,0)) (bK_ BK145.out)):gb145≠gb146));have n6_:=aK_ ((by rw [hg];exact Nat.ne_of_gt (blk_lt (g:=gb145) (o:= .cells #[.int .i64 a0_0,.int .i64 a0_1,.int .i64 a0_2,.slice A0_3 l0_3.length c0_3,.int .i64 a0_4,.int .i64 a0_5,.int .i64 a0_6,.int .i64 a0_7,.int .i64 a0_8,.int .i64 a0_9,.int .i64 a0_10,.int .i64 a0_11,.int .i64 a0_12,.int .i64 a0_13,.slice A0_14 l0_14.length c0_14] 94 (0,0)) (bK_ BK145.out)):gb146≠gb145));clear BK145;clear HB;have BK145:=n0_;have HB:=n1_;have BK146:=n2_;have GW146:=n3_;have GE146:=n4_;have NB145_146:=n5_;have NB146_145:=n6_;clear n0_ n1_ n2_ n3_ n4_ n5_ n6_;clear hb hbox hg;have hnb42:=NB145_146.out;have hnc42:=NB146_145.out;obtain ⟨⟨hcz43_0,hcz43_1,hcz43_2,hcz43_3,hcz43_4,hcz43_5,hcz43_6,hcz43_7,hcz43_8,hcz43_9,hcz43_10,hcz43_11,hcz43_12,hcz43_13,hcz43_14⟩,hfz43_0,hfz43_1,hfz43_2,hfz43_3,hfz43_4,hfz43_5,hfz43_6,hfz43_7,hfz43_8,hfz43_9,hfz43_10,hfz43_11,hfz43_12,hfz43_13,hfz43_14⟩:=c15_ BK145.out)|((with_reducible refine gate_dst (N:=3) rfl ?_);refine box_event ?hg (N:=3) ?hd (cs:= #[.int .i64 0,.int .i64 0,.int .i64 0]) (t:=89) ?hr ?_;(case hd=>rfl);(case hg=>rfl);(case hr=>first|(go_simp;done)|(go_simp;rfl));intro gb157 hg w44 hbox hb;have n0_:=aK_ (bB (bK_ BK145.out) hb);have n1_:=aK_ (bB (bK_ BK146.out) hb);have n2_:=aK_ (lT_ (lB2_ HB.out GE145.out GE146.out) hb);have n3_:=aK_ (hbox);have n4_:=aK_ ((by rw [hg];exact (lZ_ (lB2_ HB.out GE145.out GE146.out)):w.heap.size≤gb157));have n5_:=aK_ ((by rw [hg];exact (lZ_ (lB2_ HB.out GE145.out GE146.out)):w.heap.size≤gb157));have n6_:=aK_ ((by rw [hg];exact Nat.ne_of_lt (blk_lt (g:=gb145) (o:= .cells #[.int .i64 a0_0,.int .i64 a0_1,.int .i64 a0_2,.slice A0_3 l0_3.length c0_3,.int .i64 a0_4,.int .i64 a0_5,.int .i64 a0_6,.int .i64 a0_7,.int .i64 a0_8,.int .i64 a0_9,.int .i64 a0_10,.int .i64 a0_11,.int .i64 a0_12,.int .i64 a0_13,.slice A0_14 l0_14.length c0_14] 94 (0,0)) (bK_ BK145.out)):gb145≠gb157));have n7_:=aK_ ((by rw [hg];exact Nat.ne_of_gt (blk_lt (g:=gb145) (o:= .cells #[.int .i64 a0_0,.int .i64 a0_1,.int .i64 a0_2,.slice A0_3 l0_3.length c0_3,.int .i64 a0_4,.int .i64 a0_5,.int .i64 a0_6,.int .i64 a0_7,.int .i64 a0_8,.int .i64 a0_9,.int .i64 a0_10,.int .i64 a0_11,.int .i64 a0_12,.int .i64 a0_13,.slice A0_14 l0_14.length c0_14] 94 (0,0)) (bK_ BK145.out)):gb157≠gb145));have n8_:=aK_ ((by rw [hg];exact Nat.ne_of_lt (blk_lt (g:=gb146) (o:= .cells #[.int .i64 0,.string (⟨#[]⟩:ByteArray),.slice none 0 0,.int .i64 0,.int .i64 0,.string (⟨#[]⟩:ByteArray),.int .i64 0,.int .i64 0,.string (⟨#[]⟩:ByteArray),.int .i64 0,.string (⟨#[]⟩:ByteArray),.int .i64 0,.string (⟨#[]⟩:ByteArray),.int .i64 0,.int .i64 0,.slice none 0 0] 106 (0,0)) (bK_ BK146.out)):gb146≠gb157));have n9_:=aK_ ((by rw [hg];exact Nat.ne_of_gt (blk_lt (g:=gb146) (o:= .cells #[.int .i64 0,.string (⟨#[]⟩:ByteArray),.slice none 0 0,.int .i64 0,.int .i64 0,.string (⟨#[]⟩:ByteArray),.int .i64 0,.int .i64 0,.string (⟨#[]⟩:ByteArray),.int .i64 0,.string (⟨#[]⟩:ByteArray),.int .i64 0,.string (⟨#[]⟩:ByteArray),.int .i64 0,.int .i64 0,.slice none 0 0] 106 (0,0)) (bK_ BK146.out)):gb157≠gb146));clear BK145;clear BK146;clear HB;have BK145:=n0_;have BK146:=n1_;have HB:=n2_;have BK157:=n3_;have GW157:=n4_;have GE157:=n5_;have NB145_157:=n6_;have NB157_145:=n7_;have NB146_157:=n8_;have NB157_146:=n9_;clear n0_ n1_ n2_ n3_ n4_ n5_ n6_ n7_ n8_ n9_;clear hb hbox hg;have hnb45:=NB157_145.out;have hnc45:=NB145_157.out;have hnb46:=NB157_146.out;have hnc46:=NB146_157.out;obtain ⟨⟨hcz47_0,hcz47_1,hcz47_2⟩,hfz47_0,hfz47_1,hfz47_2⟩:=c3_ BK157.out))
    have n0_:Aside0 (((((w44.setCell ⟨gb157,0,none⟩ (.int .i64 a0_4)).setCell ⟨gb157,1,none⟩ (.int .i64 a0_5)).setCell ⟨gb157,2,none⟩ (.int .i64 a0_6)).setCell ⟨gb157,0,none⟩ (.int .i64 0)).heap[gb145]? =some (.cells #[.int .i64 a0_0,.int .i64 a0_1,.int .i64 a0_2,.slice A0_3 l0_3.length c0_3,.int .i64 a0_4,.int .i64 a0_5,.int .i64 a0_6,.int .i64 a0_7,.int .i64 a0_8,.int .i64 a0_9,.int .i64 a0_10,.int .i64 a0_11,.int .i64 a0_12,.int .i64 a0_13,.slice A0_14 l0_14.length c0_14] 94 (0,0))):=⟨by (with_reducible repeat (first|refine bDN ?_ _|refine bD ?_|refine bA ?_ _));refine blk_far ?_ NB145_157.out _;(with_reducible repeat (first|refine bDN ?_ _|refine bD ?_|refine bA ?_ _));refine blk_far ?_ NB145_157.out _;(with_reducible repeat (first|refine bDN ?_ _|refine bD ?_|refine bA ?_ _));refine blk_far ?_ NB145_157.out _;(with_reducible repeat (first|refine bDN ?_ _|refine bD ?_|refine bA ?_ _));refine blk_far ?_ NB145_157.out _;(with_reducible repeat (first|refine bDN ?_ _|refine bD ?_|refine bA ?_ _));exact BK145.out⟩
    have n1_:Aside0 (((((w44.setCell ⟨gb157,0,none⟩ (.int .i64 a0_4)).setCell ⟨gb157,1,none⟩ (.int .i64 a0_5)).setCell ⟨gb157,2,none⟩ (.int .i64 a0_6)).setCell ⟨gb157,0,none⟩ (.int .i64 0)).heap[gb146]? =some (.cells #[.int .i64 0,.string (⟨#[]⟩:ByteArray),.slice none 0 0,.int .i64 0,.int .i64 0,.string (⟨#[]⟩:ByteArray),.int .i64 0,.int .i64 0,.string (⟨#[]⟩:ByteArray),.int .i64 0,.string (⟨#[]⟩:ByteArray),.int .i64 0,.string (⟨#[]⟩:ByteArray),.int .i64 0,.int .i64 0,.slice none 0 0] 106 (0,0))):=⟨by (with_reducible repeat (first|refine bDN ?_ _|refine bD ?_|refine bA ?_ _));refine blk_far ?_ NB146_157.out _;(with_reducible repeat (first|refine bDN ?_ _|refine bD ?_|refine bA ?_ _));refine blk_far ?_ NB146_157.out _;(with_reducible repeat (first|refine bDN ?_ _|refine bD ?_|refine bA ?_ _));refine blk_far ?_ NB146_157.out _;(with_reducible repeat (first|refine bDN ?_ _|refine bD ?_|refine bA ?_ _));refine blk_far ?_ NB146_157.out _;(with_reducible repeat (first|refine bDN ?_ _|refine bD ?_|refine bA ?_ _));exact BK146.out⟩
    have n2_:Aside0 (((((w44.setCell ⟨gb157,0,none⟩ (.int .i64 a0_4)).setCell ⟨gb157,1,none⟩ (.int .i64 a0_5)).setCell ⟨gb157,2,none⟩ (.int .i64 a0_6)).setCell ⟨gb157,0,none⟩ (.int .i64 0)).heap[gb157]? =some (.cells #[.int .i64 0,.int .i64 a0_5,.int .i64 a0_6] 89 (0,0))):=⟨(by apply eC_;(with_reducible repeat (first|refine bDN ?_ _|refine bD ?_|refine bA ?_ _));apply b2_;(with_reducible repeat (first|refine bDN ?_ _|refine bD ?_|refine bA ?_ _));apply b2_;(with_reducible repeat (first|refine bDN ?_ _|refine bD ?_|refine bA ?_ _));apply b2_;(with_reducible repeat (first|refine bDN ?_ _|refine bD ?_|refine bA ?_ _));apply b2_;(with_reducible repeat (first|refine bDN ?_ _|refine bD ?_|refine bA ?_ _));exact BK157.out;kernel_rfl)⟩
    have n3_:Aside0 (Below w.heap.size w ((((w44.setCell ⟨gb157,0,none⟩ (.int .i64 a0_4)).setCell ⟨gb157,1,none⟩ (.int .i64 a0_5)).setCell ⟨gb157,2,none⟩ (.int .i64 a0_6)).setCell ⟨gb157,0,none⟩ (.int .i64 0))):=⟨(lB3_ HB.out GE145.out GE146.out GE157.out)⟩
    (try clear BK145)
    (try clear BK146)
    (try clear BK157)
    (try clear HB)
    generalize ((((w44.setCell ⟨gb157,0,none⟩ (.int .i64 a0_4)).setCell ⟨gb157,1,none⟩ (.int .i64 a0_5)).setCell ⟨gb157,2,none⟩ (.int .i64 a0_6)).setCell ⟨gb157,0,none⟩ (.int .i64 0))=w48 at n0_ n1_ n2_ n3_ ⊢
    have BK145:=n0_
    have BK146:=n1_
    have BK157:=n2_
    have HB:=n3_
    clear n0_ n1_ n2_ n3_
    have n0_:=aK_ (bD BK145.out)
    have n1_:=aK_ (bD BK146.out)
    have n2_:=aK_ (bD BK157.out)
    have n3_:=aK_ (lD_ HB.out)
    clear BK145
    clear BK146
    clear BK157
    clear HB
    have BK145:=n0_
    have BK146:=n1_
    have BK157:=n2_
    have HB:=n3_
    clear n0_ n1_ n2_ n3_
    refine start_ (n:=8) (S:=fun w'=>w'.cell? ⟨gb157,0,none⟩=some (.int .i64 0)∧w'.cell? ⟨gb157,1,none⟩=some (.int .i64 a0_5)∧w'.cell? ⟨gb157,2,none⟩=some (.int .i64 a0_6)∧w'.cell? ⟨gb145,0,none⟩=some (.int .i64 a0_0)∧w'.cell? ⟨gb145,1,none⟩=some (.int .i64 a0_1)∧w'.cell? ⟨gb145,2,none⟩=some (.int .i64 a0_2)∧w'.cell? ⟨gb145,3,none⟩=some (.slice A0_3 l0_3.length c0_3)∧w'.cell? ⟨gb145,4,none⟩=some (.int .i64 a0_4)∧w'.cell? ⟨gb145,5,none⟩=some (.int .i64 a0_5)∧w'.cell? ⟨gb145,6,none⟩=some (.int .i64 a0_6)∧w'.cell? ⟨gb145,7,none⟩=some (.int .i64 a0_7)∧w'.cell? ⟨gb145,8,none⟩=some (.int .i64 a0_8)∧w'.cell? ⟨gb145,9,none⟩=some (.int .i64 a0_9)∧w'.cell? ⟨gb145,10,none⟩=some (.int .i64 a0_10)∧w'.cell? ⟨gb145,11,none⟩=some (.int .i64 a0_11)∧w'.cell? ⟨gb145,12,none⟩=some (.int .i64 a0_12)∧w'.cell? ⟨gb145,13,none⟩=some (.int .i64 a0_13)∧w'.cell? ⟨gb145,14,none⟩=some (.slice A0_14 l0_14.length c0_14)) (ds:=[]) #[false,false,false,false,false,false,false,false] (by kernel_rfl) rfl rfl ⟨(bC BK157.out 0).trans rfl,(bC BK157.out 1).trans rfl,(bC BK157.out 2).trans rfl,(bC BK145.out 0).trans rfl,(bC BK145.out 1).trans rfl,(bC BK145.out 2).trans rfl,(bC BK145.out 3).trans rfl,(bC BK145.out 4).trans rfl,(bC BK145.out 5).trans rfl,(bC BK145.out 6).trans rfl,(bC BK145.out 7).trans rfl,(bC BK145.out 8).trans rfl,(bC BK145.out 9).trans rfl,(bC BK145.out 10).trans rfl,(bC BK145.out 11).trans rfl,(bC BK145.out 12).trans rfl,(bC BK145.out 13).trans rfl,(bC BK145.out 14).trans rfl⟩ (fun hHeld=> ?_);refine with_tabW ergolaw13_P_Part.tab9 ergolaw13_P_Part.bits9 (fun HT_ HW_=> ?_)
    generalize w48.drew=w49 at BK145 BK146 BK157 HB hHeld ⊢
    refine pure_ (i:=3) (N:=some 37) (v:= ?_) (a':= ?_) #[false,false,false,true,false,false,false,false] rfl rfl (any_of HT_.out (by kernel_rfl)) (fun _ _ _ h=>h) (Or.inl ⟨by rfl,?_⟩) ?_ ?_
    rotate_left
    ·intro w'
     go_simp
     with_reducible rfl
    rotate_left
    ·simp only [Act.put, sA_, sZ_, sS_, i64_w, i32_w]
     rfl
    refine take_ (i:=0) (N:=some 34) (v:= ?_) (a':= ?_) #[true,false,false,true,false,false,false,false] rfl rfl (take_ofW HT_.out HW_.out (by kernel_rfl)) (fun _ _ _ h=>h) (Or.inl ⟨by rfl,?_⟩) hHeld ?_ ?_
    rotate_left
    ·rintro w' ⟨s0, s1, s2, s3, s4, s5, s6, s7, s8, s9, s10, s11, s12, s13, s14, s15, s16, s17⟩
     go_simp
     with_reducible rfl
    rotate_left
    ·simp only [Act.put, sA_, sZ_, sS_, i64_w, i32_w]
     rfl
    refine take_ (i:=4) (N:=some 38) (v:= ?_) (a':= ?_) #[true,false,false,true,true,false,false,false] rfl rfl (take_ofW HT_.out HW_.out (by kernel_rfl)) (fun _ _ _ h=>h) (Or.inl ⟨by rfl,?_⟩) hHeld ?_ ?_
    rotate_left
    ·rintro w' ⟨s0, s1, s2, s3, s4, s5, s6, s7, s8, s9, s10, s11, s12, s13, s14, s15, s16, s17⟩
     go_simp
     with_reducible rfl
    rotate_left
    ·simp only [Act.put, sA_, sZ_, sS_, i64_w, i32_w]
     rfl
    refine one_ (i:=1) (N:=some 35) #[true,true,false,true,true,false,false,false] rfl rfl (one_of HT_.out (by kernel_rfl)) (by decide) (fun K hK=> ?_)
    refine goes_ Tryz.func56 (by kernel_rfl) rfl #[.agg #[.int .i64 0,.int .i64 a0_5,.int .i64 a0_6]] (by rfl) rfl rfl (by (try simp only [List.map_toArray,List.map_cons,List.map_nil]);first|done|rfl|(simp only [List.length_drop,List.length_take];rfl)) ?_
    with_reducible refine (ergolaw13_T_Term.calls 0 a0_5 a0_6 t158 t159 t160 _ A38.out).mono ?_
    rintro e w50 ⟨rfl,hb⟩
    refine ⟨_,rfl,?_⟩
    have n0_:=aK_ (bB (bK_ BK145.out) hb)
    have n1_:=aK_ (bB (bK_ BK146.out) hb)
    have n2_:=aK_ (bB (bK_ BK157.out) hb)
    have n3_:=aK_ (lT_ (lB3_ HB.out GE145.out GE146.out GE157.out) hb)
    clear BK145
    clear BK146
    clear BK157
    clear HB
    have BK145:=n0_
    have BK146:=n1_
    have BK157:=n2_
    have HB:=n3_
    clear n0_ n1_ n2_ n3_
    (try clear hb)
    (try clear hb2)
    (try clear hk)
    (try clear hi)
    refine hK.out _ _ ⟨(bC BK157.out 0).trans rfl,(bC BK157.out 1).trans rfl,(bC BK157.out 2).trans rfl,(bC BK145.out 0).trans rfl,(bC BK145.out 1).trans rfl,(bC BK145.out 2).trans rfl,(bC BK145.out 3).trans rfl,(bC BK145.out 4).trans rfl,(bC BK145.out 5).trans rfl,(bC BK145.out 6).trans rfl,(bC BK145.out 7).trans rfl,(bC BK145.out 8).trans rfl,(bC BK145.out 9).trans rfl,(bC BK145.out 10).trans rfl,(bC BK145.out 11).trans rfl,(bC BK145.out 12).trans rfl,(bC BK145.out 13).trans rfl,(bC BK145.out 14).trans rfl⟩ (fun hHeld=> ?_)
    clear hK K
    refine norm_ (a':= ?_) ?_ ?_
    rotate_left
    ·show Act.put _ (some 35) _ = _
     simp only [Act.put,sA_,sZ_,sS_,i64_w,i32_w]
     rfl
    refine pure_ (i:=2) (N:=some 36) (v:= ?_) (a':= ?_) #[true,true,true,true,true,false,false,false] rfl rfl (any_of HT_.out (by kernel_rfl)) (fun _ _ _ h=>h) (Or.inl ⟨by rfl,?_⟩) ?_ ?_
    rotate_left
    ·intro w'
     go_simp
     with_reducible rfl
    rotate_left
    ·simp only [Act.put, sA_, sZ_, sS_, i64_w, i32_w]
     rfl
    refine one_ (i:=5) (N:=some 39) #[true,true,true,true,true,true,false,false] rfl rfl (one_of HT_.out (by kernel_rfl)) (by decide) (fun K hK=> ?_)
    refine goes_ Tryz.func64 (by kernel_rfl) rfl #[.agg #[.int .i64 a0_10,.int .i64 a0_11,.int .i64 a0_12,.int .i64 a0_13,.slice A0_14 l0_14.length c0_14]] (by rfl) rfl rfl (by (try simp only [List.map_toArray,List.map_cons,List.map_nil]);first|done|rfl|(simp only [List.length_drop,List.length_take];rfl)) ?_
    with_reducible refine (ergolaw13_E_Expr.calls k a0_10 a0_11 a0_12 a0_13 _ _ l0_14 t161 t162 t163 t164 t165 _ ?side1 ?side2 A39.out).mono ?_
    (case side1=>repeat (first|exact (Kd.C_below HR0_14.out HB.out)|(with_reducible refine Kd.C_alloc ?_ _)|(with_reducible refine Kd.C_drewN ?_ _)|(with_reducible refine Kd.C_drew ?_)))
    (case side2=>exact HC0_14.out)
    rintro e w51 ⟨v166,rfl,ho0,hb⟩
    refine ⟨_,rfl,?_⟩
    have n0_:=aK_ (Kd.N_lower (Kd.N_mono (ok':=fun k_=>(w.heap.size≤k_)∧k_≠gb145∧k_≠gb146∧k_≠gb157) ho0 (fun k_ hk_=>⟨(Nat.le_trans (lZ_ (lB3_ HB.out GE145.out GE146.out GE157.out)) hk_),(Kd.freshB (g:=gb145) (o:= .cells #[.int .i64 a0_0,.int .i64 a0_1,.int .i64 a0_2,.slice A0_3 l0_3.length c0_3,.int .i64 a0_4,.int .i64 a0_5,.int .i64 a0_6,.int .i64 a0_7,.int .i64 a0_8,.int .i64 a0_9,.int .i64 a0_10,.int .i64 a0_11,.int .i64 a0_12,.int .i64 a0_13,.slice A0_14 l0_14.length c0_14] 94 (0,0)) (bK_ BK145.out) k_ hk_),(Kd.freshB (g:=gb146) (o:= .cells #[.int .i64 0,.string (⟨#[]⟩:ByteArray),.slice none 0 0,.int .i64 0,.int .i64 0,.string (⟨#[]⟩:ByteArray),.int .i64 0,.int .i64 0,.string (⟨#[]⟩:ByteArray),.int .i64 0,.string (⟨#[]⟩:ByteArray),.int .i64 0,.string (⟨#[]⟩:ByteArray),.int .i64 0,.int .i64 0,.slice none 0 0] 106 (0,0)) (bK_ BK146.out) k_ hk_),(Kd.freshB (g:=gb157) (o:= .cells #[.int .i64 0,.int .i64 a0_5,.int .i64 a0_6] 89 (0,0)) (bK_ BK157.out) k_ hk_)⟩)) (lZ_ (lB3_ HB.out GE145.out GE146.out GE157.out)))
    have n1_:=aK_ (bB (bK_ BK145.out) hb)
    have n2_:=aK_ (bB (bK_ BK146.out) hb)
    have n3_:=aK_ (bB (bK_ BK157.out) hb)
    have n4_:=aK_ (lT_ (lB3_ HB.out GE145.out GE146.out GE157.out) hb)
    clear BK145
    clear BK146
    clear BK157
    clear HB
    have HO167:=n0_
    have BK145:=n1_
    have BK146:=n2_
    have BK157:=n3_
    have HB:=n4_
    clear n0_ n1_ n2_ n3_ n4_
    (try clear hb)
    (try clear hb2)
    (try clear hk)
    (try clear hi)
    (try clear ho0)
    obtain ⟨Ao52,co52,eo52⟩:=Kd.N_slice HO167.out
    (first|subst eo52|(injection eo52 with f1_ f2_ f3_;have f4_:=f1_.symm;have f5_:=f3_.symm;clear f1_ f2_ f3_;subst f4_;subst f5_))
    refine hK.out _ _ ⟨(bC BK157.out 0).trans rfl,(bC BK157.out 1).trans rfl,(bC BK157.out 2).trans rfl,(bC BK145.out 0).trans rfl,(bC BK145.out 1).trans rfl,(bC BK145.out 2).trans rfl,(bC BK145.out 3).trans rfl,(bC BK145.out 4).trans rfl,(bC BK145.out 5).trans rfl,(bC BK145.out 6).trans rfl,(bC BK145.out 7).trans rfl,(bC BK145.out 8).trans rfl,(bC BK145.out 9).trans rfl,(bC BK145.out 10).trans rfl,(bC BK145.out 11).trans rfl,(bC BK145.out 12).trans rfl,(bC BK145.out 13).trans rfl,(bC BK145.out 14).trans rfl⟩ (fun hHeld=> ?_)
    clear hK K
    refine norm_ (a':= ?_) ?_ ?_
    rotate_left
    ·show Act.put _ (some 39) _ = _
     simp only [Act.put,sA_,sZ_,sS_,i64_w,i32_w]
     rfl
    refine pure_ (i:=6) (N:=some 40) (v:= ?_) (a':= ?_) #[true,true,true,true,true,true,true,false] rfl rfl (any_of HT_.out (by kernel_rfl)) (fun _ _ _ h=>h) (Or.inl ⟨by rfl,?_⟩) ?_ ?_
    rotate_left
    ·intro w'
     go_simp
     with_reducible rfl
    rotate_left
    ·simp only [Act.put, sA_, sZ_, sS_, i64_w, i32_w]
     rfl
    refine one_ (i:=7) (N:=none) #[true,true,true,true,true,true,true,true] rfl rfl (one_of HT_.out (by kernel_rfl)) (by decide) (fun K hK=> ?_)
    have hs53:w51.cell? ⟨gb146,0,none⟩=some (.int .i64 0):=(bC BK146.out 0).trans rfl
    have hfs53:=bF BK146.out 0
    have hns53_0:=NB145_146.out
    have hns53_2:=NB157_146.out
    have hms53_0:=NB146_145.out
    have hms53_2:=NB146_157.out
    have hs54:w51.cell? ⟨gb146,1,none⟩=some (.string (⟨#[]⟩:ByteArray)):=(bC BK146.out 1).trans rfl
    have hfs54:=bF BK146.out 1
    have hns54_0:=NB145_146.out
    have hns54_2:=NB157_146.out
    have hms54_0:=NB146_145.out
    have hms54_2:=NB146_157.out
    have hs55:w51.cell? ⟨gb146,2,none⟩=some (.slice none 0 0):=(bC BK146.out 2).trans rfl
    have hfs55:=bF BK146.out 2
    have hns55_0:=NB145_146.out
    have hns55_2:=NB157_146.out
    have hms55_0:=NB146_145.out
    have hms55_2:=NB146_157.out
    have hs56:w51.cell? ⟨gb146,3,none⟩=some (.int .i64 0):=(bC BK146.out 3).trans rfl
    have hfs56:=bF BK146.out 3
    have hns56_0:=NB145_146.out
    have hns56_2:=NB157_146.out
    have hms56_0:=NB146_145.out
    have hms56_2:=NB146_157.out
    have hs57:w51.cell? ⟨gb146,4,none⟩=some (.int .i64 0):=(bC BK146.out 4).trans rfl
    have hfs57:=bF BK146.out 4
    have hns57_0:=NB145_146.out
    have hns57_2:=NB157_146.out
    have hms57_0:=NB146_145.out
    have hms57_2:=NB146_157.out
    have hs58:w51.cell? ⟨gb146,5,none⟩=some (.string (⟨#[]⟩:ByteArray)):=(bC BK146.out 5).trans rfl
    have hfs58:=bF BK146.out 5
    have hns58_0:=NB145_146.out
    have hns58_2:=NB157_146.out
    have hms58_0:=NB146_145.out
    have hms58_2:=NB146_157.out
    have hs59:w51.cell? ⟨gb146,6,none⟩=some (.int .i64 0):=(bC BK146.out 6).trans rfl
    have hfs59:=bF BK146.out 6
    have hns59_0:=NB145_146.out
    have hns59_2:=NB157_146.out
    have hms59_0:=NB146_145.out
    have hms59_2:=NB146_157.out
    have hs60:w51.cell? ⟨gb146,7,none⟩=some (.int .i64 0):=(bC BK146.out 7).trans rfl
    have hfs60:=bF BK146.out 7
    have hns60_0:=NB145_146.out
    have hns60_2:=NB157_146.out
    have hms60_0:=NB146_145.out
    have hms60_2:=NB146_157.out
    have hs61:w51.cell? ⟨gb146,8,none⟩=some (.string (⟨#[]⟩:ByteArray)):=(bC BK146.out 8).trans rfl
    have hfs61:=bF BK146.out 8
    have hns61_0:=NB145_146.out
    have hns61_2:=NB157_146.out
    have hms61_0:=NB146_145.out
    have hms61_2:=NB146_157.out
    have hs62:w51.cell? ⟨gb146,9,none⟩=some (.int .i64 0):=(bC BK146.out 9).trans rfl
    have hfs62:=bF BK146.out 9
    have hns62_0:=NB145_146.out
    have hns62_2:=NB157_146.out
    have hms62_0:=NB146_145.out
    have hms62_2:=NB146_157.out
    have hs63:w51.cell? ⟨gb146,10,none⟩=some (.string (⟨#[]⟩:ByteArray)):=(bC BK146.out 10).trans rfl
    have hfs63:=bF BK146.out 10
    have hns63_0:=NB145_146.out
    have hns63_2:=NB157_146.out
    have hms63_0:=NB146_145.out
    have hms63_2:=NB146_157.out
    have hs64:w51.cell? ⟨gb146,11,none⟩=some (.int .i64 0):=(bC BK146.out 11).trans rfl
    have hfs64:=bF BK146.out 11
    have hns64_0:=NB145_146.out
    have hns64_2:=NB157_146.out
    have hms64_0:=NB146_145.out
    have hms64_2:=NB146_157.out
    have hs65:w51.cell? ⟨gb146,12,none⟩=some (.string (⟨#[]⟩:ByteArray)):=(bC BK146.out 12).trans rfl
    have hfs65:=bF BK146.out 12
    have hns65_0:=NB145_146.out
    have hns65_2:=NB157_146.out
    have hms65_0:=NB146_145.out
    have hms65_2:=NB146_157.out
    have hs66:w51.cell? ⟨gb146,13,none⟩=some (.int .i64 0):=(bC BK146.out 13).trans rfl
    have hfs66:=bF BK146.out 13
    have hns66_0:=NB145_146.out
    have hns66_2:=NB157_146.out
    have hms66_0:=NB146_145.out
    have hms66_2:=NB146_157.out
    have hs67:w51.cell? ⟨gb146,14,none⟩=some (.int .i64 0):=(bC BK146.out 14).trans rfl
    have hfs67:=bF BK146.out 14
    have hns67_0:=NB145_146.out
    have hns67_2:=NB157_146.out
    have hms67_0:=NB146_145.out
    have hms67_2:=NB146_157.out
    have hs68:w51.cell? ⟨gb146,15,none⟩=some (.slice none 0 0):=(bC BK146.out 15).trans rfl
    have hfs68:=bF BK146.out 15
    have hns68_0:=NB145_146.out
    have hns68_2:=NB157_146.out
    have hms68_0:=NB146_145.out
    have hms68_2:=NB146_157.out
    refine skip_ (w1:= ?_) (by rfl) rfl ?_ ?_
    rotate_left
    ·go_simp
     rfl
    refine hK.out _ _ ⟨(q16_ NB157_146.out (hHeld.1)),(q16_ NB157_146.out (hHeld.2.1)),(q16_ NB157_146.out (hHeld.2.2.1)),(q16_ NB145_146.out (hHeld.2.2.2.1)),(q16_ NB145_146.out (hHeld.2.2.2.2.1)),(q16_ NB145_146.out (hHeld.2.2.2.2.2.1)),(q16_ NB145_146.out (hHeld.2.2.2.2.2.2.1)),(q16_ NB145_146.out (hHeld.2.2.2.2.2.2.2.1)),(q16_ NB145_146.out (hHeld.2.2.2.2.2.2.2.2.1)),(q16_ NB145_146.out (hHeld.2.2.2.2.2.2.2.2.2.1)),(q16_ NB145_146.out (hHeld.2.2.2.2.2.2.2.2.2.2.1)),(q16_ NB145_146.out (hHeld.2.2.2.2.2.2.2.2.2.2.2.1)),(q16_ NB145_146.out (hHeld.2.2.2.2.2.2.2.2.2.2.2.2.1)),(q16_ NB145_146.out (hHeld.2.2.2.2.2.2.2.2.2.2.2.2.2.1)),(q16_ NB145_146.out (hHeld.2.2.2.2.2.2.2.2.2.2.2.2.2.2.1)),(q16_ NB145_146.out (hHeld.2.2.2.2.2.2.2.2.2.2.2.2.2.2.2.1)),(q16_ NB145_146.out (hHeld.2.2.2.2.2.2.2.2.2.2.2.2.2.2.2.2.1)),(q16_ NB145_146.out (hHeld.2.2.2.2.2.2.2.2.2.2.2.2.2.2.2.2.2))⟩ (fun hHeld=> ?_)
    clear hK K
    refine done_ (done_of HT_.out (by kernel_rfl)) ?_
    try go_wp2
    refine bodyPost_ret (results_cell_row rfl _ _ gb146 106 #[.int .i64 3,.string (⟨#[]⟩:ByteArray),.slice none 0 0,.int .i64 0,.int .i64 0,.string (⟨#[]⟩:ByteArray),.int .i64 0,.int .i64 0,.string (⟨#[]⟩:ByteArray),.int .i64 0,.string t159,.int .i64 t161,.string t162,.int .i64 t163,.int .i64 t164,.slice Ao52 t165.length co52] (0,0) _ rfl ((by apply eC_;(with_reducible repeat (first|refine bDN ?_ _|refine bD ?_|refine bA ?_ _));apply b2_;(with_reducible repeat (first|refine bDN ?_ _|refine bD ?_|refine bA ?_ _));apply b2_;(with_reducible repeat (first|refine bDN ?_ _|refine bD ?_|refine bA ?_ _));apply b2_;(with_reducible repeat (first|refine bDN ?_ _|refine bD ?_|refine bA ?_ _));apply b2_;(with_reducible repeat (first|refine bDN ?_ _|refine bD ?_|refine bA ?_ _));apply b2_;(with_reducible repeat (first|refine bDN ?_ _|refine bD ?_|refine bA ?_ _));apply b2_;(with_reducible repeat (first|refine bDN ?_ _|refine bD ?_|refine bA ?_ _));apply b2_;(with_reducible repeat (first|refine bDN ?_ _|refine bD ?_|refine bA ?_ _));apply b2_;(with_reducible repeat (first|refine bDN ?_ _|refine bD ?_|refine bA ?_ _));apply b2_;(with_reducible repeat (first|refine bDN ?_ _|refine bD ?_|refine bA ?_ _));apply b2_;(with_reducible repeat (first|refine bDN ?_ _|refine bD ?_|refine bA ?_ _));apply b2_;(with_reducible repeat (first|refine bDN ?_ _|refine bD ?_|refine bA ?_ _));apply b2_;(with_reducible repeat (first|refine bDN ?_ _|refine bD ?_|refine bA ?_ _));apply b2_;(with_reducible repeat (first|refine bDN ?_ _|refine bD ?_|refine bA ?_ _));apply b2_;(with_reducible repeat (first|refine bDN ?_ _|refine bD ?_|refine bA ?_ _));apply b2_;(with_reducible repeat (first|refine bDN ?_ _|refine bD ?_|refine bA ?_ _));apply b2_;(with_reducible repeat (first|refine bDN ?_ _|refine bD ?_|refine bA ?_ _));exact BK146.out;kernel_rfl)) Tryz.underlying106 rfl (by kernel_rfl)) rfl ?_
    exact ⟨_,_,by first|rfl|(simp [errW_none,errW_some] <;>rfl)|(simp [*,errW_none,errW_some] <;>rfl),by first|exact Kd.R_nil _ _ _ _ _|exact Kd.N_nil _ _ _ _ _|exact Kd.V_nil _ _ _ _ _|exact Kd.Q_nil _ _ _ _ _|exact Kd.S_nil _ _ _ _ _,by (with_reducible repeat (first|apply Kd.N_alloc|apply Kd.N_drewN|apply Kd.N_drew));exact Kd.N_mono (Kd.N_far (p:=⟨gb146,15,none⟩) (Kd.N_far (p:=⟨gb146,14,none⟩) (Kd.N_far (p:=⟨gb146,13,none⟩) (Kd.N_far (p:=⟨gb146,12,none⟩) (Kd.N_far (p:=⟨gb146,11,none⟩) (Kd.N_far (p:=⟨gb146,10,none⟩) (Kd.N_far (p:=⟨gb146,9,none⟩) (Kd.N_far (p:=⟨gb146,8,none⟩) (Kd.N_far (p:=⟨gb146,7,none⟩) (Kd.N_far (p:=⟨gb146,6,none⟩) (Kd.N_far (p:=⟨gb146,5,none⟩) (Kd.N_far (p:=⟨gb146,4,none⟩) (Kd.N_far (p:=⟨gb146,3,none⟩) (Kd.N_far (p:=⟨gb146,2,none⟩) (Kd.N_far (p:=⟨gb146,1,none⟩) (Kd.N_far (p:=⟨gb146,0,none⟩) (Kd.N_mono HO167.out (fun k_ hk=>(⟨hk,hk.2.2.1⟩:_∧k_≠gb146))) (fun _ hk=>hk.2) (.int .i64 3)) (fun _ hk=>hk.2) (.string (⟨#[]⟩:ByteArray))) (fun _ hk=>hk.2) (.slice none 0 0)) (fun _ hk=>hk.2) (.int .i64 0)) (fun _ hk=>hk.2) (.int .i64 0)) (fun _ hk=>hk.2) (.string (⟨#[]⟩:ByteArray))) (fun _ hk=>hk.2) (.int .i64 0)) (fun _ hk=>hk.2) (.int .i64 0)) (fun _ hk=>hk.2) (.string (⟨#[]⟩:ByteArray))) (fun _ hk=>hk.2) (.int .i64 0)) (fun _ hk=>hk.2) (.string t159)) (fun _ hk=>hk.2) (.int .i64 t161)) (fun _ hk=>hk.2) (.string t162)) (fun _ hk=>hk.2) (.int .i64 t163)) (fun _ hk=>hk.2) (.int .i64 t164)) (fun _ hk=>hk.2) (.slice Ao52 t165.length co52)) (fun _ hk=>⟨hk.1.1,(by simp [Value.ownBlock])⟩),(lB3_ HB.out GE145.out GE146.out GE157.out)⟩
   ·rw [if_neg c37] at H
    have c37b0:((wrap64 (Int.tmod (IntKind.u64.wrap (a0_0)) 6))==5)=false:=beq_eq_false_iff_ne.mpr c37
    have c37b1:((wrap64 (Int.tmod (IntKind.u64.wrap (a0_0)) 6)) !=5)=true:=bne_iff_ne.mpr c37
    replace H:=Option.bind_eq_some_iff.mp H
    obtain ⟨⟨t168,t169⟩,A690,H⟩:=H
    replace H:(some (0,t168,t169,0,0,(⟨#[]⟩:ByteArray),0,0,(⟨#[]⟩:ByteArray),0,(⟨#[]⟩:ByteArray),0,(⟨#[]⟩:ByteArray),0,0,([]:List (S104))))=some (r1,r2,r3,r4,r5,r6,r7,r8,r9,r10,r11,r12,r13,r14,r15,r16):=H
    have A69:=aK_ A690
    clear A690
    simp only [Option.some.injEq,Prod.mk.injEq] at H
    obtain ⟨rfl,rfl,rfl,rfl,rfl,rfl,rfl,rfl,rfl,rfl,rfl,rfl,rfl,rfl,rfl,rfl⟩:=H
    go_enter Tryz.func33,Tryz.ntmps33
    go_wp2_with (first|((with_reducible refine gate_dst (N:=1) rfl ?_);refine box_event ?hg (N:=1) ?hd (cs:= #[.int .i64 a0_0,.int .i64 a0_1,.int .i64 a0_2,.slice A0_3 l0_3.length c0_3,.int .i64 a0_4,.int .i64 a0_5,.int .i64 a0_6,.int .i64 a0_7,.int .i64 a0_8,.int .i64 a0_9,.int .i64 a0_10,.int .i64 a0_11,.int .i64 a0_12,.int .i64 a0_13,.slice A0_14 l0_14.length c0_14]) (t:=94) ?hr ?_;(case hd=>rfl);(case hg=>rfl);(case hr=>first|(go_simp;done)|(go_simp;rfl));intro gb145 hg w70 hbox hb;have n0_:=aK_ (lT_ (lB0_ HB.out) hb);have n1_:=aK_ (hbox);have n2_:=aK_ ((by rw [hg];exact (lZ_ (lB0_ HB.out)):w.heap.size≤gb145));have n3_:=aK_ ((by rw [hg];exact (lZ_ (lB0_ HB.out)):w.heap.size≤gb145));clear HB;have HB:=n0_;have BK145:=n1_;have GW145:=n2_;have GE145:=n3_;clear n0_ n1_ n2_ n3_;clear hb hbox hg)|((with_reducible refine gate_dst (N:=2) rfl ?_);refine box_event ?hg (N:=2) ?hd (cs:= #[.int .i64 0,.string (⟨#[]⟩:ByteArray),.slice none 0 0,.int .i64 0,.int .i64 0,.string (⟨#[]⟩:ByteArray),.int .i64 0,.int .i64 0,.string (⟨#[]⟩:ByteArray),.int .i64 0,.string (⟨#[]⟩:ByteArray),.int .i64 0,.string (⟨#[]⟩:ByteArray),.int .i64 0,.int .i64 0,.slice none 0 0]) (t:=106) ?hr ?_;(case hd=>rfl);(case hg=>rfl);(case hr=>first|(go_simp;done)|(go_simp;rfl));intro gb146 hg w71 hbox hb;have n0_:=aK_ (bB (bK_ BK145.out) hb);have n1_:=aK_ (lT_ (lB1_ HB.out GE145.out) hb);have n2_:=aK_ (hbox);have n3_:=aK_ ((by rw [hg];exact (lZ_ (lB1_ HB.out GE145.out)):w.heap.size≤gb146));have n4_:=aK_ ((by rw [hg];exact (lZ_ (lB1_ HB.out GE145.out)):w.heap.size≤gb146));have n5_:=aK_ ((by rw [hg];exact Nat.ne_of_lt (blk_lt (g:=gb145) (o:= .cells #[.int .i64 a0_0,.int .i64 a0_1,.int .i64 a0_2,.slice A0_3 l0_3.length c0_3,.int .i64 a0_4,.int .i64 a0_5,.int .i64 a0_6,.int .i64 a0_7,.int .i64 a0_8,.int .i64 a0_9,.int .i64 a0_10,.int .i64 a0_11,.int .i64 a0_12,.int .i64 a0_13,.slice A0_14 l0_14.length c0_14] 94 (0,0)) (bK_ BK145.out)):gb145≠gb146));have n6_:=aK_ ((by rw [hg];exact Nat.ne_of_gt (blk_lt (g:=gb145) (o:= .cells #[.int .i64 a0_0,.int .i64 a0_1,.int .i64 a0_2,.slice A0_3 l0_3.length c0_3,.int .i64 a0_4,.int .i64 a0_5,.int .i64 a0_6,.int .i64 a0_7,.int .i64 a0_8,.int .i64 a0_9,.int .i64 a0_10,.int .i64 a0_11,.int .i64 a0_12,.int .i64 a0_13,.slice A0_14 l0_14.length c0_14] 94 (0,0)) (bK_ BK145.out)):gb146≠gb145));clear BK145;clear HB;have BK145:=n0_;have HB:=n1_;have BK146:=n2_;have GW146:=n3_;have GE146:=n4_;have NB145_146:=n5_;have NB146_145:=n6_;clear n0_ n1_ n2_ n3_ n4_ n5_ n6_;clear hb hbox hg;have hnb72:=NB145_146.out;have hnc72:=NB146_145.out;obtain ⟨⟨hcz73_0,hcz73_1,hcz73_2,hcz73_3,hcz73_4,hcz73_5,hcz73_6,hcz73_7,hcz73_8,hcz73_9,hcz73_10,hcz73_11,hcz73_12,hcz73_13,hcz73_14⟩,hfz73_0,hfz73_1,hfz73_2,hfz73_3,hfz73_4,hfz73_5,hfz73_6,hfz73_7,hfz73_8,hfz73_9,hfz73_10,hfz73_11,hfz73_12,hfz73_13,hfz73_14⟩:=c15_ BK145.out)|((with_reducible refine gate_callee (f:=23) rfl ?_);refine goesL_ (some 43) rfl rfl Tryz.func23 (by kernel_rfl) rfl #[.agg #[.int .i64 a0_2,.slice A0_3 l0_3.length c0_3]] rfl (by (try simp only [List.map_toArray,List.map_cons,List.map_nil]);first|done|rfl|(simp only [List.length_drop,List.length_take];rfl)) ?_;(with_reducible refine (ergolaw13_A_Atom.calls k a0_2 _ _ l0_3 t168 t169 _ ?side1 ?side2 A69.out).mono ?_);(case side1=>repeat (first|exact (Kd.C_below HR0_3.out HB.out)|(with_reducible refine Kd.C_alloc ?_ _)|(with_reducible refine Kd.C_drewN ?_ _)|(with_reducible refine Kd.C_drew ?_)));(case side2=>exact HC0_3.out);rintro e w74 ⟨v170,rfl,ho0,hb⟩;refine ⟨_,rfl,?_⟩;have n0_:=aK_ (Kd.R_lower (Kd.R_newM (M:=fun k_=>(w.heap.size≤k_)) ho0 (lZ_ (lB2_ HB.out GE145.out GE146.out)) (fun k_ h_=>h_)) (lZ_ (lB2_ HB.out GE145.out GE146.out)));have n1_:=aK_ (bB (bK_ BK145.out) hb);have n2_:=aK_ (bB (bK_ BK146.out) hb);have n3_:=aK_ (lT_ (lB2_ HB.out GE145.out GE146.out) hb);clear BK145;clear BK146;clear HB;have HO171:=n0_;have BK145:=n1_;have BK146:=n2_;have HB:=n3_;clear n0_ n1_ n2_ n3_;(try clear hb);(try clear hb2);(try clear hk);(try clear hi);(try clear ho0);obtain ⟨Ao75,co75,eo75⟩:=Kd.R_slice HO171.out;subst eo75;obtain ⟨⟨hcz76_0,hcz76_1,hcz76_2,hcz76_3,hcz76_4,hcz76_5,hcz76_6,hcz76_7,hcz76_8,hcz76_9,hcz76_10,hcz76_11,hcz76_12,hcz76_13,hcz76_14,hcz76_15⟩,hfz76_0,hfz76_1,hfz76_2,hfz76_3,hfz76_4,hfz76_5,hfz76_6,hfz76_7,hfz76_8,hfz76_9,hfz76_10,hfz76_11,hfz76_12,hfz76_13,hfz76_14,hfz76_15⟩:=c16_ BK146.out))
    refine bodyPost_ret (results_cell_row rfl _ _ gb146 106 #[.int .i64 0,.string t168,.slice Ao75 t169.length co75,.int .i64 0,.int .i64 0,.string (⟨#[]⟩:ByteArray),.int .i64 0,.int .i64 0,.string (⟨#[]⟩:ByteArray),.int .i64 0,.string (⟨#[]⟩:ByteArray),.int .i64 0,.string (⟨#[]⟩:ByteArray),.int .i64 0,.int .i64 0,.slice none 0 0] (0,0) _ rfl ((by apply eC_;(with_reducible repeat (first|refine bDN ?_ _|refine bD ?_|refine bA ?_ _));apply b2_;(with_reducible repeat (first|refine bDN ?_ _|refine bD ?_|refine bA ?_ _));apply b2_;(with_reducible repeat (first|refine bDN ?_ _|refine bD ?_|refine bA ?_ _));apply b2_;(with_reducible repeat (first|refine bDN ?_ _|refine bD ?_|refine bA ?_ _));apply b2_;(with_reducible repeat (first|refine bDN ?_ _|refine bD ?_|refine bA ?_ _));apply b2_;(with_reducible repeat (first|refine bDN ?_ _|refine bD ?_|refine bA ?_ _));apply b2_;(with_reducible repeat (first|refine bDN ?_ _|refine bD ?_|refine bA ?_ _));apply b2_;(with_reducible repeat (first|refine bDN ?_ _|refine bD ?_|refine bA ?_ _));apply b2_;(with_reducible repeat (first|refine bDN ?_ _|refine bD ?_|refine bA ?_ _));apply b2_;(with_reducible repeat (first|refine bDN ?_ _|refine bD ?_|refine bA ?_ _));apply b2_;(with_reducible repeat (first|refine bDN ?_ _|refine bD ?_|refine bA ?_ _));apply b2_;(with_reducible repeat (first|refine bDN ?_ _|refine bD ?_|refine bA ?_ _));apply b2_;(with_reducible repeat (first|refine bDN ?_ _|refine bD ?_|refine bA ?_ _));apply b2_;(with_reducible repeat (first|refine bDN ?_ _|refine bD ?_|refine bA ?_ _));apply b2_;(with_reducible repeat (first|refine bDN ?_ _|refine bD ?_|refine bA ?_ _));apply b2_;(with_reducible repeat (first|refine bDN ?_ _|refine bD ?_|refine bA ?_ _));apply b2_;(with_reducible repeat (first|refine bDN ?_ _|refine bD ?_|refine bA ?_ _));exact BK146.out;kernel_rfl)) Tryz.underlying106 rfl (by kernel_rfl)) rfl ?_
    exact ⟨_,_,by first|rfl|(simp [errW_none,errW_some] <;>rfl)|(simp [*,errW_none,errW_some] <;>rfl),by (with_reducible repeat (first|apply Kd.R_alloc|apply Kd.R_drewN|apply Kd.R_drew));exact Kd.R_mono (Kd.R_far (p:=⟨gb146,15,none⟩) (Kd.R_far (p:=⟨gb146,14,none⟩) (Kd.R_far (p:=⟨gb146,13,none⟩) (Kd.R_far (p:=⟨gb146,12,none⟩) (Kd.R_far (p:=⟨gb146,11,none⟩) (Kd.R_far (p:=⟨gb146,10,none⟩) (Kd.R_far (p:=⟨gb146,9,none⟩) (Kd.R_far (p:=⟨gb146,8,none⟩) (Kd.R_far (p:=⟨gb146,7,none⟩) (Kd.R_far (p:=⟨gb146,6,none⟩) (Kd.R_far (p:=⟨gb146,5,none⟩) (Kd.R_far (p:=⟨gb146,4,none⟩) (Kd.R_far (p:=⟨gb146,3,none⟩) (Kd.R_far (p:=⟨gb146,2,none⟩) (Kd.R_far (p:=⟨gb146,1,none⟩) (Kd.R_far (p:=⟨gb146,0,none⟩) (Kd.R_types HO171.out BK146.out (by decide)) (fun _ hk=>hk.2) (.int .i64 0)) (fun _ hk=>hk.2) (.string t168)) (fun _ hk=>hk.2) (.slice Ao75 t169.length co75)) (fun _ hk=>hk.2) (.int .i64 0)) (fun _ hk=>hk.2) (.int .i64 0)) (fun _ hk=>hk.2) (.string (⟨#[]⟩:ByteArray))) (fun _ hk=>hk.2) (.int .i64 0)) (fun _ hk=>hk.2) (.int .i64 0)) (fun _ hk=>hk.2) (.string (⟨#[]⟩:ByteArray))) (fun _ hk=>hk.2) (.int .i64 0)) (fun _ hk=>hk.2) (.string (⟨#[]⟩:ByteArray))) (fun _ hk=>hk.2) (.int .i64 0)) (fun _ hk=>hk.2) (.string (⟨#[]⟩:ByteArray))) (fun _ hk=>hk.2) (.int .i64 0)) (fun _ hk=>hk.2) (.int .i64 0)) (fun _ hk=>hk.2) (.slice none 0 0)) (fun _ hk=>hk.1.1),by first|exact Kd.R_nil _ _ _ _ _|exact Kd.N_nil _ _ _ _ _|exact Kd.V_nil _ _ _ _ _|exact Kd.Q_nil _ _ _ _ _|exact Kd.S_nil _ _ _ _ _,(lB2_ HB.out GE145.out GE146.out)⟩
end Go.Proofs.YtjlnpdpkobpkiaaGreatDoorPSP
