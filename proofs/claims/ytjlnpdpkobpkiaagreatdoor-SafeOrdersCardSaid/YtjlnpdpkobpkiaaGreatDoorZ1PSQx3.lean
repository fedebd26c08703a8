import Derived.Test.YtjlnpdpkobpkiaaGreatDoorZ1PSQx0
import Derived.Test.YtjlnpdpkobpkiaaGreatDoorZ1PSQx1
import Derived.Test.YtjlnpdpkobpkiaaGreatDoorZ1PSQx2
import Derived.Test.YtjlnpdpkobpkiaaGreatDoorZ1PSPx2
import Derived.Test.YtjlnpdpkobpkiaaGreatDoorZ1PSPx4
namespace Go.Proofs.YtjlnpdpkobpkiaaGreatDoorPSP
open Go.RowKit Go.Proofs.YtjlnpdpkobpkiaaGreatDoorW.PrintWords Go.Proofs.YtjlnpdpkobpkiaaGreatDoorW.PrintLast Go.Proofs.YtjlnpdpkobpkiaaGreatDoorW.PrintMore
attribute [local go_sem] max2_int min2_int max_two min_two max_three min_three max_four min_four   -- for this text's walks alone
set_option linter.unusedVariables false
set_option linter.unusedSimpArgs false
mutual
def ergolaw13_R_Rule.j0:Nat→Int→Bool→Int→List (S89)→Int→List (S94)→ByteArray→List (S98)→Int→Int→Option (ByteArray×(List (S98))×Int×(List (S106))×Int)
 |0,_,_,_,_,_,_,_,_,_,_=>none
 |k+1,x4,x20,x173000,x173001,x173002,x173003,x179000,x179001,x179002,x179004=>if x20=true then (if 0≤(wrap64 ((x179001.length:Int)-1)) then (if (wrap64 ((x179001.length:Int)-1))<(x179001.length:Int) then (if ((rd_T98 x179001 (wrap64 ((x179001.length:Int)-1))).f0)=0 then (ergolaw13_R_Rule.j1 k x173000 x173001 x173002 x173003 x179000 x179001 x4 x179004) else (ergolaw13_R_Rule.j1 k x173000 x173001 x173002 x173003 x179000 (x179001.set ((wrap64 ((x179001.length:Int)-1)):Int).toNat (⟨0,(⟨#[88]⟩:ByteArray),0⟩:S98)) x4 x179004)) else (none)) else (none)) else (ergolaw13_R_Rule.j1 k x173000 x173001 x173002 x173003 x179000 x179001 x179002 x179004)
def ergolaw13_R_Rule.j1:Nat→Int→List (S89)→Int→List (S94)→ByteArray→List (S98)→Int→Int→Option (ByteArray×(List (S98))×Int×(List (S106))×Int)
 |0,_,_,_,_,_,_,_,_=>none
 |k+1,x173000,x173001,x173002,x173003,x179000,x179001,x179002,x179004=>ergolaw13_R_Rule.l0 k x173003 (x173003.length:Int) 0 x179000 x179001 x179002 ([]:List (S106)) x179004
def ergolaw13_R_Rule.l0:Nat→List (S94)→Int→Int→ByteArray→List (S98)→Int→List (S106)→Int→Option (ByteArray×(List (S98))×Int×(List (S106))×Int)
 |0,_,_,_,_,_,_,_,_=>none
 |k+1,x43,x44,x45,x179000,x179001,x179002,x179003,x179004=>if x45<x44 then (if 0≤x45 then (if x45<(x43.length:Int) then ((ergolaw13_P_Part.f k ((rd_T94 x43 x45).f0) ((rd_T94 x43 x45).f1) ((rd_T94 x43 x45).f2.f0) ((rd_T94 x43 x45).f2.f1) ((rd_T94 x43 x45).f3.f0) ((rd_T94 x43 x45).f3.f1) ((rd_T94 x43 x45).f3.f2) ((rd_T94 x43 x45).f4.f0) ((rd_T94 x43 x45).f4.f1) ((rd_T94 x43 x45).f4.f2) ((rd_T94 x43 x45).f5.f0.f0) ((rd_T94 x43 x45).f5.f0.f1) ((rd_T94 x43 x45).f5.f0.f2) ((rd_T94 x43 x45).f5.f1) ((rd_T94 x43 x45).f5.f2)).bind fun bt183=>(if x179003.length<703687441776 then (ergolaw13_R_Rule.l0 k x43 x44 (wrap64 (x45+1)) x179000 x179001 x179002 (x179003++[(⟨bt183.1,(⟨bt183.2.1,bt183.2.2.1⟩:S33),bt183.2.2.2.1,(⟨bt183.2.2.2.2.1,bt183.2.2.2.2.2.1,bt183.2.2.2.2.2.2.1⟩:S98),(⟨bt183.2.2.2.2.2.2.2.1,bt183.2.2.2.2.2.2.2.2.1,bt183.2.2.2.2.2.2.2.2.2.1⟩:S98),bt183.2.2.2.2.2.2.2.2.2.2.1,(⟨(⟨bt183.2.2.2.2.2.2.2.2.2.2.2.1,bt183.2.2.2.2.2.2.2.2.2.2.2.2.1,bt183.2.2.2.2.2.2.2.2.2.2.2.2.2.1⟩:S98),bt183.2.2.2.2.2.2.2.2.2.2.2.2.2.2.1,bt183.2.2.2.2.2.2.2.2.2.2.2.2.2.2.2⟩:S104)⟩:S106)]) x179004) else (none))) else (none)) else (none)) else (some (x179000,x179001,x179002,x179003,x179004))
end
def ergolaw13_R_Rule.f (k:Nat) (a0_0:Int) (l0_1:List (S89)) (a0_2:Int) (l0_3:List (S94)):Option (ByteArray×(List (S98))×Int×(List (S106))×Int):=(ergolaw13_A_Atom.f k a0_0 l0_1).bind fun bt174=>(if (Go.bits .and .i64 a0_2 15)≥1 then (ergolaw13_R_Rule.j0 k (Go.bits .and .i64 a0_2 15) (decide ((Go.bits .and .i64 a0_2 15)≤4)) a0_0 l0_1 a0_2 l0_3 bt174.1 bt174.2 0 0) else (ergolaw13_R_Rule.j0 k (Go.bits .and .i64 a0_2 15) false a0_0 l0_1 a0_2 l0_3 bt174.1 bt174.2 0 0))
def ergolaw13_R_Rule.T11:Bool×List (List Nat×List Nat):=(true,[([],[]),([0],[0]),([],[]),([2],[2]),([3],[3]),([1,4,3],[1,4]),([0,1,2,3,4,5],[]),([6,5,5,0,1,2,3,4,5],[5,6])])
def ergolaw13_R_Rule.B11:List Nat:=[0,1,0,4,12,31,63,127]
theorem ergolaw13_R_Rule.tab11:rtab .any (opsOf Tryz.f9 11)=ergolaw13_R_Rule.T11:=by kernel_rfl
theorem ergolaw13_R_Rule.bits11:waitsOk ergolaw13_R_Rule.T11.2 ergolaw13_R_Rule.B11=true:=by kernel_rfl
set_option maxHeartbeats 8000000 in
set_option maxRecDepth 100000 in
theorem ergolaw13_R_Rule.calls (k:Nat) (a0_0:Int) (A0_1:Option Addr) (c0_1:Nat) (l0_1:List (S89)) (a0_2:Int) (A0_3:Option Addr) (c0_3:Nat) (l0_3:List (S94)) (r1:ByteArray) (r2:List (S98)) (r3:Int) (r4:List (S106)) (r5:Int) (w:World) (hr0_1:Kd.C k89 w A0_1 l0_1.length l0_1) (hc0_1:l0_1.length≤c0_1) (hr0_3:Kd.C k94 w A0_3 l0_3.length l0_3) (hc0_3:l0_3.length≤c0_3) (h:ergolaw13_R_Rule.f k a0_0 l0_1 a0_2 l0_3=some (r1,r2,r3,r4,r5)):
  Calls Tryz.prog 9 #[.agg #[.int .i64 a0_0,.slice A0_1 l0_1.length c0_1,.int .i64 a0_2,.slice A0_3 l0_3.length c0_3]] w fun e w'=>∃v1_ v3_:Value,e= .returned (.agg #[.string r1,v1_,.int .i64 r3,v3_,.int .i64 r5])∧Kd.R k98 98 w' w.heap.size (fun k_=>(w.heap.size≤k_)) v1_ r2∧Kd.N k106 106 w' w.heap.size (fun k_=>(w.heap.size≤k_)∧some k_≠(v1_:Value).ownBlock) v3_ r4∧Below w.heap.size w w':=by
 have hu27:=Tryz.underlying27
 have hu37:=Tryz.underlying37
 have hu24:=Tryz.underlying24
 have hu98:=Tryz.underlying98
 have hu94:=Tryz.underlying94
 have HR0_1:=aK_ hr0_1
 have HC0_1:=aK_ hc0_1
 clear hr0_1 hc0_1
 have HR0_3:=aK_ hr0_3
 have HC0_3:=aK_ hc0_3
 clear hr0_3 hc0_3
 have HB:=aK_ (Below.refl w.heap.size w)
 have H:((ergolaw13_A_Atom.f k a0_0 l0_1).bind fun bt174=>(if (Go.bits .and .i64 a0_2 15)≥1 then (ergolaw13_R_Rule.j0 k (Go.bits .and .i64 a0_2 15) (decide ((Go.bits .and .i64 a0_2 15)≤4)) a0_0 l0_1 a0_2 l0_3 bt174.1 bt174.2 0 0) else (ergolaw13_R_Rule.j0 k (Go.bits .and .i64 a0_2 15) false a0_0 l0_1 a0_2 l0_3 bt174.1 bt174.2 0 0)))=some (r1,r2,r3,r4,r5):=h
 clear h
 replace H:=Option.bind_eq_some_iff.mp H
 obtain ⟨⟨t174,t175⟩,A20,H⟩:=H
 replace H:(if (Go.bits .and .i64 a0_2 15)≥1 then (ergolaw13_R_Rule.j0 k (Go.bits .and .i64 a0_2 15) (decide ((Go.bits .and .i64 a0_2 15)≤4)) a0_0 l0_1 a0_2 l0_3 t174 t175 0 0) else (ergolaw13_R_Rule.j0 k (Go.bits .and .i64 a0_2 15) false a0_0 l0_1 a0_2 l0_3 t174 t175 0 0))=some (r1,r2,r3,r4,r5):=H
 have A2:=aK_ A20
 clear A20
 have HC3:=aK_ H
 clear H
 go_enter Tryz.func9,Tryz.ntmps9
 go_upto_region 3 with (first|((with_reducible refine gate_dst (N:=1) rfl ?_);refine box_event ?hg (N:=1) ?hd (cs:= #[.int .i64 a0_0,.slice A0_1 l0_1.length c0_1,.int .i64 a0_2,.slice A0_3 l0_3.length c0_3]) (t:=27) ?hr ?_;(case hd=>rfl);(case hg=>rfl);(case hr=>first|(go_simp;done)|(go_simp;rfl));intro gb172 hg w4 hbox hb;have n0_:=aK_ (lT_ (lB0_ HB.out) hb);have n1_:=aK_ (hbox);have n2_:=aK_ ((by rw [hg];exact (lZ_ (lB0_ HB.out)):w.heap.size≤gb172));have n3_:=aK_ ((by rw [hg];exact (lZ_ (lB0_ HB.out)):w.heap.size≤gb172));clear HB;have HB:=n0_;have BK172:=n1_;have GW172:=n2_;have GE172:=n3_;clear n0_ n1_ n2_ n3_;clear hb hbox hg)|((with_reducible refine gate_dst (N:=2) rfl ?_);refine box_event ?hg (N:=2) ?hd (cs:= #[.string (⟨#[]⟩:ByteArray),.slice none 0 0,.int .i64 0,.slice none 0 0,.int .i64 0]) (t:=37) ?hr ?_;(case hd=>rfl);(case hg=>rfl);(case hr=>first|(go_simp;done)|(go_simp;rfl));intro gb173 hg w5 hbox hb;have n0_:=aK_ (bB (bK_ BK172.out) hb);have n1_:=aK_ (lT_ (lB1_ HB.out GE172.out) hb);have n2_:=aK_ (hbox);have n3_:=aK_ ((by rw [hg];exact (lZ_ (lB1_ HB.out GE172.out)):w.heap.size≤gb173));have n4_:=aK_ ((by rw [hg];exact (lZ_ (lB1_ HB.out GE172.out)):w.heap.size≤gb173));have n5_:=aK_ ((by rw [hg];exact Nat.ne_of_lt (blk_lt (g:=gb172) (o:= .cells #[.int .i64 a0_0,.slice A0_1 l0_1.length c0_1,.int .i64 a0_2,.slice A0_3 l0_3.length c0_3] 27 (0,0)) (bK_ BK172.out)):gb172≠gb173));have n6_:=aK_ ((by rw [hg];exact Nat.ne_of_gt (blk_lt (g:=gb172) (o:= .cells #[.int .i64 a0_0,.slice A0_1 l0_1.length c0_1,.int .i64 a0_2,.slice A0_3 l0_3.length c0_3] 27 (0,0)) (bK_ BK172.out)):gb173≠gb172));clear BK172;clear HB;have BK172:=n0_;have HB:=n1_;have BK173:=n2_;have GW173:=n3_;have GE173:=n4_;have NB172_173:=n5_;have NB173_172:=n6_;clear n0_ n1_ n2_ n3_ n4_ n5_ n6_;clear hb hbox hg;have hnb6:=NB172_173.out;have hnc6:=NB173_172.out;obtain ⟨⟨hcz7_0,hcz7_1,hcz7_2,hcz7_3⟩,hfz7_0,hfz7_1,hfz7_2,hfz7_3⟩:=c4_ BK172.out)|((with_reducible refine gate_callee (f:=23) rfl ?_);refine goesL_ (some 10) rfl rfl Tryz.func23 (by kernel_rfl) rfl #[.agg #[.int .i64 a0_0,.slice A0_1 l0_1.length c0_1]] rfl (by (try simp only [List.map_toArray,List.map_cons,List.map_nil]);first|done|rfl|(simp only [List.length_drop,List.length_take];rfl)) ?_;(with_reducible refine (ergolaw13_A_Atom.calls k a0_0 _ _ l0_1 t174 t175 _ ?side1 ?side2 A2.out).mono ?_);(case side1=>repeat (first|exact (Kd.C_below HR0_1.out HB.out)|(with_reducible refine Kd.C_alloc ?_ _)|(with_reducible refine Kd.C_drewN ?_ _)|(with_reducible refine Kd.C_drew ?_)));(case side2=>exact HC0_1.out);rintro e w8 ⟨v176,rfl,ho0,hb⟩;refine ⟨_,rfl,?_⟩;have n0_:=aK_ (Kd.R_lower (Kd.R_newM (M:=fun k_=>(w.heap.size≤k_)) ho0 (lZ_ (lB2_ HB.out GE172.out GE173.out)) (fun k_ h_=>h_)) (lZ_ (lB2_ HB.out GE172.out GE173.out)));have n1_:=aK_ (bB (bK_ BK172.out) hb);have n2_:=aK_ (bB (bK_ BK173.out) hb);have n3_:=aK_ (lT_ (lB2_ HB.out GE172.out GE173.out) hb);clear BK172;clear BK173;clear HB;have HO177:=n0_;have BK172:=n1_;have BK173:=n2_;have HB:=n3_;clear n0_ n1_ n2_ n3_;(try clear hb);(try clear hb2);(try clear hk);(try clear hi);(try clear ho0);obtain ⟨Ao9,co9,eo9⟩:=Kd.R_slice HO177.out;subst eo9)|((with_reducible refine gate_dst (N:=3) rfl ?_);refine box_event ?hg (N:=3) ?hd (cs:= #[.string (⟨#[]⟩:ByteArray),.slice none 0 0,.int .i64 0,.slice none 0 0,.int .i64 0]) (t:=37) ?hr ?_;(case hd=>rfl);(case hg=>rfl);(case hr=>first|(go_simp;done)|(go_simp;rfl));intro gb178 hg w10 hbox hb;have n0_:=aK_ (Kd.R_below (rK_ HO177.out) hb);have n1_:=aK_ (bB (bK_ BK172.out) hb);have n2_:=aK_ (bB (bK_ BK173.out) hb);have n3_:=aK_ (lT_ (lB2_ HB.out GE172.out GE173.out) hb);have n4_:=aK_ (hbox);have n5_:=aK_ ((by rw [hg];exact (lZ_ (lB2_ HB.out GE172.out GE173.out)):w.heap.size≤gb178));have n6_:=aK_ ((by rw [hg];exact (lZ_ (lB2_ HB.out GE172.out GE173.out)):w.heap.size≤gb178));have n7_:=aK_ ((by rw [hg];exact Nat.ne_of_lt (blk_lt (g:=gb172) (o:= .cells #[.int .i64 a0_0,.slice A0_1 l0_1.length c0_1,.int .i64 a0_2,.slice A0_3 l0_3.length c0_3] 27 (0,0)) (bK_ BK172.out)):gb172≠gb178));have n8_:=aK_ ((by rw [hg];exact Nat.ne_of_gt (blk_lt (g:=gb172) (o:= .cells #[.int .i64 a0_0,.slice A0_1 l0_1.length c0_1,.int .i64 a0_2,.slice A0_3 l0_3.length c0_3] 27 (0,0)) (bK_ BK172.out)):gb178≠gb172));have n9_:=aK_ ((by rw [hg];exact Nat.ne_of_lt (blk_lt (g:=gb173) (o:= .cells #[.string (⟨#[]⟩:ByteArray),.slice none 0 0,.int .i64 0,.slice none 0 0,.int .i64 0] 37 (0,0)) (bK_ BK173.out)):gb173≠gb178));have n10_:=aK_ ((by rw [hg];exact Nat.ne_of_gt (blk_lt (g:=gb173) (o:= .cells #[.string (⟨#[]⟩:ByteArray),.slice none 0 0,.int .i64 0,.slice none 0 0,.int .i64 0] 37 (0,0)) (bK_ BK173.out)):gb178≠gb173));clear HO177;clear BK172;clear BK173;clear HB;have HO177:=n0_;have BK172:=n1_;have BK173:=n2_;have HB:=n3_;have BK178:=n4_;have GW178:=n5_;have GE178:=n6_;have NB172_178:=n7_;have NB178_172:=n8_;have NB173_178:=n9_;have NB178_173:=n10_;clear n0_ n1_ n2_ n3_ n4_ n5_ n6_ n7_ n8_ n9_ n10_;clear hb hbox hg;have hnb11:=NB178_172.out;have hnc11:=NB172_178.out;have hnb12:=NB178_173.out;have hnc12:=NB173_178.out;obtain ⟨⟨hcz13_0,hcz13_1,hcz13_2,hcz13_3,hcz13_4⟩,hfz13_0,hfz13_1,hfz13_2,hfz13_3,hfz13_4⟩:=c5_ BK178.out;obtain ⟨⟨hcz14_0,hcz14_1,hcz14_2,hcz14_3⟩,hfz14_0,hfz14_1,hfz14_2,hfz14_3⟩:=c4_ BK172.out))
 (try simp only [Act.put,sA_,sZ_,sS_])
 go_cut [20] (fun v20 wc=>∃(kq:Nat) (x20_2:Bool),v20= .bool x20_2∧Aside0 (ergolaw13_R_Rule.j0 kq (Go.bits .and .i64 a0_2 15) x20_2 a0_0 l0_1 a0_2 l0_3 t174 t175 0 0=some (r1,r2,r3,r4,r5))∧Aside0 (kq≤k)∧Aside0 (Kd.R k98 98 wc w.heap.size (fun k_=>(w.heap.size≤k_)) (.slice Ao9 t175.length co9) t175)∧Aside0 (wc.heap[gb172]? =some (.cells #[.int .i64 a0_0,(.slice A0_1 l0_1.length c0_1),.int .i64 a0_2,(.slice A0_3 l0_3.length c0_3)] 27 (0,0)))∧Aside0 (wc.heap[gb173]? =some (.cells #[.string (⟨#[]⟩:ByteArray),(.slice none 0 0),.int .i64 0,(.slice none 0 0),.int .i64 0] 37 (0,0)))∧Aside0 (wc.heap[gb178]? =some (.cells #[.string t174,(.slice Ao9 t175.length co9),.int .i64 0,(.slice none 0 0),.int .i64 0] 37 (0,0)))∧Aside0 (Below w.heap.size w wc))
 case first=>
  have H:=HC3.out
  clear HC3
  by_cases c15:(Go.bits .and .i64 a0_2 15)≥1
  ·rw [if_pos c15] at H
   have c15b0:decide (1≤(Go.bits .and .i64 a0_2 15))=true:=decide_eq_true c15
   clear c15
   (first|rw [c15b0]|(simp only [i64_w,i32_w];rw [c15b0])|skip)
   have H':=aK_ H
   clear H
   go_wp2
   go_meet
   case rel=>exact ⟨_,(decide ((Go.bits .and .i64 a0_2 15)≤4)),(by first|rfl|(simp;done)|(simp [*];done)),H',⟨by first|omega|exact Nat.le_refl _⟩,⟨by (with_reducible repeat (first|apply Kd.R_alloc|apply Kd.R_drewN|apply Kd.R_drew));exact Kd.R_mono (Kd.R_far (p:=⟨gb178,4,none⟩) (Kd.R_far (p:=⟨gb178,3,none⟩) (Kd.R_far (p:=⟨gb178,2,none⟩) (Kd.R_far (p:=⟨gb178,1,none⟩) (Kd.R_far (p:=⟨gb178,0,none⟩) (Kd.R_types HO177.out BK178.out (by decide)) (fun _ hk=>hk.2) (.string t174)) (fun _ hk=>hk.2) (.slice Ao9 t175.length co9)) (fun _ hk=>hk.2) (.int .i64 0)) (fun _ hk=>hk.2) (.slice none 0 0)) (fun _ hk=>hk.2) (.int .i64 0)) (fun _ hk=>hk.1.1)⟩,⟨by (with_reducible repeat (first|refine bDN ?_ _|refine bD ?_|refine bA ?_ _));refine blk_far ?_ NB172_178.out _;(with_reducible repeat (first|refine bDN ?_ _|refine bD ?_|refine bA ?_ _));refine blk_far ?_ NB172_178.out _;(with_reducible repeat (first|refine bDN ?_ _|refine bD ?_|refine bA ?_ _));refine blk_far ?_ NB172_178.out _;(with_reducible repeat (first|refine bDN ?_ _|refine bD ?_|refine bA ?_ _));refine blk_far ?_ NB172_178.out _;(with_reducible repeat (first|refine bDN ?_ _|refine bD ?_|refine bA ?_ _));refine blk_far ?_ NB172_178.out _;(with_reducible repeat (first|refine bDN ?_ _|refine bD ?_|refine bA ?_ _));exact BK172.out⟩,⟨by (with_reducible repeat (first|refine bDN ?_ _|refine bD ?_|refine bA ?_ _));refine blk_far ?_ NB173_178.out _;(with_reducible repeat (first|refine bDN ?_ _|refine bD ?_|refine bA ?_ _));refine blk_far ?_ NB173_178.out _;(with_reducible repeat (first|refine bDN ?_ _|refine bD ?_|refine bA ?_ _));refine blk_far ?_ NB173_178.out _;(with_reducible repeat (first|refine bDN ?_ _|refine bD ?_|refine bA ?_ _));refine blk_far ?_ NB173_178.out _;(with_reducible repeat (first|refine bDN ?_ _|refine bD ?_|refine bA ?_ _));refine blk_far ?_ NB173_178.out _;(with_reducible repeat (first|refine bDN ?_ _|refine bD ?_|refine bA ?_ _));exact BK173.out⟩,⟨(by apply eC_;(with_reducible repeat (first|refine bDN ?_ _|refine bD ?_|refine bA ?_ _));apply b2_;(with_reducible repeat (first|refine bDN ?_ _|refine bD ?_|refine bA ?_ _));apply b2_;(with_reducible repeat (first|refine bDN ?_ _|refine bD ?_|refine bA ?_ _));apply b2_;(with_reducible repeat (first|refine bDN ?_ _|refine bD ?_|refine bA ?_ _));apply b2_;(with_reducible repeat (first|refine bDN ?_ _|refine bD ?_|refine bA ?_ _));apply b2_;(with_reducible repeat (first|refine bDN ?_ _|refine bD ?_|refine bA ?_ _));exact BK178.out;kernel_rfl)⟩,⟨(lB3_ HB.out GE172.out GE173.out GE178.out)⟩⟩
  ·rw [if_neg c15] at H
   have c15b0:decide (1≤(Go.bits .and .i64 a0_2 15))=false:=decide_eq_false c15
   clear c15
   (first|rw [c15b0]|(simp only [i64_w,i32_w];rw [c15b0])|skip)
   have H':=aK_ H
   clear H
   go_wp2
   go_meet
   case rel=>exact ⟨_,(false),(by first|rfl|(simp;done)|(simp [*];done)),H',⟨by first|omega|exact Nat.le_refl _⟩,⟨by (with_reducible repeat (first|apply Kd.R_alloc|apply Kd.R_drewN|apply Kd.R_drew));exact Kd.R_mono (Kd.R_far (p:=⟨gb178,4,none⟩) (Kd.R_far (p:=⟨gb178,3,none⟩) (Kd.R_far (p:=⟨gb178,2,none⟩) (Kd.R_far (p:=⟨gb178,1,none⟩) (Kd.R_far (p:=⟨gb178,0,none⟩) (Kd.R_types HO177.out BK178.out (by decide)) (fun _ hk=>hk.2) (.string t174)) (fun _ hk=>hk.2) (.slice Ao9 t175.length co9)) (fun _ hk=>hk.2) (.int .i64 0)) (fun _ hk=>hk.2) (.slice none 0 0)) (fun _ hk=>hk.2) (.int .i64 0)) (fun _ hk=>hk.1.1)⟩,⟨by (with_reducible repeat (first|refine bDN ?_ _|refine bD ?_|refine bA ?_ _));refine blk_far ?_ NB172_178.out _;(with_reducible repeat (first|refine bDN ?_ _|refine bD ?_|refine bA ?_ _));refine blk_far ?_ NB172_178.out _;(with_reducible repeat (first|refine bDN ?_ _|refine bD ?_|refine bA ?_ _));refine blk_far ?_ NB172_178.out _;(with_reducible repeat (first|refine bDN ?_ _|refine bD ?_|refine bA ?_ _));refine blk_far ?_ NB172_178.out _;(with_reducible repeat (first|refine bDN ?_ _|refine bD ?_|refine bA ?_ _));refine blk_far ?_ NB172_178.out _;(with_reducible repeat (first|refine bDN ?_ _|refine bD ?_|refine bA ?_ _));exact BK172.out⟩,⟨by (with_reducible repeat (first|refine bDN ?_ _|refine bD ?_|refine bA ?_ _));refine blk_far ?_ NB173_178.out _;(with_reducible repeat (first|refine bDN ?_ _|refine bD ?_|refine bA ?_ _));refine blk_far ?_ NB173_178.out _;(with_reducible repeat (first|refine bDN ?_ _|refine bD ?_|refine bA ?_ _));refine blk_far ?_ NB173_178.out _;(with_reducible repeat (first|refine bDN ?_ _|refine bD ?_|refine bA ?_ _));refine blk_far ?_ NB173_178.out _;(with_reducible repeat (first|refine bDN ?_ _|refine bD ?_|refine bA ?_ _));refine blk_far ?_ NB173_178.out _;(with_reducible repeat (first|refine bDN ?_ _|refine bD ?_|refine bA ?_ _));exact BK173.out⟩,⟨(by apply eC_;(with_reducible repeat (first|refine bDN ?_ _|refine bD ?_|refine bA ?_ _));apply b2_;(with_reducible repeat (first|refine bDN ?_ _|refine bD ?_|refine bA ?_ _));apply b2_;(with_reducible repeat (first|refine bDN ?_ _|refine bD ?_|refine bA ?_ _));apply b2_;(with_reducible repeat (first|refine bDN ?_ _|refine bD ?_|refine bA ?_ _));apply b2_;(with_reducible repeat (first|refine bDN ?_ _|refine bD ?_|refine bA ?_ _));apply b2_;(with_reducible repeat (first|refine bDN ?_ _|refine bD ?_|refine bA ?_ _));exact BK178.out;kernel_rfl)⟩,⟨(lB3_ HB.out GE172.out GE173.out GE178.out)⟩⟩
 case rest=>
  clear HC3
  try clear c1
  try clear c2
  try clear p2
  try clear c6
  try clear c9
  try clear c11
  try clear c12
  try clear c15
  try clear c15b0
  try clear hcz13_0
  try clear hcz13_1
  try clear hcz13_2
  try clear hcz13_3
  try clear hcz13_4
  try clear hcz14_0
  try clear hcz14_1
  try clear hcz14_2
  try clear hcz14_3
  try clear hcz7_0
  try clear hcz7_1
  try clear hcz7_2
  try clear hcz7_3
  try clear hfz13_0
  try clear hfz13_1
  try clear hfz13_2
  try clear hfz13_3
  try clear hfz13_4
  try clear hfz14_0
  try clear hfz14_1
  try clear hfz14_2
  try clear hfz14_3
  try clear hfz7_0
  try clear hfz7_1
  try clear hfz7_2
  try clear hfz7_3
  obtain ⟨kq,x20_2,rfl,HA,HJ2,HO_179001,BK172,BK173,BK178,HB⟩:=hcut
  cases kq with
  |zero=>exact absurd HA.out (by simp [ergolaw13_R_Rule.j0])
  |succ kj2=>
   have H:=HA.out
   clear HA
   simp only [ergolaw13_R_Rule.j0] at H
   have HC16:=aK_ H
   clear H
   go_upto_if 20 with (fail)
   go_cut [] (fun wc=>∃(kq:Nat) (x179001_15:List (S98)) (x179002_15:Int) (u179001:Value),Aside0 (ergolaw13_R_Rule.j1 kq a0_0 l0_1 a0_2 l0_3 t174 x179001_15 x179002_15 0=some (r1,r2,r3,r4,r5))∧Aside0 (kq≤kj2)∧Aside0 (Kd.R k98 98 wc w.heap.size (fun k_=>(w.heap.size≤k_)) u179001 x179001_15)∧Aside0 (wc.heap[gb172]? =some (.cells #[.int .i64 a0_0,(.slice A0_1 l0_1.length c0_1),.int .i64 a0_2,(.slice A0_3 l0_3.length c0_3)] 27 (0,0)))∧Aside0 (wc.heap[gb173]? =some (.cells #[.string (⟨#[]⟩:ByteArray),(.slice none 0 0),.int .i64 0,(.slice none 0 0),.int .i64 0] 37 (0,0)))∧Aside0 (wc.heap[gb178]? =some (.cells #[.string t174,u179001,.int .i64 x179002_15,(.slice none 0 0),.int .i64 0] 37 (0,0)))∧Aside0 (Below w.heap.size w wc))
   case first=>
    have H:=HC16.out
    clear HC16
    by_cases c17:x20_2=true
    ·subst c17
     have H1:(if 0≤(wrap64 ((t175.length:Int)-1)) then (if (wrap64 ((t175.length:Int)-1))<(t175.length:Int) then (if ((rd_T98 t175 (wrap64 ((t175.length:Int)-1))).f0)=0 then (ergolaw13_R_Rule.j1 kj2 a0_0 l0_1 a0_2 l0_3 t174 t175 (Go.bits .and .i64 a0_2 15) 0) else (ergolaw13_R_Rule.j1 kj2 a0_0 l0_1 a0_2 l0_3 t174 (t175.set ((wrap64 ((t175.length:Int)-1)):Int).toNat (⟨0,(⟨#[88]⟩:ByteArray),0⟩:S98)) (Go.bits .and .i64 a0_2 15) 0)) else (none)) else (none))=some (r1,r2,r3,r4,r5):=by rw [if_pos rfl] at H;exact H
     clear H
     have H:=H1
     clear H1
     obtain ⟨ji18,hji18⟩:∃j_:Int,(wrap64 ((t175.length:Int)-1))=j_:=⟨_,rfl⟩
     replace H:(if 0≤(ji18) then (if (ji18)<(t175.length:Int) then (if ((rd_T98 t175 (ji18)).f0)=0 then (ergolaw13_R_Rule.j1 kj2 a0_0 l0_1 a0_2 l0_3 t174 t175 (Go.bits .and .i64 a0_2 15) 0) else (ergolaw13_R_Rule.j1 kj2 a0_0 l0_1 a0_2 l0_3 t174 (t175.set ((ji18):Int).toNat (⟨0,(⟨#[88]⟩:ByteArray),0⟩:S98)) (Go.bits .and .i64 a0_2 15) 0)) else (none)) else (none))=some (r1,r2,r3,r4,r5):=by first|(rw [hji18] at H;exact H)|(simp only [hji18] at H ⊢;exact H)
     have hji18w:(IntKind.i64.wrap ((t175.length:Int)-1))=ji18:=(i64_w _).trans hji18
     by_cases c19:0≤(ji18)
     ·rw [if_pos c19] at H
      have c19b0:decide (0≤(ji18))=true:=decide_eq_true c19
      clear c19
      (first|rw [c19b0]|(simp only [i64_w,i32_w];rw [c19b0])|skip)
      by_cases c20:(ji18)<(t175.length:Int)
      ·rw [if_pos c20] at H
       have c20b0:decide ((ji18)<(t175.length:Int))=true:=decide_eq_true c20
       clear c20
       by_cases c21:((rd_T98 t175 (ji18)).f0)=0
       ·rw [if_pos c21] at H
        have c21b0:(((rd_T98 t175 (ji18)).f0)==0)=true:=beq_iff_eq.mpr c21
        have c21b1:(((rd_T98 t175 (ji18)).f0) !=0)=false:=bne_eq_false_iff_eq.mpr c21
        clear c21
        have H':=aK_ H
        clear H
        have hnb22:=NB178_172.out
        have hnc22:=NB172_178.out
        have hnb23:=NB178_173.out
        have hnc23:=NB173_178.out
        obtain ⟨⟨hcz24_0,hcz24_1,hcz24_2,hcz24_3,hcz24_4⟩,hfz24_0,hfz24_1,hfz24_2,hfz24_3,hfz24_4⟩:=c5_ BK178.out
        have p179:0≤((ji18):Int):=of_decide_eq_true (by first|(with_reducible assumption)|assumption)
        have q179:(ji18)<(t175.length:Int):=of_decide_eq_true (by first|(with_reducible assumption)|assumption)
        obtain ⟨ad179,e179,hx179_0,hx179_1,hx179_2⟩:=at_T98 (Kd.R_reads' HO_179001.out).2.2 (ji18) p179 q179
        cases e179
        have hn179_0:ad179.block≠gb178:=Kd.own_blk (Kd.R_ne HO_179001.out BK178.out (by decide))
        replace hx179_0:=(cF_ (p:=⟨gb178,2,none⟩) (by first|(rw [aB_];exact hn179_0)|(show (Addr.add _ _).block≠_;rw [aB_];exact hn179_0)|exact hn179_0) (.int .i64 (Go.bits .and .i64 a0_2 15))).trans hx179_0
        replace hx179_1:=(cF_ (p:=⟨gb178,2,none⟩) (by first|(rw [aB_];exact hn179_0)|(show (Addr.add _ _).block≠_;rw [aB_];exact hn179_0)|exact hn179_0) (.int .i64 (Go.bits .and .i64 a0_2 15))).trans hx179_1
        replace hx179_2:=(cF_ (p:=⟨gb178,2,none⟩) (by first|(rw [aB_];exact hn179_0)|(show (Addr.add _ _).block≠_;rw [aB_];exact hn179_0)|exact hn179_0) (.int .i64 (Go.bits .and .i64 a0_2 15))).trans hx179_2
        clear hn179_0
        replace p179:=eq_true p179
        replace q179:=eq_true q179
        go_wp2
        go_meet
        case rel=>exact ⟨_,(t175),((Go.bits .and .i64 a0_2 15)),(.slice (some ad179) t175.length co9),H',⟨by have:=HJ2.out;first|omega|exact Nat.le_refl _⟩,⟨by (with_reducible repeat (first|apply Kd.R_alloc|apply Kd.R_drewN|apply Kd.R_drew));exact Kd.R_mono (Kd.R_far (p:=⟨gb178,2,none⟩) (Kd.R_types HO_179001.out BK178.out (by decide)) (fun _ hk=>hk.2) (.int .i64 (Go.bits .and .i64 a0_2 15))) (fun _ hk=>hk.1)⟩,⟨by (with_reducible repeat (first|refine bDN ?_ _|refine bD ?_|refine bA ?_ _));refine blk_far ?_ NB172_178.out _;(with_reducible repeat (first|refine bDN ?_ _|refine bD ?_|refine bA ?_ _));exact BK172.out⟩,⟨by (with_reducible repeat (first|refine bDN ?_ _|refine bD ?_|refine bA ?_ _));refine blk_far ?_ NB173_178.out _;(with_reducible repeat (first|refine bDN ?_ _|refine bD ?_|refine bA ?_ _));exact BK173.out⟩,⟨(by apply eC_;(with_reducible repeat (first|refine bDN ?_ _|refine bD ?_|refine bA ?_ _));apply b2_;(with_reducible repeat (first|refine bDN ?_ _|refine bD ?_|refine bA ?_ _));exact BK178.out;kernel_rfl)⟩,⟨(lB3_ HB.out GE172.out GE173.out GE178.out)⟩⟩
       ·rw [if_neg c21] at H
        have c21b0:(((rd_T98 t175 (ji18)).f0)==0)=false:=beq_eq_false_iff_ne.mpr c21
        have c21b1:(((rd_T98 t175 (ji18)).f0) !=0)=true:=bne_iff_ne.mpr c21
        obtain ⟨y180,hy180⟩:∃y_:List (S98),y_=(t175.set ((ji18):Int).toNat (⟨0,(⟨#[88]⟩:ByteArray),0⟩:S98)):=⟨_,rfl⟩
        replace H:(ergolaw13_R_Rule.j1 kj2 a0_0 l0_1 a0_2 l0_3 t174 y180 (Go.bits .and .i64 a0_2 15) 0)=some (r1,r2,r3,r4,r5):=by first|(rw [hy180];with_reducible exact H)|(have H2_:=(Option.bind_some _ _).symm.trans H;rw [hy180];with_reducible exact H2_)|(have H2_:=(Option.bind_some _ _).symm.trans H;with_reducible exact H2_)|with_reducible exact H|(rw [hy180];exact H)|exact H
        have Ny180:=aK_ hy180
        clear hy180
        have H':=aK_ H
        clear H
        have hnb26:=NB178_172.out
        have hnc26:=NB172_178.out
        have hnb27:=NB178_173.out
        have hnc27:=NB173_178.out
        obtain ⟨⟨hcz28_0,hcz28_1,hcz28_2,hcz28_3,hcz28_4⟩,hfz28_0,hfz28_1,hfz28_2,hfz28_3,hfz28_4⟩:=c5_ BK178.out
        go_wp2_with (first|((with_reducible refine gate_store (t:=34) (p:=22) rfl ?_);refine store_event (t:=34) (p:=22) (v:= ?vo_w29) (w1:=(wc.setCell ⟨gb178,2,none⟩ (.int .i64 (Go.bits .and .i64 a0_2 15)))) ?hg ?ho ?hn ?hr ?_;(case ho=>rfl);(case hg=>rfl);(case hn=>rfl);(case hr=>first|(go_simp;done)|(go_simp;rfl));intro w29 hw;have n0_:Aside0 (Kd.R k98 98 w29 w.heap.size (fun k_=>(w.heap.size≤k_)) (.slice Ao9 t175.length co9) t175):=⟨(by rw [hw];exact (by (with_reducible repeat (first|apply Kd.R_alloc|apply Kd.R_drewN|apply Kd.R_drew));exact Kd.R_mono (Kd.R_far (p:=⟨gb178,2,none⟩) (Kd.R_types HO_179001.out BK178.out (by decide)) (fun _ hk=>hk.2) (.int .i64 (Go.bits .and .i64 a0_2 15))) (fun _ hk=>hk.1)))⟩;have n1_:Aside0 (w29.heap[gb172]? =some (.cells #[.int .i64 a0_0,.slice A0_1 l0_1.length c0_1,.int .i64 a0_2,.slice A0_3 l0_3.length c0_3] 27 (0,0))):=⟨(by rw [hw];exact (by (with_reducible repeat (first|refine bDN ?_ _|refine bD ?_|refine bA ?_ _));refine blk_far ?_ NB172_178.out _;(with_reducible repeat (first|refine bDN ?_ _|refine bD ?_|refine bA ?_ _));exact BK172.out))⟩;have n2_:Aside0 (w29.heap[gb173]? =some (.cells #[.string (⟨#[]⟩:ByteArray),.slice none 0 0,.int .i64 0,.slice none 0 0,.int .i64 0] 37 (0,0))):=⟨(by rw [hw];exact (by (with_reducible repeat (first|refine bDN ?_ _|refine bD ?_|refine bA ?_ _));refine blk_far ?_ NB173_178.out _;(with_reducible repeat (first|refine bDN ?_ _|refine bD ?_|refine bA ?_ _));exact BK173.out))⟩;have n3_:Aside0 (w29.heap[gb178]? =some (.cells #[.string t174,.slice Ao9 t175.length co9,.int .i64 (Go.bits .and .i64 a0_2 15),.slice none 0 0,.int .i64 0] 37 (0,0))):=⟨(by rw [hw];exact ((by apply eC_;(with_reducible repeat (first|refine bDN ?_ _|refine bD ?_|refine bA ?_ _));apply b2_;(with_reducible repeat (first|refine bDN ?_ _|refine bD ?_|refine bA ?_ _));exact BK178.out;kernel_rfl)))⟩;have n4_:Aside0 (Below w.heap.size w w29):=⟨(by rw [hw];exact (lB3_ HB.out GE172.out GE173.out GE178.out))⟩;clear hw;clear HO_179001;clear BK172;clear BK173;clear BK178;clear HB;have HO_179001:=n0_;have BK172:=n1_;have BK173:=n2_;have BK178:=n3_;have HB:=n4_;clear n0_ n1_ n2_ n3_ n4_;obtain ⟨⟨hcz30_0,hcz30_1,hcz30_2,hcz30_3,hcz30_4⟩,hfz30_0,hfz30_1,hfz30_2,hfz30_3,hfz30_4⟩:=c5_ BK178.out;have p179:0≤((ji18):Int):=of_decide_eq_true (by first|(with_reducible assumption)|assumption);have q179:(ji18)<(t175.length:Int):=of_decide_eq_true (by first|(with_reducible assumption)|assumption);obtain ⟨ad179,e179,hx179_0,hx179_1,hx179_2⟩:=at_T98 (Kd.R_reads' HO_179001.out).2.2 (ji18) p179 q179;cases e179;replace p179:=eq_true p179;replace q179:=eq_true q179;have p25:0≤((ji18):Int):=of_decide_eq_true (by first|(with_reducible assumption)|assumption);have q25:((ji18):Int)<((t175.length:Int):Int):=of_decide_eq_true (by first|(with_reducible assumption)|assumption);obtain ⟨go25,co25,eo25,gb25,gl25,cl25,HG25⟩:=Kd.R_form HO_179001.out (by omega);(first|cases eo25|(injection eo25 with ea_ en_ ec_;(first|subst ea_|(injection ea_ with ea_;subst ea_));subst ec_;clear en_));have GB25:=aK_ gb25;have GG25:=aK_ HG25;clear gb25 gl25 HG25;(first|simp only [add_plain] at hx179_0|skip);(first|simp only [add_plain] at hx179_1|skip);(first|simp only [add_plain] at hx179_2|skip);obtain ⟨ce25,hcl25,hM25,hcc25,hfr25⟩:=Kd.R_elem HO_179001.out z98 ((ji18):Int) p25 q25;obtain rfl:=k98_openM hM25;have hx25_0:w29.cell? ⟨go25,((ji18):Int).toNat*3,none⟩=some (.int .i64 ((rd_T98 t175 (ji18)).f0)):=hcc25 0 _ rfl;have hx25_1:w29.cell? ⟨go25,((ji18):Int).toNat*3+1,none⟩=some (.string ((rd_T98 t175 (ji18)).f1)):=hcc25 1 _ rfl;have hx25_2:w29.cell? ⟨go25,((ji18):Int).toNat*3+2,none⟩=some (.int .i64 ((rd_T98 t175 (ji18)).f2)):=hcc25 2 _ rfl;have hf25_0:w29.frozen? ⟨go25,((ji18):Int).toNat*3,none⟩=false:=hfr25 0;have hf25_1:w29.frozen? ⟨go25,((ji18):Int).toNat*3+1,none⟩=false:=hfr25 1;have hf25_2:w29.frozen? ⟨go25,((ji18):Int).toNat*3+2,none⟩=false:=hfr25 2;clear hcl25 hcc25 hfr25 hM25;replace p25:=eq_true p25;replace q25:=eq_true q25;have HX31:=aK_ (show Kd.R k98 98 w29 w.heap.size (fun k_=>(w.heap.size≤k_)) (.slice (some ⟨go25,0,none⟩) t175.length co9) t175 from (rK_ HO_179001.out));obtain ⟨ce31,hcl31,hM31,hcc31,hfr31⟩:=Kd.R_elem HX31.out z98 ((ji18):Int) (of_decide_eq_true (by first|(with_reducible assumption)|assumption)) (by have h_:((ji18):Int)<((t175.length:Int):Int):=of_decide_eq_true (by first|(with_reducible assumption)|assumption);first|exact h_|(have e_:=(Kd.R_reads' HO_179001.out).1;omega)|simpa using h_);obtain rfl:=k98_openM hM31;have HP31:=Kd.R_seg HX31.out ((ji18):Int) (of_decide_eq_true (by first|(with_reducible assumption)|assumption)) (by have h_:((ji18):Int)<((t175.length:Int):Int):=of_decide_eq_true (by first|(with_reducible assumption)|assumption);first|exact h_|(have e_:=(Kd.R_reads' HO_179001.out).1;omega)|simpa using h_) (seg:=[.int .i64 0,.string (⟨#[88]⟩:ByteArray),.int .i64 0]) (j:=0) hcl31 hcc31 (show 3≤3 from by decide) (x':=(⟨0,(⟨#[88]⟩:ByteArray),0⟩:S98)) (k98_mkM _ _ _ (⟨0,(⟨#[88]⟩:ByteArray),0⟩:S98)) (fun _ hk=>hk);have hx31_0:=hcc31 0 _ rfl;(try simp only [show (k98).sz=3 from rfl,Nat.mul_one,Nat.add_zero] at hx31_0);have hf31_0:=hfr31 0;(try simp only [show (k98).sz=3 from rfl,Nat.mul_one,Nat.add_zero] at hf31_0);have hx31_1:=hcc31 1 _ rfl;(try simp only [show (k98).sz=3 from rfl,Nat.mul_one,Nat.add_zero] at hx31_1);have hf31_1:=hfr31 1;(try simp only [show (k98).sz=3 from rfl,Nat.mul_one,Nat.add_zero] at hf31_1);have hx31_2:=hcc31 2 _ rfl;(try simp only [show (k98).sz=3 from rfl,Nat.mul_one,Nat.add_zero] at hx31_2);have hf31_2:=hfr31 2;(try simp only [show (k98).sz=3 from rfl,Nat.mul_one,Nat.add_zero] at hf31_2);clear hcl31 hcc31 hfr31 hM31)|((with_reducible refine gate_store (t:=98) (p:=41) rfl ?_);refine store_event (t:=98) (p:=41) (v:= ?vo_w32) (w1:=(((w29.setCell ⟨go25,((ji18):Int).toNat*3,none⟩ (.int .i64 0)).setCell ⟨go25,((ji18):Int).toNat*3+1,none⟩ (.string (⟨#[88]⟩:ByteArray))).setCell ⟨go25,((ji18):Int).toNat*3+2,none⟩ (.int .i64 0))) ?hg ?ho ?hn ?hr ?_;(case ho=>rfl);(case hg=>rfl);(case hn=>rfl);(case hr=>first|(go_simp;done)|(go_simp;rfl));intro w32 hw;have hg:w29.grownBy w32 (some go25):=(by rw [hw];exact HP31.2);have hp_:Kd.R k98 98 w32 w.heap.size (fun k_=>(w.heap.size≤k_)) (.slice (some ⟨go25,0,none⟩) t175.length co9) y180:=(by rw [hw,Ny180.out];exact HP31.1);clear HP31;have n0_:=aK_ (hp_);have n1_:=aK_ (bG_ (g:=gb172) (o:= .cells #[.int .i64 a0_0,.slice A0_1 l0_1.length c0_1,.int .i64 a0_2,.slice A0_3 l0_3.length c0_3] 27 (0,0)) (bK_ BK172.out) hg (Kd.R_ne HO_179001.out BK172.out (by decide)));have n2_:=aK_ (bG_ (g:=gb173) (o:= .cells #[.string (⟨#[]⟩:ByteArray),.slice none 0 0,.int .i64 0,.slice none 0 0,.int .i64 0] 37 (0,0)) (bK_ BK173.out) hg (Kd.R_ne HO_179001.out BK173.out (by decide)));have n3_:=aK_ (bG_ (g:=gb178) (o:= .cells #[.string t174,.slice (some ⟨go25,0,none⟩) t175.length co9,.int .i64 (Go.bits .and .i64 a0_2 15),.slice none 0 0,.int .i64 0] 37 (0,0)) (bK_ BK178.out) hg (Kd.R_ne HO_179001.out BK178.out (by decide)));have n4_:=aK_ ((by rw [hw];exact lS_ (lS_ (lS_ (HB.out) GB25.out) GB25.out) GB25.out:Below w.heap.size w w32));clear HO_179001;clear BK172;clear BK173;clear BK178;clear HB;have HO_179001:=n0_;have BK172:=n1_;have BK173:=n2_;have BK178:=n3_;have HB:=n4_;clear n0_ n1_ n2_ n3_ n4_;clear hg hw hp_))
        go_meet
        case rel=>exact ⟨_,(y180),((Go.bits .and .i64 a0_2 15)),(.slice (some ⟨go25,0,none⟩) t175.length co9),H',⟨by have:=HJ2.out;first|omega|exact Nat.le_refl _⟩,⟨by (with_reducible repeat (first|apply Kd.R_alloc|apply Kd.R_drewN|apply Kd.R_drew));exact HO_179001.out⟩,⟨by (with_reducible repeat (first|refine bDN ?_ _|refine bD ?_|refine bA ?_ _));exact BK172.out⟩,⟨by (with_reducible repeat (first|refine bDN ?_ _|refine bD ?_|refine bA ?_ _));exact BK173.out⟩,⟨by (with_reducible repeat (first|refine bDN ?_ _|refine bD ?_|refine bA ?_ _));exact BK178.out⟩,⟨(lB3_ HB.out GE172.out GE173.out GE178.out)⟩⟩
      ·rw [if_neg c20] at H
       exact absurd H (by simp)
     ·rw [if_neg c19] at H
      exact absurd H (by simp)
    ·replace c17 := Bool.eq_false_iff.mpr c17
     subst c17
     have H1:(ergolaw13_R_Rule.j1 kj2 a0_0 l0_1 a0_2 l0_3 t174 t175 0 0)=some (r1,r2,r3,r4,r5):=by rw [if_neg (show ¬(false=true) by decide)] at H;exact H
     clear H
     have H:=H1
     clear H1
     have H':=aK_ H
     clear H
     go_wp2
     go_meet
     case rel=>exact ⟨_,(t175),(0),(.slice Ao9 t175.length co9),H',⟨by have:=HJ2.out;first|omega|exact Nat.le_refl _⟩,⟨by (with_reducible repeat (first|apply Kd.R_alloc|apply Kd.R_drewN|apply Kd.R_drew));exact HO_179001.out⟩,⟨by (with_reducible repeat (first|refine bDN ?_ _|refine bD ?_|refine bA ?_ _));exact BK172.out⟩,⟨by (with_reducible repeat (first|refine bDN ?_ _|refine bD ?_|refine bA ?_ _));exact BK173.out⟩,⟨by (with_reducible repeat (first|refine bDN ?_ _|refine bD ?_|refine bA ?_ _));exact BK178.out⟩,⟨(lB3_ HB.out GE172.out GE173.out GE178.out)⟩⟩
   case rest=>
    clear HC16
    try clear c1
    try clear p1
    try clear q1
    try clear hx1
    try clear c2
    try clear p2
    try clear q2
    try clear hx2
    try clear hf2
    try clear c3
    try clear hx3
    try clear hf3
    try clear c6
    try clear p6
    try clear c9
    try clear c11
    try clear c12
    try clear c15
    try clear c15b0
    try clear c17
    try clear p17
    try clear q17
    try clear hx17
    try clear c19
    try clear c19b0
    try clear c20
    try clear c20b0
    try clear c21
    try clear c21b0
    try clear c21b1
    try clear c22
    try clear c23
    try clear c25
    try clear p25
    try clear q25
    try clear hx25
    try clear hf25
    try clear c26
    try clear c27
    try clear c31
    try clear hx31
    try clear hf31
    try clear hcz13_0
    try clear hcz13_1
    try clear hcz13_2
    try clear hcz13_3
    try clear hcz13_4
    try clear hcz14_0
    try clear hcz14_1
    try clear hcz14_2
    try clear hcz14_3
    try clear hcz24_0
    try clear hcz24_1
    try clear hcz24_2
    try clear hcz24_3
    try clear hcz24_4
    try clear hcz28_0
    try clear hcz28_1
    try clear hcz28_2
    try clear hcz28_3
    try clear hcz28_4
    try clear hcz30_0
    try clear hcz30_1
    try clear hcz30_2
    try clear hcz30_3
    try clear hcz30_4
    try clear hcz7_0
    try clear hcz7_1
    try clear hcz7_2
    try clear hcz7_3
    try clear hfz13_0
    try clear hfz13_1
    try clear hfz13_2
    try clear hfz13_3
    try clear hfz13_4
    try clear hfz14_0
    try clear hfz14_1
    try clear hfz14_2
    try clear hfz14_3
    try clear hfz24_0
    try clear hfz24_1
    try clear hfz24_2
    try clear hfz24_3
    try clear hfz24_4
    try clear hfz28_0
    try clear hfz28_1
    try clear hfz28_2
    try clear hfz28_3
    try clear hfz28_4
    try clear hfz30_0
    try clear hfz30_1
    try clear hfz30_2
    try clear hfz30_3
    try clear hfz30_4
    try clear hfz7_0
    try clear hfz7_1
    try clear hfz7_2
    try clear hfz7_3
    try clear hx179_0
    try clear hx179_1
    try clear hx179_2
    try clear hx25_0
    try clear hx25_1
    try clear hx25_2
    try clear hx31_0
    try clear hx31_1
    try clear hx31_2
    try clear p179
    try clear p2
    try clear p25
    try clear q179
    try clear q25
    obtain ⟨kq,x179001_15,x179002_15,u179001,HA,HJ15,HO_179001,BK172,BK173,BK178,HB⟩:=hcut
    cases kq with
    |zero=>exact absurd HA.out (by simp [ergolaw13_R_Rule.j1])
    |succ kj15=>
     have H:=HA.out
     clear HA
     simp only [ergolaw13_R_Rule.j1] at H
     have H':=aK_ H
     clear H
     have hnb33:=NB172_173.out
     have hnc33:=NB173_172.out
     have hnb34:=NB172_178.out
     have hnc34:=NB178_172.out
     obtain ⟨⟨hcz35_0,hcz35_1,hcz35_2,hcz35_3⟩,hfz35_0,hfz35_1,hfz35_2,hfz35_3⟩:=c4_ BK172.out
     go_wp2
     go_loopg [45] kj15 (fun kq v45 w'=>∃(x45_3:Int) (x179003_3:List (S106)) (u179003:Value),v45= .int .i64 x45_3∧Aside0 (ergolaw13_R_Rule.l0 kq l0_3 (l0_3.length:Int) x45_3 t174 x179001_15 x179002_15 x179003_3 0=some (r1,r2,r3,r4,r5))∧Aside0 (kq≤kj15)∧Aside0 (Kd.R k98 98 w' w.heap.size (fun k_=>(w.heap.size≤k_)) u179001 x179001_15)∧Aside0 (Kd.N k106 106 w' w.heap.size (fun k_=>(w.heap.size≤k_)∧some k_≠(u179001:Value).ownBlock∧k_≠gb172∧k_≠gb173∧k_≠gb178) u179003 x179003_3)∧Aside0 (w'.heap[gb172]? =some (.cells #[.int .i64 a0_0,(.slice A0_1 l0_1.length c0_1),.int .i64 a0_2,(.slice A0_3 l0_3.length c0_3)] 27 (0,0)))∧Aside0 (w'.heap[gb173]? =some (.cells #[.string (⟨#[]⟩:ByteArray),(.slice none 0 0),.int .i64 0,(.slice none 0 0),.int .i64 0] 37 (0,0)))∧Aside0 (w'.heap[gb178]? =some (.cells #[.string t174,u179001,.int .i64 x179002_15,u179003,.int .i64 0] 37 (0,0)))∧Aside0 (Below w.heap.size w w'))
     case atStart=>exact ⟨(0),(([]:List (S106))),(.slice none 0 0),(by first|rfl|(simp;done)|(simp [*];done)),H',⟨Nat.le_refl _⟩,⟨by (with_reducible repeat (first|apply Kd.R_alloc|apply Kd.R_drewN|apply Kd.R_drew));exact HO_179001.out⟩,⟨by first|exact Kd.R_nil _ _ _ _ _|exact Kd.N_nil _ _ _ _ _|exact Kd.V_nil _ _ _ _ _|exact Kd.Q_nil _ _ _ _ _|exact Kd.S_nil _ _ _ _ _⟩,⟨by (with_reducible repeat (first|refine bDN ?_ _|refine bD ?_|refine bA ?_ _));exact BK172.out⟩,⟨by (with_reducible repeat (first|refine bDN ?_ _|refine bD ?_|refine bA ?_ _));exact BK173.out⟩,⟨by (with_reducible repeat (first|refine bDN ?_ _|refine bD ?_|refine bA ?_ _));exact BK178.out⟩,⟨(lB3_ HB.out GE172.out GE173.out GE178.out)⟩⟩
     case round=>
      clear H'
      try clear c1
      try clear p1
      try clear q1
      try clear hx1
      try clear c2
      try clear p2
      try clear q2
      try clear hx2
      try clear hf2
      try clear c3
      try clear hx3
      try clear hf3
      try clear c6
      try clear p6
      try clear c9
      try clear c11
      try clear c12
      try clear c15
      try clear c15b0
      try clear c17
      try clear p17
      try clear q17
      try clear hx17
      try clear c19
      try clear c19b0
      try clear c20
      try clear c20b0
      try clear c21
      try clear c21b0
      try clear c21b1
      try clear c22
      try clear c23
      try clear c25
      try clear p25
      try clear q25
      try clear hx25
      try clear hf25
      try clear c26
      try clear c27
      try clear c31
      try clear hx31
      try clear hf31
      try clear c33
      try clear c34
      try clear hcz13_0
      try clear hcz13_1
      try clear hcz13_2
      try clear hcz13_3
      try clear hcz13_4
      try clear hcz14_0
      try clear hcz14_1
      try clear hcz14_2
      try clear hcz14_3
      try clear hcz24_0
      try clear hcz24_1
      try clear hcz24_2
      try clear hcz24_3
      try clear hcz24_4
      try clear hcz28_0
      try clear hcz28_1
      try clear hcz28_2
      try clear hcz28_3
      try clear hcz28_4
      try clear hcz30_0
      try clear hcz30_1
      try clear hcz30_2
      try clear hcz30_3
      try clear hcz30_4
      try clear hcz35_0
      try clear hcz35_1
      try clear hcz35_2
      try clear hcz35_3
      try clear hcz7_0
      try clear hcz7_1
      try clear hcz7_2
      try clear hcz7_3
      try clear hfz13_0
      try clear hfz13_1
      try clear hfz13_2
      try clear hfz13_3
      try clear hfz13_4
      try clear hfz14_0
      try clear hfz14_1
      try clear hfz14_2
      try clear hfz14_3
      try clear hfz24_0
      try clear hfz24_1
      try clear hfz24_2
      try clear hfz24_3
      try clear hfz24_4
      try clear hfz28_0
      try clear hfz28_1
      try clear hfz28_2
      try clear hfz28_3
      try clear hfz28_4
      try clear hfz30_0
      try clear hfz30_1
      try clear hfz30_2
      try clear hfz30_3
      try clear hfz30_4
      try clear hfz35_0
      try clear hfz35_1
      try clear hfz35_2
      try clear hfz35_3
      try clear hfz7_0
      try clear hfz7_1
      try clear hfz7_2
      try clear hfz7_3
      try clear hx179_0
      try clear hx179_1
      try clear hx179_2
      try clear hx25_0
      try clear hx25_1
      try clear hx25_2
      try clear hx31_0
      try clear hx31_1
      try clear hx31_2
      try clear p1
      try clear p17
      try clear p179
      try clear p2
      try clear p25
      try clear p6
      try clear q1
      try clear q17
      try clear q179
      try clear q2
      try clear q25
      obtain ⟨x45_3,x179003_3,u179003,rfl,HA,HK3,HO_179001,HO_179003,BK172,BK173,BK178,HB⟩:=hrel
      cases gk with
      |zero=>exact absurd HA.out (by simp [ergolaw13_R_Rule.l0])
      |succ k3=>
       have H:=HA.out
       clear HA
       simp only [ergolaw13_R_Rule.l0] at H
       by_cases c36:x45_3<(l0_3.length:Int)
       ·rw [if_pos c36] at H
        have c36b0:decide (x45_3<(l0_3.length:Int))=true:=decide_eq_true c36
        clear c36
        by_cases c37:0≤x45_3
        ·rw [if_pos c37] at H
         have c37b0:decide (0≤x45_3)=true:=decide_eq_true c37
         clear c37
         by_cases c38:x45_3<(l0_3.length:Int)
         ·rw [if_pos c38] at H
          have c38b0:decide (x45_3<(l0_3.length:Int))=true:=decide_eq_true c38
          clear c38
          replace H:=Option.bind_eq_some_iff.mp H
          obtain ⟨⟨t183,t184,t185,t188,t189,t190,t191,t192,t193,t194,t195,t196,t197,t198,t199,t200⟩,A390,H⟩:=H
          replace H:(if x179003_3.length<703687441776 then (ergolaw13_R_Rule.l0 k3 l0_3 (l0_3.length:Int) (wrap64 (x45_3+1)) t174 x179001_15 x179002_15 (x179003_3++[(⟨t183,(⟨t184,t185⟩:S33),t188,(⟨t189,t190,t191⟩:S98),(⟨t192,t193,t194⟩:S98),t195,(⟨(⟨t196,t197,t198⟩:S98),t199,t200⟩:S104)⟩:S106)]) 0) else (none))=some (r1,r2,r3,r4,r5):=H
          have A39:=aK_ A390
          clear A390
          by_cases c40:x179003_3.length<703687441776
          ·rw [if_pos c40] at H
           have LMc40:=aK_ c40
           clear c40
           obtain ⟨y203,hy203⟩:∃y_:List (S106),y_=(x179003_3++[(⟨t183,(⟨t184,t185⟩:S33),t188,(⟨t189,t190,t191⟩:S98),(⟨t192,t193,t194⟩:S98),t195,(⟨(⟨t196,t197,t198⟩:S98),t199,t200⟩:S104)⟩:S106)]):=⟨_,rfl⟩
           replace H:(ergolaw13_R_Rule.l0 k3 l0_3 (l0_3.length:Int) (wrap64 (x45_3+1)) t174 x179001_15 x179002_15 y203 0)=some (r1,r2,r3,r4,r5):=by first|(rw [hy203];with_reducible exact H)|(have H2_:=(Option.bind_some _ _).symm.trans H;rw [hy203];with_reducible exact H2_)|(have H2_:=(Option.bind_some _ _).symm.trans H;with_reducible exact H2_)|with_reducible exact H|(rw [hy203];exact H)|exact H
           have Ny203:=aK_ hy203
           clear hy203
           have H':=aK_ H
           clear H
           have p181:0≤(x45_3:Int):=of_decide_eq_true (by first|(with_reducible assumption)|assumption)
           have q181:x45_3<(l0_3.length:Int):=of_decide_eq_true (by first|(with_reducible assumption)|assumption)
           obtain ⟨ad181,A181_3,c181_3,A181_14,c181_14,e181,hx181_0,hx181_1,hx181_2,hx181_3,hx181_4,hx181_5,hx181_6,hx181_7,hx181_8,hx181_9,hx181_10,hx181_11,hx181_12,hx181_13,hx181_14,hl181_3,hi181_3,hl181_14,hi181_14⟩:=at_T94 HR0_3.out x45_3 p181 q181
           cases e181
           replace hx181_0:=(HB.out.cell (wb_ w _ hx181_0)).trans hx181_0
           replace hx181_1:=(HB.out.cell (wb_ w _ hx181_1)).trans hx181_1
           replace hx181_2:=(HB.out.cell (wb_ w _ hx181_2)).trans hx181_2
           replace hx181_3:=(HB.out.cell (wb_ w _ hx181_3)).trans hx181_3
           replace hx181_4:=(HB.out.cell (wb_ w _ hx181_4)).trans hx181_4
           replace hx181_5:=(HB.out.cell (wb_ w _ hx181_5)).trans hx181_5
           replace hx181_6:=(HB.out.cell (wb_ w _ hx181_6)).trans hx181_6
           replace hx181_7:=(HB.out.cell (wb_ w _ hx181_7)).trans hx181_7
           replace hx181_8:=(HB.out.cell (wb_ w _ hx181_8)).trans hx181_8
           replace hx181_9:=(HB.out.cell (wb_ w _ hx181_9)).trans hx181_9
           replace hx181_10:=(HB.out.cell (wb_ w _ hx181_10)).trans hx181_10
           replace hx181_11:=(HB.out.cell (wb_ w _ hx181_11)).trans hx181_11
           replace hx181_12:=(HB.out.cell (wb_ w _ hx181_12)).trans hx181_12
           replace hx181_13:=(HB.out.cell (wb_ w _ hx181_13)).trans hx181_13
           replace hx181_14:=(HB.out.cell (wb_ w _ hx181_14)).trans hx181_14
           have HR181_3:=aK_ hi181_3
           have HC181_3:=aK_ hl181_3
           clear hi181_3 hl181_3
           have HR181_14:=aK_ hi181_14
           have HC181_14:=aK_ hl181_14
           clear hi181_14 hl181_14
           replace p181:=eq_true p181
           replace q181:=eq_true q181
           try go_wp2_with (first|((with_reducible refine gate_dst (N:=7) rfl ?_);refine box_event ?hg (N:=7) ?hd (cs:= #[.int .i64 0,.int .i64 0,.int .i64 0,.slice none 0 0,.int .i64 0,.int .i64 0,.int .i64 0,.int .i64 0,.int .i64 0,.int .i64 0,.int .i64 0,.int .i64 0,.int .i64 0,.int .i64 0,.slice none 0 0]) (t:=94) ?hr ?_;(case hd=>rfl);(case hg=>rfl);(case hr=>first|(go_simp;done)|(go_simp;rfl));intro gb182 hg w41 hbox hb;have n0_:=aK_ (Kd.R_below (rK_ HO_179001.out) hb);have n1_:=aK_ (Kd.N_below (Kd.N_elderB (nK_ HO_179003.out) gb182 (Nat.le_of_eq hg.symm)) hb);have n2_:=aK_ (bB (bK_ BK172.out) hb);have n3_:=aK_ (bB (bK_ BK173.out) hb);have n4_:=aK_ (bB (bK_ BK178.out) hb);have n5_:=aK_ (lT_ (lB3_ HB.out GE172.out GE173.out GE178.out) hb);have n6_:=aK_ (hbox);have n7_:=aK_ ((by rw [hg];exact (lZ_ (lB3_ HB.out GE172.out GE173.out GE178.out)):w.heap.size≤gb182));have n8_:=aK_ ((by rw [hg];exact (lZ_ (lB3_ HB.out GE172.out GE173.out GE178.out)):w.heap.size≤gb182));have n9_:=aK_ ((by rw [hg];exact Nat.ne_of_lt (blk_lt (g:=gb172) (o:= .cells #[.int .i64 a0_0,.slice A0_1 l0_1.length c0_1,.int .i64 a0_2,.slice (some ad181) l0_3.length c0_3] 27 (0,0)) (bK_ BK172.out)):gb172≠gb182));have n10_:=aK_ ((by rw [hg];exact Nat.ne_of_gt (blk_lt (g:=gb172) (o:= .cells #[.int .i64 a0_0,.slice A0_1 l0_1.length c0_1,.int .i64 a0_2,.slice (some ad181) l0_3.length c0_3] 27 (0,0)) (bK_ BK172.out)):gb182≠gb172));have n11_:=aK_ ((by rw [hg];exact Nat.ne_of_lt (blk_lt (g:=gb173) (o:= .cells #[.string (⟨#[]⟩:ByteArray),.slice none 0 0,.int .i64 0,.slice none 0 0,.int .i64 0] 37 (0,0)) (bK_ BK173.out)):gb173≠gb182));have n12_:=aK_ ((by rw [hg];exact Nat.ne_of_gt (blk_lt (g:=gb173) (o:= .cells #[.string (⟨#[]⟩:ByteArray),.slice none 0 0,.int .i64 0,.slice none 0 0,.int .i64 0] 37 (0,0)) (bK_ BK173.out)):gb182≠gb173));have n13_:=aK_ ((by rw [hg];exact Nat.ne_of_lt (blk_lt (g:=gb178) (o:= .cells #[.string t174,u179001,.int .i64 x179002_15,u179003,.int .i64 0] 37 (0,0)) (bK_ BK178.out)):gb178≠gb182));have n14_:=aK_ ((by rw [hg];exact Nat.ne_of_gt (blk_lt (g:=gb178) (o:= .cells #[.string t174,u179001,.int .i64 x179002_15,u179003,.int .i64 0] 37 (0,0)) (bK_ BK178.out)):gb182≠gb178));clear HO_179001;clear HO_179003;clear BK172;clear BK173;clear BK178;clear HB;have HO_179001:=n0_;have HO_179003:=n1_;have BK172:=n2_;have BK173:=n3_;have BK178:=n4_;have HB:=n5_;have BK182:=n6_;have GW182:=n7_;have GE182:=n8_;have NB172_182:=n9_;have NB182_172:=n10_;have NB173_182:=n11_;have NB182_173:=n12_;have NB178_182:=n13_;have NB182_178:=n14_;clear n0_ n1_ n2_ n3_ n4_ n5_ n6_ n7_ n8_ n9_ n10_ n11_ n12_ n13_ n14_;clear hb hbox hg;have hnb42:=NB182_172.out;have hnc42:=NB172_182.out;have hnb43:=NB182_173.out;have hnc43:=NB173_182.out;have hnb44:=NB182_178.out;have hnc44:=NB178_182.out;obtain ⟨⟨hcz45_0,hcz45_1,hcz45_2,hcz45_3,hcz45_4,hcz45_5,hcz45_6,hcz45_7,hcz45_8,hcz45_9,hcz45_10,hcz45_11,hcz45_12,hcz45_13,hcz45_14⟩,hfz45_0,hfz45_1,hfz45_2,hfz45_3,hfz45_4,hfz45_5,hfz45_6,hfz45_7,hfz45_8,hfz45_9,hfz45_10,hfz45_11,hfz45_12,hfz45_13,hfz45_14⟩:=c15_ BK182.out))
           have n0_:Aside0 (Kd.R k98 98 (((((((((((((((w41.setCell ⟨gb182,0,none⟩ (.int .i64 ((rd_T94 l0_3 x45_3).f0))).setCell ⟨gb182,1,none⟩ (.int .i64 ((rd_T94 l0_3 x45_3).f1))).setCell ⟨gb182,2,none⟩ (.int .i64 ((rd_T94 l0_3 x45_3).f2.f0))).setCell ⟨gb182,3,none⟩ (.slice A181_3 ((rd_T94 l0_3 x45_3).f2.f1).length c181_3)).setCell ⟨gb182,4,none⟩ (.int .i64 ((rd_T94 l0_3 x45_3).f3.f0))).setCell ⟨gb182,5,none⟩ (.int .i64 ((rd_T94 l0_3 x45_3).f3.f1))).setCell ⟨gb182,6,none⟩ (.int .i64 ((rd_T94 l0_3 x45_3).f3.f2))).setCell ⟨gb182,7,none⟩ (.int .i64 ((rd_T94 l0_3 x45_3).f4.f0))).setCell ⟨gb182,8,none⟩ (.int .i64 ((rd_T94 l0_3 x45_3).f4.f1))).setCell ⟨gb182,9,none⟩ (.int .i64 ((rd_T94 l0_3 x45_3).f4.f2))).setCell ⟨gb182,10,none⟩ (.int .i64 ((rd_T94 l0_3 x45_3).f5.f0.f0))).setCell ⟨gb182,11,none⟩ (.int .i64 ((rd_T94 l0_3 x45_3).f5.f0.f1))).setCell ⟨gb182,12,none⟩ (.int .i64 ((rd_T94 l0_3 x45_3).f5.f0.f2))).setCell ⟨gb182,13,none⟩ (.int .i64 ((rd_T94 l0_3 x45_3).f5.f1))).setCell ⟨gb182,14,none⟩ (.slice A181_14 ((rd_T94 l0_3 x45_3).f5.f2).length c181_14)) w.heap.size (fun k_=>(w.heap.size≤k_)) u179001 x179001_15):=⟨by (with_reducible repeat (first|apply Kd.R_alloc|apply Kd.R_drewN|apply Kd.R_drew));exact Kd.R_mono (Kd.R_far (p:=⟨gb182,14,none⟩) (Kd.R_far (p:=⟨gb182,13,none⟩) (Kd.R_far (p:=⟨gb182,12,none⟩) (Kd.R_far (p:=⟨gb182,11,none⟩) (Kd.R_far (p:=⟨gb182,10,none⟩) (Kd.R_far (p:=⟨gb182,9,none⟩) (Kd.R_far (p:=⟨gb182,8,none⟩) (Kd.R_far (p:=⟨gb182,7,none⟩) (Kd.R_far (p:=⟨gb182,6,none⟩) (Kd.R_far (p:=⟨gb182,5,none⟩) (Kd.R_far (p:=⟨gb182,4,none⟩) (Kd.R_far (p:=⟨gb182,3,none⟩) (Kd.R_far (p:=⟨gb182,2,none⟩) (Kd.R_far (p:=⟨gb182,1,none⟩) (Kd.R_far (p:=⟨gb182,0,none⟩) (Kd.R_types HO_179001.out BK182.out (by decide)) (fun _ hk=>hk.2) (.int .i64 ((rd_T94 l0_3 x45_3).f0))) (fun _ hk=>hk.2) (.int .i64 ((rd_T94 l0_3 x45_3).f1))) (fun _ hk=>hk.2) (.int .i64 ((rd_T94 l0_3 x45_3).f2.f0))) (fun _ hk=>hk.2) (.slice A181_3 ((rd_T94 l0_3 x45_3).f2.f1).length c181_3)) (fun _ hk=>hk.2) (.int .i64 ((rd_T94 l0_3 x45_3).f3.f0))) (fun _ hk=>hk.2) (.int .i64 ((rd_T94 l0_3 x45_3).f3.f1))) (fun _ hk=>hk.2) (.int .i64 ((rd_T94 l0_3 x45_3).f3.f2))) (fun _ hk=>hk.2) (.int .i64 ((rd_T94 l0_3 x45_3).f4.f0))) (fun _ hk=>hk.2) (.int .i64 ((rd_T94 l0_3 x45_3).f4.f1))) (fun _ hk=>hk.2) (.int .i64 ((rd_T94 l0_3 x45_3).f4.f2))) (fun _ hk=>hk.2) (.int .i64 ((rd_T94 l0_3 x45_3).f5.f0.f0))) (fun _ hk=>hk.2) (.int .i64 ((rd_T94 l0_3 x45_3).f5.f0.f1))) (fun _ hk=>hk.2) (.int .i64 ((rd_T94 l0_3 x45_3).f5.f0.f2))) (fun _ hk=>hk.2) (.int .i64 ((rd_T94 l0_3 x45_3).f5.f1))) (fun _ hk=>hk.2) (.slice A181_14 ((rd_T94 l0_3 x45_3).f5.f2).length c181_14)) (fun _ hk=>hk.1)⟩
           have n1_:Aside0 (Kd.N k106 106 (((((((((((((((w41.setCell ⟨gb182,0,none⟩ (.int .i64 ((rd_T94 l0_3 x45_3).f0))).setCell ⟨gb182,1,none⟩ (.int .i64 ((rd_T94 l0_3 x45_3).f1))).setCell ⟨gb182,2,none⟩ (.int .i64 ((rd_T94 l0_3 x45_3).f2.f0))).setCell ⟨gb182,3,none⟩ (.slice A181_3 ((rd_T94 l0_3 x45_3).f2.f1).length c181_3)).setCell ⟨gb182,4,none⟩ (.int .i64 ((rd_T94 l0_3 x45_3).f3.f0))).setCell ⟨gb182,5,none⟩ (.int .i64 ((rd_T94 l0_3 x45_3).f3.f1))).setCell ⟨gb182,6,none⟩ (.int .i64 ((rd_T94 l0_3 x45_3).f3.f2))).setCell ⟨gb182,7,none⟩ (.int .i64 ((rd_T94 l0_3 x45_3).f4.f0))).setCell ⟨gb182,8,none⟩ (.int .i64 ((rd_T94 l0_3 x45_3).f4.f1))).setCell ⟨gb182,9,none⟩ (.int .i64 ((rd_T94 l0_3 x45_3).f4.f2))).setCell ⟨gb182,10,none⟩ (.int .i64 ((rd_T94 l0_3 x45_3).f5.f0.f0))).setCell ⟨gb182,11,none⟩ (.int .i64 ((rd_T94 l0_3 x45_3).f5.f0.f1))).setCell ⟨gb182,12,none⟩ (.int .i64 ((rd_T94 l0_3 x45_3).f5.f0.f2))).setCell ⟨gb182,13,none⟩ (.int .i64 ((rd_T94 l0_3 x45_3).f5.f1))).setCell ⟨gb182,14,none⟩ (.slice A181_14 ((rd_T94 l0_3 x45_3).f5.f2).length c181_14)) w.heap.size (fun k_=>(w.heap.size≤k_)∧some k_≠(u179001:Value).ownBlock∧k_≠gb172∧k_≠gb173∧k_≠gb178∧k_≠gb182) u179003 x179003_3):=⟨by (with_reducible repeat (first|apply Kd.N_alloc|apply Kd.N_drewN|apply Kd.N_drew));exact Kd.N_mono (Kd.N_far (p:=⟨gb182,14,none⟩) (Kd.N_far (p:=⟨gb182,13,none⟩) (Kd.N_far (p:=⟨gb182,12,none⟩) (Kd.N_far (p:=⟨gb182,11,none⟩) (Kd.N_far (p:=⟨gb182,10,none⟩) (Kd.N_far (p:=⟨gb182,9,none⟩) (Kd.N_far (p:=⟨gb182,8,none⟩) (Kd.N_far (p:=⟨gb182,7,none⟩) (Kd.N_far (p:=⟨gb182,6,none⟩) (Kd.N_far (p:=⟨gb182,5,none⟩) (Kd.N_far (p:=⟨gb182,4,none⟩) (Kd.N_far (p:=⟨gb182,3,none⟩) (Kd.N_far (p:=⟨gb182,2,none⟩) (Kd.N_far (p:=⟨gb182,1,none⟩) (Kd.N_far (p:=⟨gb182,0,none⟩) (Kd.N_mono HO_179003.out (fun k_ hk=>(⟨hk,hk.2⟩:_∧k_≠gb182))) (fun _ hk=>hk.2) (.int .i64 ((rd_T94 l0_3 x45_3).f0))) (fun _ hk=>hk.2) (.int .i64 ((rd_T94 l0_3 x45_3).f1))) (fun _ hk=>hk.2) (.int .i64 ((rd_T94 l0_3 x45_3).f2.f0))) (fun _ hk=>hk.2) (.slice A181_3 ((rd_T94 l0_3 x45_3).f2.f1).length c181_3)) (fun _ hk=>hk.2) (.int .i64 ((rd_T94 l0_3 x45_3).f3.f0))) (fun _ hk=>hk.2) (.int .i64 ((rd_T94 l0_3 x45_3).f3.f1))) (fun _ hk=>hk.2) (.int .i64 ((rd_T94 l0_3 x45_3).f3.f2))) (fun _ hk=>hk.2) (.int .i64 ((rd_T94 l0_3 x45_3).f4.f0))) (fun _ hk=>hk.2) (.int .i64 ((rd_T94 l0_3 x45_3).f4.f1))) (fun _ hk=>hk.2) (.int .i64 ((rd_T94 l0_3 x45_3).f4.f2))) (fun _ hk=>hk.2) (.int .i64 ((rd_T94 l0_3 x45_3).f5.f0.f0))) (fun _ hk=>hk.2) (.int .i64 ((rd_T94 l0_3 x45_3).f5.f0.f1))) (fun _ hk=>hk.2) (.int .i64 ((rd_T94 l0_3 x45_3).f5.f0.f2))) (fun _ hk=>hk.2) (.int .i64 ((rd_T94 l0_3 x45_3).f5.f1))) (fun _ hk=>hk.2) (.slice A181_14 ((rd_T94 l0_3 x45_3).f5.f2).length c181_14)) (fun _ hk=>⟨hk.1.1.1,⟨hk.1.1.2.1,⟨hk.1.1.2.2.1,⟨hk.1.1.2.2.2.1,⟨hk.1.1.2.2.2.2,hk.1.2⟩⟩⟩⟩⟩)⟩
           have n2_:Aside0 ((((((((((((((((w41.setCell ⟨gb182,0,none⟩ (.int .i64 ((rd_T94 l0_3 x45_3).f0))).setCell ⟨gb182,1,none⟩ (.int .i64 ((rd_T94 l0_3 x45_3).f1))).setCell ⟨gb182,2,none⟩ (.int .i64 ((rd_T94 l0_3 x45_3).f2.f0))).setCell ⟨gb182,3,none⟩ (.slice A181_3 ((rd_T94 l0_3 x45_3).f2.f1).length c181_3)).setCell ⟨gb182,4,none⟩ (.int .i64 ((rd_T94 l0_3 x45_3).f3.f0))).setCell ⟨gb182,5,none⟩ (.int .i64 ((rd_T94 l0_3 x45_3).f3.f1))).setCell ⟨gb182,6,none⟩ (.int .i64 ((rd_T94 l0_3 x45_3).f3.f2))).setCell ⟨gb182,7,none⟩ (.int .i64 ((rd_T94 l0_3 x45_3).f4.f0))).setCell ⟨gb182,8,none⟩ (.int .i64 ((rd_T94 l0_3 x45_3).f4.f1))).setCell ⟨gb182,9,none⟩ (.int .i64 ((rd_T94 l0_3 x45_3).f4.f2))).setCell ⟨gb182,10,none⟩ (.int .i64 ((rd_T94 l0_3 x45_3).f5.f0.f0))).setCell ⟨gb182,11,none⟩ (.int .i64 ((rd_T94 l0_3 x45_3).f5.f0.f1))).setCell ⟨gb182,12,none⟩ (.int .i64 ((rd_T94 l0_3 x45_3).f5.f0.f2))).setCell ⟨gb182,13,none⟩ (.int .i64 ((rd_T94 l0_3 x45_3).f5.f1))).setCell ⟨gb182,14,none⟩ (.slice A181_14 ((rd_T94 l0_3 x45_3).f5.f2).length c181_14)).heap[gb172]? =some (.cells #[.int .i64 a0_0,.slice A0_1 l0_1.length c0_1,.int .i64 a0_2,.slice (some ad181) l0_3.length c0_3] 27 (0,0))):=⟨by (with_reducible repeat (first|refine bDN ?_ _|refine bD ?_|refine bA ?_ _));refine blk_far ?_ NB172_182.out _;(with_reducible repeat (first|refine bDN ?_ _|refine bD ?_|refine bA ?_ _));refine blk_far ?_ NB172_182.out _;(with_reducible repeat (first|refine bDN ?_ _|refine bD ?_|refine bA ?_ _));refine blk_far ?_ NB172_182.out _;(with_reducible repeat (first|refine bDN ?_ _|refine bD ?_|refine bA ?_ _));refine blk_far ?_ NB172_182.out _;(with_reducible repeat (first|refine bDN ?_ _|refine bD ?_|refine bA ?_ _));refine blk_far ?_ NB172_182.out _;(with_reducible repeat (first|refine bDN ?_ _|refine bD ?_|refine bA ?_ _));refine blk_far ?_ NB172_182.out _;(with_reducible repeat (first|refine bDN ?_ _|refine bD ?_|refine bA ?_ _));refine blk_far ?_ NB172_182.out _;(with_reducible repeat (first|refine bDN ?_ _|refine bD ?_|refine bA ?_ _));refine blk_far ?_ NB172_182.out _;(with_reducible repeat (first|refine bDN ?_ _|refine bD ?_|refine bA ?_ _));refine blk_far ?_ NB172_182.out _;(with_reducible repeat (first|refine bDN ?_ _|refine bD ?_|refine bA ?_ _));refine blk_far ?_ NB172_182.out _;(with_reducible repeat (first|refine bDN ?_ _|refine bD ?_|refine bA ?_ _));refine blk_far ?_ NB172_182.out _;(with_reducible repeat (first|refine bDN ?_ _|refine bD ?_|refine bA ?_ _));refine blk_far ?_ NB172_182.out _;(with_reducible repeat (first|refine bDN ?_ _|refine bD ?_|refine bA ?_ _));refine blk_far ?_ NB172_182.out _;(with_reducible repeat (first|refine bDN ?_ _|refine bD ?_|refine bA ?_ _));refine blk_far ?_ NB172_182.out _;(with_reducible repeat (first|refine bDN ?_ _|refine bD ?_|refine bA ?_ _));refine blk_far ?_ NB172_182.out _;(with_reducible repeat (first|refine bDN ?_ _|refine bD ?_|refine bA ?_ _));exact BK172.out⟩
           have n3_:Aside0 ((((((((((((((((w41.setCell ⟨gb182,0,none⟩ (.int .i64 ((rd_T94 l0_3 x45_3).f0))).setCell ⟨gb182,1,none⟩ (.int .i64 ((rd_T94 l0_3 x45_3).f1))).setCell ⟨gb182,2,none⟩ (.int .i64 ((rd_T94 l0_3 x45_3).f2.f0))).setCell ⟨gb182,3,none⟩ (.slice A181_3 ((rd_T94 l0_3 x45_3).f2.f1).length c181_3)).setCell ⟨gb182,4,none⟩ (.int .i64 ((rd_T94 l0_3 x45_3).f3.f0))).setCell ⟨gb182,5,none⟩ (.int .i64 ((rd_T94 l0_3 x45_3).f3.f1))).setCell ⟨gb182,6,none⟩ (.int .i64 ((rd_T94 l0_3 x45_3).f3.f2))).setCell ⟨gb182,7,none⟩ (.int .i64 ((rd_T94 l0_3 x45_3).f4.f0))).setCell ⟨gb182,8,none⟩ (.int .i64 ((rd_T94 l0_3 x45_3).f4.f1))).setCell ⟨gb182,9,none⟩ (.int .i64 ((rd_T94 l0_3 x45_3).f4.f2))).setCell ⟨gb182,10,none⟩ (.int .i64 ((rd_T94 l0_3 x45_3).f5.f0.f0))).setCell ⟨gb182,11,none⟩ (.int .i64 ((rd_T94 l0_3 x45_3).f5.f0.f1))).setCell ⟨gb182,12,none⟩ (.int .i64 ((rd_T94 l0_3 x45_3).f5.f0.f2))).setCell ⟨gb182,13,none⟩ (.int .i64 ((rd_T94 l0_3 x45_3).f5.f1))).setCell ⟨gb182,14,none⟩ (.slice A181_14 ((rd_T94 l0_3 x45_3).f5.f2).length c181_14)).heap[gb173]? =some (.cells #[.string (⟨#[]⟩:ByteArray),.slice none 0 0,.int .i64 0,.slice none 0 0,.int .i64 0] 37 (0,0))):=⟨by (with_reducible repeat (first|refine bDN ?_ _|refine bD ?_|refine bA ?_ _));refine blk_far ?_ NB173_182.out _;(with_reducible repeat (first|refine bDN ?_ _|refine bD ?_|refine bA ?_ _));refine blk_far ?_ NB173_182.out _;(with_reducible repeat (first|refine bDN ?_ _|refine bD ?_|refine bA ?_ _));refine blk_far ?_ NB173_182.out _;(with_reducible repeat (first|refine bDN ?_ _|refine bD ?_|refine bA ?_ _));refine blk_far ?_ NB173_182.out _;(with_reducible repeat (first|refine bDN ?_ _|refine bD ?_|refine bA ?_ _));refine blk_far ?_ NB173_182.out _;(with_reducible repeat (first|refine bDN ?_ _|refine bD ?_|refine bA ?_ _));refine blk_far ?_ NB173_182.out _;(with_reducible repeat (first|refine bDN ?_ _|refine bD ?_|refine bA ?_ _));refine blk_far ?_ NB173_182.out _;(with_reducible repeat (first|refine bDN ?_ _|refine bD ?_|refine bA ?_ _));refine blk_far ?_ NB173_182.out _;(with_reducible repeat (first|refine bDN ?_ _|refine bD ?_|refine bA ?_ _));refine blk_far ?_ NB173_182.out _;(with_reducible repeat (first|refine bDN ?_ _|refine bD ?_|refine bA ?_ _));refine blk_far ?_ NB173_182.out _;(with_reducible repeat (first|refine bDN ?_ _|refine bD ?_|refine bA ?_ _));refine blk_far ?_ NB173_182.out _;(with_reducible repeat (first|refine bDN ?_ _|refine bD ?_|refine bA ?_ _));refine blk_far ?_ NB173_182.out _;(with_reducible repeat (first|refine bDN ?_ _|refine bD ?_|refine bA ?_ _));refine blk_far ?_ NB173_182.out _;(with_reducible repeat (first|refine bDN ?_ _|refine bD ?_|refine bA ?_ _));refine blk_far ?_ NB173_182.out _;(with_reducible repeat (first|refine bDN ?_ _|refine bD ?_|refine bA ?_ _));refine blk_far ?_ NB173_182.out _;(with_reducible repeat (first|refine bDN ?_ _|refine bD ?_|refine bA ?_ _));exact BK173.out⟩
           have n4_:Aside0 ((((((((((((((((w41.setCell ⟨gb182,0,none⟩ (.int .i64 ((rd_T94 l0_3 x45_3).f0))).setCell ⟨gb182,1,none⟩ (.int .i64 ((rd_T94 l0_3 x45_3).f1))).setCell ⟨gb182,2,none⟩ (.int .i64 ((rd_T94 l0_3 x45_3).f2.f0))).setCell ⟨gb182,3,none⟩ (.slice A181_3 ((rd_T94 l0_3 x45_3).f2.f1).length c181_3)).setCell ⟨gb182,4,none⟩ (.int .i64 ((rd_T94 l0_3 x45_3).f3.f0))).setCell ⟨gb182,5,none⟩ (.int .i64 ((rd_T94 l0_3 x45_3).f3.f1))).setCell ⟨gb182,6,none⟩ (.int .i64 ((rd_T94 l0_3 x45_3).f3.f2))).setCell ⟨gb182,7,none⟩ (.int .i64 ((rd_T94 l0_3 x45_3).f4.f0))).setCell ⟨gb182,8,none⟩ (.int .i64 ((rd_T94 l0_3 x45_3).f4.f1))).setCell ⟨gb182,9,none⟩ (.int .i64 ((rd_T94 l0_3 x45_3).f4.f2))).setCell ⟨gb182,10,none⟩ (.int .i64 ((rd_T94 l0_3 x45_3).f5.f0.f0))).setCell ⟨gb182,11,none⟩ (.int .i64 ((rd_T94 l0_3 x45_3).f5.f0.f1))).setCell ⟨gb182,12,none⟩ (.int .i64 ((rd_T94 l0_3 x45_3).f5.f0.f2))).setCell ⟨gb182,13,none⟩ (.int .i64 ((rd_T94 l0_3 x45_3).f5.f1))).setCell ⟨gb182,14,none⟩ (.slice A181_14 ((rd_T94 l0_3 x45_3).f5.f2).length c181_14)).heap[gb178]? =some (.cells #[.string t174,u179001,.int .i64 x179002_15,u179003,.int .i64 0] 37 (0,0))):=⟨by (with_reducible repeat (first|refine bDN ?_ _|refine bD ?_|refine bA ?_ _));refine blk_far ?_ NB178_182.out _;(with_reducible repeat (first|refine bDN ?_ _|refine bD ?_|refine bA ?_ _));refine blk_far ?_ NB178_182.out _;(with_reducible repeat (first|refine bDN ?_ _|refine bD ?_|refine bA ?_ _));refine blk_far ?_ NB178_182.out _;(with_reducible repeat (first|refine bDN ?_ _|refine bD ?_|refine bA ?_ _));refine blk_far ?_ NB178_182.out _;(with_reducible repeat (first|refine bDN ?_ _|refine bD ?_|refine bA ?_ _));refine blk_far ?_ NB178_182.out _;(with_reducible repeat (first|refine bDN ?_ _|refine bD ?_|refine bA ?_ _));refine blk_far ?_ NB178_182.out _;(with_reducible repeat (first|refine bDN ?_ _|refine bD ?_|refine bA ?_ _));refine blk_far ?_ NB178_182.out _;(with_reducible repeat (first|refine bDN ?_ _|refine bD ?_|refine bA ?_ _));refine blk_far ?_ NB178_182.out _;(with_reducible repeat (first|refine bDN ?_ _|refine bD ?_|refine bA ?_ _));refine blk_far ?_ NB178_182.out _;(with_reducible repeat (first|refine bDN ?_ _|refine bD ?_|refine bA ?_ _));refine blk_far ?_ NB178_182.out _;(with_reducible repeat (first|refine bDN ?_ _|refine bD ?_|refine bA ?_ _));refine blk_far ?_ NB178_182.out _;(with_reducible repeat (first|refine bDN ?_ _|refine bD ?_|refine bA ?_ _));refine blk_far ?_ NB178_182.out _;(with_reducible repeat (first|refine bDN ?_ _|refine bD ?_|refine bA ?_ _));refine blk_far ?_ NB178_182.out _;(with_reducible repeat (first|refine bDN ?_ _|refine bD ?_|refine bA ?_ _));refine blk_far ?_ NB178_182.out _;(with_reducible repeat (first|refine bDN ?_ _|refine bD ?_|refine bA ?_ _));refine blk_far ?_ NB178_182.out _;(with_reducible repeat (first|refine bDN ?_ _|refine bD ?_|refine bA ?_ _));exact BK178.out⟩
           have n5_:Aside0 ((((((((((((((((w41.setCell ⟨gb182,0,none⟩ (.int .i64 ((rd_T94 l0_3 x45_3).f0))).setCell ⟨gb182,1,none⟩ (.int .i64 ((rd_T94 l0_3 x45_3).f1))).setCell ⟨gb182,2,none⟩ (.int .i64 ((rd_T94 l0_3 x45_3).f2.f0))).setCell ⟨gb182,3,none⟩ (.slice A181_3 ((rd_T94 l0_3 x45_3).f2.f1).length c181_3)).setCell ⟨gb182,4,none⟩ (.int .i64 ((rd_T94 l0_3 x45_3).f3.f0))).setCell ⟨gb182,5,none⟩ (.int .i64 ((rd_T94 l0_3 x45_3).f3.f1))).setCell ⟨gb182,6,none⟩ (.int .i64 ((rd_T94 l0_3 x45_3).f3.f2))).setCell ⟨gb182,7,none⟩ (.int .i64 ((rd_T94 l0_3 x45_3).f4.f0))).setCell ⟨gb182,8,none⟩ (.int .i64 ((rd_T94 l0_3 x45_3).f4.f1))).setCell ⟨gb182,9,none⟩ (.int .i64 ((rd_T94 l0_3 x45_3).f4.f2))).setCell ⟨gb182,10,none⟩ (.int .i64 ((rd_T94 l0_3 x45_3).f5.f0.f0))).setCell ⟨gb182,11,none⟩ (.int .i64 ((rd_T94 l0_3 x45_3).f5.f0.f1))).setCell ⟨gb182,12,none⟩ (.int .i64 ((rd_T94 l0_3 x45_3).f5.f0.f2))).setCell ⟨gb182,13,none⟩ (.int .i64 ((rd_T94 l0_3 x45_3).f5.f1))).setCell ⟨gb182,14,none⟩ (.slice A181_14 ((rd_T94 l0_3 x45_3).f5.f2).length c181_14)).heap[gb182]? =some (.cells #[.int .i64 ((rd_T94 l0_3 x45_3).f0),.int .i64 ((rd_T94 l0_3 x45_3).f1),.int .i64 ((rd_T94 l0_3 x45_3).f2.f0),.slice A181_3 ((rd_T94 l0_3 x45_3).f2.f1).length c181_3,.int .i64 ((rd_T94 l0_3 x45_3).f3.f0),.int .i64 ((rd_T94 l0_3 x45_3).f3.f1),.int .i64 ((rd_T94 l0_3 x45_3).f3.f2),.int .i64 ((rd_T94 l0_3 x45_3).f4.f0),.int .i64 ((rd_T94 l0_3 x45_3).f4.f1),.int .i64 ((rd_T94 l0_3 x45_3).f4.f2),.int .i64 ((rd_T94 l0_3 x45_3).f5.f0.f0),.int .i64 ((rd_T94 l0_3 x45_3).f5.f0.f1),.int .i64 ((rd_T94 l0_3 x45_3).f5.f0.f2),.int .i64 ((rd_T94 l0_3 x45_3).f5.f1),.slice A181_14 ((rd_T94 l0_3 x45_3).f5.f2).length c181_14] 94 (0,0))):=⟨(by apply eC_;(with_reducible repeat (first|refine bDN ?_ _|refine bD ?_|refine bA ?_ _));apply b2_;(with_reducible repeat (first|refine bDN ?_ _|refine bD ?_|refine bA ?_ _));apply b2_;(with_reducible repeat (first|refine bDN ?_ _|refine bD ?_|refine bA ?_ _));apply b2_;(with_reducible repeat (first|refine bDN ?_ _|refine bD ?_|refine bA ?_ _));apply b2_;(with_reducible repeat (first|refine bDN ?_ _|refine bD ?_|refine bA ?_ _));apply b2_;(with_reducible repeat (first|refine bDN ?_ _|refine bD ?_|refine bA ?_ _));apply b2_;(with_reducible repeat (first|refine bDN ?_ _|refine bD ?_|refine bA ?_ _));apply b2_;(with_reducible repeat (first|refine bDN ?_ _|refine bD ?_|refine bA ?_ _));apply b2_;(with_reducible repeat (first|refine bDN ?_ _|refine bD ?_|refine bA ?_ _));apply b2_;(with_reducible repeat (first|refine bDN ?_ _|refine bD ?_|refine bA ?_ _));apply b2_;(with_reducible repeat (first|refine bDN ?_ _|refine bD ?_|refine bA ?_ _));apply b2_;(with_reducible repeat (first|refine bDN ?_ _|refine bD ?_|refine bA ?_ _));apply b2_;(with_reducible repeat (first|refine bDN ?_ _|refine bD ?_|refine bA ?_ _));apply b2_;(with_reducible repeat (first|refine bDN ?_ _|refine bD ?_|refine bA ?_ _));apply b2_;(with_reducible repeat (first|refine bDN ?_ _|refine bD ?_|refine bA ?_ _));apply b2_;(with_reducible repeat (first|refine bDN ?_ _|refine bD ?_|refine bA ?_ _));exact BK182.out;kernel_rfl)⟩
           have n6_:Aside0 (Below w.heap.size w (((((((((((((((w41.setCell ⟨gb182,0,none⟩ (.int .i64 ((rd_T94 l0_3 x45_3).f0))).setCell ⟨gb182,1,none⟩ (.int .i64 ((rd_T94 l0_3 x45_3).f1))).setCell ⟨gb182,2,none⟩ (.int .i64 ((rd_T94 l0_3 x45_3).f2.f0))).setCell ⟨gb182,3,none⟩ (.slice A181_3 ((rd_T94 l0_3 x45_3).f2.f1).length c181_3)).setCell ⟨gb182,4,none⟩ (.int .i64 ((rd_T94 l0_3 x45_3).f3.f0))).setCell ⟨gb182,5,none⟩ (.int .i64 ((rd_T94 l0_3 x45_3).f3.f1))).setCell ⟨gb182,6,none⟩ (.int .i64 ((rd_T94 l0_3 x45_3).f3.f2))).setCell ⟨gb182,7,none⟩ (.int .i64 ((rd_T94 l0_3 x45_3).f4.f0))).setCell ⟨gb182,8,none⟩ (.int .i64 ((rd_T94 l0_3 x45_3).f4.f1))).setCell ⟨gb182,9,none⟩ (.int .i64 ((rd_T94 l0_3 x45_3).f4.f2))).setCell ⟨gb182,10,none⟩ (.int .i64 ((rd_T94 l0_3 x45_3).f5.f0.f0))).setCell ⟨gb182,11,none⟩ (.int .i64 ((rd_T94 l0_3 x45_3).f5.f0.f1))).setCell ⟨gb182,12,none⟩ (.int .i64 ((rd_T94 l0_3 x45_3).f5.f0.f2))).setCell ⟨gb182,13,none⟩ (.int .i64 ((rd_T94 l0_3 x45_3).f5.f1))).setCell ⟨gb182,14,none⟩ (.slice A181_14 ((rd_T94 l0_3 x45_3).f5.f2).length c181_14))):=⟨(lB4_ HB.out GE172.out GE173.out GE178.out GE182.out)⟩
           (try clear HO_179001)
           (try clear HO_179003)
           (try clear BK172)
           (try clear BK173)
           (try clear BK178)
           (try clear BK182)
           (try clear HB)
           generalize (((((((((((((((w41.setCell ⟨gb182,0,none⟩ (.int .i64 ((rd_T94 l0_3 x45_3).f0))).setCell ⟨gb182,1,none⟩ (.int .i64 ((rd_T94 l0_3 x45_3).f1))).setCell ⟨gb182,2,none⟩ (.int .i64 ((rd_T94 l0_3 x45_3).f2.f0))).setCell ⟨gb182,3,none⟩ (.slice A181_3 ((rd_T94 l0_3 x45_3).f2.f1).length c181_3)).setCell ⟨gb182,4,none⟩ (.int .i64 ((rd_T94 l0_3 x45_3).f3.f0))).setCell ⟨gb182,5,none⟩ (.int .i64 ((rd_T94 l0_3 x45_3).f3.f1))).setCell ⟨gb182,6,none⟩ (.int .i64 ((rd_T94 l0_3 x45_3).f3.f2))).setCell ⟨gb182,7,none⟩ (.int .i64 ((rd_T94 l0_3 x45_3).f4.f0))).setCell ⟨gb182,8,none⟩ (.int .i64 ((rd_T94 l0_3 x45_3).f4.f1))).setCell ⟨gb182,9,none⟩ (.int .i64 ((rd_T94 l0_3 x45_3).f4.f2))).setCell ⟨gb182,10,none⟩ (.int .i64 ((rd_T94 l0_3 x45_3).f5.f0.f0))).setCell ⟨gb182,11,none⟩ (.int .i64 ((rd_T94 l0_3 x45_3).f5.f0.f1))).setCell ⟨gb182,12,none⟩ (.int .i64 ((rd_T94 l0_3 x45_3).f5.f0.f2))).setCell ⟨gb182,13,none⟩ (.int .i64 ((rd_T94 l0_3 x45_3).f5.f1))).setCell ⟨gb182,14,none⟩ (.slice A181_14 ((rd_T94 l0_3 x45_3).f5.f2).length c181_14))=w46 at n0_ n1_ n2_ n3_ n4_ n5_ n6_ ⊢
           have HO_179001:=n0_
           have HO_179003:=n1_
           have BK172:=n2_
           have BK173:=n3_
           have BK178:=n4_
           have BK182:=n5_
           have HB:=n6_
           clear n0_ n1_ n2_ n3_ n4_ n5_ n6_
           have n0_:=aK_ (Kd.R_drew HO_179001.out)
           have n1_:=aK_ (Kd.N_drew HO_179003.out)
           have n2_:=aK_ (bD BK172.out)
           have n3_:=aK_ (bD BK173.out)
           have n4_:=aK_ (bD BK178.out)
           have n5_:=aK_ (bD BK182.out)
           have n6_:=aK_ (lD_ HB.out)
           clear HO_179001
           clear HO_179003
           clear BK172
           clear BK173
           clear BK178
           clear BK182
           clear HB
           have HO_179001:=n0_
           have HO_179003:=n1_
           have BK172:=n2_
           have BK173:=n3_
           have BK178:=n4_
           have BK182:=n5_
           have HB:=n6_
           clear n0_ n1_ n2_ n3_ n4_ n5_ n6_
           refine start_ (n:=8) (S:=fun w'=>w'.cell? ⟨gb178,0,none⟩=some (.string t174)∧w'.cell? ⟨gb178,1,none⟩=some (u179001)∧w'.cell? ⟨gb178,2,none⟩=some (.int .i64 x179002_15)∧w'.cell? ⟨gb178,3,none⟩=some (u179003)∧w'.cell? ⟨gb178,4,none⟩=some (.int .i64 0)∧w'.cell? ⟨gb182,0,none⟩=some (.int .i64 ((rd_T94 l0_3 x45_3).f0))∧w'.cell? ⟨gb182,1,none⟩=some (.int .i64 ((rd_T94 l0_3 x45_3).f1))∧w'.cell? ⟨gb182,2,none⟩=some (.int .i64 ((rd_T94 l0_3 x45_3).f2.f0))∧w'.cell? ⟨gb182,3,none⟩=some (.slice A181_3 ((rd_T94 l0_3 x45_3).f2.f1).length c181_3)∧w'.cell? ⟨gb182,4,none⟩=some (.int .i64 ((rd_T94 l0_3 x45_3).f3.f0))∧w'.cell? ⟨gb182,5,none⟩=some (.int .i64 ((rd_T94 l0_3 x45_3).f3.f1))∧w'.cell? ⟨gb182,6,none⟩=some (.int .i64 ((rd_T94 l0_3 x45_3).f3.f2))∧w'.cell? ⟨gb182,7,none⟩=some (.int .i64 ((rd_T94 l0_3 x45_3).f4.f0))∧w'.cell? ⟨gb182,8,none⟩=some (.int .i64 ((rd_T94 l0_3 x45_3).f4.f1))∧w'.cell? ⟨gb182,9,none⟩=some (.int .i64 ((rd_T94 l0_3 x45_3).f4.f2))∧w'.cell? ⟨gb182,10,none⟩=some (.int .i64 ((rd_T94 l0_3 x45_3).f5.f0.f0))∧w'.cell? ⟨gb182,11,none⟩=some (.int .i64 ((rd_T94 l0_3 x45_3).f5.f0.f1))∧w'.cell? ⟨gb182,12,none⟩=some (.int .i64 ((rd_T94 l0_3 x45_3).f5.f0.f2))∧w'.cell? ⟨gb182,13,none⟩=some (.int .i64 ((rd_T94 l0_3 x45_3).f5.f1))∧w'.cell? ⟨gb182,14,none⟩=some (.slice A181_14 ((rd_T94 l0_3 x45_3).f5.f2).length c181_14)) (ds:=[7]) #[false,false,false,false,false,false,false,false] (by kernel_rfl) rfl rfl ⟨(bC BK178.out 0).trans rfl,(bC BK178.out 1).trans rfl,(bC BK178.out 2).trans rfl,(bC BK178.out 3).trans rfl,(bC BK178.out 4).trans rfl,(bC BK182.out 0).trans rfl,(bC BK182.out 1).trans rfl,(bC BK182.out 2).trans rfl,(bC BK182.out 3).trans rfl,(bC BK182.out 4).trans rfl,(bC BK182.out 5).trans rfl,(bC BK182.out 6).trans rfl,(bC BK182.out 7).trans rfl,(bC BK182.out 8).trans rfl,(bC BK182.out 9).trans rfl,(bC BK182.out 10).trans rfl,(bC BK182.out 11).trans rfl,(bC BK182.out 12).trans rfl,(bC BK182.out 13).trans rfl,(bC BK182.out 14).trans rfl⟩ (fun hHeld=> ?_);refine with_tabW ergolaw13_R_Rule.tab11 ergolaw13_R_Rule.bits11 (fun HT_ HW_=> ?_)
           generalize w46.drew=w47 at HO_179001 HO_179003 BK172 BK173 BK178 BK182 HB hHeld ⊢
           refine pure_ (i:=0) (N:=some 49) (v:= ?_) (a':= ?_) #[true,false,false,false,false,false,false,false] rfl rfl (any_of HT_.out (by kernel_rfl)) (fun _ _ _ h=>h) (Or.inl ⟨by rfl,?_⟩) ?_ ?_
           rotate_left
           ·intro w'
            go_simp
            with_reducible rfl
           rotate_left
           ·simp only [Act.put, sA_, sZ_, sS_, i64_w, i32_w]
            rfl
           refine take_ (i:=1) (N:=some 50) (v:= ?_) (a':= ?_) #[true,true,false,false,false,false,false,false] rfl rfl (take_ofW HT_.out HW_.out (by kernel_rfl)) (fun _ _ _ h=>h) (Or.inl ⟨by rfl,?_⟩) hHeld ?_ ?_
           rotate_left
           ·rintro w' ⟨s0, s1, s2, s3, s4, s5, s6, s7, s8, s9, s10, s11, s12, s13, s14, s15, s16, s17, s18, s19⟩
            go_simp
            with_reducible rfl
           rotate_left
           ·simp only [Act.put, sA_, sZ_, sS_, i64_w, i32_w]
            rfl
           refine take_ (i:=2) (N:=some 51) (v:= ?_) (a':= ?_) #[true,true,true,false,false,false,false,false] rfl rfl (take_ofW HT_.out HW_.out (by kernel_rfl)) (fun _ _ _ h=>h) (Or.inl ⟨by rfl,?_⟩) hHeld ?_ ?_
           rotate_left
           ·rintro w' ⟨s0, s1, s2, s3, s4, s5, s6, s7, s8, s9, s10, s11, s12, s13, s14, s15, s16, s17, s18, s19⟩
            go_simp
            with_reducible rfl
           rotate_left
           ·simp only [Act.put, sA_, sZ_, sS_, i64_w, i32_w]
            rfl
           refine one_ (i:=3) (N:=some 52) #[true,true,true,true,false,false,false,false] rfl rfl (one_of HT_.out (by kernel_rfl)) (by decide) (fun K hK=> ?_)
           refine goes_ Tryz.func33 (by kernel_rfl) rfl #[.agg #[.int .i64 ((rd_T94 l0_3 x45_3).f0),.int .i64 ((rd_T94 l0_3 x45_3).f1),.int .i64 ((rd_T94 l0_3 x45_3).f2.f0),.slice A181_3 ((rd_T94 l0_3 x45_3).f2.f1).length c181_3,.int .i64 ((rd_T94 l0_3 x45_3).f3.f0),.int .i64 ((rd_T94 l0_3 x45_3).f3.f1),.int .i64 ((rd_T94 l0_3 x45_3).f3.f2),.int .i64 ((rd_T94 l0_3 x45_3).f4.f0),.int .i64 ((rd_T94 l0_3 x45_3).f4.f1),.int .i64 ((rd_T94 l0_3 x45_3).f4.f2),.int .i64 ((rd_T94 l0_3 x45_3).f5.f0.f0),.int .i64 ((rd_T94 l0_3 x45_3).f5.f0.f1),.int .i64 ((rd_T94 l0_3 x45_3).f5.f0.f2),.int .i64 ((rd_T94 l0_3 x45_3).f5.f1),.slice A181_14 ((rd_T94 l0_3 x45_3).f5.f2).length c181_14]] (by rfl) rfl rfl (by (try simp only [List.map_toArray,List.map_cons,List.map_nil]);first|done|rfl|(simp only [List.length_drop,List.length_take];rfl)) ?_
           with_reducible refine (ergolaw13_P_Part.calls k3 ((rd_T94 l0_3 x45_3).f0) ((rd_T94 l0_3 x45_3).f1) ((rd_T94 l0_3 x45_3).f2.f0) _ _ ((rd_T94 l0_3 x45_3).f2.f1) ((rd_T94 l0_3 x45_3).f3.f0) ((rd_T94 l0_3 x45_3).f3.f1) ((rd_T94 l0_3 x45_3).f3.f2) ((rd_T94 l0_3 x45_3).f4.f0) ((rd_T94 l0_3 x45_3).f4.f1) ((rd_T94 l0_3 x45_3).f4.f2) ((rd_T94 l0_3 x45_3).f5.f0.f0) ((rd_T94 l0_3 x45_3).f5.f0.f1) ((rd_T94 l0_3 x45_3).f5.f0.f2) ((rd_T94 l0_3 x45_3).f5.f1) _ _ ((rd_T94 l0_3 x45_3).f5.f2) t183 t184 t185 t188 t189 t190 t191 t192 t193 t194 t195 t196 t197 t198 t199 t200 _ ?side1 ?side2 ?side3 ?side4 A39.out).mono ?_
           (case side1=>repeat (first|exact (Kd.C_below HR181_3.out HB.out)|(with_reducible refine Kd.C_alloc ?_ _)|(with_reducible refine Kd.C_drewN ?_ _)|(with_reducible refine Kd.C_drew ?_)))
           (case side2=>exact HC181_3.out)
           (case side3=>repeat (first|exact (Kd.C_below HR181_14.out HB.out)|(with_reducible refine Kd.C_alloc ?_ _)|(with_reducible refine Kd.C_drewN ?_ _)|(with_reducible refine Kd.C_drew ?_)))
           (case side4=>exact HC181_14.out)
           rintro e w48 ⟨v186,v201,rfl,ho0,ho1,hb⟩
           refine ⟨_,rfl,?_⟩
           have n0_:=aK_ (Kd.R_elder' (rK_ HO_179001.out) (Kd.R_base ho0) hb)
           have n1_:=aK_ (Kd.N_mono (Kd.N_told (Kd.N_told (Kd.N_old (nK_ HO_179003.out) hb) (Kd.R_base ho0)) (Kd.N_base ho1)) (fun _ h_=>h_.1))
           have n2_:=aK_ (Kd.R_lower (Kd.R_new' (Kd.R_newM (M:=fun k_=>(w.heap.size≤k_)) (Kd.R_mono (ok':=fun k_=>True) ho0 (fun _ hk_=>trivial)) (lZ_ (lB4_ HB.out GE172.out GE173.out GE178.out GE182.out)) (fun k_ h_=>h_)) (Kd.R_lt (rK_ HO_179001.out))) (lZ_ (lB4_ HB.out GE172.out GE173.out GE178.out GE182.out)))
           have n3_:=aK_ (Kd.N_lower (Kd.N_mono (ok':=fun k_=>(w.heap.size≤k_)∧some k_≠(v186:Value).ownBlock∧some k_≠(u179001:Value).ownBlock∧some k_≠(u179003:Value).ownBlock∧k_≠gb172∧k_≠gb173∧k_≠gb178∧k_≠gb182) ho1 (fun k_ hk_=>⟨(Nat.le_trans (lZ_ (lB4_ HB.out GE172.out GE173.out GE178.out GE182.out)) hk_.1),hk_.2,(Kd.fresh' (Kd.R_lt (rK_ HO_179001.out)) k_ hk_.1),(Kd.fresh' (Kd.N_lt (nK_ HO_179003.out)) k_ hk_.1),(Kd.freshB (g:=gb172) (o:= .cells #[.int .i64 a0_0,.slice A0_1 l0_1.length c0_1,.int .i64 a0_2,.slice (some ad181) l0_3.length c0_3] 27 (0,0)) (bK_ BK172.out) k_ hk_.1),(Kd.freshB (g:=gb173) (o:= .cells #[.string (⟨#[]⟩:ByteArray),.slice none 0 0,.int .i64 0,.slice none 0 0,.int .i64 0] 37 (0,0)) (bK_ BK173.out) k_ hk_.1),(Kd.freshB (g:=gb178) (o:= .cells #[.string t174,u179001,.int .i64 x179002_15,u179003,.int .i64 0] 37 (0,0)) (bK_ BK178.out) k_ hk_.1),(Kd.freshB (g:=gb182) (o:= .cells #[.int .i64 ((rd_T94 l0_3 x45_3).f0),.int .i64 ((rd_T94 l0_3 x45_3).f1),.int .i64 ((rd_T94 l0_3 x45_3).f2.f0),.slice A181_3 ((rd_T94 l0_3 x45_3).f2.f1).length c181_3,.int .i64 ((rd_T94 l0_3 x45_3).f3.f0),.int .i64 ((rd_T94 l0_3 x45_3).f3.f1),.int .i64 ((rd_T94 l0_3 x45_3).f3.f2),.int .i64 ((rd_T94 l0_3 x45_3).f4.f0),.int .i64 ((rd_T94 l0_3 x45_3).f4.f1),.int .i64 ((rd_T94 l0_3 x45_3).f4.f2),.int .i64 ((rd_T94 l0_3 x45_3).f5.f0.f0),.int .i64 ((rd_T94 l0_3 x45_3).f5.f0.f1),.int .i64 ((rd_T94 l0_3 x45_3).f5.f0.f2),.int .i64 ((rd_T94 l0_3 x45_3).f5.f1),.slice A181_14 ((rd_T94 l0_3 x45_3).f5.f2).length c181_14] 94 (0,0)) (bK_ BK182.out) k_ hk_.1)⟩)) (lZ_ (lB4_ HB.out GE172.out GE173.out GE178.out GE182.out)))
           have n4_:=aK_ (bB (bK_ BK172.out) hb)
           have n5_:=aK_ (bB (bK_ BK173.out) hb)
           have n6_:=aK_ (bB (bK_ BK178.out) hb)
           have n7_:=aK_ (bB (bK_ BK182.out) hb)
           have n8_:=aK_ (lT_ (lB4_ HB.out GE172.out GE173.out GE178.out GE182.out) hb)
           clear HO_179001
           clear HO_179003
           clear BK172
           clear BK173
           clear BK178
           clear BK182
           clear HB
           have HO_179001:=n0_
           have HO_179003:=n1_
           have HO187:=n2_
           have HO202:=n3_
           have BK172:=n4_
           have BK173:=n5_
           have BK178:=n6_
           have BK182:=n7_
           have HB:=n8_
           clear n0_ n1_ n2_ n3_ n4_ n5_ n6_ n7_ n8_
           (try clear hb)
           (try clear hb2)
           (try clear hk)
           (try clear hi)
           (try clear ho0)
           (try clear ho1)
           obtain ⟨Ao50,co50,eo50⟩:=Kd.R_slice HO187.out
           (first|subst eo50|(injection eo50 with f1_ f2_ f3_;have f4_:=f1_.symm;have f5_:=f3_.symm;clear f1_ f2_ f3_;subst f4_;subst f5_))
           obtain ⟨Ao51,co51,eo51⟩:=Kd.N_slice HO202.out
           (first|subst eo51|(injection eo51 with f1_ f2_ f3_;have f4_:=f1_.symm;have f5_:=f3_.symm;clear f1_ f2_ f3_;subst f4_;subst f5_))
           refine hK.out _ _ ⟨(bC BK178.out 0).trans rfl,(bC BK178.out 1).trans rfl,(bC BK178.out 2).trans rfl,(bC BK178.out 3).trans rfl,(bC BK178.out 4).trans rfl,(bC BK182.out 0).trans rfl,(bC BK182.out 1).trans rfl,(bC BK182.out 2).trans rfl,(bC BK182.out 3).trans rfl,(bC BK182.out 4).trans rfl,(bC BK182.out 5).trans rfl,(bC BK182.out 6).trans rfl,(bC BK182.out 7).trans rfl,(bC BK182.out 8).trans rfl,(bC BK182.out 9).trans rfl,(bC BK182.out 10).trans rfl,(bC BK182.out 11).trans rfl,(bC BK182.out 12).trans rfl,(bC BK182.out 13).trans rfl,(bC BK182.out 14).trans rfl⟩ (fun hHeld=> ?_)
           clear hK K
           refine norm_ (a':= ?_) ?_ ?_
           rotate_left
           ·show Act.put _ (some 52) _ = _
            simp only [Act.put,sA_,sZ_,sS_,i64_w,i32_w]
            rfl
           refine one_ (i:=4) (N:=some 53) #[true,true,true,true,true,false,false,false] rfl rfl (one_of HT_.out (by kernel_rfl)) (by decide) (fun K hK=> ?_)
           refine value_ (w1:= ?_) (v:= ?_) (by rfl) rfl ?_ ?_
           rotate_left 2
           ·go_simp
            constructor
            ·rfl
            ·rfl
           refine hK.out _ _ ⟨(bC (bA BK178.out _) 0).trans rfl,(bC (bA BK178.out _) 1).trans rfl,(bC (bA BK178.out _) 2).trans rfl,(bC (bA BK178.out _) 3).trans rfl,(bC (bA BK178.out _) 4).trans rfl,(bC (bA BK182.out _) 0).trans rfl,(bC (bA BK182.out _) 1).trans rfl,(bC (bA BK182.out _) 2).trans rfl,(bC (bA BK182.out _) 3).trans rfl,(bC (bA BK182.out _) 4).trans rfl,(bC (bA BK182.out _) 5).trans rfl,(bC (bA BK182.out _) 6).trans rfl,(bC (bA BK182.out _) 7).trans rfl,(bC (bA BK182.out _) 8).trans rfl,(bC (bA BK182.out _) 9).trans rfl,(bC (bA BK182.out _) 10).trans rfl,(bC (bA BK182.out _) 11).trans rfl,(bC (bA BK182.out _) 12).trans rfl,(bC (bA BK182.out _) 13).trans rfl,(bC (bA BK182.out _) 14).trans rfl⟩ (fun hHeld=> ?_)
           clear hK K
           refine norm_ (a':= ?_) ?_ ?_
           rotate_left
           ·show Act.put _ (some 53) _ = _
            simp only [Act.put,sA_,sZ_,sS_,i64_w,i32_w]
            rfl
           refine one_ (i:=5) (N:=some 54) #[true,true,true,true,true,true,false,false] rfl rfl (one_of HT_.out (by kernel_rfl)) (by decide) (fun K hK=> ?_)
           refine Kd.N_append_step k106 (w0:=w) w.heap.size (by rfl) (.tmp 50) (.tmp 53) 35 106 (.agg #[(.int .i64 0),(.string ⟨#[]⟩),(.slice none 0 0),(.int .i64 0),(.int .i64 0),(.string ⟨#[]⟩),(.int .i64 0),(.int .i64 0),(.string ⟨#[]⟩),(.int .i64 0),(.string ⟨#[]⟩),(.int .i64 0),(.string ⟨#[]⟩),(.int .i64 0),(.int .i64 0),(.slice none 0 0)]) 200 rfl Tryz.underlying35 info106 rfl (by decide) (by omega) u179003 x179003_3 (⟨t183,(⟨t184,t185⟩:S33),t188,(⟨t189,t190,t191⟩:S98),(⟨t192,t193,t194⟩:S98),t195,(⟨(⟨t196,t197,t198⟩:S98),t199,t200⟩:S104)⟩:S106) [.int .i64 t183,.string t184,.slice Ao50 t185.length co50,.int .i64 t188,.int .i64 t189,.string t190,.int .i64 t191,.int .i64 t192,.string t193,.int .i64 t194,.string t195,.int .i64 t196,.string t197,.int .i64 t198,.int .i64 t199,.slice Ao51 t200.length co51] (fun k_=>(w.heap.size≤k_)∧some k_≠(u179001:Value).ownBlock∧k_≠gb172∧k_≠gb173∧k_≠gb178∧k_≠gb182) (fun k_=>((fun k_=>(w.heap.size≤k_)∧some k_≠(u179001:Value).ownBlock∧k_≠gb172∧k_≠gb173∧k_≠gb178∧k_≠gb182)) k_∧some k_≠(u179003:Value).ownBlock) rfl rfl ?aP (fun _ hk=>hk) ?aF ?aO ?aB ?aS ?aL ?_
           (case aP=>exact (k106_mkF _ _ (⟨t183,(⟨t184,t185⟩:S33),t188,(⟨t189,t190,t191⟩:S98),(⟨t192,t193,t194⟩:S98),t195,(⟨(⟨t196,t197,t198⟩:S98),t199,t200⟩:S104)⟩:S106) (Kd.R_reads' (Kd.R_mono (ok':=(fun k_=>((fun k_=>(w.heap.size≤k_)∧some k_≠(u179001:Value).ownBlock∧k_≠gb172∧k_≠gb173∧k_≠gb178∧k_≠gb182)) k_∧some k_≠(u179003:Value).ownBlock)) (Kd.R_types (Kd.R_types (Kd.R_types (Kd.R_types (Kd.R_apart' (HO187.out) (Kd.N_typed HO_179003.out) (by decide)) BK172.out (by decide)) BK173.out (by decide)) BK178.out (by decide)) BK182.out (by decide)) (fun k_ hk=>⟨⟨hk.1.1.1.1.1.1.1,⟨hk.1.1.1.1.1.2,⟨hk.1.1.1.2,⟨hk.1.1.2,⟨hk.1.2,hk.2⟩⟩⟩⟩⟩,hk.1.1.1.1.2⟩))).2.1 (Kd.R_F (Kd.R_mono (ok':=(fun k_=>((fun k_=>(w.heap.size≤k_)∧some k_≠(u179001:Value).ownBlock∧k_≠gb172∧k_≠gb173∧k_≠gb178∧k_≠gb182)) k_∧some k_≠(u179003:Value).ownBlock)) (Kd.R_types (Kd.R_types (Kd.R_types (Kd.R_types (Kd.R_apart' (HO187.out) (Kd.N_typed HO_179003.out) (by decide)) BK172.out (by decide)) BK173.out (by decide)) BK178.out (by decide)) BK182.out (by decide)) (fun k_ hk=>⟨⟨hk.1.1.1.1.1.1.1,⟨hk.1.1.1.1.1.2,⟨hk.1.1.1.2,⟨hk.1.1.2,⟨hk.1.2,hk.2⟩⟩⟩⟩⟩,hk.1.1.1.1.2⟩))) (Kd.N_reads' (Kd.N_mono (ok':=(fun k_=>((fun k_=>(w.heap.size≤k_)∧some k_≠(u179001:Value).ownBlock∧k_≠gb172∧k_≠gb173∧k_≠gb178∧k_≠gb182)) k_∧some k_≠(u179003:Value).ownBlock)) (HO202.out) (fun k_ hk=>⟨⟨hk.1,⟨hk.2.2.1,⟨hk.2.2.2.2.1,⟨hk.2.2.2.2.2.1,⟨hk.2.2.2.2.2.2.1,hk.2.2.2.2.2.2.2⟩⟩⟩⟩⟩,hk.2.2.2.1⟩))).2.1 (Kd.N_F (Kd.N_mono (ok':=(fun k_=>((fun k_=>(w.heap.size≤k_)∧some k_≠(u179001:Value).ownBlock∧k_≠gb172∧k_≠gb173∧k_≠gb178∧k_≠gb182)) k_∧some k_≠(u179003:Value).ownBlock)) (HO202.out) (fun k_ hk=>⟨⟨hk.1,⟨hk.2.2.1,⟨hk.2.2.2.2.1,⟨hk.2.2.2.2.2.1,⟨hk.2.2.2.2.2.2.1,hk.2.2.2.2.2.2.2⟩⟩⟩⟩⟩,hk.2.2.2.1⟩)))))
           (case aB=>exact (lB4_ HB.out GE172.out GE173.out GE178.out GE182.out))
           (case aF=>exact (fun k_ hk=>⟨(Nat.le_trans (lZ_ (lB4_ HB.out GE172.out GE173.out GE178.out GE182.out)) hk),Kd.fresh' (Kd.R_lt (rK_ HO_179001.out)) k_ hk,Kd.freshB (g:=gb172) (o:= .cells #[.int .i64 a0_0,.slice A0_1 l0_1.length c0_1,.int .i64 a0_2,.slice (some ad181) l0_3.length c0_3] 27 (0,0)) (bK_ BK172.out) k_ hk,Kd.freshB (g:=gb173) (o:= .cells #[.string (⟨#[]⟩:ByteArray),.slice none 0 0,.int .i64 0,.slice none 0 0,.int .i64 0] 37 (0,0)) (bK_ BK173.out) k_ hk,Kd.freshB (g:=gb178) (o:= .cells #[.string t174,u179001,.int .i64 x179002_15,u179003,.int .i64 0] 37 (0,0)) (bK_ BK178.out) k_ hk,Kd.freshB (g:=gb182) (o:= .cells #[.int .i64 ((rd_T94 l0_3 x45_3).f0),.int .i64 ((rd_T94 l0_3 x45_3).f1),.int .i64 ((rd_T94 l0_3 x45_3).f2.f0),.slice A181_3 ((rd_T94 l0_3 x45_3).f2.f1).length c181_3,.int .i64 ((rd_T94 l0_3 x45_3).f3.f0),.int .i64 ((rd_T94 l0_3 x45_3).f3.f1),.int .i64 ((rd_T94 l0_3 x45_3).f3.f2),.int .i64 ((rd_T94 l0_3 x45_3).f4.f0),.int .i64 ((rd_T94 l0_3 x45_3).f4.f1),.int .i64 ((rd_T94 l0_3 x45_3).f4.f2),.int .i64 ((rd_T94 l0_3 x45_3).f5.f0.f0),.int .i64 ((rd_T94 l0_3 x45_3).f5.f0.f1),.int .i64 ((rd_T94 l0_3 x45_3).f5.f0.f2),.int .i64 ((rd_T94 l0_3 x45_3).f5.f1),.slice A181_14 ((rd_T94 l0_3 x45_3).f5.f2).length c181_14] 94 (0,0)) (bK_ BK182.out) k_ hk⟩))
           (case aO=>exact (by (with_reducible repeat (first|apply Kd.N_alloc|apply Kd.N_drewN|apply Kd.N_drew));exact Kd.N_mono HO_179003.out (fun _ hk=>⟨hk.1.1.1,⟨hk.1.1.2.1,⟨hk.1.1.2.2.1,⟨hk.1.1.2.2.2.1,⟨hk.1.1.2.2.2.2.1,hk.1.1.2.2.2.2.2⟩⟩⟩⟩⟩)))
           (case aS=>exact (lZ_ (lB4_ HB.out GE172.out GE173.out GE178.out GE182.out)))
           (case aL=>have:=LMc40.out;omega)
           intro v204 w49 ho hb hg hat
           rw [←Ny203.out] at ho
           have n0_:=aK_ (Kd.R_over' (rK_ HO_179001.out) (Kd.N_typed (nK_ HO_179003.out)) (by decide) hg)
           have n1_:=aK_ (bG_ (g:=gb172) (o:= .cells #[.int .i64 a0_0,.slice A0_1 l0_1.length c0_1,.int .i64 a0_2,.slice (some ad181) l0_3.length c0_3] 27 (0,0)) (bK_ BK172.out) hg (Kd.N_ne HO_179003.out BK172.out (by decide)))
           have n2_:=aK_ (bG_ (g:=gb173) (o:= .cells #[.string (⟨#[]⟩:ByteArray),.slice none 0 0,.int .i64 0,.slice none 0 0,.int .i64 0] 37 (0,0)) (bK_ BK173.out) hg (Kd.N_ne HO_179003.out BK173.out (by decide)))
           have n3_:=aK_ (bG_ (g:=gb178) (o:= .cells #[.string t174,u179001,.int .i64 x179002_15,u179003,.int .i64 0] 37 (0,0)) (bK_ BK178.out) hg (Kd.N_ne HO_179003.out BK178.out (by decide)))
           have n4_:=aK_ (bG_ (g:=gb182) (o:= .cells #[.int .i64 ((rd_T94 l0_3 x45_3).f0),.int .i64 ((rd_T94 l0_3 x45_3).f1),.int .i64 ((rd_T94 l0_3 x45_3).f2.f0),.slice A181_3 ((rd_T94 l0_3 x45_3).f2.f1).length c181_3,.int .i64 ((rd_T94 l0_3 x45_3).f3.f0),.int .i64 ((rd_T94 l0_3 x45_3).f3.f1),.int .i64 ((rd_T94 l0_3 x45_3).f3.f2),.int .i64 ((rd_T94 l0_3 x45_3).f4.f0),.int .i64 ((rd_T94 l0_3 x45_3).f4.f1),.int .i64 ((rd_T94 l0_3 x45_3).f4.f2),.int .i64 ((rd_T94 l0_3 x45_3).f5.f0.f0),.int .i64 ((rd_T94 l0_3 x45_3).f5.f0.f1),.int .i64 ((rd_T94 l0_3 x45_3).f5.f0.f2),.int .i64 ((rd_T94 l0_3 x45_3).f5.f1),.slice A181_14 ((rd_T94 l0_3 x45_3).f5.f2).length c181_14] 94 (0,0)) (bK_ BK182.out) hg (Kd.N_ne HO_179003.out BK182.out (by decide)))
           have n5_:=aK_ (hb)
           have n6_:=aK_ (ho)
           clear HO_179001
           clear BK172
           clear BK173
           clear BK178
           clear BK182
           clear HB
           clear HO_179003
           clear HO187
           clear HO202
           have HO_179001:=n0_
           have BK172:=n1_
           have BK173:=n2_
           have BK178:=n3_
           have BK182:=n4_
           have HB:=n5_
           have HO205:=n6_
           clear n0_ n1_ n2_ n3_ n4_ n5_ n6_
           clear ho hb hg hat
           obtain ⟨Ao52,co52,eo52⟩:=Kd.N_slice HO205.out
           (first|subst eo52|(injection eo52 with f1_ f2_ f3_;have f4_:=f1_.symm;have f5_:=f3_.symm;clear f1_ f2_ f3_;subst f4_;subst f5_))
           refine hK.out _ _ ⟨(bC BK178.out 0).trans rfl,(bC BK178.out 1).trans rfl,(bC BK178.out 2).trans rfl,(bC BK178.out 3).trans rfl,(bC BK178.out 4).trans rfl,(bC BK182.out 0).trans rfl,(bC BK182.out 1).trans rfl,(bC BK182.out 2).trans rfl,(bC BK182.out 3).trans rfl,(bC BK182.out 4).trans rfl,(bC BK182.out 5).trans rfl,(bC BK182.out 6).trans rfl,(bC BK182.out 7).trans rfl,(bC BK182.out 8).trans rfl,(bC BK182.out 9).trans rfl,(bC BK182.out 10).trans rfl,(bC BK182.out 11).trans rfl,(bC BK182.out 12).trans rfl,(bC BK182.out 13).trans rfl,(bC BK182.out 14).trans rfl⟩ (fun hHeld=> ?_)
           clear hK K
           refine norm_ (a':= ?_) ?_ ?_
           rotate_left
           ·show Act.put _ (some 54) _ = _
            simp only [Act.put,sA_,sZ_,sS_,i64_w,i32_w]
            rfl
           refine pure_ (i:=6) (N:=some 55) (v:= ?_) (a':= ?_) #[true,true,true,true,true,true,true,false] rfl rfl (any_of HT_.out (by kernel_rfl)) (fun _ _ _ h=>h) (Or.inl ⟨by rfl,?_⟩) ?_ ?_
           rotate_left
           ·intro w'
            go_simp
            with_reducible rfl
           rotate_left
           ·simp only [Act.put, sA_, sZ_, sS_, i64_w, i32_w]
            rfl
           refine last_ (i:=7) (N:=none) #[true,true,true,true,true,true,true,true] rfl rfl (one_of HT_.out (by kernel_rfl)) (by decide) (fun K hK=> ?_)
           have hs53:w49.cell? ⟨gb178,3,none⟩=some (u179003):=(bC BK178.out 3).trans rfl
           have hfs53:=bF BK178.out 3
           have hns53_0:=NB172_178.out
           have hns53_1:=NB173_178.out
           have hns53_3:=NB182_178.out
           have hms53_0:=NB178_172.out
           have hms53_1:=NB178_173.out
           have hms53_3:=NB178_182.out
           refine skip_ (w1:= ?_) (by rfl) rfl ?_ ?_
           rotate_left
           ·go_simp
            rfl
           refine hK.out _ _ ?_
           clear hK K
           refine done_ (done_of HT_.out (by kernel_rfl)) ?_
           try go_wp2
           go_roundg k3
           case measure=>have:=HJ2.out;have:=HJ15.out;have:=HK3.out;omega
           case rel=>exact ⟨(wrap64 (x45_3+1)),(y203),(.slice Ao52 y203.length co52),(by first|rfl|(simp;done)|(simp [*];done)),H',⟨by have:=HJ2.out;have:=HJ15.out;have:=HK3.out;omega⟩,⟨by (with_reducible repeat (first|apply Kd.R_alloc|apply Kd.R_drewN|apply Kd.R_drew));exact Kd.R_mono (Kd.R_far (p:=⟨gb178,3,none⟩) (Kd.R_types HO_179001.out BK178.out (by decide)) (fun _ hk=>hk.2) (.slice Ao52 y203.length co52)) (fun _ hk=>hk.1.1)⟩,⟨by (with_reducible repeat (first|apply Kd.N_alloc|apply Kd.N_drewN|apply Kd.N_drew));exact Kd.N_mono (Kd.N_far (p:=⟨gb178,3,none⟩) (Kd.N_mono HO205.out (fun k_ hk=>(⟨hk,hk.2.2.2.2.1⟩:_∧k_≠gb178))) (fun _ hk=>hk.2) (.slice Ao52 y203.length co52)) (fun _ hk=>⟨hk.1.1,⟨hk.1.2.1,⟨hk.1.2.2.1,⟨hk.1.2.2.2.1,hk.1.2.2.2.2.1⟩⟩⟩⟩)⟩,⟨by (with_reducible repeat (first|refine bDN ?_ _|refine bD ?_|refine bA ?_ _));refine blk_far ?_ NB172_178.out _;(with_reducible repeat (first|refine bDN ?_ _|refine bD ?_|refine bA ?_ _));exact BK172.out⟩,⟨by (with_reducible repeat (first|refine bDN ?_ _|refine bD ?_|refine bA ?_ _));refine blk_far ?_ NB173_178.out _;(with_reducible repeat (first|refine bDN ?_ _|refine bD ?_|refine bA ?_ _));exact BK173.out⟩,⟨(by apply eC_;(with_reducible repeat (first|refine bDN ?_ _|refine bD ?_|refine bA ?_ _));apply b2_;(with_reducible repeat (first|refine bDN ?_ _|refine bD ?_|refine bA ?_ _));exact BK178.out;kernel_rfl)⟩,⟨(lB4_ HB.out GE172.out GE173.out GE178.out GE182.out)⟩⟩
          ·rw [if_neg c40] at H
           exact absurd H (by simp)
         ·rw [if_neg c38] at H
          exact absurd H (by simp)
        ·rw [if_neg c37] at H
         exact absurd H (by simp)
       ·rw [if_neg c36] at H
        have c36b0:decide (x45_3<(l0_3.length:Int))=false:=decide_eq_false c36
        clear c36
        simp only [Option.some.injEq,Prod.mk.injEq] at H
        obtain ⟨rfl,rfl,rfl,rfl,rfl⟩:=H
        have hnb54:=NB178_172.out
        have hnc54:=NB172_178.out
        have hnb55:=NB178_173.out
        have hnc55:=NB173_178.out
        obtain ⟨⟨hcz56_0,hcz56_1,hcz56_2,hcz56_3,hcz56_4⟩,hfz56_0,hfz56_1,hfz56_2,hfz56_3,hfz56_4⟩:=c5_ BK178.out
        have hnb57:=NB173_172.out
        have hnc57:=NB172_173.out
        obtain ⟨⟨hcz58_0,hcz58_1,hcz58_2,hcz58_3,hcz58_4⟩,hfz58_0,hfz58_1,hfz58_2,hfz58_3,hfz58_4⟩:=c5_ BK173.out
        obtain ⟨Ao59,co59,eo59⟩:=Kd.R_slice HO_179001.out
        subst eo59
        obtain ⟨Ao60,co60,eo60⟩:=Kd.N_slice HO_179003.out
        subst eo60
        go_wp2
        refine bodyPost_ret (results_cell_row rfl _ _ gb173 37 #[.string t174,.slice Ao59 x179001_15.length co59,.int .i64 x179002_15,.slice Ao60 x179003_3.length co60,.int .i64 0] (0,0) _ rfl ((by apply eC_;(with_reducible repeat (first|refine bDN ?_ _|refine bD ?_|refine bA ?_ _));apply b2_;(with_reducible repeat (first|refine bDN ?_ _|refine bD ?_|refine bA ?_ _));apply b2_;(with_reducible repeat (first|refine bDN ?_ _|refine bD ?_|refine bA ?_ _));apply b2_;(with_reducible repeat (first|refine bDN ?_ _|refine bD ?_|refine bA ?_ _));apply b2_;(with_reducible repeat (first|refine bDN ?_ _|refine bD ?_|refine bA ?_ _));apply b2_;(with_reducible repeat (first|refine bDN ?_ _|refine bD ?_|refine bA ?_ _));exact BK173.out;kernel_rfl)) Tryz.underlying37 rfl (by kernel_rfl)) rfl ?_
        exact ⟨_,_,by first|rfl|(simp [errW_none,errW_some] <;>rfl)|(simp [*,errW_none,errW_some] <;>rfl),by (with_reducible repeat (first|apply Kd.R_alloc|apply Kd.R_drewN|apply Kd.R_drew));exact Kd.R_mono (Kd.R_far (p:=⟨gb173,4,none⟩) (Kd.R_far (p:=⟨gb173,3,none⟩) (Kd.R_far (p:=⟨gb173,2,none⟩) (Kd.R_far (p:=⟨gb173,1,none⟩) (Kd.R_far (p:=⟨gb173,0,none⟩) (Kd.R_types HO_179001.out BK173.out (by decide)) (fun _ hk=>hk.2) (.string t174)) (fun _ hk=>hk.2) (.slice Ao59 x179001_15.length co59)) (fun _ hk=>hk.2) (.int .i64 x179002_15)) (fun _ hk=>hk.2) (.slice Ao60 x179003_3.length co60)) (fun _ hk=>hk.2) (.int .i64 0)) (fun _ hk=>hk.1),by (with_reducible repeat (first|apply Kd.N_alloc|apply Kd.N_drewN|apply Kd.N_drew));exact Kd.N_mono (Kd.N_far (p:=⟨gb173,4,none⟩) (Kd.N_far (p:=⟨gb173,3,none⟩) (Kd.N_far (p:=⟨gb173,2,none⟩) (Kd.N_far (p:=⟨gb173,1,none⟩) (Kd.N_far (p:=⟨gb173,0,none⟩) (Kd.N_mono HO_179003.out (fun k_ hk=>(⟨hk,hk.2.2.2.1⟩:_∧k_≠gb173))) (fun _ hk=>hk.2) (.string t174)) (fun _ hk=>hk.2) (.slice Ao59 x179001_15.length co59)) (fun _ hk=>hk.2) (.int .i64 x179002_15)) (fun _ hk=>hk.2) (.slice Ao60 x179003_3.length co60)) (fun _ hk=>hk.2) (.int .i64 0)) (fun _ hk=>⟨hk.1.1,hk.1.2.1⟩),(lB3_ HB.out GE172.out GE173.out GE178.out)⟩
end Go.Proofs.YtjlnpdpkobpkiaaGreatDoorPSP
