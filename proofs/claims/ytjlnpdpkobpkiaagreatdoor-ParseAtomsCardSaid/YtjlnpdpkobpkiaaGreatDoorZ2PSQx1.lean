import Derived.Test.YtjlnpdpkobpkiaaGreatDoorZ2PSQx0
import Derived.Test.YtjlnpdpkobpkiaaGreatDoorZ2PSPx2
import Derived.Test.YtjlnpdpkobpkiaaGreatDoorZ2PSPx4
namespace Go.Proofs.YtjlnpdpkobpkiaaGreatDoorPSP
open Go.RowKit Go.Proofs.YtjlnpdpkobpkiaaGreatDoorW.PrintWords Go.Proofs.YtjlnpdpkobpkiaaGreatDoorW.PrintLast Go.Proofs.YtjlnpdpkobpkiaaGreatDoorW.PrintMore
attribute [local go_sem] max2_int min2_int max_two min_two max_three min_three max_four min_four   -- for this text's walks alone
set_option linter.unusedVariables false
set_option linter.unusedSimpArgs false
def ergolaw13_Pred.f (a0:Int):Option (ByteArray):=(some (([(⟨#[112]⟩:ByteArray),(⟨#[113]⟩:ByteArray),(⟨#[114]⟩:ByteArray),(⟨#[101,100,103,101]⟩:ByteArray),(⟨#[112,97,116,104]⟩:ByteArray),(⟨#[115]⟩:ByteArray)]:List ByteArray):List ByteArray)).bind fun y101=>(if 0≤(wrap64 (Int.tmod (IntKind.u64.wrap (a0)) 6)) then (if (wrap64 (Int.tmod (IntKind.u64.wrap (a0)) 6))<(y101.length:Int) then (some (rdOf ByteArray.empty y101 (wrap64 (Int.tmod (IntKind.u64.wrap (a0)) 6)))) else (none)) else (none))
set_option maxHeartbeats 8000000 in
set_option maxRecDepth 100000 in
theorem ergolaw13_Pred.calls (a0:Int) (r:ByteArray) (w:World) (h:ergolaw13_Pred.f a0=some r):
    Calls Tryz.prog 43 #[.int .i64 a0] w fun e w'=>e= .returned (.string r)∧Below w.heap.size w w':=by
  have HB:=Aside0.mk (Below.refl w.heap.size w)
  have H:((some (([(⟨#[112]⟩:ByteArray),(⟨#[113]⟩:ByteArray),(⟨#[114]⟩:ByteArray),(⟨#[101,100,103,101]⟩:ByteArray),(⟨#[112,97,116,104]⟩:ByteArray),(⟨#[115]⟩:ByteArray)]:List ByteArray):List ByteArray)).bind fun y101=>(if 0≤(wrap64 (Int.tmod (IntKind.u64.wrap (a0)) 6)) then (if (wrap64 (Int.tmod (IntKind.u64.wrap (a0)) 6))<(y101.length:Int) then (some (rdOf ByteArray.empty y101 (wrap64 (Int.tmod (IntKind.u64.wrap (a0)) 6)))) else (none)) else (none)))=some r:=h
  clear h
  obtain ⟨y101,hy101⟩:∃y_:List ByteArray,y_=(([(⟨#[112]⟩:ByteArray),(⟨#[113]⟩:ByteArray),(⟨#[114]⟩:ByteArray),(⟨#[101,100,103,101]⟩:ByteArray),(⟨#[112,97,116,104]⟩:ByteArray),(⟨#[115]⟩:ByteArray)]:List ByteArray)):=⟨_,rfl⟩
  replace H:(if 0≤(wrap64 (Int.tmod (IntKind.u64.wrap (a0)) 6)) then (if (wrap64 (Int.tmod (IntKind.u64.wrap (a0)) 6))<(y101.length:Int) then (some (rdOf ByteArray.empty y101 (wrap64 (Int.tmod (IntKind.u64.wrap (a0)) 6)))) else (none)) else (none))=some r:=by first|(rw [hy101];with_reducible exact H)|(have H2_:=(Option.bind_some _ _).symm.trans H;rw [hy101];with_reducible exact H2_)|(have H2_:=(Option.bind_some _ _).symm.trans H;with_reducible exact H2_)|with_reducible exact H|(rw [hy101];exact H)|exact H
  have Ny101:=Aside0.mk hy101
  clear hy101
  obtain ⟨ji2,hji2⟩:∃j_:Int,(wrap64 (Int.tmod (IntKind.u64.wrap (a0)) 6))=j_:=⟨_,rfl⟩
  replace H:(if 0≤(ji2) then (if (ji2)<(y101.length:Int) then (some (rdOf ByteArray.empty y101 (ji2))) else (none)) else (none))=some r:=by first|(rw [hji2] at H;exact H)|(simp only [hji2] at H ⊢;exact H)
  have hji2w:(IntKind.i64.wrap (Int.tmod (IntKind.u64.wrap (a0)) 6))=ji2:=(i64_w _).trans hji2
  by_cases c3:0≤(ji2)
  · rw [if_pos c3] at H
    have c3b0:decide (0≤(ji2))=true:=decide_eq_true c3
    clear c3
    by_cases c4:(ji2)<(y101.length:Int)
    · rw [if_pos c4] at H
      have c4b0:decide ((ji2)<(y101.length:Int))=true:=decide_eq_true c4
      clear c4
      obtain rfl:=Option.some.inj H
      go_enter Tryz.func43,Tryz.ntmps43
      go_wp2_with (first|((with_reducible refine gate_dst (N:=3) rfl ?_);refine Kd.R_lit Kd.string _ 9 ?hg (N:=3) ?hd (xs:=([(⟨#[112]⟩:ByteArray),(⟨#[113]⟩:ByteArray),(⟨#[114]⟩:ByteArray),(⟨#[101,100,103,101]⟩:ByteArray),(⟨#[112,97,116,104]⟩:ByteArray),(⟨#[115]⟩:ByteArray)]:List ByteArray)) (inner:=[.string (⟨#[112]⟩:ByteArray),.string (⟨#[113]⟩:ByteArray),.string (⟨#[114]⟩:ByteArray),.string (⟨#[101,100,103,101]⟩:ByteArray),.string (⟨#[112,97,116,104]⟩:ByteArray),.string (⟨#[115]⟩:ByteArray)]) (ok:=fun _=>True) (okp:=fun _=>True) ?hr ?hp (fun _ hk=>hk) trivial (Below.refl _ _) (Nat.le_refl _) (by simp) ?_;(case hd=>rfl);(case hg=>rfl);(case hr=>first|(go_simp;done)|(go_simp;rfl));(case hp=>exact (Reps.one (show Kd.M Kd.string _ _ _ (⟨#[112]⟩:ByteArray) [.string (⟨#[112]⟩:ByteArray)] from rfl) (Reps.one (show Kd.M Kd.string _ _ _ (⟨#[113]⟩:ByteArray) [.string (⟨#[113]⟩:ByteArray)] from rfl) (Reps.one (show Kd.M Kd.string _ _ _ (⟨#[114]⟩:ByteArray) [.string (⟨#[114]⟩:ByteArray)] from rfl) (Reps.one (show Kd.M Kd.string _ _ _ (⟨#[101,100,103,101]⟩:ByteArray) [.string (⟨#[101,100,103,101]⟩:ByteArray)] from rfl) (Reps.one (show Kd.M Kd.string _ _ _ (⟨#[112,97,116,104]⟩:ByteArray) [.string (⟨#[112,97,116,104]⟩:ByteArray)] from rfl) (Reps.one (show Kd.M Kd.string _ _ _ (⟨#[115]⟩:ByteArray) [.string (⟨#[115]⟩:ByteArray)] from rfl) (Reps.none _ _))))))));intro v102 w5 ho6 hb hg_ hnew_;clear hg_ hnew_;(first|rw [←Ny101.out] at ho6|(simp only [Int.reduceToNat] at ho6;rw [←Ny101.out] at ho6));have n0_:=Aside0.mk (Kd.R_lower ho6 (below_size (by repeat (first|(with_reducible first|exact HB.out|apply below_alloc|apply pw_below_drewN|apply below_drew1)|exact HB.out))));have n1_:=Aside0.mk (below_step (by repeat (first|(with_reducible first|exact HB.out|apply below_alloc|apply pw_below_drewN|apply below_drew1)|exact HB.out)) hb);clear HB;have HO103:=n0_;have HB:=n1_;clear n0_ n1_;clear hb ho6;obtain ⟨Ao7,co7,eo7⟩:=Kd.R_slice HO103.out;subst eo7;have p104:0≤((ji2):Int):=of_decide_eq_true (by first|(with_reducible assumption)|assumption);have q104:(ji2)<(y101.length:Int):=of_decide_eq_true (by first|(with_reducible assumption)|assumption);obtain ⟨ad104,e104,hx104_0⟩:=Kd.at_string (Kd.R_reads' HO103.out).2.2 (ji2) p104 q104;cases e104;replace p104:=eq_true p104;replace q104:=eq_true q104))
      go_ret
      exact ⟨by first|rfl|(simp [errW_none,errW_some] <;>rfl)|(simp only [←hji2];first|rfl|(simp [errW_none,errW_some] <;>rfl))|(simp [*,errW_none,errW_some] <;>rfl),by repeat (first|(with_reducible first|exact HB.out|apply below_alloc|apply pw_below_drewN|apply below_drew1)|exact HB.out)⟩
    · rw [if_neg c4] at H
      exact absurd H (by simp)
  · rw [if_neg c3] at H
    exact absurd H (by simp)
def ergolaw13_A_Atom.l0:Nat→List (S89)→Int→Int→ByteArray→List (S98)→Option (ByteArray×(List (S98)))
  |0,_,_,_,_,_=>none
  |k+1,x11,x12,x13,x109000,x109001=>if x13<x12 then (if 0≤x13 then (if x13<(x11.length:Int) then ((ergolaw13_T_Term.f ((rd_T89 x11 x13).f0) ((rd_T89 x11 x13).f1) ((rd_T89 x11 x13).f2)).bind fun bt111=>(if x109001.length<4398046511104 then (ergolaw13_A_Atom.l0 k x11 x12 (wrap64 (x13+1)) x109000 (x109001++[(⟨bt111.1,bt111.2.1,bt111.2.2⟩:S98)])) else (none))) else (none)) else (none)) else (if (x109001.length:Int)=0 then (some (x109000,(([(⟨0,(⟨#[88]⟩:ByteArray),0⟩:S98)]:List (S98))))) else (some (x109000,x109001)))
def ergolaw13_A_Atom.f (k:Nat) (a0_0:Int) (l0_1:List (S89)):Option (ByteArray×(List (S98))):=(ergolaw13_Pred.f a0_0).bind fun t107=>(ergolaw13_A_Atom.l0 k l0_1 (l0_1.length:Int) 0 t107 ([]:List (S98)))
def ergolaw13_A_Atom.T5:Bool×List (List Nat×List Nat):=(true,[([],[]),([0],[0]),([],[]),([2],[2]),([3],[3]),([1,4,3],[1,4]),([0,1,2,3,4,5],[]),([6,5,5,0,1,2,3,4,5],[5,6])])
def ergolaw13_A_Atom.B5:List Nat:=[0,1,0,4,12,31,63,127]
theorem ergolaw13_A_Atom.tab5:rtab .any (opsOf Tryz.f23 5)=ergolaw13_A_Atom.T5:=by kernel_rfl
theorem ergolaw13_A_Atom.bits5:waitsOk ergolaw13_A_Atom.T5.2 ergolaw13_A_Atom.B5=true:=by kernel_rfl
set_option maxHeartbeats 8000000 in
set_option maxRecDepth 100000 in
theorem ergolaw13_A_Atom.calls (k:Nat) (a0_0:Int) (A0_1:Option Addr) (c0_1:Nat) (l0_1:List (S89)) (r1:ByteArray) (r2:List (S98)) (w:World) (hr0_1:Kd.C k89 w A0_1 l0_1.length l0_1) (hc0_1:l0_1.length≤c0_1) (h:ergolaw13_A_Atom.f k a0_0 l0_1=some (r1,r2)):
    Calls Tryz.prog 23 #[.agg #[.int .i64 a0_0,.slice A0_1 l0_1.length c0_1]] w fun e w'=>∃v1_:Value,e= .returned (.agg #[.string r1,v1_])∧Kd.R k98 98 w' w.heap.size (fun _=>True) v1_ r2∧Below w.heap.size w w':=by
  have hu24:=Tryz.underlying24
  have hu33:=Tryz.underlying33
  have hu89:=Tryz.underlying89
  have hu98:=Tryz.underlying98
  have HR0_1:=Aside0.mk hr0_1
  have HC0_1:=Aside0.mk hc0_1
  clear hr0_1 hc0_1
  have HB:=Aside0.mk (Below.refl w.heap.size w)
  have H:((ergolaw13_Pred.f a0_0).bind fun t107=>(ergolaw13_A_Atom.l0 k l0_1 (l0_1.length:Int) 0 t107 ([]:List (S98))))=some (r1,r2):=h
  clear h
  replace H:=Option.bind_eq_some_iff.mp H
  obtain ⟨t107,A20,H⟩:=H
  replace H:(ergolaw13_A_Atom.l0 k l0_1 (l0_1.length:Int) 0 t107 ([]:List (S98)))=some (r1,r2):=H
  have A2:=Aside0.mk A20
  clear A20
  have H':=Aside0.mk H
  clear H
  go_enter Tryz.func23,Tryz.ntmps23
  go_wp2_with (first|((with_reducible refine gate_dst (N:=1) rfl ?_);refine box_event ?hg (N:=1) ?hd (cs:= #[.int .i64 a0_0,.slice A0_1 l0_1.length c0_1]) (t:=24) ?hr ?_;(case hd=>rfl);(case hg=>rfl);(case hr=>first|(go_simp;done)|(go_simp;rfl));intro gb105 hg w3 hbox hb;have n0_:=Aside0.mk (below_step (by repeat (first|(with_reducible first|exact HB.out|apply below_alloc|apply pw_below_drewN|apply below_drew1)|exact HB.out)) hb);have n1_:=Aside0.mk (hbox);have n2_:=Aside0.mk ((by rw [hg];exact (below_size (by repeat (first|(with_reducible first|exact HB.out|apply below_alloc|apply pw_below_drewN|apply below_drew1)|exact HB.out))):w.heap.size≤gb105));have n3_:=Aside0.mk ((by rw [hg];exact (below_size (by repeat (first|(with_reducible first|exact HB.out|apply below_alloc|apply pw_below_drewN|apply below_drew1)|exact HB.out))):w.heap.size≤gb105));clear HB;have HB:=n0_;have BK105:=n1_;have GW105:=n2_;have GE105:=n3_;clear n0_ n1_ n2_ n3_;clear hb hbox hg)|((with_reducible refine gate_dst (N:=2) rfl ?_);refine box_event ?hg (N:=2) ?hd (cs:= #[.string (⟨#[]⟩:ByteArray),.slice none 0 0]) (t:=33) ?hr ?_;(case hd=>rfl);(case hg=>rfl);(case hr=>first|(go_simp;done)|(go_simp;rfl));intro gb106 hg w4 hbox hb;have n0_:=Aside0.mk (blk_below (g:=gb105) (o:= .cells #[.int .i64 a0_0,.slice A0_1 l0_1.length c0_1] 24 (0,0)) (by (with_reducible repeat (first|refine blk_drewN ?_ _|refine blk_drew ?_|refine blk_alloc ?_ _));exact BK105.out) hb);have n1_:=Aside0.mk (below_step (by repeat (first|(with_reducible first|exact HB.out|apply below_alloc|apply pw_below_drewN|apply below_drew1|refine below_set ?_ GE105.out)|exact HB.out)) hb);have n2_:=Aside0.mk (hbox);have n3_:=Aside0.mk ((by rw [hg];exact (below_size (by repeat (first|(with_reducible first|exact HB.out|apply below_alloc|apply pw_below_drewN|apply below_drew1|refine below_set ?_ GE105.out)|exact HB.out))):w.heap.size≤gb106));have n4_:=Aside0.mk ((by rw [hg];exact (below_size (by repeat (first|(with_reducible first|exact HB.out|apply below_alloc|apply pw_below_drewN|apply below_drew1|refine below_set ?_ GE105.out)|exact HB.out))):w.heap.size≤gb106));have n5_:=Aside0.mk ((by rw [hg];exact Nat.ne_of_lt (blk_lt (g:=gb105) (o:= .cells #[.int .i64 a0_0,.slice A0_1 l0_1.length c0_1] 24 (0,0)) (by (with_reducible repeat (first|refine blk_drewN ?_ _|refine blk_drew ?_|refine blk_alloc ?_ _));exact BK105.out)):gb105≠gb106));have n6_:=Aside0.mk ((by rw [hg];exact Nat.ne_of_gt (blk_lt (g:=gb105) (o:= .cells #[.int .i64 a0_0,.slice A0_1 l0_1.length c0_1] 24 (0,0)) (by (with_reducible repeat (first|refine blk_drewN ?_ _|refine blk_drew ?_|refine blk_alloc ?_ _));exact BK105.out)):gb106≠gb105));clear BK105;clear HB;have BK105:=n0_;have HB:=n1_;have BK106:=n2_;have GW106:=n3_;have GE106:=n4_;have NB105_106:=n5_;have NB106_105:=n6_;clear n0_ n1_ n2_ n3_ n4_ n5_ n6_;clear hb hbox hg;have hnb5:=NB105_106.out;have hnc5:=NB106_105.out;have hcz6_0:w4.cell? ⟨gb105,0,none⟩=some (.int .i64 a0_0):=(blk_cell BK105.out 0).trans rfl;have hcz6_1:w4.cell? ⟨gb105,1,none⟩=some (.slice A0_1 l0_1.length c0_1):=(blk_cell BK105.out 1).trans rfl;have hfz6_0:=blk_frozen BK105.out 0;have hfz6_1:=blk_frozen BK105.out 1)|((with_reducible refine gate_callee (f:=43) rfl ?_);refine goesL_ (some 8) rfl rfl Tryz.func43 (by kernel_rfl) rfl #[.int .i64 a0_0] rfl (by (try simp only [List.map_toArray,List.map_cons,List.map_nil]);first|done|rfl|(simp only [List.length_drop,List.length_take];rfl)) ?_;(with_reducible refine (ergolaw13_Pred.calls a0_0 t107 _ A2.out).mono ?_);rintro e w7 ⟨rfl,hb⟩;refine ⟨_,rfl,?_⟩;have n0_:=Aside0.mk (blk_below (g:=gb105) (o:= .cells #[.int .i64 a0_0,.slice A0_1 l0_1.length c0_1] 24 (0,0)) (by (with_reducible repeat (first|refine blk_drewN ?_ _|refine blk_drew ?_|refine blk_alloc ?_ _));exact BK105.out) hb);have n1_:=Aside0.mk (blk_below (g:=gb106) (o:= .cells #[.string (⟨#[]⟩:ByteArray),.slice none 0 0] 33 (0,0)) (by (with_reducible repeat (first|refine blk_drewN ?_ _|refine blk_drew ?_|refine blk_alloc ?_ _));exact BK106.out) hb);have n2_:=Aside0.mk (below_step (by repeat (first|(with_reducible first|exact HB.out|apply below_alloc|apply pw_below_drewN|apply below_drew1|refine below_set ?_ GE105.out|refine below_set ?_ GE106.out)|exact HB.out)) hb);clear BK105;clear BK106;clear HB;have BK105:=n0_;have BK106:=n1_;have HB:=n2_;clear n0_ n1_ n2_;(try clear hb);(try clear hb2);(try clear hk);(try clear hi))|((with_reducible refine gate_dst (N:=3) rfl ?_);refine box_event ?hg (N:=3) ?hd (cs:= #[.string (⟨#[]⟩:ByteArray),.slice none 0 0]) (t:=33) ?hr ?_;(case hd=>rfl);(case hg=>rfl);(case hr=>first|(go_simp;done)|(go_simp;rfl));intro gb108 hg w8 hbox hb;have n0_:=Aside0.mk (blk_below (g:=gb105) (o:= .cells #[.int .i64 a0_0,.slice A0_1 l0_1.length c0_1] 24 (0,0)) (by (with_reducible repeat (first|refine blk_drewN ?_ _|refine blk_drew ?_|refine blk_alloc ?_ _));exact BK105.out) hb);have n1_:=Aside0.mk (blk_below (g:=gb106) (o:= .cells #[.string (⟨#[]⟩:ByteArray),.slice none 0 0] 33 (0,0)) (by (with_reducible repeat (first|refine blk_drewN ?_ _|refine blk_drew ?_|refine blk_alloc ?_ _));exact BK106.out) hb);have n2_:=Aside0.mk (below_step (by repeat (first|(with_reducible first|exact HB.out|apply below_alloc|apply pw_below_drewN|apply below_drew1|refine below_set ?_ GE105.out|refine below_set ?_ GE106.out)|exact HB.out)) hb);have n3_:=Aside0.mk (hbox);have n4_:=Aside0.mk ((by rw [hg];exact (below_size (by repeat (first|(with_reducible first|exact HB.out|apply below_alloc|apply pw_below_drewN|apply below_drew1|refine below_set ?_ GE105.out|refine below_set ?_ GE106.out)|exact HB.out))):w.heap.size≤gb108));have n5_:=Aside0.mk ((by rw [hg];exact (below_size (by repeat (first|(with_reducible first|exact HB.out|apply below_alloc|apply pw_below_drewN|apply below_drew1|refine below_set ?_ GE105.out|refine below_set ?_ GE106.out)|exact HB.out))):w.heap.size≤gb108));have n6_:=Aside0.mk ((by rw [hg];exact Nat.ne_of_lt (blk_lt (g:=gb105) (o:= .cells #[.int .i64 a0_0,.slice A0_1 l0_1.length c0_1] 24 (0,0)) (by (with_reducible repeat (first|refine blk_drewN ?_ _|refine blk_drew ?_|refine blk_alloc ?_ _));exact BK105.out)):gb105≠gb108));have n7_:=Aside0.mk ((by rw [hg];exact Nat.ne_of_gt (blk_lt (g:=gb105) (o:= .cells #[.int .i64 a0_0,.slice A0_1 l0_1.length c0_1] 24 (0,0)) (by (with_reducible repeat (first|refine blk_drewN ?_ _|refine blk_drew ?_|refine blk_alloc ?_ _));exact BK105.out)):gb108≠gb105));have n8_:=Aside0.mk ((by rw [hg];exact Nat.ne_of_lt (blk_lt (g:=gb106) (o:= .cells #[.string (⟨#[]⟩:ByteArray),.slice none 0 0] 33 (0,0)) (by (with_reducible repeat (first|refine blk_drewN ?_ _|refine blk_drew ?_|refine blk_alloc ?_ _));exact BK106.out)):gb106≠gb108));have n9_:=Aside0.mk ((by rw [hg];exact Nat.ne_of_gt (blk_lt (g:=gb106) (o:= .cells #[.string (⟨#[]⟩:ByteArray),.slice none 0 0] 33 (0,0)) (by (with_reducible repeat (first|refine blk_drewN ?_ _|refine blk_drew ?_|refine blk_alloc ?_ _));exact BK106.out)):gb108≠gb106));clear BK105;clear BK106;clear HB;have BK105:=n0_;have BK106:=n1_;have HB:=n2_;have BK108:=n3_;have GW108:=n4_;have GE108:=n5_;have NB105_108:=n6_;have NB108_105:=n7_;have NB106_108:=n8_;have NB108_106:=n9_;clear n0_ n1_ n2_ n3_ n4_ n5_ n6_ n7_ n8_ n9_;clear hb hbox hg;have hnb9:=NB108_105.out;have hnc9:=NB105_108.out;have hnb10:=NB108_106.out;have hnc10:=NB106_108.out;have hcz11_0:w8.cell? ⟨gb108,0,none⟩=some (.string (⟨#[]⟩:ByteArray)):=(blk_cell BK108.out 0).trans rfl;have hcz11_1:w8.cell? ⟨gb108,1,none⟩=some (.slice none 0 0):=(blk_cell BK108.out 1).trans rfl;have hfz11_0:=blk_frozen BK108.out 0;have hfz11_1:=blk_frozen BK108.out 1;have hcz12_0:w8.cell? ⟨gb105,0,none⟩=some (.int .i64 a0_0):=(blk_cell BK105.out 0).trans rfl;have hcz12_1:w8.cell? ⟨gb105,1,none⟩=some (.slice A0_1 l0_1.length c0_1):=(blk_cell BK105.out 1).trans rfl;have hfz12_0:=blk_frozen BK105.out 0;have hfz12_1:=blk_frozen BK105.out 1))
  go_loopg [13] k (fun kq v13 w'=>∃(x13_1:Int) (x109001_1:List (S98)) (u109001:Value),v13= .int .i64 x13_1∧Aside0 (ergolaw13_A_Atom.l0 kq l0_1 (l0_1.length:Int) x13_1 t107 x109001_1=some (r1,r2))∧Aside0 (kq≤k)∧Aside0 (Kd.R k98 98 w' w.heap.size (fun _=>True) u109001 x109001_1)∧Aside0 (w'.heap[gb105]? =some (.cells #[.int .i64 a0_0,(.slice A0_1 l0_1.length c0_1)] 24 (0,0)))∧Aside0 (w'.heap[gb106]? =some (.cells #[.string (⟨#[]⟩:ByteArray),(.slice none 0 0)] 33 (0,0)))∧Aside0 (w'.heap[gb108]? =some (.cells #[.string t107,u109001] 33 (0,0)))∧Aside0 (Below w.heap.size w w'))
  case atStart=>exact ⟨(0),(([]:List (S98))),(.slice none 0 0),(by first|rfl|(simp;done)|(simp [*];done)),H',⟨Nat.le_refl _⟩,⟨by first|exact Kd.R_nil _ _ _ _ _|exact Kd.N_nil _ _ _ _ _|exact Kd.V_nil _ _ _ _ _|exact Kd.Q_nil _ _ _ _ _|exact Kd.S_nil _ _ _ _ _⟩,⟨by (with_reducible repeat (first|refine blk_drewN ?_ _|refine blk_drew ?_|refine blk_alloc ?_ _));refine blk_far ?_ NB105_108.out _;(with_reducible repeat (first|refine blk_drewN ?_ _|refine blk_drew ?_|refine blk_alloc ?_ _));refine blk_far ?_ NB105_108.out _;(with_reducible repeat (first|refine blk_drewN ?_ _|refine blk_drew ?_|refine blk_alloc ?_ _));exact BK105.out⟩,⟨by (with_reducible repeat (first|refine blk_drewN ?_ _|refine blk_drew ?_|refine blk_alloc ?_ _));refine blk_far ?_ NB106_108.out _;(with_reducible repeat (first|refine blk_drewN ?_ _|refine blk_drew ?_|refine blk_alloc ?_ _));refine blk_far ?_ NB106_108.out _;(with_reducible repeat (first|refine blk_drewN ?_ _|refine blk_drew ?_|refine blk_alloc ?_ _));exact BK106.out⟩,⟨by (with_reducible repeat (first|refine blk_drewN ?_ _|refine blk_drew ?_|refine blk_alloc ?_ _));refine blk_put (cs:= #[.string t107,.slice none 0 0]) ?_ 1 _ rfl;(with_reducible repeat (first|refine blk_drewN ?_ _|refine blk_drew ?_|refine blk_alloc ?_ _));refine blk_put (cs:= #[.string (⟨#[]⟩:ByteArray),.slice none 0 0]) ?_ 0 _ rfl;(with_reducible repeat (first|refine blk_drewN ?_ _|refine blk_drew ?_|refine blk_alloc ?_ _));exact BK108.out⟩,⟨by repeat (first|(with_reducible first|exact HB.out|apply below_alloc|apply pw_below_drewN|apply below_drew1|refine below_set ?_ GE105.out|refine below_set ?_ GE106.out|refine below_set ?_ GE108.out)|exact HB.out)⟩⟩
  case round=>
    clear H'
    try clear c1
    try clear c2
    try clear p2
    try clear c4
    try clear c5
    try clear c9
    try clear c10
    try clear hcz11_0
    try clear hcz11_1
    try clear hcz12_0
    try clear hcz12_1
    try clear hcz6_0
    try clear hcz6_1
    try clear hfz11_0
    try clear hfz11_1
    try clear hfz12_0
    try clear hfz12_1
    try clear hfz6_0
    try clear hfz6_1
    obtain ⟨x13_1,x109001_1,u109001,rfl,HA,HK1,HO_109001,BK105,BK106,BK108,HB⟩:=hrel
    cases gk with
    |zero=>exact absurd HA.out (by simp [ergolaw13_A_Atom.l0])
    |succ k1=>
      have H:=HA.out
      clear HA
      simp only [ergolaw13_A_Atom.l0] at H
      by_cases c13:x13_1<(l0_1.length:Int)
      · rw [if_pos c13] at H
        have c13b0:decide (x13_1<(l0_1.length:Int))=true:=decide_eq_true c13
        clear c13
        by_cases c14:0≤x13_1
        · rw [if_pos c14] at H
          have c14b0:decide (0≤x13_1)=true:=decide_eq_true c14
          clear c14
          by_cases c15:x13_1<(l0_1.length:Int)
          · rw [if_pos c15] at H
            have c15b0:decide (x13_1<(l0_1.length:Int))=true:=decide_eq_true c15
            clear c15
            replace H:=Option.bind_eq_some_iff.mp H
            obtain ⟨⟨t111,t112,t113⟩,A160,H⟩:=H
            replace H:(if x109001_1.length<4398046511104 then (ergolaw13_A_Atom.l0 k1 l0_1 (l0_1.length:Int) (wrap64 (x13_1+1)) t107 (x109001_1++[(⟨t111,t112,t113⟩:S98)])) else (none))=some (r1,r2):=H
            have A16:=Aside0.mk A160
            clear A160
            by_cases c17:x109001_1.length<4398046511104
            · rw [if_pos c17] at H
              have LMc17:=Aside0.mk c17
              clear c17
              obtain ⟨y114,hy114⟩:∃y_:List (S98),y_=(x109001_1++[(⟨t111,t112,t113⟩:S98)]):=⟨_,rfl⟩
              replace H:(ergolaw13_A_Atom.l0 k1 l0_1 (l0_1.length:Int) (wrap64 (x13_1+1)) t107 y114)=some (r1,r2):=by first|(rw [hy114];with_reducible exact H)|(have H2_:=(Option.bind_some _ _).symm.trans H;rw [hy114];with_reducible exact H2_)|(have H2_:=(Option.bind_some _ _).symm.trans H;with_reducible exact H2_)|with_reducible exact H|(rw [hy114];exact H)|exact H
              have Ny114:=Aside0.mk hy114
              clear hy114
              have H':=Aside0.mk H
              clear H
              have p109:0≤(x13_1:Int):=of_decide_eq_true (by first|(with_reducible assumption)|assumption)
              have q109:x13_1<(l0_1.length:Int):=of_decide_eq_true (by first|(with_reducible assumption)|assumption)
              obtain ⟨ad109,e109,hx109_0,hx109_1,hx109_2⟩:=at_T89 HR0_1.out x13_1 p109 q109
              cases e109
              replace hx109_0:=(HB.out.cell (World.block_lt_of_cell? w _ hx109_0)).trans hx109_0
              replace hx109_1:=(HB.out.cell (World.block_lt_of_cell? w _ hx109_1)).trans hx109_1
              replace hx109_2:=(HB.out.cell (World.block_lt_of_cell? w _ hx109_2)).trans hx109_2
              replace p109:=eq_true p109
              replace q109:=eq_true q109
              try go_wp2_with (first|((with_reducible refine gate_dst (N:=5) rfl ?_);refine box_event ?hg (N:=5) ?hd (cs:= #[.int .i64 0,.int .i64 0,.int .i64 0]) (t:=89) ?hr ?_;(case hd=>rfl);(case hg=>rfl);(case hr=>first|(go_simp;done)|(go_simp;rfl));intro gb110 hg w18 hbox hb;have n0_:=Aside0.mk (Kd.R_below (by (with_reducible repeat (first|apply Kd.R_alloc|apply Kd.R_drewN|apply Kd.R_drew));exact HO_109001.out) hb);have n1_:=Aside0.mk (blk_below (g:=gb105) (o:= .cells #[.int .i64 a0_0,.slice (some ad109) l0_1.length c0_1] 24 (0,0)) (by (with_reducible repeat (first|refine blk_drewN ?_ _|refine blk_drew ?_|refine blk_alloc ?_ _));exact BK105.out) hb);have n2_:=Aside0.mk (blk_below (g:=gb106) (o:= .cells #[.string (⟨#[]⟩:ByteArray),.slice none 0 0] 33 (0,0)) (by (with_reducible repeat (first|refine blk_drewN ?_ _|refine blk_drew ?_|refine blk_alloc ?_ _));exact BK106.out) hb);have n3_:=Aside0.mk (blk_below (g:=gb108) (o:= .cells #[.string t107,u109001] 33 (0,0)) (by (with_reducible repeat (first|refine blk_drewN ?_ _|refine blk_drew ?_|refine blk_alloc ?_ _));exact BK108.out) hb);have n4_:=Aside0.mk (below_step (by repeat (first|(with_reducible first|exact HB.out|apply below_alloc|apply pw_below_drewN|apply below_drew1|refine below_set ?_ GE105.out|refine below_set ?_ GE106.out|refine below_set ?_ GE108.out)|exact HB.out)) hb);have n5_:=Aside0.mk (hbox);have n6_:=Aside0.mk ((by rw [hg];exact (below_size (by repeat (first|(with_reducible first|exact HB.out|apply below_alloc|apply pw_below_drewN|apply below_drew1|refine below_set ?_ GE105.out|refine below_set ?_ GE106.out|refine below_set ?_ GE108.out)|exact HB.out))):w.heap.size≤gb110));have n7_:=Aside0.mk ((by rw [hg];exact (below_size (by repeat (first|(with_reducible first|exact HB.out|apply below_alloc|apply pw_below_drewN|apply below_drew1|refine below_set ?_ GE105.out|refine below_set ?_ GE106.out|refine below_set ?_ GE108.out)|exact HB.out))):w.heap.size≤gb110));have n8_:=Aside0.mk ((by rw [hg];exact Nat.ne_of_lt (blk_lt (g:=gb105) (o:= .cells #[.int .i64 a0_0,.slice (some ad109) l0_1.length c0_1] 24 (0,0)) (by (with_reducible repeat (first|refine blk_drewN ?_ _|refine blk_drew ?_|refine blk_alloc ?_ _));exact BK105.out)):gb105≠gb110));have n9_:=Aside0.mk ((by rw [hg];exact Nat.ne_of_gt (blk_lt (g:=gb105) (o:= .cells #[.int .i64 a0_0,.slice (some ad109) l0_1.length c0_1] 24 (0,0)) (by (with_reducible repeat (first|refine blk_drewN ?_ _|refine blk_drew ?_|refine blk_alloc ?_ _));exact BK105.out)):gb110≠gb105));have n10_:=Aside0.mk ((by rw [hg];exact Nat.ne_of_lt (blk_lt (g:=gb106) (o:= .cells #[.string (⟨#[]⟩:ByteArray),.slice none 0 0] 33 (0,0)) (by (with_reducible repeat (first|refine blk_drewN ?_ _|refine blk_drew ?_|refine blk_alloc ?_ _));exact BK106.out)):gb106≠gb110));have n11_:=Aside0.mk ((by rw [hg];exact Nat.ne_of_gt (blk_lt (g:=gb106) (o:= .cells #[.string (⟨#[]⟩:ByteArray),.slice none 0 0] 33 (0,0)) (by (with_reducible repeat (first|refine blk_drewN ?_ _|refine blk_drew ?_|refine blk_alloc ?_ _));exact BK106.out)):gb110≠gb106));have n12_:=Aside0.mk ((by rw [hg];exact Nat.ne_of_lt (blk_lt (g:=gb108) (o:= .cells #[.string t107,u109001] 33 (0,0)) (by (with_reducible repeat (first|refine blk_drewN ?_ _|refine blk_drew ?_|refine blk_alloc ?_ _));exact BK108.out)):gb108≠gb110));have n13_:=Aside0.mk ((by rw [hg];exact Nat.ne_of_gt (blk_lt (g:=gb108) (o:= .cells #[.string t107,u109001] 33 (0,0)) (by (with_reducible repeat (first|refine blk_drewN ?_ _|refine blk_drew ?_|refine blk_alloc ?_ _));exact BK108.out)):gb110≠gb108));clear HO_109001;clear BK105;clear BK106;clear BK108;clear HB;have HO_109001:=n0_;have BK105:=n1_;have BK106:=n2_;have BK108:=n3_;have HB:=n4_;have BK110:=n5_;have GW110:=n6_;have GE110:=n7_;have NB105_110:=n8_;have NB110_105:=n9_;have NB106_110:=n10_;have NB110_106:=n11_;have NB108_110:=n12_;have NB110_108:=n13_;clear n0_ n1_ n2_ n3_ n4_ n5_ n6_ n7_ n8_ n9_ n10_ n11_ n12_ n13_;clear hb hbox hg;have hnb19:=NB110_105.out;have hnc19:=NB105_110.out;have hnb20:=NB110_106.out;have hnc20:=NB106_110.out;have hnb21:=NB110_108.out;have hnc21:=NB108_110.out;have hcz22_0:w18.cell? ⟨gb110,0,none⟩=some (.int .i64 0):=(blk_cell BK110.out 0).trans rfl;have hcz22_1:w18.cell? ⟨gb110,1,none⟩=some (.int .i64 0):=(blk_cell BK110.out 1).trans rfl;have hcz22_2:w18.cell? ⟨gb110,2,none⟩=some (.int .i64 0):=(blk_cell BK110.out 2).trans rfl;have hfz22_0:=blk_frozen BK110.out 0;have hfz22_1:=blk_frozen BK110.out 1;have hfz22_2:=blk_frozen BK110.out 2))
              have n0_:Aside0 (Kd.R k98 98 (((w18.setCell ⟨gb110,0,none⟩ (.int .i64 ((rd_T89 l0_1 x13_1).f0))).setCell ⟨gb110,1,none⟩ (.int .i64 ((rd_T89 l0_1 x13_1).f1))).setCell ⟨gb110,2,none⟩ (.int .i64 ((rd_T89 l0_1 x13_1).f2))) w.heap.size (fun _=>True) u109001 x109001_1):=⟨by (with_reducible repeat (first|apply Kd.R_alloc|apply Kd.R_drewN|apply Kd.R_drew));exact Kd.R_mono (Kd.R_far (p:=⟨gb110,2,none⟩) (Kd.R_far (p:=⟨gb110,1,none⟩) (Kd.R_far (p:=⟨gb110,0,none⟩) (Kd.R_types HO_109001.out BK110.out (by decide)) (fun _ hk=>hk.2) (.int .i64 ((rd_T89 l0_1 x13_1).f0))) (fun _ hk=>hk.2) (.int .i64 ((rd_T89 l0_1 x13_1).f1))) (fun _ hk=>hk.2) (.int .i64 ((rd_T89 l0_1 x13_1).f2))) (fun _ hk=>trivial)⟩
              have n1_:Aside0 ((((w18.setCell ⟨gb110,0,none⟩ (.int .i64 ((rd_T89 l0_1 x13_1).f0))).setCell ⟨gb110,1,none⟩ (.int .i64 ((rd_T89 l0_1 x13_1).f1))).setCell ⟨gb110,2,none⟩ (.int .i64 ((rd_T89 l0_1 x13_1).f2))).heap[gb105]? =some (.cells #[.int .i64 a0_0,.slice (some ad109) l0_1.length c0_1] 24 (0,0))):=⟨by (with_reducible repeat (first|refine blk_drewN ?_ _|refine blk_drew ?_|refine blk_alloc ?_ _));refine blk_far ?_ NB105_110.out _;(with_reducible repeat (first|refine blk_drewN ?_ _|refine blk_drew ?_|refine blk_alloc ?_ _));refine blk_far ?_ NB105_110.out _;(with_reducible repeat (first|refine blk_drewN ?_ _|refine blk_drew ?_|refine blk_alloc ?_ _));refine blk_far ?_ NB105_110.out _;(with_reducible repeat (first|refine blk_drewN ?_ _|refine blk_drew ?_|refine blk_alloc ?_ _));exact BK105.out⟩
              have n2_:Aside0 ((((w18.setCell ⟨gb110,0,none⟩ (.int .i64 ((rd_T89 l0_1 x13_1).f0))).setCell ⟨gb110,1,none⟩ (.int .i64 ((rd_T89 l0_1 x13_1).f1))).setCell ⟨gb110,2,none⟩ (.int .i64 ((rd_T89 l0_1 x13_1).f2))).heap[gb106]? =some (.cells #[.string (⟨#[]⟩:ByteArray),.slice none 0 0] 33 (0,0))):=⟨by (with_reducible repeat (first|refine blk_drewN ?_ _|refine blk_drew ?_|refine blk_alloc ?_ _));refine blk_far ?_ NB106_110.out _;(with_reducible repeat (first|refine blk_drewN ?_ _|refine blk_drew ?_|refine blk_alloc ?_ _));refine blk_far ?_ NB106_110.out _;(with_reducible repeat (first|refine blk_drewN ?_ _|refine blk_drew ?_|refine blk_alloc ?_ _));refine blk_far ?_ NB106_110.out _;(with_reducible repeat (first|refine blk_drewN ?_ _|refine blk_drew ?_|refine blk_alloc ?_ _));exact BK106.out⟩
              have n3_:Aside0 ((((w18.setCell ⟨gb110,0,none⟩ (.int .i64 ((rd_T89 l0_1 x13_1).f0))).setCell ⟨gb110,1,none⟩ (.int .i64 ((rd_T89 l0_1 x13_1).f1))).setCell ⟨gb110,2,none⟩ (.int .i64 ((rd_T89 l0_1 x13_1).f2))).heap[gb108]? =some (.cells #[.string t107,u109001] 33 (0,0))):=⟨by (with_reducible repeat (first|refine blk_drewN ?_ _|refine blk_drew ?_|refine blk_alloc ?_ _));refine blk_far ?_ NB108_110.out _;(with_reducible repeat (first|refine blk_drewN ?_ _|refine blk_drew ?_|refine blk_alloc ?_ _));refine blk_far ?_ NB108_110.out _;(with_reducible repeat (first|refine blk_drewN ?_ _|refine blk_drew ?_|refine blk_alloc ?_ _));refine blk_far ?_ NB108_110.out _;(with_reducible repeat (first|refine blk_drewN ?_ _|refine blk_drew ?_|refine blk_alloc ?_ _));exact BK108.out⟩
              have n4_:Aside0 ((((w18.setCell ⟨gb110,0,none⟩ (.int .i64 ((rd_T89 l0_1 x13_1).f0))).setCell ⟨gb110,1,none⟩ (.int .i64 ((rd_T89 l0_1 x13_1).f1))).setCell ⟨gb110,2,none⟩ (.int .i64 ((rd_T89 l0_1 x13_1).f2))).heap[gb110]? =some (.cells #[.int .i64 ((rd_T89 l0_1 x13_1).f0),.int .i64 ((rd_T89 l0_1 x13_1).f1),.int .i64 ((rd_T89 l0_1 x13_1).f2)] 89 (0,0))):=⟨by (with_reducible repeat (first|refine blk_drewN ?_ _|refine blk_drew ?_|refine blk_alloc ?_ _));refine blk_put (cs:= #[.int .i64 ((rd_T89 l0_1 x13_1).f0),.int .i64 ((rd_T89 l0_1 x13_1).f1),.int .i64 0]) ?_ 2 _ rfl;(with_reducible repeat (first|refine blk_drewN ?_ _|refine blk_drew ?_|refine blk_alloc ?_ _));refine blk_put (cs:= #[.int .i64 ((rd_T89 l0_1 x13_1).f0),.int .i64 0,.int .i64 0]) ?_ 1 _ rfl;(with_reducible repeat (first|refine blk_drewN ?_ _|refine blk_drew ?_|refine blk_alloc ?_ _));refine blk_put (cs:= #[.int .i64 0,.int .i64 0,.int .i64 0]) ?_ 0 _ rfl;(with_reducible repeat (first|refine blk_drewN ?_ _|refine blk_drew ?_|refine blk_alloc ?_ _));exact BK110.out⟩
              have n5_:Aside0 (Below w.heap.size w (((w18.setCell ⟨gb110,0,none⟩ (.int .i64 ((rd_T89 l0_1 x13_1).f0))).setCell ⟨gb110,1,none⟩ (.int .i64 ((rd_T89 l0_1 x13_1).f1))).setCell ⟨gb110,2,none⟩ (.int .i64 ((rd_T89 l0_1 x13_1).f2)))):=⟨by repeat (first|(with_reducible first|exact HB.out|apply below_alloc|apply pw_below_drewN|apply below_drew1|refine below_set ?_ GE105.out|refine below_set ?_ GE106.out|refine below_set ?_ GE108.out|refine below_set ?_ GE110.out)|exact HB.out)⟩
              (try clear HO_109001)
              (try clear BK105)
              (try clear BK106)
              (try clear BK108)
              (try clear BK110)
              (try clear HB)
              generalize (((w18.setCell ⟨gb110,0,none⟩ (.int .i64 ((rd_T89 l0_1 x13_1).f0))).setCell ⟨gb110,1,none⟩ (.int .i64 ((rd_T89 l0_1 x13_1).f1))).setCell ⟨gb110,2,none⟩ (.int .i64 ((rd_T89 l0_1 x13_1).f2)))=w23 at n0_ n1_ n2_ n3_ n4_ n5_ ⊢
              have HO_109001:=n0_
              have BK105:=n1_
              have BK106:=n2_
              have BK108:=n3_
              have BK110:=n4_
              have HB:=n5_
              clear n0_ n1_ n2_ n3_ n4_ n5_
              have n0_:=Aside0.mk (Kd.R_drew HO_109001.out)
              have n1_:=Aside0.mk (blk_drew BK105.out)
              have n2_:=Aside0.mk (blk_drew BK106.out)
              have n3_:=Aside0.mk (blk_drew BK108.out)
              have n4_:=Aside0.mk (blk_drew BK110.out)
              have n5_:=Aside0.mk (below_drew1 HB.out)
              clear HO_109001
              clear BK105
              clear BK106
              clear BK108
              clear BK110
              clear HB
              have HO_109001:=n0_
              have BK105:=n1_
              have BK106:=n2_
              have BK108:=n3_
              have BK110:=n4_
              have HB:=n5_
              clear n0_ n1_ n2_ n3_ n4_ n5_
              refine start_ (n:=8) (S:=fun w'=>w'.cell? ⟨gb108,0,none⟩=some (.string t107)∧w'.cell? ⟨gb108,1,none⟩=some (u109001)∧w'.cell? ⟨gb110,0,none⟩=some (.int .i64 ((rd_T89 l0_1 x13_1).f0))∧w'.cell? ⟨gb110,1,none⟩=some (.int .i64 ((rd_T89 l0_1 x13_1).f1))∧w'.cell? ⟨gb110,2,none⟩=some (.int .i64 ((rd_T89 l0_1 x13_1).f2))) (ds:=[7]) #[false,false,false,false,false,false,false,false] (by kernel_rfl) rfl rfl ⟨(blk_cell BK108.out 0).trans rfl,(blk_cell BK108.out 1).trans rfl,(blk_cell BK110.out 0).trans rfl,(blk_cell BK110.out 1).trans rfl,(blk_cell BK110.out 2).trans rfl⟩ (fun hHeld=> ?_);refine with_tabW ergolaw13_A_Atom.tab5 ergolaw13_A_Atom.bits5 (fun HT_ HW_=> ?_)
              generalize w23.drew=w24 at HO_109001 BK105 BK106 BK108 BK110 HB hHeld ⊢
              refine pure_ (i:=0) (N:=some 17) (v:= ?_) (a':= ?_) #[true,false,false,false,false,false,false,false] rfl rfl (any_of HT_.out (by kernel_rfl)) (fun _ _ _ h=>h) (Or.inl ⟨by rfl,?_⟩) ?_ ?_
              rotate_left
              · intro w'
                go_simp
                with_reducible rfl
              rotate_left
              · simp only [Act.put, List.setIfInBounds_toArray, List.set_cons_zero, List.set_cons_succ, i64_w, i32_w]
                rfl
              refine take_ (i:=1) (N:=some 18) (v:= ?_) (a':= ?_) #[true,true,false,false,false,false,false,false] rfl rfl (take_ofW HT_.out HW_.out (by kernel_rfl)) (fun _ _ _ h=>h) (Or.inl ⟨by rfl,?_⟩) hHeld ?_ ?_
              rotate_left
              · rintro w' ⟨s0, s1, s2, s3, s4⟩
                go_simp
                with_reducible rfl
              rotate_left
              · simp only [Act.put, List.setIfInBounds_toArray, List.set_cons_zero, List.set_cons_succ, i64_w, i32_w]
                rfl
              refine take_ (i:=2) (N:=some 19) (v:= ?_) (a':= ?_) #[true,true,true,false,false,false,false,false] rfl rfl (take_ofW HT_.out HW_.out (by kernel_rfl)) (fun _ _ _ h=>h) (Or.inl ⟨by rfl,?_⟩) hHeld ?_ ?_
              rotate_left
              · rintro w' ⟨s0, s1, s2, s3, s4⟩
                go_simp
                with_reducible rfl
              rotate_left
              · simp only [Act.put, List.setIfInBounds_toArray, List.set_cons_zero, List.set_cons_succ, i64_w, i32_w]
                rfl
              refine one_ (i:=3) (N:=some 20) #[true,true,true,true,false,false,false,false] rfl rfl (one_of HT_.out (by kernel_rfl)) (by decide) (fun K hK=> ?_)
              refine goes_ Tryz.func56 (by kernel_rfl) rfl #[.agg #[.int .i64 ((rd_T89 l0_1 x13_1).f0),.int .i64 ((rd_T89 l0_1 x13_1).f1),.int .i64 ((rd_T89 l0_1 x13_1).f2)]] (by rfl) rfl rfl (by (try simp only [List.map_toArray,List.map_cons,List.map_nil]);first|done|rfl|(simp only [List.length_drop,List.length_take];rfl)) ?_
              with_reducible refine (ergolaw13_T_Term.calls ((rd_T89 l0_1 x13_1).f0) ((rd_T89 l0_1 x13_1).f1) ((rd_T89 l0_1 x13_1).f2) t111 t112 t113 _ A16.out).mono ?_
              rintro e w25 ⟨rfl,hb⟩
              refine ⟨_,rfl,?_⟩
              have n0_:=Aside0.mk (Kd.R_below (by (with_reducible repeat (first|apply Kd.R_alloc|apply Kd.R_drewN|apply Kd.R_drew));exact HO_109001.out) hb)
              have n1_:=Aside0.mk (blk_below (g:=gb105) (o:= .cells #[.int .i64 a0_0,.slice (some ad109) l0_1.length c0_1] 24 (0,0)) (by (with_reducible repeat (first|refine blk_drewN ?_ _|refine blk_drew ?_|refine blk_alloc ?_ _));exact BK105.out) hb)
              have n2_:=Aside0.mk (blk_below (g:=gb106) (o:= .cells #[.string (⟨#[]⟩:ByteArray),.slice none 0 0] 33 (0,0)) (by (with_reducible repeat (first|refine blk_drewN ?_ _|refine blk_drew ?_|refine blk_alloc ?_ _));exact BK106.out) hb)
              have n3_:=Aside0.mk (blk_below (g:=gb108) (o:= .cells #[.string t107,u109001] 33 (0,0)) (by (with_reducible repeat (first|refine blk_drewN ?_ _|refine blk_drew ?_|refine blk_alloc ?_ _));exact BK108.out) hb)
              have n4_:=Aside0.mk (blk_below (g:=gb110) (o:= .cells #[.int .i64 ((rd_T89 l0_1 x13_1).f0),.int .i64 ((rd_T89 l0_1 x13_1).f1),.int .i64 ((rd_T89 l0_1 x13_1).f2)] 89 (0,0)) (by (with_reducible repeat (first|refine blk_drewN ?_ _|refine blk_drew ?_|refine blk_alloc ?_ _));exact BK110.out) hb)
              have n5_:=Aside0.mk (below_step (by repeat (first|(with_reducible first|exact HB.out|apply below_alloc|apply pw_below_drewN|apply below_drew1|refine below_set ?_ GE105.out|refine below_set ?_ GE106.out|refine below_set ?_ GE108.out|refine below_set ?_ GE110.out)|exact HB.out)) hb)
              clear HO_109001
              clear BK105
              clear BK106
              clear BK108
              clear BK110
              clear HB
              have HO_109001:=n0_
              have BK105:=n1_
              have BK106:=n2_
              have BK108:=n3_
              have BK110:=n4_
              have HB:=n5_
              clear n0_ n1_ n2_ n3_ n4_ n5_
              (try clear hb)
              (try clear hb2)
              (try clear hk)
              (try clear hi)
              refine hK.out _ _ ⟨(blk_cell BK108.out 0).trans rfl,(blk_cell BK108.out 1).trans rfl,(blk_cell BK110.out 0).trans rfl,(blk_cell BK110.out 1).trans rfl,(blk_cell BK110.out 2).trans rfl⟩ (fun hHeld=> ?_)
              clear hK K
              refine norm_ (a':= ?_) ?_ ?_
              rotate_left
              · show Act.put _ (some 20) _ = _
                simp only [Act.put,List.setIfInBounds_toArray,List.set_cons_zero,List.set_cons_succ,i64_w,i32_w]
                rfl
              refine one_ (i:=4) (N:=some 21) #[true,true,true,true,true,false,false,false] rfl rfl (one_of HT_.out (by kernel_rfl)) (by decide) (fun K hK=> ?_)
              refine value_ (w1:= ?_) (v:= ?_) (by rfl) rfl ?_ ?_
              rotate_left 2
              · go_simp
                constructor
                · rfl
                · rfl
              refine hK.out _ _ ⟨(blk_cell (blk_alloc BK108.out _) 0).trans rfl,(blk_cell (blk_alloc BK108.out _) 1).trans rfl,(blk_cell (blk_alloc BK110.out _) 0).trans rfl,(blk_cell (blk_alloc BK110.out _) 1).trans rfl,(blk_cell (blk_alloc BK110.out _) 2).trans rfl⟩ (fun hHeld=> ?_)
              clear hK K
              refine norm_ (a':= ?_) ?_ ?_
              rotate_left
              · show Act.put _ (some 21) _ = _
                simp only [Act.put,List.setIfInBounds_toArray,List.set_cons_zero,List.set_cons_succ,i64_w,i32_w]
                rfl
              refine one_ (i:=5) (N:=some 22) #[true,true,true,true,true,true,false,false] rfl rfl (one_of HT_.out (by kernel_rfl)) (by decide) (fun K hK=> ?_)
              refine Kd.R_append_step k98 (w0:=w) w.heap.size (by rfl) (.tmp 18) (.tmp 21) 31 98 (.agg #[(.int .i64 0),(.string ⟨#[]⟩),(.int .i64 0)]) 32 rfl Tryz.underlying31 info98 rfl (by decide) (by omega) u109001 x109001_1 (⟨t111,t112,t113⟩:S98) [.int .i64 t111,.string t112,.int .i64 t113] (fun _=>True) (fun _=>False) rfl rfl ?aP (fun _ hk=>hk.elim) ?aF ?aO ?aB ?aS ?aL ?_
              (case aP=>exact k98_mkM _ _ _ (⟨t111,t112,t113⟩:S98))
              (case aB=>exact (by repeat (first|(with_reducible first|exact HB.out|apply below_alloc|apply pw_below_drewN|apply below_drew1|refine below_set ?_ GE105.out|refine below_set ?_ GE106.out|refine below_set ?_ GE108.out|refine below_set ?_ GE110.out)|exact HB.out)))
              (case aF=>exact (fun _ _=>trivial))
              (case aO=>exact (by (with_reducible repeat (first|apply Kd.R_alloc|apply Kd.R_drewN|apply Kd.R_drew));exact HO_109001.out))
              (case aS=>exact (below_size (by repeat (first|(with_reducible first|exact HB.out|apply below_alloc|apply pw_below_drewN|apply below_drew1|refine below_set ?_ GE105.out|refine below_set ?_ GE106.out|refine below_set ?_ GE108.out|refine below_set ?_ GE110.out)|exact HB.out))))
              (case aL=>have:=LMc17.out;omega)
              intro v115 w26 ho hb hg hat
              rw [←Ny114.out] at ho
              have n0_:=Aside0.mk (blk_grown (g:=gb105) (o:= .cells #[.int .i64 a0_0,.slice (some ad109) l0_1.length c0_1] 24 (0,0)) (by (with_reducible repeat (first|refine blk_drewN ?_ _|refine blk_drew ?_|refine blk_alloc ?_ _));exact BK105.out) hg (Kd.R_ne HO_109001.out BK105.out (by decide)))
              have n1_:=Aside0.mk (blk_grown (g:=gb106) (o:= .cells #[.string (⟨#[]⟩:ByteArray),.slice none 0 0] 33 (0,0)) (by (with_reducible repeat (first|refine blk_drewN ?_ _|refine blk_drew ?_|refine blk_alloc ?_ _));exact BK106.out) hg (Kd.R_ne HO_109001.out BK106.out (by decide)))
              have n2_:=Aside0.mk (blk_grown (g:=gb108) (o:= .cells #[.string t107,u109001] 33 (0,0)) (by (with_reducible repeat (first|refine blk_drewN ?_ _|refine blk_drew ?_|refine blk_alloc ?_ _));exact BK108.out) hg (Kd.R_ne HO_109001.out BK108.out (by decide)))
              have n3_:=Aside0.mk (blk_grown (g:=gb110) (o:= .cells #[.int .i64 ((rd_T89 l0_1 x13_1).f0),.int .i64 ((rd_T89 l0_1 x13_1).f1),.int .i64 ((rd_T89 l0_1 x13_1).f2)] 89 (0,0)) (by (with_reducible repeat (first|refine blk_drewN ?_ _|refine blk_drew ?_|refine blk_alloc ?_ _));exact BK110.out) hg (Kd.R_ne HO_109001.out BK110.out (by decide)))
              have n4_:=Aside0.mk (hb)
              have n5_:=Aside0.mk (ho)
              clear BK105
              clear BK106
              clear BK108
              clear BK110
              clear HB
              clear HO_109001
              have BK105:=n0_
              have BK106:=n1_
              have BK108:=n2_
              have BK110:=n3_
              have HB:=n4_
              have HO116:=n5_
              clear n0_ n1_ n2_ n3_ n4_ n5_
              clear ho hb hg hat
              obtain ⟨Ao27,co27,eo27⟩:=Kd.R_slice HO116.out
              (first|subst eo27|(injection eo27 with f1_ f2_ f3_;have f4_:=f1_.symm;have f5_:=f3_.symm;clear f1_ f2_ f3_;subst f4_;subst f5_))
              refine hK.out _ _ ⟨(blk_cell BK108.out 0).trans rfl,(blk_cell BK108.out 1).trans rfl,(blk_cell BK110.out 0).trans rfl,(blk_cell BK110.out 1).trans rfl,(blk_cell BK110.out 2).trans rfl⟩ (fun hHeld=> ?_)
              clear hK K
              refine norm_ (a':= ?_) ?_ ?_
              rotate_left
              · show Act.put _ (some 22) _ = _
                simp only [Act.put,List.setIfInBounds_toArray,List.set_cons_zero,List.set_cons_succ,i64_w,i32_w]
                rfl
              refine pure_ (i:=6) (N:=some 23) (v:= ?_) (a':= ?_) #[true,true,true,true,true,true,true,false] rfl rfl (any_of HT_.out (by kernel_rfl)) (fun _ _ _ h=>h) (Or.inl ⟨by rfl,?_⟩) ?_ ?_
              rotate_left
              · intro w'
                go_simp
                with_reducible rfl
              rotate_left
              · simp only [Act.put, List.setIfInBounds_toArray, List.set_cons_zero, List.set_cons_succ, i64_w, i32_w]
                rfl
              refine last_ (i:=7) (N:=none) #[true,true,true,true,true,true,true,true] rfl rfl (one_of HT_.out (by kernel_rfl)) (by decide) (fun K hK=> ?_)
              have hs28:w26.cell? ⟨gb108,1,none⟩=some (u109001):=(blk_cell BK108.out 1).trans rfl
              have hfs28:=blk_frozen BK108.out 1
              have hns28_0:=NB105_108.out
              have hns28_1:=NB106_108.out
              have hns28_3:=NB110_108.out
              have hms28_0:=NB108_105.out
              have hms28_1:=NB108_106.out
              have hms28_3:=NB108_110.out
              refine skip_ (w1:= ?_) (by rfl) rfl ?_ ?_
              rotate_left
              · go_simp
                rfl
              refine hK.out _ _ ?_
              clear hK K
              refine done_ (done_of HT_.out (by kernel_rfl)) ?_
              try go_wp2
              go_roundg k1
              case measure=>have:=HK1.out;omega
              case rel=>exact ⟨(wrap64 (x13_1+1)),(y114),(.slice Ao27 y114.length co27),(by first|rfl|(simp;done)|(simp [*];done)),H',⟨by have:=HK1.out;omega⟩,⟨by (with_reducible repeat (first|apply Kd.R_alloc|apply Kd.R_drewN|apply Kd.R_drew));exact Kd.R_mono (Kd.R_far (p:=⟨gb108,1,none⟩) (Kd.R_types HO116.out BK108.out (by decide)) (fun _ hk=>hk.2) (.slice Ao27 y114.length co27)) (fun _ hk=>trivial)⟩,⟨by (with_reducible repeat (first|refine blk_drewN ?_ _|refine blk_drew ?_|refine blk_alloc ?_ _));refine blk_far ?_ NB105_108.out _;(with_reducible repeat (first|refine blk_drewN ?_ _|refine blk_drew ?_|refine blk_alloc ?_ _));exact BK105.out⟩,⟨by (with_reducible repeat (first|refine blk_drewN ?_ _|refine blk_drew ?_|refine blk_alloc ?_ _));refine blk_far ?_ NB106_108.out _;(with_reducible repeat (first|refine blk_drewN ?_ _|refine blk_drew ?_|refine blk_alloc ?_ _));exact BK106.out⟩,⟨by (with_reducible repeat (first|refine blk_drewN ?_ _|refine blk_drew ?_|refine blk_alloc ?_ _));refine blk_put (cs:= #[.string t107,u109001]) ?_ 1 _ rfl;(with_reducible repeat (first|refine blk_drewN ?_ _|refine blk_drew ?_|refine blk_alloc ?_ _));exact BK108.out⟩,⟨by repeat (first|(with_reducible first|exact HB.out|apply below_alloc|apply pw_below_drewN|apply below_drew1|refine below_set ?_ GE105.out|refine below_set ?_ GE106.out|refine below_set ?_ GE108.out|refine below_set ?_ GE110.out)|exact HB.out)⟩⟩
            · rw [if_neg c17] at H
              exact absurd H (by simp)
          · rw [if_neg c15] at H
            exact absurd H (by simp)
        · rw [if_neg c14] at H
          exact absurd H (by simp)
      · rw [if_neg c13] at H
        have c13b0:decide (x13_1<(l0_1.length:Int))=false:=decide_eq_false c13
        clear c13
        by_cases c29:(x109001_1.length:Int)=0
        · rw [if_pos c29] at H
          have c29b0:((x109001_1.length:Int)==0)=true:=beq_iff_eq.mpr c29
          have c29b1:((x109001_1.length:Int) !=0)=false:=bne_eq_false_iff_eq.mpr c29
          clear c29
          obtain ⟨y117,hy117⟩:∃y_:List (S98),y_=(([(⟨0,(⟨#[88]⟩:ByteArray),0⟩:S98)]:List (S98))):=⟨_,rfl⟩
          replace H:(some (t107,y117))=some (r1,r2):=by first|(rw [hy117];with_reducible exact H)|(have H2_:=(Option.bind_some _ _).symm.trans H;rw [hy117];with_reducible exact H2_)|(have H2_:=(Option.bind_some _ _).symm.trans H;with_reducible exact H2_)|with_reducible exact H|(rw [hy117];exact H)|exact H
          have Ny117:=Aside0.mk hy117
          clear hy117
          simp only [Option.some.injEq,Prod.mk.injEq] at H
          obtain ⟨rfl,rfl⟩:=H
          have hnb30:=NB108_105.out
          have hnc30:=NB105_108.out
          have hnb31:=NB108_106.out
          have hnc31:=NB106_108.out
          have hcz32_0:wr.cell? ⟨gb108,0,none⟩=some (.string t107):=(blk_cell BK108.out 0).trans rfl
          have hcz32_1:wr.cell? ⟨gb108,1,none⟩=some (u109001):=(blk_cell BK108.out 1).trans rfl
          have hfz32_0:=blk_frozen BK108.out 0
          have hfz32_1:=blk_frozen BK108.out 1
          obtain ⟨Ao33,co33,eo33⟩:=Kd.R_slice HO_109001.out
          subst eo33
          go_wp2_with (first|((with_reducible refine gate_dst (N:=30) rfl ?_);refine Kd.R_lit k98 _ 98 ?hg (N:=30) ?hd (xs:=([(⟨0,(⟨#[88]⟩:ByteArray),0⟩:S98)]:List (S98))) (inner:=[.int .i64 0,.string (⟨#[88]⟩:ByteArray),.int .i64 0]) (ok:=fun _=>True) (okp:=fun _=>True) ?hr ?hp (fun _ hk=>hk) trivial (Below.refl _ _) (Nat.le_refl _) (by simp) ?_;(case hd=>rfl);(case hg=>rfl);(case hr=>first|(go_simp;done)|(go_simp;rfl));(case hp=>exact (Reps.c3 (show Kd.M k98 _ _ _ (⟨0,(⟨#[88]⟩:ByteArray),0⟩:S98) [.int .i64 0,.string (⟨#[88]⟩:ByteArray),.int .i64 0] from (k98_mkM _ _ _ (⟨0,(⟨#[88]⟩:ByteArray),0⟩:S98))) (Reps.none _ _)));intro v118 w34 ho35 hb hg_ hnew_;clear hg_ hnew_;(first|rw [←Ny117.out] at ho35|(simp only [Int.reduceToNat] at ho35;rw [←Ny117.out] at ho35));have n0_:=Aside0.mk (Kd.R_elder' (by (with_reducible repeat (first|apply Kd.R_alloc|apply Kd.R_drewN|apply Kd.R_drew));exact HO_109001.out) (Kd.R_base ho35) hb);have n1_:=Aside0.mk (Kd.R_lower (Kd.R_new' ho35 (Kd.R_lt (by (with_reducible repeat (first|apply Kd.R_alloc|apply Kd.R_drewN|apply Kd.R_drew));exact HO_109001.out))) (below_size (by repeat (first|(with_reducible first|exact HB.out|apply below_alloc|apply pw_below_drewN|apply below_drew1|refine below_set ?_ GE105.out|refine below_set ?_ GE106.out|refine below_set ?_ GE108.out)|exact HB.out))));have n2_:=Aside0.mk (blk_below (g:=gb105) (o:= .cells #[.int .i64 a0_0,.slice A0_1 l0_1.length c0_1] 24 (0,0)) (by (with_reducible repeat (first|refine blk_drewN ?_ _|refine blk_drew ?_|refine blk_alloc ?_ _));exact BK105.out) hb);have n3_:=Aside0.mk (blk_below (g:=gb106) (o:= .cells #[.string (⟨#[]⟩:ByteArray),.slice none 0 0] 33 (0,0)) (by (with_reducible repeat (first|refine blk_drewN ?_ _|refine blk_drew ?_|refine blk_alloc ?_ _));exact BK106.out) hb);have n4_:=Aside0.mk (blk_below (g:=gb108) (o:= .cells #[.string t107,.slice Ao33 x109001_1.length co33] 33 (0,0)) (by (with_reducible repeat (first|refine blk_drewN ?_ _|refine blk_drew ?_|refine blk_alloc ?_ _));exact BK108.out) hb);have n5_:=Aside0.mk (below_step (by repeat (first|(with_reducible first|exact HB.out|apply below_alloc|apply pw_below_drewN|apply below_drew1|refine below_set ?_ GE105.out|refine below_set ?_ GE106.out|refine below_set ?_ GE108.out)|exact HB.out)) hb);clear HO_109001;clear BK105;clear BK106;clear BK108;clear HB;have HO_109001:=n0_;have HO119:=n1_;have BK105:=n2_;have BK106:=n3_;have BK108:=n4_;have HB:=n5_;clear n0_ n1_ n2_ n3_ n4_ n5_;clear hb ho35;obtain ⟨Ao36,co36,eo36⟩:=Kd.R_slice HO119.out;subst eo36;have hcz37_0:w34.cell? ⟨gb108,0,none⟩=some (.string t107):=(blk_cell BK108.out 0).trans rfl;have hcz37_1:w34.cell? ⟨gb108,1,none⟩=some (.slice Ao33 x109001_1.length co33):=(blk_cell BK108.out 1).trans rfl;have hfz37_0:=blk_frozen BK108.out 0;have hfz37_1:=blk_frozen BK108.out 1;have hnb38:=NB106_105.out;have hnc38:=NB105_106.out;have hcz39_0:w34.cell? ⟨gb106,0,none⟩=some (.string (⟨#[]⟩:ByteArray)):=(blk_cell BK106.out 0).trans rfl;have hcz39_1:w34.cell? ⟨gb106,1,none⟩=some (.slice none 0 0):=(blk_cell BK106.out 1).trans rfl;have hfz39_0:=blk_frozen BK106.out 0;have hfz39_1:=blk_frozen BK106.out 1))
          refine bodyPost_ret (results_cell_row rfl _ _ gb106 33 #[.string t107,.slice Ao36 y117.length co36] (0,0) _ rfl (by (with_reducible repeat (first|refine blk_drewN ?_ _|refine blk_drew ?_|refine blk_alloc ?_ _));refine blk_put (cs:= #[.string t107,.slice none 0 0]) ?_ 1 _ rfl;(with_reducible repeat (first|refine blk_drewN ?_ _|refine blk_drew ?_|refine blk_alloc ?_ _));refine blk_put (cs:= #[.string (⟨#[]⟩:ByteArray),.slice none 0 0]) ?_ 0 _ rfl;(with_reducible repeat (first|refine blk_drewN ?_ _|refine blk_drew ?_|refine blk_alloc ?_ _));refine blk_far ?_ NB106_108.out _;(with_reducible repeat (first|refine blk_drewN ?_ _|refine blk_drew ?_|refine blk_alloc ?_ _));exact BK106.out) Tryz.underlying33 rfl (by kernel_rfl)) rfl ?_
          exact ⟨_,by first|rfl|(simp [errW_none,errW_some] <;>rfl)|(simp [*,errW_none,errW_some] <;>rfl),by (with_reducible repeat (first|apply Kd.R_alloc|apply Kd.R_drewN|apply Kd.R_drew));exact Kd.R_mono (Kd.R_far (p:=⟨gb106,1,none⟩) (Kd.R_far (p:=⟨gb106,0,none⟩) (Kd.R_far (p:=⟨gb108,1,none⟩) (Kd.R_types (Kd.R_types HO119.out BK108.out (by decide)) BK106.out (by decide)) (fun _ hk=>hk.1.2) (.slice Ao36 y117.length co36)) (fun _ hk=>hk.2) (.string t107)) (fun _ hk=>hk.2) (.slice Ao36 y117.length co36)) (fun _ hk=>trivial),by repeat (first|(with_reducible first|exact HB.out|apply below_alloc|apply pw_below_drewN|apply below_drew1|refine below_set ?_ GE105.out|refine below_set ?_ GE106.out|refine below_set ?_ GE108.out)|exact HB.out)⟩
        · rw [if_neg c29] at H
          have c29b0:((x109001_1.length:Int)==0)=false:=beq_eq_false_iff_ne.mpr c29
          have c29b1:((x109001_1.length:Int) !=0)=true:=bne_iff_ne.mpr c29
          have c29b2:¬(x109001_1=[]):=fun h_=>c29 (by rw [h_];rfl)
          simp only [Option.some.injEq,Prod.mk.injEq] at H
          obtain ⟨rfl,rfl⟩:=H
          have hnb40:=NB108_105.out
          have hnc40:=NB105_108.out
          have hnb41:=NB108_106.out
          have hnc41:=NB106_108.out
          have hcz42_0:wr.cell? ⟨gb108,0,none⟩=some (.string t107):=(blk_cell BK108.out 0).trans rfl
          have hcz42_1:wr.cell? ⟨gb108,1,none⟩=some (u109001):=(blk_cell BK108.out 1).trans rfl
          have hfz42_0:=blk_frozen BK108.out 0
          have hfz42_1:=blk_frozen BK108.out 1
          obtain ⟨Ao43,co43,eo43⟩:=Kd.R_slice HO_109001.out
          subst eo43
          have hnb44:=NB106_105.out
          have hnc44:=NB105_106.out
          have hcz45_0:wr.cell? ⟨gb106,0,none⟩=some (.string (⟨#[]⟩:ByteArray)):=(blk_cell BK106.out 0).trans rfl
          have hcz45_1:wr.cell? ⟨gb106,1,none⟩=some (.slice none 0 0):=(blk_cell BK106.out 1).trans rfl
          have hfz45_0:=blk_frozen BK106.out 0
          have hfz45_1:=blk_frozen BK106.out 1
          go_wp2
          refine bodyPost_ret (results_cell_row rfl _ _ gb106 33 #[.string t107,.slice Ao43 x109001_1.length co43] (0,0) _ rfl (by (with_reducible repeat (first|refine blk_drewN ?_ _|refine blk_drew ?_|refine blk_alloc ?_ _));refine blk_put (cs:= #[.string t107,.slice none 0 0]) ?_ 1 _ rfl;(with_reducible repeat (first|refine blk_drewN ?_ _|refine blk_drew ?_|refine blk_alloc ?_ _));refine blk_put (cs:= #[.string (⟨#[]⟩:ByteArray),.slice none 0 0]) ?_ 0 _ rfl;(with_reducible repeat (first|refine blk_drewN ?_ _|refine blk_drew ?_|refine blk_alloc ?_ _));exact BK106.out) Tryz.underlying33 rfl (by kernel_rfl)) rfl ?_
          exact ⟨_,by first|rfl|(simp [errW_none,errW_some] <;>rfl)|(simp [*,errW_none,errW_some] <;>rfl),by (with_reducible repeat (first|apply Kd.R_alloc|apply Kd.R_drewN|apply Kd.R_drew));exact Kd.R_mono (Kd.R_far (p:=⟨gb106,1,none⟩) (Kd.R_far (p:=⟨gb106,0,none⟩) (Kd.R_types HO_109001.out BK106.out (by decide)) (fun _ hk=>hk.2) (.string t107)) (fun _ hk=>hk.2) (.slice Ao43 x109001_1.length co43)) (fun _ hk=>trivial),by repeat (first|(with_reducible first|exact HB.out|apply below_alloc|apply pw_below_drewN|apply below_drew1|refine below_set ?_ GE105.out|refine below_set ?_ GE106.out|refine below_set ?_ GE108.out)|exact HB.out)⟩
end Go.Proofs.YtjlnpdpkobpkiaaGreatDoorPSP
