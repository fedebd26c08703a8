import Derived.Test.YtjlnpdpkobpkiaaGreatDoorZ1PSQx0
import Derived.Test.YtjlnpdpkobpkiaaGreatDoorZ1PSPx2
import Derived.Test.YtjlnpdpkobpkiaaGreatDoorZ1PSPx4
namespace Go.Proofs.YtjlnpdpkobpkiaaGreatDoorPSP
open Go.RowKit Go.Proofs.YtjlnpdpkobpkiaaGreatDoorW.PrintWords Go.Proofs.YtjlnpdpkobpkiaaGreatDoorW.PrintLast Go.Proofs.YtjlnpdpkobpkiaaGreatDoorW.PrintMore
attribute [local go_sem] max2_int min2_int max_two min_two max_three min_three max_four min_four   -- for this text's walks alone
set_option linter.unusedVariables false
set_option linter.unusedSimpArgs false
mutual
def ergolaw13_E_Count.l0:Nat→Int→Int→Int→Int→Int→Int→Int→List (S92)→Option (Int)
 |0,_,_,_,_,_,_,_,_=>none
 |k+1,x1,x5,x6,x207000,x207001,x207002,x207003,x207004=>if x6<(x207004.length:Int) then (if x6<2 then (if x5<100 then (if 0≤x6 then ((ergolaw13_E_Count.f k ((rd_T92 x207004 x6).f0.f0) ((rd_T92 x207004 x6).f0.f1) ((rd_T92 x207004 x6).f0.f2) ((rd_T92 x207004 x6).f1) ((rd_T92 x207004 x6).f2) (wrap64 (x1+1))).bind fun t208=>(ergolaw13_E_Count.l0 k x1 (wrap64 (x5+t208)) (wrap64 (x6+1)) x207000 x207001 x207002 x207003 x207004)) else (none)) else (some x5)) else (some x5)) else (some x5)
def ergolaw13_E_Count.f:Nat→Int→Int→Int→Int→List (S92)→Int→Option (Int)
 |0,_,_,_,_,_,_=>none
 |k+1,a0_0,a0_1,a0_2,a0_3,l0_4,a1=>if a1>6 then (some 100) else (ergolaw13_E_Count.l0 k a1 1 0 a0_0 a0_1 a0_2 a0_3 l0_4)
end
set_option maxHeartbeats 8000000 in
set_option maxRecDepth 100000 in
theorem ergolaw13_E_Count.calls (k:Nat):∀(a0_0:Int) (a0_1:Int) (a0_2:Int) (a0_3:Int) (A0_4:Option Addr) (c0_4:Nat) (l0_4:List (S92)) (a1:Int) (r:Int) (w:World) (hr0_4:Kd.C k92 w A0_4 l0_4.length l0_4) (hc0_4:l0_4.length≤c0_4) (h:ergolaw13_E_Count.f k a0_0 a0_1 a0_2 a0_3 l0_4 a1=some r),
  Calls Tryz.prog 32 #[.agg #[.int .i64 a0_0,.int .i64 a0_1,.int .i64 a0_2,.int .i64 a0_3,.slice A0_4 l0_4.length c0_4],.int .i64 a1] w fun e w'=>e= .returned (.int .i64 r)∧Below w.heap.size w w':=by
 induction k using Nat.strongRecOn with
 |_ k ih=>
 intro a0_0 a0_1 a0_2 a0_3 A0_4 c0_4 l0_4 a1 r w hr0_4 hc0_4 h
 cases k with
 |zero=>exact absurd h (by simp [ergolaw13_E_Count.f])
 |succ k=>
 simp only [ergolaw13_E_Count.f] at h
 have hu92:=Tryz.underlying92
 have HR0_4:=aK_ hr0_4
 have HC0_4:=aK_ hc0_4
 clear hr0_4 hc0_4
 have HB:=aK_ (Below.refl w.heap.size w)
 have H:(if a1>6 then (some 100) else (ergolaw13_E_Count.l0 k a1 1 0 a0_0 a0_1 a0_2 a0_3 l0_4))=some r:=h
 clear h
 by_cases c3:a1>6
 ·rw [if_pos c3] at H
  have c3b0:decide (6<a1)=true:=decide_eq_true c3
  clear c3
  obtain rfl:=Option.some.inj H
  go_enter Tryz.func32,Tryz.ntmps32
  go_wp2_with (first|((with_reducible refine gate_dst (N:=2) rfl ?_);refine box_event ?hg (N:=2) ?hd (cs:= #[.int .i64 a0_0,.int .i64 a0_1,.int .i64 a0_2,.int .i64 a0_3,.slice A0_4 l0_4.length c0_4]) (t:=92) ?hr ?_;(case hd=>rfl);(case hg=>rfl);(case hr=>first|(go_simp;done)|(go_simp;rfl));intro gb206 hg w4 hbox hb;have n0_:=aK_ (lT_ (lB0_ HB.out) hb);have n1_:=aK_ (hbox);have n2_:=aK_ ((by rw [hg];exact (lZ_ (lB0_ HB.out)):w.heap.size≤gb206));have n3_:=aK_ ((by rw [hg];exact (lZ_ (lB0_ HB.out)):w.heap.size≤gb206));clear HB;have HB:=n0_;have BK206:=n1_;have GW206:=n2_;have GE206:=n3_;clear n0_ n1_ n2_ n3_;clear hb hbox hg))
  go_ret
  exact ⟨by first|rfl|(simp [errW_none,errW_some] <;>rfl)|(simp [*,errW_none,errW_some] <;>rfl),(lB1_ HB.out GE206.out)⟩
 ·rw [if_neg c3] at H
  have c3b0:decide (6<a1)=false:=decide_eq_false c3
  clear c3
  have H':=aK_ H
  clear H
  go_enter Tryz.func32,Tryz.ntmps32
  go_wp2_with (first|((with_reducible refine gate_dst (N:=2) rfl ?_);refine box_event ?hg (N:=2) ?hd (cs:= #[.int .i64 a0_0,.int .i64 a0_1,.int .i64 a0_2,.int .i64 a0_3,.slice A0_4 l0_4.length c0_4]) (t:=92) ?hr ?_;(case hd=>rfl);(case hg=>rfl);(case hr=>first|(go_simp;done)|(go_simp;rfl));intro gb206 hg w5 hbox hb;have n0_:=aK_ (lT_ (lB0_ HB.out) hb);have n1_:=aK_ (hbox);have n2_:=aK_ ((by rw [hg];exact (lZ_ (lB0_ HB.out)):w.heap.size≤gb206));have n3_:=aK_ ((by rw [hg];exact (lZ_ (lB0_ HB.out)):w.heap.size≤gb206));clear HB;have HB:=n0_;have BK206:=n1_;have GW206:=n2_;have GE206:=n3_;clear n0_ n1_ n2_ n3_;clear hb hbox hg))
  go_loopg [5,6] k (fun kq v5 v6 w'=>∃(x5_1:Int) (x6_1:Int),v5= .int .i64 x5_1∧v6= .int .i64 x6_1∧Aside0 (ergolaw13_E_Count.l0 kq a1 x5_1 x6_1 a0_0 a0_1 a0_2 a0_3 l0_4=some r)∧Aside0 (kq≤k)∧Aside0 (w'.heap[gb206]? =some (.cells #[.int .i64 a0_0,.int .i64 a0_1,.int .i64 a0_2,.int .i64 a0_3,(.slice A0_4 l0_4.length c0_4)] 92 (0,0)))∧Aside0 (Below w.heap.size w w'))
  case atStart=>exact ⟨(1),(0),(by first|rfl|(simp;done)|(simp [*];done)),(by first|rfl|(simp;done)|(simp [*];done)),H',⟨Nat.le_refl _⟩,⟨by (with_reducible repeat (first|refine bDN ?_ _|refine bD ?_|refine bA ?_ _));exact BK206.out⟩,⟨(lB1_ HB.out GE206.out)⟩⟩
  case round=>
   clear H'
   try clear p2
   try clear c3
   try clear c3b0
   obtain ⟨x5_1,x6_1,rfl,rfl,HA,HK1,BK206,HB⟩:=hrel
   cases gk with
   |zero=>exact absurd HA.out (by simp [ergolaw13_E_Count.l0])
   |succ k1=>
    have H:=HA.out
    clear HA
    simp only [ergolaw13_E_Count.l0] at H
    by_cases c6:x6_1<(l0_4.length:Int)
    ·rw [if_pos c6] at H
     have c6b0:decide (x6_1<(l0_4.length:Int))=true:=decide_eq_true c6
     clear c6
     by_cases c7:x6_1<2
     ·rw [if_pos c7] at H
      have c7b0:decide (x6_1<2)=true:=decide_eq_true c7
      clear c7
      by_cases c8:x5_1<100
      ·rw [if_pos c8] at H
       have c8b0:decide (x5_1<100)=true:=decide_eq_true c8
       clear c8
       by_cases c9:0≤x6_1
       ·rw [if_pos c9] at H
        have c9b0:decide (0≤x6_1)=true:=decide_eq_true c9
        clear c9
        replace H:=Option.bind_eq_some_iff.mp H
        obtain ⟨t208,A100,H⟩:=H
        replace H:(ergolaw13_E_Count.l0 k1 a1 (wrap64 (x5_1+t208)) (wrap64 (x6_1+1)) a0_0 a0_1 a0_2 a0_3 l0_4)=some r:=H
        have A10:=aK_ A100
        clear A100
        have H':=aK_ H
        clear H
        obtain ⟨⟨hcz11_0,hcz11_1,hcz11_2,hcz11_3,hcz11_4⟩,hfz11_0,hfz11_1,hfz11_2,hfz11_3,hfz11_4⟩:=c5_ BK206.out
        have p207:0≤(x6_1:Int):=of_decide_eq_true (by first|(with_reducible assumption)|assumption)
        have q207:x6_1<(l0_4.length:Int):=of_decide_eq_true (by first|(with_reducible assumption)|assumption)
        obtain ⟨ad207,A207_4,c207_4,e207,hx207_0,hx207_1,hx207_2,hx207_3,hx207_4,hl207_4,hi207_4⟩:=at_T92 HR0_4.out x6_1 p207 q207
        cases e207
        replace hx207_0:=(HB.out.cell (wb_ w _ hx207_0)).trans hx207_0
        replace hx207_1:=(HB.out.cell (wb_ w _ hx207_1)).trans hx207_1
        replace hx207_2:=(HB.out.cell (wb_ w _ hx207_2)).trans hx207_2
        replace hx207_3:=(HB.out.cell (wb_ w _ hx207_3)).trans hx207_3
        replace hx207_4:=(HB.out.cell (wb_ w _ hx207_4)).trans hx207_4
        have HR207_4:=aK_ hi207_4
        have HC207_4:=aK_ hl207_4
        clear hi207_4 hl207_4
        replace p207:=eq_true p207
        replace q207:=eq_true q207
        go_wp2_with (first|((with_reducible refine gate_callee (f:=32) rfl ?_);refine goesL_ (some 32) rfl rfl Tryz.func32 (by kernel_rfl) rfl #[.agg #[.int .i64 ((rd_T92 l0_4 x6_1).f0.f0),.int .i64 ((rd_T92 l0_4 x6_1).f0.f1),.int .i64 ((rd_T92 l0_4 x6_1).f0.f2),.int .i64 ((rd_T92 l0_4 x6_1).f1),.slice A207_4 ((rd_T92 l0_4 x6_1).f2).length c207_4],.int .i64 (wrap64 (a1+1))] rfl (by (try simp only [List.map_toArray,List.map_cons,List.map_nil]);first|done|rfl|(simp only [List.length_drop,List.length_take];rfl)) ?_;(with_reducible refine (ih k1 (by have:=HK1.out;omega) ((rd_T92 l0_4 x6_1).f0.f0) ((rd_T92 l0_4 x6_1).f0.f1) ((rd_T92 l0_4 x6_1).f0.f2) ((rd_T92 l0_4 x6_1).f1) _ _ ((rd_T92 l0_4 x6_1).f2) (wrap64 (a1+1)) t208 _ ?side1 ?side2 A10.out).mono ?_);(case side1=>repeat (first|exact (Kd.C_below HR207_4.out HB.out)|(with_reducible refine Kd.C_alloc ?_ _)|(with_reducible refine Kd.C_drewN ?_ _)|(with_reducible refine Kd.C_drew ?_)));(case side2=>exact HC207_4.out);rintro e w12 ⟨rfl,hb⟩;refine ⟨_,rfl,?_⟩;have n0_:=aK_ (bB (bK_ BK206.out) hb);have n1_:=aK_ (lT_ (lB1_ HB.out GE206.out) hb);clear BK206;clear HB;have BK206:=n0_;have HB:=n1_;clear n0_ n1_;(try clear hb);(try clear hb2);(try clear hk);(try clear hi)))
        go_roundg k1
        case measure=>have:=HK1.out;omega
        case rel=>exact ⟨(wrap64 (x5_1+t208)),(wrap64 (x6_1+1)),(by first|rfl|(simp;done)|(simp [*];done)),(by first|rfl|(simp;done)|(simp [*];done)),H',⟨by have:=HK1.out;omega⟩,⟨by (with_reducible repeat (first|refine bDN ?_ _|refine bD ?_|refine bA ?_ _));exact BK206.out⟩,⟨(lB1_ HB.out GE206.out)⟩⟩
       ·rw [if_neg c9] at H
        exact absurd H (by simp)
      ·rw [if_neg c8] at H
       have c8b0:decide (x5_1<100)=false:=decide_eq_false c8
       clear c8
       obtain rfl:=Option.some.inj H
       obtain ⟨⟨hcz13_0,hcz13_1,hcz13_2,hcz13_3,hcz13_4⟩,hfz13_0,hfz13_1,hfz13_2,hfz13_3,hfz13_4⟩:=c5_ BK206.out
       go_wp2
       go_ret
       exact ⟨by first|rfl|(simp [errW_none,errW_some] <;>rfl)|(simp [*,errW_none,errW_some] <;>rfl),(lB1_ HB.out GE206.out)⟩
     ·rw [if_neg c7] at H
      have c7b0:decide (x6_1<2)=false:=decide_eq_false c7
      clear c7
      obtain rfl:=Option.some.inj H
      obtain ⟨⟨hcz14_0,hcz14_1,hcz14_2,hcz14_3,hcz14_4⟩,hfz14_0,hfz14_1,hfz14_2,hfz14_3,hfz14_4⟩:=c5_ BK206.out
      go_wp2
      go_ret
      exact ⟨by first|rfl|(simp [errW_none,errW_some] <;>rfl)|(simp [*,errW_none,errW_some] <;>rfl),(lB1_ HB.out GE206.out)⟩
    ·rw [if_neg c6] at H
     have c6b0:decide (x6_1<(l0_4.length:Int))=false:=decide_eq_false c6
     clear c6
     obtain rfl:=Option.some.inj H
     obtain ⟨⟨hcz15_0,hcz15_1,hcz15_2,hcz15_3,hcz15_4⟩,hfz15_0,hfz15_1,hfz15_2,hfz15_3,hfz15_4⟩:=c5_ BK206.out
     go_wp2
     go_ret
     exact ⟨by first|rfl|(simp [errW_none,errW_some] <;>rfl)|(simp [*,errW_none,errW_some] <;>rfl),(lB1_ HB.out GE206.out)⟩
mutual
def ergolaw13_Few.l0:Nat→List (S27)→Int→Int→Option (Bool)
 |0,_,_,_=>none
 |k+1,x10,x11,x12=>if x12<x11 then (if 0≤x12 then (if x12<(x10.length:Int) then (if (((rd_T27 x10 x12).f0.f1).length:Int)>6 then (ergolaw13_Few.j1 k x10 x11 x12 true ((rd_T27 x10 x12).f0.f0) ((rd_T27 x10 x12).f0.f1) ((rd_T27 x10 x12).f1) ((rd_T27 x10 x12).f2)) else (ergolaw13_Few.j1 k x10 x11 x12 (decide ((((rd_T27 x10 x12).f2).length:Int)>8)) ((rd_T27 x10 x12).f0.f0) ((rd_T27 x10 x12).f0.f1) ((rd_T27 x10 x12).f1) ((rd_T27 x10 x12).f2))) else (none)) else (none)) else (some true)
def ergolaw13_Few.j1:Nat→List (S27)→Int→Int→Bool→Int→List (S89)→Int→List (S94)→Option (Bool)
 |0,_,_,_,_,_,_,_,_=>none
 |k+1,x10,x11,x12,x26,x211000,x211001,x211002,x211003=>if x26=true then (some false) else (ergolaw13_Few.l1 k x10 x11 x12 x211003 (x211003.length:Int) 0)
def ergolaw13_Few.l1:Nat→List (S27)→Int→Int→List (S94)→Int→Int→Option (Bool)
 |0,_,_,_,_,_,_=>none
 |k+1,x10,x11,x12,x28,x29,x30=>if x30<x29 then (if 0≤x30 then (if x30<(x28.length:Int) then (if (((rd_T94 x28 x30).f2.f1).length:Int)>6 then (some false) else ((ergolaw13_E_Count.f k ((rd_T94 x28 x30).f5.f0.f0) ((rd_T94 x28 x30).f5.f0.f1) ((rd_T94 x28 x30).f5.f0.f2) ((rd_T94 x28 x30).f5.f1) ((rd_T94 x28 x30).f5.f2) 0).bind fun t213=>(if t213>40 then (some false) else (ergolaw13_Few.l1 k x10 x11 x12 x28 x29 (wrap64 (x30+1)))))) else (none)) else (none)) else (ergolaw13_Few.l0 k x10 x11 (wrap64 (x12+1)))
end
def ergolaw13_Few.f (k:Nat) (l0:List (S27)):Option (Bool):=if (l0.length:Int)>12 then (some false) else (ergolaw13_Few.l0 k l0 (l0.length:Int) 0)
set_option maxHeartbeats 8000000 in
set_option maxRecDepth 100000 in
theorem ergolaw13_Few.calls (k:Nat) (A0:Option Addr) (c0:Nat) (l0:List (S27)) (r:Bool) (w:World) (hr0:Kd.C k27 w A0 l0.length l0) (hc0:l0.length≤c0) (h:ergolaw13_Few.f k l0=some r):
  Calls Tryz.prog 8 #[.slice A0 l0.length c0] w fun e w'=>e= .returned (.bool r)∧Below w.heap.size w w':=by
 have hu27:=Tryz.underlying27
 have hu94:=Tryz.underlying94
 have hu92:=Tryz.underlying92
 have HR0:=aK_ hr0
 have HC0:=aK_ hc0
 clear hr0 hc0
 have HB:=aK_ (Below.refl w.heap.size w)
 have H:(if (l0.length:Int)>12 then (some false) else (ergolaw13_Few.l0 k l0 (l0.length:Int) 0))=some r:=h
 clear h
 by_cases c2:(l0.length:Int)>12
 ·rw [if_pos c2] at H
  have c2b0:decide (12<(l0.length:Int))=true:=decide_eq_true c2
  have c2b1:decide (12<l0.length)=true:=decide_eq_true (by omega)
  clear c2
  obtain rfl:=Option.some.inj H
  go_enter Tryz.func8,Tryz.ntmps8
  go_wp2
  go_ret
  exact ⟨by first|rfl|(simp [errW_none,errW_some] <;>rfl)|(simp [*,errW_none,errW_some] <;>rfl),(lB0_ HB.out)⟩
 ·rw [if_neg c2] at H
  have c2b0:decide (12<(l0.length:Int))=false:=decide_eq_false c2
  have c2b1:decide (12<l0.length)=false:=decide_eq_false (by omega)
  clear c2
  have H':=aK_ H
  clear H
  go_enter Tryz.func8,Tryz.ntmps8
  go_wp2
  go_loopg [12] k (fun kq v12 w'=>∃(x12_1:Int),v12= .int .i64 x12_1∧Aside0 (ergolaw13_Few.l0 kq l0 (l0.length:Int) x12_1=some r)∧Aside0 (kq≤k)∧Aside0 (Below w.heap.size w w'))
  case atStart=>exact ⟨(0),(by first|rfl|(simp;done)|(simp [*];done)),H',⟨Nat.le_refl _⟩,⟨(lB0_ HB.out)⟩⟩
  case round=>
   clear H'
   try clear c2
   try clear c2b0
   try clear c2b1
   try clear p2
   obtain ⟨x12_1,rfl,HA,HK1,HB⟩:=hrel
   cases gk with
   |zero=>exact absurd HA.out (by simp [ergolaw13_Few.l0])
   |succ k1=>
    have H:=HA.out
    clear HA
    simp only [ergolaw13_Few.l0] at H
    by_cases c3:x12_1<(l0.length:Int)
    ·rw [if_pos c3] at H
     have c3b0:decide (x12_1<(l0.length:Int))=true:=decide_eq_true c3
     clear c3
     by_cases c4:0≤x12_1
     ·rw [if_pos c4] at H
      have c4b0:decide (0≤x12_1)=true:=decide_eq_true c4
      clear c4
      by_cases c5:x12_1<(l0.length:Int)
      ·rw [if_pos c5] at H
       have c5b0:decide (x12_1<(l0.length:Int))=true:=decide_eq_true c5
       clear c5
       have HC6:=aK_ H
       clear H
       have p209:0≤(x12_1:Int):=of_decide_eq_true (by first|(with_reducible assumption)|assumption)
       have q209:x12_1<(l0.length:Int):=of_decide_eq_true (by first|(with_reducible assumption)|assumption)
       obtain ⟨ad209,A209_1,c209_1,A209_3,c209_3,e209,hx209_0,hx209_1,hx209_2,hx209_3,hl209_1,hi209_1,hl209_3,hi209_3⟩:=at_T27 HR0.out x12_1 p209 q209
       cases e209
       replace hx209_0:=(HB.out.cell (wb_ w _ hx209_0)).trans hx209_0
       replace hx209_1:=(HB.out.cell (wb_ w _ hx209_1)).trans hx209_1
       replace hx209_2:=(HB.out.cell (wb_ w _ hx209_2)).trans hx209_2
       replace hx209_3:=(HB.out.cell (wb_ w _ hx209_3)).trans hx209_3
       have HR209_1:=aK_ hi209_1
       have HC209_1:=aK_ hl209_1
       clear hi209_1 hl209_1
       have HR209_3:=aK_ hi209_3
       have HC209_3:=aK_ hl209_3
       clear hi209_3 hl209_3
       replace p209:=eq_true p209
       replace q209:=eq_true q209
       go_upto_region 6 with (first|((with_reducible refine gate_dst (N:=4) rfl ?_);(try (refine gate_guard (by rfl) ?_;dsimp only));refine box_event ?hg (N:=4) ?hd (cs:= #[.int .i64 0,.slice none 0 0,.int .i64 0,.slice none 0 0]) (t:=27) ?hr ?_;(case hd=>rfl);(case hg=>rfl);(case hr=>first|(go_simp;done)|(go_simp;rfl));intro gb210 hg w7 hbox hb;have n0_:=aK_ (lT_ (lB0_ HB.out) hb);have n1_:=aK_ (hbox);have n2_:=aK_ ((by rw [hg];exact (lZ_ (lB0_ HB.out)):w.heap.size≤gb210));have n3_:=aK_ ((by rw [hg];exact (lZ_ (lB0_ HB.out)):w.heap.size≤gb210));clear HB;have HB:=n0_;have BK210:=n1_;have GW210:=n2_;have GE210:=n3_;clear n0_ n1_ n2_ n3_;clear hb hbox hg;obtain ⟨⟨hcz8_0,hcz8_1,hcz8_2,hcz8_3⟩,hfz8_0,hfz8_1,hfz8_2,hfz8_3⟩:=c4_ BK210.out))
       (try simp only [Act.put,sA_,sZ_,sS_])
       go_cut [26] (fun v26 wc=>∃(kq:Nat) (x26_5:Bool),v26= .bool x26_5∧Aside0 (ergolaw13_Few.j1 kq l0 (l0.length:Int) x12_1 x26_5 ((rd_T27 l0 x12_1).f0.f0) ((rd_T27 l0 x12_1).f0.f1) ((rd_T27 l0 x12_1).f1) ((rd_T27 l0 x12_1).f2)=some r)∧Aside0 (kq≤k1)∧Aside0 (wc.heap[gb210]? =some (.cells #[.int .i64 ((rd_T27 l0 x12_1).f0.f0),(.slice A209_1 ((rd_T27 l0 x12_1).f0.f1).length c209_1),.int .i64 ((rd_T27 l0 x12_1).f1),(.slice A209_3 ((rd_T27 l0 x12_1).f2).length c209_3)] 27 (0,0)))∧Aside0 (Below w.heap.size w wc))
       case first=>
        have H:=HC6.out
        clear HC6
        by_cases c9:(((rd_T27 l0 x12_1).f0.f1).length:Int)>6
        ·rw [if_pos c9] at H
         have c9b0:decide (6<(((rd_T27 l0 x12_1).f0.f1).length:Int))=true:=decide_eq_true c9
         have c9b1:decide (6<((rd_T27 l0 x12_1).f0.f1).length)=true:=decide_eq_true (by omega)
         clear c9
         (first|rw [c9b0]|(simp only [i64_w,i32_w];rw [c9b0])|skip)
         have H':=aK_ H
         clear H
         obtain ⟨⟨hcz10_0,hcz10_1,hcz10_2,hcz10_3⟩,hfz10_0,hfz10_1,hfz10_2,hfz10_3⟩:=c4_ BK210.out
         go_wp2
         go_meet
         case rel=>exact ⟨_,(true),(by first|rfl|(simp;done)|(simp [*];done)),H',⟨by have:=HK1.out;first|omega|exact Nat.le_refl _⟩,⟨(by apply eC_;(with_reducible repeat (first|refine bDN ?_ _|refine bD ?_|refine bA ?_ _));apply b2_;(with_reducible repeat (first|refine bDN ?_ _|refine bD ?_|refine bA ?_ _));apply b2_;(with_reducible repeat (first|refine bDN ?_ _|refine bD ?_|refine bA ?_ _));apply b2_;(with_reducible repeat (first|refine bDN ?_ _|refine bD ?_|refine bA ?_ _));apply b2_;(with_reducible repeat (first|refine bDN ?_ _|refine bD ?_|refine bA ?_ _));exact BK210.out;kernel_rfl)⟩,⟨(lB1_ HB.out GE210.out)⟩⟩
        ·rw [if_neg c9] at H
         have c9b0:decide (6<(((rd_T27 l0 x12_1).f0.f1).length:Int))=false:=decide_eq_false c9
         have c9b1:decide (6<((rd_T27 l0 x12_1).f0.f1).length)=false:=decide_eq_false (by omega)
         clear c9
         (first|rw [c9b0]|(simp only [i64_w,i32_w];rw [c9b0])|skip)
         have H':=aK_ H
         clear H
         obtain ⟨⟨hcz11_0,hcz11_1,hcz11_2,hcz11_3⟩,hfz11_0,hfz11_1,hfz11_2,hfz11_3⟩:=c4_ BK210.out
         go_wp2
         go_meet
         case rel=>exact ⟨_,(decide ((((rd_T27 l0 x12_1).f2).length:Int)>8)),(by first|rfl|(simp;done)|(simp [*];done)),H',⟨by have:=HK1.out;first|omega|exact Nat.le_refl _⟩,⟨(by apply eC_;(with_reducible repeat (first|refine bDN ?_ _|refine bD ?_|refine bA ?_ _));apply b2_;(with_reducible repeat (first|refine bDN ?_ _|refine bD ?_|refine bA ?_ _));apply b2_;(with_reducible repeat (first|refine bDN ?_ _|refine bD ?_|refine bA ?_ _));apply b2_;(with_reducible repeat (first|refine bDN ?_ _|refine bD ?_|refine bA ?_ _));apply b2_;(with_reducible repeat (first|refine bDN ?_ _|refine bD ?_|refine bA ?_ _));exact BK210.out;kernel_rfl)⟩,⟨(lB1_ HB.out GE210.out)⟩⟩
       case rest=>
        clear HC6
        try clear c2
        try clear c2b0
        try clear c2b1
        try clear p2
        try clear q2
        try clear hx2
        try clear c3
        try clear c3b0
        try clear c4
        try clear c4b0
        try clear c5
        try clear c5b0
        try clear c8
        try clear c9
        try clear c9b0
        try clear c9b1
        try clear hcz10_0
        try clear hcz10_1
        try clear hcz10_2
        try clear hcz10_3
        try clear hcz11_0
        try clear hcz11_1
        try clear hcz11_2
        try clear hcz11_3
        try clear hcz8_0
        try clear hcz8_1
        try clear hcz8_2
        try clear hcz8_3
        try clear hfz10_0
        try clear hfz10_1
        try clear hfz10_2
        try clear hfz10_3
        try clear hfz11_0
        try clear hfz11_1
        try clear hfz11_2
        try clear hfz11_3
        try clear hfz8_0
        try clear hfz8_1
        try clear hfz8_2
        try clear hfz8_3
        try clear hx209_0
        try clear hx209_1
        try clear hx209_2
        try clear hx209_3
        try clear p2
        try clear p209
        try clear q209
        obtain ⟨kq,x26_5,rfl,HA,HJ5,BK210,HB⟩:=hcut
        cases kq with
        |zero=>exact absurd HA.out (by simp [ergolaw13_Few.j1])
        |succ kj5=>
         have H:=HA.out
         clear HA
         simp only [ergolaw13_Few.j1] at H
         by_cases c12:x26_5=true
         ·subst c12
          have H1:(some false)=some r:=by rw [if_pos rfl] at H;exact H
          clear H
          have H:=H1
          clear H1
          obtain rfl:=Option.some.inj H
          go_wp2
          go_ret
          exact ⟨by first|rfl|(simp [errW_none,errW_some] <;>rfl)|(simp [*,errW_none,errW_some] <;>rfl),(lB1_ HB.out GE210.out)⟩
         ·replace c12 := Bool.eq_false_iff.mpr c12
          subst c12
          have H1:(ergolaw13_Few.l1 kj5 l0 (l0.length:Int) x12_1 ((rd_T27 l0 x12_1).f2) (((rd_T27 l0 x12_1).f2).length:Int) 0)=some r:=by rw [if_neg (show ¬(false=true) by decide)] at H;exact H
          clear H
          have H:=H1
          clear H1
          have H':=aK_ H
          clear H
          obtain ⟨⟨hcz13_0,hcz13_1,hcz13_2,hcz13_3⟩,hfz13_0,hfz13_1,hfz13_2,hfz13_3⟩:=c4_ BK210.out
          go_wp2
          go_loopg [30] kj5 (fun kq v30 w'=>∃(x30_3:Int),v30= .int .i64 x30_3∧Aside0 (ergolaw13_Few.l1 kq l0 (l0.length:Int) x12_1 ((rd_T27 l0 x12_1).f2) (((rd_T27 l0 x12_1).f2).length:Int) x30_3=some r)∧Aside0 (kq≤kj5)∧Aside0 (w'.heap[gb210]? =some (.cells #[.int .i64 ((rd_T27 l0 x12_1).f0.f0),(.slice A209_1 ((rd_T27 l0 x12_1).f0.f1).length c209_1),.int .i64 ((rd_T27 l0 x12_1).f1),(.slice A209_3 ((rd_T27 l0 x12_1).f2).length c209_3)] 27 (0,0)))∧Aside0 (Below w.heap.size w w'))
          case atStart=>exact ⟨(0),(by first|rfl|(simp;done)|(simp [*];done)),H',⟨Nat.le_refl _⟩,⟨by (with_reducible repeat (first|refine bDN ?_ _|refine bD ?_|refine bA ?_ _));exact BK210.out⟩,⟨(lB1_ HB.out GE210.out)⟩⟩
          case round=>
           clear H'
           try clear c1
           try clear c2
           try clear c2b0
           try clear c2b1
           try clear p2
           try clear q2
           try clear hx2
           try clear c3
           try clear c3b0
           try clear c4
           try clear c4b0
           try clear c5
           try clear c5b0
           try clear c8
           try clear c9
           try clear c9b0
           try clear c9b1
           try clear c12
           try clear hcz10_0
           try clear hcz10_1
           try clear hcz10_2
           try clear hcz10_3
           try clear hcz11_0
           try clear hcz11_1
           try clear hcz11_2
           try clear hcz11_3
           try clear hcz13_0
           try clear hcz13_1
           try clear hcz13_2
           try clear hcz13_3
           try clear hcz8_0
           try clear hcz8_1
           try clear hcz8_2
           try clear hcz8_3
           try clear hfz10_0
           try clear hfz10_1
           try clear hfz10_2
           try clear hfz10_3
           try clear hfz11_0
           try clear hfz11_1
           try clear hfz11_2
           try clear hfz11_3
           try clear hfz13_0
           try clear hfz13_1
           try clear hfz13_2
           try clear hfz13_3
           try clear hfz8_0
           try clear hfz8_1
           try clear hfz8_2
           try clear hfz8_3
           try clear hx209_0
           try clear hx209_1
           try clear hx209_2
           try clear hx209_3
           try clear p2
           try clear p209
           try clear q2
           try clear q209
           obtain ⟨x30_3,rfl,HA,HK3,BK210,HB⟩:=hrel
           cases gk with
           |zero=>exact absurd HA.out (by simp [ergolaw13_Few.l1])
           |succ k3=>
            have H:=HA.out
            clear HA
            simp only [ergolaw13_Few.l1] at H
            by_cases c14:x30_3<(((rd_T27 l0 x12_1).f2).length:Int)
            ·rw [if_pos c14] at H
             have c14b0:decide (x30_3<(((rd_T27 l0 x12_1).f2).length:Int))=true:=decide_eq_true c14
             clear c14
             by_cases c15:0≤x30_3
             ·rw [if_pos c15] at H
              have c15b0:decide (0≤x30_3)=true:=decide_eq_true c15
              clear c15
              by_cases c16:x30_3<(((rd_T27 l0 x12_1).f2).length:Int)
              ·rw [if_pos c16] at H
               have c16b0:decide (x30_3<(((rd_T27 l0 x12_1).f2).length:Int))=true:=decide_eq_true c16
               clear c16
               by_cases c17:(((rd_T94 ((rd_T27 l0 x12_1).f2) x30_3).f2.f1).length:Int)>6
               ·rw [if_pos c17] at H
                have c17b0:decide (6<(((rd_T94 ((rd_T27 l0 x12_1).f2) x30_3).f2.f1).length:Int))=true:=decide_eq_true c17
                have c17b1:decide (6<((rd_T94 ((rd_T27 l0 x12_1).f2) x30_3).f2.f1).length)=true:=decide_eq_true (by omega)
                clear c17
                obtain rfl:=Option.some.inj H
                have p211:0≤(x30_3:Int):=of_decide_eq_true (by first|(with_reducible assumption)|assumption)
                have q211:x30_3<(((rd_T27 l0 x12_1).f2).length:Int):=of_decide_eq_true (by first|(with_reducible assumption)|assumption)
                obtain ⟨ad211,A211_3,c211_3,A211_14,c211_14,e211,hx211_0,hx211_1,hx211_2,hx211_3,hx211_4,hx211_5,hx211_6,hx211_7,hx211_8,hx211_9,hx211_10,hx211_11,hx211_12,hx211_13,hx211_14,hl211_3,hi211_3,hl211_14,hi211_14⟩:=at_T94 HR209_3.out x30_3 p211 q211
                cases e211
                replace hx211_0:=(HB.out.cell (wb_ w _ hx211_0)).trans hx211_0
                replace hx211_1:=(HB.out.cell (wb_ w _ hx211_1)).trans hx211_1
                replace hx211_2:=(HB.out.cell (wb_ w _ hx211_2)).trans hx211_2
                replace hx211_3:=(HB.out.cell (wb_ w _ hx211_3)).trans hx211_3
                replace hx211_4:=(HB.out.cell (wb_ w _ hx211_4)).trans hx211_4
                replace hx211_5:=(HB.out.cell (wb_ w _ hx211_5)).trans hx211_5
                replace hx211_6:=(HB.out.cell (wb_ w _ hx211_6)).trans hx211_6
                replace hx211_7:=(HB.out.cell (wb_ w _ hx211_7)).trans hx211_7
                replace hx211_8:=(HB.out.cell (wb_ w _ hx211_8)).trans hx211_8
                replace hx211_9:=(HB.out.cell (wb_ w _ hx211_9)).trans hx211_9
                replace hx211_10:=(HB.out.cell (wb_ w _ hx211_10)).trans hx211_10
                replace hx211_11:=(HB.out.cell (wb_ w _ hx211_11)).trans hx211_11
                replace hx211_12:=(HB.out.cell (wb_ w _ hx211_12)).trans hx211_12
                replace hx211_13:=(HB.out.cell (wb_ w _ hx211_13)).trans hx211_13
                replace hx211_14:=(HB.out.cell (wb_ w _ hx211_14)).trans hx211_14
                have HR211_3:=aK_ hi211_3
                have HC211_3:=aK_ hl211_3
                clear hi211_3 hl211_3
                have HR211_14:=aK_ hi211_14
                have HC211_14:=aK_ hl211_14
                clear hi211_14 hl211_14
                replace p211:=eq_true p211
                replace q211:=eq_true q211
                go_wp2_with (first|((with_reducible refine gate_dst (N:=6) rfl ?_);(try (refine gate_guard (by rfl) ?_;dsimp only));refine box_event ?hg (N:=6) ?hd (cs:= #[.int .i64 0,.int .i64 0,.int .i64 0,.slice none 0 0,.int .i64 0,.int .i64 0,.int .i64 0,.int .i64 0,.int .i64 0,.int .i64 0,.int .i64 0,.int .i64 0,.int .i64 0,.int .i64 0,.slice none 0 0]) (t:=94) ?hr ?_;(case hd=>rfl);(case hg=>rfl);(case hr=>first|(go_simp;done)|(go_simp;rfl));intro gb212 hg w18 hbox hb;have n0_:=aK_ (bB (bK_ BK210.out) hb);have n1_:=aK_ (lT_ (lB1_ HB.out GE210.out) hb);have n2_:=aK_ (hbox);have n3_:=aK_ ((by rw [hg];exact (lZ_ (lB1_ HB.out GE210.out)):w.heap.size≤gb212));have n4_:=aK_ ((by rw [hg];exact (lZ_ (lB1_ HB.out GE210.out)):w.heap.size≤gb212));have n5_:=aK_ ((by rw [hg];exact Nat.ne_of_lt (blk_lt (g:=gb210) (o:= .cells #[.int .i64 ((rd_T27 l0 x12_1).f0.f0),.slice A209_1 ((rd_T27 l0 x12_1).f0.f1).length c209_1,.int .i64 ((rd_T27 l0 x12_1).f1),.slice (some ad211) ((rd_T27 l0 x12_1).f2).length c209_3] 27 (0,0)) (bK_ BK210.out)):gb210≠gb212));have n6_:=aK_ ((by rw [hg];exact Nat.ne_of_gt (blk_lt (g:=gb210) (o:= .cells #[.int .i64 ((rd_T27 l0 x12_1).f0.f0),.slice A209_1 ((rd_T27 l0 x12_1).f0.f1).length c209_1,.int .i64 ((rd_T27 l0 x12_1).f1),.slice (some ad211) ((rd_T27 l0 x12_1).f2).length c209_3] 27 (0,0)) (bK_ BK210.out)):gb212≠gb210));clear BK210;clear HB;have BK210:=n0_;have HB:=n1_;have BK212:=n2_;have GW212:=n3_;have GE212:=n4_;have NB210_212:=n5_;have NB212_210:=n6_;clear n0_ n1_ n2_ n3_ n4_ n5_ n6_;clear hb hbox hg;have hnb19:=NB212_210.out;have hnc19:=NB210_212.out;obtain ⟨⟨hcz20_0,hcz20_1,hcz20_2,hcz20_3,hcz20_4,hcz20_5,hcz20_6,hcz20_7,hcz20_8,hcz20_9,hcz20_10,hcz20_11,hcz20_12,hcz20_13,hcz20_14⟩,hfz20_0,hfz20_1,hfz20_2,hfz20_3,hfz20_4,hfz20_5,hfz20_6,hfz20_7,hfz20_8,hfz20_9,hfz20_10,hfz20_11,hfz20_12,hfz20_13,hfz20_14⟩:=c15_ BK212.out))
                go_ret
                exact ⟨by first|rfl|(simp [errW_none,errW_some] <;>rfl)|(simp [*,errW_none,errW_some] <;>rfl),(lB2_ HB.out GE210.out GE212.out)⟩
               ·rw [if_neg c17] at H
                have c17b0:decide (6<(((rd_T94 ((rd_T27 l0 x12_1).f2) x30_3).f2.f1).length:Int))=false:=decide_eq_false c17
                have c17b1:decide (6<((rd_T94 ((rd_T27 l0 x12_1).f2) x30_3).f2.f1).length)=false:=decide_eq_false (by omega)
                clear c17
                replace H:=Option.bind_eq_some_iff.mp H
                obtain ⟨t213,A210,H⟩:=H
                replace H:(if t213>40 then (some false) else (ergolaw13_Few.l1 k3 l0 (l0.length:Int) x12_1 ((rd_T27 l0 x12_1).f2) (((rd_T27 l0 x12_1).f2).length:Int) (wrap64 (x30_3+1))))=some r:=H
                have A21:=aK_ A210
                clear A210
                by_cases c22:t213>40
                ·rw [if_pos c22] at H
                 have c22b0:decide (40<t213)=true:=decide_eq_true c22
                 clear c22
                 obtain rfl:=Option.some.inj H
                 have p211:0≤(x30_3:Int):=of_decide_eq_true (by first|(with_reducible assumption)|assumption)
                 have q211:x30_3<(((rd_T27 l0 x12_1).f2).length:Int):=of_decide_eq_true (by first|(with_reducible assumption)|assumption)
                 obtain ⟨ad211,A211_3,c211_3,A211_14,c211_14,e211,hx211_0,hx211_1,hx211_2,hx211_3,hx211_4,hx211_5,hx211_6,hx211_7,hx211_8,hx211_9,hx211_10,hx211_11,hx211_12,hx211_13,hx211_14,hl211_3,hi211_3,hl211_14,hi211_14⟩:=at_T94 HR209_3.out x30_3 p211 q211
                 cases e211
                 replace hx211_0:=(HB.out.cell (wb_ w _ hx211_0)).trans hx211_0
                 replace hx211_1:=(HB.out.cell (wb_ w _ hx211_1)).trans hx211_1
                 replace hx211_2:=(HB.out.cell (wb_ w _ hx211_2)).trans hx211_2
                 replace hx211_3:=(HB.out.cell (wb_ w _ hx211_3)).trans hx211_3
                 replace hx211_4:=(HB.out.cell (wb_ w _ hx211_4)).trans hx211_4
                 replace hx211_5:=(HB.out.cell (wb_ w _ hx211_5)).trans hx211_5
                 replace hx211_6:=(HB.out.cell (wb_ w _ hx211_6)).trans hx211_6
                 replace hx211_7:=(HB.out.cell (wb_ w _ hx211_7)).trans hx211_7
                 replace hx211_8:=(HB.out.cell (wb_ w _ hx211_8)).trans hx211_8
                 replace hx211_9:=(HB.out.cell (wb_ w _ hx211_9)).trans hx211_9
                 replace hx211_10:=(HB.out.cell (wb_ w _ hx211_10)).trans hx211_10
                 replace hx211_11:=(HB.out.cell (wb_ w _ hx211_11)).trans hx211_11
                 replace hx211_12:=(HB.out.cell (wb_ w _ hx211_12)).trans hx211_12
                 replace hx211_13:=(HB.out.cell (wb_ w _ hx211_13)).trans hx211_13
                 replace hx211_14:=(HB.out.cell (wb_ w _ hx211_14)).trans hx211_14
                 have HR211_3:=aK_ hi211_3
                 have HC211_3:=aK_ hl211_3
                 clear hi211_3 hl211_3
                 have HR211_14:=aK_ hi211_14
                 have HC211_14:=aK_ hl211_14
                 clear hi211_14 hl211_14
                 replace p211:=eq_true p211
                 replace q211:=eq_true q211
                 go_wp2_with (first|((with_reducible refine gate_dst (N:=6) rfl ?_);(try (refine gate_guard (by rfl) ?_;dsimp only));refine box_event ?hg (N:=6) ?hd (cs:= #[.int .i64 0,.int .i64 0,.int .i64 0,.slice none 0 0,.int .i64 0,.int .i64 0,.int .i64 0,.int .i64 0,.int .i64 0,.int .i64 0,.int .i64 0,.int .i64 0,.int .i64 0,.int .i64 0,.slice none 0 0]) (t:=94) ?hr ?_;(case hd=>rfl);(case hg=>rfl);(case hr=>first|(go_simp;done)|(go_simp;rfl));intro gb212 hg w23 hbox hb;have n0_:=aK_ (bB (bK_ BK210.out) hb);have n1_:=aK_ (lT_ (lB1_ HB.out GE210.out) hb);have n2_:=aK_ (hbox);have n3_:=aK_ ((by rw [hg];exact (lZ_ (lB1_ HB.out GE210.out)):w.heap.size≤gb212));have n4_:=aK_ ((by rw [hg];exact (lZ_ (lB1_ HB.out GE210.out)):w.heap.size≤gb212));have n5_:=aK_ ((by rw [hg];exact Nat.ne_of_lt (blk_lt (g:=gb210) (o:= .cells #[.int .i64 ((rd_T27 l0 x12_1).f0.f0),.slice A209_1 ((rd_T27 l0 x12_1).f0.f1).length c209_1,.int .i64 ((rd_T27 l0 x12_1).f1),.slice (some ad211) ((rd_T27 l0 x12_1).f2).length c209_3] 27 (0,0)) (bK_ BK210.out)):gb210≠gb212));have n6_:=aK_ ((by rw [hg];exact Nat.ne_of_gt (blk_lt (g:=gb210) (o:= .cells #[.int .i64 ((rd_T27 l0 x12_1).f0.f0),.slice A209_1 ((rd_T27 l0 x12_1).f0.f1).length c209_1,.int .i64 ((rd_T27 l0 x12_1).f1),.slice (some ad211) ((rd_T27 l0 x12_1).f2).length c209_3] 27 (0,0)) (bK_ BK210.out)):gb212≠gb210));clear BK210;clear HB;have BK210:=n0_;have HB:=n1_;have BK212:=n2_;have GW212:=n3_;have GE212:=n4_;have NB210_212:=n5_;have NB212_210:=n6_;clear n0_ n1_ n2_ n3_ n4_ n5_ n6_;clear hb hbox hg;have hnb24:=NB212_210.out;have hnc24:=NB210_212.out;obtain ⟨⟨hcz25_0,hcz25_1,hcz25_2,hcz25_3,hcz25_4,hcz25_5,hcz25_6,hcz25_7,hcz25_8,hcz25_9,hcz25_10,hcz25_11,hcz25_12,hcz25_13,hcz25_14⟩,hfz25_0,hfz25_1,hfz25_2,hfz25_3,hfz25_4,hfz25_5,hfz25_6,hfz25_7,hfz25_8,hfz25_9,hfz25_10,hfz25_11,hfz25_12,hfz25_13,hfz25_14⟩:=c15_ BK212.out)|(go_at_call 32;(with_reducible refine (ergolaw13_E_Count.calls k3 ((rd_T94 ((rd_T27 l0 x12_1).f2) x30_3).f5.f0.f0) ((rd_T94 ((rd_T27 l0 x12_1).f2) x30_3).f5.f0.f1) ((rd_T94 ((rd_T27 l0 x12_1).f2) x30_3).f5.f0.f2) ((rd_T94 ((rd_T27 l0 x12_1).f2) x30_3).f5.f1) _ _ ((rd_T94 ((rd_T27 l0 x12_1).f2) x30_3).f5.f2) 0 t213 _ ?side1 ?side2 A21.out).mono ?_);(case side1=>exact Kd.C_below HR211_14.out (lB2_ HB.out GE210.out GE212.out));(case side2=>exact HC211_14.out);rintro e w26 ⟨rfl,hb⟩;have n0_:=aK_ (bB (g:=gb210) (o:= .cells #[.int .i64 ((rd_T27 l0 x12_1).f0.f0),.slice A209_1 ((rd_T27 l0 x12_1).f0.f1).length c209_1,.int .i64 ((rd_T27 l0 x12_1).f1),.slice (some ad211) ((rd_T27 l0 x12_1).f2).length c209_3] 27 (0,0)) (by (with_reducible repeat (first|refine bDN ?_ _|refine bD ?_|refine bA ?_ _));refine blk_far ?_ NB210_212.out _;(with_reducible repeat (first|refine bDN ?_ _|refine bD ?_|refine bA ?_ _));refine blk_far ?_ NB210_212.out _;(with_reducible repeat (first|refine bDN ?_ _|refine bD ?_|refine bA ?_ _));refine blk_far ?_ NB210_212.out _;(with_reducible repeat (first|refine bDN ?_ _|refine bD ?_|refine bA ?_ _));refine blk_far ?_ NB210_212.out _;(with_reducible repeat (first|refine bDN ?_ _|refine bD ?_|refine bA ?_ _));refine blk_far ?_ NB210_212.out _;(with_reducible repeat (first|refine bDN ?_ _|refine bD ?_|refine bA ?_ _));refine blk_far ?_ NB210_212.out _;(with_reducible repeat (first|refine bDN ?_ _|refine bD ?_|refine bA ?_ _));refine blk_far ?_ NB210_212.out _;(with_reducible repeat (first|refine bDN ?_ _|refine bD ?_|refine bA ?_ _));refine blk_far ?_ NB210_212.out _;(with_reducible repeat (first|refine bDN ?_ _|refine bD ?_|refine bA ?_ _));refine blk_far ?_ NB210_212.out _;(with_reducible repeat (first|refine bDN ?_ _|refine bD ?_|refine bA ?_ _));refine blk_far ?_ NB210_212.out _;(with_reducible repeat (first|refine bDN ?_ _|refine bD ?_|refine bA ?_ _));refine blk_far ?_ NB210_212.out _;(with_reducible repeat (first|refine bDN ?_ _|refine bD ?_|refine bA ?_ _));refine blk_far ?_ NB210_212.out _;(with_reducible repeat (first|refine bDN ?_ _|refine bD ?_|refine bA ?_ _));refine blk_far ?_ NB210_212.out _;(with_reducible repeat (first|refine bDN ?_ _|refine bD ?_|refine bA ?_ _));refine blk_far ?_ NB210_212.out _;(with_reducible repeat (first|refine bDN ?_ _|refine bD ?_|refine bA ?_ _));refine blk_far ?_ NB210_212.out _;(with_reducible repeat (first|refine bDN ?_ _|refine bD ?_|refine bA ?_ _));exact BK210.out) hb);have n1_:=aK_ (bB (g:=gb212) (o:= .cells #[.int .i64 ((rd_T94 ((rd_T27 l0 x12_1).f2) x30_3).f0),.int .i64 ((rd_T94 ((rd_T27 l0 x12_1).f2) x30_3).f1),.int .i64 ((rd_T94 ((rd_T27 l0 x12_1).f2) x30_3).f2.f0),.slice A211_3 ((rd_T94 ((rd_T27 l0 x12_1).f2) x30_3).f2.f1).length c211_3,.int .i64 ((rd_T94 ((rd_T27 l0 x12_1).f2) x30_3).f3.f0),.int .i64 ((rd_T94 ((rd_T27 l0 x12_1).f2) x30_3).f3.f1),.int .i64 ((rd_T94 ((rd_T27 l0 x12_1).f2) x30_3).f3.f2),.int .i64 ((rd_T94 ((rd_T27 l0 x12_1).f2) x30_3).f4.f0),.int .i64 ((rd_T94 ((rd_T27 l0 x12_1).f2) x30_3).f4.f1),.int .i64 ((rd_T94 ((rd_T27 l0 x12_1).f2) x30_3).f4.f2),.int .i64 ((rd_T94 ((rd_T27 l0 x12_1).f2) x30_3).f5.f0.f0),.int .i64 ((rd_T94 ((rd_T27 l0 x12_1).f2) x30_3).f5.f0.f1),.int .i64 ((rd_T94 ((rd_T27 l0 x12_1).f2) x30_3).f5.f0.f2),.int .i64 ((rd_T94 ((rd_T27 l0 x12_1).f2) x30_3).f5.f1),.slice A211_14 ((rd_T94 ((rd_T27 l0 x12_1).f2) x30_3).f5.f2).length c211_14] 94 (0,0)) ((by apply eC_;(with_reducible repeat (first|refine bDN ?_ _|refine bD ?_|refine bA ?_ _));apply b2_;(with_reducible repeat (first|refine bDN ?_ _|refine bD ?_|refine bA ?_ _));apply b2_;(with_reducible repeat (first|refine bDN ?_ _|refine bD ?_|refine bA ?_ _));apply b2_;(with_reducible repeat (first|refine bDN ?_ _|refine bD ?_|refine bA ?_ _));apply b2_;(with_reducible repeat (first|refine bDN ?_ _|refine bD ?_|refine bA ?_ _));apply b2_;(with_reducible repeat (first|refine bDN ?_ _|refine bD ?_|refine bA ?_ _));apply b2_;(with_reducible repeat (first|refine bDN ?_ _|refine bD ?_|refine bA ?_ _));apply b2_;(with_reducible repeat (first|refine bDN ?_ _|refine bD ?_|refine bA ?_ _));apply b2_;(with_reducible repeat (first|refine bDN ?_ _|refine bD ?_|refine bA ?_ _));apply b2_;(with_reducible repeat (first|refine bDN ?_ _|refine bD ?_|refine bA ?_ _));apply b2_;(with_reducible repeat (first|refine bDN ?_ _|refine bD ?_|refine bA ?_ _));apply b2_;(with_reducible repeat (first|refine bDN ?_ _|refine bD ?_|refine bA ?_ _));apply b2_;(with_reducible repeat (first|refine bDN ?_ _|refine bD ?_|refine bA ?_ _));apply b2_;(with_reducible repeat (first|refine bDN ?_ _|refine bD ?_|refine bA ?_ _));apply b2_;(with_reducible repeat (first|refine bDN ?_ _|refine bD ?_|refine bA ?_ _));apply b2_;(with_reducible repeat (first|refine bDN ?_ _|refine bD ?_|refine bA ?_ _));exact BK212.out;kernel_rfl)) hb);have n2_:=aK_ (lT_ (lB2_ HB.out GE210.out GE212.out) hb);clear BK210;clear BK212;clear HB;have BK210:=n0_;have BK212:=n1_;have HB:=n2_;clear n0_ n1_ n2_;(try clear hb);(try clear hb2);(try clear hk);(try clear hi)))
                 go_ret
                 exact ⟨by first|rfl|(simp [errW_none,errW_some] <;>rfl)|(simp [*,errW_none,errW_some] <;>rfl),(lB2_ HB.out GE210.out GE212.out)⟩
                ·rw [if_neg c22] at H
                 have c22b0:decide (40<t213)=false:=decide_eq_false c22
                 clear c22
                 have H':=aK_ H
                 clear H
                 have p211:0≤(x30_3:Int):=of_decide_eq_true (by first|(with_reducible assumption)|assumption)
                 have q211:x30_3<(((rd_T27 l0 x12_1).f2).length:Int):=of_decide_eq_true (by first|(with_reducible assumption)|assumption)
                 obtain ⟨ad211,A211_3,c211_3,A211_14,c211_14,e211,hx211_0,hx211_1,hx211_2,hx211_3,hx211_4,hx211_5,hx211_6,hx211_7,hx211_8,hx211_9,hx211_10,hx211_11,hx211_12,hx211_13,hx211_14,hl211_3,hi211_3,hl211_14,hi211_14⟩:=at_T94 HR209_3.out x30_3 p211 q211
                 cases e211
                 replace hx211_0:=(HB.out.cell (wb_ w _ hx211_0)).trans hx211_0
                 replace hx211_1:=(HB.out.cell (wb_ w _ hx211_1)).trans hx211_1
                 replace hx211_2:=(HB.out.cell (wb_ w _ hx211_2)).trans hx211_2
                 replace hx211_3:=(HB.out.cell (wb_ w _ hx211_3)).trans hx211_3
                 replace hx211_4:=(HB.out.cell (wb_ w _ hx211_4)).trans hx211_4
                 replace hx211_5:=(HB.out.cell (wb_ w _ hx211_5)).trans hx211_5
                 replace hx211_6:=(HB.out.cell (wb_ w _ hx211_6)).trans hx211_6
                 replace hx211_7:=(HB.out.cell (wb_ w _ hx211_7)).trans hx211_7
                 replace hx211_8:=(HB.out.cell (wb_ w _ hx211_8)).trans hx211_8
                 replace hx211_9:=(HB.out.cell (wb_ w _ hx211_9)).trans hx211_9
                 replace hx211_10:=(HB.out.cell (wb_ w _ hx211_10)).trans hx211_10
                 replace hx211_11:=(HB.out.cell (wb_ w _ hx211_11)).trans hx211_11
                 replace hx211_12:=(HB.out.cell (wb_ w _ hx211_12)).trans hx211_12
                 replace hx211_13:=(HB.out.cell (wb_ w _ hx211_13)).trans hx211_13
                 replace hx211_14:=(HB.out.cell (wb_ w _ hx211_14)).trans hx211_14
                 have HR211_3:=aK_ hi211_3
                 have HC211_3:=aK_ hl211_3
                 clear hi211_3 hl211_3
                 have HR211_14:=aK_ hi211_14
                 have HC211_14:=aK_ hl211_14
                 clear hi211_14 hl211_14
                 replace p211:=eq_true p211
                 replace q211:=eq_true q211
                 go_wp2_with (first|((with_reducible refine gate_dst (N:=6) rfl ?_);(try (refine gate_guard (by rfl) ?_;dsimp only));refine box_event ?hg (N:=6) ?hd (cs:= #[.int .i64 0,.int .i64 0,.int .i64 0,.slice none 0 0,.int .i64 0,.int .i64 0,.int .i64 0,.int .i64 0,.int .i64 0,.int .i64 0,.int .i64 0,.int .i64 0,.int .i64 0,.int .i64 0,.slice none 0 0]) (t:=94) ?hr ?_;(case hd=>rfl);(case hg=>rfl);(case hr=>first|(go_simp;done)|(go_simp;rfl));intro gb212 hg w27 hbox hb;have n0_:=aK_ (bB (bK_ BK210.out) hb);have n1_:=aK_ (lT_ (lB1_ HB.out GE210.out) hb);have n2_:=aK_ (hbox);have n3_:=aK_ ((by rw [hg];exact (lZ_ (lB1_ HB.out GE210.out)):w.heap.size≤gb212));have n4_:=aK_ ((by rw [hg];exact (lZ_ (lB1_ HB.out GE210.out)):w.heap.size≤gb212));have n5_:=aK_ ((by rw [hg];exact Nat.ne_of_lt (blk_lt (g:=gb210) (o:= .cells #[.int .i64 ((rd_T27 l0 x12_1).f0.f0),.slice A209_1 ((rd_T27 l0 x12_1).f0.f1).length c209_1,.int .i64 ((rd_T27 l0 x12_1).f1),.slice (some ad211) ((rd_T27 l0 x12_1).f2).length c209_3] 27 (0,0)) (bK_ BK210.out)):gb210≠gb212));have n6_:=aK_ ((by rw [hg];exact Nat.ne_of_gt (blk_lt (g:=gb210) (o:= .cells #[.int .i64 ((rd_T27 l0 x12_1).f0.f0),.slice A209_1 ((rd_T27 l0 x12_1).f0.f1).length c209_1,.int .i64 ((rd_T27 l0 x12_1).f1),.slice (some ad211) ((rd_T27 l0 x12_1).f2).length c209_3] 27 (0,0)) (bK_ BK210.out)):gb212≠gb210));clear BK210;clear HB;have BK210:=n0_;have HB:=n1_;have BK212:=n2_;have GW212:=n3_;have GE212:=n4_;have NB210_212:=n5_;have NB212_210:=n6_;clear n0_ n1_ n2_ n3_ n4_ n5_ n6_;clear hb hbox hg;have hnb28:=NB212_210.out;have hnc28:=NB210_212.out;obtain ⟨⟨hcz29_0,hcz29_1,hcz29_2,hcz29_3,hcz29_4,hcz29_5,hcz29_6,hcz29_7,hcz29_8,hcz29_9,hcz29_10,hcz29_11,hcz29_12,hcz29_13,hcz29_14⟩,hfz29_0,hfz29_1,hfz29_2,hfz29_3,hfz29_4,hfz29_5,hfz29_6,hfz29_7,hfz29_8,hfz29_9,hfz29_10,hfz29_11,hfz29_12,hfz29_13,hfz29_14⟩:=c15_ BK212.out)|(go_at_call 32;(with_reducible refine (ergolaw13_E_Count.calls k3 ((rd_T94 ((rd_T27 l0 x12_1).f2) x30_3).f5.f0.f0) ((rd_T94 ((rd_T27 l0 x12_1).f2) x30_3).f5.f0.f1) ((rd_T94 ((rd_T27 l0 x12_1).f2) x30_3).f5.f0.f2) ((rd_T94 ((rd_T27 l0 x12_1).f2) x30_3).f5.f1) _ _ ((rd_T94 ((rd_T27 l0 x12_1).f2) x30_3).f5.f2) 0 t213 _ ?side1 ?side2 A21.out).mono ?_);(case side1=>exact Kd.C_below HR211_14.out (lB2_ HB.out GE210.out GE212.out));(case side2=>exact HC211_14.out);rintro e w30 ⟨rfl,hb⟩;have n0_:=aK_ (bB (g:=gb210) (o:= .cells #[.int .i64 ((rd_T27 l0 x12_1).f0.f0),.slice A209_1 ((rd_T27 l0 x12_1).f0.f1).length c209_1,.int .i64 ((rd_T27 l0 x12_1).f1),.slice (some ad211) ((rd_T27 l0 x12_1).f2).length c209_3] 27 (0,0)) (by (with_reducible repeat (first|refine bDN ?_ _|refine bD ?_|refine bA ?_ _));refine blk_far ?_ NB210_212.out _;(with_reducible repeat (first|refine bDN ?_ _|refine bD ?_|refine bA ?_ _));refine blk_far ?_ NB210_212.out _;(with_reducible repeat (first|refine bDN ?_ _|refine bD ?_|refine bA ?_ _));refine blk_far ?_ NB210_212.out _;(with_reducible repeat (first|refine bDN ?_ _|refine bD ?_|refine bA ?_ _));refine blk_far ?_ NB210_212.out _;(with_reducible repeat (first|refine bDN ?_ _|refine bD ?_|refine bA ?_ _));refine blk_far ?_ NB210_212.out _;(with_reducible repeat (first|refine bDN ?_ _|refine bD ?_|refine bA ?_ _));refine blk_far ?_ NB210_212.out _;(with_reducible repeat (first|refine bDN ?_ _|refine bD ?_|refine bA ?_ _));refine blk_far ?_ NB210_212.out _;(with_reducible repeat (first|refine bDN ?_ _|refine bD ?_|refine bA ?_ _));refine blk_far ?_ NB210_212.out _;(with_reducible repeat (first|refine bDN ?_ _|refine bD ?_|refine bA ?_ _));refine blk_far ?_ NB210_212.out _;(with_reducible repeat (first|refine bDN ?_ _|refine bD ?_|refine bA ?_ _));refine blk_far ?_ NB210_212.out _;(with_reducible repeat (first|refine bDN ?_ _|refine bD ?_|refine bA ?_ _));refine blk_far ?_ NB210_212.out _;(with_reducible repeat (first|refine bDN ?_ _|refine bD ?_|refine bA ?_ _));refine blk_far ?_ NB210_212.out _;(with_reducible repeat (first|refine bDN ?_ _|refine bD ?_|refine bA ?_ _));refine blk_far ?_ NB210_212.out _;(with_reducible repeat (first|refine bDN ?_ _|refine bD ?_|refine bA ?_ _));refine blk_far ?_ NB210_212.out _;(with_reducible repeat (first|refine bDN ?_ _|refine bD ?_|refine bA ?_ _));refine blk_far ?_ NB210_212.out _;(with_reducible repeat (first|refine bDN ?_ _|refine bD ?_|refine bA ?_ _));exact BK210.out) hb);have n1_:=aK_ (bB (g:=gb212) (o:= .cells #[.int .i64 ((rd_T94 ((rd_T27 l0 x12_1).f2) x30_3).f0),.int .i64 ((rd_T94 ((rd_T27 l0 x12_1).f2) x30_3).f1),.int .i64 ((rd_T94 ((rd_T27 l0 x12_1).f2) x30_3).f2.f0),.slice A211_3 ((rd_T94 ((rd_T27 l0 x12_1).f2) x30_3).f2.f1).length c211_3,.int .i64 ((rd_T94 ((rd_T27 l0 x12_1).f2) x30_3).f3.f0),.int .i64 ((rd_T94 ((rd_T27 l0 x12_1).f2) x30_3).f3.f1),.int .i64 ((rd_T94 ((rd_T27 l0 x12_1).f2) x30_3).f3.f2),.int .i64 ((rd_T94 ((rd_T27 l0 x12_1).f2) x30_3).f4.f0),.int .i64 ((rd_T94 ((rd_T27 l0 x12_1).f2) x30_3).f4.f1),.int .i64 ((rd_T94 ((rd_T27 l0 x12_1).f2) x30_3).f4.f2),.int .i64 ((rd_T94 ((rd_T27 l0 x12_1).f2) x30_3).f5.f0.f0),.int .i64 ((rd_T94 ((rd_T27 l0 x12_1).f2) x30_3).f5.f0.f1),.int .i64 ((rd_T94 ((rd_T27 l0 x12_1).f2) x30_3).f5.f0.f2),.int .i64 ((rd_T94 ((rd_T27 l0 x12_1).f2) x30_3).f5.f1),.slice A211_14 ((rd_T94 ((rd_T27 l0 x12_1).f2) x30_3).f5.f2).length c211_14] 94 (0,0)) ((by apply eC_;(with_reducible repeat (first|refine bDN ?_ _|refine bD ?_|refine bA ?_ _));apply b2_;(with_reducible repeat (first|refine bDN ?_ _|refine bD ?_|refine bA ?_ _));apply b2_;(with_reducible repeat (first|refine bDN ?_ _|refine bD ?_|refine bA ?_ _));apply b2_;(with_reducible repeat (first|refine bDN ?_ _|refine bD ?_|refine bA ?_ _));apply b2_;(with_reducible repeat (first|refine bDN ?_ _|refine bD ?_|refine bA ?_ _));apply b2_;(with_reducible repeat (first|refine bDN ?_ _|refine bD ?_|refine bA ?_ _));apply b2_;(with_reducible repeat (first|refine bDN ?_ _|refine bD ?_|refine bA ?_ _));apply b2_;(with_reducible repeat (first|refine bDN ?_ _|refine bD ?_|refine bA ?_ _));apply b2_;(with_reducible repeat (first|refine bDN ?_ _|refine bD ?_|refine bA ?_ _));apply b2_;(with_reducible repeat (first|refine bDN ?_ _|refine bD ?_|refine bA ?_ _));apply b2_;(with_reducible repeat (first|refine bDN ?_ _|refine bD ?_|refine bA ?_ _));apply b2_;(with_reducible repeat (first|refine bDN ?_ _|refine bD ?_|refine bA ?_ _));apply b2_;(with_reducible repeat (first|refine bDN ?_ _|refine bD ?_|refine bA ?_ _));apply b2_;(with_reducible repeat (first|refine bDN ?_ _|refine bD ?_|refine bA ?_ _));apply b2_;(with_reducible repeat (first|refine bDN ?_ _|refine bD ?_|refine bA ?_ _));apply b2_;(with_reducible repeat (first|refine bDN ?_ _|refine bD ?_|refine bA ?_ _));exact BK212.out;kernel_rfl)) hb);have n2_:=aK_ (lT_ (lB2_ HB.out GE210.out GE212.out) hb);clear BK210;clear BK212;clear HB;have BK210:=n0_;have BK212:=n1_;have HB:=n2_;clear n0_ n1_ n2_;(try clear hb);(try clear hb2);(try clear hk);(try clear hi)))
                 go_roundg k3
                 case measure=>have:=HK1.out;have:=HJ5.out;have:=HK3.out;omega
                 case rel=>exact ⟨(wrap64 (x30_3+1)),(by first|rfl|(simp;done)|(simp [*];done)),H',⟨by have:=HK1.out;have:=HJ5.out;have:=HK3.out;omega⟩,⟨by (with_reducible repeat (first|refine bDN ?_ _|refine bD ?_|refine bA ?_ _));exact BK210.out⟩,⟨(lB2_ HB.out GE210.out GE212.out)⟩⟩
              ·rw [if_neg c16] at H
               exact absurd H (by simp)
             ·rw [if_neg c15] at H
              exact absurd H (by simp)
            ·rw [if_neg c14] at H
             have c14b0:decide (x30_3<(((rd_T27 l0 x12_1).f2).length:Int))=false:=decide_eq_false c14
             clear c14
             have H':=aK_ H
             clear H
             go_wp2
             go_roundg k3
             case measure=>have:=HK1.out;have:=HJ5.out;have:=HK3.out;omega
             case rel=>exact ⟨(wrap64 (x12_1+1)),(by first|rfl|(simp;done)|(simp [*];done)),H',⟨by have:=HK1.out;have:=HJ5.out;have:=HK3.out;omega⟩,⟨(lB1_ HB.out GE210.out)⟩⟩
      ·rw [if_neg c5] at H
       exact absurd H (by simp)
     ·rw [if_neg c4] at H
      exact absurd H (by simp)
    ·rw [if_neg c3] at H
     have c3b0:decide (x12_1<(l0.length:Int))=false:=decide_eq_false c3
     clear c3
     obtain rfl:=Option.some.inj H
     go_wp2
     go_ret
     exact ⟨by first|rfl|(simp [errW_none,errW_some] <;>rfl)|(simp [*,errW_none,errW_some] <;>rfl),(lB0_ HB.out)⟩
def ergolaw16_in.l0:Nat→ByteArray→List ByteArray→Int→Int→Option (Bool)
 |0,_,_,_,_=>none
 |k+1,x1,x7,x8,x9=>if x9<x8 then (if 0≤x9 then (if x9<(x7.length:Int) then (if (rdOf ByteArray.empty x7 x9).toList=x1.toList then (some true) else (ergolaw16_in.l0 k x1 x7 x8 (wrap64 (x9+1)))) else (none)) else (none)) else (some false)
def ergolaw16_in.f (k:Nat) (l0:List ByteArray) (a1:ByteArray):Option (Bool):=ergolaw16_in.l0 k a1 l0 (l0.length:Int) 0
set_option maxHeartbeats 8000000 in
set_option maxRecDepth 100000 in
theorem ergolaw16_in.calls (k:Nat) (A0:Option Addr) (c0:Nat) (l0:List ByteArray) (a1:ByteArray) (r:Bool) (w:World) (hr0:Kd.C Kd.string w A0 l0.length l0) (hc0:l0.length≤c0) (h:ergolaw16_in.f k l0 a1=some r):
  Calls Tryz.prog 65 #[.slice A0 l0.length c0,.string a1] w fun e w'=>e= .returned (.bool r)∧Drawn0 w w':=by
 have HR0:=aK_ hr0
 have HC0:=aK_ hc0
 clear hr0 hc0
 have H:(ergolaw16_in.l0 k a1 l0 (l0.length:Int) 0)=some r:=h
 clear h
 have H':=aK_ H
 clear H
 go_enter Tryz.func65,Tryz.ntmps65
 go_wp2
 go_loopg [9] k (fun kq v9 w'=>∃(x9_1:Int),v9= .int .i64 x9_1∧Aside0 (ergolaw16_in.l0 kq a1 l0 (l0.length:Int) x9_1=some r)∧Aside0 (kq≤k)∧Drawn0 w w')
 case atStart=>exact ⟨(0),(by first|rfl|(simp;done)|(simp [*];done)),H',⟨Nat.le_refl _⟩,by repeat (first|exact Drawn0.refl _|apply Drawn0.step)⟩
 case round=>
  clear H'
  try clear p2
  obtain ⟨x9_1,rfl,HA,HK1,⟨m1,rfl⟩⟩:=hrel
  cases gk with
  |zero=>exact absurd HA.out (by simp [ergolaw16_in.l0])
  |succ k1=>
   have H:=HA.out
   clear HA
   simp only [ergolaw16_in.l0] at H
   by_cases c3:x9_1<(l0.length:Int)
   ·rw [if_pos c3] at H
    have c3b0:decide (x9_1<(l0.length:Int))=true:=decide_eq_true c3
    clear c3
    by_cases c4:0≤x9_1
    ·rw [if_pos c4] at H
     have c4b0:decide (0≤x9_1)=true:=decide_eq_true c4
     clear c4
     by_cases c5:x9_1<(l0.length:Int)
     ·rw [if_pos c5] at H
      have c5b0:decide (x9_1<(l0.length:Int))=true:=decide_eq_true c5
      clear c5
      by_cases c6:(rdOf ByteArray.empty l0 x9_1).toList=a1.toList
      ·rw [if_pos c6] at H
       have c6b0:((rdOf ByteArray.empty l0 x9_1).toList==a1.toList)=true:=beq_iff_eq.mpr c6
       have c6b1:((rdOf ByteArray.empty l0 x9_1).toList !=a1.toList)=false:=bne_eq_false_iff_eq.mpr c6
       clear c6
       obtain rfl:=Option.some.inj H
       have p214:0≤(x9_1:Int):=of_decide_eq_true (by first|(with_reducible assumption)|assumption)
       have q214:x9_1<(l0.length:Int):=of_decide_eq_true (by first|(with_reducible assumption)|assumption)
       obtain ⟨ad214,e214,hx214_0⟩:=Kd.at_string HR0.out x9_1 p214 q214
       cases e214
       replace p214:=eq_true p214
       replace q214:=eq_true q214
       go_wp2
       go_ret
       exact ⟨by first|rfl|(simp;done)|(simp [*];done),by repeat (first|exact Drawn0.refl _|apply Drawn0.step)⟩
      ·rw [if_neg c6] at H
       have c6b0:((rdOf ByteArray.empty l0 x9_1).toList==a1.toList)=false:=beq_eq_false_iff_ne.mpr c6
       have c6b1:((rdOf ByteArray.empty l0 x9_1).toList !=a1.toList)=true:=bne_iff_ne.mpr c6
       have H':=aK_ H
       clear H
       have p214:0≤(x9_1:Int):=of_decide_eq_true (by first|(with_reducible assumption)|assumption)
       have q214:x9_1<(l0.length:Int):=of_decide_eq_true (by first|(with_reducible assumption)|assumption)
       obtain ⟨ad214,e214,hx214_0⟩:=Kd.at_string HR0.out x9_1 p214 q214
       cases e214
       replace p214:=eq_true p214
       replace q214:=eq_true q214
       go_wp2
       go_roundg k1
       case measure=>have:=HK1.out;omega
       case rel=>exact ⟨(wrap64 (x9_1+1)),(by first|rfl|(simp;done)|(simp [*];done)),H',⟨by have:=HK1.out;omega⟩,by repeat (first|exact Drawn0.refl _|apply Drawn0.step)⟩
     ·rw [if_neg c5] at H
      exact absurd H (by simp)
    ·rw [if_neg c4] at H
     exact absurd H (by simp)
   ·rw [if_neg c3] at H
    have c3b0:decide (x9_1<(l0.length:Int))=false:=decide_eq_false c3
    clear c3
    obtain rfl:=Option.some.inj H
    go_wp2
    go_ret
    exact ⟨by first|rfl|(simp;done)|(simp [*];done),by repeat (first|exact Drawn0.refl _|apply Drawn0.step)⟩
end Go.Proofs.YtjlnpdpkobpkiaaGreatDoorPSP
