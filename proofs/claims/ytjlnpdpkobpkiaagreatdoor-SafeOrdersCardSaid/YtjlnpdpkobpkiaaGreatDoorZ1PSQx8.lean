import Derived.Test.YtjlnpdpkobpkiaaGreatDoorZ1PSQx0
import Derived.Test.YtjlnpdpkobpkiaaGreatDoorZ1PSQx4
import Derived.Test.YtjlnpdpkobpkiaaGreatDoorZ1PSPx2
import Derived.Test.YtjlnpdpkobpkiaaGreatDoorZ1PSPx4
namespace Go.Proofs.YtjlnpdpkobpkiaaGreatDoorPSP
open Go.RowKit Go.Proofs.YtjlnpdpkobpkiaaGreatDoorW.PrintWords Go.Proofs.YtjlnpdpkobpkiaaGreatDoorW.PrintLast Go.Proofs.YtjlnpdpkobpkiaaGreatDoorW.PrintMore
attribute [local go_sem] max2_int min2_int max_two min_two max_three min_three max_four min_four   -- for this text's walks alone
set_option linter.unusedVariables false
set_option linter.unusedSimpArgs false
def ergolaw16_lacks.l0:Nat→List ByteArray→List ByteArray→Int→Int→Option (ByteArray)
 |0,_,_,_,_=>none
 |k+1,x0,x7,x8,x9=>if x9<x8 then (if 0≤x9 then (if x9<(x7.length:Int) then ((ergolaw16_in.f k x0 (rdOf ByteArray.empty x7 x9)).bind fun t216=>(if t216=true then (ergolaw16_lacks.l0 k x0 x7 x8 (wrap64 (x9+1))) else (some (rdOf ByteArray.empty x7 x9)))) else (none)) else (none)) else (some (⟨#[]⟩:ByteArray))
def ergolaw16_lacks.f (k:Nat) (l0:List ByteArray) (l1:List ByteArray):Option (ByteArray):=ergolaw16_lacks.l0 k l0 l1 (l1.length:Int) 0
set_option maxHeartbeats 8000000 in
set_option maxRecDepth 100000 in
theorem ergolaw16_lacks.calls (k:Nat) (A0:Option Addr) (c0:Nat) (l0:List ByteArray) (A1:Option Addr) (c1:Nat) (l1:List ByteArray) (r:ByteArray) (w:World) (hr0:Kd.C Kd.string w A0 l0.length l0) (hc0:l0.length≤c0) (hr1:Kd.C Kd.string w A1 l1.length l1) (hc1:l1.length≤c1) (h:ergolaw16_lacks.f k l0 l1=some r):
  Calls Tryz.prog 34 #[.slice A0 l0.length c0,.slice A1 l1.length c1] w fun e w'=>e= .returned (.string r)∧Drawn0 w w':=by
 have HR0:=aK_ hr0
 have HC0:=aK_ hc0
 clear hr0 hc0
 have HR1:=aK_ hr1
 have HC1:=aK_ hc1
 clear hr1 hc1
 have H:(ergolaw16_lacks.l0 k l0 l1 (l1.length:Int) 0)=some r:=h
 clear h
 have H':=aK_ H
 clear H
 go_enter Tryz.func34,Tryz.ntmps34
 go_wp2
 go_loopg [9] k (fun kq v9 w'=>∃(x9_1:Int),v9= .int .i64 x9_1∧Aside0 (ergolaw16_lacks.l0 kq l0 l1 (l1.length:Int) x9_1=some r)∧Aside0 (kq≤k)∧Drawn0 w w')
 case atStart=>exact ⟨(0),(by first|rfl|(simp;done)|(simp [*];done)),H',⟨Nat.le_refl _⟩,by repeat (first|exact Drawn0.refl _|apply Drawn0.step)⟩
 case round=>
  clear H'
  try clear c1
  try clear p2
  obtain ⟨x9_1,rfl,HA,HK1,⟨m1,rfl⟩⟩:=hrel
  cases gk with
  |zero=>exact absurd HA.out (by simp [ergolaw16_lacks.l0])
  |succ k1=>
   have H:=HA.out
   clear HA
   simp only [ergolaw16_lacks.l0] at H
   by_cases c3:x9_1<(l1.length:Int)
   ·rw [if_pos c3] at H
    have c3b0:decide (x9_1<(l1.length:Int))=true:=decide_eq_true c3
    clear c3
    by_cases c4:0≤x9_1
    ·rw [if_pos c4] at H
     have c4b0:decide (0≤x9_1)=true:=decide_eq_true c4
     clear c4
     by_cases c5:x9_1<(l1.length:Int)
     ·rw [if_pos c5] at H
      have c5b0:decide (x9_1<(l1.length:Int))=true:=decide_eq_true c5
      clear c5
      replace H:=Option.bind_eq_some_iff.mp H
      obtain ⟨t216,A60,H⟩:=H
      replace H:(if t216=true then (ergolaw16_lacks.l0 k1 l0 l1 (l1.length:Int) (wrap64 (x9_1+1))) else (some (rdOf ByteArray.empty l1 x9_1)))=some r:=H
      have A6:=aK_ A60
      clear A60
      by_cases c7:t216=true
      ·subst c7
       have H1:(ergolaw16_lacks.l0 k1 l0 l1 (l1.length:Int) (wrap64 (x9_1+1)))=some r:=by rw [if_pos rfl] at H;exact H
       clear H
       have H:=H1
       clear H1
       have H':=aK_ H
       clear H
       have p215:0≤(x9_1:Int):=of_decide_eq_true (by first|(with_reducible assumption)|assumption)
       have q215:x9_1<(l1.length:Int):=of_decide_eq_true (by first|(with_reducible assumption)|assumption)
       obtain ⟨ad215,e215,hx215_0⟩:=Kd.at_string HR1.out x9_1 p215 q215
       cases e215
       replace p215:=eq_true p215
       replace q215:=eq_true q215
       go_wp2_with (first|((with_reducible refine gate_callee (f:=65) rfl ?_);refine goesL_ (some 15) rfl rfl Tryz.func65 (by kernel_rfl) rfl #[.slice A0 l0.length c0,.string (rdOf ByteArray.empty l1 x9_1)] rfl (by (try simp only [List.map_toArray,List.map_cons,List.map_nil]);first|done|rfl|(simp only [List.length_drop,List.length_take];rfl)) ?_;(with_reducible refine (ergolaw16_in.calls k1 _ _ l0 (rdOf ByteArray.empty l1 x9_1) true _ ?side1 ?side2 A6.out).mono ?_);(case side1=>repeat (first|exact HR0.out|(with_reducible refine Kd.C_alloc ?_ _)|(with_reducible refine Kd.C_drewN ?_ _)|(with_reducible refine Kd.C_drew ?_)));(case side2=>exact HC0.out);rintro e w' ⟨rfl,⟨nd,rfl⟩⟩;refine ⟨_,rfl,?_⟩))
       go_roundg k1
       case measure=>have:=HK1.out;omega
       case rel=>exact ⟨(wrap64 (x9_1+1)),(by first|rfl|(simp;done)|(simp [*];done)),H',⟨by have:=HK1.out;omega⟩,by repeat (first|exact Drawn0.refl _|apply Drawn0.step)⟩
      ·replace c7 := Bool.eq_false_iff.mpr c7
       subst c7
       have H1:(some (rdOf ByteArray.empty l1 x9_1))=some r:=by rw [if_neg (show ¬(false=true) by decide)] at H;exact H
       clear H
       have H:=H1
       clear H1
       obtain rfl:=Option.some.inj H
       have p215:0≤(x9_1:Int):=of_decide_eq_true (by first|(with_reducible assumption)|assumption)
       have q215:x9_1<(l1.length:Int):=of_decide_eq_true (by first|(with_reducible assumption)|assumption)
       obtain ⟨ad215,e215,hx215_0⟩:=Kd.at_string HR1.out x9_1 p215 q215
       cases e215
       replace p215:=eq_true p215
       replace q215:=eq_true q215
       go_wp2_with (first|((with_reducible refine gate_callee (f:=65) rfl ?_);refine goesL_ (some 15) rfl rfl Tryz.func65 (by kernel_rfl) rfl #[.slice A0 l0.length c0,.string (rdOf ByteArray.empty l1 x9_1)] rfl (by (try simp only [List.map_toArray,List.map_cons,List.map_nil]);first|done|rfl|(simp only [List.length_drop,List.length_take];rfl)) ?_;(with_reducible refine (ergolaw16_in.calls k1 _ _ l0 (rdOf ByteArray.empty l1 x9_1) false _ ?side1 ?side2 A6.out).mono ?_);(case side1=>repeat (first|exact HR0.out|(with_reducible refine Kd.C_alloc ?_ _)|(with_reducible refine Kd.C_drewN ?_ _)|(with_reducible refine Kd.C_drew ?_)));(case side2=>exact HC0.out);rintro e w' ⟨rfl,⟨nd,rfl⟩⟩;refine ⟨_,rfl,?_⟩))
       go_ret
       exact ⟨by first|rfl|(simp;done)|(simp [*];done),by repeat (first|exact Drawn0.refl _|apply Drawn0.step)⟩
     ·rw [if_neg c5] at H
      exact absurd H (by simp)
    ·rw [if_neg c4] at H
     exact absurd H (by simp)
   ·rw [if_neg c3] at H
    have c3b0:decide (x9_1<(l1.length:Int))=false:=decide_eq_false c3
    clear c3
    obtain rfl:=Option.some.inj H
    go_wp2
    go_ret
    exact ⟨by first|rfl|(simp;done)|(simp [*];done),by repeat (first|exact Drawn0.refl _|apply Drawn0.step)⟩
end Go.Proofs.YtjlnpdpkobpkiaaGreatDoorPSP
namespace Go.Proofs.YtjlnpdpkobpkiaaGreatDoorPSP
open Go.RowKit Go.Proofs.YtjlnpdpkobpkiaaGreatDoorW.PrintWords Go.Proofs.YtjlnpdpkobpkiaaGreatDoorW.PrintLast Go.Proofs.YtjlnpdpkobpkiaaGreatDoorW.PrintMore
attribute [local go_sem] max2_int min2_int max_two min_two max_three min_three max_four min_four   -- for this text's walks alone
set_option linter.unusedVariables false
set_option linter.unusedSimpArgs false
def ergolaw16_needs.f (k:Nat) (a0_0:Int) (a0_1:ByteArray) (l0_2:List (S98)) (a0_3:Int) (a0_4:Int) (a0_5:ByteArray) (a0_6:Int) (a0_7:Int) (a0_8:ByteArray) (a0_9:Int) (a0_10:ByteArray) (a0_11:Int) (a0_12:ByteArray) (a0_13:Int) (a0_14:Int) (l0_15:List (S104)):Option (List ByteArray):=if a0_0=0 then (some ([]:List ByteArray)) else (if a0_0=3 then ((syntax_Expr_Vars.f k a0_11 a0_12 a0_13 a0_14 l0_15).bind fun t267=>(some t267)) else ((syntax_Part_Vars.f k a0_0 a0_1 l0_2 a0_3 a0_4 a0_5 a0_6 a0_7 a0_8 a0_9 a0_10 a0_11 a0_12 a0_13 a0_14 l0_15).bind fun t270=>(some t270)))
set_option maxHeartbeats 8000000 in
set_option maxRecDepth 100000 in
theorem ergolaw16_needs.calls (k:Nat) (a0_0:Int) (a0_1:ByteArray) (A0_2:Option Addr) (c0_2:Nat) (l0_2:List (S98)) (a0_3:Int) (a0_4:Int) (a0_5:ByteArray) (a0_6:Int) (a0_7:Int) (a0_8:ByteArray) (a0_9:Int) (a0_10:ByteArray) (a0_11:Int) (a0_12:ByteArray) (a0_13:Int) (a0_14:Int) (A0_15:Option Addr) (c0_15:Nat) (l0_15:List (S104)) (r:List ByteArray) (w:World) (hr0_2:Kd.C k98 w A0_2 l0_2.length l0_2) (hc0_2:l0_2.length≤c0_2) (hr0_15:Kd.C k104 w A0_15 l0_15.length l0_15) (hc0_15:l0_15.length≤c0_15) (h:ergolaw16_needs.f k a0_0 a0_1 l0_2 a0_3 a0_4 a0_5 a0_6 a0_7 a0_8 a0_9 a0_10 a0_11 a0_12 a0_13 a0_14 l0_15=some r):
  Calls Tryz.prog 35 #[.agg #[.int .i64 a0_0,.string a0_1,.slice A0_2 l0_2.length c0_2,.int .i64 a0_3,.int .i64 a0_4,.string a0_5,.int .i64 a0_6,.int .i64 a0_7,.string a0_8,.int .i64 a0_9,.string a0_10,.int .i64 a0_11,.string a0_12,.int .i64 a0_13,.int .i64 a0_14,.slice A0_15 l0_15.length c0_15]] w fun e w'=>∃v0_:Value,e= .returned (v0_)∧Kd.R Kd.string 9 w' w.heap.size (fun _=>True) v0_ r∧Below w.heap.size w w':=by
 have hu106:=Tryz.underlying106
 have hu104:=Tryz.underlying104
 have HR0_2:=aK_ hr0_2
 have HC0_2:=aK_ hc0_2
 clear hr0_2 hc0_2
 have HR0_15:=aK_ hr0_15
 have HC0_15:=aK_ hc0_15
 clear hr0_15 hc0_15
 have HB:=aK_ (Below.refl w.heap.size w)
 have H:(if a0_0=0 then (some ([]:List ByteArray)) else (if a0_0=3 then ((syntax_Expr_Vars.f k a0_11 a0_12 a0_13 a0_14 l0_15).bind fun t267=>(some t267)) else ((syntax_Part_Vars.f k a0_0 a0_1 l0_2 a0_3 a0_4 a0_5 a0_6 a0_7 a0_8 a0_9 a0_10 a0_11 a0_12 a0_13 a0_14 l0_15).bind fun t270=>(some t270))))=some r:=h
 clear h
 by_cases c2:a0_0=0
 ·rw [if_pos c2] at H
  have c2b0:(a0_0==0)=true:=beq_iff_eq.mpr c2
  have c2b1:(a0_0 !=0)=false:=bne_eq_false_iff_eq.mpr c2
  clear c2
  obtain rfl:=Option.some.inj H
  go_enter Tryz.func35,Tryz.ntmps35
  go_wp2_with (first|((with_reducible refine gate_dst (N:=1) rfl ?_);refine box_event ?hg (N:=1) ?hd (cs:= #[.int .i64 a0_0,.string a0_1,.slice A0_2 l0_2.length c0_2,.int .i64 a0_3,.int .i64 a0_4,.string a0_5,.int .i64 a0_6,.int .i64 a0_7,.string a0_8,.int .i64 a0_9,.string a0_10,.int .i64 a0_11,.string a0_12,.int .i64 a0_13,.int .i64 a0_14,.slice A0_15 l0_15.length c0_15]) (t:=106) ?hr ?_;(case hd=>rfl);(case hg=>rfl);(case hr=>first|(go_simp;done)|(go_simp;rfl));intro gb266 hg w3 hbox hb;have n0_:=aK_ (lT_ (lB0_ HB.out) hb);have n1_:=aK_ (hbox);have n2_:=aK_ ((by rw [hg];exact (lZ_ (lB0_ HB.out)):w.heap.size≤gb266));have n3_:=aK_ ((by rw [hg];exact (lZ_ (lB0_ HB.out)):w.heap.size≤gb266));clear HB;have HB:=n0_;have BK266:=n1_;have GW266:=n2_;have GE266:=n3_;clear n0_ n1_ n2_ n3_;clear hb hbox hg;obtain ⟨⟨hcz4_0,hcz4_1,hcz4_2,hcz4_3,hcz4_4,hcz4_5,hcz4_6,hcz4_7,hcz4_8,hcz4_9,hcz4_10,hcz4_11,hcz4_12,hcz4_13,hcz4_14,hcz4_15⟩,hfz4_0,hfz4_1,hfz4_2,hfz4_3,hfz4_4,hfz4_5,hfz4_6,hfz4_7,hfz4_8,hfz4_9,hfz4_10,hfz4_11,hfz4_12,hfz4_13,hfz4_14,hfz4_15⟩:=c16_ BK266.out))
  go_ret
  exact ⟨_,by first|rfl|(simp [errW_none,errW_some] <;>rfl)|(simp [*,errW_none,errW_some] <;>rfl),by first|exact Kd.R_nil _ _ _ _ _|exact Kd.N_nil _ _ _ _ _|exact Kd.V_nil _ _ _ _ _|exact Kd.Q_nil _ _ _ _ _|exact Kd.S_nil _ _ _ _ _,(lB1_ HB.out GE266.out)⟩
 ·rw [if_neg c2] at H
  have c2b0:(a0_0==0)=false:=beq_eq_false_iff_ne.mpr c2
  have c2b1:(a0_0 !=0)=true:=bne_iff_ne.mpr c2
  by_cases c5:a0_0=3
  ·rw [if_pos c5] at H
   have c5b0:(a0_0==3)=true:=beq_iff_eq.mpr c5
   have c5b1:(a0_0 !=3)=false:=bne_eq_false_iff_eq.mpr c5
   clear c5
   replace H:=Option.bind_eq_some_iff.mp H
   obtain ⟨t267,A60,H⟩:=H
   replace H:(some t267)=some r:=H
   have A6:=aK_ A60
   clear A60
   obtain rfl:=Option.some.inj H
   go_enter Tryz.func35,Tryz.ntmps35
   go_wp2_with (first|((with_reducible refine gate_dst (N:=1) rfl ?_);refine box_event ?hg (N:=1) ?hd (cs:= #[.int .i64 a0_0,.string a0_1,.slice A0_2 l0_2.length c0_2,.int .i64 a0_3,.int .i64 a0_4,.string a0_5,.int .i64 a0_6,.int .i64 a0_7,.string a0_8,.int .i64 a0_9,.string a0_10,.int .i64 a0_11,.string a0_12,.int .i64 a0_13,.int .i64 a0_14,.slice A0_15 l0_15.length c0_15]) (t:=106) ?hr ?_;(case hd=>rfl);(case hg=>rfl);(case hr=>first|(go_simp;done)|(go_simp;rfl));intro gb266 hg w7 hbox hb;have n0_:=aK_ (lT_ (lB0_ HB.out) hb);have n1_:=aK_ (hbox);have n2_:=aK_ ((by rw [hg];exact (lZ_ (lB0_ HB.out)):w.heap.size≤gb266));have n3_:=aK_ ((by rw [hg];exact (lZ_ (lB0_ HB.out)):w.heap.size≤gb266));clear HB;have HB:=n0_;have BK266:=n1_;have GW266:=n2_;have GE266:=n3_;clear n0_ n1_ n2_ n3_;clear hb hbox hg;obtain ⟨⟨hcz8_0,hcz8_1,hcz8_2,hcz8_3,hcz8_4,hcz8_5,hcz8_6,hcz8_7,hcz8_8,hcz8_9,hcz8_10,hcz8_11,hcz8_12,hcz8_13,hcz8_14,hcz8_15⟩,hfz8_0,hfz8_1,hfz8_2,hfz8_3,hfz8_4,hfz8_5,hfz8_6,hfz8_7,hfz8_8,hfz8_9,hfz8_10,hfz8_11,hfz8_12,hfz8_13,hfz8_14,hfz8_15⟩:=c16_ BK266.out)|((with_reducible refine gate_callee (f:=66) rfl ?_);refine goesL_ (some 11) rfl rfl Tryz.func66 (by kernel_rfl) rfl #[.agg #[.int .i64 a0_11,.string a0_12,.int .i64 a0_13,.int .i64 a0_14,.slice A0_15 l0_15.length c0_15]] rfl (by (try simp only [List.map_toArray,List.map_cons,List.map_nil]);first|done|rfl|(simp only [List.length_drop,List.length_take];rfl)) ?_;(with_reducible refine (syntax_Expr_Vars.calls k a0_11 a0_12 a0_13 a0_14 _ _ l0_15 t267 _ ?side1 ?side2 A6.out).mono ?_);(case side1=>repeat (first|exact (Kd.C_below HR0_15.out HB.out)|(with_reducible refine Kd.C_alloc ?_ _)|(with_reducible refine Kd.C_drewN ?_ _)|(with_reducible refine Kd.C_drew ?_)));(case side2=>exact HC0_15.out);rintro e w9 ⟨v268,rfl,ho0,hb⟩;refine ⟨_,rfl,?_⟩;have n0_:=aK_ (Kd.R_lower ho0 (lZ_ (lB1_ HB.out GE266.out)));have n1_:=aK_ (bB (bK_ BK266.out) hb);have n2_:=aK_ (lT_ (lB1_ HB.out GE266.out) hb);clear BK266;clear HB;have HO269:=n0_;have BK266:=n1_;have HB:=n2_;clear n0_ n1_ n2_;(try clear hb);(try clear hb2);(try clear hk);(try clear hi);(try clear ho0)))
   go_ret
   exact ⟨_,by first|rfl|(simp [errW_none,errW_some] <;>rfl)|(simp [*,errW_none,errW_some] <;>rfl),by (with_reducible repeat (first|apply Kd.R_alloc|apply Kd.R_drewN|apply Kd.R_drew));exact HO269.out,(lB1_ HB.out GE266.out)⟩
  ·rw [if_neg c5] at H
   have c5b0:(a0_0==3)=false:=beq_eq_false_iff_ne.mpr c5
   have c5b1:(a0_0 !=3)=true:=bne_iff_ne.mpr c5
   replace H:=Option.bind_eq_some_iff.mp H
   obtain ⟨t270,A100,H⟩:=H
   replace H:(some t270)=some r:=H
   have A10:=aK_ A100
   clear A100
   obtain rfl:=Option.some.inj H
   go_enter Tryz.func35,Tryz.ntmps35
   go_wp2_with (first|((with_reducible refine gate_dst (N:=1) rfl ?_);refine box_event ?hg (N:=1) ?hd (cs:= #[.int .i64 a0_0,.string a0_1,.slice A0_2 l0_2.length c0_2,.int .i64 a0_3,.int .i64 a0_4,.string a0_5,.int .i64 a0_6,.int .i64 a0_7,.string a0_8,.int .i64 a0_9,.string a0_10,.int .i64 a0_11,.string a0_12,.int .i64 a0_13,.int .i64 a0_14,.slice A0_15 l0_15.length c0_15]) (t:=106) ?hr ?_;(case hd=>rfl);(case hg=>rfl);(case hr=>first|(go_simp;done)|(go_simp;rfl));intro gb266 hg w11 hbox hb;have n0_:=aK_ (lT_ (lB0_ HB.out) hb);have n1_:=aK_ (hbox);have n2_:=aK_ ((by rw [hg];exact (lZ_ (lB0_ HB.out)):w.heap.size≤gb266));have n3_:=aK_ ((by rw [hg];exact (lZ_ (lB0_ HB.out)):w.heap.size≤gb266));clear HB;have HB:=n0_;have BK266:=n1_;have GW266:=n2_;have GE266:=n3_;clear n0_ n1_ n2_ n3_;clear hb hbox hg;obtain ⟨⟨hcz12_0,hcz12_1,hcz12_2,hcz12_3,hcz12_4,hcz12_5,hcz12_6,hcz12_7,hcz12_8,hcz12_9,hcz12_10,hcz12_11,hcz12_12,hcz12_13,hcz12_14,hcz12_15⟩,hfz12_0,hfz12_1,hfz12_2,hfz12_3,hfz12_4,hfz12_5,hfz12_6,hfz12_7,hfz12_8,hfz12_9,hfz12_10,hfz12_11,hfz12_12,hfz12_13,hfz12_14,hfz12_15⟩:=c16_ BK266.out)|((with_reducible refine gate_callee (f:=36) rfl ?_);refine goesL_ (some 13) rfl rfl Tryz.func36 (by kernel_rfl) rfl #[.agg #[.int .i64 a0_0,.string a0_1,.slice A0_2 l0_2.length c0_2,.int .i64 a0_3,.int .i64 a0_4,.string a0_5,.int .i64 a0_6,.int .i64 a0_7,.string a0_8,.int .i64 a0_9,.string a0_10,.int .i64 a0_11,.string a0_12,.int .i64 a0_13,.int .i64 a0_14,.slice A0_15 l0_15.length c0_15]] rfl (by (try simp only [List.map_toArray,List.map_cons,List.map_nil]);first|done|rfl|(simp only [List.length_drop,List.length_take];rfl)) ?_;(with_reducible refine (syntax_Part_Vars.calls k a0_0 a0_1 _ _ l0_2 a0_3 a0_4 a0_5 a0_6 a0_7 a0_8 a0_9 a0_10 a0_11 a0_12 a0_13 a0_14 _ _ l0_15 t270 _ ?side1 ?side2 ?side3 ?side4 A10.out).mono ?_);(case side1=>repeat (first|exact (Kd.C_below HR0_2.out HB.out)|(with_reducible refine Kd.C_alloc ?_ _)|(with_reducible refine Kd.C_drewN ?_ _)|(with_reducible refine Kd.C_drew ?_)));(case side2=>exact HC0_2.out);(case side3=>repeat (first|exact (Kd.C_below HR0_15.out HB.out)|(with_reducible refine Kd.C_alloc ?_ _)|(with_reducible refine Kd.C_drewN ?_ _)|(with_reducible refine Kd.C_drew ?_)));(case side4=>exact HC0_15.out);rintro e w13 ⟨v271,rfl,ho0,hb⟩;refine ⟨_,rfl,?_⟩;have n0_:=aK_ (Kd.R_lower ho0 (lZ_ (lB1_ HB.out GE266.out)));have n1_:=aK_ (bB (bK_ BK266.out) hb);have n2_:=aK_ (lT_ (lB1_ HB.out GE266.out) hb);clear BK266;clear HB;have HO272:=n0_;have BK266:=n1_;have HB:=n2_;clear n0_ n1_ n2_;(try clear hb);(try clear hb2);(try clear hk);(try clear hi);(try clear ho0)))
   go_ret
   exact ⟨_,by first|rfl|(simp [errW_none,errW_some] <;>rfl)|(simp [*,errW_none,errW_some] <;>rfl),by (with_reducible repeat (first|apply Kd.R_alloc|apply Kd.R_drewN|apply Kd.R_drew));exact HO272.out,(lB1_ HB.out GE266.out)⟩
end Go.Proofs.YtjlnpdpkobpkiaaGreatDoorPSP
namespace Go.Proofs.YtjlnpdpkobpkiaaGreatDoorPSP
open Go.RowKit Go.Proofs.YtjlnpdpkobpkiaaGreatDoorW.PrintWords Go.Proofs.YtjlnpdpkobpkiaaGreatDoorW.PrintLast Go.Proofs.YtjlnpdpkobpkiaaGreatDoorW.PrintMore
attribute [local go_sem] max2_int min2_int max_two min_two max_three min_three max_four min_four   -- for this text's walks alone
set_option linter.unusedVariables false
set_option linter.unusedSimpArgs false
def ergolaw16_same.l0:Nat→List Int→List Int→Int→Int→Option (Bool)
 |0,_,_,_,_=>none
 |k+1,x0,x1,x12,x13=>if x13<x12 then (if 0≤x13 then (if x13<(x0.length:Int) then (if x13<(x1.length:Int) then (if (rd x0 x13)=(rd x1 x13) then (ergolaw16_same.l0 k x0 x1 x12 (wrap64 (x13+1))) else (some false)) else (none)) else (none)) else (none)) else (some true)
def ergolaw16_same.f (k:Nat) (l0:List Int) (l1:List Int):Option (Bool):=if (l0.length:Int)=(l1.length:Int) then (ergolaw16_same.l0 k l0 l1 (l0.length:Int) 0) else (some false)
set_option maxHeartbeats 8000000 in
set_option maxRecDepth 100000 in
theorem ergolaw16_same.calls (k:Nat) (A0:Option Addr) (c0:Nat) (l0:List Int) (A1:Option Addr) (c1:Nat) (l1:List Int) (r:Bool) (w:World) (hr0:Kd.C (Kd.int .i64) w A0 l0.length l0) (hc0:l0.length≤c0) (hr1:Kd.C (Kd.int .i64) w A1 l1.length l1) (hc1:l1.length≤c1) (h:ergolaw16_same.f k l0 l1=some r):
  Calls Tryz.prog 15 #[.slice A0 l0.length c0,.slice A1 l1.length c1] w fun e w'=>e= .returned (.bool r)∧Drawn0 w w':=by
 have HR0:=aK_ hr0
 have HC0:=aK_ hc0
 clear hr0 hc0
 have HR1:=aK_ hr1
 have HC1:=aK_ hc1
 clear hr1 hc1
 have H:(if (l0.length:Int)=(l1.length:Int) then (ergolaw16_same.l0 k l0 l1 (l0.length:Int) 0) else (some false))=some r:=h
 clear h
 by_cases c3:(l0.length:Int)=(l1.length:Int)
 ·rw [if_pos c3] at H
  have c3b0:((l0.length:Int)==(l1.length:Int))=true:=beq_iff_eq.mpr c3
  have c3b1:((l0.length:Int) !=(l1.length:Int))=false:=bne_eq_false_iff_eq.mpr c3
  have c3b2:(l0.length==l1.length)=true:=by first|simpa using c3|(simp at c3 ⊢;omega)
  clear c3
  have H':=aK_ H
  clear H
  go_enter Tryz.func15,Tryz.ntmps15
  go_wp2
  repeat (go_quiet (fail);try go_wp2)
  go_loopg [13] k (fun kq v13 w'=>∃(x13_1:Int),v13= .int .i64 x13_1∧Aside0 (ergolaw16_same.l0 kq l0 l1 (l0.length:Int) x13_1=some r)∧Aside0 (kq≤k)∧Drawn0 w w')
  case atStart=>exact ⟨(0),(by first|rfl|(simp;done)|(simp [*];done)),H',⟨Nat.le_refl _⟩,by repeat (first|exact Drawn0.refl _|apply Drawn0.step)⟩
  case round=>
   clear H'
   try clear c1
   try clear p2
   try clear c3
   try clear c3b0
   try clear c3b1
   try clear c3b2
   obtain ⟨x13_1,rfl,HA,HK1,⟨m1,rfl⟩⟩:=hrel
   cases gk with
   |zero=>exact absurd HA.out (by simp [ergolaw16_same.l0])
   |succ k1=>
    have H:=HA.out
    clear HA
    simp only [ergolaw16_same.l0] at H
    by_cases c4:x13_1<(l0.length:Int)
    ·rw [if_pos c4] at H
     have c4b0:decide (x13_1<(l0.length:Int))=true:=decide_eq_true c4
     clear c4
     by_cases c5:0≤x13_1
     ·rw [if_pos c5] at H
      have c5b0:decide (0≤x13_1)=true:=decide_eq_true c5
      clear c5
      by_cases c6:x13_1<(l0.length:Int)
      ·rw [if_pos c6] at H
       have c6b0:decide (x13_1<(l0.length:Int))=true:=decide_eq_true c6
       clear c6
       by_cases c7:x13_1<(l1.length:Int)
       ·rw [if_pos c7] at H
        have c7b0:decide (x13_1<(l1.length:Int))=true:=decide_eq_true c7
        clear c7
        by_cases c8:(rd l0 x13_1)=(rd l1 x13_1)
        ·rw [if_pos c8] at H
         have c8b0:((rd l0 x13_1)==(rd l1 x13_1))=true:=beq_iff_eq.mpr c8
         have c8b1:((rd l0 x13_1) !=(rd l1 x13_1))=false:=bne_eq_false_iff_eq.mpr c8
         clear c8
         have H':=aK_ H
         clear H
         have p332:0≤(x13_1:Int):=of_decide_eq_true (by first|(with_reducible assumption)|assumption)
         have q332:x13_1<(l0.length:Int):=of_decide_eq_true (by first|(with_reducible assumption)|assumption)
         obtain ⟨ad332,e332,hx332_0⟩:=Kd.at_int HR0.out x13_1 p332 q332
         cases e332
         replace p332:=eq_true p332
         replace q332:=eq_true q332
         have p333:0≤(x13_1:Int):=of_decide_eq_true (by first|(with_reducible assumption)|assumption)
         have q333:x13_1<(l1.length:Int):=of_decide_eq_true (by first|(with_reducible assumption)|assumption)
         obtain ⟨ad333,e333,hx333_0⟩:=Kd.at_int HR1.out x13_1 p333 q333
         cases e333
         replace p333:=eq_true p333
         replace q333:=eq_true q333
         go_wp2
         repeat (go_quiet (fail);try go_wp2)
         go_roundg k1
         case measure=>have:=HK1.out;omega
         case rel=>exact ⟨(wrap64 (x13_1+1)),(by first|rfl|(simp;done)|(simp [*];done)),H',⟨by have:=HK1.out;omega⟩,by repeat (first|exact Drawn0.refl _|apply Drawn0.step)⟩
        ·rw [if_neg c8] at H
         have c8b0:((rd l0 x13_1)==(rd l1 x13_1))=false:=beq_eq_false_iff_ne.mpr c8
         have c8b1:((rd l0 x13_1) !=(rd l1 x13_1))=true:=bne_iff_ne.mpr c8
         obtain rfl:=Option.some.inj H
         have p332:0≤(x13_1:Int):=of_decide_eq_true (by first|(with_reducible assumption)|assumption)
         have q332:x13_1<(l0.length:Int):=of_decide_eq_true (by first|(with_reducible assumption)|assumption)
         obtain ⟨ad332,e332,hx332_0⟩:=Kd.at_int HR0.out x13_1 p332 q332
         cases e332
         replace p332:=eq_true p332
         replace q332:=eq_true q332
         have p333:0≤(x13_1:Int):=of_decide_eq_true (by first|(with_reducible assumption)|assumption)
         have q333:x13_1<(l1.length:Int):=of_decide_eq_true (by first|(with_reducible assumption)|assumption)
         obtain ⟨ad333,e333,hx333_0⟩:=Kd.at_int HR1.out x13_1 p333 q333
         cases e333
         replace p333:=eq_true p333
         replace q333:=eq_true q333
         go_wp2
         repeat (go_quiet (fail);try go_wp2)
         go_ret
         exact ⟨by first|rfl|(simp;done)|(simp [*];done),by repeat (first|exact Drawn0.refl _|apply Drawn0.step)⟩
       ·rw [if_neg c7] at H
        exact absurd H (by simp)
      ·rw [if_neg c6] at H
       exact absurd H (by simp)
     ·rw [if_neg c5] at H
      exact absurd H (by simp)
    ·rw [if_neg c4] at H
     have c4b0:decide (x13_1<(l0.length:Int))=false:=decide_eq_false c4
     clear c4
     obtain rfl:=Option.some.inj H
     go_wp2
     repeat (go_quiet (fail);try go_wp2)
     go_ret
     exact ⟨by first|rfl|(simp;done)|(simp [*];done),by repeat (first|exact Drawn0.refl _|apply Drawn0.step)⟩
 ·rw [if_neg c3] at H
  have c3b0:((l0.length:Int)==(l1.length:Int))=false:=beq_eq_false_iff_ne.mpr c3
  have c3b1:((l0.length:Int) !=(l1.length:Int))=true:=bne_iff_ne.mpr c3
  have c3b2:(l0.length==l1.length)=false:=by first|simpa using c3|(simp at c3 ⊢;omega)
  obtain rfl:=Option.some.inj H
  go_enter Tryz.func15,Tryz.ntmps15
  go_wp2
  repeat (go_quiet (fail);try go_wp2)
  go_ret
  exact ⟨by first|rfl|(simp;done)|(simp [*];done),by repeat (first|exact Drawn0.refl _|apply Drawn0.step)⟩
end Go.Proofs.YtjlnpdpkobpkiaaGreatDoorPSP
