import Derived.Test.YtjlnpdpkobpkiaaZ2PSQx0
import Derived.Test.YtjlnpdpkobpkiaaZ2PSPx2
import Derived.Test.YtjlnpdpkobpkiaaZ2PSPx4
namespace Go.Proofs.YtjlnpdpkobpkiaaPSP
open Go.RowKit Go.Proofs.YtjlnpdpkobpkiaaW.PrintWords Go.Proofs.YtjlnpdpkobpkiaaW.PrintLast Go.Proofs.YtjlnpdpkobpkiaaW.PrintMore
attribute [local go_sem] max2_int min2_int max_two min_two max_three min_three max_four min_four   -- for this text's walks alone
set_option linter.unusedVariables false
set_option linter.unusedSimpArgs false
def ergolaw16_same.l0 : Nat → List Int → List Int → Int → Int → Option (Bool)
 | 0, _, _, _, _ => none
 | k + 1, x0, x1, x12, x13 => if x13 < x12 then (if 0 ≤ x13 then (if x13 < (x0.length : Int) then (if x13 < (x1.length : Int) then (if (rd x0 x13) = (rd x1 x13) then (ergolaw16_same.l0 k x0 x1 x12 (wrap64 (x13 + 1))) else (some false)) else (none)) else (none)) else (none)) else (some true)
def ergolaw16_same.f (k : Nat) (l0 : List Int) (l1 : List Int) : Option (Bool) := if (l0.length : Int) = (l1.length : Int) then (ergolaw16_same.l0 k l0 l1 (l0.length : Int) 0) else (some false)
set_option maxHeartbeats 8000000 in
set_option maxRecDepth 100000 in
theorem ergolaw16_same.calls (k : Nat) (A0 : Option Addr) (c0 : Nat) (l0 : List Int) (A1 : Option Addr) (c1 : Nat) (l1 : List Int) (r : Bool) (w : World) (hr0 : Kd.C (Kd.int .i64) w A0 l0.length l0) (hc0 : l0.length ≤ c0) (hr1 : Kd.C (Kd.int .i64) w A1 l1.length l1) (hc1 : l1.length ≤ c1) (h : ergolaw16_same.f k l0 l1 = some r) :
  Calls Try.prog 37 #[.slice A0 l0.length c0, .slice A1 l1.length c1] w fun e w' => e = .returned (.bool r) ∧ Drawn0 w w' := by
 have HR0 := aK_ hr0
 have HC0 := aK_ hc0
 clear hr0 hc0
 have HR1 := aK_ hr1
 have HC1 := aK_ hc1
 clear hr1 hc1
 have H : (if (l0.length : Int) = (l1.length : Int) then (ergolaw16_same.l0 k l0 l1 (l0.length : Int) 0) else (some false)) = some r := h
 clear h
 by_cases c3 : (l0.length : Int) = (l1.length : Int)
 ·rw [if_pos c3] at H
  have c3b0 : ((l0.length : Int) == (l1.length : Int)) = true := beq_iff_eq.mpr c3
  have c3b1 : ((l0.length : Int) != (l1.length : Int)) = false := bne_eq_false_iff_eq.mpr c3
  have c3b2 : (l0.length == l1.length) = true := by first | simpa using c3 | (simp at c3 ⊢; omega)
  clear c3
  have H' := aK_ H
  clear H
  go_enter Try.func37, Try.ntmps37
  go_wp2
  repeat (go_quiet (fail); try go_wp2)
  go_loopg [13] k (fun kq v13 w' => ∃ (x13_1 : Int), v13 = .int .i64 x13_1 ∧ Aside0 (ergolaw16_same.l0 kq l0 l1 (l0.length : Int) x13_1 = some r) ∧ Aside0 (kq ≤ k) ∧ Drawn0 w w')
  case atStart => exact ⟨(0), (by first | rfl | (simp; done) | (simp [*]; done)), H', ⟨Nat.le_refl _⟩, by repeat (first | exact Drawn0.refl _ | apply Drawn0.step)⟩
  case round =>
   clear H'
   try clear c1
   try clear p2
   try clear c3
   try clear c3b0
   try clear c3b1
   try clear c3b2
   obtain ⟨x13_1, rfl, HA, HK1, ⟨m1, rfl⟩⟩ := hrel
   cases gk with
   | zero => exact absurd HA.out (by simp [ergolaw16_same.l0])
   | succ k1 =>
    have H := HA.out
    clear HA
    simp only [ergolaw16_same.l0] at H
    by_cases c4 : x13_1 < (l0.length : Int)
    ·rw [if_pos c4] at H
     have c4b0 : decide (x13_1 < (l0.length : Int)) = true := decide_eq_true c4
     clear c4
     by_cases c5 : 0 ≤ x13_1
     ·rw [if_pos c5] at H
      have c5b0 : decide (0 ≤ x13_1) = true := decide_eq_true c5
      clear c5
      by_cases c6 : x13_1 < (l0.length : Int)
      ·rw [if_pos c6] at H
       have c6b0 : decide (x13_1 < (l0.length : Int)) = true := decide_eq_true c6
       clear c6
       by_cases c7 : x13_1 < (l1.length : Int)
       ·rw [if_pos c7] at H
        have c7b0 : decide (x13_1 < (l1.length : Int)) = true := decide_eq_true c7
        clear c7
        by_cases c8 : (rd l0 x13_1) = (rd l1 x13_1)
        ·rw [if_pos c8] at H
         have c8b0 : ((rd l0 x13_1) == (rd l1 x13_1)) = true := beq_iff_eq.mpr c8
         have c8b1 : ((rd l0 x13_1) != (rd l1 x13_1)) = false := bne_eq_false_iff_eq.mpr c8
         clear c8
         have H' := aK_ H
         clear H
         have p225 : 0 ≤ (x13_1 : Int) := of_decide_eq_true (by first | (with_reducible assumption) | assumption)
         have q225 : x13_1 < (l0.length : Int) := of_decide_eq_true (by first | (with_reducible assumption) | assumption)
         obtain ⟨ad225, e225, hx225_0⟩ := Kd.at_int HR0.out x13_1 p225 q225
         cases e225
         replace p225 := eq_true p225
         replace q225 := eq_true q225
         have p226 : 0 ≤ (x13_1 : Int) := of_decide_eq_true (by first | (with_reducible assumption) | assumption)
         have q226 : x13_1 < (l1.length : Int) := of_decide_eq_true (by first | (with_reducible assumption) | assumption)
         obtain ⟨ad226, e226, hx226_0⟩ := Kd.at_int HR1.out x13_1 p226 q226
         cases e226
         replace p226 := eq_true p226
         replace q226 := eq_true q226
         go_wp2
         repeat (go_quiet (fail); try go_wp2)
         go_roundg k1
         case measure => have := HK1.out; omega
         case rel => exact ⟨(wrap64 (x13_1 + 1)), (by first | rfl | (simp; done) | (simp [*]; done)), H', ⟨by have := HK1.out; omega⟩, by repeat (first | exact Drawn0.refl _ | apply Drawn0.step)⟩
        ·rw [if_neg c8] at H
         have c8b0 : ((rd l0 x13_1) == (rd l1 x13_1)) = false := beq_eq_false_iff_ne.mpr c8
         have c8b1 : ((rd l0 x13_1) != (rd l1 x13_1)) = true := bne_iff_ne.mpr c8
         obtain rfl := Option.some.inj H
         have p225 : 0 ≤ (x13_1 : Int) := of_decide_eq_true (by first | (with_reducible assumption) | assumption)
         have q225 : x13_1 < (l0.length : Int) := of_decide_eq_true (by first | (with_reducible assumption) | assumption)
         obtain ⟨ad225, e225, hx225_0⟩ := Kd.at_int HR0.out x13_1 p225 q225
         cases e225
         replace p225 := eq_true p225
         replace q225 := eq_true q225
         have p226 : 0 ≤ (x13_1 : Int) := of_decide_eq_true (by first | (with_reducible assumption) | assumption)
         have q226 : x13_1 < (l1.length : Int) := of_decide_eq_true (by first | (with_reducible assumption) | assumption)
         obtain ⟨ad226, e226, hx226_0⟩ := Kd.at_int HR1.out x13_1 p226 q226
         cases e226
         replace p226 := eq_true p226
         replace q226 := eq_true q226
         go_wp2
         repeat (go_quiet (fail); try go_wp2)
         go_ret
         exact ⟨by first | rfl | (simp; done) | (simp [*]; done), by repeat (first | exact Drawn0.refl _ | apply Drawn0.step)⟩
       ·rw [if_neg c7] at H
        exact absurd H (by simp)
      ·rw [if_neg c6] at H
       exact absurd H (by simp)
     ·rw [if_neg c5] at H
      exact absurd H (by simp)
    ·rw [if_neg c4] at H
     have c4b0 : decide (x13_1 < (l0.length : Int)) = false := decide_eq_false c4
     clear c4
     obtain rfl := Option.some.inj H
     go_wp2
     repeat (go_quiet (fail); try go_wp2)
     go_ret
     exact ⟨by first | rfl | (simp; done) | (simp [*]; done), by repeat (first | exact Drawn0.refl _ | apply Drawn0.step)⟩
 ·rw [if_neg c3] at H
  have c3b0 : ((l0.length : Int) == (l1.length : Int)) = false := beq_eq_false_iff_ne.mpr c3
  have c3b1 : ((l0.length : Int) != (l1.length : Int)) = true := bne_iff_ne.mpr c3
  have c3b2 : (l0.length == l1.length) = false := by first | simpa using c3 | (simp at c3 ⊢; omega)
  obtain rfl := Option.some.inj H
  go_enter Try.func37, Try.ntmps37
  go_wp2
  repeat (go_quiet (fail); try go_wp2)
  go_ret
  exact ⟨by first | rfl | (simp; done) | (simp [*]; done), by repeat (first | exact Drawn0.refl _ | apply Drawn0.step)⟩
mutual
def ergolaw13_E_Count.l0 : Nat → Int → Int → Int → Int → Int → Int → Int → List (S74) → Option (Int)
 | 0, _, _, _, _, _, _, _, _ => none
 | k + 1, x1, x5, x6, x228000, x228001, x228002, x228003, x228004 => if x6 < (x228004.length : Int) then (if x6 < 2 then (if x5 < 100 then (if 0 ≤ x6 then ((ergolaw13_E_Count.f k ((rd_T74 x228004 x6).f0.f0) ((rd_T74 x228004 x6).f0.f1) ((rd_T74 x228004 x6).f0.f2) ((rd_T74 x228004 x6).f1) ((rd_T74 x228004 x6).f2) (wrap64 (x1 + 1))).bind fun t229 => (ergolaw13_E_Count.l0 k x1 (wrap64 (x5 + t229)) (wrap64 (x6 + 1)) x228000 x228001 x228002 x228003 x228004)) else (none)) else (some x5)) else (some x5)) else (some x5)
def ergolaw13_E_Count.f : Nat → Int → Int → Int → Int → List (S74) → Int → Option (Int)
 | 0, _, _, _, _, _, _ => none
 | k + 1, a0_0, a0_1, a0_2, a0_3, l0_4, a1 => if a1 > 6 then (some 100) else (ergolaw13_E_Count.l0 k a1 1 0 a0_0 a0_1 a0_2 a0_3 l0_4)
end
set_option maxHeartbeats 8000000 in
set_option maxRecDepth 100000 in
theorem ergolaw13_E_Count.calls (k : Nat) : ∀ (a0_0 : Int) (a0_1 : Int) (a0_2 : Int) (a0_3 : Int) (A0_4 : Option Addr) (c0_4 : Nat) (l0_4 : List (S74)) (a1 : Int) (r : Int) (w : World) (hr0_4 : Kd.C k74 w A0_4 l0_4.length l0_4) (hc0_4 : l0_4.length ≤ c0_4) (h : ergolaw13_E_Count.f k a0_0 a0_1 a0_2 a0_3 l0_4 a1 = some r),
  Calls Try.prog 38 #[.agg #[.int .i64 a0_0, .int .i64 a0_1, .int .i64 a0_2, .int .i64 a0_3, .slice A0_4 l0_4.length c0_4], .int .i64 a1] w fun e w' => e = .returned (.int .i64 r) ∧ Below w.heap.size w w' := by
 induction k using Nat.strongRecOn with
 | _ k ih =>
 intro a0_0 a0_1 a0_2 a0_3 A0_4 c0_4 l0_4 a1 r w hr0_4 hc0_4 h
 cases k with
 | zero => exact absurd h (by simp [ergolaw13_E_Count.f])
 | succ k =>
 simp only [ergolaw13_E_Count.f] at h
 have hu74 := Try.underlying74
 have HR0_4 := aK_ hr0_4
 have HC0_4 := aK_ hc0_4
 clear hr0_4 hc0_4
 have HB := aK_ (Below.refl w.heap.size w)
 have H : (if a1 > 6 then (some 100) else (ergolaw13_E_Count.l0 k a1 1 0 a0_0 a0_1 a0_2 a0_3 l0_4)) = some r := h
 clear h
 by_cases c3 : a1 > 6
 ·rw [if_pos c3] at H
  have c3b0 : decide (6 < a1) = true := decide_eq_true c3
  clear c3
  obtain rfl := Option.some.inj H
  go_enter Try.func38, Try.ntmps38
  go_wp2_with (first | ((with_reducible refine gate_dst (N := 2) rfl ?_); refine box_event ?hg (N := 2) ?hd (cs := #[.int .i64 a0_0, .int .i64 a0_1, .int .i64 a0_2, .int .i64 a0_3, .slice A0_4 l0_4.length c0_4]) (t := 74) ?hr ?_; (case hd => rfl); (case hg => rfl); (case hr => first | (go_simp; done) | (go_simp; rfl)); intro gb227 hg w4 hbox hb; have n0_ := aK_ (lT_ (lB0_ HB.out) hb); have n1_ := aK_ (hbox); have n2_ := aK_ ((by rw [hg]; exact (lZ_ (lB0_ HB.out)) : w.heap.size ≤ gb227)); have n3_ := aK_ ((by rw [hg]; exact (lZ_ (lB0_ HB.out)) : w.heap.size ≤ gb227)); clear HB; have HB := n0_; have BK227 := n1_; have GW227 := n2_; have GE227 := n3_; clear n0_ n1_ n2_ n3_; clear hb hbox hg))
  go_ret
  exact ⟨by first | rfl | (simp [errW_none, errW_some] <;> rfl) | (simp [*, errW_none, errW_some] <;> rfl), (lB1_ HB.out GE227.out)⟩
 ·rw [if_neg c3] at H
  have c3b0 : decide (6 < a1) = false := decide_eq_false c3
  clear c3
  have H' := aK_ H
  clear H
  go_enter Try.func38, Try.ntmps38
  go_wp2_with (first | ((with_reducible refine gate_dst (N := 2) rfl ?_); refine box_event ?hg (N := 2) ?hd (cs := #[.int .i64 a0_0, .int .i64 a0_1, .int .i64 a0_2, .int .i64 a0_3, .slice A0_4 l0_4.length c0_4]) (t := 74) ?hr ?_; (case hd => rfl); (case hg => rfl); (case hr => first | (go_simp; done) | (go_simp; rfl)); intro gb227 hg w5 hbox hb; have n0_ := aK_ (lT_ (lB0_ HB.out) hb); have n1_ := aK_ (hbox); have n2_ := aK_ ((by rw [hg]; exact (lZ_ (lB0_ HB.out)) : w.heap.size ≤ gb227)); have n3_ := aK_ ((by rw [hg]; exact (lZ_ (lB0_ HB.out)) : w.heap.size ≤ gb227)); clear HB; have HB := n0_; have BK227 := n1_; have GW227 := n2_; have GE227 := n3_; clear n0_ n1_ n2_ n3_; clear hb hbox hg))
  go_loopg [5, 6] k (fun kq v5 v6 w' => ∃ (x5_1 : Int) (x6_1 : Int), v5 = .int .i64 x5_1 ∧ v6 = .int .i64 x6_1 ∧ Aside0 (ergolaw13_E_Count.l0 kq a1 x5_1 x6_1 a0_0 a0_1 a0_2 a0_3 l0_4 = some r) ∧ Aside0 (kq ≤ k) ∧ Aside0 (w'.heap[gb227]? = some (.cells #[.int .i64 a0_0, .int .i64 a0_1, .int .i64 a0_2, .int .i64 a0_3, (.slice A0_4 l0_4.length c0_4)] 74 (0, 0))) ∧ Aside0 (Below w.heap.size w w'))
  case atStart => exact ⟨(1), (0), (by first | rfl | (simp; done) | (simp [*]; done)), (by first | rfl | (simp; done) | (simp [*]; done)), H', ⟨Nat.le_refl _⟩, ⟨by (with_reducible repeat (first | refine bDN ?_ _ | refine bD ?_ | refine bA ?_ _)); exact BK227.out⟩, ⟨(lB1_ HB.out GE227.out)⟩⟩
  case round =>
   clear H'
   try clear p2
   try clear c3
   try clear c3b0
   obtain ⟨x5_1, x6_1, rfl, rfl, HA, HK1, BK227, HB⟩ := hrel
   cases gk with
   | zero => exact absurd HA.out (by simp [ergolaw13_E_Count.l0])
   | succ k1 =>
    have H := HA.out
    clear HA
    simp only [ergolaw13_E_Count.l0] at H
    by_cases c6 : x6_1 < (l0_4.length : Int)
    ·rw [if_pos c6] at H
     have c6b0 : decide (x6_1 < (l0_4.length : Int)) = true := decide_eq_true c6
     clear c6
     by_cases c7 : x6_1 < 2
     ·rw [if_pos c7] at H
      have c7b0 : decide (x6_1 < 2) = true := decide_eq_true c7
      clear c7
      by_cases c8 : x5_1 < 100
      ·rw [if_pos c8] at H
       have c8b0 : decide (x5_1 < 100) = true := decide_eq_true c8
       clear c8
       by_cases c9 : 0 ≤ x6_1
       ·rw [if_pos c9] at H
        have c9b0 : decide (0 ≤ x6_1) = true := decide_eq_true c9
        clear c9
        replace H := Option.bind_eq_some_iff.mp H
        obtain ⟨t229, A100, H⟩ := H
        replace H : (ergolaw13_E_Count.l0 k1 a1 (wrap64 (x5_1 + t229)) (wrap64 (x6_1 + 1)) a0_0 a0_1 a0_2 a0_3 l0_4) = some r := H
        have A10 := aK_ A100
        clear A100
        have H' := aK_ H
        clear H
        obtain ⟨⟨hcz11_0, hcz11_1, hcz11_2, hcz11_3, hcz11_4⟩, hfz11_0, hfz11_1, hfz11_2, hfz11_3, hfz11_4⟩ := c5_ BK227.out
        have p228 : 0 ≤ (x6_1 : Int) := of_decide_eq_true (by first | (with_reducible assumption) | assumption)
        have q228 : x6_1 < (l0_4.length : Int) := of_decide_eq_true (by first | (with_reducible assumption) | assumption)
        obtain ⟨ad228, A228_4, c228_4, e228, hx228_0, hx228_1, hx228_2, hx228_3, hx228_4, hl228_4, hi228_4⟩ := at_T74 HR0_4.out x6_1 p228 q228
        cases e228
        replace hx228_0 := (HB.out.cell (wb_ w _ hx228_0)).trans hx228_0
        replace hx228_1 := (HB.out.cell (wb_ w _ hx228_1)).trans hx228_1
        replace hx228_2 := (HB.out.cell (wb_ w _ hx228_2)).trans hx228_2
        replace hx228_3 := (HB.out.cell (wb_ w _ hx228_3)).trans hx228_3
        replace hx228_4 := (HB.out.cell (wb_ w _ hx228_4)).trans hx228_4
        have HR228_4 := aK_ hi228_4
        have HC228_4 := aK_ hl228_4
        clear hi228_4 hl228_4
        replace p228 := eq_true p228
        replace q228 := eq_true q228
        go_wp2_with (first | ((with_reducible refine gate_callee (f := 38) rfl ?_); refine goesL_ (some 32) rfl rfl Try.func38 (by kernel_rfl) rfl #[.agg #[.int .i64 ((rd_T74 l0_4 x6_1).f0.f0), .int .i64 ((rd_T74 l0_4 x6_1).f0.f1), .int .i64 ((rd_T74 l0_4 x6_1).f0.f2), .int .i64 ((rd_T74 l0_4 x6_1).f1), .slice A228_4 ((rd_T74 l0_4 x6_1).f2).length c228_4], .int .i64 (wrap64 (a1 + 1))] rfl (by (try simp only [List.map_toArray, List.map_cons, List.map_nil]); first | done | rfl | (simp only [List.length_drop, List.length_take]; rfl)) ?_; (with_reducible refine (ih k1 (by have := HK1.out; omega) ((rd_T74 l0_4 x6_1).f0.f0) ((rd_T74 l0_4 x6_1).f0.f1) ((rd_T74 l0_4 x6_1).f0.f2) ((rd_T74 l0_4 x6_1).f1) _ _ ((rd_T74 l0_4 x6_1).f2) (wrap64 (a1 + 1)) t229 _ ?side1 ?side2 A10.out).mono ?_); (case side1 => repeat (first | exact (Kd.C_below HR228_4.out HB.out) | (with_reducible refine Kd.C_alloc ?_ _) | (with_reducible refine Kd.C_drewN ?_ _) | (with_reducible refine Kd.C_drew ?_))); (case side2 => exact HC228_4.out); rintro e w12 ⟨rfl, hb⟩; refine ⟨_, rfl, ?_⟩; have n0_ := aK_ (bB (bK_ BK227.out) hb); have n1_ := aK_ (lT_ (lB1_ HB.out GE227.out) hb); clear BK227; clear HB; have BK227 := n0_; have HB := n1_; clear n0_ n1_; (try clear hb); (try clear hb2); (try clear hk); (try clear hi)))
        go_roundg k1
        case measure => have := HK1.out; omega
        case rel => exact ⟨(wrap64 (x5_1 + t229)), (wrap64 (x6_1 + 1)), (by first | rfl | (simp; done) | (simp [*]; done)), (by first | rfl | (simp; done) | (simp [*]; done)), H', ⟨by have := HK1.out; omega⟩, ⟨by (with_reducible repeat (first | refine bDN ?_ _ | refine bD ?_ | refine bA ?_ _)); exact BK227.out⟩, ⟨(lB1_ HB.out GE227.out)⟩⟩
       ·rw [if_neg c9] at H
        exact absurd H (by simp)
      ·rw [if_neg c8] at H
       have c8b0 : decide (x5_1 < 100) = false := decide_eq_false c8
       clear c8
       obtain rfl := Option.some.inj H
       obtain ⟨⟨hcz13_0, hcz13_1, hcz13_2, hcz13_3, hcz13_4⟩, hfz13_0, hfz13_1, hfz13_2, hfz13_3, hfz13_4⟩ := c5_ BK227.out
       go_wp2
       go_ret
       exact ⟨by first | rfl | (simp [errW_none, errW_some] <;> rfl) | (simp [*, errW_none, errW_some] <;> rfl), (lB1_ HB.out GE227.out)⟩
     ·rw [if_neg c7] at H
      have c7b0 : decide (x6_1 < 2) = false := decide_eq_false c7
      clear c7
      obtain rfl := Option.some.inj H
      obtain ⟨⟨hcz14_0, hcz14_1, hcz14_2, hcz14_3, hcz14_4⟩, hfz14_0, hfz14_1, hfz14_2, hfz14_3, hfz14_4⟩ := c5_ BK227.out
      go_wp2
      go_ret
      exact ⟨by first | rfl | (simp [errW_none, errW_some] <;> rfl) | (simp [*, errW_none, errW_some] <;> rfl), (lB1_ HB.out GE227.out)⟩
    ·rw [if_neg c6] at H
     have c6b0 : decide (x6_1 < (l0_4.length : Int)) = false := decide_eq_false c6
     clear c6
     obtain rfl := Option.some.inj H
     obtain ⟨⟨hcz15_0, hcz15_1, hcz15_2, hcz15_3, hcz15_4⟩, hfz15_0, hfz15_1, hfz15_2, hfz15_3, hfz15_4⟩ := c5_ BK227.out
     go_wp2
     go_ret
     exact ⟨by first | rfl | (simp [errW_none, errW_some] <;> rfl) | (simp [*, errW_none, errW_some] <;> rfl), (lB1_ HB.out GE227.out)⟩
mutual
def ergolaw13_Few.l0 : Nat → List (S46) → Int → Int → Option (Bool)
 | 0, _, _, _ => none
 | k + 1, x10, x11, x12 => if x12 < x11 then (if 0 ≤ x12 then (if x12 < (x10.length : Int) then (if (((rd_T46 x10 x12).f0.f1).length : Int) > 6 then (ergolaw13_Few.j1 k x10 x11 x12 true ((rd_T46 x10 x12).f0.f0) ((rd_T46 x10 x12).f0.f1) ((rd_T46 x10 x12).f1) ((rd_T46 x10 x12).f2)) else (ergolaw13_Few.j1 k x10 x11 x12 (decide ((((rd_T46 x10 x12).f2).length : Int) > 8)) ((rd_T46 x10 x12).f0.f0) ((rd_T46 x10 x12).f0.f1) ((rd_T46 x10 x12).f1) ((rd_T46 x10 x12).f2))) else (none)) else (none)) else (some true)
def ergolaw13_Few.j1 : Nat → List (S46) → Int → Int → Bool → Int → List (S71) → Int → List (S76) → Option (Bool)
 | 0, _, _, _, _, _, _, _, _ => none
 | k + 1, x10, x11, x12, x26, x232000, x232001, x232002, x232003 => if x26 = true then (some false) else (ergolaw13_Few.l1 k x10 x11 x12 x232003 (x232003.length : Int) 0)
def ergolaw13_Few.l1 : Nat → List (S46) → Int → Int → List (S76) → Int → Int → Option (Bool)
 | 0, _, _, _, _, _, _ => none
 | k + 1, x10, x11, x12, x28, x29, x30 => if x30 < x29 then (if 0 ≤ x30 then (if x30 < (x28.length : Int) then (if (((rd_T76 x28 x30).f2.f1).length : Int) > 6 then (some false) else ((ergolaw13_E_Count.f k ((rd_T76 x28 x30).f5.f0.f0) ((rd_T76 x28 x30).f5.f0.f1) ((rd_T76 x28 x30).f5.f0.f2) ((rd_T76 x28 x30).f5.f1) ((rd_T76 x28 x30).f5.f2) 0).bind fun t234 => (if t234 > 40 then (some false) else (ergolaw13_Few.l1 k x10 x11 x12 x28 x29 (wrap64 (x30 + 1)))))) else (none)) else (none)) else (ergolaw13_Few.l0 k x10 x11 (wrap64 (x12 + 1)))
end
def ergolaw13_Few.f (k : Nat) (l0 : List (S46)) : Option (Bool) := if (l0.length : Int) > 12 then (some false) else (ergolaw13_Few.l0 k l0 (l0.length : Int) 0)
set_option maxHeartbeats 8000000 in
set_option maxRecDepth 100000 in
theorem ergolaw13_Few.calls (k : Nat) (A0 : Option Addr) (c0 : Nat) (l0 : List (S46)) (r : Bool) (w : World) (hr0 : Kd.C k46 w A0 l0.length l0) (hc0 : l0.length ≤ c0) (h : ergolaw13_Few.f k l0 = some r) :
  Calls Try.prog 12 #[.slice A0 l0.length c0] w fun e w' => e = .returned (.bool r) ∧ Below w.heap.size w w' := by
 have hu46 := Try.underlying46
 have hu76 := Try.underlying76
 have hu74 := Try.underlying74
 have HR0 := aK_ hr0
 have HC0 := aK_ hc0
 clear hr0 hc0
 have HB := aK_ (Below.refl w.heap.size w)
 have H : (if (l0.length : Int) > 12 then (some false) else (ergolaw13_Few.l0 k l0 (l0.length : Int) 0)) = some r := h
 clear h
 by_cases c2 : (l0.length : Int) > 12
 ·rw [if_pos c2] at H
  have c2b0 : decide (12 < (l0.length : Int)) = true := decide_eq_true c2
  have c2b1 : decide (12 < l0.length) = true := decide_eq_true (by omega)
  clear c2
  obtain rfl := Option.some.inj H
  go_enter Try.func12, Try.ntmps12
  go_wp2
  go_ret
  exact ⟨by first | rfl | (simp [errW_none, errW_some] <;> rfl) | (simp [*, errW_none, errW_some] <;> rfl), (lB0_ HB.out)⟩
 ·rw [if_neg c2] at H
  have c2b0 : decide (12 < (l0.length : Int)) = false := decide_eq_false c2
  have c2b1 : decide (12 < l0.length) = false := decide_eq_false (by omega)
  clear c2
  have H' := aK_ H
  clear H
  go_enter Try.func12, Try.ntmps12
  go_wp2
  go_loopg [12] k (fun kq v12 w' => ∃ (x12_1 : Int), v12 = .int .i64 x12_1 ∧ Aside0 (ergolaw13_Few.l0 kq l0 (l0.length : Int) x12_1 = some r) ∧ Aside0 (kq ≤ k) ∧ Aside0 (Below w.heap.size w w'))
  case atStart => exact ⟨(0), (by first | rfl | (simp; done) | (simp [*]; done)), H', ⟨Nat.le_refl _⟩, ⟨(lB0_ HB.out)⟩⟩
  case round =>
   clear H'
   try clear c1
   try clear c2
   try clear c2b0
   try clear c2b1
   try clear p2
   obtain ⟨x12_1, rfl, HA, HK1, HB⟩ := hrel
   cases gk with
   | zero => exact absurd HA.out (by simp [ergolaw13_Few.l0])
   | succ k1 =>
    have H := HA.out
    clear HA
    simp only [ergolaw13_Few.l0] at H
    by_cases c3 : x12_1 < (l0.length : Int)
    ·rw [if_pos c3] at H
     have c3b0 : decide (x12_1 < (l0.length : Int)) = true := decide_eq_true c3
     clear c3
     by_cases c4 : 0 ≤ x12_1
     ·rw [if_pos c4] at H
      have c4b0 : decide (0 ≤ x12_1) = true := decide_eq_true c4
      clear c4
      by_cases c5 : x12_1 < (l0.length : Int)
      ·rw [if_pos c5] at H
       have c5b0 : decide (x12_1 < (l0.length : Int)) = true := decide_eq_true c5
       clear c5
       have HC6 := aK_ H
       clear H
       have p230 : 0 ≤ (x12_1 : Int) := of_decide_eq_true (by first | (with_reducible assumption) | assumption)
       have q230 : x12_1 < (l0.length : Int) := of_decide_eq_true (by first | (with_reducible assumption) | assumption)
       obtain ⟨ad230, A230_1, c230_1, A230_3, c230_3, e230, hx230_0, hx230_1, hx230_2, hx230_3, hl230_1, hi230_1, hl230_3, hi230_3⟩ := at_T46 HR0.out x12_1 p230 q230
       cases e230
       replace hx230_0 := (HB.out.cell (wb_ w _ hx230_0)).trans hx230_0
       replace hx230_1 := (HB.out.cell (wb_ w _ hx230_1)).trans hx230_1
       replace hx230_2 := (HB.out.cell (wb_ w _ hx230_2)).trans hx230_2
       replace hx230_3 := (HB.out.cell (wb_ w _ hx230_3)).trans hx230_3
       have HR230_1 := aK_ hi230_1
       have HC230_1 := aK_ hl230_1
       clear hi230_1 hl230_1
       have HR230_3 := aK_ hi230_3
       have HC230_3 := aK_ hl230_3
       clear hi230_3 hl230_3
       replace p230 := eq_true p230
       replace q230 := eq_true q230
       go_upto_region 6 with (first | ((with_reducible refine gate_dst (N := 4) rfl ?_); (try (refine gate_guard (by rfl) ?_; dsimp only)); refine box_event ?hg (N := 4) ?hd (cs := #[.int .i64 0, .slice none 0 0, .int .i64 0, .slice none 0 0]) (t := 46) ?hr ?_; (case hd => rfl); (case hg => rfl); (case hr => first | (go_simp; done) | (go_simp; rfl)); intro gb231 hg w7 hbox hb; have n0_ := aK_ (lT_ (lB0_ HB.out) hb); have n1_ := aK_ (hbox); have n2_ := aK_ ((by rw [hg]; exact (lZ_ (lB0_ HB.out)) : w.heap.size ≤ gb231)); have n3_ := aK_ ((by rw [hg]; exact (lZ_ (lB0_ HB.out)) : w.heap.size ≤ gb231)); clear HB; have HB := n0_; have BK231 := n1_; have GW231 := n2_; have GE231 := n3_; clear n0_ n1_ n2_ n3_; clear hb hbox hg; obtain ⟨⟨hcz8_0, hcz8_1, hcz8_2, hcz8_3⟩, hfz8_0, hfz8_1, hfz8_2, hfz8_3⟩ := c4_ BK231.out))
       (try simp only [Act.put, sA_, sZ_, sS_])
       go_cut [26] (fun v26 wc => ∃ (kq : Nat) (x26_5 : Bool), v26 = .bool x26_5 ∧ Aside0 (ergolaw13_Few.j1 kq l0 (l0.length : Int) x12_1 x26_5 ((rd_T46 l0 x12_1).f0.f0) ((rd_T46 l0 x12_1).f0.f1) ((rd_T46 l0 x12_1).f1) ((rd_T46 l0 x12_1).f2) = some r) ∧ Aside0 (kq ≤ k1) ∧ Aside0 (wc.heap[gb231]? = some (.cells #[.int .i64 ((rd_T46 l0 x12_1).f0.f0), (.slice A230_1 ((rd_T46 l0 x12_1).f0.f1).length c230_1), .int .i64 ((rd_T46 l0 x12_1).f1), (.slice A230_3 ((rd_T46 l0 x12_1).f2).length c230_3)] 46 (0, 0))) ∧ Aside0 (Below w.heap.size w wc))
       case first =>
        have H := HC6.out
        clear HC6
        by_cases c9 : (((rd_T46 l0 x12_1).f0.f1).length : Int) > 6
        ·rw [if_pos c9] at H
         have c9b0 : decide (6 < (((rd_T46 l0 x12_1).f0.f1).length : Int)) = true := decide_eq_true c9
         have c9b1 : decide (6 < ((rd_T46 l0 x12_1).f0.f1).length) = true := decide_eq_true (by omega)
         clear c9
         (first | rw [c9b0] | (simp only [i64_w, i32_w]; rw [c9b0]) | skip)
         have H' := aK_ H
         clear H
         obtain ⟨⟨hcz10_0, hcz10_1, hcz10_2, hcz10_3⟩, hfz10_0, hfz10_1, hfz10_2, hfz10_3⟩ := c4_ BK231.out
         go_wp2
         go_meet
         case rel => exact ⟨_, (true), (by first | rfl | (simp; done) | (simp [*]; done)), H', ⟨by have := HK1.out; first | omega | exact Nat.le_refl _⟩, ⟨(by apply eC_; (with_reducible repeat (first | refine bDN ?_ _ | refine bD ?_ | refine bA ?_ _)); apply b2_; (with_reducible repeat (first | refine bDN ?_ _ | refine bD ?_ | refine bA ?_ _)); apply b2_; (with_reducible repeat (first | refine bDN ?_ _ | refine bD ?_ | refine bA ?_ _)); apply b2_; (with_reducible repeat (first | refine bDN ?_ _ | refine bD ?_ | refine bA ?_ _)); apply b2_; (with_reducible repeat (first | refine bDN ?_ _ | refine bD ?_ | refine bA ?_ _)); exact BK231.out; kernel_rfl)⟩, ⟨(lB1_ HB.out GE231.out)⟩⟩
        ·rw [if_neg c9] at H
         have c9b0 : decide (6 < (((rd_T46 l0 x12_1).f0.f1).length : Int)) = false := decide_eq_false c9
         have c9b1 : decide (6 < ((rd_T46 l0 x12_1).f0.f1).length) = false := decide_eq_false (by omega)
         clear c9
         (first | rw [c9b0] | (simp only [i64_w, i32_w]; rw [c9b0]) | skip)
         have H' := aK_ H
         clear H
         obtain ⟨⟨hcz11_0, hcz11_1, hcz11_2, hcz11_3⟩, hfz11_0, hfz11_1, hfz11_2, hfz11_3⟩ := c4_ BK231.out
         go_wp2
         go_meet
         case rel => exact ⟨_, (decide ((((rd_T46 l0 x12_1).f2).length : Int) > 8)), (by first | rfl | (simp; done) | (simp [*]; done)), H', ⟨by have := HK1.out; first | omega | exact Nat.le_refl _⟩, ⟨(by apply eC_; (with_reducible repeat (first | refine bDN ?_ _ | refine bD ?_ | refine bA ?_ _)); apply b2_; (with_reducible repeat (first | refine bDN ?_ _ | refine bD ?_ | refine bA ?_ _)); apply b2_; (with_reducible repeat (first | refine bDN ?_ _ | refine bD ?_ | refine bA ?_ _)); apply b2_; (with_reducible repeat (first | refine bDN ?_ _ | refine bD ?_ | refine bA ?_ _)); apply b2_; (with_reducible repeat (first | refine bDN ?_ _ | refine bD ?_ | refine bA ?_ _)); exact BK231.out; kernel_rfl)⟩, ⟨(lB1_ HB.out GE231.out)⟩⟩
       case rest =>
        clear HC6
        try clear c1
        try clear c2
        try clear c2b0
        try clear c2b1
        try clear p2
        try clear q2
        try clear hx2
        try clear c3
        try clear c3b0
        try clear c4
        try clear c4b0
        try clear c5
        try clear c5b0
        try clear c9
        try clear c9b0
        try clear c9b1
        try clear hcz10_0
        try clear hcz10_1
        try clear hcz10_2
        try clear hcz10_3
        try clear hcz11_0
        try clear hcz11_1
        try clear hcz11_2
        try clear hcz11_3
        try clear hcz8_0
        try clear hcz8_1
        try clear hcz8_2
        try clear hcz8_3
        try clear hfz10_0
        try clear hfz10_1
        try clear hfz10_2
        try clear hfz10_3
        try clear hfz11_0
        try clear hfz11_1
        try clear hfz11_2
        try clear hfz11_3
        try clear hfz8_0
        try clear hfz8_1
        try clear hfz8_2
        try clear hfz8_3
        try clear hx230_0
        try clear hx230_1
        try clear hx230_2
        try clear hx230_3
        try clear p2
        try clear p230
        try clear q230
        obtain ⟨kq, x26_5, rfl, HA, HJ5, BK231, HB⟩ := hcut
        cases kq with
        | zero => exact absurd HA.out (by simp [ergolaw13_Few.j1])
        | succ kj5 =>
         have H := HA.out
         clear HA
         simp only [ergolaw13_Few.j1] at H
         by_cases c12 : x26_5 = true
         ·subst c12
          have H1 : (some false) = some r := by rw [if_pos rfl] at H; exact H
          clear H
          have H := H1
          clear H1
          obtain rfl := Option.some.inj H
          go_wp2
          go_ret
          exact ⟨by first | rfl | (simp [errW_none, errW_some] <;> rfl) | (simp [*, errW_none, errW_some] <;> rfl), (lB1_ HB.out GE231.out)⟩
         ·replace c12 := Bool.eq_false_iff.mpr c12
          subst c12
          have H1 : (ergolaw13_Few.l1 kj5 l0 (l0.length : Int) x12_1 ((rd_T46 l0 x12_1).f2) (((rd_T46 l0 x12_1).f2).length : Int) 0) = some r := by rw [if_neg (show ¬ (false = true) by decide)] at H; exact H
          clear H
          have H := H1
          clear H1
          have H' := aK_ H
          clear H
          obtain ⟨⟨hcz13_0, hcz13_1, hcz13_2, hcz13_3⟩, hfz13_0, hfz13_1, hfz13_2, hfz13_3⟩ := c4_ BK231.out
          go_wp2
          go_loopg [30] kj5 (fun kq v30 w' => ∃ (x30_3 : Int), v30 = .int .i64 x30_3 ∧ Aside0 (ergolaw13_Few.l1 kq l0 (l0.length : Int) x12_1 ((rd_T46 l0 x12_1).f2) (((rd_T46 l0 x12_1).f2).length : Int) x30_3 = some r) ∧ Aside0 (kq ≤ kj5) ∧ Aside0 (w'.heap[gb231]? = some (.cells #[.int .i64 ((rd_T46 l0 x12_1).f0.f0), (.slice A230_1 ((rd_T46 l0 x12_1).f0.f1).length c230_1), .int .i64 ((rd_T46 l0 x12_1).f1), (.slice A230_3 ((rd_T46 l0 x12_1).f2).length c230_3)] 46 (0, 0))) ∧ Aside0 (Below w.heap.size w w'))
          case atStart => exact ⟨(0), (by first | rfl | (simp; done) | (simp [*]; done)), H', ⟨Nat.le_refl _⟩, ⟨by (with_reducible repeat (first | refine bDN ?_ _ | refine bD ?_ | refine bA ?_ _)); exact BK231.out⟩, ⟨(lB1_ HB.out GE231.out)⟩⟩
          case round =>
           clear H'
           try clear c1
           try clear c2
           try clear c2b0
           try clear c2b1
           try clear p2
           try clear q2
           try clear hx2
           try clear c3
           try clear c3b0
           try clear c4
           try clear c4b0
           try clear c5
           try clear c5b0
           try clear c9
           try clear c9b0
           try clear c9b1
           try clear c12
           try clear hcz10_0
           try clear hcz10_1
           try clear hcz10_2
           try clear hcz10_3
           try clear hcz11_0
           try clear hcz11_1
           try clear hcz11_2
           try clear hcz11_3
           try clear hcz13_0
           try clear hcz13_1
           try clear hcz13_2
           try clear hcz13_3
           try clear hcz8_0
           try clear hcz8_1
           try clear hcz8_2
           try clear hcz8_3
           try clear hfz10_0
           try clear hfz10_1
           try clear hfz10_2
           try clear hfz10_3
           try clear hfz11_0
           try clear hfz11_1
           try clear hfz11_2
           try clear hfz11_3
           try clear hfz13_0
           try clear hfz13_1
           try clear hfz13_2
           try clear hfz13_3
           try clear hfz8_0
           try clear hfz8_1
           try clear hfz8_2
           try clear hfz8_3
           try clear hx230_0
           try clear hx230_1
           try clear hx230_2
           try clear hx230_3
           try clear p2
           try clear p230
           try clear q2
           try clear q230
           obtain ⟨x30_3, rfl, HA, HK3, BK231, HB⟩ := hrel
           cases gk with
           | zero => exact absurd HA.out (by simp [ergolaw13_Few.l1])
           | succ k3 =>
            have H := HA.out
            clear HA
            simp only [ergolaw13_Few.l1] at H
            by_cases c14 : x30_3 < (((rd_T46 l0 x12_1).f2).length : Int)
            ·rw [if_pos c14] at H
             have c14b0 : decide (x30_3 < (((rd_T46 l0 x12_1).f2).length : Int)) = true := decide_eq_true c14
             clear c14
             by_cases c15 : 0 ≤ x30_3
             ·rw [if_pos c15] at H
              have c15b0 : decide (0 ≤ x30_3) = true := decide_eq_true c15
              clear c15
              by_cases c16 : x30_3 < (((rd_T46 l0 x12_1).f2).length : Int)
              ·rw [if_pos c16] at H
               have c16b0 : decide (x30_3 < (((rd_T46 l0 x12_1).f2).length : Int)) = true := decide_eq_true c16
               clear c16
               by_cases c17 : (((rd_T76 ((rd_T46 l0 x12_1).f2) x30_3).f2.f1).length : Int) > 6
               ·rw [if_pos c17] at H
                have c17b0 : decide (6 < (((rd_T76 ((rd_T46 l0 x12_1).f2) x30_3).f2.f1).length : Int)) = true := decide_eq_true c17
                have c17b1 : decide (6 < ((rd_T76 ((rd_T46 l0 x12_1).f2) x30_3).f2.f1).length) = true := decide_eq_true (by omega)
                clear c17
                obtain rfl := Option.some.inj H
                have p232 : 0 ≤ (x30_3 : Int) := of_decide_eq_true (by first | (with_reducible assumption) | assumption)
                have q232 : x30_3 < (((rd_T46 l0 x12_1).f2).length : Int) := of_decide_eq_true (by first | (with_reducible assumption) | assumption)
                obtain ⟨ad232, A232_3, c232_3, A232_14, c232_14, e232, hx232_0, hx232_1, hx232_2, hx232_3, hx232_4, hx232_5, hx232_6, hx232_7, hx232_8, hx232_9, hx232_10, hx232_11, hx232_12, hx232_13, hx232_14, hl232_3, hi232_3, hl232_14, hi232_14⟩ := at_T76 HR230_3.out x30_3 p232 q232
                cases e232
                replace hx232_0 := (HB.out.cell (wb_ w _ hx232_0)).trans hx232_0
                replace hx232_1 := (HB.out.cell (wb_ w _ hx232_1)).trans hx232_1
                replace hx232_2 := (HB.out.cell (wb_ w _ hx232_2)).trans hx232_2
                replace hx232_3 := (HB.out.cell (wb_ w _ hx232_3)).trans hx232_3
                replace hx232_4 := (HB.out.cell (wb_ w _ hx232_4)).trans hx232_4
                replace hx232_5 := (HB.out.cell (wb_ w _ hx232_5)).trans hx232_5
                replace hx232_6 := (HB.out.cell (wb_ w _ hx232_6)).trans hx232_6
                replace hx232_7 := (HB.out.cell (wb_ w _ hx232_7)).trans hx232_7
                replace hx232_8 := (HB.out.cell (wb_ w _ hx232_8)).trans hx232_8
                replace hx232_9 := (HB.out.cell (wb_ w _ hx232_9)).trans hx232_9
                replace hx232_10 := (HB.out.cell (wb_ w _ hx232_10)).trans hx232_10
                replace hx232_11 := (HB.out.cell (wb_ w _ hx232_11)).trans hx232_11
                replace hx232_12 := (HB.out.cell (wb_ w _ hx232_12)).trans hx232_12
                replace hx232_13 := (HB.out.cell (wb_ w _ hx232_13)).trans hx232_13
                replace hx232_14 := (HB.out.cell (wb_ w _ hx232_14)).trans hx232_14
                have HR232_3 := aK_ hi232_3
                have HC232_3 := aK_ hl232_3
                clear hi232_3 hl232_3
                have HR232_14 := aK_ hi232_14
                have HC232_14 := aK_ hl232_14
                clear hi232_14 hl232_14
                replace p232 := eq_true p232
                replace q232 := eq_true q232
                go_wp2_with (first | ((with_reducible refine gate_dst (N := 6) rfl ?_); (try (refine gate_guard (by rfl) ?_; dsimp only)); refine box_event ?hg (N := 6) ?hd (cs := #[.int .i64 0, .int .i64 0, .int .i64 0, .slice none 0 0, .int .i64 0, .int .i64 0, .int .i64 0, .int .i64 0, .int .i64 0, .int .i64 0, .int .i64 0, .int .i64 0, .int .i64 0, .int .i64 0, .slice none 0 0]) (t := 76) ?hr ?_; (case hd => rfl); (case hg => rfl); (case hr => first | (go_simp; done) | (go_simp; rfl)); intro gb233 hg w18 hbox hb; have n0_ := aK_ (bB (bK_ BK231.out) hb); have n1_ := aK_ (lT_ (lB1_ HB.out GE231.out) hb); have n2_ := aK_ (hbox); have n3_ := aK_ ((by rw [hg]; exact (lZ_ (lB1_ HB.out GE231.out)) : w.heap.size ≤ gb233)); have n4_ := aK_ ((by rw [hg]; exact (lZ_ (lB1_ HB.out GE231.out)) : w.heap.size ≤ gb233)); have n5_ := aK_ ((by rw [hg]; exact Nat.ne_of_lt (blk_lt (g := gb231) (o := .cells #[.int .i64 ((rd_T46 l0 x12_1).f0.f0), .slice A230_1 ((rd_T46 l0 x12_1).f0.f1).length c230_1, .int .i64 ((rd_T46 l0 x12_1).f1), .slice (some ad232) ((rd_T46 l0 x12_1).f2).length c230_3] 46 (0, 0)) (bK_ BK231.out)) : gb231 ≠ gb233)); have n6_ := aK_ ((by rw [hg]; exact Nat.ne_of_gt (blk_lt (g := gb231) (o := .cells #[.int .i64 ((rd_T46 l0 x12_1).f0.f0), .slice A230_1 ((rd_T46 l0 x12_1).f0.f1).length c230_1, .int .i64 ((rd_T46 l0 x12_1).f1), .slice (some ad232) ((rd_T46 l0 x12_1).f2).length c230_3] 46 (0, 0)) (bK_ BK231.out)) : gb233 ≠ gb231)); clear BK231; clear HB; have BK231 := n0_; have HB := n1_; have BK233 := n2_; have GW233 := n3_; have GE233 := n4_; have NB231_233 := n5_; have NB233_231 := n6_; clear n0_ n1_ n2_ n3_ n4_ n5_ n6_; clear hb hbox hg; have hnb19 := NB233_231.out; have hnc19 := NB231_233.out; obtain ⟨⟨hcz20_0, hcz20_1, hcz20_2, hcz20_3, hcz20_4, hcz20_5, hcz20_6, hcz20_7, hcz20_8, hcz20_9, hcz20_10, hcz20_11, hcz20_12, hcz20_13, hcz20_14⟩, hfz20_0, hfz20_1, hfz20_2, hfz20_3, hfz20_4, hfz20_5, hfz20_6, hfz20_7, hfz20_8, hfz20_9, hfz20_10, hfz20_11, hfz20_12, hfz20_13, hfz20_14⟩ := c15_ BK233.out))
                go_ret
                exact ⟨by first | rfl | (simp [errW_none, errW_some] <;> rfl) | (simp [*, errW_none, errW_some] <;> rfl), (lB2_ HB.out GE231.out GE233.out)⟩
               ·rw [if_neg c17] at H
                have c17b0 : decide (6 < (((rd_T76 ((rd_T46 l0 x12_1).f2) x30_3).f2.f1).length : Int)) = false := decide_eq_false c17
                have c17b1 : decide (6 < ((rd_T76 ((rd_T46 l0 x12_1).f2) x30_3).f2.f1).length) = false := decide_eq_false (by omega)
                clear c17
                replace H := Option.bind_eq_some_iff.mp H
                obtain ⟨t234, A210, H⟩ := H
                replace H : (if t234 > 40 then (some false) else (ergolaw13_Few.l1 k3 l0 (l0.length : Int) x12_1 ((rd_T46 l0 x12_1).f2) (((rd_T46 l0 x12_1).f2).length : Int) (wrap64 (x30_3 + 1)))) = some r := H
                have A21 := aK_ A210
                clear A210
                by_cases c22 : t234 > 40
                ·rw [if_pos c22] at H
                 have c22b0 : decide (40 < t234) = true := decide_eq_true c22
                 clear c22
                 obtain rfl := Option.some.inj H
                 have p232 : 0 ≤ (x30_3 : Int) := of_decide_eq_true (by first | (with_reducible assumption) | assumption)
                 have q232 : x30_3 < (((rd_T46 l0 x12_1).f2).length : Int) := of_decide_eq_true (by first | (with_reducible assumption) | assumption)
                 obtain ⟨ad232, A232_3, c232_3, A232_14, c232_14, e232, hx232_0, hx232_1, hx232_2, hx232_3, hx232_4, hx232_5, hx232_6, hx232_7, hx232_8, hx232_9, hx232_10, hx232_11, hx232_12, hx232_13, hx232_14, hl232_3, hi232_3, hl232_14, hi232_14⟩ := at_T76 HR230_3.out x30_3 p232 q232
                 cases e232
                 replace hx232_0 := (HB.out.cell (wb_ w _ hx232_0)).trans hx232_0
                 replace hx232_1 := (HB.out.cell (wb_ w _ hx232_1)).trans hx232_1
                 replace hx232_2 := (HB.out.cell (wb_ w _ hx232_2)).trans hx232_2
                 replace hx232_3 := (HB.out.cell (wb_ w _ hx232_3)).trans hx232_3
                 replace hx232_4 := (HB.out.cell (wb_ w _ hx232_4)).trans hx232_4
                 replace hx232_5 := (HB.out.cell (wb_ w _ hx232_5)).trans hx232_5
                 replace hx232_6 := (HB.out.cell (wb_ w _ hx232_6)).trans hx232_6
                 replace hx232_7 := (HB.out.cell (wb_ w _ hx232_7)).trans hx232_7
                 replace hx232_8 := (HB.out.cell (wb_ w _ hx232_8)).trans hx232_8
                 replace hx232_9 := (HB.out.cell (wb_ w _ hx232_9)).trans hx232_9
                 replace hx232_10 := (HB.out.cell (wb_ w _ hx232_10)).trans hx232_10
                 replace hx232_11 := (HB.out.cell (wb_ w _ hx232_11)).trans hx232_11
                 replace hx232_12 := (HB.out.cell (wb_ w _ hx232_12)).trans hx232_12
                 replace hx232_13 := (HB.out.cell (wb_ w _ hx232_13)).trans hx232_13
                 replace hx232_14 := (HB.out.cell (wb_ w _ hx232_14)).trans hx232_14
                 have HR232_3 := aK_ hi232_3
                 have HC232_3 := aK_ hl232_3
                 clear hi232_3 hl232_3
                 have HR232_14 := aK_ hi232_14
                 have HC232_14 := aK_ hl232_14
                 clear hi232_14 hl232_14
                 replace p232 := eq_true p232
                 replace q232 := eq_true q232
                 go_wp2_with (first | ((with_reducible refine gate_dst (N := 6) rfl ?_); (try (refine gate_guard (by rfl) ?_; dsimp only)); refine box_event ?hg (N := 6) ?hd (cs := #[.int .i64 0, .int .i64 0, .int .i64 0, .slice none 0 0, .int .i64 0, .int .i64 0, .int .i64 0, .int .i64 0, .int .i64 0, .int .i64 0, .int .i64 0, .int .i64 0, .int .i64 0, .int .i64 0, .slice none 0 0]) (t := 76) ?hr ?_; (case hd => rfl); (case hg => rfl); (case hr => first | (go_simp; done) | (go_simp; rfl)); intro gb233 hg w23 hbox hb; have n0_ := aK_ (bB (bK_ BK231.out) hb); have n1_ := aK_ (lT_ (lB1_ HB.out GE231.out) hb); have n2_ := aK_ (hbox); have n3_ := aK_ ((by rw [hg]; exact (lZ_ (lB1_ HB.out GE231.out)) : w.heap.size ≤ gb233)); have n4_ := aK_ ((by rw [hg]; exact (lZ_ (lB1_ HB.out GE231.out)) : w.heap.size ≤ gb233)); have n5_ := aK_ ((by rw [hg]; exact Nat.ne_of_lt (blk_lt (g := gb231) (o := .cells #[.int .i64 ((rd_T46 l0 x12_1).f0.f0), .slice A230_1 ((rd_T46 l0 x12_1).f0.f1).length c230_1, .int .i64 ((rd_T46 l0 x12_1).f1), .slice (some ad232) ((rd_T46 l0 x12_1).f2).length c230_3] 46 (0, 0)) (bK_ BK231.out)) : gb231 ≠ gb233)); have n6_ := aK_ ((by rw [hg]; exact Nat.ne_of_gt (blk_lt (g := gb231) (o := .cells #[.int .i64 ((rd_T46 l0 x12_1).f0.f0), .slice A230_1 ((rd_T46 l0 x12_1).f0.f1).length c230_1, .int .i64 ((rd_T46 l0 x12_1).f1), .slice (some ad232) ((rd_T46 l0 x12_1).f2).length c230_3] 46 (0, 0)) (bK_ BK231.out)) : gb233 ≠ gb231)); clear BK231; clear HB; have BK231 := n0_; have HB := n1_; have BK233 := n2_; have GW233 := n3_; have GE233 := n4_; have NB231_233 := n5_; have NB233_231 := n6_; clear n0_ n1_ n2_ n3_ n4_ n5_ n6_; clear hb hbox hg; have hnb24 := NB233_231.out; have hnc24 := NB231_233.out; obtain ⟨⟨hcz25_0, hcz25_1, hcz25_2, hcz25_3, hcz25_4, hcz25_5, hcz25_6, hcz25_7, hcz25_8, hcz25_9, hcz25_10, hcz25_11, hcz25_12, hcz25_13, hcz25_14⟩, hfz25_0, hfz25_1, hfz25_2, hfz25_3, hfz25_4, hfz25_5, hfz25_6, hfz25_7, hfz25_8, hfz25_9, hfz25_10, hfz25_11, hfz25_12, hfz25_13, hfz25_14⟩ := c15_ BK233.out) | (go_at_call 38; (with_reducible refine (ergolaw13_E_Count.calls k3 ((rd_T76 ((rd_T46 l0 x12_1).f2) x30_3).f5.f0.f0) ((rd_T76 ((rd_T46 l0 x12_1).f2) x30_3).f5.f0.f1) ((rd_T76 ((rd_T46 l0 x12_1).f2) x30_3).f5.f0.f2) ((rd_T76 ((rd_T46 l0 x12_1).f2) x30_3).f5.f1) _ _ ((rd_T76 ((rd_T46 l0 x12_1).f2) x30_3).f5.f2) 0 t234 _ ?side1 ?side2 A21.out).mono ?_); (case side1 => exact Kd.C_below HR232_14.out (lB2_ HB.out GE231.out GE233.out)); (case side2 => exact HC232_14.out); rintro e w26 ⟨rfl, hb⟩; have n0_ := aK_ (bB (g := gb231) (o := .cells #[.int .i64 ((rd_T46 l0 x12_1).f0.f0), .slice A230_1 ((rd_T46 l0 x12_1).f0.f1).length c230_1, .int .i64 ((rd_T46 l0 x12_1).f1), .slice (some ad232) ((rd_T46 l0 x12_1).f2).length c230_3] 46 (0, 0)) (by (with_reducible repeat (first | refine bDN ?_ _ | refine bD ?_ | refine bA ?_ _)); refine blk_far ?_ NB231_233.out _; (with_reducible repeat (first | refine bDN ?_ _ | refine bD ?_ | refine bA ?_ _)); refine blk_far ?_ NB231_233.out _; (with_reducible repeat (first | refine bDN ?_ _ | refine bD ?_ | refine bA ?_ _)); refine blk_far ?_ NB231_233.out _; (with_reducible repeat (first | refine bDN ?_ _ | refine bD ?_ | refine bA ?_ _)); refine blk_far ?_ NB231_233.out _; (with_reducible repeat (first | refine bDN ?_ _ | refine bD ?_ | refine bA ?_ _)); refine blk_far ?_ NB231_233.out _; (with_reducible repeat (first | refine bDN ?_ _ | refine bD ?_ | refine bA ?_ _)); refine blk_far ?_ NB231_233.out _; (with_reducible repeat (first | refine bDN ?_ _ | refine bD ?_ | refine bA ?_ _)); refine blk_far ?_ NB231_233.out _; (with_reducible repeat (first | refine bDN ?_ _ | refine bD ?_ | refine bA ?_ _)); refine blk_far ?_ NB231_233.out _; (with_reducible repeat (first | refine bDN ?_ _ | refine bD ?_ | refine bA ?_ _)); refine blk_far ?_ NB231_233.out _; (with_reducible repeat (first | refine bDN ?_ _ | refine bD ?_ | refine bA ?_ _)); refine blk_far ?_ NB231_233.out _; (with_reducible repeat (first | refine bDN ?_ _ | refine bD ?_ | refine bA ?_ _)); refine blk_far ?_ NB231_233.out _; (with_reducible repeat (first | refine bDN ?_ _ | refine bD ?_ | refine bA ?_ _)); refine blk_far ?_ NB231_233.out _; (with_reducible repeat (first | refine bDN ?_ _ | refine bD ?_ | refine bA ?_ _)); refine blk_far ?_ NB231_233.out _; (with_reducible repeat (first | refine bDN ?_ _ | refine bD ?_ | refine bA ?_ _)); refine blk_far ?_ NB231_233.out _; (with_reducible repeat (first | refine bDN ?_ _ | refine bD ?_ | refine bA ?_ _)); refine blk_far ?_ NB231_233.out _; (with_reducible repeat (first | refine bDN ?_ _ | refine bD ?_ | refine bA ?_ _)); exact BK231.out) hb); have n1_ := aK_ (bB (g := gb233) (o := .cells #[.int .i64 ((rd_T76 ((rd_T46 l0 x12_1).f2) x30_3).f0), .int .i64 ((rd_T76 ((rd_T46 l0 x12_1).f2) x30_3).f1), .int .i64 ((rd_T76 ((rd_T46 l0 x12_1).f2) x30_3).f2.f0), .slice A232_3 ((rd_T76 ((rd_T46 l0 x12_1).f2) x30_3).f2.f1).length c232_3, .int .i64 ((rd_T76 ((rd_T46 l0 x12_1).f2) x30_3).f3.f0), .int .i64 ((rd_T76 ((rd_T46 l0 x12_1).f2) x30_3).f3.f1), .int .i64 ((rd_T76 ((rd_T46 l0 x12_1).f2) x30_3).f3.f2), .int .i64 ((rd_T76 ((rd_T46 l0 x12_1).f2) x30_3).f4.f0), .int .i64 ((rd_T76 ((rd_T46 l0 x12_1).f2) x30_3).f4.f1), .int .i64 ((rd_T76 ((rd_T46 l0 x12_1).f2) x30_3).f4.f2), .int .i64 ((rd_T76 ((rd_T46 l0 x12_1).f2) x30_3).f5.f0.f0), .int .i64 ((rd_T76 ((rd_T46 l0 x12_1).f2) x30_3).f5.f0.f1), .int .i64 ((rd_T76 ((rd_T46 l0 x12_1).f2) x30_3).f5.f0.f2), .int .i64 ((rd_T76 ((rd_T46 l0 x12_1).f2) x30_3).f5.f1), .slice A232_14 ((rd_T76 ((rd_T46 l0 x12_1).f2) x30_3).f5.f2).length c232_14] 76 (0, 0)) ((by apply eC_; (with_reducible repeat (first | refine bDN ?_ _ | refine bD ?_ | refine bA ?_ _)); apply b2_; (with_reducible repeat (first | refine bDN ?_ _ | refine bD ?_ | refine bA ?_ _)); apply b2_; (with_reducible repeat (first | refine bDN ?_ _ | refine bD ?_ | refine bA ?_ _)); apply b2_; (with_reducible repeat (first | refine bDN ?_ _ | refine bD ?_ | refine bA ?_ _)); apply b2_; (with_reducible repeat (first | refine bDN ?_ _ | refine bD ?_ | refine bA ?_ _)); apply b2_; (with_reducible repeat (first | refine bDN ?_ _ | refine bD ?_ | refine bA ?_ _)); apply b2_; (with_reducible repeat (first | refine bDN ?_ _ | refine bD ?_ | refine bA ?_ _)); apply b2_; (with_reducible repeat (first | refine bDN ?_ _ | refine bD ?_ | refine bA ?_ _)); apply b2_; (with_reducible repeat (first | refine bDN ?_ _ | refine bD ?_ | refine bA ?_ _)); apply b2_; (with_reducible repeat (first | refine bDN ?_ _ | refine bD ?_ | refine bA ?_ _)); apply b2_; (with_reducible repeat (first | refine bDN ?_ _ | refine bD ?_ | refine bA ?_ _)); apply b2_; (with_reducible repeat (first | refine bDN ?_ _ | refine bD ?_ | refine bA ?_ _)); apply b2_; (with_reducible repeat (first | refine bDN ?_ _ | refine bD ?_ | refine bA ?_ _)); apply b2_; (with_reducible repeat (first | refine bDN ?_ _ | refine bD ?_ | refine bA ?_ _)); apply b2_; (with_reducible repeat (first | refine bDN ?_ _ | refine bD ?_ | refine bA ?_ _)); apply b2_; (with_reducible repeat (first | refine bDN ?_ _ | refine bD ?_ | refine bA ?_ _)); exact BK233.out; kernel_rfl)) hb); have n2_ := aK_ (lT_ (lB2_ HB.out GE231.out GE233.out) hb); clear BK231; clear BK233; clear HB; have BK231 := n0_; have BK233 := n1_; have HB := n2_; clear n0_ n1_ n2_; (try clear hb); (try clear hb2); (try clear hk); (try clear hi)))
                 go_ret
                 exact ⟨by first | rfl | (simp [errW_none, errW_some] <;> rfl) | (simp [*, errW_none, errW_some] <;> rfl), (lB2_ HB.out GE231.out GE233.out)⟩
                ·rw [if_neg c22] at H
                 have c22b0 : decide (40 < t234) = false := decide_eq_false c22
                 clear c22
                 have H' := aK_ H
                 clear H
                 have p232 : 0 ≤ (x30_3 : Int) := of_decide_eq_true (by first | (with_reducible assumption) | assumption)
                 have q232 : x30_3 < (((rd_T46 l0 x12_1).f2).length : Int) := of_decide_eq_true (by first | (with_reducible assumption) | assumption)
                 obtain ⟨ad232, A232_3, c232_3, A232_14, c232_14, e232, hx232_0, hx232_1, hx232_2, hx232_3, hx232_4, hx232_5, hx232_6, hx232_7, hx232_8, hx232_9, hx232_10, hx232_11, hx232_12, hx232_13, hx232_14, hl232_3, hi232_3, hl232_14, hi232_14⟩ := at_T76 HR230_3.out x30_3 p232 q232
                 cases e232
                 replace hx232_0 := (HB.out.cell (wb_ w _ hx232_0)).trans hx232_0
                 replace hx232_1 := (HB.out.cell (wb_ w _ hx232_1)).trans hx232_1
                 replace hx232_2 := (HB.out.cell (wb_ w _ hx232_2)).trans hx232_2
                 replace hx232_3 := (HB.out.cell (wb_ w _ hx232_3)).trans hx232_3
                 replace hx232_4 := (HB.out.cell (wb_ w _ hx232_4)).trans hx232_4
                 replace hx232_5 := (HB.out.cell (wb_ w _ hx232_5)).trans hx232_5
                 replace hx232_6 := (HB.out.cell (wb_ w _ hx232_6)).trans hx232_6
                 replace hx232_7 := (HB.out.cell (wb_ w _ hx232_7)).trans hx232_7
                 replace hx232_8 := (HB.out.cell (wb_ w _ hx232_8)).trans hx232_8
                 replace hx232_9 := (HB.out.cell (wb_ w _ hx232_9)).trans hx232_9
                 replace hx232_10 := (HB.out.cell (wb_ w _ hx232_10)).trans hx232_10
                 replace hx232_11 := (HB.out.cell (wb_ w _ hx232_11)).trans hx232_11
                 replace hx232_12 := (HB.out.cell (wb_ w _ hx232_12)).trans hx232_12
                 replace hx232_13 := (HB.out.cell (wb_ w _ hx232_13)).trans hx232_13
                 replace hx232_14 := (HB.out.cell (wb_ w _ hx232_14)).trans hx232_14
                 have HR232_3 := aK_ hi232_3
                 have HC232_3 := aK_ hl232_3
                 clear hi232_3 hl232_3
                 have HR232_14 := aK_ hi232_14
                 have HC232_14 := aK_ hl232_14
                 clear hi232_14 hl232_14
                 replace p232 := eq_true p232
                 replace q232 := eq_true q232
                 go_wp2_with (first | ((with_reducible refine gate_dst (N := 6) rfl ?_); (try (refine gate_guard (by rfl) ?_; dsimp only)); refine box_event ?hg (N := 6) ?hd (cs := #[.int .i64 0, .int .i64 0, .int .i64 0, .slice none 0 0, .int .i64 0, .int .i64 0, .int .i64 0, .int .i64 0, .int .i64 0, .int .i64 0, .int .i64 0, .int .i64 0, .int .i64 0, .int .i64 0, .slice none 0 0]) (t := 76) ?hr ?_; (case hd => rfl); (case hg => rfl); (case hr => first | (go_simp; done) | (go_simp; rfl)); intro gb233 hg w27 hbox hb; have n0_ := aK_ (bB (bK_ BK231.out) hb); have n1_ := aK_ (lT_ (lB1_ HB.out GE231.out) hb); have n2_ := aK_ (hbox); have n3_ := aK_ ((by rw [hg]; exact (lZ_ (lB1_ HB.out GE231.out)) : w.heap.size ≤ gb233)); have n4_ := aK_ ((by rw [hg]; exact (lZ_ (lB1_ HB.out GE231.out)) : w.heap.size ≤ gb233)); have n5_ := aK_ ((by rw [hg]; exact Nat.ne_of_lt (blk_lt (g := gb231) (o := .cells #[.int .i64 ((rd_T46 l0 x12_1).f0.f0), .slice A230_1 ((rd_T46 l0 x12_1).f0.f1).length c230_1, .int .i64 ((rd_T46 l0 x12_1).f1), .slice (some ad232) ((rd_T46 l0 x12_1).f2).length c230_3] 46 (0, 0)) (bK_ BK231.out)) : gb231 ≠ gb233)); have n6_ := aK_ ((by rw [hg]; exact Nat.ne_of_gt (blk_lt (g := gb231) (o := .cells #[.int .i64 ((rd_T46 l0 x12_1).f0.f0), .slice A230_1 ((rd_T46 l0 x12_1).f0.f1).length c230_1, .int .i64 ((rd_T46 l0 x12_1).f1), .slice (some ad232) ((rd_T46 l0 x12_1).f2).length c230_3] 46 (0, 0)) (bK_ BK231.out)) : gb233 ≠ gb231)); clear BK231; clear HB; have BK231 := n0_; have HB := n1_; have BK233 := n2_; have GW233 := n3_; have GE233 := n4_; have NB231_233 := n5_; have NB233_231 := n6_; clear n0_ n1_ n2_ n3_ n4_ n5_ n6_; clear hb hbox hg; have hnb28 := NB233_231.out; have hnc28 := NB231_233.out; obtain ⟨⟨hcz29_0, hcz29_1, hcz29_2, hcz29_3, hcz29_4, hcz29_5, hcz29_6, hcz29_7, hcz29_8, hcz29_9, hcz29_10, hcz29_11, hcz29_12, hcz29_13, hcz29_14⟩, hfz29_0, hfz29_1, hfz29_2, hfz29_3, hfz29_4, hfz29_5, hfz29_6, hfz29_7, hfz29_8, hfz29_9, hfz29_10, hfz29_11, hfz29_12, hfz29_13, hfz29_14⟩ := c15_ BK233.out) | (go_at_call 38; (with_reducible refine (ergolaw13_E_Count.calls k3 ((rd_T76 ((rd_T46 l0 x12_1).f2) x30_3).f5.f0.f0) ((rd_T76 ((rd_T46 l0 x12_1).f2) x30_3).f5.f0.f1) ((rd_T76 ((rd_T46 l0 x12_1).f2) x30_3).f5.f0.f2) ((rd_T76 ((rd_T46 l0 x12_1).f2) x30_3).f5.f1) _ _ ((rd_T76 ((rd_T46 l0 x12_1).f2) x30_3).f5.f2) 0 t234 _ ?side1 ?side2 A21.out).mono ?_); (case side1 => exact Kd.C_below HR232_14.out (lB2_ HB.out GE231.out GE233.out)); (case side2 => exact HC232_14.out); rintro e w30 ⟨rfl, hb⟩; have n0_ := aK_ (bB (g := gb231) (o := .cells #[.int .i64 ((rd_T46 l0 x12_1).f0.f0), .slice A230_1 ((rd_T46 l0 x12_1).f0.f1).length c230_1, .int .i64 ((rd_T46 l0 x12_1).f1), .slice (some ad232) ((rd_T46 l0 x12_1).f2).length c230_3] 46 (0, 0)) (by (with_reducible repeat (first | refine bDN ?_ _ | refine bD ?_ | refine bA ?_ _)); refine blk_far ?_ NB231_233.out _; (with_reducible repeat (first | refine bDN ?_ _ | refine bD ?_ | refine bA ?_ _)); refine blk_far ?_ NB231_233.out _; (with_reducible repeat (first | refine bDN ?_ _ | refine bD ?_ | refine bA ?_ _)); refine blk_far ?_ NB231_233.out _; (with_reducible repeat (first | refine bDN ?_ _ | refine bD ?_ | refine bA ?_ _)); refine blk_far ?_ NB231_233.out _; (with_reducible repeat (first | refine bDN ?_ _ | refine bD ?_ | refine bA ?_ _)); refine blk_far ?_ NB231_233.out _; (with_reducible repeat (first | refine bDN ?_ _ | refine bD ?_ | refine bA ?_ _)); refine blk_far ?_ NB231_233.out _; (with_reducible repeat (first | refine bDN ?_ _ | refine bD ?_ | refine bA ?_ _)); refine blk_far ?_ NB231_233.out _; (with_reducible repeat (first | refine bDN ?_ _ | refine bD ?_ | refine bA ?_ _)); refine blk_far ?_ NB231_233.out _; (with_reducible repeat (first | refine bDN ?_ _ | refine bD ?_ | refine bA ?_ _)); refine blk_far ?_ NB231_233.out _; (with_reducible repeat (first | refine bDN ?_ _ | refine bD ?_ | refine bA ?_ _)); refine blk_far ?_ NB231_233.out _; (with_reducible repeat (first | refine bDN ?_ _ | refine bD ?_ | refine bA ?_ _)); refine blk_far ?_ NB231_233.out _; (with_reducible repeat (first | refine bDN ?_ _ | refine bD ?_ | refine bA ?_ _)); refine blk_far ?_ NB231_233.out _; (with_reducible repeat (first | refine bDN ?_ _ | refine bD ?_ | refine bA ?_ _)); refine blk_far ?_ NB231_233.out _; (with_reducible repeat (first | refine bDN ?_ _ | refine bD ?_ | refine bA ?_ _)); refine blk_far ?_ NB231_233.out _; (with_reducible repeat (first | refine bDN ?_ _ | refine bD ?_ | refine bA ?_ _)); refine blk_far ?_ NB231_233.out _; (with_reducible repeat (first | refine bDN ?_ _ | refine bD ?_ | refine bA ?_ _)); exact BK231.out) hb); have n1_ := aK_ (bB (g := gb233) (o := .cells #[.int .i64 ((rd_T76 ((rd_T46 l0 x12_1).f2) x30_3).f0), .int .i64 ((rd_T76 ((rd_T46 l0 x12_1).f2) x30_3).f1), .int .i64 ((rd_T76 ((rd_T46 l0 x12_1).f2) x30_3).f2.f0), .slice A232_3 ((rd_T76 ((rd_T46 l0 x12_1).f2) x30_3).f2.f1).length c232_3, .int .i64 ((rd_T76 ((rd_T46 l0 x12_1).f2) x30_3).f3.f0), .int .i64 ((rd_T76 ((rd_T46 l0 x12_1).f2) x30_3).f3.f1), .int .i64 ((rd_T76 ((rd_T46 l0 x12_1).f2) x30_3).f3.f2), .int .i64 ((rd_T76 ((rd_T46 l0 x12_1).f2) x30_3).f4.f0), .int .i64 ((rd_T76 ((rd_T46 l0 x12_1).f2) x30_3).f4.f1), .int .i64 ((rd_T76 ((rd_T46 l0 x12_1).f2) x30_3).f4.f2), .int .i64 ((rd_T76 ((rd_T46 l0 x12_1).f2) x30_3).f5.f0.f0), .int .i64 ((rd_T76 ((rd_T46 l0 x12_1).f2) x30_3).f5.f0.f1), .int .i64 ((rd_T76 ((rd_T46 l0 x12_1).f2) x30_3).f5.f0.f2), .int .i64 ((rd_T76 ((rd_T46 l0 x12_1).f2) x30_3).f5.f1), .slice A232_14 ((rd_T76 ((rd_T46 l0 x12_1).f2) x30_3).f5.f2).length c232_14] 76 (0, 0)) ((by apply eC_; (with_reducible repeat (first | refine bDN ?_ _ | refine bD ?_ | refine bA ?_ _)); apply b2_; (with_reducible repeat (first | refine bDN ?_ _ | refine bD ?_ | refine bA ?_ _)); apply b2_; (with_reducible repeat (first | refine bDN ?_ _ | refine bD ?_ | refine bA ?_ _)); apply b2_; (with_reducible repeat (first | refine bDN ?_ _ | refine bD ?_ | refine bA ?_ _)); apply b2_; (with_reducible repeat (first | refine bDN ?_ _ | refine bD ?_ | refine bA ?_ _)); apply b2_; (with_reducible repeat (first | refine bDN ?_ _ | refine bD ?_ | refine bA ?_ _)); apply b2_; (with_reducible repeat (first | refine bDN ?_ _ | refine bD ?_ | refine bA ?_ _)); apply b2_; (with_reducible repeat (first | refine bDN ?_ _ | refine bD ?_ | refine bA ?_ _)); apply b2_; (with_reducible repeat (first | refine bDN ?_ _ | refine bD ?_ | refine bA ?_ _)); apply b2_; (with_reducible repeat (first | refine bDN ?_ _ | refine bD ?_ | refine bA ?_ _)); apply b2_; (with_reducible repeat (first | refine bDN ?_ _ | refine bD ?_ | refine bA ?_ _)); apply b2_; (with_reducible repeat (first | refine bDN ?_ _ | refine bD ?_ | refine bA ?_ _)); apply b2_; (with_reducible repeat (first | refine bDN ?_ _ | refine bD ?_ | refine bA ?_ _)); apply b2_; (with_reducible repeat (first | refine bDN ?_ _ | refine bD ?_ | refine bA ?_ _)); apply b2_; (with_reducible repeat (first | refine bDN ?_ _ | refine bD ?_ | refine bA ?_ _)); apply b2_; (with_reducible repeat (first | refine bDN ?_ _ | refine bD ?_ | refine bA ?_ _)); exact BK233.out; kernel_rfl)) hb); have n2_ := aK_ (lT_ (lB2_ HB.out GE231.out GE233.out) hb); clear BK231; clear BK233; clear HB; have BK231 := n0_; have BK233 := n1_; have HB := n2_; clear n0_ n1_ n2_; (try clear hb); (try clear hb2); (try clear hk); (try clear hi)))
                 go_roundg k3
                 case measure => have := HK1.out; have := HJ5.out; have := HK3.out; omega
                 case rel => exact ⟨(wrap64 (x30_3 + 1)), (by first | rfl | (simp; done) | (simp [*]; done)), H', ⟨by have := HK1.out; have := HJ5.out; have := HK3.out; omega⟩, ⟨by (with_reducible repeat (first | refine bDN ?_ _ | refine bD ?_ | refine bA ?_ _)); exact BK231.out⟩, ⟨(lB2_ HB.out GE231.out GE233.out)⟩⟩
              ·rw [if_neg c16] at H
               exact absurd H (by simp)
             ·rw [if_neg c15] at H
              exact absurd H (by simp)
            ·rw [if_neg c14] at H
             have c14b0 : decide (x30_3 < (((rd_T46 l0 x12_1).f2).length : Int)) = false := decide_eq_false c14
             clear c14
             have H' := aK_ H
             clear H
             go_wp2
             go_roundg k3
             case measure => have := HK1.out; have := HJ5.out; have := HK3.out; omega
             case rel => exact ⟨(wrap64 (x12_1 + 1)), (by first | rfl | (simp; done) | (simp [*]; done)), H', ⟨by have := HK1.out; have := HJ5.out; have := HK3.out; omega⟩, ⟨(lB1_ HB.out GE231.out)⟩⟩
      ·rw [if_neg c5] at H
       exact absurd H (by simp)
     ·rw [if_neg c4] at H
      exact absurd H (by simp)
    ·rw [if_neg c3] at H
     have c3b0 : decide (x12_1 < (l0.length : Int)) = false := decide_eq_false c3
     clear c3
     obtain rfl := Option.some.inj H
     go_wp2
     go_ret
     exact ⟨by first | rfl | (simp [errW_none, errW_some] <;> rfl) | (simp [*, errW_none, errW_some] <;> rfl), (lB0_ HB.out)⟩
end Go.Proofs.YtjlnpdpkobpkiaaPSP
