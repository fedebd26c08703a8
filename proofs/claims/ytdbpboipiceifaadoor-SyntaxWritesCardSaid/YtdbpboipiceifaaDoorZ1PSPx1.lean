import Derived.Test.YtdbpboipiceifaaDoorZ1PSPx0
namespace Go.Proofs.YtdbpboipiceifaaDoorPSP
open Go.RowKit Go.Proofs.YtdbpboipiceifaaDoorW.PrintWords Go.Proofs.YtdbpboipiceifaaDoorW.PrintLast Go.Proofs.YtdbpboipiceifaaDoorW.PrintMore
attribute [local go_sem] max2_int min2_int max_two min_two max_three min_three max_four min_four   -- for this text's walks alone
set_option linter.unusedVariables false
set_option linter.unusedSimpArgs false
mutual
def ergolaw13_E_Count.l0 : Nat → Int → Int → Int → Int → Int → Int → Int → List (S84) → Option (Int)
 | 0, _, _, _, _, _, _, _, _ => none
 | k + 1, x1, x5, x6, x102000, x102001, x102002, x102003, x102004 => if x6 < (x102004.length : Int) then (if x6 < 2 then (if x5 < 100 then (if 0 ≤ x6 then ((ergolaw13_E_Count.f k ((rd_T84 x102004 x6).f0.f0) ((rd_T84 x102004 x6).f0.f1) ((rd_T84 x102004 x6).f0.f2) ((rd_T84 x102004 x6).f1) ((rd_T84 x102004 x6).f2) (wrap64 (x1 + 1))).bind fun t103 => (ergolaw13_E_Count.l0 k x1 (wrap64 (x5 + t103)) (wrap64 (x6 + 1)) x102000 x102001 x102002 x102003 x102004)) else (none)) else (some x5)) else (some x5)) else (some x5)
def ergolaw13_E_Count.f : Nat → Int → Int → Int → Int → List (S84) → Int → Option (Int)
 | 0, _, _, _, _, _, _ => none
 | k + 1, a0_0, a0_1, a0_2, a0_3, l0_4, a1 => if a1 > 6 then (some 100) else (ergolaw13_E_Count.l0 k a1 1 0 a0_0 a0_1 a0_2 a0_3 l0_4)
end
set_option maxHeartbeats 8000000 in
set_option maxRecDepth 100000 in
theorem ergolaw13_E_Count.calls (k : Nat) : ∀ (a0_0 : Int) (a0_1 : Int) (a0_2 : Int) (a0_3 : Int) (A0_4 : Option Addr) (c0_4 : Nat) (l0_4 : List (S84)) (a1 : Int) (r : Int) (w : World) (hr0_4 : Kd.C k84 w A0_4 l0_4.length l0_4) (hc0_4 : l0_4.length ≤ c0_4) (h : ergolaw13_E_Count.f k a0_0 a0_1 a0_2 a0_3 l0_4 a1 = some r),
  Calls Tryd.prog 25 #[.agg #[.int .i64 a0_0, .int .i64 a0_1, .int .i64 a0_2, .int .i64 a0_3, .slice A0_4 l0_4.length c0_4], .int .i64 a1] w fun e w' => e = .returned (.int .i64 r) ∧ Below w.heap.size w w' := by
 induction k using Nat.strongRecOn with
 | _ k ih =>
 intro a0_0 a0_1 a0_2 a0_3 A0_4 c0_4 l0_4 a1 r w hr0_4 hc0_4 h
 cases k with
 | zero => exact absurd h (by simp [ergolaw13_E_Count.f])
 | succ k =>
 simp only [ergolaw13_E_Count.f] at h
 have hu84 := Tryd.underlying84
 have HR0_4 := aK_ hr0_4
 have HC0_4 := aK_ hc0_4
 clear hr0_4 hc0_4
 have HB := aK_ (Below.refl w.heap.size w)
 have H : (if a1 > 6 then (some 100) else (ergolaw13_E_Count.l0 k a1 1 0 a0_0 a0_1 a0_2 a0_3 l0_4)) = some r := h
 clear h
 by_cases c3 : a1 > 6
 ·rw [if_pos c3] at H
  have c3b0 : decide (6 < a1) = true := decide_eq_true c3
  clear c3
  obtain rfl := Option.some.inj H
  go_enter Tryd.func25, Tryd.ntmps25
  go_wp2_with (first | ((with_reducible refine gate_dst (N := 2) rfl ?_); refine box_event ?hg (N := 2) ?hd (cs := #[.int .i64 a0_0, .int .i64 a0_1, .int .i64 a0_2, .int .i64 a0_3, .slice A0_4 l0_4.length c0_4]) (t := 84) ?hr ?_; (case hd => rfl); (case hg => rfl); (case hr => first | (go_simp; done) | (go_simp; rfl)); intro gb101 hg w4 hbox hb; have n0_ := aK_ (lT_ (by repeat (first | (with_reducible first | exact HB.out | apply lA_ | apply pD | apply lD_) | exact HB.out)) hb); have n1_ := aK_ (hbox); have n2_ := aK_ ((by rw [hg]; exact (lZ_ (by repeat (first | (with_reducible first | exact HB.out | apply lA_ | apply pD | apply lD_) | exact HB.out))) : w.heap.size ≤ gb101)); have n3_ := aK_ ((by rw [hg]; exact (lZ_ (by repeat (first | (with_reducible first | exact HB.out | apply lA_ | apply pD | apply lD_) | exact HB.out))) : w.heap.size ≤ gb101)); clear HB; have HB := n0_; have BK101 := n1_; have GW101 := n2_; have GE101 := n3_; clear n0_ n1_ n2_ n3_; clear hb hbox hg))
  go_ret
  exact ⟨by first | rfl | (simp [errW_none, errW_some] <;> rfl) | (simp [*, errW_none, errW_some] <;> rfl), by repeat (first | (with_reducible first | exact HB.out | apply lA_ | apply pD | apply lD_ | refine lS_ ?_ GE101.out) | exact HB.out)⟩
 ·rw [if_neg c3] at H
  have c3b0 : decide (6 < a1) = false := decide_eq_false c3
  clear c3
  have H' := aK_ H
  clear H
  go_enter Tryd.func25, Tryd.ntmps25
  go_wp2_with (first | ((with_reducible refine gate_dst (N := 2) rfl ?_); refine box_event ?hg (N := 2) ?hd (cs := #[.int .i64 a0_0, .int .i64 a0_1, .int .i64 a0_2, .int .i64 a0_3, .slice A0_4 l0_4.length c0_4]) (t := 84) ?hr ?_; (case hd => rfl); (case hg => rfl); (case hr => first | (go_simp; done) | (go_simp; rfl)); intro gb101 hg w5 hbox hb; have n0_ := aK_ (lT_ (by repeat (first | (with_reducible first | exact HB.out | apply lA_ | apply pD | apply lD_) | exact HB.out)) hb); have n1_ := aK_ (hbox); have n2_ := aK_ ((by rw [hg]; exact (lZ_ (by repeat (first | (with_reducible first | exact HB.out | apply lA_ | apply pD | apply lD_) | exact HB.out))) : w.heap.size ≤ gb101)); have n3_ := aK_ ((by rw [hg]; exact (lZ_ (by repeat (first | (with_reducible first | exact HB.out | apply lA_ | apply pD | apply lD_) | exact HB.out))) : w.heap.size ≤ gb101)); clear HB; have HB := n0_; have BK101 := n1_; have GW101 := n2_; have GE101 := n3_; clear n0_ n1_ n2_ n3_; clear hb hbox hg))
  go_loopg [5, 6] k (fun kq v5 v6 w' => ∃ (x5_1 : Int) (x6_1 : Int), v5 = .int .i64 x5_1 ∧ v6 = .int .i64 x6_1 ∧ Aside0 (ergolaw13_E_Count.l0 kq a1 x5_1 x6_1 a0_0 a0_1 a0_2 a0_3 l0_4 = some r) ∧ Aside0 (kq ≤ k) ∧ Aside0 (w'.heap[gb101]? = some (.cells #[.int .i64 a0_0, .int .i64 a0_1, .int .i64 a0_2, .int .i64 a0_3, (.slice A0_4 l0_4.length c0_4)] 84 (0, 0))) ∧ Aside0 (Below w.heap.size w w'))
  case atStart => exact ⟨(1), (0), (by first | rfl | (simp; done) | (simp [*]; done)), (by first | rfl | (simp; done) | (simp [*]; done)), H', ⟨Nat.le_refl _⟩, ⟨by (with_reducible repeat (first | refine bDN ?_ _ | refine bD ?_ | refine bA ?_ _)); exact BK101.out⟩, ⟨by repeat (first | (with_reducible first | exact HB.out | apply lA_ | apply pD | apply lD_ | refine lS_ ?_ GE101.out) | exact HB.out)⟩⟩
  case round =>
   clear H'
   try clear c2
   try clear p2
   try clear c3
   try clear c3b0
   obtain ⟨x5_1, x6_1, rfl, rfl, HA, HK1, BK101, HB⟩ := hrel
   cases gk with
   | zero => exact absurd HA.out (by simp [ergolaw13_E_Count.l0])
   | succ k1 =>
    have H := HA.out
    clear HA
    simp only [ergolaw13_E_Count.l0] at H
    by_cases c6 : x6_1 < (l0_4.length : Int)
    ·rw [if_pos c6] at H
     have c6b0 : decide (x6_1 < (l0_4.length : Int)) = true := decide_eq_true c6
     clear c6
     by_cases c7 : x6_1 < 2
     ·rw [if_pos c7] at H
      have c7b0 : decide (x6_1 < 2) = true := decide_eq_true c7
      clear c7
      by_cases c8 : x5_1 < 100
      ·rw [if_pos c8] at H
       have c8b0 : decide (x5_1 < 100) = true := decide_eq_true c8
       clear c8
       by_cases c9 : 0 ≤ x6_1
       ·rw [if_pos c9] at H
        have c9b0 : decide (0 ≤ x6_1) = true := decide_eq_true c9
        clear c9
        replace H := Option.bind_eq_some_iff.mp H
        obtain ⟨t103, A100, H⟩ := H
        replace H : (ergolaw13_E_Count.l0 k1 a1 (wrap64 (x5_1 + t103)) (wrap64 (x6_1 + 1)) a0_0 a0_1 a0_2 a0_3 l0_4) = some r := H
        have A10 := aK_ A100
        clear A100
        have H' := aK_ H
        clear H
        have hcz11_0 : wr.cell? ⟨gb101, 0, none⟩ = some (.int .i64 a0_0) := (bC BK101.out 0).trans rfl
        have hcz11_1 : wr.cell? ⟨gb101, 1, none⟩ = some (.int .i64 a0_1) := (bC BK101.out 1).trans rfl
        have hcz11_2 : wr.cell? ⟨gb101, 2, none⟩ = some (.int .i64 a0_2) := (bC BK101.out 2).trans rfl
        have hcz11_3 : wr.cell? ⟨gb101, 3, none⟩ = some (.int .i64 a0_3) := (bC BK101.out 3).trans rfl
        have hcz11_4 : wr.cell? ⟨gb101, 4, none⟩ = some (.slice A0_4 l0_4.length c0_4) := (bC BK101.out 4).trans rfl
        have hfz11_0 := bF BK101.out 0
        have hfz11_1 := bF BK101.out 1
        have hfz11_2 := bF BK101.out 2
        have hfz11_3 := bF BK101.out 3
        have hfz11_4 := bF BK101.out 4
        have p102 : 0 ≤ (x6_1 : Int) := of_decide_eq_true (by first | (with_reducible assumption) | assumption)
        have q102 : x6_1 < (l0_4.length : Int) := of_decide_eq_true (by first | (with_reducible assumption) | assumption)
        obtain ⟨ad102, A102_4, c102_4, e102, hx102_0, hx102_1, hx102_2, hx102_3, hx102_4, hl102_4, hi102_4⟩ := at_T84 HR0_4.out x6_1 p102 q102
        cases e102
        replace hx102_0 := (HB.out.cell (wb_ w _ hx102_0)).trans hx102_0
        replace hx102_1 := (HB.out.cell (wb_ w _ hx102_1)).trans hx102_1
        replace hx102_2 := (HB.out.cell (wb_ w _ hx102_2)).trans hx102_2
        replace hx102_3 := (HB.out.cell (wb_ w _ hx102_3)).trans hx102_3
        replace hx102_4 := (HB.out.cell (wb_ w _ hx102_4)).trans hx102_4
        have HR102_4 := aK_ hi102_4
        have HC102_4 := aK_ hl102_4
        clear hi102_4 hl102_4
        replace p102 := eq_true p102
        replace q102 := eq_true q102
        go_wp2_with (first | ((with_reducible refine gate_callee (f := 25) rfl ?_); refine goesL_ (some 32) rfl rfl Tryd.func25 (by kernel_rfl) rfl #[.agg #[.int .i64 ((rd_T84 l0_4 x6_1).f0.f0), .int .i64 ((rd_T84 l0_4 x6_1).f0.f1), .int .i64 ((rd_T84 l0_4 x6_1).f0.f2), .int .i64 ((rd_T84 l0_4 x6_1).f1), .slice A102_4 ((rd_T84 l0_4 x6_1).f2).length c102_4], .int .i64 (wrap64 (a1 + 1))] rfl (by (try simp only [List.map_toArray, List.map_cons, List.map_nil]); first | done | rfl | (simp only [List.length_drop, List.length_take]; rfl)) ?_; (with_reducible refine (ih k1 (by have := HK1.out; omega) ((rd_T84 l0_4 x6_1).f0.f0) ((rd_T84 l0_4 x6_1).f0.f1) ((rd_T84 l0_4 x6_1).f0.f2) ((rd_T84 l0_4 x6_1).f1) _ _ ((rd_T84 l0_4 x6_1).f2) (wrap64 (a1 + 1)) t103 _ ?side1 ?side2 A10.out).mono ?_); (case side1 => repeat (first | exact (Kd.C_below HR102_4.out HB.out) | (with_reducible refine Kd.C_alloc ?_ _) | (with_reducible refine Kd.C_drewN ?_ _) | (with_reducible refine Kd.C_drew ?_))); (case side2 => exact HC102_4.out); rintro e w12 ⟨rfl, hb⟩; refine ⟨_, rfl, ?_⟩; have n0_ := aK_ (bB (by (with_reducible repeat (first | refine bDN ?_ _ | refine bD ?_ | refine bA ?_ _)); exact BK101.out) hb); have n1_ := aK_ (lT_ (by repeat (first | (with_reducible first | exact HB.out | apply lA_ | apply pD | apply lD_ | refine lS_ ?_ GE101.out) | exact HB.out)) hb); clear BK101; clear HB; have BK101 := n0_; have HB := n1_; clear n0_ n1_; (try clear hb); (try clear hb2); (try clear hk); (try clear hi)))
        go_roundg k1
        case measure => have := HK1.out; omega
        case rel => exact ⟨(wrap64 (x5_1 + t103)), (wrap64 (x6_1 + 1)), (by first | rfl | (simp; done) | (simp [*]; done)), (by first | rfl | (simp; done) | (simp [*]; done)), H', ⟨by have := HK1.out; omega⟩, ⟨by (with_reducible repeat (first | refine bDN ?_ _ | refine bD ?_ | refine bA ?_ _)); exact BK101.out⟩, ⟨by repeat (first | (with_reducible first | exact HB.out | apply lA_ | apply pD | apply lD_ | refine lS_ ?_ GE101.out) | exact HB.out)⟩⟩
       ·rw [if_neg c9] at H
        exact absurd H (by simp)
      ·rw [if_neg c8] at H
       have c8b0 : decide (x5_1 < 100) = false := decide_eq_false c8
       clear c8
       obtain rfl := Option.some.inj H
       have hcz13_0 : wr.cell? ⟨gb101, 0, none⟩ = some (.int .i64 a0_0) := (bC BK101.out 0).trans rfl
       have hcz13_1 : wr.cell? ⟨gb101, 1, none⟩ = some (.int .i64 a0_1) := (bC BK101.out 1).trans rfl
       have hcz13_2 : wr.cell? ⟨gb101, 2, none⟩ = some (.int .i64 a0_2) := (bC BK101.out 2).trans rfl
       have hcz13_3 : wr.cell? ⟨gb101, 3, none⟩ = some (.int .i64 a0_3) := (bC BK101.out 3).trans rfl
       have hcz13_4 : wr.cell? ⟨gb101, 4, none⟩ = some (.slice A0_4 l0_4.length c0_4) := (bC BK101.out 4).trans rfl
       have hfz13_0 := bF BK101.out 0
       have hfz13_1 := bF BK101.out 1
       have hfz13_2 := bF BK101.out 2
       have hfz13_3 := bF BK101.out 3
       have hfz13_4 := bF BK101.out 4
       go_wp2
       go_ret
       exact ⟨by first | rfl | (simp [errW_none, errW_some] <;> rfl) | (simp [*, errW_none, errW_some] <;> rfl), by repeat (first | (with_reducible first | exact HB.out | apply lA_ | apply pD | apply lD_ | refine lS_ ?_ GE101.out) | exact HB.out)⟩
     ·rw [if_neg c7] at H
      have c7b0 : decide (x6_1 < 2) = false := decide_eq_false c7
      clear c7
      obtain rfl := Option.some.inj H
      have hcz14_0 : wr.cell? ⟨gb101, 0, none⟩ = some (.int .i64 a0_0) := (bC BK101.out 0).trans rfl
      have hcz14_1 : wr.cell? ⟨gb101, 1, none⟩ = some (.int .i64 a0_1) := (bC BK101.out 1).trans rfl
      have hcz14_2 : wr.cell? ⟨gb101, 2, none⟩ = some (.int .i64 a0_2) := (bC BK101.out 2).trans rfl
      have hcz14_3 : wr.cell? ⟨gb101, 3, none⟩ = some (.int .i64 a0_3) := (bC BK101.out 3).trans rfl
      have hcz14_4 : wr.cell? ⟨gb101, 4, none⟩ = some (.slice A0_4 l0_4.length c0_4) := (bC BK101.out 4).trans rfl
      have hfz14_0 := bF BK101.out 0
      have hfz14_1 := bF BK101.out 1
      have hfz14_2 := bF BK101.out 2
      have hfz14_3 := bF BK101.out 3
      have hfz14_4 := bF BK101.out 4
      go_wp2
      go_ret
      exact ⟨by first | rfl | (simp [errW_none, errW_some] <;> rfl) | (simp [*, errW_none, errW_some] <;> rfl), by repeat (first | (with_reducible first | exact HB.out | apply lA_ | apply pD | apply lD_ | refine lS_ ?_ GE101.out) | exact HB.out)⟩
    ·rw [if_neg c6] at H
     have c6b0 : decide (x6_1 < (l0_4.length : Int)) = false := decide_eq_false c6
     clear c6
     obtain rfl := Option.some.inj H
     have hcz15_0 : wr.cell? ⟨gb101, 0, none⟩ = some (.int .i64 a0_0) := (bC BK101.out 0).trans rfl
     have hcz15_1 : wr.cell? ⟨gb101, 1, none⟩ = some (.int .i64 a0_1) := (bC BK101.out 1).trans rfl
     have hcz15_2 : wr.cell? ⟨gb101, 2, none⟩ = some (.int .i64 a0_2) := (bC BK101.out 2).trans rfl
     have hcz15_3 : wr.cell? ⟨gb101, 3, none⟩ = some (.int .i64 a0_3) := (bC BK101.out 3).trans rfl
     have hcz15_4 : wr.cell? ⟨gb101, 4, none⟩ = some (.slice A0_4 l0_4.length c0_4) := (bC BK101.out 4).trans rfl
     have hfz15_0 := bF BK101.out 0
     have hfz15_1 := bF BK101.out 1
     have hfz15_2 := bF BK101.out 2
     have hfz15_3 := bF BK101.out 3
     have hfz15_4 := bF BK101.out 4
     go_wp2
     go_ret
     exact ⟨by first | rfl | (simp [errW_none, errW_some] <;> rfl) | (simp [*, errW_none, errW_some] <;> rfl), by repeat (first | (with_reducible first | exact HB.out | apply lA_ | apply pD | apply lD_ | refine lS_ ?_ GE101.out) | exact HB.out)⟩
mutual
def ergolaw13_Few.l0 : Nat → List (S36) → Int → Int → Option (Bool)
 | 0, _, _, _ => none
 | k + 1, x10, x11, x12 => if x12 < x11 then (if 0 ≤ x12 then (if x12 < (x10.length : Int) then (if (((rd_T36 x10 x12).f0.f1).length : Int) > 6 then (ergolaw13_Few.j1 k x10 x11 x12 true ((rd_T36 x10 x12).f0.f0) ((rd_T36 x10 x12).f0.f1) ((rd_T36 x10 x12).f1) ((rd_T36 x10 x12).f2)) else (ergolaw13_Few.j1 k x10 x11 x12 (decide ((((rd_T36 x10 x12).f2).length : Int) > 8)) ((rd_T36 x10 x12).f0.f0) ((rd_T36 x10 x12).f0.f1) ((rd_T36 x10 x12).f1) ((rd_T36 x10 x12).f2))) else (none)) else (none)) else (some true)
def ergolaw13_Few.j1 : Nat → List (S36) → Int → Int → Bool → Int → List (S81) → Int → List (S86) → Option (Bool)
 | 0, _, _, _, _, _, _, _, _ => none
 | k + 1, x10, x11, x12, x26, x106000, x106001, x106002, x106003 => if x26 = true then (some false) else (ergolaw13_Few.l1 k x10 x11 x12 x106003 (x106003.length : Int) 0)
def ergolaw13_Few.l1 : Nat → List (S36) → Int → Int → List (S86) → Int → Int → Option (Bool)
 | 0, _, _, _, _, _, _ => none
 | k + 1, x10, x11, x12, x28, x29, x30 => if x30 < x29 then (if 0 ≤ x30 then (if x30 < (x28.length : Int) then (if (((rd_T86 x28 x30).f2.f1).length : Int) > 6 then (some false) else ((ergolaw13_E_Count.f k ((rd_T86 x28 x30).f5.f0.f0) ((rd_T86 x28 x30).f5.f0.f1) ((rd_T86 x28 x30).f5.f0.f2) ((rd_T86 x28 x30).f5.f1) ((rd_T86 x28 x30).f5.f2) 0).bind fun t108 => (if t108 > 40 then (some false) else (ergolaw13_Few.l1 k x10 x11 x12 x28 x29 (wrap64 (x30 + 1)))))) else (none)) else (none)) else (ergolaw13_Few.l0 k x10 x11 (wrap64 (x12 + 1)))
end
def ergolaw13_Few.f (k : Nat) (l0 : List (S36)) : Option (Bool) := if (l0.length : Int) > 12 then (some false) else (ergolaw13_Few.l0 k l0 (l0.length : Int) 0)
set_option maxHeartbeats 8000000 in
set_option maxRecDepth 100000 in
theorem ergolaw13_Few.calls (k : Nat) (A0 : Option Addr) (c0 : Nat) (l0 : List (S36)) (r : Bool) (w : World) (hr0 : Kd.C k36 w A0 l0.length l0) (hc0 : l0.length ≤ c0) (h : ergolaw13_Few.f k l0 = some r) :
  Calls Tryd.prog 8 #[.slice A0 l0.length c0] w fun e w' => e = .returned (.bool r) ∧ Below w.heap.size w w' := by
 have hu36 := Tryd.underlying36
 have hu86 := Tryd.underlying86
 have hu84 := Tryd.underlying84
 have HR0 := aK_ hr0
 have HC0 := aK_ hc0
 clear hr0 hc0
 have HB := aK_ (Below.refl w.heap.size w)
 have H : (if (l0.length : Int) > 12 then (some false) else (ergolaw13_Few.l0 k l0 (l0.length : Int) 0)) = some r := h
 clear h
 by_cases c2 : (l0.length : Int) > 12
 ·rw [if_pos c2] at H
  have c2b0 : decide (12 < (l0.length : Int)) = true := decide_eq_true c2
  have c2b1 : decide (12 < l0.length) = true := decide_eq_true (by omega)
  clear c2
  obtain rfl := Option.some.inj H
  go_enter Tryd.func8, Tryd.ntmps8
  go_wp2
  go_ret
  exact ⟨by first | rfl | (simp [errW_none, errW_some] <;> rfl) | (simp [*, errW_none, errW_some] <;> rfl), by repeat (first | (with_reducible first | exact HB.out | apply lA_ | apply pD | apply lD_) | exact HB.out)⟩
 ·rw [if_neg c2] at H
  have c2b0 : decide (12 < (l0.length : Int)) = false := decide_eq_false c2
  have c2b1 : decide (12 < l0.length) = false := decide_eq_false (by omega)
  clear c2
  have H' := aK_ H
  clear H
  go_enter Tryd.func8, Tryd.ntmps8
  go_wp2
  go_loopg [12] k (fun kq v12 w' => ∃ (x12_1 : Int), v12 = .int .i64 x12_1 ∧ Aside0 (ergolaw13_Few.l0 kq l0 (l0.length : Int) x12_1 = some r) ∧ Aside0 (kq ≤ k) ∧ Aside0 (Below w.heap.size w w'))
  case atStart => exact ⟨(0), (by first | rfl | (simp; done) | (simp [*]; done)), H', ⟨Nat.le_refl _⟩, ⟨by repeat (first | (with_reducible first | exact HB.out | apply lA_ | apply pD | apply lD_) | exact HB.out)⟩⟩
  case round =>
   clear H'
   try clear c2
   try clear c2b0
   try clear c2b1
   try clear p2
   obtain ⟨x12_1, rfl, HA, HK1, HB⟩ := hrel
   cases gk with
   | zero => exact absurd HA.out (by simp [ergolaw13_Few.l0])
   | succ k1 =>
    have H := HA.out
    clear HA
    simp only [ergolaw13_Few.l0] at H
    by_cases c3 : x12_1 < (l0.length : Int)
    ·rw [if_pos c3] at H
     have c3b0 : decide (x12_1 < (l0.length : Int)) = true := decide_eq_true c3
     clear c3
     by_cases c4 : 0 ≤ x12_1
     ·rw [if_pos c4] at H
      have c4b0 : decide (0 ≤ x12_1) = true := decide_eq_true c4
      clear c4
      by_cases c5 : x12_1 < (l0.length : Int)
      ·rw [if_pos c5] at H
       have c5b0 : decide (x12_1 < (l0.length : Int)) = true := decide_eq_true c5
       clear c5
       have HC6 := aK_ H
       clear H
       have p104 : 0 ≤ (x12_1 : Int) := of_decide_eq_true (by first | (with_reducible assumption) | assumption)
       have q104 : x12_1 < (l0.length : Int) := of_decide_eq_true (by first | (with_reducible assumption) | assumption)
       obtain ⟨ad104, A104_1, c104_1, A104_3, c104_3, e104, hx104_0, hx104_1, hx104_2, hx104_3, hl104_1, hi104_1, hl104_3, hi104_3⟩ := at_T36 HR0.out x12_1 p104 q104
       cases e104
       replace hx104_0 := (HB.out.cell (wb_ w _ hx104_0)).trans hx104_0
       replace hx104_1 := (HB.out.cell (wb_ w _ hx104_1)).trans hx104_1
       replace hx104_2 := (HB.out.cell (wb_ w _ hx104_2)).trans hx104_2
       replace hx104_3 := (HB.out.cell (wb_ w _ hx104_3)).trans hx104_3
       have HR104_1 := aK_ hi104_1
       have HC104_1 := aK_ hl104_1
       clear hi104_1 hl104_1
       have HR104_3 := aK_ hi104_3
       have HC104_3 := aK_ hl104_3
       clear hi104_3 hl104_3
       replace p104 := eq_true p104
       replace q104 := eq_true q104
       go_upto_region 6 with (first | ((with_reducible refine gate_dst (N := 4) rfl ?_); (try (refine gate_guard (by rfl) ?_; dsimp only)); refine box_event ?hg (N := 4) ?hd (cs := #[.int .i64 0, .slice none 0 0, .int .i64 0, .slice none 0 0]) (t := 36) ?hr ?_; (case hd => rfl); (case hg => rfl); (case hr => first | (go_simp; done) | (go_simp; rfl)); intro gb105 hg w7 hbox hb; have n0_ := aK_ (lT_ (by repeat (first | (with_reducible first | exact HB.out | apply lA_ | apply pD | apply lD_) | exact HB.out)) hb); have n1_ := aK_ (hbox); have n2_ := aK_ ((by rw [hg]; exact (lZ_ (by repeat (first | (with_reducible first | exact HB.out | apply lA_ | apply pD | apply lD_) | exact HB.out))) : w.heap.size ≤ gb105)); have n3_ := aK_ ((by rw [hg]; exact (lZ_ (by repeat (first | (with_reducible first | exact HB.out | apply lA_ | apply pD | apply lD_) | exact HB.out))) : w.heap.size ≤ gb105)); clear HB; have HB := n0_; have BK105 := n1_; have GW105 := n2_; have GE105 := n3_; clear n0_ n1_ n2_ n3_; clear hb hbox hg; have hcz8_0 : w7.cell? ⟨gb105, 0, none⟩ = some (.int .i64 0) := (bC BK105.out 0).trans rfl; have hcz8_1 : w7.cell? ⟨gb105, 1, none⟩ = some (.slice none 0 0) := (bC BK105.out 1).trans rfl; have hcz8_2 : w7.cell? ⟨gb105, 2, none⟩ = some (.int .i64 0) := (bC BK105.out 2).trans rfl; have hcz8_3 : w7.cell? ⟨gb105, 3, none⟩ = some (.slice none 0 0) := (bC BK105.out 3).trans rfl; have hfz8_0 := bF BK105.out 0; have hfz8_1 := bF BK105.out 1; have hfz8_2 := bF BK105.out 2; have hfz8_3 := bF BK105.out 3))
       (try simp only [Act.put, sA_, sZ_, sS_])
       go_cut [26] (fun v26 wc => ∃ (kq : Nat) (x26_5 : Bool), v26 = .bool x26_5 ∧ Aside0 (ergolaw13_Few.j1 kq l0 (l0.length : Int) x12_1 x26_5 ((rd_T36 l0 x12_1).f0.f0) ((rd_T36 l0 x12_1).f0.f1) ((rd_T36 l0 x12_1).f1) ((rd_T36 l0 x12_1).f2) = some r) ∧ Aside0 (kq ≤ k1) ∧ Aside0 (wc.heap[gb105]? = some (.cells #[.int .i64 ((rd_T36 l0 x12_1).f0.f0), (.slice A104_1 ((rd_T36 l0 x12_1).f0.f1).length c104_1), .int .i64 ((rd_T36 l0 x12_1).f1), (.slice A104_3 ((rd_T36 l0 x12_1).f2).length c104_3)] 36 (0, 0))) ∧ Aside0 (Below w.heap.size w wc))
       case first =>
        have H := HC6.out
        clear HC6
        by_cases c9 : (((rd_T36 l0 x12_1).f0.f1).length : Int) > 6
        ·rw [if_pos c9] at H
         have c9b0 : decide (6 < (((rd_T36 l0 x12_1).f0.f1).length : Int)) = true := decide_eq_true c9
         have c9b1 : decide (6 < ((rd_T36 l0 x12_1).f0.f1).length) = true := decide_eq_true (by omega)
         clear c9
         (first | rw [c9b0] | (simp only [i64_w, i32_w]; rw [c9b0]) | skip)
         have H' := aK_ H
         clear H
         have hcz10_0 : w7.cell? ⟨gb105, 0, none⟩ = some (.int .i64 0) := (bC BK105.out 0).trans rfl
         have hcz10_1 : w7.cell? ⟨gb105, 1, none⟩ = some (.slice none 0 0) := (bC BK105.out 1).trans rfl
         have hcz10_2 : w7.cell? ⟨gb105, 2, none⟩ = some (.int .i64 0) := (bC BK105.out 2).trans rfl
         have hcz10_3 : w7.cell? ⟨gb105, 3, none⟩ = some (.slice none 0 0) := (bC BK105.out 3).trans rfl
         have hfz10_0 := bF BK105.out 0
         have hfz10_1 := bF BK105.out 1
         have hfz10_2 := bF BK105.out 2
         have hfz10_3 := bF BK105.out 3
         go_wp2
         go_meet
         case rel => exact ⟨_, (true), (by first | rfl | (simp; done) | (simp [*]; done)), H', ⟨by have := HK1.out; first | omega | exact Nat.le_refl _⟩, ⟨(by apply eC_; (with_reducible repeat (first | refine bDN ?_ _ | refine bD ?_ | refine bA ?_ _)); apply b2_; (with_reducible repeat (first | refine bDN ?_ _ | refine bD ?_ | refine bA ?_ _)); apply b2_; (with_reducible repeat (first | refine bDN ?_ _ | refine bD ?_ | refine bA ?_ _)); apply b2_; (with_reducible repeat (first | refine bDN ?_ _ | refine bD ?_ | refine bA ?_ _)); apply b2_; (with_reducible repeat (first | refine bDN ?_ _ | refine bD ?_ | refine bA ?_ _)); exact BK105.out; kernel_rfl)⟩, ⟨by repeat (first | (with_reducible first | exact HB.out | apply lA_ | apply pD | apply lD_ | refine lS_ ?_ GE105.out) | exact HB.out)⟩⟩
        ·rw [if_neg c9] at H
         have c9b0 : decide (6 < (((rd_T36 l0 x12_1).f0.f1).length : Int)) = false := decide_eq_false c9
         have c9b1 : decide (6 < ((rd_T36 l0 x12_1).f0.f1).length) = false := decide_eq_false (by omega)
         clear c9
         (first | rw [c9b0] | (simp only [i64_w, i32_w]; rw [c9b0]) | skip)
         have H' := aK_ H
         clear H
         have hcz11_0 : w7.cell? ⟨gb105, 0, none⟩ = some (.int .i64 0) := (bC BK105.out 0).trans rfl
         have hcz11_1 : w7.cell? ⟨gb105, 1, none⟩ = some (.slice none 0 0) := (bC BK105.out 1).trans rfl
         have hcz11_2 : w7.cell? ⟨gb105, 2, none⟩ = some (.int .i64 0) := (bC BK105.out 2).trans rfl
         have hcz11_3 : w7.cell? ⟨gb105, 3, none⟩ = some (.slice none 0 0) := (bC BK105.out 3).trans rfl
         have hfz11_0 := bF BK105.out 0
         have hfz11_1 := bF BK105.out 1
         have hfz11_2 := bF BK105.out 2
         have hfz11_3 := bF BK105.out 3
         go_wp2
         go_meet
         case rel => exact ⟨_, (decide ((((rd_T36 l0 x12_1).f2).length : Int) > 8)), (by first | rfl | (simp; done) | (simp [*]; done)), H', ⟨by have := HK1.out; first | omega | exact Nat.le_refl _⟩, ⟨(by apply eC_; (with_reducible repeat (first | refine bDN ?_ _ | refine bD ?_ | refine bA ?_ _)); apply b2_; (with_reducible repeat (first | refine bDN ?_ _ | refine bD ?_ | refine bA ?_ _)); apply b2_; (with_reducible repeat (first | refine bDN ?_ _ | refine bD ?_ | refine bA ?_ _)); apply b2_; (with_reducible repeat (first | refine bDN ?_ _ | refine bD ?_ | refine bA ?_ _)); apply b2_; (with_reducible repeat (first | refine bDN ?_ _ | refine bD ?_ | refine bA ?_ _)); exact BK105.out; kernel_rfl)⟩, ⟨by repeat (first | (with_reducible first | exact HB.out | apply lA_ | apply pD | apply lD_ | refine lS_ ?_ GE105.out) | exact HB.out)⟩⟩
       case rest =>
        clear HC6
        try clear c1
        try clear p1
        try clear q1
        try clear hx1
        try clear c2
        try clear c2b0
        try clear c2b1
        try clear p2
        try clear c3
        try clear c3b0
        try clear c4
        try clear c4b0
        try clear c5
        try clear c5b0
        try clear c8
        try clear c9
        try clear c9b0
        try clear c9b1
        try clear c10
        try clear p10
        try clear q10
        try clear hx10
        try clear hcz10_0
        try clear hcz10_1
        try clear hcz10_2
        try clear hcz10_3
        try clear hcz11_0
        try clear hcz11_1
        try clear hcz11_2
        try clear hcz11_3
        try clear hcz8_0
        try clear hcz8_1
        try clear hcz8_2
        try clear hcz8_3
        try clear hfz10_0
        try clear hfz10_1
        try clear hfz10_2
        try clear hfz10_3
        try clear hfz11_0
        try clear hfz11_1
        try clear hfz11_2
        try clear hfz11_3
        try clear hfz8_0
        try clear hfz8_1
        try clear hfz8_2
        try clear hfz8_3
        try clear hx104_0
        try clear hx104_1
        try clear hx104_2
        try clear hx104_3
        try clear p104
        try clear p2
        try clear q104
        obtain ⟨kq, x26_5, rfl, HA, HJ5, BK105, HB⟩ := hcut
        cases kq with
        | zero => exact absurd HA.out (by simp [ergolaw13_Few.j1])
        | succ kj5 =>
         have H := HA.out
         clear HA
         simp only [ergolaw13_Few.j1] at H
         by_cases c12 : x26_5 = true
         ·subst c12
          have H1 : (some false) = some r := by rw [if_pos rfl] at H; exact H
          clear H
          have H := H1
          clear H1
          obtain rfl := Option.some.inj H
          go_wp2
          go_ret
          exact ⟨by first | rfl | (simp [errW_none, errW_some] <;> rfl) | (simp [*, errW_none, errW_some] <;> rfl), by repeat (first | (with_reducible first | exact HB.out | apply lA_ | apply pD | apply lD_ | refine lS_ ?_ GE105.out) | exact HB.out)⟩
         ·replace c12 := Bool.eq_false_iff.mpr c12
          subst c12
          have H1 : (ergolaw13_Few.l1 kj5 l0 (l0.length : Int) x12_1 ((rd_T36 l0 x12_1).f2) (((rd_T36 l0 x12_1).f2).length : Int) 0) = some r := by rw [if_neg (show ¬ (false = true) by decide)] at H; exact H
          clear H
          have H := H1
          clear H1
          have H' := aK_ H
          clear H
          have hcz13_0 : wc.cell? ⟨gb105, 0, none⟩ = some (.int .i64 ((rd_T36 l0 x12_1).f0.f0)) := (bC BK105.out 0).trans rfl
          have hcz13_1 : wc.cell? ⟨gb105, 1, none⟩ = some (.slice A104_1 ((rd_T36 l0 x12_1).f0.f1).length c104_1) := (bC BK105.out 1).trans rfl
          have hcz13_2 : wc.cell? ⟨gb105, 2, none⟩ = some (.int .i64 ((rd_T36 l0 x12_1).f1)) := (bC BK105.out 2).trans rfl
          have hcz13_3 : wc.cell? ⟨gb105, 3, none⟩ = some (.slice A104_3 ((rd_T36 l0 x12_1).f2).length c104_3) := (bC BK105.out 3).trans rfl
          have hfz13_0 := bF BK105.out 0
          have hfz13_1 := bF BK105.out 1
          have hfz13_2 := bF BK105.out 2
          have hfz13_3 := bF BK105.out 3
          go_wp2
          go_loopg [30] kj5 (fun kq v30 w' => ∃ (x30_3 : Int), v30 = .int .i64 x30_3 ∧ Aside0 (ergolaw13_Few.l1 kq l0 (l0.length : Int) x12_1 ((rd_T36 l0 x12_1).f2) (((rd_T36 l0 x12_1).f2).length : Int) x30_3 = some r) ∧ Aside0 (kq ≤ kj5) ∧ Aside0 (w'.heap[gb105]? = some (.cells #[.int .i64 ((rd_T36 l0 x12_1).f0.f0), (.slice A104_1 ((rd_T36 l0 x12_1).f0.f1).length c104_1), .int .i64 ((rd_T36 l0 x12_1).f1), (.slice A104_3 ((rd_T36 l0 x12_1).f2).length c104_3)] 36 (0, 0))) ∧ Aside0 (Below w.heap.size w w'))
          case atStart => exact ⟨(0), (by first | rfl | (simp; done) | (simp [*]; done)), H', ⟨Nat.le_refl _⟩, ⟨by (with_reducible repeat (first | refine bDN ?_ _ | refine bD ?_ | refine bA ?_ _)); exact BK105.out⟩, ⟨by repeat (first | (with_reducible first | exact HB.out | apply lA_ | apply pD | apply lD_ | refine lS_ ?_ GE105.out) | exact HB.out)⟩⟩
          case round =>
           clear H'
           try clear c1
           try clear p1
           try clear q1
           try clear hx1
           try clear c2
           try clear c2b0
           try clear c2b1
           try clear p2
           try clear c3
           try clear c3b0
           try clear c4
           try clear c4b0
           try clear c5
           try clear c5b0
           try clear c8
           try clear c9
           try clear c9b0
           try clear c9b1
           try clear c10
           try clear p10
           try clear q10
           try clear hx10
           try clear c12
           try clear hcz10_0
           try clear hcz10_1
           try clear hcz10_2
           try clear hcz10_3
           try clear hcz11_0
           try clear hcz11_1
           try clear hcz11_2
           try clear hcz11_3
           try clear hcz13_0
           try clear hcz13_1
           try clear hcz13_2
           try clear hcz13_3
           try clear hcz8_0
           try clear hcz8_1
           try clear hcz8_2
           try clear hcz8_3
           try clear hfz10_0
           try clear hfz10_1
           try clear hfz10_2
           try clear hfz10_3
           try clear hfz11_0
           try clear hfz11_1
           try clear hfz11_2
           try clear hfz11_3
           try clear hfz13_0
           try clear hfz13_1
           try clear hfz13_2
           try clear hfz13_3
           try clear hfz8_0
           try clear hfz8_1
           try clear hfz8_2
           try clear hfz8_3
           try clear hx104_0
           try clear hx104_1
           try clear hx104_2
           try clear hx104_3
           try clear p1
           try clear p10
           try clear p104
           try clear p2
           try clear q1
           try clear q10
           try clear q104
           obtain ⟨x30_3, rfl, HA, HK3, BK105, HB⟩ := hrel
           cases gk with
           | zero => exact absurd HA.out (by simp [ergolaw13_Few.l1])
           | succ k3 =>
            have H := HA.out
            clear HA
            simp only [ergolaw13_Few.l1] at H
            by_cases c14 : x30_3 < (((rd_T36 l0 x12_1).f2).length : Int)
            ·rw [if_pos c14] at H
             have c14b0 : decide (x30_3 < (((rd_T36 l0 x12_1).f2).length : Int)) = true := decide_eq_true c14
             clear c14
             by_cases c15 : 0 ≤ x30_3
             ·rw [if_pos c15] at H
              have c15b0 : decide (0 ≤ x30_3) = true := decide_eq_true c15
              clear c15
              by_cases c16 : x30_3 < (((rd_T36 l0 x12_1).f2).length : Int)
              ·rw [if_pos c16] at H
               have c16b0 : decide (x30_3 < (((rd_T36 l0 x12_1).f2).length : Int)) = true := decide_eq_true c16
               clear c16
               by_cases c17 : (((rd_T86 ((rd_T36 l0 x12_1).f2) x30_3).f2.f1).length : Int) > 6
               ·rw [if_pos c17] at H
                have c17b0 : decide (6 < (((rd_T86 ((rd_T36 l0 x12_1).f2) x30_3).f2.f1).length : Int)) = true := decide_eq_true c17
                have c17b1 : decide (6 < ((rd_T86 ((rd_T36 l0 x12_1).f2) x30_3).f2.f1).length) = true := decide_eq_true (by omega)
                clear c17
                obtain rfl := Option.some.inj H
                have p106 : 0 ≤ (x30_3 : Int) := of_decide_eq_true (by first | (with_reducible assumption) | assumption)
                have q106 : x30_3 < (((rd_T36 l0 x12_1).f2).length : Int) := of_decide_eq_true (by first | (with_reducible assumption) | assumption)
                obtain ⟨ad106, A106_3, c106_3, A106_14, c106_14, e106, hx106_0, hx106_1, hx106_2, hx106_3, hx106_4, hx106_5, hx106_6, hx106_7, hx106_8, hx106_9, hx106_10, hx106_11, hx106_12, hx106_13, hx106_14, hl106_3, hi106_3, hl106_14, hi106_14⟩ := at_T86 HR104_3.out x30_3 p106 q106
                cases e106
                replace hx106_0 := (HB.out.cell (wb_ w _ hx106_0)).trans hx106_0
                replace hx106_1 := (HB.out.cell (wb_ w _ hx106_1)).trans hx106_1
                replace hx106_2 := (HB.out.cell (wb_ w _ hx106_2)).trans hx106_2
                replace hx106_3 := (HB.out.cell (wb_ w _ hx106_3)).trans hx106_3
                replace hx106_4 := (HB.out.cell (wb_ w _ hx106_4)).trans hx106_4
                replace hx106_5 := (HB.out.cell (wb_ w _ hx106_5)).trans hx106_5
                replace hx106_6 := (HB.out.cell (wb_ w _ hx106_6)).trans hx106_6
                replace hx106_7 := (HB.out.cell (wb_ w _ hx106_7)).trans hx106_7
                replace hx106_8 := (HB.out.cell (wb_ w _ hx106_8)).trans hx106_8
                replace hx106_9 := (HB.out.cell (wb_ w _ hx106_9)).trans hx106_9
                replace hx106_10 := (HB.out.cell (wb_ w _ hx106_10)).trans hx106_10
                replace hx106_11 := (HB.out.cell (wb_ w _ hx106_11)).trans hx106_11
                replace hx106_12 := (HB.out.cell (wb_ w _ hx106_12)).trans hx106_12
                replace hx106_13 := (HB.out.cell (wb_ w _ hx106_13)).trans hx106_13
                replace hx106_14 := (HB.out.cell (wb_ w _ hx106_14)).trans hx106_14
                have HR106_3 := aK_ hi106_3
                have HC106_3 := aK_ hl106_3
                clear hi106_3 hl106_3
                have HR106_14 := aK_ hi106_14
                have HC106_14 := aK_ hl106_14
                clear hi106_14 hl106_14
                replace p106 := eq_true p106
                replace q106 := eq_true q106
                go_wp2_with (first | ((with_reducible refine gate_dst (N := 6) rfl ?_); (try (refine gate_guard (by rfl) ?_; dsimp only)); refine box_event ?hg (N := 6) ?hd (cs := #[.int .i64 0, .int .i64 0, .int .i64 0, .slice none 0 0, .int .i64 0, .int .i64 0, .int .i64 0, .int .i64 0, .int .i64 0, .int .i64 0, .int .i64 0, .int .i64 0, .int .i64 0, .int .i64 0, .slice none 0 0]) (t := 86) ?hr ?_; (case hd => rfl); (case hg => rfl); (case hr => first | (go_simp; done) | (go_simp; rfl)); intro gb107 hg w18 hbox hb; have n0_ := aK_ (bB (by (with_reducible repeat (first | refine bDN ?_ _ | refine bD ?_ | refine bA ?_ _)); exact BK105.out) hb); have n1_ := aK_ (lT_ (by repeat (first | (with_reducible first | exact HB.out | apply lA_ | apply pD | apply lD_ | refine lS_ ?_ GE105.out) | exact HB.out)) hb); have n2_ := aK_ (hbox); have n3_ := aK_ ((by rw [hg]; exact (lZ_ (by repeat (first | (with_reducible first | exact HB.out | apply lA_ | apply pD | apply lD_ | refine lS_ ?_ GE105.out) | exact HB.out))) : w.heap.size ≤ gb107)); have n4_ := aK_ ((by rw [hg]; exact (lZ_ (by repeat (first | (with_reducible first | exact HB.out | apply lA_ | apply pD | apply lD_ | refine lS_ ?_ GE105.out) | exact HB.out))) : w.heap.size ≤ gb107)); have n5_ := aK_ ((by rw [hg]; exact Nat.ne_of_lt (blk_lt (g := gb105) (o := .cells #[.int .i64 ((rd_T36 l0 x12_1).f0.f0), .slice A104_1 ((rd_T36 l0 x12_1).f0.f1).length c104_1, .int .i64 ((rd_T36 l0 x12_1).f1), .slice (some ad106) ((rd_T36 l0 x12_1).f2).length c104_3] 36 (0, 0)) (by (with_reducible repeat (first | refine bDN ?_ _ | refine bD ?_ | refine bA ?_ _)); exact BK105.out)) : gb105 ≠ gb107)); have n6_ := aK_ ((by rw [hg]; exact Nat.ne_of_gt (blk_lt (g := gb105) (o := .cells #[.int .i64 ((rd_T36 l0 x12_1).f0.f0), .slice A104_1 ((rd_T36 l0 x12_1).f0.f1).length c104_1, .int .i64 ((rd_T36 l0 x12_1).f1), .slice (some ad106) ((rd_T36 l0 x12_1).f2).length c104_3] 36 (0, 0)) (by (with_reducible repeat (first | refine bDN ?_ _ | refine bD ?_ | refine bA ?_ _)); exact BK105.out)) : gb107 ≠ gb105)); clear BK105; clear HB; have BK105 := n0_; have HB := n1_; have BK107 := n2_; have GW107 := n3_; have GE107 := n4_; have NB105_107 := n5_; have NB107_105 := n6_; clear n0_ n1_ n2_ n3_ n4_ n5_ n6_; clear hb hbox hg; have hnb19 := NB107_105.out; have hnc19 := NB105_107.out; have hcz20_0 : w18.cell? ⟨gb107, 0, none⟩ = some (.int .i64 0) := (bC BK107.out 0).trans rfl; have hcz20_1 : w18.cell? ⟨gb107, 1, none⟩ = some (.int .i64 0) := (bC BK107.out 1).trans rfl; have hcz20_2 : w18.cell? ⟨gb107, 2, none⟩ = some (.int .i64 0) := (bC BK107.out 2).trans rfl; have hcz20_3 : w18.cell? ⟨gb107, 3, none⟩ = some (.slice none 0 0) := (bC BK107.out 3).trans rfl; have hcz20_4 : w18.cell? ⟨gb107, 4, none⟩ = some (.int .i64 0) := (bC BK107.out 4).trans rfl; have hcz20_5 : w18.cell? ⟨gb107, 5, none⟩ = some (.int .i64 0) := (bC BK107.out 5).trans rfl; have hcz20_6 : w18.cell? ⟨gb107, 6, none⟩ = some (.int .i64 0) := (bC BK107.out 6).trans rfl; have hcz20_7 : w18.cell? ⟨gb107, 7, none⟩ = some (.int .i64 0) := (bC BK107.out 7).trans rfl; have hcz20_8 : w18.cell? ⟨gb107, 8, none⟩ = some (.int .i64 0) := (bC BK107.out 8).trans rfl; have hcz20_9 : w18.cell? ⟨gb107, 9, none⟩ = some (.int .i64 0) := (bC BK107.out 9).trans rfl; have hcz20_10 : w18.cell? ⟨gb107, 10, none⟩ = some (.int .i64 0) := (bC BK107.out 10).trans rfl; have hcz20_11 : w18.cell? ⟨gb107, 11, none⟩ = some (.int .i64 0) := (bC BK107.out 11).trans rfl; have hcz20_12 : w18.cell? ⟨gb107, 12, none⟩ = some (.int .i64 0) := (bC BK107.out 12).trans rfl; have hcz20_13 : w18.cell? ⟨gb107, 13, none⟩ = some (.int .i64 0) := (bC BK107.out 13).trans rfl; have hcz20_14 : w18.cell? ⟨gb107, 14, none⟩ = some (.slice none 0 0) := (bC BK107.out 14).trans rfl; have hfz20_0 := bF BK107.out 0; have hfz20_1 := bF BK107.out 1; have hfz20_2 := bF BK107.out 2; have hfz20_3 := bF BK107.out 3; have hfz20_4 := bF BK107.out 4; have hfz20_5 := bF BK107.out 5; have hfz20_6 := bF BK107.out 6; have hfz20_7 := bF BK107.out 7; have hfz20_8 := bF BK107.out 8; have hfz20_9 := bF BK107.out 9; have hfz20_10 := bF BK107.out 10; have hfz20_11 := bF BK107.out 11; have hfz20_12 := bF BK107.out 12; have hfz20_13 := bF BK107.out 13; have hfz20_14 := bF BK107.out 14))
                go_ret
                exact ⟨by first | rfl | (simp [errW_none, errW_some] <;> rfl) | (simp [*, errW_none, errW_some] <;> rfl), by repeat (first | (with_reducible first | exact HB.out | apply lA_ | apply pD | apply lD_ | refine lS_ ?_ GE105.out | refine lS_ ?_ GE107.out) | exact HB.out)⟩
               ·rw [if_neg c17] at H
                have c17b0 : decide (6 < (((rd_T86 ((rd_T36 l0 x12_1).f2) x30_3).f2.f1).length : Int)) = false := decide_eq_false c17
                have c17b1 : decide (6 < ((rd_T86 ((rd_T36 l0 x12_1).f2) x30_3).f2.f1).length) = false := decide_eq_false (by omega)
                clear c17
                replace H := Option.bind_eq_some_iff.mp H
                obtain ⟨t108, A210, H⟩ := H
                replace H : (if t108 > 40 then (some false) else (ergolaw13_Few.l1 k3 l0 (l0.length : Int) x12_1 ((rd_T36 l0 x12_1).f2) (((rd_T36 l0 x12_1).f2).length : Int) (wrap64 (x30_3 + 1)))) = some r := H
                have A21 := aK_ A210
                clear A210
                by_cases c22 : t108 > 40
                ·rw [if_pos c22] at H
                 have c22b0 : decide (40 < t108) = true := decide_eq_true c22
                 clear c22
                 obtain rfl := Option.some.inj H
                 have p106 : 0 ≤ (x30_3 : Int) := of_decide_eq_true (by first | (with_reducible assumption) | assumption)
                 have q106 : x30_3 < (((rd_T36 l0 x12_1).f2).length : Int) := of_decide_eq_true (by first | (with_reducible assumption) | assumption)
                 obtain ⟨ad106, A106_3, c106_3, A106_14, c106_14, e106, hx106_0, hx106_1, hx106_2, hx106_3, hx106_4, hx106_5, hx106_6, hx106_7, hx106_8, hx106_9, hx106_10, hx106_11, hx106_12, hx106_13, hx106_14, hl106_3, hi106_3, hl106_14, hi106_14⟩ := at_T86 HR104_3.out x30_3 p106 q106
                 cases e106
                 replace hx106_0 := (HB.out.cell (wb_ w _ hx106_0)).trans hx106_0
                 replace hx106_1 := (HB.out.cell (wb_ w _ hx106_1)).trans hx106_1
                 replace hx106_2 := (HB.out.cell (wb_ w _ hx106_2)).trans hx106_2
                 replace hx106_3 := (HB.out.cell (wb_ w _ hx106_3)).trans hx106_3
                 replace hx106_4 := (HB.out.cell (wb_ w _ hx106_4)).trans hx106_4
                 replace hx106_5 := (HB.out.cell (wb_ w _ hx106_5)).trans hx106_5
                 replace hx106_6 := (HB.out.cell (wb_ w _ hx106_6)).trans hx106_6
                 replace hx106_7 := (HB.out.cell (wb_ w _ hx106_7)).trans hx106_7
                 replace hx106_8 := (HB.out.cell (wb_ w _ hx106_8)).trans hx106_8
                 replace hx106_9 := (HB.out.cell (wb_ w _ hx106_9)).trans hx106_9
                 replace hx106_10 := (HB.out.cell (wb_ w _ hx106_10)).trans hx106_10
                 replace hx106_11 := (HB.out.cell (wb_ w _ hx106_11)).trans hx106_11
                 replace hx106_12 := (HB.out.cell (wb_ w _ hx106_12)).trans hx106_12
                 replace hx106_13 := (HB.out.cell (wb_ w _ hx106_13)).trans hx106_13
                 replace hx106_14 := (HB.out.cell (wb_ w _ hx106_14)).trans hx106_14
                 have HR106_3 := aK_ hi106_3
                 have HC106_3 := aK_ hl106_3
                 clear hi106_3 hl106_3
                 have HR106_14 := aK_ hi106_14
                 have HC106_14 := aK_ hl106_14
                 clear hi106_14 hl106_14
                 replace p106 := eq_true p106
                 replace q106 := eq_true q106
                 go_wp2_with (first | ((with_reducible refine gate_dst (N := 6) rfl ?_); (try (refine gate_guard (by rfl) ?_; dsimp only)); refine box_event ?hg (N := 6) ?hd (cs := #[.int .i64 0, .int .i64 0, .int .i64 0, .slice none 0 0, .int .i64 0, .int .i64 0, .int .i64 0, .int .i64 0, .int .i64 0, .int .i64 0, .int .i64 0, .int .i64 0, .int .i64 0, .int .i64 0, .slice none 0 0]) (t := 86) ?hr ?_; (case hd => rfl); (case hg => rfl); (case hr => first | (go_simp; done) | (go_simp; rfl)); intro gb107 hg w23 hbox hb; have n0_ := aK_ (bB (by (with_reducible repeat (first | refine bDN ?_ _ | refine bD ?_ | refine bA ?_ _)); exact BK105.out) hb); have n1_ := aK_ (lT_ (by repeat (first | (with_reducible first | exact HB.out | apply lA_ | apply pD | apply lD_ | refine lS_ ?_ GE105.out) | exact HB.out)) hb); have n2_ := aK_ (hbox); have n3_ := aK_ ((by rw [hg]; exact (lZ_ (by repeat (first | (with_reducible first | exact HB.out | apply lA_ | apply pD | apply lD_ | refine lS_ ?_ GE105.out) | exact HB.out))) : w.heap.size ≤ gb107)); have n4_ := aK_ ((by rw [hg]; exact (lZ_ (by repeat (first | (with_reducible first | exact HB.out | apply lA_ | apply pD | apply lD_ | refine lS_ ?_ GE105.out) | exact HB.out))) : w.heap.size ≤ gb107)); have n5_ := aK_ ((by rw [hg]; exact Nat.ne_of_lt (blk_lt (g := gb105) (o := .cells #[.int .i64 ((rd_T36 l0 x12_1).f0.f0), .slice A104_1 ((rd_T36 l0 x12_1).f0.f1).length c104_1, .int .i64 ((rd_T36 l0 x12_1).f1), .slice (some ad106) ((rd_T36 l0 x12_1).f2).length c104_3] 36 (0, 0)) (by (with_reducible repeat (first | refine bDN ?_ _ | refine bD ?_ | refine bA ?_ _)); exact BK105.out)) : gb105 ≠ gb107)); have n6_ := aK_ ((by rw [hg]; exact Nat.ne_of_gt (blk_lt (g := gb105) (o := .cells #[.int .i64 ((rd_T36 l0 x12_1).f0.f0), .slice A104_1 ((rd_T36 l0 x12_1).f0.f1).length c104_1, .int .i64 ((rd_T36 l0 x12_1).f1), .slice (some ad106) ((rd_T36 l0 x12_1).f2).length c104_3] 36 (0, 0)) (by (with_reducible repeat (first | refine bDN ?_ _ | refine bD ?_ | refine bA ?_ _)); exact BK105.out)) : gb107 ≠ gb105)); clear BK105; clear HB; have BK105 := n0_; have HB := n1_; have BK107 := n2_; have GW107 := n3_; have GE107 := n4_; have NB105_107 := n5_; have NB107_105 := n6_; clear n0_ n1_ n2_ n3_ n4_ n5_ n6_; clear hb hbox hg; have hnb24 := NB107_105.out; have hnc24 := NB105_107.out; have hcz25_0 : w23.cell? ⟨gb107, 0, none⟩ = some (.int .i64 0) := (bC BK107.out 0).trans rfl; have hcz25_1 : w23.cell? ⟨gb107, 1, none⟩ = some (.int .i64 0) := (bC BK107.out 1).trans rfl; have hcz25_2 : w23.cell? ⟨gb107, 2, none⟩ = some (.int .i64 0) := (bC BK107.out 2).trans rfl; have hcz25_3 : w23.cell? ⟨gb107, 3, none⟩ = some (.slice none 0 0) := (bC BK107.out 3).trans rfl; have hcz25_4 : w23.cell? ⟨gb107, 4, none⟩ = some (.int .i64 0) := (bC BK107.out 4).trans rfl; have hcz25_5 : w23.cell? ⟨gb107, 5, none⟩ = some (.int .i64 0) := (bC BK107.out 5).trans rfl; have hcz25_6 : w23.cell? ⟨gb107, 6, none⟩ = some (.int .i64 0) := (bC BK107.out 6).trans rfl; have hcz25_7 : w23.cell? ⟨gb107, 7, none⟩ = some (.int .i64 0) := (bC BK107.out 7).trans rfl; have hcz25_8 : w23.cell? ⟨gb107, 8, none⟩ = some (.int .i64 0) := (bC BK107.out 8).trans rfl; have hcz25_9 : w23.cell? ⟨gb107, 9, none⟩ = some (.int .i64 0) := (bC BK107.out 9).trans rfl; have hcz25_10 : w23.cell? ⟨gb107, 10, none⟩ = some (.int .i64 0) := (bC BK107.out 10).trans rfl; have hcz25_11 : w23.cell? ⟨gb107, 11, none⟩ = some (.int .i64 0) := (bC BK107.out 11).trans rfl; have hcz25_12 : w23.cell? ⟨gb107, 12, none⟩ = some (.int .i64 0) := (bC BK107.out 12).trans rfl; have hcz25_13 : w23.cell? ⟨gb107, 13, none⟩ = some (.int .i64 0) := (bC BK107.out 13).trans rfl; have hcz25_14 : w23.cell? ⟨gb107, 14, none⟩ = some (.slice none 0 0) := (bC BK107.out 14).trans rfl; have hfz25_0 := bF BK107.out 0; have hfz25_1 := bF BK107.out 1; have hfz25_2 := bF BK107.out 2; have hfz25_3 := bF BK107.out 3; have hfz25_4 := bF BK107.out 4; have hfz25_5 := bF BK107.out 5; have hfz25_6 := bF BK107.out 6; have hfz25_7 := bF BK107.out 7; have hfz25_8 := bF BK107.out 8; have hfz25_9 := bF BK107.out 9; have hfz25_10 := bF BK107.out 10; have hfz25_11 := bF BK107.out 11; have hfz25_12 := bF BK107.out 12; have hfz25_13 := bF BK107.out 13; have hfz25_14 := bF BK107.out 14) | (go_at_call 25; (with_reducible refine (ergolaw13_E_Count.calls k3 ((rd_T86 ((rd_T36 l0 x12_1).f2) x30_3).f5.f0.f0) ((rd_T86 ((rd_T36 l0 x12_1).f2) x30_3).f5.f0.f1) ((rd_T86 ((rd_T36 l0 x12_1).f2) x30_3).f5.f0.f2) ((rd_T86 ((rd_T36 l0 x12_1).f2) x30_3).f5.f1) _ _ ((rd_T86 ((rd_T36 l0 x12_1).f2) x30_3).f5.f2) 0 t108 _ ?side1 ?side2 A21.out).mono ?_); (case side1 => exact Kd.C_below HR106_14.out (by repeat (first | (with_reducible first | exact HB.out | apply lA_ | apply pD | apply lD_ | refine lS_ ?_ GE105.out | refine lS_ ?_ GE107.out) | exact HB.out))); (case side2 => exact HC106_14.out); rintro e w26 ⟨rfl, hb⟩; have n0_ := aK_ (bB (g := gb105) (o := .cells #[.int .i64 ((rd_T36 l0 x12_1).f0.f0), .slice A104_1 ((rd_T36 l0 x12_1).f0.f1).length c104_1, .int .i64 ((rd_T36 l0 x12_1).f1), .slice (some ad106) ((rd_T36 l0 x12_1).f2).length c104_3] 36 (0, 0)) (by (with_reducible repeat (first | refine bDN ?_ _ | refine bD ?_ | refine bA ?_ _)); refine blk_far ?_ NB105_107.out _; (with_reducible repeat (first | refine bDN ?_ _ | refine bD ?_ | refine bA ?_ _)); refine blk_far ?_ NB105_107.out _; (with_reducible repeat (first | refine bDN ?_ _ | refine bD ?_ | refine bA ?_ _)); refine blk_far ?_ NB105_107.out _; (with_reducible repeat (first | refine bDN ?_ _ | refine bD ?_ | refine bA ?_ _)); refine blk_far ?_ NB105_107.out _; (with_reducible repeat (first | refine bDN ?_ _ | refine bD ?_ | refine bA ?_ _)); refine blk_far ?_ NB105_107.out _; (with_reducible repeat (first | refine bDN ?_ _ | refine bD ?_ | refine bA ?_ _)); refine blk_far ?_ NB105_107.out _; (with_reducible repeat (first | refine bDN ?_ _ | refine bD ?_ | refine bA ?_ _)); refine blk_far ?_ NB105_107.out _; (with_reducible repeat (first | refine bDN ?_ _ | refine bD ?_ | refine bA ?_ _)); refine blk_far ?_ NB105_107.out _; (with_reducible repeat (first | refine bDN ?_ _ | refine bD ?_ | refine bA ?_ _)); refine blk_far ?_ NB105_107.out _; (with_reducible repeat (first | refine bDN ?_ _ | refine bD ?_ | refine bA ?_ _)); refine blk_far ?_ NB105_107.out _; (with_reducible repeat (first | refine bDN ?_ _ | refine bD ?_ | refine bA ?_ _)); refine blk_far ?_ NB105_107.out _; (with_reducible repeat (first | refine bDN ?_ _ | refine bD ?_ | refine bA ?_ _)); refine blk_far ?_ NB105_107.out _; (with_reducible repeat (first | refine bDN ?_ _ | refine bD ?_ | refine bA ?_ _)); refine blk_far ?_ NB105_107.out _; (with_reducible repeat (first | refine bDN ?_ _ | refine bD ?_ | refine bA ?_ _)); refine blk_far ?_ NB105_107.out _; (with_reducible repeat (first | refine bDN ?_ _ | refine bD ?_ | refine bA ?_ _)); refine blk_far ?_ NB105_107.out _; (with_reducible repeat (first | refine bDN ?_ _ | refine bD ?_ | refine bA ?_ _)); exact BK105.out) hb); have n1_ := aK_ (bB (g := gb107) (o := .cells #[.int .i64 ((rd_T86 ((rd_T36 l0 x12_1).f2) x30_3).f0), .int .i64 ((rd_T86 ((rd_T36 l0 x12_1).f2) x30_3).f1), .int .i64 ((rd_T86 ((rd_T36 l0 x12_1).f2) x30_3).f2.f0), .slice A106_3 ((rd_T86 ((rd_T36 l0 x12_1).f2) x30_3).f2.f1).length c106_3, .int .i64 ((rd_T86 ((rd_T36 l0 x12_1).f2) x30_3).f3.f0), .int .i64 ((rd_T86 ((rd_T36 l0 x12_1).f2) x30_3).f3.f1), .int .i64 ((rd_T86 ((rd_T36 l0 x12_1).f2) x30_3).f3.f2), .int .i64 ((rd_T86 ((rd_T36 l0 x12_1).f2) x30_3).f4.f0), .int .i64 ((rd_T86 ((rd_T36 l0 x12_1).f2) x30_3).f4.f1), .int .i64 ((rd_T86 ((rd_T36 l0 x12_1).f2) x30_3).f4.f2), .int .i64 ((rd_T86 ((rd_T36 l0 x12_1).f2) x30_3).f5.f0.f0), .int .i64 ((rd_T86 ((rd_T36 l0 x12_1).f2) x30_3).f5.f0.f1), .int .i64 ((rd_T86 ((rd_T36 l0 x12_1).f2) x30_3).f5.f0.f2), .int .i64 ((rd_T86 ((rd_T36 l0 x12_1).f2) x30_3).f5.f1), .slice A106_14 ((rd_T86 ((rd_T36 l0 x12_1).f2) x30_3).f5.f2).length c106_14] 86 (0, 0)) ((by apply eC_; (with_reducible repeat (first | refine bDN ?_ _ | refine bD ?_ | refine bA ?_ _)); apply b2_; (with_reducible repeat (first | refine bDN ?_ _ | refine bD ?_ | refine bA ?_ _)); apply b2_; (with_reducible repeat (first | refine bDN ?_ _ | refine bD ?_ | refine bA ?_ _)); apply b2_; (with_reducible repeat (first | refine bDN ?_ _ | refine bD ?_ | refine bA ?_ _)); apply b2_; (with_reducible repeat (first | refine bDN ?_ _ | refine bD ?_ | refine bA ?_ _)); apply b2_; (with_reducible repeat (first | refine bDN ?_ _ | refine bD ?_ | refine bA ?_ _)); apply b2_; (with_reducible repeat (first | refine bDN ?_ _ | refine bD ?_ | refine bA ?_ _)); apply b2_; (with_reducible repeat (first | refine bDN ?_ _ | refine bD ?_ | refine bA ?_ _)); apply b2_; (with_reducible repeat (first | refine bDN ?_ _ | refine bD ?_ | refine bA ?_ _)); apply b2_; (with_reducible repeat (first | refine bDN ?_ _ | refine bD ?_ | refine bA ?_ _)); apply b2_; (with_reducible repeat (first | refine bDN ?_ _ | refine bD ?_ | refine bA ?_ _)); apply b2_; (with_reducible repeat (first | refine bDN ?_ _ | refine bD ?_ | refine bA ?_ _)); apply b2_; (with_reducible repeat (first | refine bDN ?_ _ | refine bD ?_ | refine bA ?_ _)); apply b2_; (with_reducible repeat (first | refine bDN ?_ _ | refine bD ?_ | refine bA ?_ _)); apply b2_; (with_reducible repeat (first | refine bDN ?_ _ | refine bD ?_ | refine bA ?_ _)); apply b2_; (with_reducible repeat (first | refine bDN ?_ _ | refine bD ?_ | refine bA ?_ _)); exact BK107.out; kernel_rfl)) hb); have n2_ := aK_ (lT_ (by repeat (first | (with_reducible first | exact HB.out | apply lA_ | apply pD | apply lD_ | refine lS_ ?_ GE105.out | refine lS_ ?_ GE107.out) | exact HB.out)) hb); clear BK105; clear BK107; clear HB; have BK105 := n0_; have BK107 := n1_; have HB := n2_; clear n0_ n1_ n2_; (try clear hb); (try clear hb2); (try clear hk); (try clear hi)))
                 go_ret
                 exact ⟨by first | rfl | (simp [errW_none, errW_some] <;> rfl) | (simp [*, errW_none, errW_some] <;> rfl), by repeat (first | (with_reducible first | exact HB.out | apply lA_ | apply pD | apply lD_ | refine lS_ ?_ GE105.out | refine lS_ ?_ GE107.out) | exact HB.out)⟩
                ·rw [if_neg c22] at H
                 have c22b0 : decide (40 < t108) = false := decide_eq_false c22
                 clear c22
                 have H' := aK_ H
                 clear H
                 have p106 : 0 ≤ (x30_3 : Int) := of_decide_eq_true (by first | (with_reducible assumption) | assumption)
                 have q106 : x30_3 < (((rd_T36 l0 x12_1).f2).length : Int) := of_decide_eq_true (by first | (with_reducible assumption) | assumption)
                 obtain ⟨ad106, A106_3, c106_3, A106_14, c106_14, e106, hx106_0, hx106_1, hx106_2, hx106_3, hx106_4, hx106_5, hx106_6, hx106_7, hx106_8, hx106_9, hx106_10, hx106_11, hx106_12, hx106_13, hx106_14, hl106_3, hi106_3, hl106_14, hi106_14⟩ := at_T86 HR104_3.out x30_3 p106 q106
                 cases e106
                 replace hx106_0 := (HB.out.cell (wb_ w _ hx106_0)).trans hx106_0
                 replace hx106_1 := (HB.out.cell (wb_ w _ hx106_1)).trans hx106_1
                 replace hx106_2 := (HB.out.cell (wb_ w _ hx106_2)).trans hx106_2
                 replace hx106_3 := (HB.out.cell (wb_ w _ hx106_3)).trans hx106_3
                 replace hx106_4 := (HB.out.cell (wb_ w _ hx106_4)).trans hx106_4
                 replace hx106_5 := (HB.out.cell (wb_ w _ hx106_5)).trans hx106_5
                 replace hx106_6 := (HB.out.cell (wb_ w _ hx106_6)).trans hx106_6
                 replace hx106_7 := (HB.out.cell (wb_ w _ hx106_7)).trans hx106_7
                 replace hx106_8 := (HB.out.cell (wb_ w _ hx106_8)).trans hx106_8
                 replace hx106_9 := (HB.out.cell (wb_ w _ hx106_9)).trans hx106_9
                 replace hx106_10 := (HB.out.cell (wb_ w _ hx106_10)).trans hx106_10
                 replace hx106_11 := (HB.out.cell (wb_ w _ hx106_11)).trans hx106_11
                 replace hx106_12 := (HB.out.cell (wb_ w _ hx106_12)).trans hx106_12
                 replace hx106_13 := (HB.out.cell (wb_ w _ hx106_13)).trans hx106_13
                 replace hx106_14 := (HB.out.cell (wb_ w _ hx106_14)).trans hx106_14
                 have HR106_3 := aK_ hi106_3
                 have HC106_3 := aK_ hl106_3
                 clear hi106_3 hl106_3
                 have HR106_14 := aK_ hi106_14
                 have HC106_14 := aK_ hl106_14
                 clear hi106_14 hl106_14
                 replace p106 := eq_true p106
                 replace q106 := eq_true q106
                 go_wp2_with (first | ((with_reducible refine gate_dst (N := 6) rfl ?_); (try (refine gate_guard (by rfl) ?_; dsimp only)); refine box_event ?hg (N := 6) ?hd (cs := #[.int .i64 0, .int .i64 0, .int .i64 0, .slice none 0 0, .int .i64 0, .int .i64 0, .int .i64 0, .int .i64 0, .int .i64 0, .int .i64 0, .int .i64 0, .int .i64 0, .int .i64 0, .int .i64 0, .slice none 0 0]) (t := 86) ?hr ?_; (case hd => rfl); (case hg => rfl); (case hr => first | (go_simp; done) | (go_simp; rfl)); intro gb107 hg w27 hbox hb; have n0_ := aK_ (bB (by (with_reducible repeat (first | refine bDN ?_ _ | refine bD ?_ | refine bA ?_ _)); exact BK105.out) hb); have n1_ := aK_ (lT_ (by repeat (first | (with_reducible first | exact HB.out | apply lA_ | apply pD | apply lD_ | refine lS_ ?_ GE105.out) | exact HB.out)) hb); have n2_ := aK_ (hbox); have n3_ := aK_ ((by rw [hg]; exact (lZ_ (by repeat (first | (with_reducible first | exact HB.out | apply lA_ | apply pD | apply lD_ | refine lS_ ?_ GE105.out) | exact HB.out))) : w.heap.size ≤ gb107)); have n4_ := aK_ ((by rw [hg]; exact (lZ_ (by repeat (first | (with_reducible first | exact HB.out | apply lA_ | apply pD | apply lD_ | refine lS_ ?_ GE105.out) | exact HB.out))) : w.heap.size ≤ gb107)); have n5_ := aK_ ((by rw [hg]; exact Nat.ne_of_lt (blk_lt (g := gb105) (o := .cells #[.int .i64 ((rd_T36 l0 x12_1).f0.f0), .slice A104_1 ((rd_T36 l0 x12_1).f0.f1).length c104_1, .int .i64 ((rd_T36 l0 x12_1).f1), .slice (some ad106) ((rd_T36 l0 x12_1).f2).length c104_3] 36 (0, 0)) (by (with_reducible repeat (first | refine bDN ?_ _ | refine bD ?_ | refine bA ?_ _)); exact BK105.out)) : gb105 ≠ gb107)); have n6_ := aK_ ((by rw [hg]; exact Nat.ne_of_gt (blk_lt (g := gb105) (o := .cells #[.int .i64 ((rd_T36 l0 x12_1).f0.f0), .slice A104_1 ((rd_T36 l0 x12_1).f0.f1).length c104_1, .int .i64 ((rd_T36 l0 x12_1).f1), .slice (some ad106) ((rd_T36 l0 x12_1).f2).length c104_3] 36 (0, 0)) (by (with_reducible repeat (first | refine bDN ?_ _ | refine bD ?_ | refine bA ?_ _)); exact BK105.out)) : gb107 ≠ gb105)); clear BK105; clear HB; have BK105 := n0_; have HB := n1_; have BK107 := n2_; have GW107 := n3_; have GE107 := n4_; have NB105_107 := n5_; have NB107_105 := n6_; clear n0_ n1_ n2_ n3_ n4_ n5_ n6_; clear hb hbox hg; have hnb28 := NB107_105.out; have hnc28 := NB105_107.out; have hcz29_0 : w27.cell? ⟨gb107, 0, none⟩ = some (.int .i64 0) := (bC BK107.out 0).trans rfl; have hcz29_1 : w27.cell? ⟨gb107, 1, none⟩ = some (.int .i64 0) := (bC BK107.out 1).trans rfl; have hcz29_2 : w27.cell? ⟨gb107, 2, none⟩ = some (.int .i64 0) := (bC BK107.out 2).trans rfl; have hcz29_3 : w27.cell? ⟨gb107, 3, none⟩ = some (.slice none 0 0) := (bC BK107.out 3).trans rfl; have hcz29_4 : w27.cell? ⟨gb107, 4, none⟩ = some (.int .i64 0) := (bC BK107.out 4).trans rfl; have hcz29_5 : w27.cell? ⟨gb107, 5, none⟩ = some (.int .i64 0) := (bC BK107.out 5).trans rfl; have hcz29_6 : w27.cell? ⟨gb107, 6, none⟩ = some (.int .i64 0) := (bC BK107.out 6).trans rfl; have hcz29_7 : w27.cell? ⟨gb107, 7, none⟩ = some (.int .i64 0) := (bC BK107.out 7).trans rfl; have hcz29_8 : w27.cell? ⟨gb107, 8, none⟩ = some (.int .i64 0) := (bC BK107.out 8).trans rfl; have hcz29_9 : w27.cell? ⟨gb107, 9, none⟩ = some (.int .i64 0) := (bC BK107.out 9).trans rfl; have hcz29_10 : w27.cell? ⟨gb107, 10, none⟩ = some (.int .i64 0) := (bC BK107.out 10).trans rfl; have hcz29_11 : w27.cell? ⟨gb107, 11, none⟩ = some (.int .i64 0) := (bC BK107.out 11).trans rfl; have hcz29_12 : w27.cell? ⟨gb107, 12, none⟩ = some (.int .i64 0) := (bC BK107.out 12).trans rfl; have hcz29_13 : w27.cell? ⟨gb107, 13, none⟩ = some (.int .i64 0) := (bC BK107.out 13).trans rfl; have hcz29_14 : w27.cell? ⟨gb107, 14, none⟩ = some (.slice none 0 0) := (bC BK107.out 14).trans rfl; have hfz29_0 := bF BK107.out 0; have hfz29_1 := bF BK107.out 1; have hfz29_2 := bF BK107.out 2; have hfz29_3 := bF BK107.out 3; have hfz29_4 := bF BK107.out 4; have hfz29_5 := bF BK107.out 5; have hfz29_6 := bF BK107.out 6; have hfz29_7 := bF BK107.out 7; have hfz29_8 := bF BK107.out 8; have hfz29_9 := bF BK107.out 9; have hfz29_10 := bF BK107.out 10; have hfz29_11 := bF BK107.out 11; have hfz29_12 := bF BK107.out 12; have hfz29_13 := bF BK107.out 13; have hfz29_14 := bF BK107.out 14) | (go_at_call 25; (with_reducible refine (ergolaw13_E_Count.calls k3 ((rd_T86 ((rd_T36 l0 x12_1).f2) x30_3).f5.f0.f0) ((rd_T86 ((rd_T36 l0 x12_1).f2) x30_3).f5.f0.f1) ((rd_T86 ((rd_T36 l0 x12_1).f2) x30_3).f5.f0.f2) ((rd_T86 ((rd_T36 l0 x12_1).f2) x30_3).f5.f1) _ _ ((rd_T86 ((rd_T36 l0 x12_1).f2) x30_3).f5.f2) 0 t108 _ ?side1 ?side2 A21.out).mono ?_); (case side1 => exact Kd.C_below HR106_14.out (by repeat (first | (with_reducible first | exact HB.out | apply lA_ | apply pD | apply lD_ | refine lS_ ?_ GE105.out | refine lS_ ?_ GE107.out) | exact HB.out))); (case side2 => exact HC106_14.out); rintro e w30 ⟨rfl, hb⟩; have n0_ := aK_ (bB (g := gb105) (o := .cells #[.int .i64 ((rd_T36 l0 x12_1).f0.f0), .slice A104_1 ((rd_T36 l0 x12_1).f0.f1).length c104_1, .int .i64 ((rd_T36 l0 x12_1).f1), .slice (some ad106) ((rd_T36 l0 x12_1).f2).length c104_3] 36 (0, 0)) (by (with_reducible repeat (first | refine bDN ?_ _ | refine bD ?_ | refine bA ?_ _)); refine blk_far ?_ NB105_107.out _; (with_reducible repeat (first | refine bDN ?_ _ | refine bD ?_ | refine bA ?_ _)); refine blk_far ?_ NB105_107.out _; (with_reducible repeat (first | refine bDN ?_ _ | refine bD ?_ | refine bA ?_ _)); refine blk_far ?_ NB105_107.out _; (with_reducible repeat (first | refine bDN ?_ _ | refine bD ?_ | refine bA ?_ _)); refine blk_far ?_ NB105_107.out _; (with_reducible repeat (first | refine bDN ?_ _ | refine bD ?_ | refine bA ?_ _)); refine blk_far ?_ NB105_107.out _; (with_reducible repeat (first | refine bDN ?_ _ | refine bD ?_ | refine bA ?_ _)); refine blk_far ?_ NB105_107.out _; (with_reducible repeat (first | refine bDN ?_ _ | refine bD ?_ | refine bA ?_ _)); refine blk_far ?_ NB105_107.out _; (with_reducible repeat (first | refine bDN ?_ _ | refine bD ?_ | refine bA ?_ _)); refine blk_far ?_ NB105_107.out _; (with_reducible repeat (first | refine bDN ?_ _ | refine bD ?_ | refine bA ?_ _)); refine blk_far ?_ NB105_107.out _; (with_reducible repeat (first | refine bDN ?_ _ | refine bD ?_ | refine bA ?_ _)); refine blk_far ?_ NB105_107.out _; (with_reducible repeat (first | refine bDN ?_ _ | refine bD ?_ | refine bA ?_ _)); refine blk_far ?_ NB105_107.out _; (with_reducible repeat (first | refine bDN ?_ _ | refine bD ?_ | refine bA ?_ _)); refine blk_far ?_ NB105_107.out _; (with_reducible repeat (first | refine bDN ?_ _ | refine bD ?_ | refine bA ?_ _)); refine blk_far ?_ NB105_107.out _; (with_reducible repeat (first | refine bDN ?_ _ | refine bD ?_ | refine bA ?_ _)); refine blk_far ?_ NB105_107.out _; (with_reducible repeat (first | refine bDN ?_ _ | refine bD ?_ | refine bA ?_ _)); refine blk_far ?_ NB105_107.out _; (with_reducible repeat (first | refine bDN ?_ _ | refine bD ?_ | refine bA ?_ _)); exact BK105.out) hb); have n1_ := aK_ (bB (g := gb107) (o := .cells #[.int .i64 ((rd_T86 ((rd_T36 l0 x12_1).f2) x30_3).f0), .int .i64 ((rd_T86 ((rd_T36 l0 x12_1).f2) x30_3).f1), .int .i64 ((rd_T86 ((rd_T36 l0 x12_1).f2) x30_3).f2.f0), .slice A106_3 ((rd_T86 ((rd_T36 l0 x12_1).f2) x30_3).f2.f1).length c106_3, .int .i64 ((rd_T86 ((rd_T36 l0 x12_1).f2) x30_3).f3.f0), .int .i64 ((rd_T86 ((rd_T36 l0 x12_1).f2) x30_3).f3.f1), .int .i64 ((rd_T86 ((rd_T36 l0 x12_1).f2) x30_3).f3.f2), .int .i64 ((rd_T86 ((rd_T36 l0 x12_1).f2) x30_3).f4.f0), .int .i64 ((rd_T86 ((rd_T36 l0 x12_1).f2) x30_3).f4.f1), .int .i64 ((rd_T86 ((rd_T36 l0 x12_1).f2) x30_3).f4.f2), .int .i64 ((rd_T86 ((rd_T36 l0 x12_1).f2) x30_3).f5.f0.f0), .int .i64 ((rd_T86 ((rd_T36 l0 x12_1).f2) x30_3).f5.f0.f1), .int .i64 ((rd_T86 ((rd_T36 l0 x12_1).f2) x30_3).f5.f0.f2), .int .i64 ((rd_T86 ((rd_T36 l0 x12_1).f2) x30_3).f5.f1), .slice A106_14 ((rd_T86 ((rd_T36 l0 x12_1).f2) x30_3).f5.f2).length c106_14] 86 (0, 0)) ((by apply eC_; (with_reducible repeat (first | refine bDN ?_ _ | refine bD ?_ | refine bA ?_ _)); apply b2_; (with_reducible repeat (first | refine bDN ?_ _ | refine bD ?_ | refine bA ?_ _)); apply b2_; (with_reducible repeat (first | refine bDN ?_ _ | refine bD ?_ | refine bA ?_ _)); apply b2_; (with_reducible repeat (first | refine bDN ?_ _ | refine bD ?_ | refine bA ?_ _)); apply b2_; (with_reducible repeat (first | refine bDN ?_ _ | refine bD ?_ | refine bA ?_ _)); apply b2_; (with_reducible repeat (first | refine bDN ?_ _ | refine bD ?_ | refine bA ?_ _)); apply b2_; (with_reducible repeat (first | refine bDN ?_ _ | refine bD ?_ | refine bA ?_ _)); apply b2_; (with_reducible repeat (first | refine bDN ?_ _ | refine bD ?_ | refine bA ?_ _)); apply b2_; (with_reducible repeat (first | refine bDN ?_ _ | refine bD ?_ | refine bA ?_ _)); apply b2_; (with_reducible repeat (first | refine bDN ?_ _ | refine bD ?_ | refine bA ?_ _)); apply b2_; (with_reducible repeat (first | refine bDN ?_ _ | refine bD ?_ | refine bA ?_ _)); apply b2_; (with_reducible repeat (first | refine bDN ?_ _ | refine bD ?_ | refine bA ?_ _)); apply b2_; (with_reducible repeat (first | refine bDN ?_ _ | refine bD ?_ | refine bA ?_ _)); apply b2_; (with_reducible repeat (first | refine bDN ?_ _ | refine bD ?_ | refine bA ?_ _)); apply b2_; (with_reducible repeat (first | refine bDN ?_ _ | refine bD ?_ | refine bA ?_ _)); apply b2_; (with_reducible repeat (first | refine bDN ?_ _ | refine bD ?_ | refine bA ?_ _)); exact BK107.out; kernel_rfl)) hb); have n2_ := aK_ (lT_ (by repeat (first | (with_reducible first | exact HB.out | apply lA_ | apply pD | apply lD_ | refine lS_ ?_ GE105.out | refine lS_ ?_ GE107.out) | exact HB.out)) hb); clear BK105; clear BK107; clear HB; have BK105 := n0_; have BK107 := n1_; have HB := n2_; clear n0_ n1_ n2_; (try clear hb); (try clear hb2); (try clear hk); (try clear hi)))
                 go_roundg k3
                 case measure => have := HK1.out; have := HJ5.out; have := HK3.out; omega
                 case rel => exact ⟨(wrap64 (x30_3 + 1)), (by first | rfl | (simp; done) | (simp [*]; done)), H', ⟨by have := HK1.out; have := HJ5.out; have := HK3.out; omega⟩, ⟨by (with_reducible repeat (first | refine bDN ?_ _ | refine bD ?_ | refine bA ?_ _)); exact BK105.out⟩, ⟨by repeat (first | (with_reducible first | exact HB.out | apply lA_ | apply pD | apply lD_ | refine lS_ ?_ GE105.out | refine lS_ ?_ GE107.out) | exact HB.out)⟩⟩
              ·rw [if_neg c16] at H
               exact absurd H (by simp)
             ·rw [if_neg c15] at H
              exact absurd H (by simp)
            ·rw [if_neg c14] at H
             have c14b0 : decide (x30_3 < (((rd_T36 l0 x12_1).f2).length : Int)) = false := decide_eq_false c14
             clear c14
             have H' := aK_ H
             clear H
             go_wp2
             go_roundg k3
             case measure => have := HK1.out; have := HJ5.out; have := HK3.out; omega
             case rel => exact ⟨(wrap64 (x12_1 + 1)), (by first | rfl | (simp; done) | (simp [*]; done)), H', ⟨by have := HK1.out; have := HJ5.out; have := HK3.out; omega⟩, ⟨by repeat (first | (with_reducible first | exact HB.out | apply lA_ | apply pD | apply lD_ | refine lS_ ?_ GE105.out) | exact HB.out)⟩⟩
      ·rw [if_neg c5] at H
       exact absurd H (by simp)
     ·rw [if_neg c4] at H
      exact absurd H (by simp)
    ·rw [if_neg c3] at H
     have c3b0 : decide (x12_1 < (l0.length : Int)) = false := decide_eq_false c3
     clear c3
     obtain rfl := Option.some.inj H
     go_wp2
     go_ret
     exact ⟨by first | rfl | (simp [errW_none, errW_some] <;> rfl) | (simp [*, errW_none, errW_some] <;> rfl), by repeat (first | (with_reducible first | exact HB.out | apply lA_ | apply pD | apply lD_) | exact HB.out)⟩
def ergolaw13_Pred.f (a0 : Int) : Option (ByteArray) := (some (([(⟨#[112]⟩ : ByteArray), (⟨#[113]⟩ : ByteArray), (⟨#[114]⟩ : ByteArray), (⟨#[101, 100, 103, 101]⟩ : ByteArray), (⟨#[112, 97, 116, 104]⟩ : ByteArray), (⟨#[115]⟩ : ByteArray)] : List ByteArray) : List ByteArray)).bind fun y109 => (if 0 ≤ (wrap64 (Int.tmod (IntKind.u64.wrap (a0)) 6)) then (if (wrap64 (Int.tmod (IntKind.u64.wrap (a0)) 6)) < (y109.length : Int) then (some (rdOf ByteArray.empty y109 (wrap64 (Int.tmod (IntKind.u64.wrap (a0)) 6)))) else (none)) else (none))
set_option maxHeartbeats 8000000 in
set_option maxRecDepth 100000 in
theorem ergolaw13_Pred.calls (a0 : Int) (r : ByteArray) (w : World) (h : ergolaw13_Pred.f a0 = some r) :
  Calls Tryd.prog 26 #[.int .i64 a0] w fun e w' => e = .returned (.string r) ∧ Below w.heap.size w w' := by
 have HB := aK_ (Below.refl w.heap.size w)
 have H : ((some (([(⟨#[112]⟩ : ByteArray), (⟨#[113]⟩ : ByteArray), (⟨#[114]⟩ : ByteArray), (⟨#[101, 100, 103, 101]⟩ : ByteArray), (⟨#[112, 97, 116, 104]⟩ : ByteArray), (⟨#[115]⟩ : ByteArray)] : List ByteArray) : List ByteArray)).bind fun y109 => (if 0 ≤ (wrap64 (Int.tmod (IntKind.u64.wrap (a0)) 6)) then (if (wrap64 (Int.tmod (IntKind.u64.wrap (a0)) 6)) < (y109.length : Int) then (some (rdOf ByteArray.empty y109 (wrap64 (Int.tmod (IntKind.u64.wrap (a0)) 6)))) else (none)) else (none))) = some r := h
 clear h
 obtain ⟨y109, hy109⟩ : ∃ y_ : List ByteArray, y_ = (([(⟨#[112]⟩ : ByteArray), (⟨#[113]⟩ : ByteArray), (⟨#[114]⟩ : ByteArray), (⟨#[101, 100, 103, 101]⟩ : ByteArray), (⟨#[112, 97, 116, 104]⟩ : ByteArray), (⟨#[115]⟩ : ByteArray)] : List ByteArray)) := ⟨_, rfl⟩
 replace H : (if 0 ≤ (wrap64 (Int.tmod (IntKind.u64.wrap (a0)) 6)) then (if (wrap64 (Int.tmod (IntKind.u64.wrap (a0)) 6)) < (y109.length : Int) then (some (rdOf ByteArray.empty y109 (wrap64 (Int.tmod (IntKind.u64.wrap (a0)) 6)))) else (none)) else (none)) = some r := by first | (rw [hy109]; with_reducible exact H) | (have H2_ := (Option.bind_some _ _).symm.trans H; rw [hy109]; with_reducible exact H2_) | (have H2_ := (Option.bind_some _ _).symm.trans H; with_reducible exact H2_) | with_reducible exact H | (rw [hy109]; exact H) | exact H
 have Ny109 := aK_ hy109
 clear hy109
 obtain ⟨ji2, hji2⟩ : ∃ j_ : Int, (wrap64 (Int.tmod (IntKind.u64.wrap (a0)) 6)) = j_ := ⟨_, rfl⟩
 replace H : (if 0 ≤ (ji2) then (if (ji2) < (y109.length : Int) then (some (rdOf ByteArray.empty y109 (ji2))) else (none)) else (none)) = some r := by first | (rw [hji2] at H; exact H) | (simp only [hji2] at H ⊢; exact H)
 have hji2w : (IntKind.i64.wrap (Int.tmod (IntKind.u64.wrap (a0)) 6)) = ji2 := (i64_w _).trans hji2
 by_cases c3 : 0 ≤ (ji2)
 ·rw [if_pos c3] at H
  have c3b0 : decide (0 ≤ (ji2)) = true := decide_eq_true c3
  clear c3
  by_cases c4 : (ji2) < (y109.length : Int)
  ·rw [if_pos c4] at H
   have c4b0 : decide ((ji2) < (y109.length : Int)) = true := decide_eq_true c4
   clear c4
   obtain rfl := Option.some.inj H
   go_enter Tryd.func26, Tryd.ntmps26
   go_wp2_with (first | ((with_reducible refine gate_dst (N := 3) rfl ?_); refine Kd.R_lit Kd.string _ 9 ?hg (N := 3) ?hd (xs := ([(⟨#[112]⟩ : ByteArray), (⟨#[113]⟩ : ByteArray), (⟨#[114]⟩ : ByteArray), (⟨#[101, 100, 103, 101]⟩ : ByteArray), (⟨#[112, 97, 116, 104]⟩ : ByteArray), (⟨#[115]⟩ : ByteArray)] : List ByteArray)) (inner := [.string (⟨#[112]⟩ : ByteArray), .string (⟨#[113]⟩ : ByteArray), .string (⟨#[114]⟩ : ByteArray), .string (⟨#[101, 100, 103, 101]⟩ : ByteArray), .string (⟨#[112, 97, 116, 104]⟩ : ByteArray), .string (⟨#[115]⟩ : ByteArray)]) (ok := fun _ => True) (okp := fun _ => True) ?hr ?hp (fun _ hk => hk) trivial (Below.refl _ _) (Nat.le_refl _) (by simp) ?_; (case hd => rfl); (case hg => rfl); (case hr => first | (go_simp; done) | (go_simp; rfl)); (case hp => exact (Reps.one (show Kd.M Kd.string _ _ _ (⟨#[112]⟩ : ByteArray) [.string (⟨#[112]⟩ : ByteArray)] from rfl) (Reps.one (show Kd.M Kd.string _ _ _ (⟨#[113]⟩ : ByteArray) [.string (⟨#[113]⟩ : ByteArray)] from rfl) (Reps.one (show Kd.M Kd.string _ _ _ (⟨#[114]⟩ : ByteArray) [.string (⟨#[114]⟩ : ByteArray)] from rfl) (Reps.one (show Kd.M Kd.string _ _ _ (⟨#[101, 100, 103, 101]⟩ : ByteArray) [.string (⟨#[101, 100, 103, 101]⟩ : ByteArray)] from rfl) (Reps.one (show Kd.M Kd.string _ _ _ (⟨#[112, 97, 116, 104]⟩ : ByteArray) [.string (⟨#[112, 97, 116, 104]⟩ : ByteArray)] from rfl) (Reps.one (show Kd.M Kd.string _ _ _ (⟨#[115]⟩ : ByteArray) [.string (⟨#[115]⟩ : ByteArray)] from rfl) (Reps.none _ _)))))))); intro v110 w5 ho6 hb hg_ hnew_; clear hg_ hnew_; (first | rw [← Ny109.out] at ho6 | (simp only [Int.reduceToNat] at ho6; rw [← Ny109.out] at ho6)); have n0_ := aK_ (Kd.R_lower ho6 (lZ_ (by repeat (first | (with_reducible first | exact HB.out | apply lA_ | apply pD | apply lD_) | exact HB.out)))); have n1_ := aK_ (lT_ (by repeat (first | (with_reducible first | exact HB.out | apply lA_ | apply pD | apply lD_) | exact HB.out)) hb); clear HB; have HO111 := n0_; have HB := n1_; clear n0_ n1_; clear hb ho6; obtain ⟨Ao7, co7, eo7⟩ := Kd.R_slice HO111.out; subst eo7; have p112 : 0 ≤ ((ji2) : Int) := of_decide_eq_true (by first | (with_reducible assumption) | assumption); have q112 : (ji2) < (y109.length : Int) := of_decide_eq_true (by first | (with_reducible assumption) | assumption); obtain ⟨ad112, e112, hx112_0⟩ := Kd.at_string (Kd.R_reads' HO111.out).2.2 (ji2) p112 q112; cases e112; replace p112 := eq_true p112; replace q112 := eq_true q112))
   go_ret
   exact ⟨by first | rfl | (simp [errW_none, errW_some] <;> rfl) | (simp only [← hji2]; first | rfl | (simp [errW_none, errW_some] <;> rfl)) | (simp [*, errW_none, errW_some] <;> rfl), by repeat (first | (with_reducible first | exact HB.out | apply lA_ | apply pD | apply lD_) | exact HB.out)⟩
  ·rw [if_neg c4] at H
   exact absurd H (by simp)
 ·rw [if_neg c3] at H
  exact absurd H (by simp)
end Go.Proofs.YtdbpboipiceifaaDoorPSP
