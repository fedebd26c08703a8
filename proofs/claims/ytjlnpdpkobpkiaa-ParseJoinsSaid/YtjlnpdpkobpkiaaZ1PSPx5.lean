import Derived.Test.YtjlnpdpkobpkiaaZ1PSPx2
namespace Go.Proofs.YtjlnpdpkobpkiaaPSP
open Go.RowKit Go.Proofs.YtjlnpdpkobpkiaaW.PrintWords Go.Proofs.YtjlnpdpkobpkiaaW.PrintLast Go.Proofs.YtjlnpdpkobpkiaaW.PrintMore
attribute [local go_sem] max2_int min2_int max_two min_two max_three min_three max_four min_four   -- for this text's walks alone
set_option linter.unusedVariables false
set_option linter.unusedSimpArgs false
attribute [local go_sem high] eqA61
mutual
def ergolaw14_sameExpr.j0 : Nat → Bool → Int → ByteArray → Int → Int → List (S65) → Int → ByteArray → Int → Int → List (S65) → Option (Bool)
  | 0, _, _, _, _, _, _, _, _, _, _, _ => none
  | k + 1, x26, x203000, x203001, x203002, x203003, x203004, x204000, x204001, x204002, x204003, x204004 => if x26 = true then (some false) else (ergolaw14_sameExpr.l0 k (x203004.length : Int) 0 x203000 x203001 x203002 x203003 x203004 x204000 x204001 x204002 x204003 x204004)
def ergolaw14_sameExpr.l0 : Nat → Int → Int → Int → ByteArray → Int → Int → List (S65) → Int → ByteArray → Int → Int → List (S65) → Option (Bool)
  | 0, _, _, _, _, _, _, _, _, _, _, _, _ => none
  | k + 1, x29, x30, x203000, x203001, x203002, x203003, x203004, x204000, x204001, x204002, x204003, x204004 => if x30 < x29 then (if 0 ≤ x30 then (if x30 < (x203004.length : Int) then (if x30 < (x204004.length : Int) then ((ergolaw14_sameExpr.f k ((rd_T65 x203004 x30).f0.f0) ((rd_T65 x203004 x30).f0.f1) ((rd_T65 x203004 x30).f0.f2) ((rd_T65 x203004 x30).f1) ((rd_T65 x203004 x30).f2) ((rd_T65 x204004 x30).f0.f0) ((rd_T65 x204004 x30).f0.f1) ((rd_T65 x204004 x30).f0.f2) ((rd_T65 x204004 x30).f1) ((rd_T65 x204004 x30).f2)).bind fun t206 => (if t206 = true then (ergolaw14_sameExpr.l0 k x29 (wrap64 (x30 + 1)) x203000 x203001 x203002 x203003 x203004 x204000 x204001 x204002 x204003 x204004) else (some false))) else (none)) else (none)) else (none)) else (some true)
def ergolaw14_sameExpr.f : Nat → Int → ByteArray → Int → Int → List (S65) → Int → ByteArray → Int → Int → List (S65) → Option (Bool)
  | 0, _, _, _, _, _, _, _, _, _, _ => none
  | k + 1, a0_0, a0_1, a0_2, a0_3, l0_4, a1_0, a1_1, a1_2, a1_3, l1_4 => if (!(a0_0 == a1_0) || (!(a0_1.toList == a1_1.toList) || (!(a0_2 == a1_2)))) = true then (ergolaw14_sameExpr.j0 k true a0_0 a0_1 a0_2 a0_3 l0_4 a1_0 a1_1 a1_2 a1_3 l1_4) else (if a0_3 = a1_3 then (ergolaw14_sameExpr.j0 k ((l0_4.length : Int) != (l1_4.length : Int)) a0_0 a0_1 a0_2 a0_3 l0_4 a1_0 a1_1 a1_2 a1_3 l1_4) else (ergolaw14_sameExpr.j0 k true a0_0 a0_1 a0_2 a0_3 l0_4 a1_0 a1_1 a1_2 a1_3 l1_4))
end
def ergolaw14_sameExpr.T6 : Bool × List (List Nat × List Nat) := (true, [([], []), ([0], [0]), ([], []), ([1, 2], [1, 2]), ([3], [3]), ([], []), ([5], [5]), ([], []), ([6, 7], [6, 7]), ([8], [8]), ([4, 9], [4, 9]), ([10], [10])])
def ergolaw14_sameExpr.B6 : List Nat := [0, 1, 0, 7, 15, 0, 32, 0, 224, 480, 1023, 2047]
theorem ergolaw14_sameExpr.tab6 : rtab .any (opsOf Try.f58 6) = ergolaw14_sameExpr.T6 := by kernel_rfl
theorem ergolaw14_sameExpr.bits6 : waitsOk ergolaw14_sameExpr.T6.2 ergolaw14_sameExpr.B6 = true := by kernel_rfl
set_option maxHeartbeats 8000000 in
set_option maxRecDepth 100000 in
theorem ergolaw14_sameExpr.calls (k : Nat) : ∀ (a0_0 : Int) (a0_1 : ByteArray) (a0_2 : Int) (a0_3 : Int) (A0_4 : Option Addr) (c0_4 : Nat) (l0_4 : List (S65)) (a1_0 : Int) (a1_1 : ByteArray) (a1_2 : Int) (a1_3 : Int) (A1_4 : Option Addr) (c1_4 : Nat) (l1_4 : List (S65)) (r : Bool) (w : World) (hr0_4 : Kd.C k65 w A0_4 l0_4.length l0_4) (hc0_4 : l0_4.length ≤ c0_4) (hr1_4 : Kd.C k65 w A1_4 l1_4.length l1_4) (hc1_4 : l1_4.length ≤ c1_4) (h : ergolaw14_sameExpr.f k a0_0 a0_1 a0_2 a0_3 l0_4 a1_0 a1_1 a1_2 a1_3 l1_4 = some r),
    Calls Try.prog 58 #[.agg #[.int .i64 a0_0, .string a0_1, .int .i64 a0_2, .int .i64 a0_3, .slice A0_4 l0_4.length c0_4], .agg #[.int .i64 a1_0, .string a1_1, .int .i64 a1_2, .int .i64 a1_3, .slice A1_4 l1_4.length c1_4]] w fun e w' => e = .returned (.bool r) ∧ Below w.heap.size w w' := by
  induction k using Nat.strongRecOn with
  | _ k ih =>
  intro a0_0 a0_1 a0_2 a0_3 A0_4 c0_4 l0_4 a1_0 a1_1 a1_2 a1_3 A1_4 c1_4 l1_4 r w hr0_4 hc0_4 hr1_4 hc1_4 h
  cases k with
  | zero => exact absurd h (by simp [ergolaw14_sameExpr.f])
  | succ k =>
  simp only [ergolaw14_sameExpr.f] at h
  have hu65 := Try.underlying65
  have hu61 := Try.underlying61
  have HR0_4 := Aside0.mk hr0_4
  have HC0_4 := Aside0.mk hc0_4
  clear hr0_4 hc0_4
  have HR1_4 := Aside0.mk hr1_4
  have HC1_4 := Aside0.mk hc1_4
  clear hr1_4 hc1_4
  have HB := Aside0.mk (Below.refl w.heap.size w)
  have H : (if (!(a0_0 == a1_0) || (!(a0_1.toList == a1_1.toList) || (!(a0_2 == a1_2)))) = true then (ergolaw14_sameExpr.j0 k true a0_0 a0_1 a0_2 a0_3 l0_4 a1_0 a1_1 a1_2 a1_3 l1_4) else (if a0_3 = a1_3 then (ergolaw14_sameExpr.j0 k ((l0_4.length : Int) != (l1_4.length : Int)) a0_0 a0_1 a0_2 a0_3 l0_4 a1_0 a1_1 a1_2 a1_3 l1_4) else (ergolaw14_sameExpr.j0 k true a0_0 a0_1 a0_2 a0_3 l0_4 a1_0 a1_1 a1_2 a1_3 l1_4))) = some r := h
  clear h
  have HC3 := Aside0.mk H
  clear H
  go_enter Try.func58, Try.ntmps58
  go_upto_region 1 with (first | ((with_reducible refine gate_dst (N := 2) rfl ?_); (try (refine gate_guard (by rfl) ?_; dsimp only)); refine box_event ?hg (N := 2) ?hd (cs := #[.int .i64 a0_0, .string a0_1, .int .i64 a0_2, .int .i64 a0_3, .slice A0_4 l0_4.length c0_4]) (t := 65) ?hr ?_; (case hd => rfl); (case hg => rfl); (case hr => first | (go_simp; done) | (go_simp; rfl)); intro gb202 hg w4 hbox hb; have n0_ := Aside0.mk (below_step (by repeat (first | (with_reducible first | exact HB.out | apply below_alloc | apply pw_below_drewN | apply below_drew1) | exact HB.out)) hb); have n1_ := Aside0.mk (hbox); have n2_ := Aside0.mk ((by rw [hg]; exact (below_size (by repeat (first | (with_reducible first | exact HB.out | apply below_alloc | apply pw_below_drewN | apply below_drew1) | exact HB.out))) : w.heap.size ≤ gb202)); have n3_ := Aside0.mk ((by rw [hg]; exact (below_size (by repeat (first | (with_reducible first | exact HB.out | apply below_alloc | apply pw_below_drewN | apply below_drew1) | exact HB.out))) : w.heap.size ≤ gb202)); clear HB; have HB := n0_; have BK202 := n1_; have GW202 := n2_; have GE202 := n3_; clear n0_ n1_ n2_ n3_; clear hb hbox hg) | ((with_reducible refine gate_dst (N := 3) rfl ?_); (try (refine gate_guard (by rfl) ?_; dsimp only)); refine box_event ?hg (N := 3) ?hd (cs := #[.int .i64 a1_0, .string a1_1, .int .i64 a1_2, .int .i64 a1_3, .slice A1_4 l1_4.length c1_4]) (t := 65) ?hr ?_; (case hd => rfl); (case hg => rfl); (case hr => first | (go_simp; done) | (go_simp; rfl)); intro gb203 hg w5 hbox hb; have n0_ := Aside0.mk (blk_below (g := gb202) (o := .cells #[.int .i64 a0_0, .string a0_1, .int .i64 a0_2, .int .i64 a0_3, .slice A0_4 l0_4.length c0_4] 65 (0, 0)) (by (with_reducible repeat (first | refine blk_drewN ?_ _ | refine blk_drew ?_ | refine blk_alloc ?_ _)); exact BK202.out) hb); have n1_ := Aside0.mk (below_step (by repeat (first | (with_reducible first | exact HB.out | apply below_alloc | apply pw_below_drewN | apply below_drew1 | refine below_set ?_ GE202.out) | exact HB.out)) hb); have n2_ := Aside0.mk (hbox); have n3_ := Aside0.mk ((by rw [hg]; exact (below_size (by repeat (first | (with_reducible first | exact HB.out | apply below_alloc | apply pw_below_drewN | apply below_drew1 | refine below_set ?_ GE202.out) | exact HB.out))) : w.heap.size ≤ gb203)); have n4_ := Aside0.mk ((by rw [hg]; exact (below_size (by repeat (first | (with_reducible first | exact HB.out | apply below_alloc | apply pw_below_drewN | apply below_drew1 | refine below_set ?_ GE202.out) | exact HB.out))) : w.heap.size ≤ gb203)); have n5_ := Aside0.mk ((by rw [hg]; exact Nat.ne_of_lt (blk_lt (g := gb202) (o := .cells #[.int .i64 a0_0, .string a0_1, .int .i64 a0_2, .int .i64 a0_3, .slice A0_4 l0_4.length c0_4] 65 (0, 0)) (by (with_reducible repeat (first | refine blk_drewN ?_ _ | refine blk_drew ?_ | refine blk_alloc ?_ _)); exact BK202.out)) : gb202 ≠ gb203)); have n6_ := Aside0.mk ((by rw [hg]; exact Nat.ne_of_gt (blk_lt (g := gb202) (o := .cells #[.int .i64 a0_0, .string a0_1, .int .i64 a0_2, .int .i64 a0_3, .slice A0_4 l0_4.length c0_4] 65 (0, 0)) (by (with_reducible repeat (first | refine blk_drewN ?_ _ | refine blk_drew ?_ | refine blk_alloc ?_ _)); exact BK202.out)) : gb203 ≠ gb202)); clear BK202; clear HB; have BK202 := n0_; have HB := n1_; have BK203 := n2_; have GW203 := n3_; have GE203 := n4_; have NB202_203 := n5_; have NB203_202 := n6_; clear n0_ n1_ n2_ n3_ n4_ n5_ n6_; clear hb hbox hg))
  (try simp only [Act.put, List.setIfInBounds_toArray, List.set_cons_zero, List.set_cons_succ])
  go_cut [26] (fun v26 wc => ∃ (kq : Nat) (x26_2 : Bool), v26 = .bool x26_2 ∧ Aside0 (ergolaw14_sameExpr.j0 kq x26_2 a0_0 a0_1 a0_2 a0_3 l0_4 a1_0 a1_1 a1_2 a1_3 l1_4 = some r) ∧ Aside0 (kq ≤ k) ∧ Aside0 (wc.heap[gb202]? = some (.cells #[.int .i64 a0_0, .string a0_1, .int .i64 a0_2, .int .i64 a0_3, (.slice A0_4 l0_4.length c0_4)] 65 (0, 0))) ∧ Aside0 (wc.heap[gb203]? = some (.cells #[.int .i64 a1_0, .string a1_1, .int .i64 a1_2, .int .i64 a1_3, (.slice A1_4 l1_4.length c1_4)] 65 (0, 0))) ∧ Aside0 (Below w.heap.size w wc))
  case first =>
    have H := HC3.out
    clear HC3
    by_cases c6 : (!(a0_0 == a1_0) || (!(a0_1.toList == a1_1.toList) || (!(a0_2 == a1_2)))) = true
    · rw [if_pos c6] at H
      have c6b0 : (!(a0_0 == a1_0) || (!(a0_1.toList == a1_1.toList) || (!(a0_2 == a1_2)))) = true := c6
      clear c6
      (first | rw [c6b0] | (simp only [i64_w, i32_w]; rw [c6b0]) | skip)
      have H' := Aside0.mk H
      clear H
      have hnb7 := NB202_203.out
      have hnc7 := NB203_202.out
      have hcz8_0 : w5.cell? ⟨gb202, 0, none⟩ = some (.int .i64 a0_0) := (blk_cell BK202.out 0).trans rfl
      have hcz8_1 : w5.cell? ⟨gb202, 1, none⟩ = some (.string a0_1) := (blk_cell BK202.out 1).trans rfl
      have hcz8_2 : w5.cell? ⟨gb202, 2, none⟩ = some (.int .i64 a0_2) := (blk_cell BK202.out 2).trans rfl
      have hcz8_3 : w5.cell? ⟨gb202, 3, none⟩ = some (.int .i64 a0_3) := (blk_cell BK202.out 3).trans rfl
      have hcz8_4 : w5.cell? ⟨gb202, 4, none⟩ = some (.slice A0_4 l0_4.length c0_4) := (blk_cell BK202.out 4).trans rfl
      have hfz8_0 := blk_frozen BK202.out 0
      have hfz8_1 := blk_frozen BK202.out 1
      have hfz8_2 := blk_frozen BK202.out 2
      have hfz8_3 := blk_frozen BK202.out 3
      have hfz8_4 := blk_frozen BK202.out 4
      have hcz9_0 : w5.cell? ⟨gb203, 0, none⟩ = some (.int .i64 a1_0) := (blk_cell BK203.out 0).trans rfl
      have hcz9_1 : w5.cell? ⟨gb203, 1, none⟩ = some (.string a1_1) := (blk_cell BK203.out 1).trans rfl
      have hcz9_2 : w5.cell? ⟨gb203, 2, none⟩ = some (.int .i64 a1_2) := (blk_cell BK203.out 2).trans rfl
      have hcz9_3 : w5.cell? ⟨gb203, 3, none⟩ = some (.int .i64 a1_3) := (blk_cell BK203.out 3).trans rfl
      have hcz9_4 : w5.cell? ⟨gb203, 4, none⟩ = some (.slice A1_4 l1_4.length c1_4) := (blk_cell BK203.out 4).trans rfl
      have hfz9_0 := blk_frozen BK203.out 0
      have hfz9_1 := blk_frozen BK203.out 1
      have hfz9_2 := blk_frozen BK203.out 2
      have hfz9_3 := blk_frozen BK203.out 3
      have hfz9_4 := blk_frozen BK203.out 4
      go_wp2
      go_meet
      case rel => exact ⟨_, (true), (by first | rfl | (simp; done) | (simp [*]; done)), H', ⟨by first | omega | exact Nat.le_refl _⟩, ⟨by (with_reducible repeat (first | refine blk_drewN ?_ _ | refine blk_drew ?_ | refine blk_alloc ?_ _)); exact BK202.out⟩, ⟨by (with_reducible repeat (first | refine blk_drewN ?_ _ | refine blk_drew ?_ | refine blk_alloc ?_ _)); exact BK203.out⟩, ⟨by repeat (first | (with_reducible first | exact HB.out | apply below_alloc | apply pw_below_drewN | apply below_drew1 | refine below_set ?_ GE202.out | refine below_set ?_ GE203.out) | exact HB.out)⟩⟩
    · rw [if_neg c6] at H
      have c6b0 : (!(a0_0 == a1_0) || (!(a0_1.toList == a1_1.toList) || (!(a0_2 == a1_2)))) = false := by simpa using c6
      clear c6
      (first | rw [c6b0] | (simp only [i64_w, i32_w]; rw [c6b0]) | skip)
      by_cases c10 : a0_3 = a1_3
      · rw [if_pos c10] at H
        have c10b0 : (a0_3 == a1_3) = true := beq_iff_eq.mpr c10
        have c10b1 : (a0_3 != a1_3) = false := bne_eq_false_iff_eq.mpr c10
        clear c10
        have H' := Aside0.mk H
        clear H
        have hnb11 := NB202_203.out
        have hnc11 := NB203_202.out
        have hcz12_0 : w5.cell? ⟨gb202, 0, none⟩ = some (.int .i64 a0_0) := (blk_cell BK202.out 0).trans rfl
        have hcz12_1 : w5.cell? ⟨gb202, 1, none⟩ = some (.string a0_1) := (blk_cell BK202.out 1).trans rfl
        have hcz12_2 : w5.cell? ⟨gb202, 2, none⟩ = some (.int .i64 a0_2) := (blk_cell BK202.out 2).trans rfl
        have hcz12_3 : w5.cell? ⟨gb202, 3, none⟩ = some (.int .i64 a0_3) := (blk_cell BK202.out 3).trans rfl
        have hcz12_4 : w5.cell? ⟨gb202, 4, none⟩ = some (.slice A0_4 l0_4.length c0_4) := (blk_cell BK202.out 4).trans rfl
        have hfz12_0 := blk_frozen BK202.out 0
        have hfz12_1 := blk_frozen BK202.out 1
        have hfz12_2 := blk_frozen BK202.out 2
        have hfz12_3 := blk_frozen BK202.out 3
        have hfz12_4 := blk_frozen BK202.out 4
        have hcz13_0 : w5.cell? ⟨gb203, 0, none⟩ = some (.int .i64 a1_0) := (blk_cell BK203.out 0).trans rfl
        have hcz13_1 : w5.cell? ⟨gb203, 1, none⟩ = some (.string a1_1) := (blk_cell BK203.out 1).trans rfl
        have hcz13_2 : w5.cell? ⟨gb203, 2, none⟩ = some (.int .i64 a1_2) := (blk_cell BK203.out 2).trans rfl
        have hcz13_3 : w5.cell? ⟨gb203, 3, none⟩ = some (.int .i64 a1_3) := (blk_cell BK203.out 3).trans rfl
        have hcz13_4 : w5.cell? ⟨gb203, 4, none⟩ = some (.slice A1_4 l1_4.length c1_4) := (blk_cell BK203.out 4).trans rfl
        have hfz13_0 := blk_frozen BK203.out 0
        have hfz13_1 := blk_frozen BK203.out 1
        have hfz13_2 := blk_frozen BK203.out 2
        have hfz13_3 := blk_frozen BK203.out 3
        have hfz13_4 := blk_frozen BK203.out 4
        go_wp2
        go_meet
        case rel => exact ⟨_, (((l0_4.length : Int) != (l1_4.length : Int))), (by first | rfl | (simp; done) | (simp [*]; done)), H', ⟨by first | omega | exact Nat.le_refl _⟩, ⟨by (with_reducible repeat (first | refine blk_drewN ?_ _ | refine blk_drew ?_ | refine blk_alloc ?_ _)); exact BK202.out⟩, ⟨by (with_reducible repeat (first | refine blk_drewN ?_ _ | refine blk_drew ?_ | refine blk_alloc ?_ _)); exact BK203.out⟩, ⟨by repeat (first | (with_reducible first | exact HB.out | apply below_alloc | apply pw_below_drewN | apply below_drew1 | refine below_set ?_ GE202.out | refine below_set ?_ GE203.out) | exact HB.out)⟩⟩
      · rw [if_neg c10] at H
        have c10b0 : (a0_3 == a1_3) = false := beq_eq_false_iff_ne.mpr c10
        have c10b1 : (a0_3 != a1_3) = true := bne_iff_ne.mpr c10
        have H' := Aside0.mk H
        clear H
        have hnb14 := NB202_203.out
        have hnc14 := NB203_202.out
        have hcz15_0 : w5.cell? ⟨gb202, 0, none⟩ = some (.int .i64 a0_0) := (blk_cell BK202.out 0).trans rfl
        have hcz15_1 : w5.cell? ⟨gb202, 1, none⟩ = some (.string a0_1) := (blk_cell BK202.out 1).trans rfl
        have hcz15_2 : w5.cell? ⟨gb202, 2, none⟩ = some (.int .i64 a0_2) := (blk_cell BK202.out 2).trans rfl
        have hcz15_3 : w5.cell? ⟨gb202, 3, none⟩ = some (.int .i64 a0_3) := (blk_cell BK202.out 3).trans rfl
        have hcz15_4 : w5.cell? ⟨gb202, 4, none⟩ = some (.slice A0_4 l0_4.length c0_4) := (blk_cell BK202.out 4).trans rfl
        have hfz15_0 := blk_frozen BK202.out 0
        have hfz15_1 := blk_frozen BK202.out 1
        have hfz15_2 := blk_frozen BK202.out 2
        have hfz15_3 := blk_frozen BK202.out 3
        have hfz15_4 := blk_frozen BK202.out 4
        have hcz16_0 : w5.cell? ⟨gb203, 0, none⟩ = some (.int .i64 a1_0) := (blk_cell BK203.out 0).trans rfl
        have hcz16_1 : w5.cell? ⟨gb203, 1, none⟩ = some (.string a1_1) := (blk_cell BK203.out 1).trans rfl
        have hcz16_2 : w5.cell? ⟨gb203, 2, none⟩ = some (.int .i64 a1_2) := (blk_cell BK203.out 2).trans rfl
        have hcz16_3 : w5.cell? ⟨gb203, 3, none⟩ = some (.int .i64 a1_3) := (blk_cell BK203.out 3).trans rfl
        have hcz16_4 : w5.cell? ⟨gb203, 4, none⟩ = some (.slice A1_4 l1_4.length c1_4) := (blk_cell BK203.out 4).trans rfl
        have hfz16_0 := blk_frozen BK203.out 0
        have hfz16_1 := blk_frozen BK203.out 1
        have hfz16_2 := blk_frozen BK203.out 2
        have hfz16_3 := blk_frozen BK203.out 3
        have hfz16_4 := blk_frozen BK203.out 4
        go_wp2
        go_meet
        case rel => exact ⟨_, (true), (by first | rfl | (simp; done) | (simp [*]; done)), H', ⟨by first | omega | exact Nat.le_refl _⟩, ⟨by (with_reducible repeat (first | refine blk_drewN ?_ _ | refine blk_drew ?_ | refine blk_alloc ?_ _)); exact BK202.out⟩, ⟨by (with_reducible repeat (first | refine blk_drewN ?_ _ | refine blk_drew ?_ | refine blk_alloc ?_ _)); exact BK203.out⟩, ⟨by repeat (first | (with_reducible first | exact HB.out | apply below_alloc | apply pw_below_drewN | apply below_drew1 | refine below_set ?_ GE202.out | refine below_set ?_ GE203.out) | exact HB.out)⟩⟩
  case rest =>
    clear HC3
    try clear c1
    try clear p2
    try clear c5
    try clear c6
    try clear c6b0
    try clear c7
    try clear c10
    try clear c10b0
    try clear c10b1
    try clear c11
    try clear c14
    try clear hcz12_0
    try clear hcz12_1
    try clear hcz12_2
    try clear hcz12_3
    try clear hcz12_4
    try clear hcz13_0
    try clear hcz13_1
    try clear hcz13_2
    try clear hcz13_3
    try clear hcz13_4
    try clear hcz15_0
    try clear hcz15_1
    try clear hcz15_2
    try clear hcz15_3
    try clear hcz15_4
    try clear hcz16_0
    try clear hcz16_1
    try clear hcz16_2
    try clear hcz16_3
    try clear hcz16_4
    try clear hcz8_0
    try clear hcz8_1
    try clear hcz8_2
    try clear hcz8_3
    try clear hcz8_4
    try clear hcz9_0
    try clear hcz9_1
    try clear hcz9_2
    try clear hcz9_3
    try clear hcz9_4
    try clear hfz12_0
    try clear hfz12_1
    try clear hfz12_2
    try clear hfz12_3
    try clear hfz12_4
    try clear hfz13_0
    try clear hfz13_1
    try clear hfz13_2
    try clear hfz13_3
    try clear hfz13_4
    try clear hfz15_0
    try clear hfz15_1
    try clear hfz15_2
    try clear hfz15_3
    try clear hfz15_4
    try clear hfz16_0
    try clear hfz16_1
    try clear hfz16_2
    try clear hfz16_3
    try clear hfz16_4
    try clear hfz8_0
    try clear hfz8_1
    try clear hfz8_2
    try clear hfz8_3
    try clear hfz8_4
    try clear hfz9_0
    try clear hfz9_1
    try clear hfz9_2
    try clear hfz9_3
    try clear hfz9_4
    obtain ⟨kq, x26_2, rfl, HA, HJ2, BK202, BK203, HB⟩ := hcut
    cases kq with
    | zero => exact absurd HA.out (by simp [ergolaw14_sameExpr.j0])
    | succ kj2 =>
      have H := HA.out
      clear HA
      simp only [ergolaw14_sameExpr.j0] at H
      by_cases c17 : x26_2 = true
      · subst c17
        have H1 : (some false) = some r := by rw [if_pos rfl] at H; exact H
        clear H
        have H := H1
        clear H1
        obtain rfl := Option.some.inj H
        go_wp2
        go_ret
        exact ⟨by first | rfl | (simp [errW_none, errW_some] <;> rfl) | (simp [*, errW_none, errW_some] <;> rfl), by repeat (first | (with_reducible first | exact HB.out | apply below_alloc | apply pw_below_drewN | apply below_drew1 | refine below_set ?_ GE202.out | refine below_set ?_ GE203.out) | exact HB.out)⟩
      · replace c17 := Bool.eq_false_iff.mpr c17
        subst c17
        have H1 : (ergolaw14_sameExpr.l0 kj2 (l0_4.length : Int) 0 a0_0 a0_1 a0_2 a0_3 l0_4 a1_0 a1_1 a1_2 a1_3 l1_4) = some r := by rw [if_neg (show ¬ (false = true) by decide)] at H; exact H
        clear H
        have H := H1
        clear H1
        have H' := Aside0.mk H
        clear H
        have hnb18 := NB202_203.out
        have hnc18 := NB203_202.out
        have hcz19_0 : wc.cell? ⟨gb202, 0, none⟩ = some (.int .i64 a0_0) := (blk_cell BK202.out 0).trans rfl
        have hcz19_1 : wc.cell? ⟨gb202, 1, none⟩ = some (.string a0_1) := (blk_cell BK202.out 1).trans rfl
        have hcz19_2 : wc.cell? ⟨gb202, 2, none⟩ = some (.int .i64 a0_2) := (blk_cell BK202.out 2).trans rfl
        have hcz19_3 : wc.cell? ⟨gb202, 3, none⟩ = some (.int .i64 a0_3) := (blk_cell BK202.out 3).trans rfl
        have hcz19_4 : wc.cell? ⟨gb202, 4, none⟩ = some (.slice A0_4 l0_4.length c0_4) := (blk_cell BK202.out 4).trans rfl
        have hfz19_0 := blk_frozen BK202.out 0
        have hfz19_1 := blk_frozen BK202.out 1
        have hfz19_2 := blk_frozen BK202.out 2
        have hfz19_3 := blk_frozen BK202.out 3
        have hfz19_4 := blk_frozen BK202.out 4
        go_wp2
        go_loopg [30] kj2 (fun kq v30 w' => ∃ (x30_2 : Int), v30 = .int .i64 x30_2 ∧ Aside0 (ergolaw14_sameExpr.l0 kq (l0_4.length : Int) x30_2 a0_0 a0_1 a0_2 a0_3 l0_4 a1_0 a1_1 a1_2 a1_3 l1_4 = some r) ∧ Aside0 (kq ≤ kj2) ∧ Aside0 (w'.heap[gb202]? = some (.cells #[.int .i64 a0_0, .string a0_1, .int .i64 a0_2, .int .i64 a0_3, (.slice A0_4 l0_4.length c0_4)] 65 (0, 0))) ∧ Aside0 (w'.heap[gb203]? = some (.cells #[.int .i64 a1_0, .string a1_1, .int .i64 a1_2, .int .i64 a1_3, (.slice A1_4 l1_4.length c1_4)] 65 (0, 0))) ∧ Aside0 (Below w.heap.size w w'))
        case atStart => exact ⟨(0), (by first | rfl | (simp; done) | (simp [*]; done)), H', ⟨Nat.le_refl _⟩, ⟨by (with_reducible repeat (first | refine blk_drewN ?_ _ | refine blk_drew ?_ | refine blk_alloc ?_ _)); exact BK202.out⟩, ⟨by (with_reducible repeat (first | refine blk_drewN ?_ _ | refine blk_drew ?_ | refine blk_alloc ?_ _)); exact BK203.out⟩, ⟨by repeat (first | (with_reducible first | exact HB.out | apply below_alloc | apply pw_below_drewN | apply below_drew1 | refine below_set ?_ GE202.out | refine below_set ?_ GE203.out) | exact HB.out)⟩⟩
        case round =>
          clear H'
          try clear c1
          try clear p2
          try clear c5
          try clear c6
          try clear c6b0
          try clear c7
          try clear c10
          try clear c10b0
          try clear c10b1
          try clear c11
          try clear c14
          try clear c17
          try clear c18
          try clear hcz12_0
          try clear hcz12_1
          try clear hcz12_2
          try clear hcz12_3
          try clear hcz12_4
          try clear hcz13_0
          try clear hcz13_1
          try clear hcz13_2
          try clear hcz13_3
          try clear hcz13_4
          try clear hcz15_0
          try clear hcz15_1
          try clear hcz15_2
          try clear hcz15_3
          try clear hcz15_4
          try clear hcz16_0
          try clear hcz16_1
          try clear hcz16_2
          try clear hcz16_3
          try clear hcz16_4
          try clear hcz19_0
          try clear hcz19_1
          try clear hcz19_2
          try clear hcz19_3
          try clear hcz19_4
          try clear hcz8_0
          try clear hcz8_1
          try clear hcz8_2
          try clear hcz8_3
          try clear hcz8_4
          try clear hcz9_0
          try clear hcz9_1
          try clear hcz9_2
          try clear hcz9_3
          try clear hcz9_4
          try clear hfz12_0
          try clear hfz12_1
          try clear hfz12_2
          try clear hfz12_3
          try clear hfz12_4
          try clear hfz13_0
          try clear hfz13_1
          try clear hfz13_2
          try clear hfz13_3
          try clear hfz13_4
          try clear hfz15_0
          try clear hfz15_1
          try clear hfz15_2
          try clear hfz15_3
          try clear hfz15_4
          try clear hfz16_0
          try clear hfz16_1
          try clear hfz16_2
          try clear hfz16_3
          try clear hfz16_4
          try clear hfz19_0
          try clear hfz19_1
          try clear hfz19_2
          try clear hfz19_3
          try clear hfz19_4
          try clear hfz8_0
          try clear hfz8_1
          try clear hfz8_2
          try clear hfz8_3
          try clear hfz8_4
          try clear hfz9_0
          try clear hfz9_1
          try clear hfz9_2
          try clear hfz9_3
          try clear hfz9_4
          try clear p2
          obtain ⟨x30_2, rfl, HA, HK2, BK202, BK203, HB⟩ := hrel
          cases gk with
          | zero => exact absurd HA.out (by simp [ergolaw14_sameExpr.l0])
          | succ k2 =>
            have H := HA.out
            clear HA
            simp only [ergolaw14_sameExpr.l0] at H
            by_cases c20 : x30_2 < (l0_4.length : Int)
            · rw [if_pos c20] at H
              have c20b0 : decide (x30_2 < (l0_4.length : Int)) = true := decide_eq_true c20
              clear c20
              by_cases c21 : 0 ≤ x30_2
              · rw [if_pos c21] at H
                have c21b0 : decide (0 ≤ x30_2) = true := decide_eq_true c21
                clear c21
                by_cases c22 : x30_2 < (l0_4.length : Int)
                · rw [if_pos c22] at H
                  have c22b0 : decide (x30_2 < (l0_4.length : Int)) = true := decide_eq_true c22
                  clear c22
                  by_cases c23 : x30_2 < (l1_4.length : Int)
                  · rw [if_pos c23] at H
                    have c23b0 : decide (x30_2 < (l1_4.length : Int)) = true := decide_eq_true c23
                    clear c23
                    replace H := Option.bind_eq_some_iff.mp H
                    obtain ⟨t206, A240, H⟩ := H
                    replace H : (if t206 = true then (ergolaw14_sameExpr.l0 k2 (l0_4.length : Int) (wrap64 (x30_2 + 1)) a0_0 a0_1 a0_2 a0_3 l0_4 a1_0 a1_1 a1_2 a1_3 l1_4) else (some false)) = some r := H
                    have A24 := Aside0.mk A240
                    clear A240
                    by_cases c25 : t206 = true
                    · subst c25
                      have H1 : (ergolaw14_sameExpr.l0 k2 (l0_4.length : Int) (wrap64 (x30_2 + 1)) a0_0 a0_1 a0_2 a0_3 l0_4 a1_0 a1_1 a1_2 a1_3 l1_4) = some r := by rw [if_pos rfl] at H; exact H
                      clear H
                      have H := H1
                      clear H1
                      have H' := Aside0.mk H
                      clear H
                      try go_wp2
                      have n0_ := Aside0.mk (blk_drew BK202.out)
                      have n1_ := Aside0.mk (blk_drew BK203.out)
                      have n2_ := Aside0.mk (below_drew1 HB.out)
                      clear BK202
                      clear BK203
                      clear HB
                      have BK202 := n0_
                      have BK203 := n1_
                      have HB := n2_
                      clear n0_ n1_ n2_
                      have p204 : 0 ≤ (x30_2 : Int) := of_decide_eq_true (by first | (with_reducible assumption) | assumption)
                      have q204 : x30_2 < (l0_4.length : Int) := of_decide_eq_true (by first | (with_reducible assumption) | assumption)
                      obtain ⟨ad204, A204_4, c204_4, e204, hx204_0, hx204_1, hx204_2, hx204_3, hx204_4, hl204_4, hi204_4⟩ := at_T65 HR0_4.out x30_2 p204 q204
                      have hw204_4 := hx204_4
                      have hw204_3 := hx204_3
                      have hw204_2 := hx204_2
                      have hw204_1 := hx204_1
                      have hw204_0 := hx204_0
                      cases e204
                      replace hx204_0 := (HB.out.cell (World.block_lt_of_cell? w _ hx204_0)).trans hx204_0
                      replace hx204_1 := (HB.out.cell (World.block_lt_of_cell? w _ hx204_1)).trans hx204_1
                      replace hx204_2 := (HB.out.cell (World.block_lt_of_cell? w _ hx204_2)).trans hx204_2
                      replace hx204_3 := (HB.out.cell (World.block_lt_of_cell? w _ hx204_3)).trans hx204_3
                      replace hx204_4 := (HB.out.cell (World.block_lt_of_cell? w _ hx204_4)).trans hx204_4
                      have HR204_4 := Aside0.mk hi204_4
                      have HC204_4 := Aside0.mk hl204_4
                      clear hi204_4 hl204_4
                      replace p204 := eq_true p204
                      replace q204 := eq_true q204
                      have p205 : 0 ≤ (x30_2 : Int) := of_decide_eq_true (by first | (with_reducible assumption) | assumption)
                      have q205 : x30_2 < (l1_4.length : Int) := of_decide_eq_true (by first | (with_reducible assumption) | assumption)
                      obtain ⟨ad205, A205_4, c205_4, e205, hx205_0, hx205_1, hx205_2, hx205_3, hx205_4, hl205_4, hi205_4⟩ := at_T65 HR1_4.out x30_2 p205 q205
                      have hw205_4 := hx205_4
                      have hw205_3 := hx205_3
                      have hw205_2 := hx205_2
                      have hw205_1 := hx205_1
                      have hw205_0 := hx205_0
                      cases e205
                      replace hx205_0 := (HB.out.cell (World.block_lt_of_cell? w _ hx205_0)).trans hx205_0
                      replace hx205_1 := (HB.out.cell (World.block_lt_of_cell? w _ hx205_1)).trans hx205_1
                      replace hx205_2 := (HB.out.cell (World.block_lt_of_cell? w _ hx205_2)).trans hx205_2
                      replace hx205_3 := (HB.out.cell (World.block_lt_of_cell? w _ hx205_3)).trans hx205_3
                      replace hx205_4 := (HB.out.cell (World.block_lt_of_cell? w _ hx205_4)).trans hx205_4
                      have HR205_4 := Aside0.mk hi205_4
                      have HC205_4 := Aside0.mk hl205_4
                      clear hi205_4 hl205_4
                      replace p205 := eq_true p205
                      replace q205 := eq_true q205
                      refine start_ (n := 12) (S := fun w' => w'.cell? ⟨gb202, 0, none⟩ = some (.int .i64 a0_0) ∧ w'.cell? ⟨gb202, 1, none⟩ = some (.string a0_1) ∧ w'.cell? ⟨gb202, 2, none⟩ = some (.int .i64 a0_2) ∧ w'.cell? ⟨gb202, 3, none⟩ = some (.int .i64 a0_3) ∧ w'.cell? ⟨gb202, 4, none⟩ = some (.slice (some ad204) l0_4.length c0_4) ∧ w'.cell? ⟨gb203, 0, none⟩ = some (.int .i64 a1_0) ∧ w'.cell? ⟨gb203, 1, none⟩ = some (.string a1_1) ∧ w'.cell? ⟨gb203, 2, none⟩ = some (.int .i64 a1_2) ∧ w'.cell? ⟨gb203, 3, none⟩ = some (.int .i64 a1_3) ∧ w'.cell? ⟨gb203, 4, none⟩ = some (.slice (some ad205) l1_4.length c1_4) ∧ w'.cell? (ad204.add ((x30_2).toNat * 5)) = some (.int .i64 ((rd_T65 l0_4 x30_2).f0.f0)) ∧ w'.cell? ⟨(ad204.add ((x30_2).toNat * 5)).block, (ad204.add ((x30_2).toNat * 5)).off + 1, none⟩ = some (.string ((rd_T65 l0_4 x30_2).f0.f1)) ∧ w'.cell? ⟨(ad204.add ((x30_2).toNat * 5)).block, (ad204.add ((x30_2).toNat * 5)).off + 2, none⟩ = some (.int .i64 ((rd_T65 l0_4 x30_2).f0.f2)) ∧ w'.cell? ⟨(ad204.add ((x30_2).toNat * 5)).block, (ad204.add ((x30_2).toNat * 5)).off + 3, none⟩ = some (.int .i64 ((rd_T65 l0_4 x30_2).f1)) ∧ w'.cell? ⟨(ad204.add ((x30_2).toNat * 5)).block, (ad204.add ((x30_2).toNat * 5)).off + 4, none⟩ = some (.slice A204_4 ((rd_T65 l0_4 x30_2).f2).length c204_4) ∧ w'.cell? (ad205.add ((x30_2).toNat * 5)) = some (.int .i64 ((rd_T65 l1_4 x30_2).f0.f0)) ∧ w'.cell? ⟨(ad205.add ((x30_2).toNat * 5)).block, (ad205.add ((x30_2).toNat * 5)).off + 1, none⟩ = some (.string ((rd_T65 l1_4 x30_2).f0.f1)) ∧ w'.cell? ⟨(ad205.add ((x30_2).toNat * 5)).block, (ad205.add ((x30_2).toNat * 5)).off + 2, none⟩ = some (.int .i64 ((rd_T65 l1_4 x30_2).f0.f2)) ∧ w'.cell? ⟨(ad205.add ((x30_2).toNat * 5)).block, (ad205.add ((x30_2).toNat * 5)).off + 3, none⟩ = some (.int .i64 ((rd_T65 l1_4 x30_2).f1)) ∧ w'.cell? ⟨(ad205.add ((x30_2).toNat * 5)).block, (ad205.add ((x30_2).toNat * 5)).off + 4, none⟩ = some (.slice A205_4 ((rd_T65 l1_4 x30_2).f2).length c205_4)) (ds := []) #[false, false, false, false, false, false, false, false, false, false, false, false] (by kernel_rfl) rfl rfl ⟨(blk_cell BK202.out 0).trans rfl, (blk_cell BK202.out 1).trans rfl, (blk_cell BK202.out 2).trans rfl, (blk_cell BK202.out 3).trans rfl, (blk_cell BK202.out 4).trans rfl, (blk_cell BK203.out 0).trans rfl, (blk_cell BK203.out 1).trans rfl, (blk_cell BK203.out 2).trans rfl, (blk_cell BK203.out 3).trans rfl, (blk_cell BK203.out 4).trans rfl, ((HB.out.cell (World.block_lt_of_cell? w _ hw204_0)).trans hw204_0), ((HB.out.cell (World.block_lt_of_cell? w _ hw204_1)).trans hw204_1), ((HB.out.cell (World.block_lt_of_cell? w _ hw204_2)).trans hw204_2), ((HB.out.cell (World.block_lt_of_cell? w _ hw204_3)).trans hw204_3), ((HB.out.cell (World.block_lt_of_cell? w _ hw204_4)).trans hw204_4), ((HB.out.cell (World.block_lt_of_cell? w _ hw205_0)).trans hw205_0), ((HB.out.cell (World.block_lt_of_cell? w _ hw205_1)).trans hw205_1), ((HB.out.cell (World.block_lt_of_cell? w _ hw205_2)).trans hw205_2), ((HB.out.cell (World.block_lt_of_cell? w _ hw205_3)).trans hw205_3), ((HB.out.cell (World.block_lt_of_cell? w _ hw205_4)).trans hw205_4)⟩ (fun hHeld => ?_); refine with_tabW ergolaw14_sameExpr.tab6 ergolaw14_sameExpr.bits6 (fun HT_ HW_ => ?_)
                      generalize wr.drew = w26 at BK202 BK203 HB HR204_4 HR205_4 hx204_0 hx204_1 hx204_2 hx204_3 hx204_4 hx205_0 hx205_1 hx205_2 hx205_3 hx205_4 hHeld ⊢
                      refine pure_ (i := 0) (N := some 33) (v := ?_) (a' := ?_) #[true, false, false, false, false, false, false, false, false, false, false, false] rfl rfl (any_of HT_.out (by kernel_rfl)) (fun _ _ _ h => h) (Or.inl ⟨by rfl, ?_⟩) ?_ ?_
                      rotate_left
                      · intro w'
                        go_simp
                        with_reducible rfl
                      rotate_left
                      · simp only [Act.put, List.setIfInBounds_toArray, List.set_cons_zero, List.set_cons_succ, i64_w, i32_w]
                        rfl
                      refine pure_ (i := 2) (N := some 35) (v := ?_) (a' := ?_) #[true, false, true, false, false, false, false, false, false, false, false, false] rfl rfl (any_of HT_.out (by kernel_rfl)) (fun _ _ _ h => h) (Or.inl ⟨by rfl, ?_⟩) ?_ ?_
                      rotate_left
                      · intro w'
                        go_simp
                        with_reducible rfl
                      rotate_left
                      · simp only [Act.put, List.setIfInBounds_toArray, List.set_cons_zero, List.set_cons_succ, i64_w, i32_w]
                        rfl
                      refine pure_ (i := 5) (N := some 38) (v := ?_) (a' := ?_) #[true, false, true, false, false, true, false, false, false, false, false, false] rfl rfl (any_of HT_.out (by kernel_rfl)) (fun _ _ _ h => h) (Or.inl ⟨by rfl, ?_⟩) ?_ ?_
                      rotate_left
                      · intro w'
                        go_simp
                        with_reducible rfl
                      rotate_left
                      · simp only [Act.put, List.setIfInBounds_toArray, List.set_cons_zero, List.set_cons_succ, i64_w, i32_w]
                        rfl
                      refine pure_ (i := 7) (N := some 40) (v := ?_) (a' := ?_) #[true, false, true, false, false, true, false, true, false, false, false, false] rfl rfl (any_of HT_.out (by kernel_rfl)) (fun _ _ _ h => h) (Or.inl ⟨by rfl, ?_⟩) ?_ ?_
                      rotate_left
                      · intro w'
                        go_simp
                        with_reducible rfl
                      rotate_left
                      · simp only [Act.put, List.setIfInBounds_toArray, List.set_cons_zero, List.set_cons_succ, i64_w, i32_w]
                        rfl
                      refine take_ (i := 1) (N := some 34) (v := ?_) (a' := ?_) #[true, true, true, false, false, true, false, true, false, false, false, false] rfl rfl (take_ofW HT_.out HW_.out (by kernel_rfl)) (fun _ _ _ h => h) (Or.inl ⟨by rfl, ?_⟩) hHeld ?_ ?_
                      rotate_left
                      · rintro w' ⟨s0, s1, s2, s3, s4, s5, s6, s7, s8, s9, s10, s11, s12, s13, s14, s15, s16, s17, s18, s19⟩
                        go_simp
                        with_reducible rfl
                      rotate_left
                      · simp only [Act.put, List.setIfInBounds_toArray, List.set_cons_zero, List.set_cons_succ, i64_w, i32_w]
                        rfl
                      refine pure_ (i := 3) (N := some 36) (v := ?_) (a' := ?_) #[true, true, true, true, false, true, false, true, false, false, false, false] rfl rfl (any_of HT_.out (by kernel_rfl)) (fun _ _ _ h => h) (Or.inl ⟨by rfl, ?_⟩) ?_ ?_
                      rotate_left
                      · intro w'
                        go_simp
                        with_reducible rfl
                      rotate_left
                      · simp only [Act.put, List.setIfInBounds_toArray, List.set_cons_zero, List.set_cons_succ, i64_w, i32_w]
                        rfl
                      refine take_ (i := 4) (N := some 37) (v := ?_) (a' := ?_) #[true, true, true, true, true, true, false, true, false, false, false, false] rfl rfl (take_ofW HT_.out HW_.out (by kernel_rfl)) (fun _ _ _ h => h) (Or.inl ⟨by rfl, ?_⟩) hHeld ?_ ?_
                      rotate_left
                      · rintro w' ⟨s0, s1, s2, s3, s4, s5, s6, s7, s8, s9, s10, s11, s12, s13, s14, s15, s16, s17, s18, s19⟩
                        go_simp
                        with_reducible rfl
                      rotate_left
                      · simp only [Act.put, List.setIfInBounds_toArray, List.set_cons_zero, List.set_cons_succ, i64_w, i32_w]
                        rfl
                      refine take_ (i := 6) (N := some 39) (v := ?_) (a' := ?_) #[true, true, true, true, true, true, true, true, false, false, false, false] rfl rfl (take_ofW HT_.out HW_.out (by kernel_rfl)) (fun _ _ _ h => h) (Or.inl ⟨by rfl, ?_⟩) hHeld ?_ ?_
                      rotate_left
                      · rintro w' ⟨s0, s1, s2, s3, s4, s5, s6, s7, s8, s9, s10, s11, s12, s13, s14, s15, s16, s17, s18, s19⟩
                        go_simp
                        with_reducible rfl
                      rotate_left
                      · simp only [Act.put, List.setIfInBounds_toArray, List.set_cons_zero, List.set_cons_succ, i64_w, i32_w]
                        rfl
                      refine pure_ (i := 8) (N := some 41) (v := ?_) (a' := ?_) #[true, true, true, true, true, true, true, true, true, false, false, false] rfl rfl (any_of HT_.out (by kernel_rfl)) (fun _ _ _ h => h) (Or.inl ⟨by rfl, ?_⟩) ?_ ?_
                      rotate_left
                      · intro w'
                        go_simp
                        with_reducible rfl
                      rotate_left
                      · simp only [Act.put, List.setIfInBounds_toArray, List.set_cons_zero, List.set_cons_succ, i64_w, i32_w]
                        rfl
                      refine take_ (i := 9) (N := some 42) (v := ?_) (a' := ?_) #[true, true, true, true, true, true, true, true, true, true, false, false] rfl rfl (take_ofW HT_.out HW_.out (by kernel_rfl)) (fun _ _ _ h => h) (Or.inl ⟨by rfl, ?_⟩) hHeld ?_ ?_
                      rotate_left
                      · rintro w' ⟨s0, s1, s2, s3, s4, s5, s6, s7, s8, s9, s10, s11, s12, s13, s14, s15, s16, s17, s18, s19⟩
                        go_simp
                        with_reducible rfl
                      rotate_left
                      · simp only [Act.put, List.setIfInBounds_toArray, List.set_cons_zero, List.set_cons_succ, i64_w, i32_w]
                        rfl
                      refine one_ (i := 10) (N := some 43) #[true, true, true, true, true, true, true, true, true, true, true, false] rfl rfl (one_of HT_.out (by kernel_rfl)) (by decide) (fun K hK => ?_)
                      refine goes_ Try.func58 (by kernel_rfl) rfl #[.agg #[.int .i64 ((rd_T65 l0_4 x30_2).f0.f0), .string ((rd_T65 l0_4 x30_2).f0.f1), .int .i64 ((rd_T65 l0_4 x30_2).f0.f2), .int .i64 ((rd_T65 l0_4 x30_2).f1), .slice A204_4 ((rd_T65 l0_4 x30_2).f2).length c204_4], .agg #[.int .i64 ((rd_T65 l1_4 x30_2).f0.f0), .string ((rd_T65 l1_4 x30_2).f0.f1), .int .i64 ((rd_T65 l1_4 x30_2).f0.f2), .int .i64 ((rd_T65 l1_4 x30_2).f1), .slice A205_4 ((rd_T65 l1_4 x30_2).f2).length c205_4]] (by rfl) rfl rfl (by (try simp only [List.map_toArray, List.map_cons, List.map_nil]); first | done | rfl | (simp only [List.length_drop, List.length_take]; rfl)) ?_
                      with_reducible refine (ih k2 (by have := HJ2.out; have := HK2.out; omega) ((rd_T65 l0_4 x30_2).f0.f0) ((rd_T65 l0_4 x30_2).f0.f1) ((rd_T65 l0_4 x30_2).f0.f2) ((rd_T65 l0_4 x30_2).f1) _ _ ((rd_T65 l0_4 x30_2).f2) ((rd_T65 l1_4 x30_2).f0.f0) ((rd_T65 l1_4 x30_2).f0.f1) ((rd_T65 l1_4 x30_2).f0.f2) ((rd_T65 l1_4 x30_2).f1) _ _ ((rd_T65 l1_4 x30_2).f2) true _ ?side1 ?side2 ?side3 ?side4 A24.out).mono ?_
                      (case side1 => repeat (first | exact (Kd.C_below HR204_4.out HB.out) | (with_reducible refine Kd.C_alloc ?_ _) | (with_reducible refine Kd.C_drewN ?_ _) | (with_reducible refine Kd.C_drew ?_)))
                      (case side2 => exact HC204_4.out)
                      (case side3 => repeat (first | exact (Kd.C_below HR205_4.out HB.out) | (with_reducible refine Kd.C_alloc ?_ _) | (with_reducible refine Kd.C_drewN ?_ _) | (with_reducible refine Kd.C_drew ?_)))
                      (case side4 => exact HC205_4.out)
                      rintro e w27 ⟨rfl, hb⟩
                      refine ⟨_, rfl, ?_⟩
                      have n0_ := Aside0.mk (blk_below (g := gb202) (o := .cells #[.int .i64 a0_0, .string a0_1, .int .i64 a0_2, .int .i64 a0_3, .slice (some ad204) l0_4.length c0_4] 65 (0, 0)) (by (with_reducible repeat (first | refine blk_drewN ?_ _ | refine blk_drew ?_ | refine blk_alloc ?_ _)); exact BK202.out) hb)
                      have n1_ := Aside0.mk (blk_below (g := gb203) (o := .cells #[.int .i64 a1_0, .string a1_1, .int .i64 a1_2, .int .i64 a1_3, .slice (some ad205) l1_4.length c1_4] 65 (0, 0)) (by (with_reducible repeat (first | refine blk_drewN ?_ _ | refine blk_drew ?_ | refine blk_alloc ?_ _)); exact BK203.out) hb)
                      have n2_ := Aside0.mk (below_step (by repeat (first | (with_reducible first | exact HB.out | apply below_alloc | apply pw_below_drewN | apply below_drew1 | refine below_set ?_ GE202.out | refine below_set ?_ GE203.out) | exact HB.out)) hb)
                      clear BK202
                      clear BK203
                      clear HB
                      have BK202 := n0_
                      have BK203 := n1_
                      have HB := n2_
                      clear n0_ n1_ n2_
                      (try clear hb)
                      (try clear hb2)
                      (try clear hk)
                      (try clear hi)
                      refine hK.out _ _ ⟨(blk_cell BK202.out 0).trans rfl, (blk_cell BK202.out 1).trans rfl, (blk_cell BK202.out 2).trans rfl, (blk_cell BK202.out 3).trans rfl, (blk_cell BK202.out 4).trans rfl, (blk_cell BK203.out 0).trans rfl, (blk_cell BK203.out 1).trans rfl, (blk_cell BK203.out 2).trans rfl, (blk_cell BK203.out 3).trans rfl, (blk_cell BK203.out 4).trans rfl, ((HB.out.cell (World.block_lt_of_cell? w _ hw204_0)).trans hw204_0), ((HB.out.cell (World.block_lt_of_cell? w _ hw204_1)).trans hw204_1), ((HB.out.cell (World.block_lt_of_cell? w _ hw204_2)).trans hw204_2), ((HB.out.cell (World.block_lt_of_cell? w _ hw204_3)).trans hw204_3), ((HB.out.cell (World.block_lt_of_cell? w _ hw204_4)).trans hw204_4), ((HB.out.cell (World.block_lt_of_cell? w _ hw205_0)).trans hw205_0), ((HB.out.cell (World.block_lt_of_cell? w _ hw205_1)).trans hw205_1), ((HB.out.cell (World.block_lt_of_cell? w _ hw205_2)).trans hw205_2), ((HB.out.cell (World.block_lt_of_cell? w _ hw205_3)).trans hw205_3), ((HB.out.cell (World.block_lt_of_cell? w _ hw205_4)).trans hw205_4)⟩ (fun hHeld => ?_)
                      clear hK K
                      refine norm_ (a' := ?_) ?_ ?_
                      rotate_left
                      · show Act.put _ (some 43) _ = _
                        simp only [Act.put, List.setIfInBounds_toArray, List.set_cons_zero, List.set_cons_succ, i64_w, i32_w]
                        rfl
                      refine pure_ (i := 11) (N := some 44) (v := ?_) (a' := ?_) #[true, true, true, true, true, true, true, true, true, true, true, true] rfl rfl (any_of HT_.out (by kernel_rfl)) (fun _ _ _ h => h) (Or.inl ⟨by rfl, ?_⟩) ?_ ?_
                      rotate_left
                      · intro w'
                        go_simp
                        with_reducible rfl
                      rotate_left
                      · simp only [Act.put, List.setIfInBounds_toArray, List.set_cons_zero, List.set_cons_succ, i64_w, i32_w]
                        rfl
                      refine done_ (done_of HT_.out (by kernel_rfl)) ?_
                      try go_wp2
                      go_roundg k2
                      case measure => have := HJ2.out; have := HK2.out; omega
                      case rel => exact ⟨(wrap64 (x30_2 + 1)), (by first | rfl | (simp; done) | (simp [*]; done)), H', ⟨by have := HJ2.out; have := HK2.out; omega⟩, ⟨by (with_reducible repeat (first | refine blk_drewN ?_ _ | refine blk_drew ?_ | refine blk_alloc ?_ _)); exact BK202.out⟩, ⟨by (with_reducible repeat (first | refine blk_drewN ?_ _ | refine blk_drew ?_ | refine blk_alloc ?_ _)); exact BK203.out⟩, ⟨by repeat (first | (with_reducible first | exact HB.out | apply below_alloc | apply pw_below_drewN | apply below_drew1 | refine below_set ?_ GE202.out | refine below_set ?_ GE203.out) | exact HB.out)⟩⟩
                    · replace c25 := Bool.eq_false_iff.mpr c25
                      subst c25
                      have H1 : (some false) = some r := by rw [if_neg (show ¬ (false = true) by decide)] at H; exact H
                      clear H
                      have H := H1
                      clear H1
                      obtain rfl := Option.some.inj H
                      try go_wp2
                      have n0_ := Aside0.mk (blk_drew BK202.out)
                      have n1_ := Aside0.mk (blk_drew BK203.out)
                      have n2_ := Aside0.mk (below_drew1 HB.out)
                      clear BK202
                      clear BK203
                      clear HB
                      have BK202 := n0_
                      have BK203 := n1_
                      have HB := n2_
                      clear n0_ n1_ n2_
                      have p204 : 0 ≤ (x30_2 : Int) := of_decide_eq_true (by first | (with_reducible assumption) | assumption)
                      have q204 : x30_2 < (l0_4.length : Int) := of_decide_eq_true (by first | (with_reducible assumption) | assumption)
                      obtain ⟨ad204, A204_4, c204_4, e204, hx204_0, hx204_1, hx204_2, hx204_3, hx204_4, hl204_4, hi204_4⟩ := at_T65 HR0_4.out x30_2 p204 q204
                      have hw204_4 := hx204_4
                      have hw204_3 := hx204_3
                      have hw204_2 := hx204_2
                      have hw204_1 := hx204_1
                      have hw204_0 := hx204_0
                      cases e204
                      replace hx204_0 := (HB.out.cell (World.block_lt_of_cell? w _ hx204_0)).trans hx204_0
                      replace hx204_1 := (HB.out.cell (World.block_lt_of_cell? w _ hx204_1)).trans hx204_1
                      replace hx204_2 := (HB.out.cell (World.block_lt_of_cell? w _ hx204_2)).trans hx204_2
                      replace hx204_3 := (HB.out.cell (World.block_lt_of_cell? w _ hx204_3)).trans hx204_3
                      replace hx204_4 := (HB.out.cell (World.block_lt_of_cell? w _ hx204_4)).trans hx204_4
                      have HR204_4 := Aside0.mk hi204_4
                      have HC204_4 := Aside0.mk hl204_4
                      clear hi204_4 hl204_4
                      replace p204 := eq_true p204
                      replace q204 := eq_true q204
                      have p205 : 0 ≤ (x30_2 : Int) := of_decide_eq_true (by first | (with_reducible assumption) | assumption)
                      have q205 : x30_2 < (l1_4.length : Int) := of_decide_eq_true (by first | (with_reducible assumption) | assumption)
                      obtain ⟨ad205, A205_4, c205_4, e205, hx205_0, hx205_1, hx205_2, hx205_3, hx205_4, hl205_4, hi205_4⟩ := at_T65 HR1_4.out x30_2 p205 q205
                      have hw205_4 := hx205_4
                      have hw205_3 := hx205_3
                      have hw205_2 := hx205_2
                      have hw205_1 := hx205_1
                      have hw205_0 := hx205_0
                      cases e205
                      replace hx205_0 := (HB.out.cell (World.block_lt_of_cell? w _ hx205_0)).trans hx205_0
                      replace hx205_1 := (HB.out.cell (World.block_lt_of_cell? w _ hx205_1)).trans hx205_1
                      replace hx205_2 := (HB.out.cell (World.block_lt_of_cell? w _ hx205_2)).trans hx205_2
                      replace hx205_3 := (HB.out.cell (World.block_lt_of_cell? w _ hx205_3)).trans hx205_3
                      replace hx205_4 := (HB.out.cell (World.block_lt_of_cell? w _ hx205_4)).trans hx205_4
                      have HR205_4 := Aside0.mk hi205_4
                      have HC205_4 := Aside0.mk hl205_4
                      clear hi205_4 hl205_4
                      replace p205 := eq_true p205
                      replace q205 := eq_true q205
                      refine start_ (n := 12) (S := fun w' => w'.cell? ⟨gb202, 0, none⟩ = some (.int .i64 a0_0) ∧ w'.cell? ⟨gb202, 1, none⟩ = some (.string a0_1) ∧ w'.cell? ⟨gb202, 2, none⟩ = some (.int .i64 a0_2) ∧ w'.cell? ⟨gb202, 3, none⟩ = some (.int .i64 a0_3) ∧ w'.cell? ⟨gb202, 4, none⟩ = some (.slice (some ad204) l0_4.length c0_4) ∧ w'.cell? ⟨gb203, 0, none⟩ = some (.int .i64 a1_0) ∧ w'.cell? ⟨gb203, 1, none⟩ = some (.string a1_1) ∧ w'.cell? ⟨gb203, 2, none⟩ = some (.int .i64 a1_2) ∧ w'.cell? ⟨gb203, 3, none⟩ = some (.int .i64 a1_3) ∧ w'.cell? ⟨gb203, 4, none⟩ = some (.slice (some ad205) l1_4.length c1_4) ∧ w'.cell? (ad204.add ((x30_2).toNat * 5)) = some (.int .i64 ((rd_T65 l0_4 x30_2).f0.f0)) ∧ w'.cell? ⟨(ad204.add ((x30_2).toNat * 5)).block, (ad204.add ((x30_2).toNat * 5)).off + 1, none⟩ = some (.string ((rd_T65 l0_4 x30_2).f0.f1)) ∧ w'.cell? ⟨(ad204.add ((x30_2).toNat * 5)).block, (ad204.add ((x30_2).toNat * 5)).off + 2, none⟩ = some (.int .i64 ((rd_T65 l0_4 x30_2).f0.f2)) ∧ w'.cell? ⟨(ad204.add ((x30_2).toNat * 5)).block, (ad204.add ((x30_2).toNat * 5)).off + 3, none⟩ = some (.int .i64 ((rd_T65 l0_4 x30_2).f1)) ∧ w'.cell? ⟨(ad204.add ((x30_2).toNat * 5)).block, (ad204.add ((x30_2).toNat * 5)).off + 4, none⟩ = some (.slice A204_4 ((rd_T65 l0_4 x30_2).f2).length c204_4) ∧ w'.cell? (ad205.add ((x30_2).toNat * 5)) = some (.int .i64 ((rd_T65 l1_4 x30_2).f0.f0)) ∧ w'.cell? ⟨(ad205.add ((x30_2).toNat * 5)).block, (ad205.add ((x30_2).toNat * 5)).off + 1, none⟩ = some (.string ((rd_T65 l1_4 x30_2).f0.f1)) ∧ w'.cell? ⟨(ad205.add ((x30_2).toNat * 5)).block, (ad205.add ((x30_2).toNat * 5)).off + 2, none⟩ = some (.int .i64 ((rd_T65 l1_4 x30_2).f0.f2)) ∧ w'.cell? ⟨(ad205.add ((x30_2).toNat * 5)).block, (ad205.add ((x30_2).toNat * 5)).off + 3, none⟩ = some (.int .i64 ((rd_T65 l1_4 x30_2).f1)) ∧ w'.cell? ⟨(ad205.add ((x30_2).toNat * 5)).block, (ad205.add ((x30_2).toNat * 5)).off + 4, none⟩ = some (.slice A205_4 ((rd_T65 l1_4 x30_2).f2).length c205_4)) (ds := []) #[false, false, false, false, false, false, false, false, false, false, false, false] (by kernel_rfl) rfl rfl ⟨(blk_cell BK202.out 0).trans rfl, (blk_cell BK202.out 1).trans rfl, (blk_cell BK202.out 2).trans rfl, (blk_cell BK202.out 3).trans rfl, (blk_cell BK202.out 4).trans rfl, (blk_cell BK203.out 0).trans rfl, (blk_cell BK203.out 1).trans rfl, (blk_cell BK203.out 2).trans rfl, (blk_cell BK203.out 3).trans rfl, (blk_cell BK203.out 4).trans rfl, ((HB.out.cell (World.block_lt_of_cell? w _ hw204_0)).trans hw204_0), ((HB.out.cell (World.block_lt_of_cell? w _ hw204_1)).trans hw204_1), ((HB.out.cell (World.block_lt_of_cell? w _ hw204_2)).trans hw204_2), ((HB.out.cell (World.block_lt_of_cell? w _ hw204_3)).trans hw204_3), ((HB.out.cell (World.block_lt_of_cell? w _ hw204_4)).trans hw204_4), ((HB.out.cell (World.block_lt_of_cell? w _ hw205_0)).trans hw205_0), ((HB.out.cell (World.block_lt_of_cell? w _ hw205_1)).trans hw205_1), ((HB.out.cell (World.block_lt_of_cell? w _ hw205_2)).trans hw205_2), ((HB.out.cell (World.block_lt_of_cell? w _ hw205_3)).trans hw205_3), ((HB.out.cell (World.block_lt_of_cell? w _ hw205_4)).trans hw205_4)⟩ (fun hHeld => ?_); refine with_tabW ergolaw14_sameExpr.tab6 ergolaw14_sameExpr.bits6 (fun HT_ HW_ => ?_)
                      generalize wr.drew = w28 at BK202 BK203 HB HR204_4 HR205_4 hx204_0 hx204_1 hx204_2 hx204_3 hx204_4 hx205_0 hx205_1 hx205_2 hx205_3 hx205_4 hHeld ⊢
                      refine pure_ (i := 0) (N := some 33) (v := ?_) (a' := ?_) #[true, false, false, false, false, false, false, false, false, false, false, false] rfl rfl (any_of HT_.out (by kernel_rfl)) (fun _ _ _ h => h) (Or.inl ⟨by rfl, ?_⟩) ?_ ?_
                      rotate_left
                      · intro w'
                        go_simp
                        with_reducible rfl
                      rotate_left
                      · simp only [Act.put, List.setIfInBounds_toArray, List.set_cons_zero, List.set_cons_succ, i64_w, i32_w]
                        rfl
                      refine pure_ (i := 2) (N := some 35) (v := ?_) (a' := ?_) #[true, false, true, false, false, false, false, false, false, false, false, false] rfl rfl (any_of HT_.out (by kernel_rfl)) (fun _ _ _ h => h) (Or.inl ⟨by rfl, ?_⟩) ?_ ?_
                      rotate_left
                      · intro w'
                        go_simp
                        with_reducible rfl
                      rotate_left
                      · simp only [Act.put, List.setIfInBounds_toArray, List.set_cons_zero, List.set_cons_succ, i64_w, i32_w]
                        rfl
                      refine pure_ (i := 5) (N := some 38) (v := ?_) (a' := ?_) #[true, false, true, false, false, true, false, false, false, false, false, false] rfl rfl (any_of HT_.out (by kernel_rfl)) (fun _ _ _ h => h) (Or.inl ⟨by rfl, ?_⟩) ?_ ?_
                      rotate_left
                      · intro w'
                        go_simp
                        with_reducible rfl
                      rotate_left
                      · simp only [Act.put, List.setIfInBounds_toArray, List.set_cons_zero, List.set_cons_succ, i64_w, i32_w]
                        rfl
                      refine pure_ (i := 7) (N := some 40) (v := ?_) (a' := ?_) #[true, false, true, false, false, true, false, true, false, false, false, false] rfl rfl (any_of HT_.out (by kernel_rfl)) (fun _ _ _ h => h) (Or.inl ⟨by rfl, ?_⟩) ?_ ?_
                      rotate_left
                      · intro w'
                        go_simp
                        with_reducible rfl
                      rotate_left
                      · simp only [Act.put, List.setIfInBounds_toArray, List.set_cons_zero, List.set_cons_succ, i64_w, i32_w]
                        rfl
                      refine take_ (i := 1) (N := some 34) (v := ?_) (a' := ?_) #[true, true, true, false, false, true, false, true, false, false, false, false] rfl rfl (take_ofW HT_.out HW_.out (by kernel_rfl)) (fun _ _ _ h => h) (Or.inl ⟨by rfl, ?_⟩) hHeld ?_ ?_
                      rotate_left
                      · rintro w' ⟨s0, s1, s2, s3, s4, s5, s6, s7, s8, s9, s10, s11, s12, s13, s14, s15, s16, s17, s18, s19⟩
                        go_simp
                        with_reducible rfl
                      rotate_left
                      · simp only [Act.put, List.setIfInBounds_toArray, List.set_cons_zero, List.set_cons_succ, i64_w, i32_w]
                        rfl
                      refine pure_ (i := 3) (N := some 36) (v := ?_) (a' := ?_) #[true, true, true, true, false, true, false, true, false, false, false, false] rfl rfl (any_of HT_.out (by kernel_rfl)) (fun _ _ _ h => h) (Or.inl ⟨by rfl, ?_⟩) ?_ ?_
                      rotate_left
                      · intro w'
                        go_simp
                        with_reducible rfl
                      rotate_left
                      · simp only [Act.put, List.setIfInBounds_toArray, List.set_cons_zero, List.set_cons_succ, i64_w, i32_w]
                        rfl
                      refine take_ (i := 4) (N := some 37) (v := ?_) (a' := ?_) #[true, true, true, true, true, true, false, true, false, false, false, false] rfl rfl (take_ofW HT_.out HW_.out (by kernel_rfl)) (fun _ _ _ h => h) (Or.inl ⟨by rfl, ?_⟩) hHeld ?_ ?_
                      rotate_left
                      · rintro w' ⟨s0, s1, s2, s3, s4, s5, s6, s7, s8, s9, s10, s11, s12, s13, s14, s15, s16, s17, s18, s19⟩
                        go_simp
                        with_reducible rfl
                      rotate_left
                      · simp only [Act.put, List.setIfInBounds_toArray, List.set_cons_zero, List.set_cons_succ, i64_w, i32_w]
                        rfl
                      refine take_ (i := 6) (N := some 39) (v := ?_) (a' := ?_) #[true, true, true, true, true, true, true, true, false, false, false, false] rfl rfl (take_ofW HT_.out HW_.out (by kernel_rfl)) (fun _ _ _ h => h) (Or.inl ⟨by rfl, ?_⟩) hHeld ?_ ?_
                      rotate_left
                      · rintro w' ⟨s0, s1, s2, s3, s4, s5, s6, s7, s8, s9, s10, s11, s12, s13, s14, s15, s16, s17, s18, s19⟩
                        go_simp
                        with_reducible rfl
                      rotate_left
                      · simp only [Act.put, List.setIfInBounds_toArray, List.set_cons_zero, List.set_cons_succ, i64_w, i32_w]
                        rfl
                      refine pure_ (i := 8) (N := some 41) (v := ?_) (a' := ?_) #[true, true, true, true, true, true, true, true, true, false, false, false] rfl rfl (any_of HT_.out (by kernel_rfl)) (fun _ _ _ h => h) (Or.inl ⟨by rfl, ?_⟩) ?_ ?_
                      rotate_left
                      · intro w'
                        go_simp
                        with_reducible rfl
                      rotate_left
                      · simp only [Act.put, List.setIfInBounds_toArray, List.set_cons_zero, List.set_cons_succ, i64_w, i32_w]
                        rfl
                      refine take_ (i := 9) (N := some 42) (v := ?_) (a' := ?_) #[true, true, true, true, true, true, true, true, true, true, false, false] rfl rfl (take_ofW HT_.out HW_.out (by kernel_rfl)) (fun _ _ _ h => h) (Or.inl ⟨by rfl, ?_⟩) hHeld ?_ ?_
                      rotate_left
                      · rintro w' ⟨s0, s1, s2, s3, s4, s5, s6, s7, s8, s9, s10, s11, s12, s13, s14, s15, s16, s17, s18, s19⟩
                        go_simp
                        with_reducible rfl
                      rotate_left
                      · simp only [Act.put, List.setIfInBounds_toArray, List.set_cons_zero, List.set_cons_succ, i64_w, i32_w]
                        rfl
                      refine one_ (i := 10) (N := some 43) #[true, true, true, true, true, true, true, true, true, true, true, false] rfl rfl (one_of HT_.out (by kernel_rfl)) (by decide) (fun K hK => ?_)
                      refine goes_ Try.func58 (by kernel_rfl) rfl #[.agg #[.int .i64 ((rd_T65 l0_4 x30_2).f0.f0), .string ((rd_T65 l0_4 x30_2).f0.f1), .int .i64 ((rd_T65 l0_4 x30_2).f0.f2), .int .i64 ((rd_T65 l0_4 x30_2).f1), .slice A204_4 ((rd_T65 l0_4 x30_2).f2).length c204_4], .agg #[.int .i64 ((rd_T65 l1_4 x30_2).f0.f0), .string ((rd_T65 l1_4 x30_2).f0.f1), .int .i64 ((rd_T65 l1_4 x30_2).f0.f2), .int .i64 ((rd_T65 l1_4 x30_2).f1), .slice A205_4 ((rd_T65 l1_4 x30_2).f2).length c205_4]] (by rfl) rfl rfl (by (try simp only [List.map_toArray, List.map_cons, List.map_nil]); first | done | rfl | (simp only [List.length_drop, List.length_take]; rfl)) ?_
                      with_reducible refine (ih k2 (by have := HJ2.out; have := HK2.out; omega) ((rd_T65 l0_4 x30_2).f0.f0) ((rd_T65 l0_4 x30_2).f0.f1) ((rd_T65 l0_4 x30_2).f0.f2) ((rd_T65 l0_4 x30_2).f1) _ _ ((rd_T65 l0_4 x30_2).f2) ((rd_T65 l1_4 x30_2).f0.f0) ((rd_T65 l1_4 x30_2).f0.f1) ((rd_T65 l1_4 x30_2).f0.f2) ((rd_T65 l1_4 x30_2).f1) _ _ ((rd_T65 l1_4 x30_2).f2) false _ ?side1 ?side2 ?side3 ?side4 A24.out).mono ?_
                      (case side1 => repeat (first | exact (Kd.C_below HR204_4.out HB.out) | (with_reducible refine Kd.C_alloc ?_ _) | (with_reducible refine Kd.C_drewN ?_ _) | (with_reducible refine Kd.C_drew ?_)))
                      (case side2 => exact HC204_4.out)
                      (case side3 => repeat (first | exact (Kd.C_below HR205_4.out HB.out) | (with_reducible refine Kd.C_alloc ?_ _) | (with_reducible refine Kd.C_drewN ?_ _) | (with_reducible refine Kd.C_drew ?_)))
                      (case side4 => exact HC205_4.out)
                      rintro e w29 ⟨rfl, hb⟩
                      refine ⟨_, rfl, ?_⟩
                      have n0_ := Aside0.mk (blk_below (g := gb202) (o := .cells #[.int .i64 a0_0, .string a0_1, .int .i64 a0_2, .int .i64 a0_3, .slice (some ad204) l0_4.length c0_4] 65 (0, 0)) (by (with_reducible repeat (first | refine blk_drewN ?_ _ | refine blk_drew ?_ | refine blk_alloc ?_ _)); exact BK202.out) hb)
                      have n1_ := Aside0.mk (blk_below (g := gb203) (o := .cells #[.int .i64 a1_0, .string a1_1, .int .i64 a1_2, .int .i64 a1_3, .slice (some ad205) l1_4.length c1_4] 65 (0, 0)) (by (with_reducible repeat (first | refine blk_drewN ?_ _ | refine blk_drew ?_ | refine blk_alloc ?_ _)); exact BK203.out) hb)
                      have n2_ := Aside0.mk (below_step (by repeat (first | (with_reducible first | exact HB.out | apply below_alloc | apply pw_below_drewN | apply below_drew1 | refine below_set ?_ GE202.out | refine below_set ?_ GE203.out) | exact HB.out)) hb)
                      clear BK202
                      clear BK203
                      clear HB
                      have BK202 := n0_
                      have BK203 := n1_
                      have HB := n2_
                      clear n0_ n1_ n2_
                      (try clear hb)
                      (try clear hb2)
                      (try clear hk)
                      (try clear hi)
                      refine hK.out _ _ ⟨(blk_cell BK202.out 0).trans rfl, (blk_cell BK202.out 1).trans rfl, (blk_cell BK202.out 2).trans rfl, (blk_cell BK202.out 3).trans rfl, (blk_cell BK202.out 4).trans rfl, (blk_cell BK203.out 0).trans rfl, (blk_cell BK203.out 1).trans rfl, (blk_cell BK203.out 2).trans rfl, (blk_cell BK203.out 3).trans rfl, (blk_cell BK203.out 4).trans rfl, ((HB.out.cell (World.block_lt_of_cell? w _ hw204_0)).trans hw204_0), ((HB.out.cell (World.block_lt_of_cell? w _ hw204_1)).trans hw204_1), ((HB.out.cell (World.block_lt_of_cell? w _ hw204_2)).trans hw204_2), ((HB.out.cell (World.block_lt_of_cell? w _ hw204_3)).trans hw204_3), ((HB.out.cell (World.block_lt_of_cell? w _ hw204_4)).trans hw204_4), ((HB.out.cell (World.block_lt_of_cell? w _ hw205_0)).trans hw205_0), ((HB.out.cell (World.block_lt_of_cell? w _ hw205_1)).trans hw205_1), ((HB.out.cell (World.block_lt_of_cell? w _ hw205_2)).trans hw205_2), ((HB.out.cell (World.block_lt_of_cell? w _ hw205_3)).trans hw205_3), ((HB.out.cell (World.block_lt_of_cell? w _ hw205_4)).trans hw205_4)⟩ (fun hHeld => ?_)
                      clear hK K
                      refine norm_ (a' := ?_) ?_ ?_
                      rotate_left
                      · show Act.put _ (some 43) _ = _
                        simp only [Act.put, List.setIfInBounds_toArray, List.set_cons_zero, List.set_cons_succ, i64_w, i32_w]
                        rfl
                      refine pure_ (i := 11) (N := some 44) (v := ?_) (a' := ?_) #[true, true, true, true, true, true, true, true, true, true, true, true] rfl rfl (any_of HT_.out (by kernel_rfl)) (fun _ _ _ h => h) (Or.inl ⟨by rfl, ?_⟩) ?_ ?_
                      rotate_left
                      · intro w'
                        go_simp
                        with_reducible rfl
                      rotate_left
                      · simp only [Act.put, List.setIfInBounds_toArray, List.set_cons_zero, List.set_cons_succ, i64_w, i32_w]
                        rfl
                      refine done_ (done_of HT_.out (by kernel_rfl)) ?_
                      try go_wp2
                      go_ret
                      exact ⟨by first | rfl | (simp [errW_none, errW_some] <;> rfl) | (simp [*, errW_none, errW_some] <;> rfl), by repeat (first | (with_reducible first | exact HB.out | apply below_alloc | apply pw_below_drewN | apply below_drew1 | refine below_set ?_ GE202.out | refine below_set ?_ GE203.out) | exact HB.out)⟩
                  · rw [if_neg c23] at H
                    exact absurd H (by simp)
                · rw [if_neg c22] at H
                  exact absurd H (by simp)
              · rw [if_neg c21] at H
                exact absurd H (by simp)
            · rw [if_neg c20] at H
              have c20b0 : decide (x30_2 < (l0_4.length : Int)) = false := decide_eq_false c20
              clear c20
              obtain rfl := Option.some.inj H
              go_wp2
              go_ret
              exact ⟨by first | rfl | (simp [errW_none, errW_some] <;> rfl) | (simp [*, errW_none, errW_some] <;> rfl), by repeat (first | (with_reducible first | exact HB.out | apply below_alloc | apply pw_below_drewN | apply below_drew1 | refine below_set ?_ GE202.out | refine below_set ?_ GE203.out) | exact HB.out)⟩
end Go.Proofs.YtjlnpdpkobpkiaaPSP
