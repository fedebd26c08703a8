-- Written by a program of this session (wip/xprint.py). Lean checks it.
import Derived.Test.YtbcmkkphbkpapaaDoorPFWx0
namespace Go.Proofs.YtbcmkkphbkpapaaDoor.PFW
open Go.RowKit Go.Proofs.YtbcmkkphbkpapaaDoorW.PrintWords Go.Proofs.YtbcmkkphbkpapaaDoorW.PrintLast Go.Proofs.YtbcmkkphbkpapaaDoorW.PrintMore
attribute [local go_sem] max2_int min2_int max_two min_two max_three min_three max_four min_four   -- for this text's walks alone
set_option linter.unusedVariables false
set_option linter.unusedSimpArgs false

/-! ### ergolaw01_digits: function 39 -/
def ergolaw01_digits.l0 : Nat → Int → ByteArray → Int → Option (ByteArray)
  | 0, _, _, _ => none
  | k + 1, x0, x3, x4 => if x4 = 0 then (if x0 < 0 then (if 1 + x3.size ≤ 9223372036854775807 then (some ((⟨#[45]⟩ : ByteArray) ++ x3)) else (none)) else (some x3)) else (if (Int.tmod x4 10) < 0 then ((some (([(48 + ((wrap64 (-(Int.tmod x4 10))) % 256)) % 256] : List Int) : List Int)).bind fun y101 => (if (strOfNums y101).size + x3.size ≤ 9223372036854775807 then (ergolaw01_digits.l0 k x0 ((strOfNums y101) ++ x3) (wrap64 (Int.tdiv x4 10))) else (none))) else ((some (([(48 + ((Int.tmod x4 10) % 256)) % 256] : List Int) : List Int)).bind fun y104 => (if (strOfNums y104).size + x3.size ≤ 9223372036854775807 then (ergolaw01_digits.l0 k x0 ((strOfNums y104) ++ x3) (wrap64 (Int.tdiv x4 10))) else (none))))
def ergolaw01_digits.f (k : Nat) (a0 : Int) : Option (ByteArray) := if a0 = 0 then (some (⟨#[48]⟩ : ByteArray)) else (ergolaw01_digits.l0 k a0 (⟨#[]⟩ : ByteArray) a0)
theorem ergolaw01_digits.mono_l : ∀ k, (∀ y0 y1 y2, LeO (ergolaw01_digits.l0 k y0 y1 y2) (ergolaw01_digits.l0 (k + 1) y0 y1 y2))
  | 0 => fun _ _ _ r h => by simp [ergolaw01_digits.l0] at h
  | k + 1 => by
    have ih0 := ergolaw01_digits.mono_l k
    · intro y0 y1 y2
      unfold ergolaw01_digits.l0
      repeat' first
      | (with_reducible exact ih0 _ _ _)
      | (with_reducible exact LeO.refl _)
      | (with_reducible exact LeO.none _)
      | (with_reducible refine LeO.ite ?_ ?_)
      | (with_reducible refine LeO.bind ?_ (fun _ => ?_))
      | exact ih0 _ _ _
      | exact LeO.none _
      | refine LeO.ite ?_ ?_
      | refine LeO.bind ?_ (fun _ => ?_)
theorem ergolaw01_digits.mono : ∀ a0 k, LeO (ergolaw01_digits.f k a0) (ergolaw01_digits.f (k + 1) a0) := by
  intro a0 k
  have ih0 := ergolaw01_digits.mono_l k
  unfold ergolaw01_digits.f
  repeat' first
      | (with_reducible exact ih0 _ _ _)
      | (with_reducible exact LeO.refl _)
      | (with_reducible exact LeO.none _)
      | (with_reducible refine LeO.ite ?_ ?_)
      | (with_reducible refine LeO.bind ?_ (fun _ => ?_))
      | exact ih0 _ _ _
      | exact LeO.none _
      | refine LeO.ite ?_ ?_
      | refine LeO.bind ?_ (fun _ => ?_)
set_option maxHeartbeats 8000000 in
set_option maxRecDepth 100000 in
theorem ergolaw01_digits.calls (k : Nat) (a0 : Int) (r : ByteArray) (w : World) (h : ergolaw01_digits.f k a0 = some r) :
    Calls Tryd.prog 39 #[.int .i64 a0] w fun e w' => e = .returned (.string r) ∧ Below w.heap.size w w' := by
  have HB := Aside0.mk (Below.refl w.heap.size w)
  have H : (if a0 = 0 then (some (⟨#[48]⟩ : ByteArray)) else (ergolaw01_digits.l0 k a0 (⟨#[]⟩ : ByteArray) a0)) = some r := h
  clear h
  by_cases c2 : a0 = 0
  · rw [if_pos c2] at H
    have c2b0 : (a0 == 0) = true := beq_iff_eq.mpr c2
    have c2b1 : (a0 != 0) = false := bne_eq_false_iff_eq.mpr c2
    clear c2
    obtain rfl := Option.some.inj H
    go_enter Tryd.func39, Tryd.ntmps39
    go_wp2
    go_ret
    exact ⟨by first | rfl | (simp [errW_none, errW_some] <;> rfl) | (simp [*, errW_none, errW_some] <;> rfl), by repeat (first | (with_reducible first | exact HB.out | apply below_alloc | apply pw_below_drewN | apply below_drew1) | exact HB.out)⟩
  · rw [if_neg c2] at H
    have c2b0 : (a0 == 0) = false := beq_eq_false_iff_ne.mpr c2
    have c2b1 : (a0 != 0) = true := bne_iff_ne.mpr c2
    have H' := Aside0.mk H
    clear H
    go_enter Tryd.func39, Tryd.ntmps39
    go_wp2
    go_loopg [3, 4] k (fun kq v3 v4 w' => ∃ (x3_1 : ByteArray) (x4_1 : Int), v3 = .string x3_1 ∧ v4 = .int .i64 x4_1 ∧ Aside0 (ergolaw01_digits.l0 kq a0 x3_1 x4_1 = some r) ∧ Aside0 (kq ≤ k) ∧ Aside0 (Below w.heap.size w w'))
    case atStart => exact ⟨((⟨#[]⟩ : ByteArray)), (a0), (by first | rfl | (simp; done) | (simp [*]; done)), (by first | rfl | (simp; done) | (simp [*]; done)), H', ⟨Nat.le_refl _⟩, ⟨by repeat (first | (with_reducible first | exact HB.out | apply below_alloc | apply pw_below_drewN | apply below_drew1) | exact HB.out)⟩⟩
    case round =>
      clear H'
      try clear c2
      try clear c2b0
      try clear c2b1
      try clear p2
      obtain ⟨x3_1, x4_1, rfl, rfl, HA, HK1, HB⟩ := hrel
      cases gk with
      | zero => exact absurd HA.out (by simp [ergolaw01_digits.l0])
      | succ k1 =>
        have H := HA.out
        clear HA
        simp only [ergolaw01_digits.l0] at H
        by_cases c3 : x4_1 = 0
        · rw [if_pos c3] at H
          have c3b0 : (x4_1 == 0) = true := beq_iff_eq.mpr c3
          have c3b1 : (x4_1 != 0) = false := bne_eq_false_iff_eq.mpr c3
          clear c3
          by_cases c4 : a0 < 0
          · rw [if_pos c4] at H
            have c4b0 : decide (a0 < 0) = true := decide_eq_true c4
            clear c4
            by_cases c5 : 1 + x3_1.size ≤ 9223372036854775807
            · rw [if_pos c5] at H
              have c5b0 := eq_true c5
              have c5b1 : decide (1 + x3_1.size ≤ 9223372036854775807) = true := decide_eq_true c5
              try have c5b2 : (9223372036854775807 < 1 + x3_1.size) = False := eq_false (Nat.not_lt.2 c5)
              obtain rfl := Option.some.inj H
              go_wp2
              go_ret
              exact ⟨by first | rfl | (simp [errW_none, errW_some] <;> rfl) | (simp [*, errW_none, errW_some] <;> rfl), by repeat (first | (with_reducible first | exact HB.out | apply below_alloc | apply pw_below_drewN | apply below_drew1) | exact HB.out)⟩
            · rw [if_neg c5] at H
              exact absurd H (by simp)
          · rw [if_neg c4] at H
            have c4b0 : decide (a0 < 0) = false := decide_eq_false c4
            clear c4
            obtain rfl := Option.some.inj H
            go_wp2
            go_ret
            exact ⟨by first | rfl | (simp [errW_none, errW_some] <;> rfl) | (simp [*, errW_none, errW_some] <;> rfl), by repeat (first | (with_reducible first | exact HB.out | apply below_alloc | apply pw_below_drewN | apply below_drew1) | exact HB.out)⟩
        · rw [if_neg c3] at H
          have c3b0 : (x4_1 == 0) = false := beq_eq_false_iff_ne.mpr c3
          have c3b1 : (x4_1 != 0) = true := bne_iff_ne.mpr c3
          by_cases c6 : (Int.tmod x4_1 10) < 0
          · rw [if_pos c6] at H
            have c6b0 : decide ((Int.tmod x4_1 10) < 0) = true := decide_eq_true c6
            clear c6
            obtain ⟨y101, hy101⟩ : ∃ y_ : List Int, y_ = (([(48 + ((wrap64 (-(Int.tmod x4_1 10))) % 256)) % 256] : List Int)) := ⟨_, rfl⟩
            replace H : (if (strOfNums y101).size + x3_1.size ≤ 9223372036854775807 then (ergolaw01_digits.l0 k1 a0 ((strOfNums y101) ++ x3_1) (wrap64 (Int.tdiv x4_1 10))) else (none)) = some r := by first | (rw [hy101]; with_reducible exact H) | (have H2_ := (Option.bind_some _ _).symm.trans H; rw [hy101]; with_reducible exact H2_) | (have H2_ := (Option.bind_some _ _).symm.trans H; with_reducible exact H2_) | with_reducible exact H | (rw [hy101]; exact H) | exact H
            have Ny101 := Aside0.mk hy101
            clear hy101
            by_cases c7 : (strOfNums y101).size + x3_1.size ≤ 9223372036854775807
            · rw [if_pos c7] at H
              have c7b0 := eq_true c7
              have c7b1 : decide ((strOfNums y101).size + x3_1.size ≤ 9223372036854775807) = true := decide_eq_true c7
              try have c7b2 : (9223372036854775807 < (strOfNums y101).size + x3_1.size) = False := eq_false (Nat.not_lt.2 c7)
              have H' := Aside0.mk H
              clear H
              go_wp2_with (first | ((with_reducible refine gate_dst (N := 22) rfl ?_); refine Kd.R_lit (Kd.int .u8) _ 5 ?hg (N := 22) ?hd (xs := ([(48 + ((wrap64 (-(Int.tmod x4_1 10))) % 256)) % 256] : List Int)) (inner := [.int .u8 ((48 + ((wrap64 (-(Int.tmod x4_1 10))) % 256)) % 256)]) (ok := fun _ => True) (okp := fun _ => True) ?hr ?hp (fun _ hk => hk) trivial (Below.refl _ _) (Nat.le_refl _) (by simp) ?_; (case hd => rfl); (case hg => rfl); (case hr => first | (go_simp; done) | (go_simp; rfl)); (case hp => exact (Reps.one (show Kd.M (Kd.int .u8) _ _ _ ((48 + ((wrap64 (-(Int.tmod x4_1 10))) % 256)) % 256) [.int .u8 ((48 + ((wrap64 (-(Int.tmod x4_1 10))) % 256)) % 256)] from rfl) (Reps.none _ _))); intro v102 w8 ho9 hb hg_ hnew_; clear hg_ hnew_; (first | rw [← Ny101.out] at ho9 | (simp only [Int.reduceToNat] at ho9; rw [← Ny101.out] at ho9)); have n0_ := Aside0.mk (Kd.R_lower ho9 (below_size (by repeat (first | (with_reducible first | exact HB.out | apply below_alloc | apply pw_below_drewN | apply below_drew1) | exact HB.out)))); have n1_ := Aside0.mk (below_step (by repeat (first | (with_reducible first | exact HB.out | apply below_alloc | apply pw_below_drewN | apply below_drew1) | exact HB.out)) hb); clear HB; have HO103 := n0_; have HB := n1_; clear n0_ n1_; clear hb ho9; have hcv10 := own_string (P := Tryd.prog) Tryd.underlying104 Tryd.underlying5 Tryd.underlying9 (Kd.own_of_R HO103.out)))
              go_roundg k1
              case measure => have := HK1.out; omega
              case rel => exact ⟨((strOfNums y101) ++ x3_1), (wrap64 (Int.tdiv x4_1 10)), (by first | rfl | (simp; done) | (simp [*]; done)), (by first | rfl | (simp; done) | (simp [*]; done)), H', ⟨by have := HK1.out; omega⟩, ⟨by repeat (first | (with_reducible first | exact HB.out | apply below_alloc | apply pw_below_drewN | apply below_drew1) | exact HB.out)⟩⟩
            · rw [if_neg c7] at H
              exact absurd H (by simp)
          · rw [if_neg c6] at H
            have c6b0 : decide ((Int.tmod x4_1 10) < 0) = false := decide_eq_false c6
            clear c6
            obtain ⟨y104, hy104⟩ : ∃ y_ : List Int, y_ = (([(48 + ((Int.tmod x4_1 10) % 256)) % 256] : List Int)) := ⟨_, rfl⟩
            replace H : (if (strOfNums y104).size + x3_1.size ≤ 9223372036854775807 then (ergolaw01_digits.l0 k1 a0 ((strOfNums y104) ++ x3_1) (wrap64 (Int.tdiv x4_1 10))) else (none)) = some r := by first | (rw [hy104]; with_reducible exact H) | (have H2_ := (Option.bind_some _ _).symm.trans H; rw [hy104]; with_reducible exact H2_) | (have H2_ := (Option.bind_some _ _).symm.trans H; with_reducible exact H2_) | with_reducible exact H | (rw [hy104]; exact H) | exact H
            have Ny104 := Aside0.mk hy104
            clear hy104
            by_cases c11 : (strOfNums y104).size + x3_1.size ≤ 9223372036854775807
            · rw [if_pos c11] at H
              have c11b0 := eq_true c11
              have c11b1 : decide ((strOfNums y104).size + x3_1.size ≤ 9223372036854775807) = true := decide_eq_true c11
              try have c11b2 : (9223372036854775807 < (strOfNums y104).size + x3_1.size) = False := eq_false (Nat.not_lt.2 c11)
              have H' := Aside0.mk H
              clear H
              go_wp2_with (first | ((with_reducible refine gate_dst (N := 22) rfl ?_); refine Kd.R_lit (Kd.int .u8) _ 5 ?hg (N := 22) ?hd (xs := ([(48 + ((Int.tmod x4_1 10) % 256)) % 256] : List Int)) (inner := [.int .u8 ((48 + ((Int.tmod x4_1 10) % 256)) % 256)]) (ok := fun _ => True) (okp := fun _ => True) ?hr ?hp (fun _ hk => hk) trivial (Below.refl _ _) (Nat.le_refl _) (by simp) ?_; (case hd => rfl); (case hg => rfl); (case hr => first | (go_simp; done) | (go_simp; rfl)); (case hp => exact (Reps.one (show Kd.M (Kd.int .u8) _ _ _ ((48 + ((Int.tmod x4_1 10) % 256)) % 256) [.int .u8 ((48 + ((Int.tmod x4_1 10) % 256)) % 256)] from rfl) (Reps.none _ _))); intro v105 w12 ho13 hb hg_ hnew_; clear hg_ hnew_; (first | rw [← Ny104.out] at ho13 | (simp only [Int.reduceToNat] at ho13; rw [← Ny104.out] at ho13)); have n0_ := Aside0.mk (Kd.R_lower ho13 (below_size (by repeat (first | (with_reducible first | exact HB.out | apply below_alloc | apply pw_below_drewN | apply below_drew1) | exact HB.out)))); have n1_ := Aside0.mk (below_step (by repeat (first | (with_reducible first | exact HB.out | apply below_alloc | apply pw_below_drewN | apply below_drew1) | exact HB.out)) hb); clear HB; have HO106 := n0_; have HB := n1_; clear n0_ n1_; clear hb ho13; have hcv14 := own_string (P := Tryd.prog) Tryd.underlying104 Tryd.underlying5 Tryd.underlying9 (Kd.own_of_R HO106.out)))
              go_roundg k1
              case measure => have := HK1.out; omega
              case rel => exact ⟨((strOfNums y104) ++ x3_1), (wrap64 (Int.tdiv x4_1 10)), (by first | rfl | (simp; done) | (simp [*]; done)), (by first | rfl | (simp; done) | (simp [*]; done)), H', ⟨by have := HK1.out; omega⟩, ⟨by repeat (first | (with_reducible first | exact HB.out | apply below_alloc | apply pw_below_drewN | apply below_drew1) | exact HB.out)⟩⟩
            · rw [if_neg c11] at H
              exact absurd H (by simp)

/-! ### ergolaw01_word: function 40 -/
def ergolaw01_word.f (k : Nat) (a0 : Int) : Option (ByteArray) := (some (([(⟨#[110, 111, 110, 101]⟩ : ByteArray), (⟨#[115, 121, 110, 116, 97, 120]⟩ : ByteArray), (⟨#[100, 101, 101, 112]⟩ : ByteArray), (⟨#[109, 97, 110, 121]⟩ : ByteArray), (⟨#[97, 114, 105, 116, 121]⟩ : ByteArray), (⟨#[116, 121, 112, 101]⟩ : ByteArray), (⟨#[117, 110, 115, 97, 102, 101]⟩ : ByteArray), (⟨#[99, 121, 99, 108, 101]⟩ : ByteArray), (⟨#[97, 100, 109, 105, 116]⟩ : ByteArray), (⟨#[117, 110, 107, 110, 111, 119, 110]⟩ : ByteArray), (⟨#[97, 114, 105, 116, 104]⟩ : ByteArray), (⟨#[102, 117, 101, 108]⟩ : ByteArray), (⟨#[114, 111, 119, 115]⟩ : ByteArray), (⟨#[99, 111, 109, 109, 97, 110, 100]⟩ : ByteArray)] : List ByteArray) : List ByteArray)).bind fun y107 => (if a0 < 0 then ((ergolaw01_digits.f k a0).bind fun t110 => (if 4 + t110.size ≤ 9223372036854775807 then (some ((⟨#[116, 97, 103, 32]⟩ : ByteArray) ++ t110)) else (none))) else (if a0 > 13 then ((ergolaw01_digits.f k a0).bind fun t111 => (if 4 + t111.size ≤ 9223372036854775807 then (some ((⟨#[116, 97, 103, 32]⟩ : ByteArray) ++ t111)) else (none))) else (if 0 ≤ a0 then (if a0 < (y107.length : Int) then (some (rdOf ByteArray.empty y107 a0)) else (none)) else (none))))
theorem ergolaw01_word.mono : ∀ a0 k, LeO (ergolaw01_word.f k a0) (ergolaw01_word.f (k + 1) a0) := by
  intro a0 k
  unfold ergolaw01_word.f
  repeat' first
      | (with_reducible exact ergolaw01_digits.mono _ _)
      | (with_reducible exact LeO.refl _)
      | (with_reducible exact LeO.none _)
      | (with_reducible refine LeO.ite ?_ ?_)
      | (with_reducible refine LeO.bind ?_ (fun _ => ?_))
      | exact ergolaw01_digits.mono _ _
      | exact LeO.none _
      | refine LeO.ite ?_ ?_
      | refine LeO.bind ?_ (fun _ => ?_)
set_option maxHeartbeats 8000000 in
set_option maxRecDepth 100000 in
theorem ergolaw01_word.calls (k : Nat) (a0 : Int) (r : ByteArray) (w : World) (h : ergolaw01_word.f k a0 = some r) :
    Calls Tryd.prog 40 #[.int .i64 a0] w fun e w' => e = .returned (.string r) ∧ Below w.heap.size w w' := by
  have HB := Aside0.mk (Below.refl w.heap.size w)
  have H : ((some (([(⟨#[110, 111, 110, 101]⟩ : ByteArray), (⟨#[115, 121, 110, 116, 97, 120]⟩ : ByteArray), (⟨#[100, 101, 101, 112]⟩ : ByteArray), (⟨#[109, 97, 110, 121]⟩ : ByteArray), (⟨#[97, 114, 105, 116, 121]⟩ : ByteArray), (⟨#[116, 121, 112, 101]⟩ : ByteArray), (⟨#[117, 110, 115, 97, 102, 101]⟩ : ByteArray), (⟨#[99, 121, 99, 108, 101]⟩ : ByteArray), (⟨#[97, 100, 109, 105, 116]⟩ : ByteArray), (⟨#[117, 110, 107, 110, 111, 119, 110]⟩ : ByteArray), (⟨#[97, 114, 105, 116, 104]⟩ : ByteArray), (⟨#[102, 117, 101, 108]⟩ : ByteArray), (⟨#[114, 111, 119, 115]⟩ : ByteArray), (⟨#[99, 111, 109, 109, 97, 110, 100]⟩ : ByteArray)] : List ByteArray) : List ByteArray)).bind fun y107 => (if a0 < 0 then ((ergolaw01_digits.f k a0).bind fun t110 => (if 4 + t110.size ≤ 9223372036854775807 then (some ((⟨#[116, 97, 103, 32]⟩ : ByteArray) ++ t110)) else (none))) else (if a0 > 13 then ((ergolaw01_digits.f k a0).bind fun t111 => (if 4 + t111.size ≤ 9223372036854775807 then (some ((⟨#[116, 97, 103, 32]⟩ : ByteArray) ++ t111)) else (none))) else (if 0 ≤ a0 then (if a0 < (y107.length : Int) then (some (rdOf ByteArray.empty y107 a0)) else (none)) else (none))))) = some r := h
  clear h
  obtain ⟨y107, hy107⟩ : ∃ y_ : List ByteArray, y_ = (([(⟨#[110, 111, 110, 101]⟩ : ByteArray), (⟨#[115, 121, 110, 116, 97, 120]⟩ : ByteArray), (⟨#[100, 101, 101, 112]⟩ : ByteArray), (⟨#[109, 97, 110, 121]⟩ : ByteArray), (⟨#[97, 114, 105, 116, 121]⟩ : ByteArray), (⟨#[116, 121, 112, 101]⟩ : ByteArray), (⟨#[117, 110, 115, 97, 102, 101]⟩ : ByteArray), (⟨#[99, 121, 99, 108, 101]⟩ : ByteArray), (⟨#[97, 100, 109, 105, 116]⟩ : ByteArray), (⟨#[117, 110, 107, 110, 111, 119, 110]⟩ : ByteArray), (⟨#[97, 114, 105, 116, 104]⟩ : ByteArray), (⟨#[102, 117, 101, 108]⟩ : ByteArray), (⟨#[114, 111, 119, 115]⟩ : ByteArray), (⟨#[99, 111, 109, 109, 97, 110, 100]⟩ : ByteArray)] : List ByteArray)) := ⟨_, rfl⟩
  replace H : (if a0 < 0 then ((ergolaw01_digits.f k a0).bind fun t110 => (if 4 + t110.size ≤ 9223372036854775807 then (some ((⟨#[116, 97, 103, 32]⟩ : ByteArray) ++ t110)) else (none))) else (if a0 > 13 then ((ergolaw01_digits.f k a0).bind fun t111 => (if 4 + t111.size ≤ 9223372036854775807 then (some ((⟨#[116, 97, 103, 32]⟩ : ByteArray) ++ t111)) else (none))) else (if 0 ≤ a0 then (if a0 < (y107.length : Int) then (some (rdOf ByteArray.empty y107 a0)) else (none)) else (none)))) = some r := by first | (rw [hy107]; with_reducible exact H) | (have H2_ := (Option.bind_some _ _).symm.trans H; rw [hy107]; with_reducible exact H2_) | (have H2_ := (Option.bind_some _ _).symm.trans H; with_reducible exact H2_) | with_reducible exact H | (rw [hy107]; exact H) | exact H
  have Ny107 := Aside0.mk hy107
  clear hy107
  by_cases c2 : a0 < 0
  · rw [if_pos c2] at H
    have c2b0 : decide (a0 < 0) = true := decide_eq_true c2
    clear c2
    replace H := Option.bind_eq_some_iff.mp H
    obtain ⟨t110, A30, H⟩ := H
    replace H : (if 4 + t110.size ≤ 9223372036854775807 then (some ((⟨#[116, 97, 103, 32]⟩ : ByteArray) ++ t110)) else (none)) = some r := H
    have A3 := Aside0.mk A30
    clear A30
    by_cases c4 : 4 + t110.size ≤ 9223372036854775807
    · rw [if_pos c4] at H
      have c4b0 := eq_true c4
      have c4b1 : decide (4 + t110.size ≤ 9223372036854775807) = true := decide_eq_true c4
      try have c4b2 : (9223372036854775807 < 4 + t110.size) = False := eq_false (Nat.not_lt.2 c4)
      obtain rfl := Option.some.inj H
      go_enter Tryd.func40, Tryd.ntmps40
      go_wp2_with (first | ((with_reducible refine gate_dst (N := 4) rfl ?_); refine Kd.R_lit Kd.string _ 9 ?hg (N := 4) ?hd (xs := ([(⟨#[110, 111, 110, 101]⟩ : ByteArray), (⟨#[115, 121, 110, 116, 97, 120]⟩ : ByteArray), (⟨#[100, 101, 101, 112]⟩ : ByteArray), (⟨#[109, 97, 110, 121]⟩ : ByteArray), (⟨#[97, 114, 105, 116, 121]⟩ : ByteArray), (⟨#[116, 121, 112, 101]⟩ : ByteArray), (⟨#[117, 110, 115, 97, 102, 101]⟩ : ByteArray), (⟨#[99, 121, 99, 108, 101]⟩ : ByteArray), (⟨#[97, 100, 109, 105, 116]⟩ : ByteArray), (⟨#[117, 110, 107, 110, 111, 119, 110]⟩ : ByteArray), (⟨#[97, 114, 105, 116, 104]⟩ : ByteArray), (⟨#[102, 117, 101, 108]⟩ : ByteArray), (⟨#[114, 111, 119, 115]⟩ : ByteArray), (⟨#[99, 111, 109, 109, 97, 110, 100]⟩ : ByteArray)] : List ByteArray)) (inner := [.string (⟨#[110, 111, 110, 101]⟩ : ByteArray), .string (⟨#[115, 121, 110, 116, 97, 120]⟩ : ByteArray), .string (⟨#[100, 101, 101, 112]⟩ : ByteArray), .string (⟨#[109, 97, 110, 121]⟩ : ByteArray), .string (⟨#[97, 114, 105, 116, 121]⟩ : ByteArray), .string (⟨#[116, 121, 112, 101]⟩ : ByteArray), .string (⟨#[117, 110, 115, 97, 102, 101]⟩ : ByteArray), .string (⟨#[99, 121, 99, 108, 101]⟩ : ByteArray), .string (⟨#[97, 100, 109, 105, 116]⟩ : ByteArray), .string (⟨#[117, 110, 107, 110, 111, 119, 110]⟩ : ByteArray), .string (⟨#[97, 114, 105, 116, 104]⟩ : ByteArray), .string (⟨#[102, 117, 101, 108]⟩ : ByteArray), .string (⟨#[114, 111, 119, 115]⟩ : ByteArray), .string (⟨#[99, 111, 109, 109, 97, 110, 100]⟩ : ByteArray)]) (ok := fun _ => True) (okp := fun _ => True) ?hr ?hp (fun _ hk => hk) trivial (Below.refl _ _) (Nat.le_refl _) (by simp) ?_; (case hd => rfl); (case hg => rfl); (case hr => first | (go_simp; done) | (go_simp; rfl)); (case hp => exact (Reps.one (show Kd.M Kd.string _ _ _ (⟨#[110, 111, 110, 101]⟩ : ByteArray) [.string (⟨#[110, 111, 110, 101]⟩ : ByteArray)] from rfl) (Reps.one (show Kd.M Kd.string _ _ _ (⟨#[115, 121, 110, 116, 97, 120]⟩ : ByteArray) [.string (⟨#[115, 121, 110, 116, 97, 120]⟩ : ByteArray)] from rfl) (Reps.one (show Kd.M Kd.string _ _ _ (⟨#[100, 101, 101, 112]⟩ : ByteArray) [.string (⟨#[100, 101, 101, 112]⟩ : ByteArray)] from rfl) (Reps.one (show Kd.M Kd.string _ _ _ (⟨#[109, 97, 110, 121]⟩ : ByteArray) [.string (⟨#[109, 97, 110, 121]⟩ : ByteArray)] from rfl) (Reps.one (show Kd.M Kd.string _ _ _ (⟨#[97, 114, 105, 116, 121]⟩ : ByteArray) [.string (⟨#[97, 114, 105, 116, 121]⟩ : ByteArray)] from rfl) (Reps.one (show Kd.M Kd.string _ _ _ (⟨#[116, 121, 112, 101]⟩ : ByteArray) [.string (⟨#[116, 121, 112, 101]⟩ : ByteArray)] from rfl) (Reps.one (show Kd.M Kd.string _ _ _ (⟨#[117, 110, 115, 97, 102, 101]⟩ : ByteArray) [.string (⟨#[117, 110, 115, 97, 102, 101]⟩ : ByteArray)] from rfl) (Reps.one (show Kd.M Kd.string _ _ _ (⟨#[99, 121, 99, 108, 101]⟩ : ByteArray) [.string (⟨#[99, 121, 99, 108, 101]⟩ : ByteArray)] from rfl) (Reps.one (show Kd.M Kd.string _ _ _ (⟨#[97, 100, 109, 105, 116]⟩ : ByteArray) [.string (⟨#[97, 100, 109, 105, 116]⟩ : ByteArray)] from rfl) (Reps.one (show Kd.M Kd.string _ _ _ (⟨#[117, 110, 107, 110, 111, 119, 110]⟩ : ByteArray) [.string (⟨#[117, 110, 107, 110, 111, 119, 110]⟩ : ByteArray)] from rfl) (Reps.one (show Kd.M Kd.string _ _ _ (⟨#[97, 114, 105, 116, 104]⟩ : ByteArray) [.string (⟨#[97, 114, 105, 116, 104]⟩ : ByteArray)] from rfl) (Reps.one (show Kd.M Kd.string _ _ _ (⟨#[102, 117, 101, 108]⟩ : ByteArray) [.string (⟨#[102, 117, 101, 108]⟩ : ByteArray)] from rfl) (Reps.one (show Kd.M Kd.string _ _ _ (⟨#[114, 111, 119, 115]⟩ : ByteArray) [.string (⟨#[114, 111, 119, 115]⟩ : ByteArray)] from rfl) (Reps.one (show Kd.M Kd.string _ _ _ (⟨#[99, 111, 109, 109, 97, 110, 100]⟩ : ByteArray) [.string (⟨#[99, 111, 109, 109, 97, 110, 100]⟩ : ByteArray)] from rfl) (Reps.none _ _)))))))))))))))); intro v108 w5 ho6 hb hg_ hnew_; clear hg_ hnew_; (first | rw [← Ny107.out] at ho6 | (simp only [Int.reduceToNat] at ho6; rw [← Ny107.out] at ho6)); have n0_ := Aside0.mk (Kd.R_lower ho6 (below_size (by repeat (first | (with_reducible first | exact HB.out | apply below_alloc | apply pw_below_drewN | apply below_drew1) | exact HB.out)))); have n1_ := Aside0.mk (below_step (by repeat (first | (with_reducible first | exact HB.out | apply below_alloc | apply pw_below_drewN | apply below_drew1) | exact HB.out)) hb); clear HB; have HO109 := n0_; have HB := n1_; clear n0_ n1_; clear hb ho6) | ((with_reducible refine gate_callee (f := 39) rfl ?_); refine goesL_ (some 12) rfl rfl Tryd.func39 (by kernel_rfl) rfl #[.int .i64 a0] rfl (by (try simp only [List.map_toArray, List.map_cons, List.map_nil]); first | done | rfl | (simp only [List.length_drop, List.length_take]; rfl)) ?_; (with_reducible refine (ergolaw01_digits.calls k a0 t110 _ A3.out).mono ?_); rintro e w7 ⟨rfl, hb⟩; refine ⟨_, rfl, ?_⟩; have n0_ := Aside0.mk (Kd.R_below (by (with_reducible repeat (first | apply Kd.R_alloc | apply Kd.R_drewN | apply Kd.R_drew)); exact HO109.out) hb); have n1_ := Aside0.mk (below_step (by repeat (first | (with_reducible first | exact HB.out | apply below_alloc | apply pw_below_drewN | apply below_drew1) | exact HB.out)) hb); clear HO109; clear HB; have HO109 := n0_; have HB := n1_; clear n0_ n1_; (try clear hb); (try clear hb2); (try clear hk); (try clear hi)))
      go_ret
      exact ⟨by first | rfl | (simp [errW_none, errW_some] <;> rfl) | (simp [*, errW_none, errW_some] <;> rfl), by repeat (first | (with_reducible first | exact HB.out | apply below_alloc | apply pw_below_drewN | apply below_drew1) | exact HB.out)⟩
    · rw [if_neg c4] at H
      exact absurd H (by simp)
  · rw [if_neg c2] at H
    have c2b0 : decide (a0 < 0) = false := decide_eq_false c2
    clear c2
    by_cases c8 : a0 > 13
    · rw [if_pos c8] at H
      have c8b0 : decide (13 < a0) = true := decide_eq_true c8
      clear c8
      replace H := Option.bind_eq_some_iff.mp H
      obtain ⟨t111, A90, H⟩ := H
      replace H : (if 4 + t111.size ≤ 9223372036854775807 then (some ((⟨#[116, 97, 103, 32]⟩ : ByteArray) ++ t111)) else (none)) = some r := H
      have A9 := Aside0.mk A90
      clear A90
      by_cases c10 : 4 + t111.size ≤ 9223372036854775807
      · rw [if_pos c10] at H
        have c10b0 := eq_true c10
        have c10b1 : decide (4 + t111.size ≤ 9223372036854775807) = true := decide_eq_true c10
        try have c10b2 : (9223372036854775807 < 4 + t111.size) = False := eq_false (Nat.not_lt.2 c10)
        obtain rfl := Option.some.inj H
        go_enter Tryd.func40, Tryd.ntmps40
        go_wp2_with (first | ((with_reducible refine gate_dst (N := 4) rfl ?_); refine Kd.R_lit Kd.string _ 9 ?hg (N := 4) ?hd (xs := ([(⟨#[110, 111, 110, 101]⟩ : ByteArray), (⟨#[115, 121, 110, 116, 97, 120]⟩ : ByteArray), (⟨#[100, 101, 101, 112]⟩ : ByteArray), (⟨#[109, 97, 110, 121]⟩ : ByteArray), (⟨#[97, 114, 105, 116, 121]⟩ : ByteArray), (⟨#[116, 121, 112, 101]⟩ : ByteArray), (⟨#[117, 110, 115, 97, 102, 101]⟩ : ByteArray), (⟨#[99, 121, 99, 108, 101]⟩ : ByteArray), (⟨#[97, 100, 109, 105, 116]⟩ : ByteArray), (⟨#[117, 110, 107, 110, 111, 119, 110]⟩ : ByteArray), (⟨#[97, 114, 105, 116, 104]⟩ : ByteArray), (⟨#[102, 117, 101, 108]⟩ : ByteArray), (⟨#[114, 111, 119, 115]⟩ : ByteArray), (⟨#[99, 111, 109, 109, 97, 110, 100]⟩ : ByteArray)] : List ByteArray)) (inner := [.string (⟨#[110, 111, 110, 101]⟩ : ByteArray), .string (⟨#[115, 121, 110, 116, 97, 120]⟩ : ByteArray), .string (⟨#[100, 101, 101, 112]⟩ : ByteArray), .string (⟨#[109, 97, 110, 121]⟩ : ByteArray), .string (⟨#[97, 114, 105, 116, 121]⟩ : ByteArray), .string (⟨#[116, 121, 112, 101]⟩ : ByteArray), .string (⟨#[117, 110, 115, 97, 102, 101]⟩ : ByteArray), .string (⟨#[99, 121, 99, 108, 101]⟩ : ByteArray), .string (⟨#[97, 100, 109, 105, 116]⟩ : ByteArray), .string (⟨#[117, 110, 107, 110, 111, 119, 110]⟩ : ByteArray), .string (⟨#[97, 114, 105, 116, 104]⟩ : ByteArray), .string (⟨#[102, 117, 101, 108]⟩ : ByteArray), .string (⟨#[114, 111, 119, 115]⟩ : ByteArray), .string (⟨#[99, 111, 109, 109, 97, 110, 100]⟩ : ByteArray)]) (ok := fun _ => True) (okp := fun _ => True) ?hr ?hp (fun _ hk => hk) trivial (Below.refl _ _) (Nat.le_refl _) (by simp) ?_; (case hd => rfl); (case hg => rfl); (case hr => first | (go_simp; done) | (go_simp; rfl)); (case hp => exact (Reps.one (show Kd.M Kd.string _ _ _ (⟨#[110, 111, 110, 101]⟩ : ByteArray) [.string (⟨#[110, 111, 110, 101]⟩ : ByteArray)] from rfl) (Reps.one (show Kd.M Kd.string _ _ _ (⟨#[115, 121, 110, 116, 97, 120]⟩ : ByteArray) [.string (⟨#[115, 121, 110, 116, 97, 120]⟩ : ByteArray)] from rfl) (Reps.one (show Kd.M Kd.string _ _ _ (⟨#[100, 101, 101, 112]⟩ : ByteArray) [.string (⟨#[100, 101, 101, 112]⟩ : ByteArray)] from rfl) (Reps.one (show Kd.M Kd.string _ _ _ (⟨#[109, 97, 110, 121]⟩ : ByteArray) [.string (⟨#[109, 97, 110, 121]⟩ : ByteArray)] from rfl) (Reps.one (show Kd.M Kd.string _ _ _ (⟨#[97, 114, 105, 116, 121]⟩ : ByteArray) [.string (⟨#[97, 114, 105, 116, 121]⟩ : ByteArray)] from rfl) (Reps.one (show Kd.M Kd.string _ _ _ (⟨#[116, 121, 112, 101]⟩ : ByteArray) [.string (⟨#[116, 121, 112, 101]⟩ : ByteArray)] from rfl) (Reps.one (show Kd.M Kd.string _ _ _ (⟨#[117, 110, 115, 97, 102, 101]⟩ : ByteArray) [.string (⟨#[117, 110, 115, 97, 102, 101]⟩ : ByteArray)] from rfl) (Reps.one (show Kd.M Kd.string _ _ _ (⟨#[99, 121, 99, 108, 101]⟩ : ByteArray) [.string (⟨#[99, 121, 99, 108, 101]⟩ : ByteArray)] from rfl) (Reps.one (show Kd.M Kd.string _ _ _ (⟨#[97, 100, 109, 105, 116]⟩ : ByteArray) [.string (⟨#[97, 100, 109, 105, 116]⟩ : ByteArray)] from rfl) (Reps.one (show Kd.M Kd.string _ _ _ (⟨#[117, 110, 107, 110, 111, 119, 110]⟩ : ByteArray) [.string (⟨#[117, 110, 107, 110, 111, 119, 110]⟩ : ByteArray)] from rfl) (Reps.one (show Kd.M Kd.string _ _ _ (⟨#[97, 114, 105, 116, 104]⟩ : ByteArray) [.string (⟨#[97, 114, 105, 116, 104]⟩ : ByteArray)] from rfl) (Reps.one (show Kd.M Kd.string _ _ _ (⟨#[102, 117, 101, 108]⟩ : ByteArray) [.string (⟨#[102, 117, 101, 108]⟩ : ByteArray)] from rfl) (Reps.one (show Kd.M Kd.string _ _ _ (⟨#[114, 111, 119, 115]⟩ : ByteArray) [.string (⟨#[114, 111, 119, 115]⟩ : ByteArray)] from rfl) (Reps.one (show Kd.M Kd.string _ _ _ (⟨#[99, 111, 109, 109, 97, 110, 100]⟩ : ByteArray) [.string (⟨#[99, 111, 109, 109, 97, 110, 100]⟩ : ByteArray)] from rfl) (Reps.none _ _)))))))))))))))); intro v108 w11 ho12 hb hg_ hnew_; clear hg_ hnew_; (first | rw [← Ny107.out] at ho12 | (simp only [Int.reduceToNat] at ho12; rw [← Ny107.out] at ho12)); have n0_ := Aside0.mk (Kd.R_lower ho12 (below_size (by repeat (first | (with_reducible first | exact HB.out | apply below_alloc | apply pw_below_drewN | apply below_drew1) | exact HB.out)))); have n1_ := Aside0.mk (below_step (by repeat (first | (with_reducible first | exact HB.out | apply below_alloc | apply pw_below_drewN | apply below_drew1) | exact HB.out)) hb); clear HB; have HO109 := n0_; have HB := n1_; clear n0_ n1_; clear hb ho12) | ((with_reducible refine gate_callee (f := 39) rfl ?_); refine goesL_ (some 12) rfl rfl Tryd.func39 (by kernel_rfl) rfl #[.int .i64 a0] rfl (by (try simp only [List.map_toArray, List.map_cons, List.map_nil]); first | done | rfl | (simp only [List.length_drop, List.length_take]; rfl)) ?_; (with_reducible refine (ergolaw01_digits.calls k a0 t111 _ A9.out).mono ?_); rintro e w13 ⟨rfl, hb⟩; refine ⟨_, rfl, ?_⟩; have n0_ := Aside0.mk (Kd.R_below (by (with_reducible repeat (first | apply Kd.R_alloc | apply Kd.R_drewN | apply Kd.R_drew)); exact HO109.out) hb); have n1_ := Aside0.mk (below_step (by repeat (first | (with_reducible first | exact HB.out | apply below_alloc | apply pw_below_drewN | apply below_drew1) | exact HB.out)) hb); clear HO109; clear HB; have HO109 := n0_; have HB := n1_; clear n0_ n1_; (try clear hb); (try clear hb2); (try clear hk); (try clear hi)))
        go_ret
        exact ⟨by first | rfl | (simp [errW_none, errW_some] <;> rfl) | (simp [*, errW_none, errW_some] <;> rfl), by repeat (first | (with_reducible first | exact HB.out | apply below_alloc | apply pw_below_drewN | apply below_drew1) | exact HB.out)⟩
      · rw [if_neg c10] at H
        exact absurd H (by simp)
    · rw [if_neg c8] at H
      have c8b0 : decide (13 < a0) = false := decide_eq_false c8
      clear c8
      by_cases c14 : 0 ≤ a0
      · rw [if_pos c14] at H
        have c14b0 : decide (0 ≤ a0) = true := decide_eq_true c14
        clear c14
        by_cases c15 : a0 < (y107.length : Int)
        · rw [if_pos c15] at H
          have c15b0 : decide (a0 < (y107.length : Int)) = true := decide_eq_true c15
          clear c15
          obtain rfl := Option.some.inj H
          go_enter Tryd.func40, Tryd.ntmps40
          go_wp2_with (first | ((with_reducible refine gate_dst (N := 4) rfl ?_); refine Kd.R_lit Kd.string _ 9 ?hg (N := 4) ?hd (xs := ([(⟨#[110, 111, 110, 101]⟩ : ByteArray), (⟨#[115, 121, 110, 116, 97, 120]⟩ : ByteArray), (⟨#[100, 101, 101, 112]⟩ : ByteArray), (⟨#[109, 97, 110, 121]⟩ : ByteArray), (⟨#[97, 114, 105, 116, 121]⟩ : ByteArray), (⟨#[116, 121, 112, 101]⟩ : ByteArray), (⟨#[117, 110, 115, 97, 102, 101]⟩ : ByteArray), (⟨#[99, 121, 99, 108, 101]⟩ : ByteArray), (⟨#[97, 100, 109, 105, 116]⟩ : ByteArray), (⟨#[117, 110, 107, 110, 111, 119, 110]⟩ : ByteArray), (⟨#[97, 114, 105, 116, 104]⟩ : ByteArray), (⟨#[102, 117, 101, 108]⟩ : ByteArray), (⟨#[114, 111, 119, 115]⟩ : ByteArray), (⟨#[99, 111, 109, 109, 97, 110, 100]⟩ : ByteArray)] : List ByteArray)) (inner := [.string (⟨#[110, 111, 110, 101]⟩ : ByteArray), .string (⟨#[115, 121, 110, 116, 97, 120]⟩ : ByteArray), .string (⟨#[100, 101, 101, 112]⟩ : ByteArray), .string (⟨#[109, 97, 110, 121]⟩ : ByteArray), .string (⟨#[97, 114, 105, 116, 121]⟩ : ByteArray), .string (⟨#[116, 121, 112, 101]⟩ : ByteArray), .string (⟨#[117, 110, 115, 97, 102, 101]⟩ : ByteArray), .string (⟨#[99, 121, 99, 108, 101]⟩ : ByteArray), .string (⟨#[97, 100, 109, 105, 116]⟩ : ByteArray), .string (⟨#[117, 110, 107, 110, 111, 119, 110]⟩ : ByteArray), .string (⟨#[97, 114, 105, 116, 104]⟩ : ByteArray), .string (⟨#[102, 117, 101, 108]⟩ : ByteArray), .string (⟨#[114, 111, 119, 115]⟩ : ByteArray), .string (⟨#[99, 111, 109, 109, 97, 110, 100]⟩ : ByteArray)]) (ok := fun _ => True) (okp := fun _ => True) ?hr ?hp (fun _ hk => hk) trivial (Below.refl _ _) (Nat.le_refl _) (by simp) ?_; (case hd => rfl); (case hg => rfl); (case hr => first | (go_simp; done) | (go_simp; rfl)); (case hp => exact (Reps.one (show Kd.M Kd.string _ _ _ (⟨#[110, 111, 110, 101]⟩ : ByteArray) [.string (⟨#[110, 111, 110, 101]⟩ : ByteArray)] from rfl) (Reps.one (show Kd.M Kd.string _ _ _ (⟨#[115, 121, 110, 116, 97, 120]⟩ : ByteArray) [.string (⟨#[115, 121, 110, 116, 97, 120]⟩ : ByteArray)] from rfl) (Reps.one (show Kd.M Kd.string _ _ _ (⟨#[100, 101, 101, 112]⟩ : ByteArray) [.string (⟨#[100, 101, 101, 112]⟩ : ByteArray)] from rfl) (Reps.one (show Kd.M Kd.string _ _ _ (⟨#[109, 97, 110, 121]⟩ : ByteArray) [.string (⟨#[109, 97, 110, 121]⟩ : ByteArray)] from rfl) (Reps.one (show Kd.M Kd.string _ _ _ (⟨#[97, 114, 105, 116, 121]⟩ : ByteArray) [.string (⟨#[97, 114, 105, 116, 121]⟩ : ByteArray)] from rfl) (Reps.one (show Kd.M Kd.string _ _ _ (⟨#[116, 121, 112, 101]⟩ : ByteArray) [.string (⟨#[116, 121, 112, 101]⟩ : ByteArray)] from rfl) (Reps.one (show Kd.M Kd.string _ _ _ (⟨#[117, 110, 115, 97, 102, 101]⟩ : ByteArray) [.string (⟨#[117, 110, 115, 97, 102, 101]⟩ : ByteArray)] from rfl) (Reps.one (show Kd.M Kd.string _ _ _ (⟨#[99, 121, 99, 108, 101]⟩ : ByteArray) [.string (⟨#[99, 121, 99, 108, 101]⟩ : ByteArray)] from rfl) (Reps.one (show Kd.M Kd.string _ _ _ (⟨#[97, 100, 109, 105, 116]⟩ : ByteArray) [.string (⟨#[97, 100, 109, 105, 116]⟩ : ByteArray)] from rfl) (Reps.one (show Kd.M Kd.string _ _ _ (⟨#[117, 110, 107, 110, 111, 119, 110]⟩ : ByteArray) [.string (⟨#[117, 110, 107, 110, 111, 119, 110]⟩ : ByteArray)] from rfl) (Reps.one (show Kd.M Kd.string _ _ _ (⟨#[97, 114, 105, 116, 104]⟩ : ByteArray) [.string (⟨#[97, 114, 105, 116, 104]⟩ : ByteArray)] from rfl) (Reps.one (show Kd.M Kd.string _ _ _ (⟨#[102, 117, 101, 108]⟩ : ByteArray) [.string (⟨#[102, 117, 101, 108]⟩ : ByteArray)] from rfl) (Reps.one (show Kd.M Kd.string _ _ _ (⟨#[114, 111, 119, 115]⟩ : ByteArray) [.string (⟨#[114, 111, 119, 115]⟩ : ByteArray)] from rfl) (Reps.one (show Kd.M Kd.string _ _ _ (⟨#[99, 111, 109, 109, 97, 110, 100]⟩ : ByteArray) [.string (⟨#[99, 111, 109, 109, 97, 110, 100]⟩ : ByteArray)] from rfl) (Reps.none _ _)))))))))))))))); intro v108 w16 ho17 hb hg_ hnew_; clear hg_ hnew_; (first | rw [← Ny107.out] at ho17 | (simp only [Int.reduceToNat] at ho17; rw [← Ny107.out] at ho17)); have n0_ := Aside0.mk (Kd.R_lower ho17 (below_size (by repeat (first | (with_reducible first | exact HB.out | apply below_alloc | apply pw_below_drewN | apply below_drew1) | exact HB.out)))); have n1_ := Aside0.mk (below_step (by repeat (first | (with_reducible first | exact HB.out | apply below_alloc | apply pw_below_drewN | apply below_drew1) | exact HB.out)) hb); clear HB; have HO109 := n0_; have HB := n1_; clear n0_ n1_; clear hb ho17; obtain ⟨Ao18, co18, eo18⟩ := Kd.R_slice HO109.out; subst eo18; have p112 : 0 ≤ (a0 : Int) := of_decide_eq_true (by first | (with_reducible assumption) | assumption); have q112 : a0 < (y107.length : Int) := of_decide_eq_true (by first | (with_reducible assumption) | assumption); obtain ⟨ad112, e112, hx112_0⟩ := Kd.at_string (Kd.R_reads' HO109.out).2.2 a0 p112 q112; cases e112; replace p112 := eq_true p112; replace q112 := eq_true q112))
          go_ret
          exact ⟨by first | rfl | (simp [errW_none, errW_some] <;> rfl) | (simp [*, errW_none, errW_some] <;> rfl), by repeat (first | (with_reducible first | exact HB.out | apply below_alloc | apply pw_below_drewN | apply below_drew1) | exact HB.out)⟩
        · rw [if_neg c15] at H
          exact absurd H (by simp)
      · rw [if_neg c14] at H
        exact absurd H (by simp)

end Go.Proofs.YtbcmkkphbkpapaaDoor.PFW
