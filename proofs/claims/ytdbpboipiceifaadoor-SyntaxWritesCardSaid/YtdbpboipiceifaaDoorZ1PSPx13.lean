import Derived.Test.YtdbpboipiceifaaDoorZ1PSPx0
import Derived.Test.YtdbpboipiceifaaDoorZ1PSPx12
namespace Go.Proofs.YtdbpboipiceifaaDoorPSP
open Go.RowKit Go.Proofs.YtdbpboipiceifaaDoorW.PrintWords Go.Proofs.YtdbpboipiceifaaDoorW.PrintLast Go.Proofs.YtdbpboipiceifaaDoorW.PrintMore
attribute [local go_sem] max2_int min2_int max_two min_two max_three min_three max_four min_four   -- for this text's walks alone
set_option linter.unusedVariables false
set_option linter.unusedSimpArgs false
def syntax_Expr_in.f : Nat → Int → ByteArray → Int → Int → List (S57) → Int → Option (ByteArray)
 | 0, _, _, _, _, _, _ => none
 | k + 1, a0_0, a0_1, a0_2, a0_3, l0_4, a1 => if (l0_4.length : Int) = 2 then ((syntax_level.f a0_3).bind fun t391 => (if 0 < (l0_4.length : Int) then ((syntax_Expr_in.f k ((rd_T57 l0_4 0).f0.f0) ((rd_T57 l0_4 0).f0.f1) ((rd_T57 l0_4 0).f0.f2) ((rd_T57 l0_4 0).f1) ((rd_T57 l0_4 0).f2) t391).bind fun t393 => (if t393.size + 1 ≤ 9223372036854775807 then ((arith_Op_Sign.f a0_3).bind fun t394 => (if (t393 ++ (⟨#[32]⟩ : ByteArray)).size + t394.size ≤ 9223372036854775807 then (if ((t393 ++ (⟨#[32]⟩ : ByteArray)) ++ t394).size + 1 ≤ 9223372036854775807 then (if 1 < (l0_4.length : Int) then ((syntax_Expr_in.f k ((rd_T57 l0_4 1).f0.f0) ((rd_T57 l0_4 1).f0.f1) ((rd_T57 l0_4 1).f0.f2) ((rd_T57 l0_4 1).f1) ((rd_T57 l0_4 1).f2) (wrap64 (t391 + 1))).bind fun t396 => (if (((t393 ++ (⟨#[32]⟩ : ByteArray)) ++ t394) ++ (⟨#[32]⟩ : ByteArray)).size + t396.size ≤ 9223372036854775807 then (if t391 < a1 then (if 1 + ((((t393 ++ (⟨#[32]⟩ : ByteArray)) ++ t394) ++ (⟨#[32]⟩ : ByteArray)) ++ t396).size ≤ 9223372036854775807 then (if ((⟨#[40]⟩ : ByteArray) ++ ((((t393 ++ (⟨#[32]⟩ : ByteArray)) ++ t394) ++ (⟨#[32]⟩ : ByteArray)) ++ t396)).size + 1 ≤ 9223372036854775807 then (some (((⟨#[40]⟩ : ByteArray) ++ ((((t393 ++ (⟨#[32]⟩ : ByteArray)) ++ t394) ++ (⟨#[32]⟩ : ByteArray)) ++ t396)) ++ (⟨#[41]⟩ : ByteArray))) else (none)) else (none)) else (some ((((t393 ++ (⟨#[32]⟩ : ByteArray)) ++ t394) ++ (⟨#[32]⟩ : ByteArray)) ++ t396))) else (none))) else (none)) else (none)) else (none))) else (none))) else (none))) else ((syntax_Term_String.f k a0_0 a0_1 a0_2).bind fun t390 => (some t390))
def syntax_Expr_in.T4 : Bool × List (List Nat × List Nat) := (true, [([], []), ([0], [0]), ([1], [1]), ([2], [2]), ([], []), ([3, 4], [3, 4]), ([5], [5]), ([], []), ([7], [7]), ([8, 5], [8]), ([6, 9], [6, 9]), ([10], [10]), ([], []), ([12], [12]), ([13], [13]), ([14], [14]), ([], []), ([16], [16]), ([15, 17, 9], [15, 17]), ([11, 18], [11, 18]), ([19, 18, 0, 1, 2, 3, 4, 5, 6, 7, 8, 9, 10, 11, 12, 13, 14, 15, 16, 17, 18, 19], [19])])
def syntax_Expr_in.B4 : List Nat := [0, 1, 3, 7, 0, 31, 63, 0, 128, 447, 1023, 2047, 0, 4096, 12288, 28672, 0, 65536, 259007, 524287, 1048575]
theorem syntax_Expr_in.tab4 : rtab .any (opsOf Tryd.f93 4) = syntax_Expr_in.T4 := by kernel_rfl
theorem syntax_Expr_in.bits4 : waitsOk syntax_Expr_in.T4.2 syntax_Expr_in.B4 = true := by kernel_rfl
set_option maxHeartbeats 8000000 in
set_option maxRecDepth 100000 in
theorem syntax_Expr_in.calls (k : Nat) : ∀ (a0_0 : Int) (a0_1 : ByteArray) (a0_2 : Int) (a0_3 : Int) (A0_4 : Option Addr) (c0_4 : Nat) (l0_4 : List (S57)) (a1 : Int) (r : ByteArray) (w : World) (hr0_4 : Kd.C k57 w A0_4 l0_4.length l0_4) (hc0_4 : l0_4.length ≤ c0_4) (h : syntax_Expr_in.f k a0_0 a0_1 a0_2 a0_3 l0_4 a1 = some r) (hG : Go.Proofs.YtdbpboipiceifaaDoor.TabT w),
  Calls Tryd.prog 93 #[.agg #[.int .i64 a0_0, .string a0_1, .int .i64 a0_2, .int .i64 a0_3, .slice A0_4 l0_4.length c0_4], .int .i64 a1] w fun e w' => e = .returned (.string r) ∧ Below w.heap.size w w' := by
 induction k using Nat.strongRecOn with
 | _ k ih =>
 intro a0_0 a0_1 a0_2 a0_3 A0_4 c0_4 l0_4 a1 r w hr0_4 hc0_4 h hG
 cases k with
 | zero => exact absurd h (by simp [syntax_Expr_in.f])
 | succ k =>
 simp only [syntax_Expr_in.f] at h
 have hu57 := Tryd.underlying57
 have hu53 := Tryd.underlying53
 have HR0_4 := aK_ hr0_4
 have HC0_4 := aK_ hc0_4
 clear hr0_4 hc0_4
 have HB := aK_ (Below.refl w.heap.size w)
 have H : (if (l0_4.length : Int) = 2 then ((syntax_level.f a0_3).bind fun t391 => (if 0 < (l0_4.length : Int) then ((syntax_Expr_in.f k ((rd_T57 l0_4 0).f0.f0) ((rd_T57 l0_4 0).f0.f1) ((rd_T57 l0_4 0).f0.f2) ((rd_T57 l0_4 0).f1) ((rd_T57 l0_4 0).f2) t391).bind fun t393 => (if t393.size + 1 ≤ 9223372036854775807 then ((arith_Op_Sign.f a0_3).bind fun t394 => (if (t393 ++ (⟨#[32]⟩ : ByteArray)).size + t394.size ≤ 9223372036854775807 then (if ((t393 ++ (⟨#[32]⟩ : ByteArray)) ++ t394).size + 1 ≤ 9223372036854775807 then (if 1 < (l0_4.length : Int) then ((syntax_Expr_in.f k ((rd_T57 l0_4 1).f0.f0) ((rd_T57 l0_4 1).f0.f1) ((rd_T57 l0_4 1).f0.f2) ((rd_T57 l0_4 1).f1) ((rd_T57 l0_4 1).f2) (wrap64 (t391 + 1))).bind fun t396 => (if (((t393 ++ (⟨#[32]⟩ : ByteArray)) ++ t394) ++ (⟨#[32]⟩ : ByteArray)).size + t396.size ≤ 9223372036854775807 then (if t391 < a1 then (if 1 + ((((t393 ++ (⟨#[32]⟩ : ByteArray)) ++ t394) ++ (⟨#[32]⟩ : ByteArray)) ++ t396).size ≤ 9223372036854775807 then (if ((⟨#[40]⟩ : ByteArray) ++ ((((t393 ++ (⟨#[32]⟩ : ByteArray)) ++ t394) ++ (⟨#[32]⟩ : ByteArray)) ++ t396)).size + 1 ≤ 9223372036854775807 then (some (((⟨#[40]⟩ : ByteArray) ++ ((((t393 ++ (⟨#[32]⟩ : ByteArray)) ++ t394) ++ (⟨#[32]⟩ : ByteArray)) ++ t396)) ++ (⟨#[41]⟩ : ByteArray))) else (none)) else (none)) else (some ((((t393 ++ (⟨#[32]⟩ : ByteArray)) ++ t394) ++ (⟨#[32]⟩ : ByteArray)) ++ t396))) else (none))) else (none)) else (none)) else (none))) else (none))) else (none))) else ((syntax_Term_String.f k a0_0 a0_1 a0_2).bind fun t390 => (some t390))) = some r := h
 clear h
 by_cases c3 : (l0_4.length : Int) = 2
 ·rw [if_pos c3] at H
  have c3b0 : ((l0_4.length : Int) == 2) = true := beq_iff_eq.mpr c3
  have c3b1 : ((l0_4.length : Int) != 2) = false := bne_eq_false_iff_eq.mpr c3
  clear c3
  replace H := Option.bind_eq_some_iff.mp H
  obtain ⟨t391, A40, H⟩ := H
  replace H : (if 0 < (l0_4.length : Int) then ((syntax_Expr_in.f k ((rd_T57 l0_4 0).f0.f0) ((rd_T57 l0_4 0).f0.f1) ((rd_T57 l0_4 0).f0.f2) ((rd_T57 l0_4 0).f1) ((rd_T57 l0_4 0).f2) t391).bind fun t393 => (if t393.size + 1 ≤ 9223372036854775807 then ((arith_Op_Sign.f a0_3).bind fun t394 => (if (t393 ++ (⟨#[32]⟩ : ByteArray)).size + t394.size ≤ 9223372036854775807 then (if ((t393 ++ (⟨#[32]⟩ : ByteArray)) ++ t394).size + 1 ≤ 9223372036854775807 then (if 1 < (l0_4.length : Int) then ((syntax_Expr_in.f k ((rd_T57 l0_4 1).f0.f0) ((rd_T57 l0_4 1).f0.f1) ((rd_T57 l0_4 1).f0.f2) ((rd_T57 l0_4 1).f1) ((rd_T57 l0_4 1).f2) (wrap64 (t391 + 1))).bind fun t396 => (if (((t393 ++ (⟨#[32]⟩ : ByteArray)) ++ t394) ++ (⟨#[32]⟩ : ByteArray)).size + t396.size ≤ 9223372036854775807 then (if t391 < a1 then (if 1 + ((((t393 ++ (⟨#[32]⟩ : ByteArray)) ++ t394) ++ (⟨#[32]⟩ : ByteArray)) ++ t396).size ≤ 9223372036854775807 then (if ((⟨#[40]⟩ : ByteArray) ++ ((((t393 ++ (⟨#[32]⟩ : ByteArray)) ++ t394) ++ (⟨#[32]⟩ : ByteArray)) ++ t396)).size + 1 ≤ 9223372036854775807 then (some (((⟨#[40]⟩ : ByteArray) ++ ((((t393 ++ (⟨#[32]⟩ : ByteArray)) ++ t394) ++ (⟨#[32]⟩ : ByteArray)) ++ t396)) ++ (⟨#[41]⟩ : ByteArray))) else (none)) else (none)) else (some ((((t393 ++ (⟨#[32]⟩ : ByteArray)) ++ t394) ++ (⟨#[32]⟩ : ByteArray)) ++ t396))) else (none))) else (none)) else (none)) else (none))) else (none))) else (none)) = some r := H
  have A4 := aK_ A40
  clear A40
  by_cases c5 : 0 < (l0_4.length : Int)
  ·rw [if_pos c5] at H
   have c5b0 : decide (0 < (l0_4.length : Int)) = true := decide_eq_true c5
   have c5b1 : decide (0 < l0_4.length) = true := decide_eq_true (by omega)
   clear c5
   replace H := Option.bind_eq_some_iff.mp H
   obtain ⟨t393, A60, H⟩ := H
   replace H : (if t393.size + 1 ≤ 9223372036854775807 then ((arith_Op_Sign.f a0_3).bind fun t394 => (if (t393 ++ (⟨#[32]⟩ : ByteArray)).size + t394.size ≤ 9223372036854775807 then (if ((t393 ++ (⟨#[32]⟩ : ByteArray)) ++ t394).size + 1 ≤ 9223372036854775807 then (if 1 < (l0_4.length : Int) then ((syntax_Expr_in.f k ((rd_T57 l0_4 1).f0.f0) ((rd_T57 l0_4 1).f0.f1) ((rd_T57 l0_4 1).f0.f2) ((rd_T57 l0_4 1).f1) ((rd_T57 l0_4 1).f2) (wrap64 (t391 + 1))).bind fun t396 => (if (((t393 ++ (⟨#[32]⟩ : ByteArray)) ++ t394) ++ (⟨#[32]⟩ : ByteArray)).size + t396.size ≤ 9223372036854775807 then (if t391 < a1 then (if 1 + ((((t393 ++ (⟨#[32]⟩ : ByteArray)) ++ t394) ++ (⟨#[32]⟩ : ByteArray)) ++ t396).size ≤ 9223372036854775807 then (if ((⟨#[40]⟩ : ByteArray) ++ ((((t393 ++ (⟨#[32]⟩ : ByteArray)) ++ t394) ++ (⟨#[32]⟩ : ByteArray)) ++ t396)).size + 1 ≤ 9223372036854775807 then (some (((⟨#[40]⟩ : ByteArray) ++ ((((t393 ++ (⟨#[32]⟩ : ByteArray)) ++ t394) ++ (⟨#[32]⟩ : ByteArray)) ++ t396)) ++ (⟨#[41]⟩ : ByteArray))) else (none)) else (none)) else (some ((((t393 ++ (⟨#[32]⟩ : ByteArray)) ++ t394) ++ (⟨#[32]⟩ : ByteArray)) ++ t396))) else (none))) else (none)) else (none)) else (none))) else (none)) = some r := H
   have A6 := aK_ A60
   clear A60
   by_cases c7 : t393.size + 1 ≤ 9223372036854775807
   ·rw [if_pos c7] at H
    have c7b0 := eq_true c7
    have c7b1 : decide (t393.size + 1 ≤ 9223372036854775807) = true := decide_eq_true c7
    try have c7b2 : (9223372036854775807 < t393.size + 1) = False := eq_false (Nat.not_lt.2 c7)
    replace H := Option.bind_eq_some_iff.mp H
    obtain ⟨t394, A80, H⟩ := H
    replace H : (if (t393 ++ (⟨#[32]⟩ : ByteArray)).size + t394.size ≤ 9223372036854775807 then (if ((t393 ++ (⟨#[32]⟩ : ByteArray)) ++ t394).size + 1 ≤ 9223372036854775807 then (if 1 < (l0_4.length : Int) then ((syntax_Expr_in.f k ((rd_T57 l0_4 1).f0.f0) ((rd_T57 l0_4 1).f0.f1) ((rd_T57 l0_4 1).f0.f2) ((rd_T57 l0_4 1).f1) ((rd_T57 l0_4 1).f2) (wrap64 (t391 + 1))).bind fun t396 => (if (((t393 ++ (⟨#[32]⟩ : ByteArray)) ++ t394) ++ (⟨#[32]⟩ : ByteArray)).size + t396.size ≤ 9223372036854775807 then (if t391 < a1 then (if 1 + ((((t393 ++ (⟨#[32]⟩ : ByteArray)) ++ t394) ++ (⟨#[32]⟩ : ByteArray)) ++ t396).size ≤ 9223372036854775807 then (if ((⟨#[40]⟩ : ByteArray) ++ ((((t393 ++ (⟨#[32]⟩ : ByteArray)) ++ t394) ++ (⟨#[32]⟩ : ByteArray)) ++ t396)).size + 1 ≤ 9223372036854775807 then (some (((⟨#[40]⟩ : ByteArray) ++ ((((t393 ++ (⟨#[32]⟩ : ByteArray)) ++ t394) ++ (⟨#[32]⟩ : ByteArray)) ++ t396)) ++ (⟨#[41]⟩ : ByteArray))) else (none)) else (none)) else (some ((((t393 ++ (⟨#[32]⟩ : ByteArray)) ++ t394) ++ (⟨#[32]⟩ : ByteArray)) ++ t396))) else (none))) else (none)) else (none)) else (none)) = some r := H
    have A8 := aK_ A80
    clear A80
    by_cases c9 : (t393 ++ (⟨#[32]⟩ : ByteArray)).size + t394.size ≤ 9223372036854775807
    ·rw [if_pos c9] at H
     have c9b0 := eq_true c9
     have c9b1 : decide ((t393 ++ (⟨#[32]⟩ : ByteArray)).size + t394.size ≤ 9223372036854775807) = true := decide_eq_true c9
     try have c9b2 : (9223372036854775807 < (t393 ++ (⟨#[32]⟩ : ByteArray)).size + t394.size) = False := eq_false (Nat.not_lt.2 c9)
     try have c9b4 : (9223372036854775807 < t393.size + 1 + t394.size) = False := eq_false (Nat.not_lt.2 (by have h9 := c9; simp only [ByteArray.size_append] at h9; exact h9))
     by_cases c10 : ((t393 ++ (⟨#[32]⟩ : ByteArray)) ++ t394).size + 1 ≤ 9223372036854775807
     ·rw [if_pos c10] at H
      have c10b0 := eq_true c10
      have c10b1 : decide (((t393 ++ (⟨#[32]⟩ : ByteArray)) ++ t394).size + 1 ≤ 9223372036854775807) = true := decide_eq_true c10
      try have c10b2 : (9223372036854775807 < ((t393 ++ (⟨#[32]⟩ : ByteArray)) ++ t394).size + 1) = False := eq_false (Nat.not_lt.2 c10)
      try have c10b4 : (9223372036854775807 < t393.size + 1 + t394.size + 1) = False := eq_false (Nat.not_lt.2 (by have h9 := c10; simp only [ByteArray.size_append] at h9; exact h9))
      by_cases c11 : 1 < (l0_4.length : Int)
      ·rw [if_pos c11] at H
       have c11b0 : decide (1 < (l0_4.length : Int)) = true := decide_eq_true c11
       have c11b1 : decide (1 < l0_4.length) = true := decide_eq_true (by omega)
       clear c11
       replace H := Option.bind_eq_some_iff.mp H
       obtain ⟨t396, A120, H⟩ := H
       replace H : (if (((t393 ++ (⟨#[32]⟩ : ByteArray)) ++ t394) ++ (⟨#[32]⟩ : ByteArray)).size + t396.size ≤ 9223372036854775807 then (if t391 < a1 then (if 1 + ((((t393 ++ (⟨#[32]⟩ : ByteArray)) ++ t394) ++ (⟨#[32]⟩ : ByteArray)) ++ t396).size ≤ 9223372036854775807 then (if ((⟨#[40]⟩ : ByteArray) ++ ((((t393 ++ (⟨#[32]⟩ : ByteArray)) ++ t394) ++ (⟨#[32]⟩ : ByteArray)) ++ t396)).size + 1 ≤ 9223372036854775807 then (some (((⟨#[40]⟩ : ByteArray) ++ ((((t393 ++ (⟨#[32]⟩ : ByteArray)) ++ t394) ++ (⟨#[32]⟩ : ByteArray)) ++ t396)) ++ (⟨#[41]⟩ : ByteArray))) else (none)) else (none)) else (some ((((t393 ++ (⟨#[32]⟩ : ByteArray)) ++ t394) ++ (⟨#[32]⟩ : ByteArray)) ++ t396))) else (none)) = some r := H
       have A12 := aK_ A120
       clear A120
       by_cases c13 : (((t393 ++ (⟨#[32]⟩ : ByteArray)) ++ t394) ++ (⟨#[32]⟩ : ByteArray)).size + t396.size ≤ 9223372036854775807
       ·rw [if_pos c13] at H
        have c13b0 := eq_true c13
        have c13b1 : decide ((((t393 ++ (⟨#[32]⟩ : ByteArray)) ++ t394) ++ (⟨#[32]⟩ : ByteArray)).size + t396.size ≤ 9223372036854775807) = true := decide_eq_true c13
        try have c13b2 : (9223372036854775807 < (((t393 ++ (⟨#[32]⟩ : ByteArray)) ++ t394) ++ (⟨#[32]⟩ : ByteArray)).size + t396.size) = False := eq_false (Nat.not_lt.2 c13)
        try have c13b4 : (9223372036854775807 < t393.size + 1 + t394.size + 1 + t396.size) = False := eq_false (Nat.not_lt.2 (by have h9 := c13; simp only [ByteArray.size_append] at h9; exact h9))
        by_cases c14 : t391 < a1
        ·rw [if_pos c14] at H
         have c14b0 : decide (t391 < a1) = true := decide_eq_true c14
         clear c14
         by_cases c15 : 1 + ((((t393 ++ (⟨#[32]⟩ : ByteArray)) ++ t394) ++ (⟨#[32]⟩ : ByteArray)) ++ t396).size ≤ 9223372036854775807
         ·rw [if_pos c15] at H
          have c15b0 := eq_true c15
          have c15b1 : decide (1 + ((((t393 ++ (⟨#[32]⟩ : ByteArray)) ++ t394) ++ (⟨#[32]⟩ : ByteArray)) ++ t396).size ≤ 9223372036854775807) = true := decide_eq_true c15
          try have c15b2 : (9223372036854775807 < 1 + ((((t393 ++ (⟨#[32]⟩ : ByteArray)) ++ t394) ++ (⟨#[32]⟩ : ByteArray)) ++ t396).size) = False := eq_false (Nat.not_lt.2 c15)
          try have c15b4 : (9223372036854775807 < 1 + (t393.size + 1 + t394.size + 1 + t396.size)) = False := eq_false (Nat.not_lt.2 (by have h9 := c15; simp only [ByteArray.size_append] at h9; exact h9))
          by_cases c16 : ((⟨#[40]⟩ : ByteArray) ++ ((((t393 ++ (⟨#[32]⟩ : ByteArray)) ++ t394) ++ (⟨#[32]⟩ : ByteArray)) ++ t396)).size + 1 ≤ 9223372036854775807
          ·rw [if_pos c16] at H
           have c16b0 := eq_true c16
           have c16b1 : decide (((⟨#[40]⟩ : ByteArray) ++ ((((t393 ++ (⟨#[32]⟩ : ByteArray)) ++ t394) ++ (⟨#[32]⟩ : ByteArray)) ++ t396)).size + 1 ≤ 9223372036854775807) = true := decide_eq_true c16
           try have c16b2 : (9223372036854775807 < ((⟨#[40]⟩ : ByteArray) ++ ((((t393 ++ (⟨#[32]⟩ : ByteArray)) ++ t394) ++ (⟨#[32]⟩ : ByteArray)) ++ t396)).size + 1) = False := eq_false (Nat.not_lt.2 c16)
           try have c16b4 : (9223372036854775807 < 1 + (t393.size + 1 + t394.size + 1 + t396.size) + 1) = False := eq_false (Nat.not_lt.2 (by have h9 := c16; simp only [ByteArray.size_append] at h9; exact h9))
           obtain rfl := Option.some.inj H
           go_enter Tryd.func93, Tryd.ntmps93
           try go_wp2_with (first | ((with_reducible refine gate_dst (N := 2) rfl ?_); refine box_event ?hg (N := 2) ?hd (cs := #[.int .i64 a0_0, .string a0_1, .int .i64 a0_2, .int .i64 a0_3, .slice A0_4 l0_4.length c0_4]) (t := 57) ?hr ?_; (case hd => rfl); (case hg => rfl); (case hr => first | (go_simp; done) | (go_simp; rfl)); intro gb389 hg w17 hbox hb; have n0_ := aK_ (lT_ (by repeat (first | (with_reducible first | exact HB.out | apply lA_ | apply pD | apply lD_) | exact HB.out)) hb); have n1_ := aK_ (hbox); have n2_ := aK_ ((by rw [hg]; exact (lZ_ (by repeat (first | (with_reducible first | exact HB.out | apply lA_ | apply pD | apply lD_) | exact HB.out))) : w.heap.size ≤ gb389)); have n3_ := aK_ ((by rw [hg]; exact (lZ_ (by repeat (first | (with_reducible first | exact HB.out | apply lA_ | apply pD | apply lD_) | exact HB.out))) : w.heap.size ≤ gb389)); clear HB; have HB := n0_; have BK389 := n1_; have GW389 := n2_; have GE389 := n3_; clear n0_ n1_ n2_ n3_; clear hb hbox hg; have hcz18_0 : w17.cell? ⟨gb389, 0, none⟩ = some (.int .i64 a0_0) := (bC BK389.out 0).trans rfl; have hcz18_1 : w17.cell? ⟨gb389, 1, none⟩ = some (.string a0_1) := (bC BK389.out 1).trans rfl; have hcz18_2 : w17.cell? ⟨gb389, 2, none⟩ = some (.int .i64 a0_2) := (bC BK389.out 2).trans rfl; have hcz18_3 : w17.cell? ⟨gb389, 3, none⟩ = some (.int .i64 a0_3) := (bC BK389.out 3).trans rfl; have hcz18_4 : w17.cell? ⟨gb389, 4, none⟩ = some (.slice A0_4 l0_4.length c0_4) := (bC BK389.out 4).trans rfl; have hfz18_0 := bF BK389.out 0; have hfz18_1 := bF BK389.out 1; have hfz18_2 := bF BK389.out 2; have hfz18_3 := bF BK389.out 3; have hfz18_4 := bF BK389.out 4) | ((with_reducible refine gate_callee (f := 108) rfl ?_); refine goesL_ (some 16) rfl rfl Tryd.func108 (by kernel_rfl) rfl #[.int .i64 a0_3] rfl (by (try simp only [List.map_toArray, List.map_cons, List.map_nil]); first | done | rfl | (simp only [List.length_drop, List.length_take]; rfl)) ?_; (with_reducible refine (syntax_level.calls a0_3 t391 _ A4.out).mono ?_); rintro e w' ⟨rfl, ⟨nd, rfl⟩⟩; refine ⟨_, rfl, ?_⟩))
           (try (rw [drewN_self w17]; generalize hq_ : World.drewN w17 _ = w17; have n0_ : Aside0 (w17.heap[gb389]? = some (.cells #[.int .i64 a0_0, .string a0_1, .int .i64 a0_2, .int .i64 a0_3, .slice A0_4 l0_4.length c0_4] 57 (0, 0))) := ⟨by rw [← hq_]; exact (by (with_reducible repeat (first | refine bDN ?_ _ | refine bD ?_ | refine bA ?_ _)); exact BK389.out)⟩; have n1_ : Aside0 (Below w.heap.size w w17) := ⟨by rw [← hq_]; exact (by repeat (first | (with_reducible first | exact HB.out | apply lA_ | apply pD | apply lD_ | refine lS_ ?_ GE389.out) | exact HB.out))⟩; clear BK389 HB hq_; have BK389 := n0_; have HB := n1_; clear n0_ n1_))
           have n0_ := aK_ (bD BK389.out)
           have n1_ := aK_ (lD_ HB.out)
           clear BK389
           clear HB
           have BK389 := n0_
           have HB := n1_
           clear n0_ n1_
           have p392 : 0 ≤ (0 : Int) := (by omega)
           have q392 : 0 < (l0_4.length : Int) := of_decide_eq_true (by first | (with_reducible assumption) | assumption)
           obtain ⟨ad392, A392_4, c392_4, e392, hx392_0, hx392_1, hx392_2, hx392_3, hx392_4, hl392_4, hi392_4⟩ := at_T57 HR0_4.out 0 p392 q392
           have hw392_4 := hx392_4
           (try rw [show ((0 : Int)).toNat = 0 from rfl] at hw392_4)
           (try rw [show 0 * 5 = 0 from rfl] at hw392_4)
           (try rw [Addr.add_zero'] at hw392_4)
           have hw392_3 := hx392_3
           (try rw [show ((0 : Int)).toNat = 0 from rfl] at hw392_3)
           (try rw [show 0 * 5 = 0 from rfl] at hw392_3)
           (try rw [Addr.add_zero'] at hw392_3)
           have hw392_2 := hx392_2
           (try rw [show ((0 : Int)).toNat = 0 from rfl] at hw392_2)
           (try rw [show 0 * 5 = 0 from rfl] at hw392_2)
           (try rw [Addr.add_zero'] at hw392_2)
           have hw392_1 := hx392_1
           (try rw [show ((0 : Int)).toNat = 0 from rfl] at hw392_1)
           (try rw [show 0 * 5 = 0 from rfl] at hw392_1)
           (try rw [Addr.add_zero'] at hw392_1)
           have hw392_0 := hx392_0
           (try rw [show ((0 : Int)).toNat = 0 from rfl] at hw392_0)
           (try rw [show 0 * 5 = 0 from rfl] at hw392_0)
           (try rw [Addr.add_zero'] at hw392_0)
           cases e392
           have qi392 : (0 < l0_4.length) = True := eq_true (by omega)
           (try rw [show ((0 : Int)).toNat = 0 from rfl] at hx392_0)
           (try rw [show 0 * 5 = 0 from rfl] at hx392_0)
           (try rw [Addr.add_zero'] at hx392_0)
           (try rw [show ((0 : Int)).toNat = 0 from rfl] at hx392_1)
           (try rw [show 0 * 5 = 0 from rfl] at hx392_1)
           (try rw [Addr.add_zero'] at hx392_1)
           (try rw [show ((0 : Int)).toNat = 0 from rfl] at hx392_2)
           (try rw [show 0 * 5 = 0 from rfl] at hx392_2)
           (try rw [Addr.add_zero'] at hx392_2)
           (try rw [show ((0 : Int)).toNat = 0 from rfl] at hx392_3)
           (try rw [show 0 * 5 = 0 from rfl] at hx392_3)
           (try rw [Addr.add_zero'] at hx392_3)
           (try rw [show ((0 : Int)).toNat = 0 from rfl] at hx392_4)
           (try rw [show 0 * 5 = 0 from rfl] at hx392_4)
           (try rw [Addr.add_zero'] at hx392_4)
           replace hx392_0 := (HB.out.cell (wb_ w _ hx392_0)).trans hx392_0
           replace hx392_1 := (HB.out.cell (wb_ w _ hx392_1)).trans hx392_1
           replace hx392_2 := (HB.out.cell (wb_ w _ hx392_2)).trans hx392_2
           replace hx392_3 := (HB.out.cell (wb_ w _ hx392_3)).trans hx392_3
           replace hx392_4 := (HB.out.cell (wb_ w _ hx392_4)).trans hx392_4
           have HR392_4 := aK_ hi392_4
           have HC392_4 := aK_ hl392_4
           clear hi392_4 hl392_4
           replace p392 := eq_true p392
           replace q392 := eq_true q392
           have p395 : 0 ≤ (1 : Int) := (by omega)
           have q395 : 1 < (l0_4.length : Int) := of_decide_eq_true (by first | (with_reducible assumption) | assumption)
           obtain ⟨ad395, A395_4, c395_4, e395, hx395_0, hx395_1, hx395_2, hx395_3, hx395_4, hl395_4, hi395_4⟩ := at_T57 HR0_4.out 1 p395 q395
           have hw395_4 := hx395_4
           (try rw [show ((1 : Int)).toNat = 1 from rfl] at hw395_4)
           (try rw [show 1 * 5 = 5 from rfl] at hw395_4)
           (try simp only [Nat.reduceMul, Nat.reduceEqDiff, Go.Addr.add, ↓reduceIte] at hw395_4)
           have hw395_3 := hx395_3
           (try rw [show ((1 : Int)).toNat = 1 from rfl] at hw395_3)
           (try rw [show 1 * 5 = 5 from rfl] at hw395_3)
           (try simp only [Nat.reduceMul, Nat.reduceEqDiff, Go.Addr.add, ↓reduceIte] at hw395_3)
           have hw395_2 := hx395_2
           (try rw [show ((1 : Int)).toNat = 1 from rfl] at hw395_2)
           (try rw [show 1 * 5 = 5 from rfl] at hw395_2)
           (try simp only [Nat.reduceMul, Nat.reduceEqDiff, Go.Addr.add, ↓reduceIte] at hw395_2)
           have hw395_1 := hx395_1
           (try rw [show ((1 : Int)).toNat = 1 from rfl] at hw395_1)
           (try rw [show 1 * 5 = 5 from rfl] at hw395_1)
           (try simp only [Nat.reduceMul, Nat.reduceEqDiff, Go.Addr.add, ↓reduceIte] at hw395_1)
           have hw395_0 := hx395_0
           (try rw [show ((1 : Int)).toNat = 1 from rfl] at hw395_0)
           (try rw [show 1 * 5 = 5 from rfl] at hw395_0)
           (try simp only [Nat.reduceMul, Nat.reduceEqDiff, Go.Addr.add, ↓reduceIte] at hw395_0)
           obtain rfl : ad392 = ad395 := (by injection e395)
           (try simp only [show (1 : Int).toNat = 1 from rfl, Nat.reduceMul, Nat.reduceEqDiff, Go.Addr.add, ↓reduceIte] at hx395_0)
           (try simp only [show (1 : Int).toNat = 1 from rfl, Nat.reduceMul, Nat.reduceEqDiff, Go.Addr.add, ↓reduceIte] at hx395_1)
           (try simp only [show (1 : Int).toNat = 1 from rfl, Nat.reduceMul, Nat.reduceEqDiff, Go.Addr.add, ↓reduceIte] at hx395_2)
           (try simp only [show (1 : Int).toNat = 1 from rfl, Nat.reduceMul, Nat.reduceEqDiff, Go.Addr.add, ↓reduceIte] at hx395_3)
           (try simp only [show (1 : Int).toNat = 1 from rfl, Nat.reduceMul, Nat.reduceEqDiff, Go.Addr.add, ↓reduceIte] at hx395_4)
           have qi395 : (1 < l0_4.length) = True := eq_true (by omega)
           (try rw [show ((1 : Int)).toNat = 1 from rfl] at hx395_0)
           (try rw [show 1 * 5 = 5 from rfl] at hx395_0)
           (try rw [show ((1 : Int)).toNat = 1 from rfl] at hx395_1)
           (try rw [show 1 * 5 = 5 from rfl] at hx395_1)
           (try rw [show ((1 : Int)).toNat = 1 from rfl] at hx395_2)
           (try rw [show 1 * 5 = 5 from rfl] at hx395_2)
           (try rw [show ((1 : Int)).toNat = 1 from rfl] at hx395_3)
           (try rw [show 1 * 5 = 5 from rfl] at hx395_3)
           (try rw [show ((1 : Int)).toNat = 1 from rfl] at hx395_4)
           (try rw [show 1 * 5 = 5 from rfl] at hx395_4)
           replace hx395_0 := (HB.out.cell (wb_ w _ hx395_0)).trans hx395_0
           replace hx395_1 := (HB.out.cell (wb_ w _ hx395_1)).trans hx395_1
           replace hx395_2 := (HB.out.cell (wb_ w _ hx395_2)).trans hx395_2
           replace hx395_3 := (HB.out.cell (wb_ w _ hx395_3)).trans hx395_3
           replace hx395_4 := (HB.out.cell (wb_ w _ hx395_4)).trans hx395_4
           have HR395_4 := aK_ hi395_4
           have HC395_4 := aK_ hl395_4
           clear hi395_4 hl395_4
           replace p395 := eq_true p395
           replace q395 := eq_true q395
           refine start_ (n := 21) (S := fun w' => w'.cell? ⟨gb389, 0, none⟩ = some (.int .i64 a0_0) ∧ w'.cell? ⟨gb389, 1, none⟩ = some (.string a0_1) ∧ w'.cell? ⟨gb389, 2, none⟩ = some (.int .i64 a0_2) ∧ w'.cell? ⟨gb389, 3, none⟩ = some (.int .i64 a0_3) ∧ w'.cell? ⟨gb389, 4, none⟩ = some (.slice (some ad392) l0_4.length c0_4) ∧ w'.cell? ad392 = some (.int .i64 ((rd_T57 l0_4 0).f0.f0)) ∧ w'.cell? ⟨ad392.block, ad392.off + 1, none⟩ = some (.string ((rd_T57 l0_4 0).f0.f1)) ∧ w'.cell? ⟨ad392.block, ad392.off + 2, none⟩ = some (.int .i64 ((rd_T57 l0_4 0).f0.f2)) ∧ w'.cell? ⟨ad392.block, ad392.off + 3, none⟩ = some (.int .i64 ((rd_T57 l0_4 0).f1)) ∧ w'.cell? ⟨ad392.block, ad392.off + 4, none⟩ = some (.slice A392_4 ((rd_T57 l0_4 0).f2).length c392_4) ∧ w'.cell? ⟨ad392.block, ad392.off + 5, none⟩ = some (.int .i64 ((rd_T57 l0_4 1).f0.f0)) ∧ w'.cell? ⟨ad392.block, ad392.off + 5 + 1, none⟩ = some (.string ((rd_T57 l0_4 1).f0.f1)) ∧ w'.cell? ⟨ad392.block, ad392.off + 5 + 2, none⟩ = some (.int .i64 ((rd_T57 l0_4 1).f0.f2)) ∧ w'.cell? ⟨ad392.block, ad392.off + 5 + 3, none⟩ = some (.int .i64 ((rd_T57 l0_4 1).f1)) ∧ w'.cell? ⟨ad392.block, ad392.off + 5 + 4, none⟩ = some (.slice A395_4 ((rd_T57 l0_4 1).f2).length c395_4)) (ds := []) #[false, false, false, false, false, false, false, false, false, false, false, false, false, false, false, false, false, false, false, false, false] (by kernel_rfl) rfl rfl ⟨(bC BK389.out 0).trans rfl, (bC BK389.out 1).trans rfl, (bC BK389.out 2).trans rfl, (bC BK389.out 3).trans rfl, (bC BK389.out 4).trans rfl, ((HB.out.cell (wb_ w _ hw392_0)).trans hw392_0), ((HB.out.cell (wb_ w _ hw392_1)).trans hw392_1), ((HB.out.cell (wb_ w _ hw392_2)).trans hw392_2), ((HB.out.cell (wb_ w _ hw392_3)).trans hw392_3), ((HB.out.cell (wb_ w _ hw392_4)).trans hw392_4), ((HB.out.cell (wb_ w _ hw395_0)).trans hw395_0), ((HB.out.cell (wb_ w _ hw395_1)).trans hw395_1), ((HB.out.cell (wb_ w _ hw395_2)).trans hw395_2), ((HB.out.cell (wb_ w _ hw395_3)).trans hw395_3), ((HB.out.cell (wb_ w _ hw395_4)).trans hw395_4)⟩ (fun hHeld => ?_); refine with_tabW syntax_Expr_in.tab4 syntax_Expr_in.bits4 (fun HT_ HW_ => ?_)
           generalize w17.drew = w19 at BK389 HB HR392_4 HR395_4 hx392_0 hx392_1 hx392_2 hx392_3 hx392_4 hx395_0 hx395_1 hx395_2 hx395_3 hx395_4 hHeld ⊢
           refine pure_ (i := 0) (N := some 17) (v := ?_) (a' := ?_) #[true, false, false, false, false, false, false, false, false, false, false, false, false, false, false, false, false, false, false, false, false] rfl rfl (any_of HT_.out (by kernel_rfl)) (fun _ _ _ h => h) (Or.inl ⟨by rfl, ?_⟩) ?_ ?_
           rotate_left
           ·intro w'
            go_simp
            with_reducible rfl
           rotate_left
           ·simp only [Act.put, sA_, sZ_, sS_, i64_w, i32_w]
            rfl
           refine pure_ (i := 4) (N := some 21) (v := ?_) (a' := ?_) #[true, false, false, false, true, false, false, false, false, false, false, false, false, false, false, false, false, false, false, false, false] rfl rfl (any_of HT_.out (by kernel_rfl)) (fun _ _ _ h => h) (Or.inl ⟨by rfl, ?_⟩) ?_ ?_
           rotate_left
           ·intro w'
            go_simp
            with_reducible rfl
           rotate_left
           ·simp only [Act.put, sA_, sZ_, sS_, i64_w, i32_w]
            rfl
           refine pure_ (i := 7) (N := some 24) (v := ?_) (a' := ?_) #[true, false, false, false, true, false, false, true, false, false, false, false, false, false, false, false, false, false, false, false, false] rfl rfl (any_of HT_.out (by kernel_rfl)) (fun _ _ _ h => h) (Or.inl ⟨by rfl, ?_⟩) ?_ ?_
           rotate_left
           ·intro w'
            go_simp
            with_reducible rfl
           rotate_left
           ·simp only [Act.put, sA_, sZ_, sS_, i64_w, i32_w]
            rfl
           refine pure_ (i := 12) (N := some 29) (v := ?_) (a' := ?_) #[true, false, false, false, true, false, false, true, false, false, false, false, true, false, false, false, false, false, false, false, false] rfl rfl (any_of HT_.out (by kernel_rfl)) (fun _ _ _ h => h) (Or.inl ⟨by rfl, ?_⟩) ?_ ?_
           rotate_left
           ·intro w'
            go_simp
            with_reducible rfl
           rotate_left
           ·simp only [Act.put, sA_, sZ_, sS_, i64_w, i32_w]
            rfl
           refine pure_ (i := 16) (N := some 33) (v := ?_) (a' := ?_) #[true, false, false, false, true, false, false, true, false, false, false, false, true, false, false, false, true, false, false, false, false] rfl rfl (any_of HT_.out (by kernel_rfl)) (fun _ _ _ h => h) (Or.inl ⟨by rfl, ?_⟩) ?_ ?_
           rotate_left
           ·intro w'
            go_simp
            with_reducible rfl
           rotate_left
           ·simp only [Act.put, sA_, sZ_, sS_, i64_w, i32_w]
            rfl
           refine pure_ (i := 17) (N := some 34) (v := ?_) (a' := ?_) #[true, false, false, false, true, false, false, true, false, false, false, false, true, false, false, false, true, true, false, false, false] rfl rfl (any_of HT_.out (by kernel_rfl)) (fun _ _ _ h => h) (Or.inl ⟨by rfl, ?_⟩) ?_ ?_
           rotate_left
           ·intro w'
            go_simp
            with_reducible rfl
           rotate_left
           ·simp only [Act.put, sA_, sZ_, sS_, i64_w, i32_w]
            rfl
           refine take_ (i := 1) (N := some 18) (v := ?_) (a' := ?_) #[true, true, false, false, true, false, false, true, false, false, false, false, true, false, false, false, true, true, false, false, false] rfl rfl (take_ofW HT_.out HW_.out (by kernel_rfl)) (fun _ _ _ h => h) (Or.inl ⟨by rfl, ?_⟩) hHeld ?_ ?_
           rotate_left
           ·rintro w' ⟨s0, s1, s2, s3, s4, s5, s6, s7, s8, s9, s10, s11, s12, s13, s14⟩
            go_simp
            with_reducible rfl
           rotate_left
           ·simp only [Act.put, sA_, sZ_, sS_, i64_w, i32_w]
            rfl
           refine pure_ (i := 2) (N := some 19) (v := ?_) (a' := ?_) #[true, true, true, false, true, false, false, true, false, false, false, false, true, false, false, false, true, true, false, false, false] rfl rfl (any_of HT_.out (by kernel_rfl)) (fun _ _ _ h => h) (Or.inl ⟨by rfl, ?_⟩) ?_ ?_
           rotate_left
           ·intro w'
            go_simp
            with_reducible rfl
           rotate_left
           ·simp only [Act.put, sA_, sZ_, sS_, i64_w, i32_w]
            rfl
           refine take_ (i := 3) (N := some 20) (v := ?_) (a' := ?_) #[true, true, true, true, true, false, false, true, false, false, false, false, true, false, false, false, true, true, false, false, false] rfl rfl (take_ofW HT_.out HW_.out (by kernel_rfl)) (fun _ _ _ h => h) (Or.inl ⟨by rfl, ?_⟩) hHeld ?_ ?_
           rotate_left
           ·rintro w' ⟨s0, s1, s2, s3, s4, s5, s6, s7, s8, s9, s10, s11, s12, s13, s14⟩
            go_simp
            with_reducible rfl
           rotate_left
           ·simp only [Act.put, sA_, sZ_, sS_, i64_w, i32_w]
            rfl
           refine take_ (i := 8) (N := some 25) (v := ?_) (a' := ?_) #[true, true, true, true, true, false, false, true, true, false, false, false, true, false, false, false, true, true, false, false, false] rfl rfl (take_ofW HT_.out HW_.out (by kernel_rfl)) (fun _ _ _ h => h) (Or.inl ⟨by rfl, ?_⟩) hHeld ?_ ?_
           rotate_left
           ·rintro w' ⟨s0, s1, s2, s3, s4, s5, s6, s7, s8, s9, s10, s11, s12, s13, s14⟩
            go_simp
            with_reducible rfl
           rotate_left
           ·simp only [Act.put, sA_, sZ_, sS_, i64_w, i32_w]
            rfl
           refine take_ (i := 13) (N := some 30) (v := ?_) (a' := ?_) #[true, true, true, true, true, false, false, true, true, false, false, false, true, true, false, false, true, true, false, false, false] rfl rfl (take_ofW HT_.out HW_.out (by kernel_rfl)) (fun _ _ _ h => h) (Or.inl ⟨by rfl, ?_⟩) hHeld ?_ ?_
           rotate_left
           ·rintro w' ⟨s0, s1, s2, s3, s4, s5, s6, s7, s8, s9, s10, s11, s12, s13, s14⟩
            go_simp
            with_reducible rfl
           rotate_left
           ·simp only [Act.put, sA_, sZ_, sS_, i64_w, i32_w]
            rfl
           refine pure_ (i := 14) (N := some 31) (v := ?_) (a' := ?_) #[true, true, true, true, true, false, false, true, true, false, false, false, true, true, true, false, true, true, false, false, false] rfl rfl (any_of HT_.out (by kernel_rfl)) (fun _ _ _ h => h) (Or.inl ⟨by rfl, ?_⟩) ?_ ?_
           rotate_left
           ·intro w'
            go_simp
            with_reducible rfl
           rotate_left
           ·simp only [Act.put, sA_, sZ_, sS_, i64_w, i32_w]
            rfl
           refine take_ (i := 15) (N := some 32) (v := ?_) (a' := ?_) #[true, true, true, true, true, false, false, true, true, false, false, false, true, true, true, true, true, true, false, false, false] rfl rfl (take_ofW HT_.out HW_.out (by kernel_rfl)) (fun _ _ _ h => h) (Or.inl ⟨by rfl, ?_⟩) hHeld ?_ ?_
           rotate_left
           ·rintro w' ⟨s0, s1, s2, s3, s4, s5, s6, s7, s8, s9, s10, s11, s12, s13, s14⟩
            go_simp
            with_reducible rfl
           rotate_left
           ·simp only [Act.put, sA_, sZ_, sS_, i64_w, i32_w]
            rfl
           refine one_ (i := 5) (N := some 22) #[true, true, true, true, true, true, false, true, true, false, false, false, true, true, true, true, true, true, false, false, false] rfl rfl (one_of HT_.out (by kernel_rfl)) (by decide) (fun K hK => ?_)
           refine goes_ Tryd.func93 (by kernel_rfl) rfl #[.agg #[.int .i64 ((rd_T57 l0_4 0).f0.f0), .string ((rd_T57 l0_4 0).f0.f1), .int .i64 ((rd_T57 l0_4 0).f0.f2), .int .i64 ((rd_T57 l0_4 0).f1), .slice A392_4 ((rd_T57 l0_4 0).f2).length c392_4], .int .i64 t391] (by rfl) rfl rfl (by (try simp only [List.map_toArray, List.map_cons, List.map_nil]); first | done | rfl | (simp only [List.length_drop, List.length_take]; rfl)) ?_
           with_reducible refine (ih k (by omega) ((rd_T57 l0_4 0).f0.f0) ((rd_T57 l0_4 0).f0.f1) ((rd_T57 l0_4 0).f0.f2) ((rd_T57 l0_4 0).f1) _ _ ((rd_T57 l0_4 0).f2) t391 t393 _ ?side1 ?side2 A6.out ?hGl).mono ?_
           (case side1 => repeat (first | exact (Kd.C_below HR392_4.out HB.out) | (with_reducible refine Kd.C_alloc ?_ _) | (with_reducible refine Kd.C_drewN ?_ _) | (with_reducible refine Kd.C_drew ?_)))
           (case side2 => exact HC392_4.out)
           (case hGl => exact tab_below hG (by repeat (first | (with_reducible first | exact HB.out | apply lA_ | apply pD | apply lD_ | refine lS_ ?_ GE389.out) | exact HB.out)))
           rintro e w20 ⟨rfl, hb⟩
           refine ⟨_, rfl, ?_⟩
           have n0_ := aK_ (bB (by (with_reducible repeat (first | refine bDN ?_ _ | refine bD ?_ | refine bA ?_ _)); exact BK389.out) hb)
           have n1_ := aK_ (lT_ (by repeat (first | (with_reducible first | exact HB.out | apply lA_ | apply pD | apply lD_ | refine lS_ ?_ GE389.out) | exact HB.out)) hb)
           clear BK389
           clear HB
           have BK389 := n0_
           have HB := n1_
           clear n0_ n1_
           (try clear hb)
           (try clear hb2)
           (try clear hk)
           (try clear hi)
           refine hK.out _ _ ⟨(bC BK389.out 0).trans rfl, (bC BK389.out 1).trans rfl, (bC BK389.out 2).trans rfl, (bC BK389.out 3).trans rfl, (bC BK389.out 4).trans rfl, ((HB.out.cell (wb_ w _ hw392_0)).trans hw392_0), ((HB.out.cell (wb_ w _ hw392_1)).trans hw392_1), ((HB.out.cell (wb_ w _ hw392_2)).trans hw392_2), ((HB.out.cell (wb_ w _ hw392_3)).trans hw392_3), ((HB.out.cell (wb_ w _ hw392_4)).trans hw392_4), ((HB.out.cell (wb_ w _ hw395_0)).trans hw395_0), ((HB.out.cell (wb_ w _ hw395_1)).trans hw395_1), ((HB.out.cell (wb_ w _ hw395_2)).trans hw395_2), ((HB.out.cell (wb_ w _ hw395_3)).trans hw395_3), ((HB.out.cell (wb_ w _ hw395_4)).trans hw395_4)⟩ (fun hHeld => ?_)
           clear hK K
           refine norm_ (a' := ?_) ?_ ?_
           rotate_left
           ·show Act.put _ (some 22) _ = _
            simp only [Act.put, sA_, sZ_, sS_, i64_w, i32_w]
            rfl
           refine pure_ (i := 6) (N := some 23) (v := ?_) (a' := ?_) #[true, true, true, true, true, true, true, true, true, false, false, false, true, true, true, true, true, true, false, false, false] rfl rfl (any_of HT_.out (by kernel_rfl)) (fun _ _ _ h => h) (Or.inl ⟨by rfl, ?_⟩) ?_ ?_
           rotate_left
           ·intro w'
            go_simp
            with_reducible rfl
           rotate_left
           ·simp only [Act.put, sA_, sZ_, sS_, i64_w, i32_w]
            rfl
           refine one_ (i := 9) (N := some 26) #[true, true, true, true, true, true, true, true, true, true, false, false, true, true, true, true, true, true, false, false, false] rfl rfl (one_of HT_.out (by kernel_rfl)) (by decide) (fun K hK => ?_)
           refine goes_ Tryd.func94 (by kernel_rfl) rfl #[.int .i64 a0_3] (by rfl) rfl rfl (by (try simp only [List.map_toArray, List.map_cons, List.map_nil]); first | done | rfl | (simp only [List.length_drop, List.length_take]; rfl)) ?_
           with_reducible refine (arith_Op_Sign.calls a0_3 t394 _ A8.out).mono ?_
           rintro e w21 ⟨rfl, hb⟩
           refine ⟨_, rfl, ?_⟩
           have n0_ := aK_ (bB (by (with_reducible repeat (first | refine bDN ?_ _ | refine bD ?_ | refine bA ?_ _)); exact BK389.out) hb)
           have n1_ := aK_ (lT_ (by repeat (first | (with_reducible first | exact HB.out | apply lA_ | apply pD | apply lD_ | refine lS_ ?_ GE389.out) | exact HB.out)) hb)
           clear BK389
           clear HB
           have BK389 := n0_
           have HB := n1_
           clear n0_ n1_
           (try clear hb)
           (try clear hb2)
           (try clear hk)
           (try clear hi)
           refine hK.out _ _ ⟨(bC BK389.out 0).trans rfl, (bC BK389.out 1).trans rfl, (bC BK389.out 2).trans rfl, (bC BK389.out 3).trans rfl, (bC BK389.out 4).trans rfl, ((HB.out.cell (wb_ w _ hw392_0)).trans hw392_0), ((HB.out.cell (wb_ w _ hw392_1)).trans hw392_1), ((HB.out.cell (wb_ w _ hw392_2)).trans hw392_2), ((HB.out.cell (wb_ w _ hw392_3)).trans hw392_3), ((HB.out.cell (wb_ w _ hw392_4)).trans hw392_4), ((HB.out.cell (wb_ w _ hw395_0)).trans hw395_0), ((HB.out.cell (wb_ w _ hw395_1)).trans hw395_1), ((HB.out.cell (wb_ w _ hw395_2)).trans hw395_2), ((HB.out.cell (wb_ w _ hw395_3)).trans hw395_3), ((HB.out.cell (wb_ w _ hw395_4)).trans hw395_4)⟩ (fun hHeld => ?_)
           clear hK K
           refine norm_ (a' := ?_) ?_ ?_
           rotate_left
           ·show Act.put _ (some 26) _ = _
            simp only [Act.put, sA_, sZ_, sS_, i64_w, i32_w]
            rfl
           refine pure_ (i := 10) (N := some 27) (v := ?_) (a' := ?_) #[true, true, true, true, true, true, true, true, true, true, true, false, true, true, true, true, true, true, false, false, false] rfl rfl (any_of HT_.out (by kernel_rfl)) (fun _ _ _ h => h) (Or.inl ⟨by rfl, ?_⟩) ?_ ?_
           rotate_left
           ·intro w'
            go_simp
            with_reducible rfl
           rotate_left
           ·simp only [Act.put, sA_, sZ_, sS_, i64_w, i32_w]
            rfl
           refine pure_ (i := 11) (N := some 28) (v := ?_) (a' := ?_) #[true, true, true, true, true, true, true, true, true, true, true, true, true, true, true, true, true, true, false, false, false] rfl rfl (any_of HT_.out (by kernel_rfl)) (fun _ _ _ h => h) (Or.inl ⟨by rfl, ?_⟩) ?_ ?_
           rotate_left
           ·intro w'
            go_simp
            with_reducible rfl
           rotate_left
           ·simp only [Act.put, sA_, sZ_, sS_, i64_w, i32_w]
            rfl
           refine one_ (i := 18) (N := some 35) #[true, true, true, true, true, true, true, true, true, true, true, true, true, true, true, true, true, true, true, false, false] rfl rfl (one_of HT_.out (by kernel_rfl)) (by decide) (fun K hK => ?_)
           refine goes_ Tryd.func93 (by kernel_rfl) rfl #[.agg #[.int .i64 ((rd_T57 l0_4 1).f0.f0), .string ((rd_T57 l0_4 1).f0.f1), .int .i64 ((rd_T57 l0_4 1).f0.f2), .int .i64 ((rd_T57 l0_4 1).f1), .slice A395_4 ((rd_T57 l0_4 1).f2).length c395_4], .int .i64 (wrap64 (t391 + 1))] (by rfl) rfl rfl (by (try simp only [List.map_toArray, List.map_cons, List.map_nil]); first | done | rfl | (simp only [List.length_drop, List.length_take]; rfl)) ?_
           with_reducible refine (ih k (by omega) ((rd_T57 l0_4 1).f0.f0) ((rd_T57 l0_4 1).f0.f1) ((rd_T57 l0_4 1).f0.f2) ((rd_T57 l0_4 1).f1) _ _ ((rd_T57 l0_4 1).f2) (wrap64 (t391 + 1)) t396 _ ?side1 ?side2 A12.out ?hGl).mono ?_
           (case side1 => repeat (first | exact (Kd.C_below HR395_4.out HB.out) | (with_reducible refine Kd.C_alloc ?_ _) | (with_reducible refine Kd.C_drewN ?_ _) | (with_reducible refine Kd.C_drew ?_)))
           (case side2 => exact HC395_4.out)
           (case hGl => exact tab_below hG (by repeat (first | (with_reducible first | exact HB.out | apply lA_ | apply pD | apply lD_ | refine lS_ ?_ GE389.out) | exact HB.out)))
           rintro e w22 ⟨rfl, hb⟩
           refine ⟨_, rfl, ?_⟩
           have n0_ := aK_ (bB (by (with_reducible repeat (first | refine bDN ?_ _ | refine bD ?_ | refine bA ?_ _)); exact BK389.out) hb)
           have n1_ := aK_ (lT_ (by repeat (first | (with_reducible first | exact HB.out | apply lA_ | apply pD | apply lD_ | refine lS_ ?_ GE389.out) | exact HB.out)) hb)
           clear BK389
           clear HB
           have BK389 := n0_
           have HB := n1_
           clear n0_ n1_
           (try clear hb)
           (try clear hb2)
           (try clear hk)
           (try clear hi)
           refine hK.out _ _ ⟨(bC BK389.out 0).trans rfl, (bC BK389.out 1).trans rfl, (bC BK389.out 2).trans rfl, (bC BK389.out 3).trans rfl, (bC BK389.out 4).trans rfl, ((HB.out.cell (wb_ w _ hw392_0)).trans hw392_0), ((HB.out.cell (wb_ w _ hw392_1)).trans hw392_1), ((HB.out.cell (wb_ w _ hw392_2)).trans hw392_2), ((HB.out.cell (wb_ w _ hw392_3)).trans hw392_3), ((HB.out.cell (wb_ w _ hw392_4)).trans hw392_4), ((HB.out.cell (wb_ w _ hw395_0)).trans hw395_0), ((HB.out.cell (wb_ w _ hw395_1)).trans hw395_1), ((HB.out.cell (wb_ w _ hw395_2)).trans hw395_2), ((HB.out.cell (wb_ w _ hw395_3)).trans hw395_3), ((HB.out.cell (wb_ w _ hw395_4)).trans hw395_4)⟩ (fun hHeld => ?_)
           clear hK K
           refine norm_ (a' := ?_) ?_ ?_
           rotate_left
           ·show Act.put _ (some 35) _ = _
            simp only [Act.put, sA_, sZ_, sS_, i64_w, i32_w]
            rfl
           refine pure_ (i := 19) (N := some 36) (v := ?_) (a' := ?_) #[true, true, true, true, true, true, true, true, true, true, true, true, true, true, true, true, true, true, true, true, false] rfl rfl (any_of HT_.out (by kernel_rfl)) (fun _ _ _ h => h) (Or.inl ⟨by rfl, ?_⟩) ?_ ?_
           rotate_left
           ·intro w'
            go_simp
            with_reducible rfl
           rotate_left
           ·simp only [Act.put, sA_, sZ_, sS_, i64_w, i32_w]
            rfl
           refine pure_ (i := 20) (N := some 6) (v := ?_) (a' := ?_) #[true, true, true, true, true, true, true, true, true, true, true, true, true, true, true, true, true, true, true, true, true] rfl rfl (any_of HT_.out (by kernel_rfl)) (fun _ _ _ h => h) (Or.inl ⟨by rfl, ?_⟩) ?_ ?_
           rotate_left
           ·intro w'
            go_simp
            with_reducible rfl
           rotate_left
           ·simp only [Act.put, sA_, sZ_, sS_, i64_w, i32_w]
            rfl
           refine done_ (done_of HT_.out (by kernel_rfl)) ?_
           try go_wp2
           go_ret
           exact ⟨by first | rfl | (simp [errW_none, errW_some] <;> rfl) | (simp [*, errW_none, errW_some] <;> rfl), by repeat (first | (with_reducible first | exact HB.out | apply lA_ | apply pD | apply lD_ | refine lS_ ?_ GE389.out) | exact HB.out)⟩
          ·rw [if_neg c16] at H
           exact absurd H (by simp)
         ·rw [if_neg c15] at H
          exact absurd H (by simp)
        ·rw [if_neg c14] at H
         have c14b0 : decide (t391 < a1) = false := decide_eq_false c14
         clear c14
         obtain rfl := Option.some.inj H
         go_enter Tryd.func93, Tryd.ntmps93
         try go_wp2_with (first | ((with_reducible refine gate_dst (N := 2) rfl ?_); refine box_event ?hg (N := 2) ?hd (cs := #[.int .i64 a0_0, .string a0_1, .int .i64 a0_2, .int .i64 a0_3, .slice A0_4 l0_4.length c0_4]) (t := 57) ?hr ?_; (case hd => rfl); (case hg => rfl); (case hr => first | (go_simp; done) | (go_simp; rfl)); intro gb389 hg w23 hbox hb; have n0_ := aK_ (lT_ (by repeat (first | (with_reducible first | exact HB.out | apply lA_ | apply pD | apply lD_) | exact HB.out)) hb); have n1_ := aK_ (hbox); have n2_ := aK_ ((by rw [hg]; exact (lZ_ (by repeat (first | (with_reducible first | exact HB.out | apply lA_ | apply pD | apply lD_) | exact HB.out))) : w.heap.size ≤ gb389)); have n3_ := aK_ ((by rw [hg]; exact (lZ_ (by repeat (first | (with_reducible first | exact HB.out | apply lA_ | apply pD | apply lD_) | exact HB.out))) : w.heap.size ≤ gb389)); clear HB; have HB := n0_; have BK389 := n1_; have GW389 := n2_; have GE389 := n3_; clear n0_ n1_ n2_ n3_; clear hb hbox hg; have hcz24_0 : w23.cell? ⟨gb389, 0, none⟩ = some (.int .i64 a0_0) := (bC BK389.out 0).trans rfl; have hcz24_1 : w23.cell? ⟨gb389, 1, none⟩ = some (.string a0_1) := (bC BK389.out 1).trans rfl; have hcz24_2 : w23.cell? ⟨gb389, 2, none⟩ = some (.int .i64 a0_2) := (bC BK389.out 2).trans rfl; have hcz24_3 : w23.cell? ⟨gb389, 3, none⟩ = some (.int .i64 a0_3) := (bC BK389.out 3).trans rfl; have hcz24_4 : w23.cell? ⟨gb389, 4, none⟩ = some (.slice A0_4 l0_4.length c0_4) := (bC BK389.out 4).trans rfl; have hfz24_0 := bF BK389.out 0; have hfz24_1 := bF BK389.out 1; have hfz24_2 := bF BK389.out 2; have hfz24_3 := bF BK389.out 3; have hfz24_4 := bF BK389.out 4) | ((with_reducible refine gate_callee (f := 108) rfl ?_); refine goesL_ (some 16) rfl rfl Tryd.func108 (by kernel_rfl) rfl #[.int .i64 a0_3] rfl (by (try simp only [List.map_toArray, List.map_cons, List.map_nil]); first | done | rfl | (simp only [List.length_drop, List.length_take]; rfl)) ?_; (with_reducible refine (syntax_level.calls a0_3 t391 _ A4.out).mono ?_); rintro e w' ⟨rfl, ⟨nd, rfl⟩⟩; refine ⟨_, rfl, ?_⟩))
         (try (rw [drewN_self w23]; generalize hq_ : World.drewN w23 _ = w23; have n0_ : Aside0 (w23.heap[gb389]? = some (.cells #[.int .i64 a0_0, .string a0_1, .int .i64 a0_2, .int .i64 a0_3, .slice A0_4 l0_4.length c0_4] 57 (0, 0))) := ⟨by rw [← hq_]; exact (by (with_reducible repeat (first | refine bDN ?_ _ | refine bD ?_ | refine bA ?_ _)); exact BK389.out)⟩; have n1_ : Aside0 (Below w.heap.size w w23) := ⟨by rw [← hq_]; exact (by repeat (first | (with_reducible first | exact HB.out | apply lA_ | apply pD | apply lD_ | refine lS_ ?_ GE389.out) | exact HB.out))⟩; clear BK389 HB hq_; have BK389 := n0_; have HB := n1_; clear n0_ n1_))
         have n0_ := aK_ (bD BK389.out)
         have n1_ := aK_ (lD_ HB.out)
         clear BK389
         clear HB
         have BK389 := n0_
         have HB := n1_
         clear n0_ n1_
         have p392 : 0 ≤ (0 : Int) := (by omega)
         have q392 : 0 < (l0_4.length : Int) := of_decide_eq_true (by first | (with_reducible assumption) | assumption)
         obtain ⟨ad392, A392_4, c392_4, e392, hx392_0, hx392_1, hx392_2, hx392_3, hx392_4, hl392_4, hi392_4⟩ := at_T57 HR0_4.out 0 p392 q392
         have hw392_4 := hx392_4
         (try rw [show ((0 : Int)).toNat = 0 from rfl] at hw392_4)
         (try rw [show 0 * 5 = 0 from rfl] at hw392_4)
         (try rw [Addr.add_zero'] at hw392_4)
         have hw392_3 := hx392_3
         (try rw [show ((0 : Int)).toNat = 0 from rfl] at hw392_3)
         (try rw [show 0 * 5 = 0 from rfl] at hw392_3)
         (try rw [Addr.add_zero'] at hw392_3)
         have hw392_2 := hx392_2
         (try rw [show ((0 : Int)).toNat = 0 from rfl] at hw392_2)
         (try rw [show 0 * 5 = 0 from rfl] at hw392_2)
         (try rw [Addr.add_zero'] at hw392_2)
         have hw392_1 := hx392_1
         (try rw [show ((0 : Int)).toNat = 0 from rfl] at hw392_1)
         (try rw [show 0 * 5 = 0 from rfl] at hw392_1)
         (try rw [Addr.add_zero'] at hw392_1)
         have hw392_0 := hx392_0
         (try rw [show ((0 : Int)).toNat = 0 from rfl] at hw392_0)
         (try rw [show 0 * 5 = 0 from rfl] at hw392_0)
         (try rw [Addr.add_zero'] at hw392_0)
         cases e392
         have qi392 : (0 < l0_4.length) = True := eq_true (by omega)
         (try rw [show ((0 : Int)).toNat = 0 from rfl] at hx392_0)
         (try rw [show 0 * 5 = 0 from rfl] at hx392_0)
         (try rw [Addr.add_zero'] at hx392_0)
         (try rw [show ((0 : Int)).toNat = 0 from rfl] at hx392_1)
         (try rw [show 0 * 5 = 0 from rfl] at hx392_1)
         (try rw [Addr.add_zero'] at hx392_1)
         (try rw [show ((0 : Int)).toNat = 0 from rfl] at hx392_2)
         (try rw [show 0 * 5 = 0 from rfl] at hx392_2)
         (try rw [Addr.add_zero'] at hx392_2)
         (try rw [show ((0 : Int)).toNat = 0 from rfl] at hx392_3)
         (try rw [show 0 * 5 = 0 from rfl] at hx392_3)
         (try rw [Addr.add_zero'] at hx392_3)
         (try rw [show ((0 : Int)).toNat = 0 from rfl] at hx392_4)
         (try rw [show 0 * 5 = 0 from rfl] at hx392_4)
         (try rw [Addr.add_zero'] at hx392_4)
         replace hx392_0 := (HB.out.cell (wb_ w _ hx392_0)).trans hx392_0
         replace hx392_1 := (HB.out.cell (wb_ w _ hx392_1)).trans hx392_1
         replace hx392_2 := (HB.out.cell (wb_ w _ hx392_2)).trans hx392_2
         replace hx392_3 := (HB.out.cell (wb_ w _ hx392_3)).trans hx392_3
         replace hx392_4 := (HB.out.cell (wb_ w _ hx392_4)).trans hx392_4
         have HR392_4 := aK_ hi392_4
         have HC392_4 := aK_ hl392_4
         clear hi392_4 hl392_4
         replace p392 := eq_true p392
         replace q392 := eq_true q392
         have p395 : 0 ≤ (1 : Int) := (by omega)
         have q395 : 1 < (l0_4.length : Int) := of_decide_eq_true (by first | (with_reducible assumption) | assumption)
         obtain ⟨ad395, A395_4, c395_4, e395, hx395_0, hx395_1, hx395_2, hx395_3, hx395_4, hl395_4, hi395_4⟩ := at_T57 HR0_4.out 1 p395 q395
         have hw395_4 := hx395_4
         (try rw [show ((1 : Int)).toNat = 1 from rfl] at hw395_4)
         (try rw [show 1 * 5 = 5 from rfl] at hw395_4)
         (try simp only [Nat.reduceMul, Nat.reduceEqDiff, Go.Addr.add, ↓reduceIte] at hw395_4)
         have hw395_3 := hx395_3
         (try rw [show ((1 : Int)).toNat = 1 from rfl] at hw395_3)
         (try rw [show 1 * 5 = 5 from rfl] at hw395_3)
         (try simp only [Nat.reduceMul, Nat.reduceEqDiff, Go.Addr.add, ↓reduceIte] at hw395_3)
         have hw395_2 := hx395_2
         (try rw [show ((1 : Int)).toNat = 1 from rfl] at hw395_2)
         (try rw [show 1 * 5 = 5 from rfl] at hw395_2)
         (try simp only [Nat.reduceMul, Nat.reduceEqDiff, Go.Addr.add, ↓reduceIte] at hw395_2)
         have hw395_1 := hx395_1
         (try rw [show ((1 : Int)).toNat = 1 from rfl] at hw395_1)
         (try rw [show 1 * 5 = 5 from rfl] at hw395_1)
         (try simp only [Nat.reduceMul, Nat.reduceEqDiff, Go.Addr.add, ↓reduceIte] at hw395_1)
         have hw395_0 := hx395_0
         (try rw [show ((1 : Int)).toNat = 1 from rfl] at hw395_0)
         (try rw [show 1 * 5 = 5 from rfl] at hw395_0)
         (try simp only [Nat.reduceMul, Nat.reduceEqDiff, Go.Addr.add, ↓reduceIte] at hw395_0)
         obtain rfl : ad392 = ad395 := (by injection e395)
         (try simp only [show (1 : Int).toNat = 1 from rfl, Nat.reduceMul, Nat.reduceEqDiff, Go.Addr.add, ↓reduceIte] at hx395_0)
         (try simp only [show (1 : Int).toNat = 1 from rfl, Nat.reduceMul, Nat.reduceEqDiff, Go.Addr.add, ↓reduceIte] at hx395_1)
         (try simp only [show (1 : Int).toNat = 1 from rfl, Nat.reduceMul, Nat.reduceEqDiff, Go.Addr.add, ↓reduceIte] at hx395_2)
         (try simp only [show (1 : Int).toNat = 1 from rfl, Nat.reduceMul, Nat.reduceEqDiff, Go.Addr.add, ↓reduceIte] at hx395_3)
         (try simp only [show (1 : Int).toNat = 1 from rfl, Nat.reduceMul, Nat.reduceEqDiff, Go.Addr.add, ↓reduceIte] at hx395_4)
         have qi395 : (1 < l0_4.length) = True := eq_true (by omega)
         (try rw [show ((1 : Int)).toNat = 1 from rfl] at hx395_0)
         (try rw [show 1 * 5 = 5 from rfl] at hx395_0)
         (try rw [show ((1 : Int)).toNat = 1 from rfl] at hx395_1)
         (try rw [show 1 * 5 = 5 from rfl] at hx395_1)
         (try rw [show ((1 : Int)).toNat = 1 from rfl] at hx395_2)
         (try rw [show 1 * 5 = 5 from rfl] at hx395_2)
         (try rw [show ((1 : Int)).toNat = 1 from rfl] at hx395_3)
         (try rw [show 1 * 5 = 5 from rfl] at hx395_3)
         (try rw [show ((1 : Int)).toNat = 1 from rfl] at hx395_4)
         (try rw [show 1 * 5 = 5 from rfl] at hx395_4)
         replace hx395_0 := (HB.out.cell (wb_ w _ hx395_0)).trans hx395_0
         replace hx395_1 := (HB.out.cell (wb_ w _ hx395_1)).trans hx395_1
         replace hx395_2 := (HB.out.cell (wb_ w _ hx395_2)).trans hx395_2
         replace hx395_3 := (HB.out.cell (wb_ w _ hx395_3)).trans hx395_3
         replace hx395_4 := (HB.out.cell (wb_ w _ hx395_4)).trans hx395_4
         have HR395_4 := aK_ hi395_4
         have HC395_4 := aK_ hl395_4
         clear hi395_4 hl395_4
         replace p395 := eq_true p395
         replace q395 := eq_true q395
         refine start_ (n := 21) (S := fun w' => w'.cell? ⟨gb389, 0, none⟩ = some (.int .i64 a0_0) ∧ w'.cell? ⟨gb389, 1, none⟩ = some (.string a0_1) ∧ w'.cell? ⟨gb389, 2, none⟩ = some (.int .i64 a0_2) ∧ w'.cell? ⟨gb389, 3, none⟩ = some (.int .i64 a0_3) ∧ w'.cell? ⟨gb389, 4, none⟩ = some (.slice (some ad392) l0_4.length c0_4) ∧ w'.cell? ad392 = some (.int .i64 ((rd_T57 l0_4 0).f0.f0)) ∧ w'.cell? ⟨ad392.block, ad392.off + 1, none⟩ = some (.string ((rd_T57 l0_4 0).f0.f1)) ∧ w'.cell? ⟨ad392.block, ad392.off + 2, none⟩ = some (.int .i64 ((rd_T57 l0_4 0).f0.f2)) ∧ w'.cell? ⟨ad392.block, ad392.off + 3, none⟩ = some (.int .i64 ((rd_T57 l0_4 0).f1)) ∧ w'.cell? ⟨ad392.block, ad392.off + 4, none⟩ = some (.slice A392_4 ((rd_T57 l0_4 0).f2).length c392_4) ∧ w'.cell? ⟨ad392.block, ad392.off + 5, none⟩ = some (.int .i64 ((rd_T57 l0_4 1).f0.f0)) ∧ w'.cell? ⟨ad392.block, ad392.off + 5 + 1, none⟩ = some (.string ((rd_T57 l0_4 1).f0.f1)) ∧ w'.cell? ⟨ad392.block, ad392.off + 5 + 2, none⟩ = some (.int .i64 ((rd_T57 l0_4 1).f0.f2)) ∧ w'.cell? ⟨ad392.block, ad392.off + 5 + 3, none⟩ = some (.int .i64 ((rd_T57 l0_4 1).f1)) ∧ w'.cell? ⟨ad392.block, ad392.off + 5 + 4, none⟩ = some (.slice A395_4 ((rd_T57 l0_4 1).f2).length c395_4)) (ds := []) #[false, false, false, false, false, false, false, false, false, false, false, false, false, false, false, false, false, false, false, false, false] (by kernel_rfl) rfl rfl ⟨(bC BK389.out 0).trans rfl, (bC BK389.out 1).trans rfl, (bC BK389.out 2).trans rfl, (bC BK389.out 3).trans rfl, (bC BK389.out 4).trans rfl, ((HB.out.cell (wb_ w _ hw392_0)).trans hw392_0), ((HB.out.cell (wb_ w _ hw392_1)).trans hw392_1), ((HB.out.cell (wb_ w _ hw392_2)).trans hw392_2), ((HB.out.cell (wb_ w _ hw392_3)).trans hw392_3), ((HB.out.cell (wb_ w _ hw392_4)).trans hw392_4), ((HB.out.cell (wb_ w _ hw395_0)).trans hw395_0), ((HB.out.cell (wb_ w _ hw395_1)).trans hw395_1), ((HB.out.cell (wb_ w _ hw395_2)).trans hw395_2), ((HB.out.cell (wb_ w _ hw395_3)).trans hw395_3), ((HB.out.cell (wb_ w _ hw395_4)).trans hw395_4)⟩ (fun hHeld => ?_); refine with_tabW syntax_Expr_in.tab4 syntax_Expr_in.bits4 (fun HT_ HW_ => ?_)
         generalize w23.drew = w25 at BK389 HB HR392_4 HR395_4 hx392_0 hx392_1 hx392_2 hx392_3 hx392_4 hx395_0 hx395_1 hx395_2 hx395_3 hx395_4 hHeld ⊢
         refine pure_ (i := 0) (N := some 17) (v := ?_) (a' := ?_) #[true, false, false, false, false, false, false, false, false, false, false, false, false, false, false, false, false, false, false, false, false] rfl rfl (any_of HT_.out (by kernel_rfl)) (fun _ _ _ h => h) (Or.inl ⟨by rfl, ?_⟩) ?_ ?_
         rotate_left
         ·intro w'
          go_simp
          with_reducible rfl
         rotate_left
         ·simp only [Act.put, sA_, sZ_, sS_, i64_w, i32_w]
          rfl
         refine pure_ (i := 4) (N := some 21) (v := ?_) (a' := ?_) #[true, false, false, false, true, false, false, false, false, false, false, false, false, false, false, false, false, false, false, false, false] rfl rfl (any_of HT_.out (by kernel_rfl)) (fun _ _ _ h => h) (Or.inl ⟨by rfl, ?_⟩) ?_ ?_
         rotate_left
         ·intro w'
          go_simp
          with_reducible rfl
         rotate_left
         ·simp only [Act.put, sA_, sZ_, sS_, i64_w, i32_w]
          rfl
         refine pure_ (i := 7) (N := some 24) (v := ?_) (a' := ?_) #[true, false, false, false, true, false, false, true, false, false, false, false, false, false, false, false, false, false, false, false, false] rfl rfl (any_of HT_.out (by kernel_rfl)) (fun _ _ _ h => h) (Or.inl ⟨by rfl, ?_⟩) ?_ ?_
         rotate_left
         ·intro w'
          go_simp
          with_reducible rfl
         rotate_left
         ·simp only [Act.put, sA_, sZ_, sS_, i64_w, i32_w]
          rfl
         refine pure_ (i := 12) (N := some 29) (v := ?_) (a' := ?_) #[true, false, false, false, true, false, false, true, false, false, false, false, true, false, false, false, false, false, false, false, false] rfl rfl (any_of HT_.out (by kernel_rfl)) (fun _ _ _ h => h) (Or.inl ⟨by rfl, ?_⟩) ?_ ?_
         rotate_left
         ·intro w'
          go_simp
          with_reducible rfl
         rotate_left
         ·simp only [Act.put, sA_, sZ_, sS_, i64_w, i32_w]
          rfl
         refine pure_ (i := 16) (N := some 33) (v := ?_) (a' := ?_) #[true, false, false, false, true, false, false, true, false, false, false, false, true, false, false, false, true, false, false, false, false] rfl rfl (any_of HT_.out (by kernel_rfl)) (fun _ _ _ h => h) (Or.inl ⟨by rfl, ?_⟩) ?_ ?_
         rotate_left
         ·intro w'
          go_simp
          with_reducible rfl
         rotate_left
         ·simp only [Act.put, sA_, sZ_, sS_, i64_w, i32_w]
          rfl
         refine pure_ (i := 17) (N := some 34) (v := ?_) (a' := ?_) #[true, false, false, false, true, false, false, true, false, false, false, false, true, false, false, false, true, true, false, false, false] rfl rfl (any_of HT_.out (by kernel_rfl)) (fun _ _ _ h => h) (Or.inl ⟨by rfl, ?_⟩) ?_ ?_
         rotate_left
         ·intro w'
          go_simp
          with_reducible rfl
         rotate_left
         ·simp only [Act.put, sA_, sZ_, sS_, i64_w, i32_w]
          rfl
         refine take_ (i := 1) (N := some 18) (v := ?_) (a' := ?_) #[true, true, false, false, true, false, false, true, false, false, false, false, true, false, false, false, true, true, false, false, false] rfl rfl (take_ofW HT_.out HW_.out (by kernel_rfl)) (fun _ _ _ h => h) (Or.inl ⟨by rfl, ?_⟩) hHeld ?_ ?_
         rotate_left
         ·rintro w' ⟨s0, s1, s2, s3, s4, s5, s6, s7, s8, s9, s10, s11, s12, s13, s14⟩
          go_simp
          with_reducible rfl
         rotate_left
         ·simp only [Act.put, sA_, sZ_, sS_, i64_w, i32_w]
          rfl
         refine pure_ (i := 2) (N := some 19) (v := ?_) (a' := ?_) #[true, true, true, false, true, false, false, true, false, false, false, false, true, false, false, false, true, true, false, false, false] rfl rfl (any_of HT_.out (by kernel_rfl)) (fun _ _ _ h => h) (Or.inl ⟨by rfl, ?_⟩) ?_ ?_
         rotate_left
         ·intro w'
          go_simp
          with_reducible rfl
         rotate_left
         ·simp only [Act.put, sA_, sZ_, sS_, i64_w, i32_w]
          rfl
         refine take_ (i := 3) (N := some 20) (v := ?_) (a' := ?_) #[true, true, true, true, true, false, false, true, false, false, false, false, true, false, false, false, true, true, false, false, false] rfl rfl (take_ofW HT_.out HW_.out (by kernel_rfl)) (fun _ _ _ h => h) (Or.inl ⟨by rfl, ?_⟩) hHeld ?_ ?_
         rotate_left
         ·rintro w' ⟨s0, s1, s2, s3, s4, s5, s6, s7, s8, s9, s10, s11, s12, s13, s14⟩
          go_simp
          with_reducible rfl
         rotate_left
         ·simp only [Act.put, sA_, sZ_, sS_, i64_w, i32_w]
          rfl
         refine take_ (i := 8) (N := some 25) (v := ?_) (a' := ?_) #[true, true, true, true, true, false, false, true, true, false, false, false, true, false, false, false, true, true, false, false, false] rfl rfl (take_ofW HT_.out HW_.out (by kernel_rfl)) (fun _ _ _ h => h) (Or.inl ⟨by rfl, ?_⟩) hHeld ?_ ?_
         rotate_left
         ·rintro w' ⟨s0, s1, s2, s3, s4, s5, s6, s7, s8, s9, s10, s11, s12, s13, s14⟩
          go_simp
          with_reducible rfl
         rotate_left
         ·simp only [Act.put, sA_, sZ_, sS_, i64_w, i32_w]
          rfl
         refine take_ (i := 13) (N := some 30) (v := ?_) (a' := ?_) #[true, true, true, true, true, false, false, true, true, false, false, false, true, true, false, false, true, true, false, false, false] rfl rfl (take_ofW HT_.out HW_.out (by kernel_rfl)) (fun _ _ _ h => h) (Or.inl ⟨by rfl, ?_⟩) hHeld ?_ ?_
         rotate_left
         ·rintro w' ⟨s0, s1, s2, s3, s4, s5, s6, s7, s8, s9, s10, s11, s12, s13, s14⟩
          go_simp
          with_reducible rfl
         rotate_left
         ·simp only [Act.put, sA_, sZ_, sS_, i64_w, i32_w]
          rfl
         refine pure_ (i := 14) (N := some 31) (v := ?_) (a' := ?_) #[true, true, true, true, true, false, false, true, true, false, false, false, true, true, true, false, true, true, false, false, false] rfl rfl (any_of HT_.out (by kernel_rfl)) (fun _ _ _ h => h) (Or.inl ⟨by rfl, ?_⟩) ?_ ?_
         rotate_left
         ·intro w'
          go_simp
          with_reducible rfl
         rotate_left
         ·simp only [Act.put, sA_, sZ_, sS_, i64_w, i32_w]
          rfl
         refine take_ (i := 15) (N := some 32) (v := ?_) (a' := ?_) #[true, true, true, true, true, false, false, true, true, false, false, false, true, true, true, true, true, true, false, false, false] rfl rfl (take_ofW HT_.out HW_.out (by kernel_rfl)) (fun _ _ _ h => h) (Or.inl ⟨by rfl, ?_⟩) hHeld ?_ ?_
         rotate_left
         ·rintro w' ⟨s0, s1, s2, s3, s4, s5, s6, s7, s8, s9, s10, s11, s12, s13, s14⟩
          go_simp
          with_reducible rfl
         rotate_left
         ·simp only [Act.put, sA_, sZ_, sS_, i64_w, i32_w]
          rfl
         refine one_ (i := 5) (N := some 22) #[true, true, true, true, true, true, false, true, true, false, false, false, true, true, true, true, true, true, false, false, false] rfl rfl (one_of HT_.out (by kernel_rfl)) (by decide) (fun K hK => ?_)
         refine goes_ Tryd.func93 (by kernel_rfl) rfl #[.agg #[.int .i64 ((rd_T57 l0_4 0).f0.f0), .string ((rd_T57 l0_4 0).f0.f1), .int .i64 ((rd_T57 l0_4 0).f0.f2), .int .i64 ((rd_T57 l0_4 0).f1), .slice A392_4 ((rd_T57 l0_4 0).f2).length c392_4], .int .i64 t391] (by rfl) rfl rfl (by (try simp only [List.map_toArray, List.map_cons, List.map_nil]); first | done | rfl | (simp only [List.length_drop, List.length_take]; rfl)) ?_
         with_reducible refine (ih k (by omega) ((rd_T57 l0_4 0).f0.f0) ((rd_T57 l0_4 0).f0.f1) ((rd_T57 l0_4 0).f0.f2) ((rd_T57 l0_4 0).f1) _ _ ((rd_T57 l0_4 0).f2) t391 t393 _ ?side1 ?side2 A6.out ?hGl).mono ?_
         (case side1 => repeat (first | exact (Kd.C_below HR392_4.out HB.out) | (with_reducible refine Kd.C_alloc ?_ _) | (with_reducible refine Kd.C_drewN ?_ _) | (with_reducible refine Kd.C_drew ?_)))
         (case side2 => exact HC392_4.out)
         (case hGl => exact tab_below hG (by repeat (first | (with_reducible first | exact HB.out | apply lA_ | apply pD | apply lD_ | refine lS_ ?_ GE389.out) | exact HB.out)))
         rintro e w26 ⟨rfl, hb⟩
         refine ⟨_, rfl, ?_⟩
         have n0_ := aK_ (bB (by (with_reducible repeat (first | refine bDN ?_ _ | refine bD ?_ | refine bA ?_ _)); exact BK389.out) hb)
         have n1_ := aK_ (lT_ (by repeat (first | (with_reducible first | exact HB.out | apply lA_ | apply pD | apply lD_ | refine lS_ ?_ GE389.out) | exact HB.out)) hb)
         clear BK389
         clear HB
         have BK389 := n0_
         have HB := n1_
         clear n0_ n1_
         (try clear hb)
         (try clear hb2)
         (try clear hk)
         (try clear hi)
         refine hK.out _ _ ⟨(bC BK389.out 0).trans rfl, (bC BK389.out 1).trans rfl, (bC BK389.out 2).trans rfl, (bC BK389.out 3).trans rfl, (bC BK389.out 4).trans rfl, ((HB.out.cell (wb_ w _ hw392_0)).trans hw392_0), ((HB.out.cell (wb_ w _ hw392_1)).trans hw392_1), ((HB.out.cell (wb_ w _ hw392_2)).trans hw392_2), ((HB.out.cell (wb_ w _ hw392_3)).trans hw392_3), ((HB.out.cell (wb_ w _ hw392_4)).trans hw392_4), ((HB.out.cell (wb_ w _ hw395_0)).trans hw395_0), ((HB.out.cell (wb_ w _ hw395_1)).trans hw395_1), ((HB.out.cell (wb_ w _ hw395_2)).trans hw395_2), ((HB.out.cell (wb_ w _ hw395_3)).trans hw395_3), ((HB.out.cell (wb_ w _ hw395_4)).trans hw395_4)⟩ (fun hHeld => ?_)
         clear hK K
         refine norm_ (a' := ?_) ?_ ?_
         rotate_left
         ·show Act.put _ (some 22) _ = _
          simp only [Act.put, sA_, sZ_, sS_, i64_w, i32_w]
          rfl
         refine pure_ (i := 6) (N := some 23) (v := ?_) (a' := ?_) #[true, true, true, true, true, true, true, true, true, false, false, false, true, true, true, true, true, true, false, false, false] rfl rfl (any_of HT_.out (by kernel_rfl)) (fun _ _ _ h => h) (Or.inl ⟨by rfl, ?_⟩) ?_ ?_
         rotate_left
         ·intro w'
          go_simp
          with_reducible rfl
         rotate_left
         ·simp only [Act.put, sA_, sZ_, sS_, i64_w, i32_w]
          rfl
         refine one_ (i := 9) (N := some 26) #[true, true, true, true, true, true, true, true, true, true, false, false, true, true, true, true, true, true, false, false, false] rfl rfl (one_of HT_.out (by kernel_rfl)) (by decide) (fun K hK => ?_)
         refine goes_ Tryd.func94 (by kernel_rfl) rfl #[.int .i64 a0_3] (by rfl) rfl rfl (by (try simp only [List.map_toArray, List.map_cons, List.map_nil]); first | done | rfl | (simp only [List.length_drop, List.length_take]; rfl)) ?_
         with_reducible refine (arith_Op_Sign.calls a0_3 t394 _ A8.out).mono ?_
         rintro e w27 ⟨rfl, hb⟩
         refine ⟨_, rfl, ?_⟩
         have n0_ := aK_ (bB (by (with_reducible repeat (first | refine bDN ?_ _ | refine bD ?_ | refine bA ?_ _)); exact BK389.out) hb)
         have n1_ := aK_ (lT_ (by repeat (first | (with_reducible first | exact HB.out | apply lA_ | apply pD | apply lD_ | refine lS_ ?_ GE389.out) | exact HB.out)) hb)
         clear BK389
         clear HB
         have BK389 := n0_
         have HB := n1_
         clear n0_ n1_
         (try clear hb)
         (try clear hb2)
         (try clear hk)
         (try clear hi)
         refine hK.out _ _ ⟨(bC BK389.out 0).trans rfl, (bC BK389.out 1).trans rfl, (bC BK389.out 2).trans rfl, (bC BK389.out 3).trans rfl, (bC BK389.out 4).trans rfl, ((HB.out.cell (wb_ w _ hw392_0)).trans hw392_0), ((HB.out.cell (wb_ w _ hw392_1)).trans hw392_1), ((HB.out.cell (wb_ w _ hw392_2)).trans hw392_2), ((HB.out.cell (wb_ w _ hw392_3)).trans hw392_3), ((HB.out.cell (wb_ w _ hw392_4)).trans hw392_4), ((HB.out.cell (wb_ w _ hw395_0)).trans hw395_0), ((HB.out.cell (wb_ w _ hw395_1)).trans hw395_1), ((HB.out.cell (wb_ w _ hw395_2)).trans hw395_2), ((HB.out.cell (wb_ w _ hw395_3)).trans hw395_3), ((HB.out.cell (wb_ w _ hw395_4)).trans hw395_4)⟩ (fun hHeld => ?_)
         clear hK K
         refine norm_ (a' := ?_) ?_ ?_
         rotate_left
         ·show Act.put _ (some 26) _ = _
          simp only [Act.put, sA_, sZ_, sS_, i64_w, i32_w]
          rfl
         refine pure_ (i := 10) (N := some 27) (v := ?_) (a' := ?_) #[true, true, true, true, true, true, true, true, true, true, true, false, true, true, true, true, true, true, false, false, false] rfl rfl (any_of HT_.out (by kernel_rfl)) (fun _ _ _ h => h) (Or.inl ⟨by rfl, ?_⟩) ?_ ?_
         rotate_left
         ·intro w'
          go_simp
          with_reducible rfl
         rotate_left
         ·simp only [Act.put, sA_, sZ_, sS_, i64_w, i32_w]
          rfl
         refine pure_ (i := 11) (N := some 28) (v := ?_) (a' := ?_) #[true, true, true, true, true, true, true, true, true, true, true, true, true, true, true, true, true, true, false, false, false] rfl rfl (any_of HT_.out (by kernel_rfl)) (fun _ _ _ h => h) (Or.inl ⟨by rfl, ?_⟩) ?_ ?_
         rotate_left
         ·intro w'
          go_simp
          with_reducible rfl
         rotate_left
         ·simp only [Act.put, sA_, sZ_, sS_, i64_w, i32_w]
          rfl
         refine one_ (i := 18) (N := some 35) #[true, true, true, true, true, true, true, true, true, true, true, true, true, true, true, true, true, true, true, false, false] rfl rfl (one_of HT_.out (by kernel_rfl)) (by decide) (fun K hK => ?_)
         refine goes_ Tryd.func93 (by kernel_rfl) rfl #[.agg #[.int .i64 ((rd_T57 l0_4 1).f0.f0), .string ((rd_T57 l0_4 1).f0.f1), .int .i64 ((rd_T57 l0_4 1).f0.f2), .int .i64 ((rd_T57 l0_4 1).f1), .slice A395_4 ((rd_T57 l0_4 1).f2).length c395_4], .int .i64 (wrap64 (t391 + 1))] (by rfl) rfl rfl (by (try simp only [List.map_toArray, List.map_cons, List.map_nil]); first | done | rfl | (simp only [List.length_drop, List.length_take]; rfl)) ?_
         with_reducible refine (ih k (by omega) ((rd_T57 l0_4 1).f0.f0) ((rd_T57 l0_4 1).f0.f1) ((rd_T57 l0_4 1).f0.f2) ((rd_T57 l0_4 1).f1) _ _ ((rd_T57 l0_4 1).f2) (wrap64 (t391 + 1)) t396 _ ?side1 ?side2 A12.out ?hGl).mono ?_
         (case side1 => repeat (first | exact (Kd.C_below HR395_4.out HB.out) | (with_reducible refine Kd.C_alloc ?_ _) | (with_reducible refine Kd.C_drewN ?_ _) | (with_reducible refine Kd.C_drew ?_)))
         (case side2 => exact HC395_4.out)
         (case hGl => exact tab_below hG (by repeat (first | (with_reducible first | exact HB.out | apply lA_ | apply pD | apply lD_ | refine lS_ ?_ GE389.out) | exact HB.out)))
         rintro e w28 ⟨rfl, hb⟩
         refine ⟨_, rfl, ?_⟩
         have n0_ := aK_ (bB (by (with_reducible repeat (first | refine bDN ?_ _ | refine bD ?_ | refine bA ?_ _)); exact BK389.out) hb)
         have n1_ := aK_ (lT_ (by repeat (first | (with_reducible first | exact HB.out | apply lA_ | apply pD | apply lD_ | refine lS_ ?_ GE389.out) | exact HB.out)) hb)
         clear BK389
         clear HB
         have BK389 := n0_
         have HB := n1_
         clear n0_ n1_
         (try clear hb)
         (try clear hb2)
         (try clear hk)
         (try clear hi)
         refine hK.out _ _ ⟨(bC BK389.out 0).trans rfl, (bC BK389.out 1).trans rfl, (bC BK389.out 2).trans rfl, (bC BK389.out 3).trans rfl, (bC BK389.out 4).trans rfl, ((HB.out.cell (wb_ w _ hw392_0)).trans hw392_0), ((HB.out.cell (wb_ w _ hw392_1)).trans hw392_1), ((HB.out.cell (wb_ w _ hw392_2)).trans hw392_2), ((HB.out.cell (wb_ w _ hw392_3)).trans hw392_3), ((HB.out.cell (wb_ w _ hw392_4)).trans hw392_4), ((HB.out.cell (wb_ w _ hw395_0)).trans hw395_0), ((HB.out.cell (wb_ w _ hw395_1)).trans hw395_1), ((HB.out.cell (wb_ w _ hw395_2)).trans hw395_2), ((HB.out.cell (wb_ w _ hw395_3)).trans hw395_3), ((HB.out.cell (wb_ w _ hw395_4)).trans hw395_4)⟩ (fun hHeld => ?_)
         clear hK K
         refine norm_ (a' := ?_) ?_ ?_
         rotate_left
         ·show Act.put _ (some 35) _ = _
          simp only [Act.put, sA_, sZ_, sS_, i64_w, i32_w]
          rfl
         refine pure_ (i := 19) (N := some 36) (v := ?_) (a' := ?_) #[true, true, true, true, true, true, true, true, true, true, true, true, true, true, true, true, true, true, true, true, false] rfl rfl (any_of HT_.out (by kernel_rfl)) (fun _ _ _ h => h) (Or.inl ⟨by rfl, ?_⟩) ?_ ?_
         rotate_left
         ·intro w'
          go_simp
          with_reducible rfl
         rotate_left
         ·simp only [Act.put, sA_, sZ_, sS_, i64_w, i32_w]
          rfl
         refine pure_ (i := 20) (N := some 6) (v := ?_) (a' := ?_) #[true, true, true, true, true, true, true, true, true, true, true, true, true, true, true, true, true, true, true, true, true] rfl rfl (any_of HT_.out (by kernel_rfl)) (fun _ _ _ h => h) (Or.inl ⟨by rfl, ?_⟩) ?_ ?_
         rotate_left
         ·intro w'
          go_simp
          with_reducible rfl
         rotate_left
         ·simp only [Act.put, sA_, sZ_, sS_, i64_w, i32_w]
          rfl
         refine done_ (done_of HT_.out (by kernel_rfl)) ?_
         try go_wp2
         go_ret
         exact ⟨by first | rfl | (simp [errW_none, errW_some] <;> rfl) | (simp [*, errW_none, errW_some] <;> rfl), by repeat (first | (with_reducible first | exact HB.out | apply lA_ | apply pD | apply lD_ | refine lS_ ?_ GE389.out) | exact HB.out)⟩
       ·rw [if_neg c13] at H
        exact absurd H (by simp)
      ·rw [if_neg c11] at H
       exact absurd H (by simp)
     ·rw [if_neg c10] at H
      exact absurd H (by simp)
    ·rw [if_neg c9] at H
     exact absurd H (by simp)
   ·rw [if_neg c7] at H
    exact absurd H (by simp)
  ·rw [if_neg c5] at H
   exact absurd H (by simp)
 ·rw [if_neg c3] at H
  have c3b0 : ((l0_4.length : Int) == 2) = false := beq_eq_false_iff_ne.mpr c3
  have c3b1 : ((l0_4.length : Int) != 2) = true := bne_iff_ne.mpr c3
  replace H := Option.bind_eq_some_iff.mp H
  obtain ⟨t390, A290, H⟩ := H
  replace H : (some t390) = some r := H
  have A29 := aK_ A290
  clear A290
  obtain rfl := Option.some.inj H
  go_enter Tryd.func93, Tryd.ntmps93
  go_wp2_with (first | ((with_reducible refine gate_dst (N := 2) rfl ?_); refine box_event ?hg (N := 2) ?hd (cs := #[.int .i64 a0_0, .string a0_1, .int .i64 a0_2, .int .i64 a0_3, .slice A0_4 l0_4.length c0_4]) (t := 57) ?hr ?_; (case hd => rfl); (case hg => rfl); (case hr => first | (go_simp; done) | (go_simp; rfl)); intro gb389 hg w30 hbox hb; have n0_ := aK_ (lT_ (by repeat (first | (with_reducible first | exact HB.out | apply lA_ | apply pD | apply lD_) | exact HB.out)) hb); have n1_ := aK_ (hbox); have n2_ := aK_ ((by rw [hg]; exact (lZ_ (by repeat (first | (with_reducible first | exact HB.out | apply lA_ | apply pD | apply lD_) | exact HB.out))) : w.heap.size ≤ gb389)); have n3_ := aK_ ((by rw [hg]; exact (lZ_ (by repeat (first | (with_reducible first | exact HB.out | apply lA_ | apply pD | apply lD_) | exact HB.out))) : w.heap.size ≤ gb389)); clear HB; have HB := n0_; have BK389 := n1_; have GW389 := n2_; have GE389 := n3_; clear n0_ n1_ n2_ n3_; clear hb hbox hg; have hcz31_0 : w30.cell? ⟨gb389, 0, none⟩ = some (.int .i64 a0_0) := (bC BK389.out 0).trans rfl; have hcz31_1 : w30.cell? ⟨gb389, 1, none⟩ = some (.string a0_1) := (bC BK389.out 1).trans rfl; have hcz31_2 : w30.cell? ⟨gb389, 2, none⟩ = some (.int .i64 a0_2) := (bC BK389.out 2).trans rfl; have hcz31_3 : w30.cell? ⟨gb389, 3, none⟩ = some (.int .i64 a0_3) := (bC BK389.out 3).trans rfl; have hcz31_4 : w30.cell? ⟨gb389, 4, none⟩ = some (.slice A0_4 l0_4.length c0_4) := (bC BK389.out 4).trans rfl; have hfz31_0 := bF BK389.out 0; have hfz31_1 := bF BK389.out 1; have hfz31_2 := bF BK389.out 2; have hfz31_3 := bF BK389.out 3; have hfz31_4 := bF BK389.out 4) | ((with_reducible refine gate_callee (f := 44) rfl ?_); refine goesL_ (some 13) rfl rfl Tryd.func44 (by kernel_rfl) rfl #[.agg #[.int .i64 a0_0, .string a0_1, .int .i64 a0_2]] rfl (by (try simp only [List.map_toArray, List.map_cons, List.map_nil]); first | done | rfl | (simp only [List.length_drop, List.length_take]; rfl)) ?_; (with_reducible refine (syntax_Term_String.calls k a0_0 a0_1 a0_2 t390 _ A29.out ?hGl).mono ?_); (case hGl => exact tab_below hG (by repeat (first | (with_reducible first | exact HB.out | apply lA_ | apply pD | apply lD_ | refine lS_ ?_ GE389.out) | exact HB.out))); rintro e w32 ⟨rfl, hb⟩; refine ⟨_, rfl, ?_⟩; have n0_ := aK_ (bB (by (with_reducible repeat (first | refine bDN ?_ _ | refine bD ?_ | refine bA ?_ _)); exact BK389.out) hb); have n1_ := aK_ (lT_ (by repeat (first | (with_reducible first | exact HB.out | apply lA_ | apply pD | apply lD_ | refine lS_ ?_ GE389.out) | exact HB.out)) hb); clear BK389; clear HB; have BK389 := n0_; have HB := n1_; clear n0_ n1_; (try clear hb); (try clear hb2); (try clear hk); (try clear hi)))
  go_ret
  exact ⟨by first | rfl | (simp [errW_none, errW_some] <;> rfl) | (simp [*, errW_none, errW_some] <;> rfl), by repeat (first | (with_reducible first | exact HB.out | apply lA_ | apply pD | apply lD_ | refine lS_ ?_ GE389.out) | exact HB.out)⟩
def syntax_Expr_String.f (k : Nat) (a0_0 : Int) (a0_1 : ByteArray) (a0_2 : Int) (a0_3 : Int) (l0_4 : List (S57)) : Option (ByteArray) := (syntax_Expr_in.f k a0_0 a0_1 a0_2 a0_3 l0_4 0).bind fun t398 => (some t398)
set_option maxHeartbeats 8000000 in
set_option maxRecDepth 100000 in
theorem syntax_Expr_String.calls (k : Nat) (a0_0 : Int) (a0_1 : ByteArray) (a0_2 : Int) (a0_3 : Int) (A0_4 : Option Addr) (c0_4 : Nat) (l0_4 : List (S57)) (r : ByteArray) (w : World) (hr0_4 : Kd.C k57 w A0_4 l0_4.length l0_4) (hc0_4 : l0_4.length ≤ c0_4) (h : syntax_Expr_String.f k a0_0 a0_1 a0_2 a0_3 l0_4 = some r) (hG : Go.Proofs.YtdbpboipiceifaaDoor.TabT w) :
  Calls Tryd.prog 72 #[.agg #[.int .i64 a0_0, .string a0_1, .int .i64 a0_2, .int .i64 a0_3, .slice A0_4 l0_4.length c0_4]] w fun e w' => e = .returned (.string r) ∧ Below w.heap.size w w' := by
 have hu57 := Tryd.underlying57
 have HR0_4 := aK_ hr0_4
 have HC0_4 := aK_ hc0_4
 clear hr0_4 hc0_4
 have HB := aK_ (Below.refl w.heap.size w)
 have H : ((syntax_Expr_in.f k a0_0 a0_1 a0_2 a0_3 l0_4 0).bind fun t398 => (some t398)) = some r := h
 clear h
 replace H := Option.bind_eq_some_iff.mp H
 obtain ⟨t398, A20, H⟩ := H
 replace H : (some t398) = some r := H
 have A2 := aK_ A20
 clear A20
 obtain rfl := Option.some.inj H
 go_enter Tryd.func72, Tryd.ntmps72
 go_wp2_with (first | ((with_reducible refine gate_dst (N := 1) rfl ?_); refine box_event ?hg (N := 1) ?hd (cs := #[.int .i64 a0_0, .string a0_1, .int .i64 a0_2, .int .i64 a0_3, .slice A0_4 l0_4.length c0_4]) (t := 57) ?hr ?_; (case hd => rfl); (case hg => rfl); (case hr => first | (go_simp; done) | (go_simp; rfl)); intro gb397 hg w3 hbox hb; have n0_ := aK_ (lT_ (by repeat (first | (with_reducible first | exact HB.out | apply lA_ | apply pD | apply lD_) | exact HB.out)) hb); have n1_ := aK_ (hbox); have n2_ := aK_ ((by rw [hg]; exact (lZ_ (by repeat (first | (with_reducible first | exact HB.out | apply lA_ | apply pD | apply lD_) | exact HB.out))) : w.heap.size ≤ gb397)); have n3_ := aK_ ((by rw [hg]; exact (lZ_ (by repeat (first | (with_reducible first | exact HB.out | apply lA_ | apply pD | apply lD_) | exact HB.out))) : w.heap.size ≤ gb397)); clear HB; have HB := n0_; have BK397 := n1_; have GW397 := n2_; have GE397 := n3_; clear n0_ n1_ n2_ n3_; clear hb hbox hg; have hcz4_0 : w3.cell? ⟨gb397, 0, none⟩ = some (.int .i64 a0_0) := (bC BK397.out 0).trans rfl; have hcz4_1 : w3.cell? ⟨gb397, 1, none⟩ = some (.string a0_1) := (bC BK397.out 1).trans rfl; have hcz4_2 : w3.cell? ⟨gb397, 2, none⟩ = some (.int .i64 a0_2) := (bC BK397.out 2).trans rfl; have hcz4_3 : w3.cell? ⟨gb397, 3, none⟩ = some (.int .i64 a0_3) := (bC BK397.out 3).trans rfl; have hcz4_4 : w3.cell? ⟨gb397, 4, none⟩ = some (.slice A0_4 l0_4.length c0_4) := (bC BK397.out 4).trans rfl; have hfz4_0 := bF BK397.out 0; have hfz4_1 := bF BK397.out 1; have hfz4_2 := bF BK397.out 2; have hfz4_3 := bF BK397.out 3; have hfz4_4 := bF BK397.out 4) | ((with_reducible refine gate_callee (f := 93) rfl ?_); refine goesL_ (some 4) rfl rfl Tryd.func93 (by kernel_rfl) rfl #[.agg #[.int .i64 a0_0, .string a0_1, .int .i64 a0_2, .int .i64 a0_3, .slice A0_4 l0_4.length c0_4], .int .i64 0] rfl (by (try simp only [List.map_toArray, List.map_cons, List.map_nil]); first | done | rfl | (simp only [List.length_drop, List.length_take]; rfl)) ?_; (with_reducible refine (syntax_Expr_in.calls k a0_0 a0_1 a0_2 a0_3 _ _ l0_4 0 t398 _ ?side1 ?side2 A2.out ?hGl).mono ?_); (case side1 => repeat (first | exact (Kd.C_below HR0_4.out HB.out) | (with_reducible refine Kd.C_alloc ?_ _) | (with_reducible refine Kd.C_drewN ?_ _) | (with_reducible refine Kd.C_drew ?_))); (case side2 => exact HC0_4.out); (case hGl => exact tab_below hG (by repeat (first | (with_reducible first | exact HB.out | apply lA_ | apply pD | apply lD_ | refine lS_ ?_ GE397.out) | exact HB.out))); rintro e w5 ⟨rfl, hb⟩; refine ⟨_, rfl, ?_⟩; have n0_ := aK_ (bB (by (with_reducible repeat (first | refine bDN ?_ _ | refine bD ?_ | refine bA ?_ _)); exact BK397.out) hb); have n1_ := aK_ (lT_ (by repeat (first | (with_reducible first | exact HB.out | apply lA_ | apply pD | apply lD_ | refine lS_ ?_ GE397.out) | exact HB.out)) hb); clear BK397; clear HB; have BK397 := n0_; have HB := n1_; clear n0_ n1_; (try clear hb); (try clear hb2); (try clear hk); (try clear hi)))
 go_ret
 exact ⟨by first | rfl | (simp [errW_none, errW_some] <;> rfl) | (simp [*, errW_none, errW_some] <;> rfl), by repeat (first | (with_reducible first | exact HB.out | apply lA_ | apply pD | apply lD_ | refine lS_ ?_ GE397.out) | exact HB.out)⟩
end Go.Proofs.YtdbpboipiceifaaDoorPSP
