import Derived.Test.YtdbpboipiceifaaDoorZ1PSPx0
import Derived.Test.YtdbpboipiceifaaDoorZ1PSPx8
import Derived.Test.YtdbpboipiceifaaDoorZ1PSPx9
namespace Go.Proofs.YtdbpboipiceifaaDoorPSP
open Go.RowKit Go.Proofs.YtdbpboipiceifaaDoorW.PrintWords Go.Proofs.YtdbpboipiceifaaDoorW.PrintLast Go.Proofs.YtdbpboipiceifaaDoorW.PrintMore
attribute [local go_sem] max2_int min2_int max_two min_two max_three min_three max_four min_four   -- for this text's walks alone
set_option linter.unusedVariables false
set_option linter.unusedSimpArgs false
def ergolaw13_part.f (k : Nat) (a0_0 : Int) (a0_1 : ByteArray) (l0_2 : List (S53)) (a0_3 : Int) (a0_4 : Int) (a0_5 : ByteArray) (a0_6 : Int) (a0_7 : Int) (a0_8 : ByteArray) (a0_9 : Int) (a0_10 : ByteArray) (a0_11 : Int) (a0_12 : ByteArray) (a0_13 : Int) (a0_14 : Int) (l0_15 : List (S57)) : Option (ByteArray) := if a0_0 = 1 then ((ergolaw13_atom.f k a0_1 l0_2).bind fun t353 => (if 4 + t353.size ≤ 9223372036854775807 then (some ((⟨#[110, 111, 116, 32]⟩ : ByteArray) ++ t353)) else (none))) else (if a0_0 = 2 then ((ergolaw13_text.f k a0_4 a0_5 a0_6).bind fun t354 => (if t354.size + 1 ≤ 9223372036854775807 then ((column_Op_Sign.f a0_3).bind fun t355 => (if (t354 ++ (⟨#[32]⟩ : ByteArray)).size + t355.size ≤ 9223372036854775807 then (if ((t354 ++ (⟨#[32]⟩ : ByteArray)) ++ t355).size + 1 ≤ 9223372036854775807 then ((ergolaw13_text.f k a0_7 a0_8 a0_9).bind fun t356 => (if (((t354 ++ (⟨#[32]⟩ : ByteArray)) ++ t355) ++ (⟨#[32]⟩ : ByteArray)).size + t356.size ≤ 9223372036854775807 then (some ((((t354 ++ (⟨#[32]⟩ : ByteArray)) ++ t355) ++ (⟨#[32]⟩ : ByteArray)) ++ t356)) else (none))) else (none)) else (none))) else (none))) else (if a0_0 = 3 then (if a0_10.size + 4 ≤ 9223372036854775807 then ((ergolaw13_expr.f k a0_11 a0_12 a0_13 a0_14 l0_15).bind fun t357 => (if (a0_10 ++ (⟨#[32, 58, 61, 32]⟩ : ByteArray)).size + t357.size ≤ 9223372036854775807 then (some ((a0_10 ++ (⟨#[32, 58, 61, 32]⟩ : ByteArray)) ++ t357)) else (none))) else (none)) else ((ergolaw13_atom.f k a0_1 l0_2).bind fun t358 => (some t358))))
def ergolaw13_part.T5 : Bool × List (List Nat × List Nat) := (true, [([], []), ([0], [0]), ([1], [1]), ([2], [2]), ([], []), ([4], [4]), ([5, 2], [5]), ([3, 6], [3, 6]), ([7], [7]), ([], []), ([9], [9]), ([10, 6], [10]), ([8, 11], [8, 11]), ([12, 11, 0, 1, 2, 3, 4, 5, 6, 7, 8, 9, 10, 11, 12], [12])])
def ergolaw13_part.B5 : List Nat := [0, 1, 3, 7, 0, 16, 55, 127, 255, 0, 512, 1655, 4095, 8191]
theorem ergolaw13_part.tab5 : rtab .any (opsOf Tryd.f50 5) = ergolaw13_part.T5 := by kernel_rfl
theorem ergolaw13_part.bits5 : waitsOk ergolaw13_part.T5.2 ergolaw13_part.B5 = true := by kernel_rfl
def ergolaw13_part.T7 : Bool × List (List Nat × List Nat) := (true, [([], []), ([0], [0]), ([1], [1]), ([], []), ([3], [3]), ([4], [4]), ([2, 5], [2, 5]), ([6, 5, 0, 1, 2, 3, 4, 5, 6], [6])])
def ergolaw13_part.B7 : List Nat := [0, 1, 3, 0, 8, 24, 63, 127]
theorem ergolaw13_part.tab7 : rtab .any (opsOf Tryd.f50 7) = ergolaw13_part.T7 := by kernel_rfl
theorem ergolaw13_part.bits7 : waitsOk ergolaw13_part.T7.2 ergolaw13_part.B7 = true := by kernel_rfl
set_option maxHeartbeats 8000000 in
set_option maxRecDepth 100000 in
theorem ergolaw13_part.calls (k : Nat) (a0_0 : Int) (a0_1 : ByteArray) (A0_2 : Option Addr) (c0_2 : Nat) (l0_2 : List (S53)) (a0_3 : Int) (a0_4 : Int) (a0_5 : ByteArray) (a0_6 : Int) (a0_7 : Int) (a0_8 : ByteArray) (a0_9 : Int) (a0_10 : ByteArray) (a0_11 : Int) (a0_12 : ByteArray) (a0_13 : Int) (a0_14 : Int) (A0_15 : Option Addr) (c0_15 : Nat) (l0_15 : List (S57)) (r : ByteArray) (w : World) (hr0_2 : Kd.C k53 w A0_2 l0_2.length l0_2) (hc0_2 : l0_2.length ≤ c0_2) (hr0_15 : Kd.C k57 w A0_15 l0_15.length l0_15) (hc0_15 : l0_15.length ≤ c0_15) (h : ergolaw13_part.f k a0_0 a0_1 l0_2 a0_3 a0_4 a0_5 a0_6 a0_7 a0_8 a0_9 a0_10 a0_11 a0_12 a0_13 a0_14 l0_15 = some r) (hG : Go.Proofs.YtdbpboipiceifaaDoor.TabT w) :
  Calls Tryd.prog 50 #[.agg #[.int .i64 a0_0, .string a0_1, .slice A0_2 l0_2.length c0_2, .int .i64 a0_3, .int .i64 a0_4, .string a0_5, .int .i64 a0_6, .int .i64 a0_7, .string a0_8, .int .i64 a0_9, .string a0_10, .int .i64 a0_11, .string a0_12, .int .i64 a0_13, .int .i64 a0_14, .slice A0_15 l0_15.length c0_15]] w fun e w' => e = .returned (.string r) ∧ Below w.heap.size w w' := by
 have hu59 := Tryd.underlying59
 have hu39 := Tryd.underlying39
 have hu53 := Tryd.underlying53
 have hu57 := Tryd.underlying57
 have HR0_2 := aK_ hr0_2
 have HC0_2 := aK_ hc0_2
 clear hr0_2 hc0_2
 have HR0_15 := aK_ hr0_15
 have HC0_15 := aK_ hc0_15
 clear hr0_15 hc0_15
 have HB := aK_ (Below.refl w.heap.size w)
 have H : (if a0_0 = 1 then ((ergolaw13_atom.f k a0_1 l0_2).bind fun t353 => (if 4 + t353.size ≤ 9223372036854775807 then (some ((⟨#[110, 111, 116, 32]⟩ : ByteArray) ++ t353)) else (none))) else (if a0_0 = 2 then ((ergolaw13_text.f k a0_4 a0_5 a0_6).bind fun t354 => (if t354.size + 1 ≤ 9223372036854775807 then ((column_Op_Sign.f a0_3).bind fun t355 => (if (t354 ++ (⟨#[32]⟩ : ByteArray)).size + t355.size ≤ 9223372036854775807 then (if ((t354 ++ (⟨#[32]⟩ : ByteArray)) ++ t355).size + 1 ≤ 9223372036854775807 then ((ergolaw13_text.f k a0_7 a0_8 a0_9).bind fun t356 => (if (((t354 ++ (⟨#[32]⟩ : ByteArray)) ++ t355) ++ (⟨#[32]⟩ : ByteArray)).size + t356.size ≤ 9223372036854775807 then (some ((((t354 ++ (⟨#[32]⟩ : ByteArray)) ++ t355) ++ (⟨#[32]⟩ : ByteArray)) ++ t356)) else (none))) else (none)) else (none))) else (none))) else (if a0_0 = 3 then (if a0_10.size + 4 ≤ 9223372036854775807 then ((ergolaw13_expr.f k a0_11 a0_12 a0_13 a0_14 l0_15).bind fun t357 => (if (a0_10 ++ (⟨#[32, 58, 61, 32]⟩ : ByteArray)).size + t357.size ≤ 9223372036854775807 then (some ((a0_10 ++ (⟨#[32, 58, 61, 32]⟩ : ByteArray)) ++ t357)) else (none))) else (none)) else ((ergolaw13_atom.f k a0_1 l0_2).bind fun t358 => (some t358))))) = some r := h
 clear h
 by_cases c2 : a0_0 = 1
 ·rw [if_pos c2] at H
  have c2b0 : (a0_0 == 1) = true := beq_iff_eq.mpr c2
  have c2b1 : (a0_0 != 1) = false := bne_eq_false_iff_eq.mpr c2
  clear c2
  replace H := Option.bind_eq_some_iff.mp H
  obtain ⟨t353, A30, H⟩ := H
  replace H : (if 4 + t353.size ≤ 9223372036854775807 then (some ((⟨#[110, 111, 116, 32]⟩ : ByteArray) ++ t353)) else (none)) = some r := H
  have A3 := aK_ A30
  clear A30
  by_cases c4 : 4 + t353.size ≤ 9223372036854775807
  ·rw [if_pos c4] at H
   have c4b0 := eq_true c4
   have c4b1 : decide (4 + t353.size ≤ 9223372036854775807) = true := decide_eq_true c4
   try have c4b2 : (9223372036854775807 < 4 + t353.size) = False := eq_false (Nat.not_lt.2 c4)
   obtain rfl := Option.some.inj H
   go_enter Tryd.func50, Tryd.ntmps50
   go_wp2_with (first | ((with_reducible refine gate_dst (N := 1) rfl ?_); refine box_event ?hg (N := 1) ?hd (cs := #[.int .i64 a0_0, .string a0_1, .slice A0_2 l0_2.length c0_2, .int .i64 a0_3, .int .i64 a0_4, .string a0_5, .int .i64 a0_6, .int .i64 a0_7, .string a0_8, .int .i64 a0_9, .string a0_10, .int .i64 a0_11, .string a0_12, .int .i64 a0_13, .int .i64 a0_14, .slice A0_15 l0_15.length c0_15]) (t := 59) ?hr ?_; (case hd => rfl); (case hg => rfl); (case hr => first | (go_simp; done) | (go_simp; rfl)); intro gb352 hg w5 hbox hb; have n0_ := aK_ (lT_ (by repeat (first | (with_reducible first | exact HB.out | apply lA_ | apply pD | apply lD_) | exact HB.out)) hb); have n1_ := aK_ (hbox); have n2_ := aK_ ((by rw [hg]; exact (lZ_ (by repeat (first | (with_reducible first | exact HB.out | apply lA_ | apply pD | apply lD_) | exact HB.out))) : w.heap.size ≤ gb352)); have n3_ := aK_ ((by rw [hg]; exact (lZ_ (by repeat (first | (with_reducible first | exact HB.out | apply lA_ | apply pD | apply lD_) | exact HB.out))) : w.heap.size ≤ gb352)); clear HB; have HB := n0_; have BK352 := n1_; have GW352 := n2_; have GE352 := n3_; clear n0_ n1_ n2_ n3_; clear hb hbox hg; have hcz6_0 : w5.cell? ⟨gb352, 0, none⟩ = some (.int .i64 a0_0) := (bC BK352.out 0).trans rfl; have hcz6_1 : w5.cell? ⟨gb352, 1, none⟩ = some (.string a0_1) := (bC BK352.out 1).trans rfl; have hcz6_2 : w5.cell? ⟨gb352, 2, none⟩ = some (.slice A0_2 l0_2.length c0_2) := (bC BK352.out 2).trans rfl; have hcz6_3 : w5.cell? ⟨gb352, 3, none⟩ = some (.int .i64 a0_3) := (bC BK352.out 3).trans rfl; have hcz6_4 : w5.cell? ⟨gb352, 4, none⟩ = some (.int .i64 a0_4) := (bC BK352.out 4).trans rfl; have hcz6_5 : w5.cell? ⟨gb352, 5, none⟩ = some (.string a0_5) := (bC BK352.out 5).trans rfl; have hcz6_6 : w5.cell? ⟨gb352, 6, none⟩ = some (.int .i64 a0_6) := (bC BK352.out 6).trans rfl; have hcz6_7 : w5.cell? ⟨gb352, 7, none⟩ = some (.int .i64 a0_7) := (bC BK352.out 7).trans rfl; have hcz6_8 : w5.cell? ⟨gb352, 8, none⟩ = some (.string a0_8) := (bC BK352.out 8).trans rfl; have hcz6_9 : w5.cell? ⟨gb352, 9, none⟩ = some (.int .i64 a0_9) := (bC BK352.out 9).trans rfl; have hcz6_10 : w5.cell? ⟨gb352, 10, none⟩ = some (.string a0_10) := (bC BK352.out 10).trans rfl; have hcz6_11 : w5.cell? ⟨gb352, 11, none⟩ = some (.int .i64 a0_11) := (bC BK352.out 11).trans rfl; have hcz6_12 : w5.cell? ⟨gb352, 12, none⟩ = some (.string a0_12) := (bC BK352.out 12).trans rfl; have hcz6_13 : w5.cell? ⟨gb352, 13, none⟩ = some (.int .i64 a0_13) := (bC BK352.out 13).trans rfl; have hcz6_14 : w5.cell? ⟨gb352, 14, none⟩ = some (.int .i64 a0_14) := (bC BK352.out 14).trans rfl; have hcz6_15 : w5.cell? ⟨gb352, 15, none⟩ = some (.slice A0_15 l0_15.length c0_15) := (bC BK352.out 15).trans rfl; have hfz6_0 := bF BK352.out 0; have hfz6_1 := bF BK352.out 1; have hfz6_2 := bF BK352.out 2; have hfz6_3 := bF BK352.out 3; have hfz6_4 := bF BK352.out 4; have hfz6_5 := bF BK352.out 5; have hfz6_6 := bF BK352.out 6; have hfz6_7 := bF BK352.out 7; have hfz6_8 := bF BK352.out 8; have hfz6_9 := bF BK352.out 9; have hfz6_10 := bF BK352.out 10; have hfz6_11 := bF BK352.out 11; have hfz6_12 := bF BK352.out 12; have hfz6_13 := bF BK352.out 13; have hfz6_14 := bF BK352.out 14; have hfz6_15 := bF BK352.out 15) | ((with_reducible refine gate_callee (f := 48) rfl ?_); refine goesL_ (some 9) rfl rfl Tryd.func48 (by kernel_rfl) rfl #[.agg #[.string a0_1, .slice A0_2 l0_2.length c0_2]] rfl (by (try simp only [List.map_toArray, List.map_cons, List.map_nil]); first | done | rfl | (simp only [List.length_drop, List.length_take]; rfl)) ?_; (with_reducible refine (ergolaw13_atom.calls k a0_1 _ _ l0_2 t353 _ ?side1 ?side2 A3.out ?hGl).mono ?_); (case side1 => repeat (first | exact (Kd.C_below HR0_2.out HB.out) | (with_reducible refine Kd.C_alloc ?_ _) | (with_reducible refine Kd.C_drewN ?_ _) | (with_reducible refine Kd.C_drew ?_))); (case side2 => exact HC0_2.out); (case hGl => exact tab_below hG (by repeat (first | (with_reducible first | exact HB.out | apply lA_ | apply pD | apply lD_ | refine lS_ ?_ GE352.out) | exact HB.out))); rintro e w7 ⟨rfl, hb⟩; refine ⟨_, rfl, ?_⟩; have n0_ := aK_ (bB (by (with_reducible repeat (first | refine bDN ?_ _ | refine bD ?_ | refine bA ?_ _)); exact BK352.out) hb); have n1_ := aK_ (lT_ (by repeat (first | (with_reducible first | exact HB.out | apply lA_ | apply pD | apply lD_ | refine lS_ ?_ GE352.out) | exact HB.out)) hb); clear BK352; clear HB; have BK352 := n0_; have HB := n1_; clear n0_ n1_; (try clear hb); (try clear hb2); (try clear hk); (try clear hi)))
   go_ret
   exact ⟨by first | rfl | (simp [errW_none, errW_some] <;> rfl) | (simp [*, errW_none, errW_some] <;> rfl), by repeat (first | (with_reducible first | exact HB.out | apply lA_ | apply pD | apply lD_ | refine lS_ ?_ GE352.out) | exact HB.out)⟩
  ·rw [if_neg c4] at H
   exact absurd H (by simp)
 ·rw [if_neg c2] at H
  have c2b0 : (a0_0 == 1) = false := beq_eq_false_iff_ne.mpr c2
  have c2b1 : (a0_0 != 1) = true := bne_iff_ne.mpr c2
  by_cases c8 : a0_0 = 2
  ·rw [if_pos c8] at H
   have c8b0 : (a0_0 == 2) = true := beq_iff_eq.mpr c8
   have c8b1 : (a0_0 != 2) = false := bne_eq_false_iff_eq.mpr c8
   clear c8
   replace H := Option.bind_eq_some_iff.mp H
   obtain ⟨t354, A90, H⟩ := H
   replace H : (if t354.size + 1 ≤ 9223372036854775807 then ((column_Op_Sign.f a0_3).bind fun t355 => (if (t354 ++ (⟨#[32]⟩ : ByteArray)).size + t355.size ≤ 9223372036854775807 then (if ((t354 ++ (⟨#[32]⟩ : ByteArray)) ++ t355).size + 1 ≤ 9223372036854775807 then ((ergolaw13_text.f k a0_7 a0_8 a0_9).bind fun t356 => (if (((t354 ++ (⟨#[32]⟩ : ByteArray)) ++ t355) ++ (⟨#[32]⟩ : ByteArray)).size + t356.size ≤ 9223372036854775807 then (some ((((t354 ++ (⟨#[32]⟩ : ByteArray)) ++ t355) ++ (⟨#[32]⟩ : ByteArray)) ++ t356)) else (none))) else (none)) else (none))) else (none)) = some r := H
   have A9 := aK_ A90
   clear A90
   by_cases c10 : t354.size + 1 ≤ 9223372036854775807
   ·rw [if_pos c10] at H
    have c10b0 := eq_true c10
    have c10b1 : decide (t354.size + 1 ≤ 9223372036854775807) = true := decide_eq_true c10
    try have c10b2 : (9223372036854775807 < t354.size + 1) = False := eq_false (Nat.not_lt.2 c10)
    replace H := Option.bind_eq_some_iff.mp H
    obtain ⟨t355, A110, H⟩ := H
    replace H : (if (t354 ++ (⟨#[32]⟩ : ByteArray)).size + t355.size ≤ 9223372036854775807 then (if ((t354 ++ (⟨#[32]⟩ : ByteArray)) ++ t355).size + 1 ≤ 9223372036854775807 then ((ergolaw13_text.f k a0_7 a0_8 a0_9).bind fun t356 => (if (((t354 ++ (⟨#[32]⟩ : ByteArray)) ++ t355) ++ (⟨#[32]⟩ : ByteArray)).size + t356.size ≤ 9223372036854775807 then (some ((((t354 ++ (⟨#[32]⟩ : ByteArray)) ++ t355) ++ (⟨#[32]⟩ : ByteArray)) ++ t356)) else (none))) else (none)) else (none)) = some r := H
    have A11 := aK_ A110
    clear A110
    by_cases c12 : (t354 ++ (⟨#[32]⟩ : ByteArray)).size + t355.size ≤ 9223372036854775807
    ·rw [if_pos c12] at H
     have c12b0 := eq_true c12
     have c12b1 : decide ((t354 ++ (⟨#[32]⟩ : ByteArray)).size + t355.size ≤ 9223372036854775807) = true := decide_eq_true c12
     try have c12b2 : (9223372036854775807 < (t354 ++ (⟨#[32]⟩ : ByteArray)).size + t355.size) = False := eq_false (Nat.not_lt.2 c12)
     try have c12b4 : (9223372036854775807 < t354.size + 1 + t355.size) = False := eq_false (Nat.not_lt.2 (by have h9 := c12; simp only [ByteArray.size_append] at h9; exact h9))
     by_cases c13 : ((t354 ++ (⟨#[32]⟩ : ByteArray)) ++ t355).size + 1 ≤ 9223372036854775807
     ·rw [if_pos c13] at H
      have c13b0 := eq_true c13
      have c13b1 : decide (((t354 ++ (⟨#[32]⟩ : ByteArray)) ++ t355).size + 1 ≤ 9223372036854775807) = true := decide_eq_true c13
      try have c13b2 : (9223372036854775807 < ((t354 ++ (⟨#[32]⟩ : ByteArray)) ++ t355).size + 1) = False := eq_false (Nat.not_lt.2 c13)
      try have c13b4 : (9223372036854775807 < t354.size + 1 + t355.size + 1) = False := eq_false (Nat.not_lt.2 (by have h9 := c13; simp only [ByteArray.size_append] at h9; exact h9))
      replace H := Option.bind_eq_some_iff.mp H
      obtain ⟨t356, A140, H⟩ := H
      replace H : (if (((t354 ++ (⟨#[32]⟩ : ByteArray)) ++ t355) ++ (⟨#[32]⟩ : ByteArray)).size + t356.size ≤ 9223372036854775807 then (some ((((t354 ++ (⟨#[32]⟩ : ByteArray)) ++ t355) ++ (⟨#[32]⟩ : ByteArray)) ++ t356)) else (none)) = some r := H
      have A14 := aK_ A140
      clear A140
      by_cases c15 : (((t354 ++ (⟨#[32]⟩ : ByteArray)) ++ t355) ++ (⟨#[32]⟩ : ByteArray)).size + t356.size ≤ 9223372036854775807
      ·rw [if_pos c15] at H
       have c15b0 := eq_true c15
       have c15b1 : decide ((((t354 ++ (⟨#[32]⟩ : ByteArray)) ++ t355) ++ (⟨#[32]⟩ : ByteArray)).size + t356.size ≤ 9223372036854775807) = true := decide_eq_true c15
       try have c15b2 : (9223372036854775807 < (((t354 ++ (⟨#[32]⟩ : ByteArray)) ++ t355) ++ (⟨#[32]⟩ : ByteArray)).size + t356.size) = False := eq_false (Nat.not_lt.2 c15)
       try have c15b4 : (9223372036854775807 < t354.size + 1 + t355.size + 1 + t356.size) = False := eq_false (Nat.not_lt.2 (by have h9 := c15; simp only [ByteArray.size_append] at h9; exact h9))
       obtain rfl := Option.some.inj H
       go_enter Tryd.func50, Tryd.ntmps50
       try go_wp2_with (first | ((with_reducible refine gate_dst (N := 1) rfl ?_); refine box_event ?hg (N := 1) ?hd (cs := #[.int .i64 a0_0, .string a0_1, .slice A0_2 l0_2.length c0_2, .int .i64 a0_3, .int .i64 a0_4, .string a0_5, .int .i64 a0_6, .int .i64 a0_7, .string a0_8, .int .i64 a0_9, .string a0_10, .int .i64 a0_11, .string a0_12, .int .i64 a0_13, .int .i64 a0_14, .slice A0_15 l0_15.length c0_15]) (t := 59) ?hr ?_; (case hd => rfl); (case hg => rfl); (case hr => first | (go_simp; done) | (go_simp; rfl)); intro gb352 hg w16 hbox hb; have n0_ := aK_ (lT_ (by repeat (first | (with_reducible first | exact HB.out | apply lA_ | apply pD | apply lD_) | exact HB.out)) hb); have n1_ := aK_ (hbox); have n2_ := aK_ ((by rw [hg]; exact (lZ_ (by repeat (first | (with_reducible first | exact HB.out | apply lA_ | apply pD | apply lD_) | exact HB.out))) : w.heap.size ≤ gb352)); have n3_ := aK_ ((by rw [hg]; exact (lZ_ (by repeat (first | (with_reducible first | exact HB.out | apply lA_ | apply pD | apply lD_) | exact HB.out))) : w.heap.size ≤ gb352)); clear HB; have HB := n0_; have BK352 := n1_; have GW352 := n2_; have GE352 := n3_; clear n0_ n1_ n2_ n3_; clear hb hbox hg; have hcz17_0 : w16.cell? ⟨gb352, 0, none⟩ = some (.int .i64 a0_0) := (bC BK352.out 0).trans rfl; have hcz17_1 : w16.cell? ⟨gb352, 1, none⟩ = some (.string a0_1) := (bC BK352.out 1).trans rfl; have hcz17_2 : w16.cell? ⟨gb352, 2, none⟩ = some (.slice A0_2 l0_2.length c0_2) := (bC BK352.out 2).trans rfl; have hcz17_3 : w16.cell? ⟨gb352, 3, none⟩ = some (.int .i64 a0_3) := (bC BK352.out 3).trans rfl; have hcz17_4 : w16.cell? ⟨gb352, 4, none⟩ = some (.int .i64 a0_4) := (bC BK352.out 4).trans rfl; have hcz17_5 : w16.cell? ⟨gb352, 5, none⟩ = some (.string a0_5) := (bC BK352.out 5).trans rfl; have hcz17_6 : w16.cell? ⟨gb352, 6, none⟩ = some (.int .i64 a0_6) := (bC BK352.out 6).trans rfl; have hcz17_7 : w16.cell? ⟨gb352, 7, none⟩ = some (.int .i64 a0_7) := (bC BK352.out 7).trans rfl; have hcz17_8 : w16.cell? ⟨gb352, 8, none⟩ = some (.string a0_8) := (bC BK352.out 8).trans rfl; have hcz17_9 : w16.cell? ⟨gb352, 9, none⟩ = some (.int .i64 a0_9) := (bC BK352.out 9).trans rfl; have hcz17_10 : w16.cell? ⟨gb352, 10, none⟩ = some (.string a0_10) := (bC BK352.out 10).trans rfl; have hcz17_11 : w16.cell? ⟨gb352, 11, none⟩ = some (.int .i64 a0_11) := (bC BK352.out 11).trans rfl; have hcz17_12 : w16.cell? ⟨gb352, 12, none⟩ = some (.string a0_12) := (bC BK352.out 12).trans rfl; have hcz17_13 : w16.cell? ⟨gb352, 13, none⟩ = some (.int .i64 a0_13) := (bC BK352.out 13).trans rfl; have hcz17_14 : w16.cell? ⟨gb352, 14, none⟩ = some (.int .i64 a0_14) := (bC BK352.out 14).trans rfl; have hcz17_15 : w16.cell? ⟨gb352, 15, none⟩ = some (.slice A0_15 l0_15.length c0_15) := (bC BK352.out 15).trans rfl; have hfz17_0 := bF BK352.out 0; have hfz17_1 := bF BK352.out 1; have hfz17_2 := bF BK352.out 2; have hfz17_3 := bF BK352.out 3; have hfz17_4 := bF BK352.out 4; have hfz17_5 := bF BK352.out 5; have hfz17_6 := bF BK352.out 6; have hfz17_7 := bF BK352.out 7; have hfz17_8 := bF BK352.out 8; have hfz17_9 := bF BK352.out 9; have hfz17_10 := bF BK352.out 10; have hfz17_11 := bF BK352.out 11; have hfz17_12 := bF BK352.out 12; have hfz17_13 := bF BK352.out 13; have hfz17_14 := bF BK352.out 14; have hfz17_15 := bF BK352.out 15))
       have n0_ := aK_ (bD BK352.out)
       have n1_ := aK_ (lD_ HB.out)
       clear BK352
       clear HB
       have BK352 := n0_
       have HB := n1_
       clear n0_ n1_
       refine start_ (n := 14) (S := fun w' => w'.cell? ⟨gb352, 0, none⟩ = some (.int .i64 a0_0) ∧ w'.cell? ⟨gb352, 1, none⟩ = some (.string a0_1) ∧ w'.cell? ⟨gb352, 2, none⟩ = some (.slice A0_2 l0_2.length c0_2) ∧ w'.cell? ⟨gb352, 3, none⟩ = some (.int .i64 a0_3) ∧ w'.cell? ⟨gb352, 4, none⟩ = some (.int .i64 a0_4) ∧ w'.cell? ⟨gb352, 5, none⟩ = some (.string a0_5) ∧ w'.cell? ⟨gb352, 6, none⟩ = some (.int .i64 a0_6) ∧ w'.cell? ⟨gb352, 7, none⟩ = some (.int .i64 a0_7) ∧ w'.cell? ⟨gb352, 8, none⟩ = some (.string a0_8) ∧ w'.cell? ⟨gb352, 9, none⟩ = some (.int .i64 a0_9) ∧ w'.cell? ⟨gb352, 10, none⟩ = some (.string a0_10) ∧ w'.cell? ⟨gb352, 11, none⟩ = some (.int .i64 a0_11) ∧ w'.cell? ⟨gb352, 12, none⟩ = some (.string a0_12) ∧ w'.cell? ⟨gb352, 13, none⟩ = some (.int .i64 a0_13) ∧ w'.cell? ⟨gb352, 14, none⟩ = some (.int .i64 a0_14) ∧ w'.cell? ⟨gb352, 15, none⟩ = some (.slice A0_15 l0_15.length c0_15)) (ds := []) #[false, false, false, false, false, false, false, false, false, false, false, false, false, false] (by kernel_rfl) rfl rfl ⟨(bC BK352.out 0).trans rfl, (bC BK352.out 1).trans rfl, (bC BK352.out 2).trans rfl, (bC BK352.out 3).trans rfl, (bC BK352.out 4).trans rfl, (bC BK352.out 5).trans rfl, (bC BK352.out 6).trans rfl, (bC BK352.out 7).trans rfl, (bC BK352.out 8).trans rfl, (bC BK352.out 9).trans rfl, (bC BK352.out 10).trans rfl, (bC BK352.out 11).trans rfl, (bC BK352.out 12).trans rfl, (bC BK352.out 13).trans rfl, (bC BK352.out 14).trans rfl, (bC BK352.out 15).trans rfl⟩ (fun hHeld => ?_); refine with_tabW ergolaw13_part.tab5 ergolaw13_part.bits5 (fun HT_ HW_ => ?_)
       generalize w16.drew = w18 at BK352 HB hHeld ⊢
       refine pure_ (i := 0) (N := some 13) (v := ?_) (a' := ?_) #[true, false, false, false, false, false, false, false, false, false, false, false, false, false] rfl rfl (any_of HT_.out (by kernel_rfl)) (fun _ _ _ h => h) (Or.inl ⟨by rfl, ?_⟩) ?_ ?_
       rotate_left
       ·intro w'
        go_simp
        with_reducible rfl
       rotate_left
       ·simp only [Act.put, sA_, sZ_, sS_, i64_w, i32_w]
        rfl
       refine pure_ (i := 4) (N := some 17) (v := ?_) (a' := ?_) #[true, false, false, false, true, false, false, false, false, false, false, false, false, false] rfl rfl (any_of HT_.out (by kernel_rfl)) (fun _ _ _ h => h) (Or.inl ⟨by rfl, ?_⟩) ?_ ?_
       rotate_left
       ·intro w'
        go_simp
        with_reducible rfl
       rotate_left
       ·simp only [Act.put, sA_, sZ_, sS_, i64_w, i32_w]
        rfl
       refine pure_ (i := 9) (N := some 22) (v := ?_) (a' := ?_) #[true, false, false, false, true, false, false, false, false, true, false, false, false, false] rfl rfl (any_of HT_.out (by kernel_rfl)) (fun _ _ _ h => h) (Or.inl ⟨by rfl, ?_⟩) ?_ ?_
       rotate_left
       ·intro w'
        go_simp
        with_reducible rfl
       rotate_left
       ·simp only [Act.put, sA_, sZ_, sS_, i64_w, i32_w]
        rfl
       refine take_ (i := 1) (N := some 14) (v := ?_) (a' := ?_) #[true, true, false, false, true, false, false, false, false, true, false, false, false, false] rfl rfl (take_ofW HT_.out HW_.out (by kernel_rfl)) (fun _ _ _ h => h) (Or.inl ⟨by rfl, ?_⟩) hHeld ?_ ?_
       rotate_left
       ·rintro w' ⟨s0, s1, s2, s3, s4, s5, s6, s7, s8, s9, s10, s11, s12, s13, s14, s15⟩
        go_simp
        with_reducible rfl
       rotate_left
       ·simp only [Act.put, sA_, sZ_, sS_, i64_w, i32_w]
        rfl
       refine take_ (i := 5) (N := some 18) (v := ?_) (a' := ?_) #[true, true, false, false, true, true, false, false, false, true, false, false, false, false] rfl rfl (take_ofW HT_.out HW_.out (by kernel_rfl)) (fun _ _ _ h => h) (Or.inl ⟨by rfl, ?_⟩) hHeld ?_ ?_
       rotate_left
       ·rintro w' ⟨s0, s1, s2, s3, s4, s5, s6, s7, s8, s9, s10, s11, s12, s13, s14, s15⟩
        go_simp
        with_reducible rfl
       rotate_left
       ·simp only [Act.put, sA_, sZ_, sS_, i64_w, i32_w]
        rfl
       refine take_ (i := 10) (N := some 23) (v := ?_) (a' := ?_) #[true, true, false, false, true, true, false, false, false, true, true, false, false, false] rfl rfl (take_ofW HT_.out HW_.out (by kernel_rfl)) (fun _ _ _ h => h) (Or.inl ⟨by rfl, ?_⟩) hHeld ?_ ?_
       rotate_left
       ·rintro w' ⟨s0, s1, s2, s3, s4, s5, s6, s7, s8, s9, s10, s11, s12, s13, s14, s15⟩
        go_simp
        with_reducible rfl
       rotate_left
       ·simp only [Act.put, sA_, sZ_, sS_, i64_w, i32_w]
        rfl
       refine one_ (i := 2) (N := some 15) #[true, true, true, false, true, true, false, false, false, true, true, false, false, false] rfl rfl (one_of HT_.out (by kernel_rfl)) (by decide) (fun K hK => ?_)
       refine goes_ Tryd.func49 (by kernel_rfl) rfl #[.agg #[.int .i64 a0_4, .string a0_5, .int .i64 a0_6]] (by rfl) rfl rfl (by (try simp only [List.map_toArray, List.map_cons, List.map_nil]); first | done | rfl | (simp only [List.length_drop, List.length_take]; rfl)) ?_
       with_reducible refine (ergolaw13_text.calls k a0_4 a0_5 a0_6 t354 _ A9.out ?hGl).mono ?_
       (case hGl => exact tab_below hG (by repeat (first | (with_reducible first | exact HB.out | apply lA_ | apply pD | apply lD_ | refine lS_ ?_ GE352.out) | exact HB.out)))
       rintro e w19 ⟨rfl, hb⟩
       refine ⟨_, rfl, ?_⟩
       have n0_ := aK_ (bB (by (with_reducible repeat (first | refine bDN ?_ _ | refine bD ?_ | refine bA ?_ _)); exact BK352.out) hb)
       have n1_ := aK_ (lT_ (by repeat (first | (with_reducible first | exact HB.out | apply lA_ | apply pD | apply lD_ | refine lS_ ?_ GE352.out) | exact HB.out)) hb)
       clear BK352
       clear HB
       have BK352 := n0_
       have HB := n1_
       clear n0_ n1_
       (try clear hb)
       (try clear hb2)
       (try clear hk)
       (try clear hi)
       refine hK.out _ _ ⟨(bC BK352.out 0).trans rfl, (bC BK352.out 1).trans rfl, (bC BK352.out 2).trans rfl, (bC BK352.out 3).trans rfl, (bC BK352.out 4).trans rfl, (bC BK352.out 5).trans rfl, (bC BK352.out 6).trans rfl, (bC BK352.out 7).trans rfl, (bC BK352.out 8).trans rfl, (bC BK352.out 9).trans rfl, (bC BK352.out 10).trans rfl, (bC BK352.out 11).trans rfl, (bC BK352.out 12).trans rfl, (bC BK352.out 13).trans rfl, (bC BK352.out 14).trans rfl, (bC BK352.out 15).trans rfl⟩ (fun hHeld => ?_)
       clear hK K
       refine norm_ (a' := ?_) ?_ ?_
       rotate_left
       ·show Act.put _ (some 15) _ = _
        simp only [Act.put, sA_, sZ_, sS_, i64_w, i32_w]
        rfl
       refine pure_ (i := 3) (N := some 16) (v := ?_) (a' := ?_) #[true, true, true, true, true, true, false, false, false, true, true, false, false, false] rfl rfl (any_of HT_.out (by kernel_rfl)) (fun _ _ _ h => h) (Or.inl ⟨by rfl, ?_⟩) ?_ ?_
       rotate_left
       ·intro w'
        go_simp
        with_reducible rfl
       rotate_left
       ·simp only [Act.put, sA_, sZ_, sS_, i64_w, i32_w]
        rfl
       refine one_ (i := 6) (N := some 19) #[true, true, true, true, true, true, true, false, false, true, true, false, false, false] rfl rfl (one_of HT_.out (by kernel_rfl)) (by decide) (fun K hK => ?_)
       refine goes_ Tryd.func71 (by kernel_rfl) rfl #[.int .i64 a0_3] (by rfl) rfl rfl (by (try simp only [List.map_toArray, List.map_cons, List.map_nil]); first | done | rfl | (simp only [List.length_drop, List.length_take]; rfl)) ?_
       with_reducible refine (column_Op_Sign.calls a0_3 t355 _ A11.out).mono ?_
       rintro e w20 ⟨rfl, hb⟩
       refine ⟨_, rfl, ?_⟩
       have n0_ := aK_ (bB (by (with_reducible repeat (first | refine bDN ?_ _ | refine bD ?_ | refine bA ?_ _)); exact BK352.out) hb)
       have n1_ := aK_ (lT_ (by repeat (first | (with_reducible first | exact HB.out | apply lA_ | apply pD | apply lD_ | refine lS_ ?_ GE352.out) | exact HB.out)) hb)
       clear BK352
       clear HB
       have BK352 := n0_
       have HB := n1_
       clear n0_ n1_
       (try clear hb)
       (try clear hb2)
       (try clear hk)
       (try clear hi)
       refine hK.out _ _ ⟨(bC BK352.out 0).trans rfl, (bC BK352.out 1).trans rfl, (bC BK352.out 2).trans rfl, (bC BK352.out 3).trans rfl, (bC BK352.out 4).trans rfl, (bC BK352.out 5).trans rfl, (bC BK352.out 6).trans rfl, (bC BK352.out 7).trans rfl, (bC BK352.out 8).trans rfl, (bC BK352.out 9).trans rfl, (bC BK352.out 10).trans rfl, (bC BK352.out 11).trans rfl, (bC BK352.out 12).trans rfl, (bC BK352.out 13).trans rfl, (bC BK352.out 14).trans rfl, (bC BK352.out 15).trans rfl⟩ (fun hHeld => ?_)
       clear hK K
       refine norm_ (a' := ?_) ?_ ?_
       rotate_left
       ·show Act.put _ (some 19) _ = _
        simp only [Act.put, sA_, sZ_, sS_, i64_w, i32_w]
        rfl
       refine pure_ (i := 7) (N := some 20) (v := ?_) (a' := ?_) #[true, true, true, true, true, true, true, true, false, true, true, false, false, false] rfl rfl (any_of HT_.out (by kernel_rfl)) (fun _ _ _ h => h) (Or.inl ⟨by rfl, ?_⟩) ?_ ?_
       rotate_left
       ·intro w'
        go_simp
        with_reducible rfl
       rotate_left
       ·simp only [Act.put, sA_, sZ_, sS_, i64_w, i32_w]
        rfl
       refine pure_ (i := 8) (N := some 21) (v := ?_) (a' := ?_) #[true, true, true, true, true, true, true, true, true, true, true, false, false, false] rfl rfl (any_of HT_.out (by kernel_rfl)) (fun _ _ _ h => h) (Or.inl ⟨by rfl, ?_⟩) ?_ ?_
       rotate_left
       ·intro w'
        go_simp
        with_reducible rfl
       rotate_left
       ·simp only [Act.put, sA_, sZ_, sS_, i64_w, i32_w]
        rfl
       refine one_ (i := 11) (N := some 24) #[true, true, true, true, true, true, true, true, true, true, true, true, false, false] rfl rfl (one_of HT_.out (by kernel_rfl)) (by decide) (fun K hK => ?_)
       refine goes_ Tryd.func49 (by kernel_rfl) rfl #[.agg #[.int .i64 a0_7, .string a0_8, .int .i64 a0_9]] (by rfl) rfl rfl (by (try simp only [List.map_toArray, List.map_cons, List.map_nil]); first | done | rfl | (simp only [List.length_drop, List.length_take]; rfl)) ?_
       with_reducible refine (ergolaw13_text.calls k a0_7 a0_8 a0_9 t356 _ A14.out ?hGl).mono ?_
       (case hGl => exact tab_below hG (by repeat (first | (with_reducible first | exact HB.out | apply lA_ | apply pD | apply lD_ | refine lS_ ?_ GE352.out) | exact HB.out)))
       rintro e w21 ⟨rfl, hb⟩
       refine ⟨_, rfl, ?_⟩
       have n0_ := aK_ (bB (by (with_reducible repeat (first | refine bDN ?_ _ | refine bD ?_ | refine bA ?_ _)); exact BK352.out) hb)
       have n1_ := aK_ (lT_ (by repeat (first | (with_reducible first | exact HB.out | apply lA_ | apply pD | apply lD_ | refine lS_ ?_ GE352.out) | exact HB.out)) hb)
       clear BK352
       clear HB
       have BK352 := n0_
       have HB := n1_
       clear n0_ n1_
       (try clear hb)
       (try clear hb2)
       (try clear hk)
       (try clear hi)
       refine hK.out _ _ ⟨(bC BK352.out 0).trans rfl, (bC BK352.out 1).trans rfl, (bC BK352.out 2).trans rfl, (bC BK352.out 3).trans rfl, (bC BK352.out 4).trans rfl, (bC BK352.out 5).trans rfl, (bC BK352.out 6).trans rfl, (bC BK352.out 7).trans rfl, (bC BK352.out 8).trans rfl, (bC BK352.out 9).trans rfl, (bC BK352.out 10).trans rfl, (bC BK352.out 11).trans rfl, (bC BK352.out 12).trans rfl, (bC BK352.out 13).trans rfl, (bC BK352.out 14).trans rfl, (bC BK352.out 15).trans rfl⟩ (fun hHeld => ?_)
       clear hK K
       refine norm_ (a' := ?_) ?_ ?_
       rotate_left
       ·show Act.put _ (some 24) _ = _
        simp only [Act.put, sA_, sZ_, sS_, i64_w, i32_w]
        rfl
       refine pure_ (i := 12) (N := some 25) (v := ?_) (a' := ?_) #[true, true, true, true, true, true, true, true, true, true, true, true, true, false] rfl rfl (any_of HT_.out (by kernel_rfl)) (fun _ _ _ h => h) (Or.inl ⟨by rfl, ?_⟩) ?_ ?_
       rotate_left
       ·intro w'
        go_simp
        with_reducible rfl
       rotate_left
       ·simp only [Act.put, sA_, sZ_, sS_, i64_w, i32_w]
        rfl
       refine pure_ (i := 13) (N := some 2) (v := ?_) (a' := ?_) #[true, true, true, true, true, true, true, true, true, true, true, true, true, true] rfl rfl (any_of HT_.out (by kernel_rfl)) (fun _ _ _ h => h) (Or.inl ⟨by rfl, ?_⟩) ?_ ?_
       rotate_left
       ·intro w'
        go_simp
        with_reducible rfl
       rotate_left
       ·simp only [Act.put, sA_, sZ_, sS_, i64_w, i32_w]
        rfl
       refine done_ (done_of HT_.out (by kernel_rfl)) ?_
       try go_wp2
       go_ret
       exact ⟨by first | rfl | (simp [errW_none, errW_some] <;> rfl) | (simp [*, errW_none, errW_some] <;> rfl), by repeat (first | (with_reducible first | exact HB.out | apply lA_ | apply pD | apply lD_ | refine lS_ ?_ GE352.out) | exact HB.out)⟩
      ·rw [if_neg c15] at H
       exact absurd H (by simp)
     ·rw [if_neg c13] at H
      exact absurd H (by simp)
    ·rw [if_neg c12] at H
     exact absurd H (by simp)
   ·rw [if_neg c10] at H
    exact absurd H (by simp)
  ·rw [if_neg c8] at H
   have c8b0 : (a0_0 == 2) = false := beq_eq_false_iff_ne.mpr c8
   have c8b1 : (a0_0 != 2) = true := bne_iff_ne.mpr c8
   by_cases c22 : a0_0 = 3
   ·rw [if_pos c22] at H
    have c22b0 : (a0_0 == 3) = true := beq_iff_eq.mpr c22
    have c22b1 : (a0_0 != 3) = false := bne_eq_false_iff_eq.mpr c22
    clear c22
    by_cases c23 : a0_10.size + 4 ≤ 9223372036854775807
    ·rw [if_pos c23] at H
     have c23b0 := eq_true c23
     have c23b1 : decide (a0_10.size + 4 ≤ 9223372036854775807) = true := decide_eq_true c23
     try have c23b2 : (9223372036854775807 < a0_10.size + 4) = False := eq_false (Nat.not_lt.2 c23)
     replace H := Option.bind_eq_some_iff.mp H
     obtain ⟨t357, A240, H⟩ := H
     replace H : (if (a0_10 ++ (⟨#[32, 58, 61, 32]⟩ : ByteArray)).size + t357.size ≤ 9223372036854775807 then (some ((a0_10 ++ (⟨#[32, 58, 61, 32]⟩ : ByteArray)) ++ t357)) else (none)) = some r := H
     have A24 := aK_ A240
     clear A240
     by_cases c25 : (a0_10 ++ (⟨#[32, 58, 61, 32]⟩ : ByteArray)).size + t357.size ≤ 9223372036854775807
     ·rw [if_pos c25] at H
      have c25b0 := eq_true c25
      have c25b1 : decide ((a0_10 ++ (⟨#[32, 58, 61, 32]⟩ : ByteArray)).size + t357.size ≤ 9223372036854775807) = true := decide_eq_true c25
      try have c25b2 : (9223372036854775807 < (a0_10 ++ (⟨#[32, 58, 61, 32]⟩ : ByteArray)).size + t357.size) = False := eq_false (Nat.not_lt.2 c25)
      try have c25b4 : (9223372036854775807 < a0_10.size + 4 + t357.size) = False := eq_false (Nat.not_lt.2 (by have h9 := c25; simp only [ByteArray.size_append] at h9; exact h9))
      obtain rfl := Option.some.inj H
      go_enter Tryd.func50, Tryd.ntmps50
      try go_wp2_with (first | ((with_reducible refine gate_dst (N := 1) rfl ?_); refine box_event ?hg (N := 1) ?hd (cs := #[.int .i64 a0_0, .string a0_1, .slice A0_2 l0_2.length c0_2, .int .i64 a0_3, .int .i64 a0_4, .string a0_5, .int .i64 a0_6, .int .i64 a0_7, .string a0_8, .int .i64 a0_9, .string a0_10, .int .i64 a0_11, .string a0_12, .int .i64 a0_13, .int .i64 a0_14, .slice A0_15 l0_15.length c0_15]) (t := 59) ?hr ?_; (case hd => rfl); (case hg => rfl); (case hr => first | (go_simp; done) | (go_simp; rfl)); intro gb352 hg w26 hbox hb; have n0_ := aK_ (lT_ (by repeat (first | (with_reducible first | exact HB.out | apply lA_ | apply pD | apply lD_) | exact HB.out)) hb); have n1_ := aK_ (hbox); have n2_ := aK_ ((by rw [hg]; exact (lZ_ (by repeat (first | (with_reducible first | exact HB.out | apply lA_ | apply pD | apply lD_) | exact HB.out))) : w.heap.size ≤ gb352)); have n3_ := aK_ ((by rw [hg]; exact (lZ_ (by repeat (first | (with_reducible first | exact HB.out | apply lA_ | apply pD | apply lD_) | exact HB.out))) : w.heap.size ≤ gb352)); clear HB; have HB := n0_; have BK352 := n1_; have GW352 := n2_; have GE352 := n3_; clear n0_ n1_ n2_ n3_; clear hb hbox hg; have hcz27_0 : w26.cell? ⟨gb352, 0, none⟩ = some (.int .i64 a0_0) := (bC BK352.out 0).trans rfl; have hcz27_1 : w26.cell? ⟨gb352, 1, none⟩ = some (.string a0_1) := (bC BK352.out 1).trans rfl; have hcz27_2 : w26.cell? ⟨gb352, 2, none⟩ = some (.slice A0_2 l0_2.length c0_2) := (bC BK352.out 2).trans rfl; have hcz27_3 : w26.cell? ⟨gb352, 3, none⟩ = some (.int .i64 a0_3) := (bC BK352.out 3).trans rfl; have hcz27_4 : w26.cell? ⟨gb352, 4, none⟩ = some (.int .i64 a0_4) := (bC BK352.out 4).trans rfl; have hcz27_5 : w26.cell? ⟨gb352, 5, none⟩ = some (.string a0_5) := (bC BK352.out 5).trans rfl; have hcz27_6 : w26.cell? ⟨gb352, 6, none⟩ = some (.int .i64 a0_6) := (bC BK352.out 6).trans rfl; have hcz27_7 : w26.cell? ⟨gb352, 7, none⟩ = some (.int .i64 a0_7) := (bC BK352.out 7).trans rfl; have hcz27_8 : w26.cell? ⟨gb352, 8, none⟩ = some (.string a0_8) := (bC BK352.out 8).trans rfl; have hcz27_9 : w26.cell? ⟨gb352, 9, none⟩ = some (.int .i64 a0_9) := (bC BK352.out 9).trans rfl; have hcz27_10 : w26.cell? ⟨gb352, 10, none⟩ = some (.string a0_10) := (bC BK352.out 10).trans rfl; have hcz27_11 : w26.cell? ⟨gb352, 11, none⟩ = some (.int .i64 a0_11) := (bC BK352.out 11).trans rfl; have hcz27_12 : w26.cell? ⟨gb352, 12, none⟩ = some (.string a0_12) := (bC BK352.out 12).trans rfl; have hcz27_13 : w26.cell? ⟨gb352, 13, none⟩ = some (.int .i64 a0_13) := (bC BK352.out 13).trans rfl; have hcz27_14 : w26.cell? ⟨gb352, 14, none⟩ = some (.int .i64 a0_14) := (bC BK352.out 14).trans rfl; have hcz27_15 : w26.cell? ⟨gb352, 15, none⟩ = some (.slice A0_15 l0_15.length c0_15) := (bC BK352.out 15).trans rfl; have hfz27_0 := bF BK352.out 0; have hfz27_1 := bF BK352.out 1; have hfz27_2 := bF BK352.out 2; have hfz27_3 := bF BK352.out 3; have hfz27_4 := bF BK352.out 4; have hfz27_5 := bF BK352.out 5; have hfz27_6 := bF BK352.out 6; have hfz27_7 := bF BK352.out 7; have hfz27_8 := bF BK352.out 8; have hfz27_9 := bF BK352.out 9; have hfz27_10 := bF BK352.out 10; have hfz27_11 := bF BK352.out 11; have hfz27_12 := bF BK352.out 12; have hfz27_13 := bF BK352.out 13; have hfz27_14 := bF BK352.out 14; have hfz27_15 := bF BK352.out 15))
      have n0_ := aK_ (bD BK352.out)
      have n1_ := aK_ (lD_ HB.out)
      clear BK352
      clear HB
      have BK352 := n0_
      have HB := n1_
      clear n0_ n1_
      refine start_ (n := 8) (S := fun w' => w'.cell? ⟨gb352, 0, none⟩ = some (.int .i64 a0_0) ∧ w'.cell? ⟨gb352, 1, none⟩ = some (.string a0_1) ∧ w'.cell? ⟨gb352, 2, none⟩ = some (.slice A0_2 l0_2.length c0_2) ∧ w'.cell? ⟨gb352, 3, none⟩ = some (.int .i64 a0_3) ∧ w'.cell? ⟨gb352, 4, none⟩ = some (.int .i64 a0_4) ∧ w'.cell? ⟨gb352, 5, none⟩ = some (.string a0_5) ∧ w'.cell? ⟨gb352, 6, none⟩ = some (.int .i64 a0_6) ∧ w'.cell? ⟨gb352, 7, none⟩ = some (.int .i64 a0_7) ∧ w'.cell? ⟨gb352, 8, none⟩ = some (.string a0_8) ∧ w'.cell? ⟨gb352, 9, none⟩ = some (.int .i64 a0_9) ∧ w'.cell? ⟨gb352, 10, none⟩ = some (.string a0_10) ∧ w'.cell? ⟨gb352, 11, none⟩ = some (.int .i64 a0_11) ∧ w'.cell? ⟨gb352, 12, none⟩ = some (.string a0_12) ∧ w'.cell? ⟨gb352, 13, none⟩ = some (.int .i64 a0_13) ∧ w'.cell? ⟨gb352, 14, none⟩ = some (.int .i64 a0_14) ∧ w'.cell? ⟨gb352, 15, none⟩ = some (.slice A0_15 l0_15.length c0_15)) (ds := []) #[false, false, false, false, false, false, false, false] (by kernel_rfl) rfl rfl ⟨(bC BK352.out 0).trans rfl, (bC BK352.out 1).trans rfl, (bC BK352.out 2).trans rfl, (bC BK352.out 3).trans rfl, (bC BK352.out 4).trans rfl, (bC BK352.out 5).trans rfl, (bC BK352.out 6).trans rfl, (bC BK352.out 7).trans rfl, (bC BK352.out 8).trans rfl, (bC BK352.out 9).trans rfl, (bC BK352.out 10).trans rfl, (bC BK352.out 11).trans rfl, (bC BK352.out 12).trans rfl, (bC BK352.out 13).trans rfl, (bC BK352.out 14).trans rfl, (bC BK352.out 15).trans rfl⟩ (fun hHeld => ?_); refine with_tabW ergolaw13_part.tab7 ergolaw13_part.bits7 (fun HT_ HW_ => ?_)
      generalize w26.drew = w28 at BK352 HB hHeld ⊢
      refine pure_ (i := 0) (N := some 28) (v := ?_) (a' := ?_) #[true, false, false, false, false, false, false, false] rfl rfl (any_of HT_.out (by kernel_rfl)) (fun _ _ _ h => h) (Or.inl ⟨by rfl, ?_⟩) ?_ ?_
      rotate_left
      ·intro w'
       go_simp
       with_reducible rfl
      rotate_left
      ·simp only [Act.put, sA_, sZ_, sS_, i64_w, i32_w]
       rfl
      refine pure_ (i := 3) (N := some 31) (v := ?_) (a' := ?_) #[true, false, false, true, false, false, false, false] rfl rfl (any_of HT_.out (by kernel_rfl)) (fun _ _ _ h => h) (Or.inl ⟨by rfl, ?_⟩) ?_ ?_
      rotate_left
      ·intro w'
       go_simp
       with_reducible rfl
      rotate_left
      ·simp only [Act.put, sA_, sZ_, sS_, i64_w, i32_w]
       rfl
      refine take_ (i := 1) (N := some 29) (v := ?_) (a' := ?_) #[true, true, false, true, false, false, false, false] rfl rfl (take_ofW HT_.out HW_.out (by kernel_rfl)) (fun _ _ _ h => h) (Or.inl ⟨by rfl, ?_⟩) hHeld ?_ ?_
      rotate_left
      ·rintro w' ⟨s0, s1, s2, s3, s4, s5, s6, s7, s8, s9, s10, s11, s12, s13, s14, s15⟩
       go_simp
       with_reducible rfl
      rotate_left
      ·simp only [Act.put, sA_, sZ_, sS_, i64_w, i32_w]
       rfl
      refine pure_ (i := 2) (N := some 30) (v := ?_) (a' := ?_) #[true, true, true, true, false, false, false, false] rfl rfl (any_of HT_.out (by kernel_rfl)) (fun _ _ _ h => h) (Or.inl ⟨by rfl, ?_⟩) ?_ ?_
      rotate_left
      ·intro w'
       go_simp
       with_reducible rfl
      rotate_left
      ·simp only [Act.put, sA_, sZ_, sS_, i64_w, i32_w]
       rfl
      refine take_ (i := 4) (N := some 32) (v := ?_) (a' := ?_) #[true, true, true, true, true, false, false, false] rfl rfl (take_ofW HT_.out HW_.out (by kernel_rfl)) (fun _ _ _ h => h) (Or.inl ⟨by rfl, ?_⟩) hHeld ?_ ?_
      rotate_left
      ·rintro w' ⟨s0, s1, s2, s3, s4, s5, s6, s7, s8, s9, s10, s11, s12, s13, s14, s15⟩
       go_simp
       with_reducible rfl
      rotate_left
      ·simp only [Act.put, sA_, sZ_, sS_, i64_w, i32_w]
       rfl
      refine one_ (i := 5) (N := some 33) #[true, true, true, true, true, true, false, false] rfl rfl (one_of HT_.out (by kernel_rfl)) (by decide) (fun K hK => ?_)
      refine goes_ Tryd.func73 (by kernel_rfl) rfl #[.agg #[.int .i64 a0_11, .string a0_12, .int .i64 a0_13, .int .i64 a0_14, .slice A0_15 l0_15.length c0_15]] (by rfl) rfl rfl (by (try simp only [List.map_toArray, List.map_cons, List.map_nil]); first | done | rfl | (simp only [List.length_drop, List.length_take]; rfl)) ?_
      with_reducible refine (ergolaw13_expr.calls k a0_11 a0_12 a0_13 a0_14 _ _ l0_15 t357 _ ?side1 ?side2 A24.out ?hGl).mono ?_
      (case side1 => repeat (first | exact (Kd.C_below HR0_15.out HB.out) | (with_reducible refine Kd.C_alloc ?_ _) | (with_reducible refine Kd.C_drewN ?_ _) | (with_reducible refine Kd.C_drew ?_)))
      (case side2 => exact HC0_15.out)
      (case hGl => exact tab_below hG (by repeat (first | (with_reducible first | exact HB.out | apply lA_ | apply pD | apply lD_ | refine lS_ ?_ GE352.out) | exact HB.out)))
      rintro e w29 ⟨rfl, hb⟩
      refine ⟨_, rfl, ?_⟩
      have n0_ := aK_ (bB (by (with_reducible repeat (first | refine bDN ?_ _ | refine bD ?_ | refine bA ?_ _)); exact BK352.out) hb)
      have n1_ := aK_ (lT_ (by repeat (first | (with_reducible first | exact HB.out | apply lA_ | apply pD | apply lD_ | refine lS_ ?_ GE352.out) | exact HB.out)) hb)
      clear BK352
      clear HB
      have BK352 := n0_
      have HB := n1_
      clear n0_ n1_
      (try clear hb)
      (try clear hb2)
      (try clear hk)
      (try clear hi)
      refine hK.out _ _ ⟨(bC BK352.out 0).trans rfl, (bC BK352.out 1).trans rfl, (bC BK352.out 2).trans rfl, (bC BK352.out 3).trans rfl, (bC BK352.out 4).trans rfl, (bC BK352.out 5).trans rfl, (bC BK352.out 6).trans rfl, (bC BK352.out 7).trans rfl, (bC BK352.out 8).trans rfl, (bC BK352.out 9).trans rfl, (bC BK352.out 10).trans rfl, (bC BK352.out 11).trans rfl, (bC BK352.out 12).trans rfl, (bC BK352.out 13).trans rfl, (bC BK352.out 14).trans rfl, (bC BK352.out 15).trans rfl⟩ (fun hHeld => ?_)
      clear hK K
      refine norm_ (a' := ?_) ?_ ?_
      rotate_left
      ·show Act.put _ (some 33) _ = _
       simp only [Act.put, sA_, sZ_, sS_, i64_w, i32_w]
       rfl
      refine pure_ (i := 6) (N := some 34) (v := ?_) (a' := ?_) #[true, true, true, true, true, true, true, false] rfl rfl (any_of HT_.out (by kernel_rfl)) (fun _ _ _ h => h) (Or.inl ⟨by rfl, ?_⟩) ?_ ?_
      rotate_left
      ·intro w'
       go_simp
       with_reducible rfl
      rotate_left
      ·simp only [Act.put, sA_, sZ_, sS_, i64_w, i32_w]
       rfl
      refine pure_ (i := 7) (N := some 2) (v := ?_) (a' := ?_) #[true, true, true, true, true, true, true, true] rfl rfl (any_of HT_.out (by kernel_rfl)) (fun _ _ _ h => h) (Or.inl ⟨by rfl, ?_⟩) ?_ ?_
      rotate_left
      ·intro w'
       go_simp
       with_reducible rfl
      rotate_left
      ·simp only [Act.put, sA_, sZ_, sS_, i64_w, i32_w]
       rfl
      refine done_ (done_of HT_.out (by kernel_rfl)) ?_
      try go_wp2
      go_ret
      exact ⟨by first | rfl | (simp [errW_none, errW_some] <;> rfl) | (simp [*, errW_none, errW_some] <;> rfl), by repeat (first | (with_reducible first | exact HB.out | apply lA_ | apply pD | apply lD_ | refine lS_ ?_ GE352.out) | exact HB.out)⟩
     ·rw [if_neg c25] at H
      exact absurd H (by simp)
    ·rw [if_neg c23] at H
     exact absurd H (by simp)
   ·rw [if_neg c22] at H
    have c22b0 : (a0_0 == 3) = false := beq_eq_false_iff_ne.mpr c22
    have c22b1 : (a0_0 != 3) = true := bne_iff_ne.mpr c22
    replace H := Option.bind_eq_some_iff.mp H
    obtain ⟨t358, A300, H⟩ := H
    replace H : (some t358) = some r := H
    have A30 := aK_ A300
    clear A300
    obtain rfl := Option.some.inj H
    go_enter Tryd.func50, Tryd.ntmps50
    go_wp2_with (first | ((with_reducible refine gate_dst (N := 1) rfl ?_); refine box_event ?hg (N := 1) ?hd (cs := #[.int .i64 a0_0, .string a0_1, .slice A0_2 l0_2.length c0_2, .int .i64 a0_3, .int .i64 a0_4, .string a0_5, .int .i64 a0_6, .int .i64 a0_7, .string a0_8, .int .i64 a0_9, .string a0_10, .int .i64 a0_11, .string a0_12, .int .i64 a0_13, .int .i64 a0_14, .slice A0_15 l0_15.length c0_15]) (t := 59) ?hr ?_; (case hd => rfl); (case hg => rfl); (case hr => first | (go_simp; done) | (go_simp; rfl)); intro gb352 hg w31 hbox hb; have n0_ := aK_ (lT_ (by repeat (first | (with_reducible first | exact HB.out | apply lA_ | apply pD | apply lD_) | exact HB.out)) hb); have n1_ := aK_ (hbox); have n2_ := aK_ ((by rw [hg]; exact (lZ_ (by repeat (first | (with_reducible first | exact HB.out | apply lA_ | apply pD | apply lD_) | exact HB.out))) : w.heap.size ≤ gb352)); have n3_ := aK_ ((by rw [hg]; exact (lZ_ (by repeat (first | (with_reducible first | exact HB.out | apply lA_ | apply pD | apply lD_) | exact HB.out))) : w.heap.size ≤ gb352)); clear HB; have HB := n0_; have BK352 := n1_; have GW352 := n2_; have GE352 := n3_; clear n0_ n1_ n2_ n3_; clear hb hbox hg; have hcz32_0 : w31.cell? ⟨gb352, 0, none⟩ = some (.int .i64 a0_0) := (bC BK352.out 0).trans rfl; have hcz32_1 : w31.cell? ⟨gb352, 1, none⟩ = some (.string a0_1) := (bC BK352.out 1).trans rfl; have hcz32_2 : w31.cell? ⟨gb352, 2, none⟩ = some (.slice A0_2 l0_2.length c0_2) := (bC BK352.out 2).trans rfl; have hcz32_3 : w31.cell? ⟨gb352, 3, none⟩ = some (.int .i64 a0_3) := (bC BK352.out 3).trans rfl; have hcz32_4 : w31.cell? ⟨gb352, 4, none⟩ = some (.int .i64 a0_4) := (bC BK352.out 4).trans rfl; have hcz32_5 : w31.cell? ⟨gb352, 5, none⟩ = some (.string a0_5) := (bC BK352.out 5).trans rfl; have hcz32_6 : w31.cell? ⟨gb352, 6, none⟩ = some (.int .i64 a0_6) := (bC BK352.out 6).trans rfl; have hcz32_7 : w31.cell? ⟨gb352, 7, none⟩ = some (.int .i64 a0_7) := (bC BK352.out 7).trans rfl; have hcz32_8 : w31.cell? ⟨gb352, 8, none⟩ = some (.string a0_8) := (bC BK352.out 8).trans rfl; have hcz32_9 : w31.cell? ⟨gb352, 9, none⟩ = some (.int .i64 a0_9) := (bC BK352.out 9).trans rfl; have hcz32_10 : w31.cell? ⟨gb352, 10, none⟩ = some (.string a0_10) := (bC BK352.out 10).trans rfl; have hcz32_11 : w31.cell? ⟨gb352, 11, none⟩ = some (.int .i64 a0_11) := (bC BK352.out 11).trans rfl; have hcz32_12 : w31.cell? ⟨gb352, 12, none⟩ = some (.string a0_12) := (bC BK352.out 12).trans rfl; have hcz32_13 : w31.cell? ⟨gb352, 13, none⟩ = some (.int .i64 a0_13) := (bC BK352.out 13).trans rfl; have hcz32_14 : w31.cell? ⟨gb352, 14, none⟩ = some (.int .i64 a0_14) := (bC BK352.out 14).trans rfl; have hcz32_15 : w31.cell? ⟨gb352, 15, none⟩ = some (.slice A0_15 l0_15.length c0_15) := (bC BK352.out 15).trans rfl; have hfz32_0 := bF BK352.out 0; have hfz32_1 := bF BK352.out 1; have hfz32_2 := bF BK352.out 2; have hfz32_3 := bF BK352.out 3; have hfz32_4 := bF BK352.out 4; have hfz32_5 := bF BK352.out 5; have hfz32_6 := bF BK352.out 6; have hfz32_7 := bF BK352.out 7; have hfz32_8 := bF BK352.out 8; have hfz32_9 := bF BK352.out 9; have hfz32_10 := bF BK352.out 10; have hfz32_11 := bF BK352.out 11; have hfz32_12 := bF BK352.out 12; have hfz32_13 := bF BK352.out 13; have hfz32_14 := bF BK352.out 14; have hfz32_15 := bF BK352.out 15) | ((with_reducible refine gate_callee (f := 48) rfl ?_); refine goesL_ (some 37) rfl rfl Tryd.func48 (by kernel_rfl) rfl #[.agg #[.string a0_1, .slice A0_2 l0_2.length c0_2]] rfl (by (try simp only [List.map_toArray, List.map_cons, List.map_nil]); first | done | rfl | (simp only [List.length_drop, List.length_take]; rfl)) ?_; (with_reducible refine (ergolaw13_atom.calls k a0_1 _ _ l0_2 t358 _ ?side1 ?side2 A30.out ?hGl).mono ?_); (case side1 => repeat (first | exact (Kd.C_below HR0_2.out HB.out) | (with_reducible refine Kd.C_alloc ?_ _) | (with_reducible refine Kd.C_drewN ?_ _) | (with_reducible refine Kd.C_drew ?_))); (case side2 => exact HC0_2.out); (case hGl => exact tab_below hG (by repeat (first | (with_reducible first | exact HB.out | apply lA_ | apply pD | apply lD_ | refine lS_ ?_ GE352.out) | exact HB.out))); rintro e w33 ⟨rfl, hb⟩; refine ⟨_, rfl, ?_⟩; have n0_ := aK_ (bB (by (with_reducible repeat (first | refine bDN ?_ _ | refine bD ?_ | refine bA ?_ _)); exact BK352.out) hb); have n1_ := aK_ (lT_ (by repeat (first | (with_reducible first | exact HB.out | apply lA_ | apply pD | apply lD_ | refine lS_ ?_ GE352.out) | exact HB.out)) hb); clear BK352; clear HB; have BK352 := n0_; have HB := n1_; clear n0_ n1_; (try clear hb); (try clear hb2); (try clear hk); (try clear hi)))
    go_ret
    exact ⟨by first | rfl | (simp [errW_none, errW_some] <;> rfl) | (simp [*, errW_none, errW_some] <;> rfl), by repeat (first | (with_reducible first | exact HB.out | apply lA_ | apply pD | apply lD_ | refine lS_ ?_ GE352.out) | exact HB.out)⟩
end Go.Proofs.YtdbpboipiceifaaDoorPSP
