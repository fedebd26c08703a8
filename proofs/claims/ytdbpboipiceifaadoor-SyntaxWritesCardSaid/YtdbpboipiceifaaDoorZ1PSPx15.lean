import Derived.Test.YtdbpboipiceifaaDoorZ1PSPx0
import Derived.Test.YtdbpboipiceifaaDoorZ1PSPx12
import Derived.Test.YtdbpboipiceifaaDoorZ1PSPx14
namespace Go.Proofs.YtdbpboipiceifaaDoorPSP
open Go.RowKit Go.Proofs.YtdbpboipiceifaaDoorW.PrintWords Go.Proofs.YtdbpboipiceifaaDoorW.PrintLast Go.Proofs.YtdbpboipiceifaaDoorW.PrintMore
attribute [local go_sem] max2_int min2_int max_two min_two max_three min_three max_four min_four   -- for this text's walks alone
set_option linter.unusedVariables false
set_option linter.unusedSimpArgs false
mutual
def syntax_Rule_String.j0 : Nat → ByteArray → Int → Bool → ByteArray → List (S53) → Int → List (S59) → Int → Option (ByteArray)
 | 0, _, _, _, _, _, _, _, _ => none
 | k + 1, x3, x4, x24, x407000, x407001, x407002, x407003, x407004 => if x24 = true then (if 0 ≤ (wrap64 (x4 - 1)) then (if (wrap64 (x4 - 1)) ≤ (x407001.length : Int) then ((some (x407001.take ((wrap64 (x4 - 1)) : Int).toNat : List (S53))).bind fun y408 => (syntax_Rule_String.l0 k x4 ([] : List ByteArray) y408 (y408.length : Int) 0 x407000 x407001 x407002 x407003 x407004)) else (none)) else (none)) else (syntax_Rule_String.j2 k x3 x407000 x407001 x407002 x407003 x407004)
def syntax_Rule_String.j2 : Nat → ByteArray → ByteArray → List (S53) → Int → List (S59) → Int → Option (ByteArray)
 | 0, _, _, _, _, _, _ => none
 | k + 1, x3, x407000, x407001, x407002, x407003, x407004 => syntax_Rule_String.l1 k x3 ([] : List ByteArray) x407003 (x407003.length : Int) 0
def syntax_Rule_String.l1 : Nat → ByteArray → List ByteArray → List (S59) → Int → Int → Option (ByteArray)
 | 0, _, _, _, _, _ => none
 | k + 1, x3, x8, x68, x69, x70 => if x70 < x69 then (if 0 ≤ x70 then (if x70 < (x68.length : Int) then ((syntax_Part_String.f k ((rd_T59 x68 x70).f0) ((rd_T59 x68 x70).f1.f0) ((rd_T59 x68 x70).f1.f1) ((rd_T59 x68 x70).f2) ((rd_T59 x68 x70).f3.f0) ((rd_T59 x68 x70).f3.f1) ((rd_T59 x68 x70).f3.f2) ((rd_T59 x68 x70).f4.f0) ((rd_T59 x68 x70).f4.f1) ((rd_T59 x68 x70).f4.f2) ((rd_T59 x68 x70).f5) ((rd_T59 x68 x70).f6.f0.f0) ((rd_T59 x68 x70).f6.f0.f1) ((rd_T59 x68 x70).f6.f0.f2) ((rd_T59 x68 x70).f6.f1) ((rd_T59 x68 x70).f6.f2)).bind fun t427 => (if x8.length < 8796093022208 then (syntax_Rule_String.l1 k x3 (x8 ++ [t427]) x68 x69 (wrap64 (x70 + 1))) else (none))) else (none)) else (none)) else (if (x8.length : Int) > 0 then ((strings_Join.f x8 (⟨#[44, 32]⟩ : ByteArray)).bind fun t431 => (if 4 + t431.size ≤ 9223372036854775807 then (if x3.size + ((⟨#[32, 58, 45, 32]⟩ : ByteArray) ++ t431).size ≤ 9223372036854775807 then (if (x3 ++ ((⟨#[32, 58, 45, 32]⟩ : ByteArray) ++ t431)).size + 1 ≤ 9223372036854775807 then (some ((x3 ++ ((⟨#[32, 58, 45, 32]⟩ : ByteArray) ++ t431)) ++ (⟨#[46]⟩ : ByteArray))) else (none)) else (none)) else (none))) else (if x3.size + 1 ≤ 9223372036854775807 then (some (x3 ++ (⟨#[46]⟩ : ByteArray))) else (none)))
def syntax_Rule_String.l0 : Nat → Int → List ByteArray → List (S53) → Int → Int → ByteArray → List (S53) → Int → List (S59) → Int → Option (ByteArray)
 | 0, _, _, _, _, _, _, _, _, _, _ => none
 | k + 1, x4, x5, x30, x31, x32, x407000, x407001, x407002, x407003, x407004 => if x32 < x31 then (if 0 ≤ x32 then (if x32 < (x30.length : Int) then ((syntax_Term_String.f k ((rd_T53 x30 x32).f0) ((rd_T53 x30 x32).f1) ((rd_T53 x30 x32).f2)).bind fun t414 => (if x5.length < 8796093022208 then (syntax_Rule_String.l0 k x4 (x5 ++ [t414]) x30 x31 (wrap64 (x32 + 1)) x407000 x407001 x407002 x407003 x407004) else (none))) else (none)) else (none)) else ((group_Agg_Word.f x407002).bind fun t418 => (if t418.size + 1 ≤ 9223372036854775807 then (if 0 ≤ (wrap64 (x4 - 1)) then (if (wrap64 (x4 - 1)) < (x407001.length : Int) then ((syntax_Term_String.f k ((rd_T53 x407001 (wrap64 (x4 - 1))).f0) ((rd_T53 x407001 (wrap64 (x4 - 1))).f1) ((rd_T53 x407001 (wrap64 (x4 - 1))).f2)).bind fun t420 => (if (t418 ++ (⟨#[60]⟩ : ByteArray)).size + t420.size ≤ 9223372036854775807 then (if ((t418 ++ (⟨#[60]⟩ : ByteArray)) ++ t420).size + 1 ≤ 9223372036854775807 then (if x5.length < 8796093022208 then (if x407000.size + 1 ≤ 9223372036854775807 then ((strings_Join.f (x5 ++ [((t418 ++ (⟨#[60]⟩ : ByteArray)) ++ t420) ++ (⟨#[62]⟩ : ByteArray)]) (⟨#[44]⟩ : ByteArray)).bind fun t424 => (if (x407000 ++ (⟨#[40]⟩ : ByteArray)).size + t424.size ≤ 9223372036854775807 then (if ((x407000 ++ (⟨#[40]⟩ : ByteArray)) ++ t424).size + 1 ≤ 9223372036854775807 then (syntax_Rule_String.j2 k (((x407000 ++ (⟨#[40]⟩ : ByteArray)) ++ t424) ++ (⟨#[41]⟩ : ByteArray)) x407000 x407001 x407002 x407003 x407004) else (none)) else (none))) else (none)) else (none)) else (none)) else (none))) else (none)) else (none)) else (none)))
end
def syntax_Rule_String.f (k : Nat) (a0_0 : ByteArray) (l0_1 : List (S53)) (a0_2 : Int) (l0_3 : List (S59)) (a0_4 : Int) : Option (ByteArray) := (syntax_Atom_String.f k a0_0 l0_1).bind fun t407 => (if (l0_1.length : Int) > 0 then (syntax_Rule_String.j0 k t407 (l0_1.length : Int) (a0_2 != 0) a0_0 l0_1 a0_2 l0_3 a0_4) else (syntax_Rule_String.j0 k t407 (l0_1.length : Int) false a0_0 l0_1 a0_2 l0_3 a0_4))
def syntax_Rule_String.T10 : Bool × List (List Nat × List Nat) := (true, [([], []), ([], []), ([1], [1]), ([2], [2]), ([3], [3]), ([], []), ([5], [5]), ([6], [6]), ([], []), ([8], [8]), ([7, 9], [7, 9]), ([10], [10]), ([11, 3], [11]), ([4, 12], [4, 12]), ([13], [13]), ([14], [14]), ([0, 15, 12], [0, 15]), ([16, 16, 0, 1, 2, 3, 4, 5, 6, 7, 8, 9, 10, 11, 12, 13, 14, 15, 16], [0, 16])])
def syntax_Rule_String.B10 : List Nat := [0, 0, 2, 6, 14, 0, 32, 96, 0, 256, 992, 2016, 4078, 8190, 16382, 32766, 65535, 131071]
theorem syntax_Rule_String.tab10 : rtab .any (opsOf Tryd.f24 10) = syntax_Rule_String.T10 := by kernel_rfl
theorem syntax_Rule_String.bits10 : waitsOk syntax_Rule_String.T10.2 syntax_Rule_String.B10 = true := by kernel_rfl
def syntax_Rule_String.T11 : Bool × List (List Nat × List Nat) := (true, [([], []), ([0], [0]), ([1], [1]), ([2], [2]), ([], []), ([4], [4]), ([3, 5], [3, 5]), ([6], [6]), ([7, 5, 0, 1, 2, 3, 4, 5, 6, 7], [7])])
def syntax_Rule_String.B11 : List Nat := [0, 1, 3, 7, 0, 16, 63, 127, 255]
theorem syntax_Rule_String.tab11 : rtab .any (opsOf Tryd.f24 11) = syntax_Rule_String.T11 := by kernel_rfl
theorem syntax_Rule_String.bits11 : waitsOk syntax_Rule_String.T11.2 syntax_Rule_String.B11 = true := by kernel_rfl
set_option maxHeartbeats 8000000 in
set_option maxRecDepth 100000 in
theorem syntax_Rule_String.calls (k : Nat) (a0_0 : ByteArray) (A0_1 : Option Addr) (c0_1 : Nat) (l0_1 : List (S53)) (a0_2 : Int) (A0_3 : Option Addr) (c0_3 : Nat) (l0_3 : List (S59)) (a0_4 : Int) (r : ByteArray) (w : World) (hr0_1 : Kd.C k53 w A0_1 l0_1.length l0_1) (hc0_1 : l0_1.length ≤ c0_1) (hr0_3 : Kd.C k59 w A0_3 l0_3.length l0_3) (hc0_3 : l0_3.length ≤ c0_3) (h : syntax_Rule_String.f k a0_0 l0_1 a0_2 l0_3 a0_4 = some r) (hG : Go.Proofs.YtdbpboipiceifaaDoor.TabT w) :
  Calls Tryd.prog 24 #[.agg #[.string a0_0, .slice A0_1 l0_1.length c0_1, .int .i64 a0_2, .slice A0_3 l0_3.length c0_3, .int .i64 a0_4]] w fun e w' => e = .returned (.string r) ∧ Below w.heap.size w w' := by
 have hu43 := Tryd.underlying43
 have hu39 := Tryd.underlying39
 have hu53 := Tryd.underlying53
 have hu59 := Tryd.underlying59
 have HR0_1 := aK_ hr0_1
 have HC0_1 := aK_ hc0_1
 clear hr0_1 hc0_1
 have HR0_3 := aK_ hr0_3
 have HC0_3 := aK_ hc0_3
 clear hr0_3 hc0_3
 have HB := aK_ (Below.refl w.heap.size w)
 have H : ((syntax_Atom_String.f k a0_0 l0_1).bind fun t407 => (if (l0_1.length : Int) > 0 then (syntax_Rule_String.j0 k t407 (l0_1.length : Int) (a0_2 != 0) a0_0 l0_1 a0_2 l0_3 a0_4) else (syntax_Rule_String.j0 k t407 (l0_1.length : Int) false a0_0 l0_1 a0_2 l0_3 a0_4))) = some r := h
 clear h
 replace H := Option.bind_eq_some_iff.mp H
 obtain ⟨t407, A20, H⟩ := H
 replace H : (if (l0_1.length : Int) > 0 then (syntax_Rule_String.j0 k t407 (l0_1.length : Int) (a0_2 != 0) a0_0 l0_1 a0_2 l0_3 a0_4) else (syntax_Rule_String.j0 k t407 (l0_1.length : Int) false a0_0 l0_1 a0_2 l0_3 a0_4)) = some r := H
 have A2 := aK_ A20
 clear A20
 have HC3 := aK_ H
 clear H
 go_enter Tryd.func24, Tryd.ntmps24
 go_upto_region 3 with (first | ((with_reducible refine gate_dst (N := 1) rfl ?_); refine box_event ?hg (N := 1) ?hd (cs := #[.string a0_0, .slice A0_1 l0_1.length c0_1, .int .i64 a0_2, .slice A0_3 l0_3.length c0_3, .int .i64 a0_4]) (t := 43) ?hr ?_; (case hd => rfl); (case hg => rfl); (case hr => first | (go_simp; done) | (go_simp; rfl)); intro gb406 hg w4 hbox hb; have n0_ := aK_ (lT_ (by repeat (first | (with_reducible first | exact HB.out | apply lA_ | apply pD | apply lD_) | exact HB.out)) hb); have n1_ := aK_ (hbox); have n2_ := aK_ ((by rw [hg]; exact (lZ_ (by repeat (first | (with_reducible first | exact HB.out | apply lA_ | apply pD | apply lD_) | exact HB.out))) : w.heap.size ≤ gb406)); have n3_ := aK_ ((by rw [hg]; exact (lZ_ (by repeat (first | (with_reducible first | exact HB.out | apply lA_ | apply pD | apply lD_) | exact HB.out))) : w.heap.size ≤ gb406)); clear HB; have HB := n0_; have BK406 := n1_; have GW406 := n2_; have GE406 := n3_; clear n0_ n1_ n2_ n3_; clear hb hbox hg; have hcz5_0 : w4.cell? ⟨gb406, 0, none⟩ = some (.string a0_0) := (bC BK406.out 0).trans rfl; have hcz5_1 : w4.cell? ⟨gb406, 1, none⟩ = some (.slice A0_1 l0_1.length c0_1) := (bC BK406.out 1).trans rfl; have hcz5_2 : w4.cell? ⟨gb406, 2, none⟩ = some (.int .i64 a0_2) := (bC BK406.out 2).trans rfl; have hcz5_3 : w4.cell? ⟨gb406, 3, none⟩ = some (.slice A0_3 l0_3.length c0_3) := (bC BK406.out 3).trans rfl; have hcz5_4 : w4.cell? ⟨gb406, 4, none⟩ = some (.int .i64 a0_4) := (bC BK406.out 4).trans rfl; have hfz5_0 := bF BK406.out 0; have hfz5_1 := bF BK406.out 1; have hfz5_2 := bF BK406.out 2; have hfz5_3 := bF BK406.out 3; have hfz5_4 := bF BK406.out 4) | ((with_reducible refine gate_callee (f := 43) rfl ?_); refine goesL_ (some 13) rfl rfl Tryd.func43 (by kernel_rfl) rfl #[.agg #[.string a0_0, .slice A0_1 l0_1.length c0_1]] rfl (by (try simp only [List.map_toArray, List.map_cons, List.map_nil]); first | done | rfl | (simp only [List.length_drop, List.length_take]; rfl)) ?_; (with_reducible refine (syntax_Atom_String.calls k a0_0 _ _ l0_1 t407 _ ?side1 ?side2 A2.out ?hGl).mono ?_); (case side1 => repeat (first | exact (Kd.C_below HR0_1.out HB.out) | (with_reducible refine Kd.C_alloc ?_ _) | (with_reducible refine Kd.C_drewN ?_ _) | (with_reducible refine Kd.C_drew ?_))); (case side2 => exact HC0_1.out); (case hGl => exact tab_below hG (by repeat (first | (with_reducible first | exact HB.out | apply lA_ | apply pD | apply lD_ | refine lS_ ?_ GE406.out) | exact HB.out))); rintro e w6 ⟨rfl, hb⟩; refine ⟨_, rfl, ?_⟩; have n0_ := aK_ (bB (by (with_reducible repeat (first | refine bDN ?_ _ | refine bD ?_ | refine bA ?_ _)); exact BK406.out) hb); have n1_ := aK_ (lT_ (by repeat (first | (with_reducible first | exact HB.out | apply lA_ | apply pD | apply lD_ | refine lS_ ?_ GE406.out) | exact HB.out)) hb); clear BK406; clear HB; have BK406 := n0_; have HB := n1_; clear n0_ n1_; (try clear hb); (try clear hb2); (try clear hk); (try clear hi); have hcz7_0 : w6.cell? ⟨gb406, 0, none⟩ = some (.string a0_0) := (bC BK406.out 0).trans rfl; have hcz7_1 : w6.cell? ⟨gb406, 1, none⟩ = some (.slice A0_1 l0_1.length c0_1) := (bC BK406.out 1).trans rfl; have hcz7_2 : w6.cell? ⟨gb406, 2, none⟩ = some (.int .i64 a0_2) := (bC BK406.out 2).trans rfl; have hcz7_3 : w6.cell? ⟨gb406, 3, none⟩ = some (.slice A0_3 l0_3.length c0_3) := (bC BK406.out 3).trans rfl; have hcz7_4 : w6.cell? ⟨gb406, 4, none⟩ = some (.int .i64 a0_4) := (bC BK406.out 4).trans rfl; have hfz7_0 := bF BK406.out 0; have hfz7_1 := bF BK406.out 1; have hfz7_2 := bF BK406.out 2; have hfz7_3 := bF BK406.out 3; have hfz7_4 := bF BK406.out 4))
 (try simp only [Act.put, sA_, sZ_, sS_])
 go_cut [24] (fun v24 wc => ∃ (kq : Nat) (x24_2 : Bool), v24 = .bool x24_2 ∧ Aside0 (syntax_Rule_String.j0 kq t407 (l0_1.length : Int) x24_2 a0_0 l0_1 a0_2 l0_3 a0_4 = some r) ∧ Aside0 (kq ≤ k) ∧ Aside0 (wc.heap[gb406]? = some (.cells #[.string a0_0, (.slice A0_1 l0_1.length c0_1), .int .i64 a0_2, (.slice A0_3 l0_3.length c0_3), .int .i64 a0_4] 43 (0, 0))) ∧ Aside0 (Below w.heap.size w wc))
 case first =>
  have H := HC3.out
  clear HC3
  by_cases c8 : (l0_1.length : Int) > 0
  ·rw [if_pos c8] at H
   have c8b0 : decide (0 < (l0_1.length : Int)) = true := decide_eq_true c8
   have c8b1 : decide (0 < l0_1.length) = true := decide_eq_true (by omega)
   clear c8
   (first | rw [c8b0] | (simp only [i64_w, i32_w]; rw [c8b0]) | skip)
   have H' := aK_ H
   clear H
   have hcz9_0 : w6.cell? ⟨gb406, 0, none⟩ = some (.string a0_0) := (bC BK406.out 0).trans rfl
   have hcz9_1 : w6.cell? ⟨gb406, 1, none⟩ = some (.slice A0_1 l0_1.length c0_1) := (bC BK406.out 1).trans rfl
   have hcz9_2 : w6.cell? ⟨gb406, 2, none⟩ = some (.int .i64 a0_2) := (bC BK406.out 2).trans rfl
   have hcz9_3 : w6.cell? ⟨gb406, 3, none⟩ = some (.slice A0_3 l0_3.length c0_3) := (bC BK406.out 3).trans rfl
   have hcz9_4 : w6.cell? ⟨gb406, 4, none⟩ = some (.int .i64 a0_4) := (bC BK406.out 4).trans rfl
   have hfz9_0 := bF BK406.out 0
   have hfz9_1 := bF BK406.out 1
   have hfz9_2 := bF BK406.out 2
   have hfz9_3 := bF BK406.out 3
   have hfz9_4 := bF BK406.out 4
   go_wp2
   go_meet
   case rel => exact ⟨_, ((a0_2 != 0)), (by first | rfl | (simp; done) | (simp [*]; done)), H', ⟨by first | omega | exact Nat.le_refl _⟩, ⟨by (with_reducible repeat (first | refine bDN ?_ _ | refine bD ?_ | refine bA ?_ _)); exact BK406.out⟩, ⟨by repeat (first | (with_reducible first | exact HB.out | apply lA_ | apply pD | apply lD_ | refine lS_ ?_ GE406.out) | exact HB.out)⟩⟩
  ·rw [if_neg c8] at H
   have c8b0 : decide (0 < (l0_1.length : Int)) = false := decide_eq_false c8
   have c8b1 : decide (0 < l0_1.length) = false := decide_eq_false (by omega)
   clear c8
   (first | rw [c8b0] | (simp only [i64_w, i32_w]; rw [c8b0]) | skip)
   have H' := aK_ H
   clear H
   go_wp2
   go_meet
   case rel => exact ⟨_, (false), (by first | rfl | (simp; done) | (simp [*]; done)), H', ⟨by first | omega | exact Nat.le_refl _⟩, ⟨by (with_reducible repeat (first | refine bDN ?_ _ | refine bD ?_ | refine bA ?_ _)); exact BK406.out⟩, ⟨by repeat (first | (with_reducible first | exact HB.out | apply lA_ | apply pD | apply lD_ | refine lS_ ?_ GE406.out) | exact HB.out)⟩⟩
 case rest =>
  clear HC3
  try clear c2
  try clear p2
  try clear c4
  try clear c8
  try clear c8b0
  try clear c8b1
  try clear hcz5_0
  try clear hcz5_1
  try clear hcz5_2
  try clear hcz5_3
  try clear hcz5_4
  try clear hcz7_0
  try clear hcz7_1
  try clear hcz7_2
  try clear hcz7_3
  try clear hcz7_4
  try clear hcz9_0
  try clear hcz9_1
  try clear hcz9_2
  try clear hcz9_3
  try clear hcz9_4
  try clear hfz5_0
  try clear hfz5_1
  try clear hfz5_2
  try clear hfz5_3
  try clear hfz5_4
  try clear hfz7_0
  try clear hfz7_1
  try clear hfz7_2
  try clear hfz7_3
  try clear hfz7_4
  try clear hfz9_0
  try clear hfz9_1
  try clear hfz9_2
  try clear hfz9_3
  try clear hfz9_4
  obtain ⟨kq, x24_2, rfl, HA, HJ2, BK406, HB⟩ := hcut
  cases kq with
  | zero => exact absurd HA.out (by simp [syntax_Rule_String.j0])
  | succ kj2 =>
   have H := HA.out
   clear HA
   simp only [syntax_Rule_String.j0] at H
   have HC10 := aK_ H
   clear H
   go_upto_if 24 with (fail)
   go_cut [3] (fun v3 wc => ∃ (kq : Nat) (x3_9 : ByteArray), v3 = .string x3_9 ∧ Aside0 (syntax_Rule_String.j2 kq x3_9 a0_0 l0_1 a0_2 l0_3 a0_4 = some r) ∧ Aside0 (kq ≤ kj2) ∧ Aside0 (wc.heap[gb406]? = some (.cells #[.string a0_0, (.slice A0_1 l0_1.length c0_1), .int .i64 a0_2, (.slice A0_3 l0_3.length c0_3), .int .i64 a0_4] 43 (0, 0))) ∧ Aside0 (Below w.heap.size w wc))
   case first =>
    have H := HC10.out
    clear HC10
    by_cases c11 : x24_2 = true
    ·subst c11
     have H1 : (if 0 ≤ (wrap64 ((l0_1.length : Int) - 1)) then (if (wrap64 ((l0_1.length : Int) - 1)) ≤ (l0_1.length : Int) then ((some (l0_1.take ((wrap64 ((l0_1.length : Int) - 1)) : Int).toNat : List (S53))).bind fun y408 => (syntax_Rule_String.l0 kj2 (l0_1.length : Int) ([] : List ByteArray) y408 (y408.length : Int) 0 a0_0 l0_1 a0_2 l0_3 a0_4)) else (none)) else (none)) = some r := by rw [if_pos rfl] at H; exact H
     clear H
     have H := H1
     clear H1
     obtain ⟨ji12, hji12⟩ : ∃ j_ : Int, (wrap64 ((l0_1.length : Int) - 1)) = j_ := ⟨_, rfl⟩
     replace H : (if 0 ≤ (ji12) then (if (ji12) ≤ (l0_1.length : Int) then ((some (l0_1.take ((ji12) : Int).toNat : List (S53))).bind fun y408 => (syntax_Rule_String.l0 kj2 (l0_1.length : Int) ([] : List ByteArray) y408 (y408.length : Int) 0 a0_0 l0_1 a0_2 l0_3 a0_4)) else (none)) else (none)) = some r := by first | (rw [hji12] at H; exact H) | (simp only [hji12] at H ⊢; exact H)
     have hji12w : (IntKind.i64.wrap ((l0_1.length : Int) - 1)) = ji12 := (i64_w _).trans hji12
     by_cases c13 : 0 ≤ (ji12)
     ·rw [if_pos c13] at H
      have c13b0 := eq_true c13
      have c13b1 : decide (0 ≤ (ji12)) = true := decide_eq_true c13
      clear c13
      by_cases c14 : (ji12) ≤ (l0_1.length : Int)
      ·rw [if_pos c14] at H
       have c14b0 := eq_true c14
       have c14b1 : decide ((ji12) ≤ (l0_1.length : Int)) = true := decide_eq_true c14
       clear c14
       obtain ⟨y408, hy408⟩ : ∃ y_ : List (S53), y_ = (l0_1.take ((ji12) : Int).toNat) := ⟨_, rfl⟩
       replace H : (syntax_Rule_String.l0 kj2 (l0_1.length : Int) ([] : List ByteArray) y408 (y408.length : Int) 0 a0_0 l0_1 a0_2 l0_3 a0_4) = some r := by first | (rw [hy408]; with_reducible exact H) | (have H2_ := (Option.bind_some _ _).symm.trans H; rw [hy408]; with_reducible exact H2_) | (have H2_ := (Option.bind_some _ _).symm.trans H; with_reducible exact H2_) | with_reducible exact H | (rw [hy408]; exact H) | exact H
       have Ny408 := aK_ hy408
       clear hy408
       have H' := aK_ H
       clear H
       have hcz15_0 : wc.cell? ⟨gb406, 0, none⟩ = some (.string a0_0) := (bC BK406.out 0).trans rfl
       have hcz15_1 : wc.cell? ⟨gb406, 1, none⟩ = some (.slice A0_1 l0_1.length c0_1) := (bC BK406.out 1).trans rfl
       have hcz15_2 : wc.cell? ⟨gb406, 2, none⟩ = some (.int .i64 a0_2) := (bC BK406.out 2).trans rfl
       have hcz15_3 : wc.cell? ⟨gb406, 3, none⟩ = some (.slice A0_3 l0_3.length c0_3) := (bC BK406.out 3).trans rfl
       have hcz15_4 : wc.cell? ⟨gb406, 4, none⟩ = some (.int .i64 a0_4) := (bC BK406.out 4).trans rfl
       have hfz15_0 := bF BK406.out 0
       have hfz15_1 := bF BK406.out 1
       have hfz15_2 := bF BK406.out 2
       have hfz15_3 := bF BK406.out 3
       have hfz15_4 := bF BK406.out 4
       have q16 : ((ji12) : Int) ≤ ((l0_1.length : Int) : Int) := of_decide_eq_true (by first | (with_reducible assumption) | assumption)
       obtain ⟨i016, hi016, _, hsz16, _⟩ := info_parts info53
       have hroom16 : l0_1.length ≤ c0_1 := HC0_1.out
       have hC16 : Kd.C k53 _ A0_1 l0_1.length l0_1 := HR0_1.out
       have hcut16 := cut_to (P := Tryd.prog) 37 53 .i64 Tryd.underlying37 hi016 A0_1 l0_1.length c0_1 (ji12) (of_decide_eq_true (by first | (with_reducible assumption) | assumption)) q16 hroom16
       have hr16 := Kd.C_take (m := ((ji12) : Int).toNat) hC16 (by omega)
       have hy16 : y408.length = ((ji12) : Int).toNat := (by rw [Ny408.out, List.length_take]; omega)
       rw [← Ny408.out] at hr16
       rw [← hy16] at hcut16
       have HR411 := aK_ hr16
       have HC411 := aK_ (show y408.length ≤ c0_1 from by omega)
       clear hr16 hC16 hroom16 hi016 hsz16
       have KY16 := aK_ hy16
       clear hy16
       replace q16 := eq_true q16
       go_wp2
       go_loopg [5, 32] kj2 (fun kq v5 v32 w' => ∃ (x5_2 : List ByteArray) (x32_2 : Int), v32 = .int .i64 x32_2 ∧ Aside0 (syntax_Rule_String.l0 kq (l0_1.length : Int) x5_2 y408 (y408.length : Int) x32_2 a0_0 l0_1 a0_2 l0_3 a0_4 = some r) ∧ Aside0 (kq ≤ kj2) ∧ Aside0 (Kd.R Kd.string 9 w' w.heap.size (fun _ => True) v5 x5_2) ∧ Aside0 (w'.heap[gb406]? = some (.cells #[.string a0_0, (.slice A0_1 l0_1.length c0_1), .int .i64 a0_2, (.slice A0_3 l0_3.length c0_3), .int .i64 a0_4] 43 (0, 0))) ∧ Aside0 (Below w.heap.size w w'))
       case atStart => exact ⟨(([] : List ByteArray)), (0), (by first | rfl | (simp; done) | (simp [*]; done)), H', ⟨Nat.le_refl _⟩, ⟨by first | exact Kd.R_nil _ _ _ _ _ | exact Kd.N_nil _ _ _ _ _ | exact Kd.V_nil _ _ _ _ _ | exact Kd.Q_nil _ _ _ _ _ | exact Kd.S_nil _ _ _ _ _⟩, ⟨by (with_reducible repeat (first | refine bDN ?_ _ | refine bD ?_ | refine bA ?_ _)); exact BK406.out⟩, ⟨by repeat (first | (with_reducible first | exact HB.out | apply lA_ | apply pD | apply lD_ | refine lS_ ?_ GE406.out) | exact HB.out)⟩⟩
       case round =>
        clear H'
        try clear c1
        try clear q1
        try clear c2
        try clear p2
        try clear c4
        try clear p6
        try clear c8
        try clear c8b0
        try clear c8b1
        try clear c11
        try clear c13
        try clear c13b0
        try clear c13b1
        try clear c14
        try clear c14b0
        try clear c14b1
        try clear q16
        try clear hcz15_0
        try clear hcz15_1
        try clear hcz15_2
        try clear hcz15_3
        try clear hcz15_4
        try clear hcz5_0
        try clear hcz5_1
        try clear hcz5_2
        try clear hcz5_3
        try clear hcz5_4
        try clear hcz7_0
        try clear hcz7_1
        try clear hcz7_2
        try clear hcz7_3
        try clear hcz7_4
        try clear hcz9_0
        try clear hcz9_1
        try clear hcz9_2
        try clear hcz9_3
        try clear hcz9_4
        try clear hfz15_0
        try clear hfz15_1
        try clear hfz15_2
        try clear hfz15_3
        try clear hfz15_4
        try clear hfz5_0
        try clear hfz5_1
        try clear hfz5_2
        try clear hfz5_3
        try clear hfz5_4
        try clear hfz7_0
        try clear hfz7_1
        try clear hfz7_2
        try clear hfz7_3
        try clear hfz7_4
        try clear hfz9_0
        try clear hfz9_1
        try clear hfz9_2
        try clear hfz9_3
        try clear hfz9_4
        try clear p2
        try clear q16
        obtain ⟨x5_2, x32_2, rfl, HA, HK2, HO_5, BK406, HB⟩ := hrel
        cases gk with
        | zero => exact absurd HA.out (by simp [syntax_Rule_String.l0])
        | succ k2 =>
         have H := HA.out
         clear HA
         simp only [syntax_Rule_String.l0] at H
         by_cases c17 : x32_2 < (y408.length : Int)
         ·rw [if_pos c17] at H
          have c17b0 : decide (x32_2 < (y408.length : Int)) = true := decide_eq_true c17
          clear c17
          (first | rw [c17b0] | (simp only [i64_w, i32_w]; rw [c17b0]) | skip)
          by_cases c18 : 0 ≤ x32_2
          ·rw [if_pos c18] at H
           have c18b0 : decide (0 ≤ x32_2) = true := decide_eq_true c18
           clear c18
           by_cases c19 : x32_2 < (y408.length : Int)
           ·rw [if_pos c19] at H
            have c19b0 : decide (x32_2 < (y408.length : Int)) = true := decide_eq_true c19
            clear c19
            replace H := Option.bind_eq_some_iff.mp H
            obtain ⟨t414, A200, H⟩ := H
            replace H : (if x5_2.length < 8796093022208 then (syntax_Rule_String.l0 k2 (l0_1.length : Int) (x5_2 ++ [t414]) y408 (y408.length : Int) (wrap64 (x32_2 + 1)) a0_0 l0_1 a0_2 l0_3 a0_4) else (none)) = some r := H
            have A20 := aK_ A200
            clear A200
            by_cases c21 : x5_2.length < 8796093022208
            ·rw [if_pos c21] at H
             have LMc21 := aK_ c21
             clear c21
             obtain ⟨y415, hy415⟩ : ∃ y_ : List ByteArray, y_ = (x5_2 ++ [t414]) := ⟨_, rfl⟩
             replace H : (syntax_Rule_String.l0 k2 (l0_1.length : Int) y415 y408 (y408.length : Int) (wrap64 (x32_2 + 1)) a0_0 l0_1 a0_2 l0_3 a0_4) = some r := by first | (rw [hy415]; with_reducible exact H) | (have H2_ := (Option.bind_some _ _).symm.trans H; rw [hy415]; with_reducible exact H2_) | (have H2_ := (Option.bind_some _ _).symm.trans H; with_reducible exact H2_) | with_reducible exact H | (rw [hy415]; exact H) | exact H
             have Ny415 := aK_ hy415
             clear hy415
             have H' := aK_ H
             clear H
             have p412 : 0 ≤ (x32_2 : Int) := of_decide_eq_true (by first | (with_reducible assumption) | assumption)
             have q412 : x32_2 < (y408.length : Int) := of_decide_eq_true (by first | (with_reducible assumption) | assumption)
             obtain ⟨ad412, e412, hx412_0, hx412_1, hx412_2⟩ := at_T53 HR411.out x32_2 p412 q412
             cases e412
             replace hx412_0 := (HB.out.cell (wb_ w _ hx412_0)).trans hx412_0
             replace hx412_1 := (HB.out.cell (wb_ w _ hx412_1)).trans hx412_1
             replace hx412_2 := (HB.out.cell (wb_ w _ hx412_2)).trans hx412_2
             replace p412 := eq_true p412
             replace q412 := eq_true q412
             go_wp2_with (first | ((with_reducible refine gate_dst (N := 7) rfl ?_); refine box_event ?hg (N := 7) ?hd (cs := #[.int .i64 0, .string (⟨#[]⟩ : ByteArray), .int .i64 0]) (t := 53) ?hr ?_; (case hd => rfl); (case hg => rfl); (case hr => first | (go_simp; done) | (go_simp; rfl)); intro gb413 hg w22 hbox hb; have n0_ := aK_ (Kd.R_below (by (with_reducible repeat (first | apply Kd.R_alloc | apply Kd.R_drewN | apply Kd.R_drew)); exact HO_5.out) hb); have n1_ := aK_ (bB (by (with_reducible repeat (first | refine bDN ?_ _ | refine bD ?_ | refine bA ?_ _)); exact BK406.out) hb); have n2_ := aK_ (lT_ (by repeat (first | (with_reducible first | exact HB.out | apply lA_ | apply pD | apply lD_ | refine lS_ ?_ GE406.out) | exact HB.out)) hb); have n3_ := aK_ (hbox); have n4_ := aK_ ((by rw [hg]; exact (lZ_ (by repeat (first | (with_reducible first | exact HB.out | apply lA_ | apply pD | apply lD_ | refine lS_ ?_ GE406.out) | exact HB.out))) : w.heap.size ≤ gb413)); have n5_ := aK_ ((by rw [hg]; exact (lZ_ (by repeat (first | (with_reducible first | exact HB.out | apply lA_ | apply pD | apply lD_ | refine lS_ ?_ GE406.out) | exact HB.out))) : w.heap.size ≤ gb413)); have n6_ := aK_ ((by rw [hg]; exact Nat.ne_of_lt (blk_lt (g := gb406) (o := .cells #[.string a0_0, .slice (some ad412) l0_1.length c0_1, .int .i64 a0_2, .slice A0_3 l0_3.length c0_3, .int .i64 a0_4] 43 (0, 0)) (by (with_reducible repeat (first | refine bDN ?_ _ | refine bD ?_ | refine bA ?_ _)); exact BK406.out)) : gb406 ≠ gb413)); have n7_ := aK_ ((by rw [hg]; exact Nat.ne_of_gt (blk_lt (g := gb406) (o := .cells #[.string a0_0, .slice (some ad412) l0_1.length c0_1, .int .i64 a0_2, .slice A0_3 l0_3.length c0_3, .int .i64 a0_4] 43 (0, 0)) (by (with_reducible repeat (first | refine bDN ?_ _ | refine bD ?_ | refine bA ?_ _)); exact BK406.out)) : gb413 ≠ gb406)); clear HO_5; clear BK406; clear HB; have HO_5 := n0_; have BK406 := n1_; have HB := n2_; have BK413 := n3_; have GW413 := n4_; have GE413 := n5_; have NB406_413 := n6_; have NB413_406 := n7_; clear n0_ n1_ n2_ n3_ n4_ n5_ n6_ n7_; clear hb hbox hg; have hnb23 := NB413_406.out; have hnc23 := NB406_413.out; have hcz24_0 : w22.cell? ⟨gb413, 0, none⟩ = some (.int .i64 0) := (bC BK413.out 0).trans rfl; have hcz24_1 : w22.cell? ⟨gb413, 1, none⟩ = some (.string (⟨#[]⟩ : ByteArray)) := (bC BK413.out 1).trans rfl; have hcz24_2 : w22.cell? ⟨gb413, 2, none⟩ = some (.int .i64 0) := (bC BK413.out 2).trans rfl; have hfz24_0 := bF BK413.out 0; have hfz24_1 := bF BK413.out 1; have hfz24_2 := bF BK413.out 2) | ((with_reducible refine gate_callee (f := 44) rfl ?_); refine goesL_ (some 38) rfl rfl Tryd.func44 (by kernel_rfl) rfl #[.agg #[.int .i64 ((rd_T53 y408 x32_2).f0), .string ((rd_T53 y408 x32_2).f1), .int .i64 ((rd_T53 y408 x32_2).f2)]] rfl (by (try simp only [List.map_toArray, List.map_cons, List.map_nil]); first | done | rfl | (simp only [List.length_drop, List.length_take]; rfl)) ?_; (with_reducible refine (syntax_Term_String.calls k2 ((rd_T53 y408 x32_2).f0) ((rd_T53 y408 x32_2).f1) ((rd_T53 y408 x32_2).f2) t414 _ A20.out ?hGl).mono ?_); (case hGl => exact tab_below hG (by repeat (first | (with_reducible first | exact HB.out | apply lA_ | apply pD | apply lD_ | refine lS_ ?_ GE406.out | refine lS_ ?_ GE413.out) | exact HB.out))); rintro e w25 ⟨rfl, hb⟩; refine ⟨_, rfl, ?_⟩; have n0_ := aK_ (Kd.R_below (by (with_reducible repeat (first | apply Kd.R_alloc | apply Kd.R_drewN | apply Kd.R_drew)); exact (Kd.R_mono (Kd.R_far (p := ⟨gb413, 2, none⟩) (Kd.R_far (p := ⟨gb413, 1, none⟩) (Kd.R_far (p := ⟨gb413, 0, none⟩) (Kd.R_types HO_5.out BK413.out (by decide)) (fun _ hk => hk.2) (.int .i64 ((rd_T53 y408 x32_2).f0))) (fun _ hk => hk.2) (.string ((rd_T53 y408 x32_2).f1))) (fun _ hk => hk.2) (.int .i64 ((rd_T53 y408 x32_2).f2))) (fun _ h_ => h_.1))) hb); have n1_ := aK_ (bB (g := gb406) (o := .cells #[.string a0_0, .slice (some ad412) l0_1.length c0_1, .int .i64 a0_2, .slice A0_3 l0_3.length c0_3, .int .i64 a0_4] 43 (0, 0)) (by (with_reducible repeat (first | refine bDN ?_ _ | refine bD ?_ | refine bA ?_ _)); refine blk_far ?_ NB406_413.out _; (with_reducible repeat (first | refine bDN ?_ _ | refine bD ?_ | refine bA ?_ _)); refine blk_far ?_ NB406_413.out _; (with_reducible repeat (first | refine bDN ?_ _ | refine bD ?_ | refine bA ?_ _)); refine blk_far ?_ NB406_413.out _; (with_reducible repeat (first | refine bDN ?_ _ | refine bD ?_ | refine bA ?_ _)); exact BK406.out) hb); have n2_ := aK_ (bB (g := gb413) (o := .cells #[.int .i64 ((rd_T53 y408 x32_2).f0), .string ((rd_T53 y408 x32_2).f1), .int .i64 ((rd_T53 y408 x32_2).f2)] 53 (0, 0)) ((by apply eC_; (with_reducible repeat (first | refine bDN ?_ _ | refine bD ?_ | refine bA ?_ _)); apply b2_; (with_reducible repeat (first | refine bDN ?_ _ | refine bD ?_ | refine bA ?_ _)); apply b2_; (with_reducible repeat (first | refine bDN ?_ _ | refine bD ?_ | refine bA ?_ _)); apply b2_; (with_reducible repeat (first | refine bDN ?_ _ | refine bD ?_ | refine bA ?_ _)); exact BK413.out; kernel_rfl)) hb); have n3_ := aK_ (lT_ (by repeat (first | (with_reducible first | exact HB.out | apply lA_ | apply pD | apply lD_ | refine lS_ ?_ GE406.out | refine lS_ ?_ GE413.out) | exact HB.out)) hb); clear HO_5; clear BK406; clear BK413; clear HB; have HO_5 := n0_; have BK406 := n1_; have BK413 := n2_; have HB := n3_; clear n0_ n1_ n2_ n3_; (try clear hb); (try clear hb2); (try clear hk); (try clear hi)) | ((with_reducible refine gate_builtin (b := .append) (xs := #[.tmp 36, .tmp 39]) rfl ?_); at_builtin; refine Kd.R_append Kd.string (w0 := w) w.heap.size rfl (.tmp 36) (.tmp 39) 45 9 (.string ⟨#[]⟩) 16 rfl Tryd.underlying45 info9 rfl (by decide) (by omega) u5 x5_2 t414 [.string t414] (fun _ => True) (fun _ => False) rfl rfl ?aP (fun _ hk => hk.elim) ?aF ?aO ?aB ?aS ?aL ?_; (case aP => exact rfl); (case aB => exact (by repeat (first | (with_reducible first | exact HB.out | apply lA_ | apply pD | apply lD_ | refine lS_ ?_ GE406.out | refine lS_ ?_ GE413.out) | exact HB.out))); (case aF => exact (fun _ _ => trivial)); (case aO => exact (by (with_reducible repeat (first | apply Kd.R_alloc | apply Kd.R_drewN | apply Kd.R_drew)); exact HO_5.out)); (case aS => exact (lZ_ (by repeat (first | (with_reducible first | exact HB.out | apply lA_ | apply pD | apply lD_ | refine lS_ ?_ GE406.out | refine lS_ ?_ GE413.out) | exact HB.out)))); (case aL => have := LMc21.out; omega); intro v416 w26 ho hb hg hat; rw [← Ny415.out] at ho; have n0_ := aK_ (bG_ (g := gb406) (o := .cells #[.string a0_0, .slice (some ad412) l0_1.length c0_1, .int .i64 a0_2, .slice A0_3 l0_3.length c0_3, .int .i64 a0_4] 43 (0, 0)) (by (with_reducible repeat (first | refine bDN ?_ _ | refine bD ?_ | refine bA ?_ _)); exact BK406.out) hg (Kd.R_ne HO_5.out BK406.out (by decide))); have n1_ := aK_ (bG_ (g := gb413) (o := .cells #[.int .i64 ((rd_T53 y408 x32_2).f0), .string ((rd_T53 y408 x32_2).f1), .int .i64 ((rd_T53 y408 x32_2).f2)] 53 (0, 0)) (by (with_reducible repeat (first | refine bDN ?_ _ | refine bD ?_ | refine bA ?_ _)); exact BK413.out) hg (Kd.R_ne HO_5.out BK413.out (by decide))); have n2_ := aK_ (hb); have n3_ := aK_ (ho); clear BK406; clear BK413; clear HB; clear HO_5; have BK406 := n0_; have BK413 := n1_; have HB := n2_; have HO417 := n3_; clear n0_ n1_ n2_ n3_; clear ho hb hg hat))
             go_roundg k2
             case measure => have := HJ2.out; have := HK2.out; omega
             case rel => exact ⟨(y415), (wrap64 (x32_2 + 1)), (by first | rfl | (simp; done) | (simp [*]; done)), H', ⟨by have := HJ2.out; have := HK2.out; omega⟩, ⟨by (with_reducible repeat (first | apply Kd.R_alloc | apply Kd.R_drewN | apply Kd.R_drew)); exact HO417.out⟩, ⟨by (with_reducible repeat (first | refine bDN ?_ _ | refine bD ?_ | refine bA ?_ _)); exact BK406.out⟩, ⟨by repeat (first | (with_reducible first | exact HB.out | apply lA_ | apply pD | apply lD_ | refine lS_ ?_ GE406.out | refine lS_ ?_ GE413.out) | exact HB.out)⟩⟩
            ·rw [if_neg c21] at H
             exact absurd H (by simp)
           ·rw [if_neg c19] at H
            exact absurd H (by simp)
          ·rw [if_neg c18] at H
           exact absurd H (by simp)
         ·rw [if_neg c17] at H
          have c17b0 : decide (x32_2 < (y408.length : Int)) = false := decide_eq_false c17
          clear c17
          (first | rw [c17b0] | (simp only [i64_w, i32_w]; rw [c17b0]) | skip)
          replace H := Option.bind_eq_some_iff.mp H
          obtain ⟨t418, A270, H⟩ := H
          replace H : (if t418.size + 1 ≤ 9223372036854775807 then (if 0 ≤ (wrap64 ((l0_1.length : Int) - 1)) then (if (wrap64 ((l0_1.length : Int) - 1)) < (l0_1.length : Int) then ((syntax_Term_String.f k2 ((rd_T53 l0_1 (wrap64 ((l0_1.length : Int) - 1))).f0) ((rd_T53 l0_1 (wrap64 ((l0_1.length : Int) - 1))).f1) ((rd_T53 l0_1 (wrap64 ((l0_1.length : Int) - 1))).f2)).bind fun t420 => (if (t418 ++ (⟨#[60]⟩ : ByteArray)).size + t420.size ≤ 9223372036854775807 then (if ((t418 ++ (⟨#[60]⟩ : ByteArray)) ++ t420).size + 1 ≤ 9223372036854775807 then (if x5_2.length < 8796093022208 then (if a0_0.size + 1 ≤ 9223372036854775807 then ((strings_Join.f (x5_2 ++ [((t418 ++ (⟨#[60]⟩ : ByteArray)) ++ t420) ++ (⟨#[62]⟩ : ByteArray)]) (⟨#[44]⟩ : ByteArray)).bind fun t424 => (if (a0_0 ++ (⟨#[40]⟩ : ByteArray)).size + t424.size ≤ 9223372036854775807 then (if ((a0_0 ++ (⟨#[40]⟩ : ByteArray)) ++ t424).size + 1 ≤ 9223372036854775807 then (syntax_Rule_String.j2 k2 (((a0_0 ++ (⟨#[40]⟩ : ByteArray)) ++ t424) ++ (⟨#[41]⟩ : ByteArray)) a0_0 l0_1 a0_2 l0_3 a0_4) else (none)) else (none))) else (none)) else (none)) else (none)) else (none))) else (none)) else (none)) else (none)) = some r := H
          have A27 := aK_ A270
          clear A270
          by_cases c28 : t418.size + 1 ≤ 9223372036854775807
          ·rw [if_pos c28] at H
           have c28b0 := eq_true c28
           have c28b1 : decide (t418.size + 1 ≤ 9223372036854775807) = true := decide_eq_true c28
           try have c28b2 : (9223372036854775807 < t418.size + 1) = False := eq_false (Nat.not_lt.2 c28)
           obtain ⟨ji29, hji29⟩ : ∃ j_ : Int, (wrap64 ((l0_1.length : Int) - 1)) = j_ := ⟨_, rfl⟩
           replace H : (if 0 ≤ (ji29) then (if (ji29) < (l0_1.length : Int) then ((syntax_Term_String.f k2 ((rd_T53 l0_1 (ji29)).f0) ((rd_T53 l0_1 (ji29)).f1) ((rd_T53 l0_1 (ji29)).f2)).bind fun t420 => (if (t418 ++ (⟨#[60]⟩ : ByteArray)).size + t420.size ≤ 9223372036854775807 then (if ((t418 ++ (⟨#[60]⟩ : ByteArray)) ++ t420).size + 1 ≤ 9223372036854775807 then (if x5_2.length < 8796093022208 then (if a0_0.size + 1 ≤ 9223372036854775807 then ((strings_Join.f (x5_2 ++ [((t418 ++ (⟨#[60]⟩ : ByteArray)) ++ t420) ++ (⟨#[62]⟩ : ByteArray)]) (⟨#[44]⟩ : ByteArray)).bind fun t424 => (if (a0_0 ++ (⟨#[40]⟩ : ByteArray)).size + t424.size ≤ 9223372036854775807 then (if ((a0_0 ++ (⟨#[40]⟩ : ByteArray)) ++ t424).size + 1 ≤ 9223372036854775807 then (syntax_Rule_String.j2 k2 (((a0_0 ++ (⟨#[40]⟩ : ByteArray)) ++ t424) ++ (⟨#[41]⟩ : ByteArray)) a0_0 l0_1 a0_2 l0_3 a0_4) else (none)) else (none))) else (none)) else (none)) else (none)) else (none))) else (none)) else (none)) = some r := by first | (rw [hji29] at H; exact H) | (simp only [hji29] at H ⊢; exact H)
           (try rw [hji29] at A27)
           have hji29w : (IntKind.i64.wrap ((l0_1.length : Int) - 1)) = ji29 := (i64_w _).trans hji29
           try clear hji12w
           try clear hji12
           by_cases c30 : 0 ≤ (ji29)
           ·rw [if_pos c30] at H
            have c30b0 : decide (0 ≤ (ji29)) = true := decide_eq_true c30
            clear c30
            by_cases c31 : (ji29) < (l0_1.length : Int)
            ·rw [if_pos c31] at H
             have c31b0 : decide ((ji29) < (l0_1.length : Int)) = true := decide_eq_true c31
             clear c31
             replace H := Option.bind_eq_some_iff.mp H
             obtain ⟨t420, A320, H⟩ := H
             replace H : (if (t418 ++ (⟨#[60]⟩ : ByteArray)).size + t420.size ≤ 9223372036854775807 then (if ((t418 ++ (⟨#[60]⟩ : ByteArray)) ++ t420).size + 1 ≤ 9223372036854775807 then (if x5_2.length < 8796093022208 then (if a0_0.size + 1 ≤ 9223372036854775807 then ((strings_Join.f (x5_2 ++ [((t418 ++ (⟨#[60]⟩ : ByteArray)) ++ t420) ++ (⟨#[62]⟩ : ByteArray)]) (⟨#[44]⟩ : ByteArray)).bind fun t424 => (if (a0_0 ++ (⟨#[40]⟩ : ByteArray)).size + t424.size ≤ 9223372036854775807 then (if ((a0_0 ++ (⟨#[40]⟩ : ByteArray)) ++ t424).size + 1 ≤ 9223372036854775807 then (syntax_Rule_String.j2 k2 (((a0_0 ++ (⟨#[40]⟩ : ByteArray)) ++ t424) ++ (⟨#[41]⟩ : ByteArray)) a0_0 l0_1 a0_2 l0_3 a0_4) else (none)) else (none))) else (none)) else (none)) else (none)) else (none)) = some r := H
             have A32 := aK_ A320
             clear A320
             by_cases c33 : (t418 ++ (⟨#[60]⟩ : ByteArray)).size + t420.size ≤ 9223372036854775807
             ·rw [if_pos c33] at H
              have c33b0 := eq_true c33
              have c33b1 : decide ((t418 ++ (⟨#[60]⟩ : ByteArray)).size + t420.size ≤ 9223372036854775807) = true := decide_eq_true c33
              try have c33b2 : (9223372036854775807 < (t418 ++ (⟨#[60]⟩ : ByteArray)).size + t420.size) = False := eq_false (Nat.not_lt.2 c33)
              try have c33b4 : (9223372036854775807 < t418.size + 1 + t420.size) = False := eq_false (Nat.not_lt.2 (by have h9 := c33; simp only [ByteArray.size_append] at h9; exact h9))
              by_cases c34 : ((t418 ++ (⟨#[60]⟩ : ByteArray)) ++ t420).size + 1 ≤ 9223372036854775807
              ·rw [if_pos c34] at H
               have c34b0 := eq_true c34
               have c34b1 : decide (((t418 ++ (⟨#[60]⟩ : ByteArray)) ++ t420).size + 1 ≤ 9223372036854775807) = true := decide_eq_true c34
               try have c34b2 : (9223372036854775807 < ((t418 ++ (⟨#[60]⟩ : ByteArray)) ++ t420).size + 1) = False := eq_false (Nat.not_lt.2 c34)
               try have c34b4 : (9223372036854775807 < t418.size + 1 + t420.size + 1) = False := eq_false (Nat.not_lt.2 (by have h9 := c34; simp only [ByteArray.size_append] at h9; exact h9))
               by_cases c35 : x5_2.length < 8796093022208
               ·rw [if_pos c35] at H
                have LMc35 := aK_ c35
                clear c35
                obtain ⟨y421, hy421⟩ : ∃ y_ : List ByteArray, y_ = (x5_2 ++ [((t418 ++ (⟨#[60]⟩ : ByteArray)) ++ t420) ++ (⟨#[62]⟩ : ByteArray)]) := ⟨_, rfl⟩
                replace H : (if a0_0.size + 1 ≤ 9223372036854775807 then ((strings_Join.f y421 (⟨#[44]⟩ : ByteArray)).bind fun t424 => (if (a0_0 ++ (⟨#[40]⟩ : ByteArray)).size + t424.size ≤ 9223372036854775807 then (if ((a0_0 ++ (⟨#[40]⟩ : ByteArray)) ++ t424).size + 1 ≤ 9223372036854775807 then (syntax_Rule_String.j2 k2 (((a0_0 ++ (⟨#[40]⟩ : ByteArray)) ++ t424) ++ (⟨#[41]⟩ : ByteArray)) a0_0 l0_1 a0_2 l0_3 a0_4) else (none)) else (none))) else (none)) = some r := by first | (rw [hy421]; with_reducible exact H) | (have H2_ := (Option.bind_some _ _).symm.trans H; rw [hy421]; with_reducible exact H2_) | (have H2_ := (Option.bind_some _ _).symm.trans H; with_reducible exact H2_) | with_reducible exact H | (rw [hy421]; exact H) | exact H
                have Ny421 := aK_ hy421
                clear hy421
                by_cases c36 : a0_0.size + 1 ≤ 9223372036854775807
                ·rw [if_pos c36] at H
                 have c36b0 := eq_true c36
                 have c36b1 : decide (a0_0.size + 1 ≤ 9223372036854775807) = true := decide_eq_true c36
                 try have c36b2 : (9223372036854775807 < a0_0.size + 1) = False := eq_false (Nat.not_lt.2 c36)
                 replace H := Option.bind_eq_some_iff.mp H
                 obtain ⟨t424, A370, H⟩ := H
                 replace H : (if (a0_0 ++ (⟨#[40]⟩ : ByteArray)).size + t424.size ≤ 9223372036854775807 then (if ((a0_0 ++ (⟨#[40]⟩ : ByteArray)) ++ t424).size + 1 ≤ 9223372036854775807 then (syntax_Rule_String.j2 k2 (((a0_0 ++ (⟨#[40]⟩ : ByteArray)) ++ t424) ++ (⟨#[41]⟩ : ByteArray)) a0_0 l0_1 a0_2 l0_3 a0_4) else (none)) else (none)) = some r := H
                 have A37 := aK_ A370
                 clear A370
                 by_cases c38 : (a0_0 ++ (⟨#[40]⟩ : ByteArray)).size + t424.size ≤ 9223372036854775807
                 ·rw [if_pos c38] at H
                  have c38b0 := eq_true c38
                  have c38b1 : decide ((a0_0 ++ (⟨#[40]⟩ : ByteArray)).size + t424.size ≤ 9223372036854775807) = true := decide_eq_true c38
                  try have c38b2 : (9223372036854775807 < (a0_0 ++ (⟨#[40]⟩ : ByteArray)).size + t424.size) = False := eq_false (Nat.not_lt.2 c38)
                  try have c38b4 : (9223372036854775807 < a0_0.size + 1 + t424.size) = False := eq_false (Nat.not_lt.2 (by have h9 := c38; simp only [ByteArray.size_append] at h9; exact h9))
                  by_cases c39 : ((a0_0 ++ (⟨#[40]⟩ : ByteArray)) ++ t424).size + 1 ≤ 9223372036854775807
                  ·rw [if_pos c39] at H
                   have c39b0 := eq_true c39
                   have c39b1 : decide (((a0_0 ++ (⟨#[40]⟩ : ByteArray)) ++ t424).size + 1 ≤ 9223372036854775807) = true := decide_eq_true c39
                   try have c39b2 : (9223372036854775807 < ((a0_0 ++ (⟨#[40]⟩ : ByteArray)) ++ t424).size + 1) = False := eq_false (Nat.not_lt.2 c39)
                   try have c39b4 : (9223372036854775807 < a0_0.size + 1 + t424.size + 1) = False := eq_false (Nat.not_lt.2 (by have h9 := c39; simp only [ByteArray.size_append] at h9; exact h9))
                   have H' := aK_ H
                   clear H
                   try go_wp2
                   have n0_ := aK_ (Kd.R_drew HO_5.out)
                   have n1_ := aK_ (bD BK406.out)
                   have n2_ := aK_ (lD_ HB.out)
                   clear HO_5
                   clear BK406
                   clear HB
                   have HO_5 := n0_
                   have BK406 := n1_
                   have HB := n2_
                   clear n0_ n1_ n2_
                   have p419 : 0 ≤ ((ji29) : Int) := of_decide_eq_true (by first | (with_reducible assumption) | assumption)
                   have q419 : (ji29) < (l0_1.length : Int) := of_decide_eq_true (by first | (with_reducible assumption) | assumption)
                   obtain ⟨ad419, e419, hx419_0, hx419_1, hx419_2⟩ := at_T53 HR0_1.out (ji29) p419 q419
                   have hw419_2 := hx419_2
                   have hw419_1 := hx419_1
                   have hw419_0 := hx419_0
                   cases e419
                   replace hx419_0 := (HB.out.cell (wb_ w _ hx419_0)).trans hx419_0
                   replace hx419_1 := (HB.out.cell (wb_ w _ hx419_1)).trans hx419_1
                   replace hx419_2 := (HB.out.cell (wb_ w _ hx419_2)).trans hx419_2
                   replace p419 := eq_true p419
                   replace q419 := eq_true q419
                   refine start_ (n := 18) (S := fun w' => w'.cell? ⟨gb406, 0, none⟩ = some (.string a0_0) ∧ w'.cell? ⟨gb406, 1, none⟩ = some (.slice (some ad419) l0_1.length c0_1) ∧ w'.cell? ⟨gb406, 2, none⟩ = some (.int .i64 a0_2) ∧ w'.cell? ⟨gb406, 3, none⟩ = some (.slice A0_3 l0_3.length c0_3) ∧ w'.cell? ⟨gb406, 4, none⟩ = some (.int .i64 a0_4) ∧ w'.cell? (ad419.add (((ji29)).toNat * 3)) = some (.int .i64 ((rd_T53 l0_1 (ji29)).f0)) ∧ w'.cell? ⟨(ad419.add (((ji29)).toNat * 3)).block, (ad419.add (((ji29)).toNat * 3)).off + 1, none⟩ = some (.string ((rd_T53 l0_1 (ji29)).f1)) ∧ w'.cell? ⟨(ad419.add (((ji29)).toNat * 3)).block, (ad419.add (((ji29)).toNat * 3)).off + 2, none⟩ = some (.int .i64 ((rd_T53 l0_1 (ji29)).f2))) (ds := []) #[false, false, false, false, false, false, false, false, false, false, false, false, false, false, false, false, false, false] (by kernel_rfl) rfl rfl ⟨(bC BK406.out 0).trans rfl, (bC BK406.out 1).trans rfl, (bC BK406.out 2).trans rfl, (bC BK406.out 3).trans rfl, (bC BK406.out 4).trans rfl, ((HB.out.cell (wb_ w _ hw419_0)).trans hw419_0), ((HB.out.cell (wb_ w _ hw419_1)).trans hw419_1), ((HB.out.cell (wb_ w _ hw419_2)).trans hw419_2)⟩ (fun hHeld => ?_); refine with_tabW syntax_Rule_String.tab10 syntax_Rule_String.bits10 (fun HT_ HW_ => ?_)
                   generalize wr.drew = w40 at HO_5 BK406 HB hx419_0 hx419_1 hx419_2 hHeld ⊢
                   refine pure_ (i := 0) (N := some 42) (v := ?_) (a' := ?_) #[true, false, false, false, false, false, false, false, false, false, false, false, false, false, false, false, false, false] rfl rfl (any_of HT_.out (by kernel_rfl)) (fun _ _ _ h => h) (Or.inl ⟨by rfl, ?_⟩) ?_ ?_
                   rotate_left
                   ·intro w'
                    go_simp
                    with_reducible rfl
                   rotate_left
                   ·simp only [Act.put, sA_, sZ_, sS_, i64_w, i32_w]
                    rfl
                   refine pure_ (i := 1) (N := some 43) (v := ?_) (a' := ?_) #[true, true, false, false, false, false, false, false, false, false, false, false, false, false, false, false, false, false] rfl rfl (any_of HT_.out (by kernel_rfl)) (fun _ _ _ h => h) (Or.inl ⟨by rfl, ?_⟩) ?_ ?_
                   rotate_left
                   ·intro w'
                    go_simp
                    with_reducible rfl
                   rotate_left
                   ·simp only [Act.put, sA_, sZ_, sS_, i64_w, i32_w]
                    rfl
                   refine pure_ (i := 5) (N := some 47) (v := ?_) (a' := ?_) #[true, true, false, false, false, true, false, false, false, false, false, false, false, false, false, false, false, false] rfl rfl (any_of HT_.out (by kernel_rfl)) (fun _ _ _ h => h) (Or.inl ⟨by rfl, ?_⟩) ?_ ?_
                   rotate_left
                   ·intro w'
                    go_simp
                    with_reducible rfl
                   rotate_left
                   ·simp only [Act.put, sA_, sZ_, sS_, i64_w, i32_w]
                    rfl
                   refine pure_ (i := 6) (N := some 48) (v := ?_) (a' := ?_) #[true, true, false, false, false, true, true, false, false, false, false, false, false, false, false, false, false, false] rfl rfl (any_of HT_.out (by kernel_rfl)) (fun _ _ _ h => h) (Or.inl ⟨by rfl, ?_⟩) ?_ ?_
                   rotate_left
                   ·intro w'
                    go_simp
                    with_reducible rfl
                   rotate_left
                   ·simp only [Act.put, sA_, sZ_, sS_, i64_w, i32_w]
                    rfl
                   refine pure_ (i := 8) (N := some 50) (v := ?_) (a' := ?_) #[true, true, false, false, false, true, true, false, true, false, false, false, false, false, false, false, false, false] rfl rfl (any_of HT_.out (by kernel_rfl)) (fun _ _ _ h => h) (Or.inl ⟨by rfl, ?_⟩) ?_ ?_
                   rotate_left
                   ·intro w'
                    go_simp
                    with_reducible rfl
                   rotate_left
                   ·simp only [Act.put, sA_, sZ_, sS_, i64_w, i32_w]
                    rfl
                   refine pure_ (i := 9) (N := some 51) (v := ?_) (a' := ?_) #[true, true, false, false, false, true, true, false, true, true, false, false, false, false, false, false, false, false] rfl rfl (any_of HT_.out (by kernel_rfl)) (fun _ _ _ h => h) (Or.inl ⟨by rfl, ?_⟩) ?_ ?_
                   rotate_left
                   ·intro w'
                    go_simp
                    with_reducible rfl
                   rotate_left
                   ·simp only [Act.put, sA_, sZ_, sS_, i64_w, i32_w]
                    rfl
                   refine take_ (i := 2) (N := some 44) (v := ?_) (a' := ?_) #[true, true, true, false, false, true, true, false, true, true, false, false, false, false, false, false, false, false] rfl rfl (take_ofW HT_.out HW_.out (by kernel_rfl)) (fun _ _ _ h => h) (Or.inl ⟨by rfl, ?_⟩) hHeld ?_ ?_
                   rotate_left
                   ·rintro w' ⟨s0, s1, s2, s3, s4, s5, s6, s7⟩
                    go_simp
                    with_reducible rfl
                   rotate_left
                   ·simp only [Act.put, sA_, sZ_, sS_, i64_w, i32_w]
                    rfl
                   refine take_ (i := 7) (N := some 49) (v := ?_) (a' := ?_) #[true, true, true, false, false, true, true, true, true, true, false, false, false, false, false, false, false, false] rfl rfl (take_ofW HT_.out HW_.out (by kernel_rfl)) (fun _ _ _ h => h) (Or.inl ⟨by rfl, ?_⟩) hHeld ?_ ?_
                   rotate_left
                   ·rintro w' ⟨s0, s1, s2, s3, s4, s5, s6, s7⟩
                    go_simp
                    with_reducible rfl
                   rotate_left
                   ·simp only [Act.put, sA_, sZ_, sS_, i64_w, i32_w]
                    rfl
                   refine pure_ (i := 10) (N := some 52) (v := ?_) (a' := ?_) #[true, true, true, false, false, true, true, true, true, true, true, false, false, false, false, false, false, false] rfl rfl (any_of HT_.out (by kernel_rfl)) (fun _ _ _ h => h) (Or.inl ⟨by rfl, ?_⟩) ?_ ?_
                   rotate_left
                   ·intro w'
                    go_simp
                    with_reducible rfl
                   rotate_left
                   ·simp only [Act.put, sA_, sZ_, sS_, i64_w, i32_w]
                    rfl
                   refine take_ (i := 11) (N := some 53) (v := ?_) (a' := ?_) #[true, true, true, false, false, true, true, true, true, true, true, true, false, false, false, false, false, false] rfl rfl (take_ofW HT_.out HW_.out (by kernel_rfl)) (fun _ _ _ h => h) (Or.inl ⟨by rfl, ?_⟩) hHeld ?_ ?_
                   rotate_left
                   ·rintro w' ⟨s0, s1, s2, s3, s4, s5, s6, s7⟩
                    go_simp
                    with_reducible rfl
                   rotate_left
                   ·simp only [Act.put, sA_, sZ_, sS_, i64_w, i32_w]
                    rfl
                   refine one_ (i := 3) (N := some 45) #[true, true, true, true, false, true, true, true, true, true, true, true, false, false, false, false, false, false] rfl rfl (one_of HT_.out (by kernel_rfl)) (by decide) (fun K hK => ?_)
                   refine goes_ Tryd.func45 (by kernel_rfl) rfl #[.int .i64 a0_2] (by rfl) rfl rfl (by (try simp only [List.map_toArray, List.map_cons, List.map_nil]); first | done | rfl | (simp only [List.length_drop, List.length_take]; rfl)) ?_
                   with_reducible refine (group_Agg_Word.calls a0_2 t418 _ A27.out).mono ?_
                   rintro e w41 ⟨rfl, hb⟩
                   refine ⟨_, rfl, ?_⟩
                   have n0_ := aK_ (Kd.R_below (by (with_reducible repeat (first | apply Kd.R_alloc | apply Kd.R_drewN | apply Kd.R_drew)); exact HO_5.out) hb)
                   have n1_ := aK_ (bB (by (with_reducible repeat (first | refine bDN ?_ _ | refine bD ?_ | refine bA ?_ _)); exact BK406.out) hb)
                   have n2_ := aK_ (lT_ (by repeat (first | (with_reducible first | exact HB.out | apply lA_ | apply pD | apply lD_ | refine lS_ ?_ GE406.out) | exact HB.out)) hb)
                   clear HO_5
                   clear BK406
                   clear HB
                   have HO_5 := n0_
                   have BK406 := n1_
                   have HB := n2_
                   clear n0_ n1_ n2_
                   (try clear hb)
                   (try clear hb2)
                   (try clear hk)
                   (try clear hi)
                   refine hK.out _ _ ⟨(bC BK406.out 0).trans rfl, (bC BK406.out 1).trans rfl, (bC BK406.out 2).trans rfl, (bC BK406.out 3).trans rfl, (bC BK406.out 4).trans rfl, ((HB.out.cell (wb_ w _ hw419_0)).trans hw419_0), ((HB.out.cell (wb_ w _ hw419_1)).trans hw419_1), ((HB.out.cell (wb_ w _ hw419_2)).trans hw419_2)⟩ (fun hHeld => ?_)
                   clear hK K
                   refine norm_ (a' := ?_) ?_ ?_
                   rotate_left
                   ·show Act.put _ (some 45) _ = _
                    simp only [Act.put, sA_, sZ_, sS_, i64_w, i32_w]
                    rfl
                   refine pure_ (i := 4) (N := some 46) (v := ?_) (a' := ?_) #[true, true, true, true, true, true, true, true, true, true, true, true, false, false, false, false, false, false] rfl rfl (any_of HT_.out (by kernel_rfl)) (fun _ _ _ h => h) (Or.inl ⟨by rfl, ?_⟩) ?_ ?_
                   rotate_left
                   ·intro w'
                    go_simp
                    with_reducible rfl
                   rotate_left
                   ·simp only [Act.put, sA_, sZ_, sS_, i64_w, i32_w]
                    rfl
                   refine one_ (i := 12) (N := some 54) #[true, true, true, true, true, true, true, true, true, true, true, true, true, false, false, false, false, false] rfl rfl (one_of HT_.out (by kernel_rfl)) (by decide) (fun K hK => ?_)
                   refine goes_ Tryd.func44 (by kernel_rfl) rfl #[.agg #[.int .i64 ((rd_T53 l0_1 (ji29)).f0), .string ((rd_T53 l0_1 (ji29)).f1), .int .i64 ((rd_T53 l0_1 (ji29)).f2)]] (by rfl) rfl rfl (by (try simp only [List.map_toArray, List.map_cons, List.map_nil]); first | done | (simp only [hji29]; rfl) | rfl | (simp only [List.length_drop, List.length_take]; rfl)) ?_
                   with_reducible refine (syntax_Term_String.calls k2 ((rd_T53 l0_1 (ji29)).f0) ((rd_T53 l0_1 (ji29)).f1) ((rd_T53 l0_1 (ji29)).f2) t420 _ A32.out ?hGl).mono ?_
                   (case hGl => exact tab_below hG (by repeat (first | (with_reducible first | exact HB.out | apply lA_ | apply pD | apply lD_ | refine lS_ ?_ GE406.out) | exact HB.out)))
                   rintro e w42 ⟨rfl, hb⟩
                   refine ⟨_, rfl, ?_⟩
                   have n0_ := aK_ (Kd.R_below (by (with_reducible repeat (first | apply Kd.R_alloc | apply Kd.R_drewN | apply Kd.R_drew)); exact HO_5.out) hb)
                   have n1_ := aK_ (bB (by (with_reducible repeat (first | refine bDN ?_ _ | refine bD ?_ | refine bA ?_ _)); exact BK406.out) hb)
                   have n2_ := aK_ (lT_ (by repeat (first | (with_reducible first | exact HB.out | apply lA_ | apply pD | apply lD_ | refine lS_ ?_ GE406.out) | exact HB.out)) hb)
                   clear HO_5
                   clear BK406
                   clear HB
                   have HO_5 := n0_
                   have BK406 := n1_
                   have HB := n2_
                   clear n0_ n1_ n2_
                   (try clear hb)
                   (try clear hb2)
                   (try clear hk)
                   (try clear hi)
                   refine hK.out _ _ ⟨(bC BK406.out 0).trans rfl, (bC BK406.out 1).trans rfl, (bC BK406.out 2).trans rfl, (bC BK406.out 3).trans rfl, (bC BK406.out 4).trans rfl, ((HB.out.cell (wb_ w _ hw419_0)).trans hw419_0), ((HB.out.cell (wb_ w _ hw419_1)).trans hw419_1), ((HB.out.cell (wb_ w _ hw419_2)).trans hw419_2)⟩ (fun hHeld => ?_)
                   clear hK K
                   refine norm_ (a' := ?_) ?_ ?_
                   rotate_left
                   ·show Act.put _ (some 54) _ = _
                    simp only [Act.put, sA_, sZ_, sS_, i64_w, i32_w]
                    rfl
                   refine pure_ (i := 13) (N := some 55) (v := ?_) (a' := ?_) #[true, true, true, true, true, true, true, true, true, true, true, true, true, true, false, false, false, false] rfl rfl (any_of HT_.out (by kernel_rfl)) (fun _ _ _ h => h) (Or.inl ⟨by rfl, ?_⟩) ?_ ?_
                   rotate_left
                   ·intro w'
                    go_simp
                    with_reducible rfl
                   rotate_left
                   ·simp only [Act.put, sA_, sZ_, sS_, i64_w, i32_w]
                    rfl
                   refine pure_ (i := 14) (N := some 56) (v := ?_) (a' := ?_) #[true, true, true, true, true, true, true, true, true, true, true, true, true, true, true, false, false, false] rfl rfl (any_of HT_.out (by kernel_rfl)) (fun _ _ _ h => h) (Or.inl ⟨by rfl, ?_⟩) ?_ ?_
                   rotate_left
                   ·intro w'
                    go_simp
                    with_reducible rfl
                   rotate_left
                   ·simp only [Act.put, sA_, sZ_, sS_, i64_w, i32_w]
                    rfl
                   refine one_ (i := 15) (N := some 57) #[true, true, true, true, true, true, true, true, true, true, true, true, true, true, true, true, false, false] rfl rfl (one_of HT_.out (by kernel_rfl)) (by decide) (fun K hK => ?_)
                   refine value_ (w1 := ?_) (v := ?_) (by rfl) rfl ?_ ?_
                   rotate_left 2
                   ·go_simp
                    constructor
                    ·rfl
                    ·rfl
                   refine hK.out _ _ ⟨(bC (bA BK406.out _) 0).trans rfl, (bC (bA BK406.out _) 1).trans rfl, (bC (bA BK406.out _) 2).trans rfl, (bC (bA BK406.out _) 3).trans rfl, (bC (bA BK406.out _) 4).trans rfl, (World.cell?_alloc_lt _ _ _ (wb_ _ _ (((HB.out.cell (wb_ w _ hw419_0)).trans hw419_0)))).trans (((HB.out.cell (wb_ w _ hw419_0)).trans hw419_0)), (World.cell?_alloc_lt _ _ _ (wb_ _ _ (((HB.out.cell (wb_ w _ hw419_1)).trans hw419_1)))).trans (((HB.out.cell (wb_ w _ hw419_1)).trans hw419_1)), (World.cell?_alloc_lt _ _ _ (wb_ _ _ (((HB.out.cell (wb_ w _ hw419_2)).trans hw419_2)))).trans (((HB.out.cell (wb_ w _ hw419_2)).trans hw419_2))⟩ (fun hHeld => ?_)
                   clear hK K
                   refine norm_ (a' := ?_) ?_ ?_
                   rotate_left
                   ·show Act.put _ (some 57) _ = _
                    simp only [Act.put, sA_, sZ_, sS_, i64_w, i32_w]
                    rfl
                   refine one_ (i := 16) (N := some 58) #[true, true, true, true, true, true, true, true, true, true, true, true, true, true, true, true, true, false] rfl rfl (one_of HT_.out (by kernel_rfl)) (by decide) (fun K hK => ?_)
                   refine Kd.Ras Kd.string (w0 := w) w.heap.size (by rfl) (.tmp 42) (.tmp 57) 45 9 (.string ⟨#[]⟩) 16 rfl Tryd.underlying45 info9 rfl (by decide) (by omega) u5 x5_2 (((t418 ++ (⟨#[60]⟩ : ByteArray)) ++ t420) ++ (⟨#[62]⟩ : ByteArray)) [.string (((t418 ++ (⟨#[60]⟩ : ByteArray)) ++ t420) ++ (⟨#[62]⟩ : ByteArray))] (fun _ => True) (fun _ => False) rfl rfl ?aP (fun _ hk => hk.elim) ?aF ?aO ?aB ?aS ?aL ?_
                   (case aP => exact rfl)
                   (case aB => exact (by repeat (first | (with_reducible first | exact HB.out | apply lA_ | apply pD | apply lD_ | refine lS_ ?_ GE406.out) | exact HB.out)))
                   (case aF => exact (fun _ _ => trivial))
                   (case aO => exact (by (with_reducible repeat (first | apply Kd.R_alloc | apply Kd.R_drewN | apply Kd.R_drew)); exact HO_5.out))
                   (case aS => exact (lZ_ (by repeat (first | (with_reducible first | exact HB.out | apply lA_ | apply pD | apply lD_ | refine lS_ ?_ GE406.out) | exact HB.out))))
                   (case aL => have := LMc35.out; omega)
                   intro v422 w43 ho hb hg hat
                   rw [← Ny421.out] at ho
                   have n0_ := aK_ (bG_ (g := gb406) (o := .cells #[.string a0_0, .slice (some ad419) l0_1.length c0_1, .int .i64 a0_2, .slice A0_3 l0_3.length c0_3, .int .i64 a0_4] 43 (0, 0)) (by (with_reducible repeat (first | refine bDN ?_ _ | refine bD ?_ | refine bA ?_ _)); exact BK406.out) hg (Kd.R_ne HO_5.out BK406.out (by decide)))
                   have n1_ := aK_ (hb)
                   have n2_ := aK_ (ho)
                   clear BK406
                   clear HB
                   clear HO_5
                   have BK406 := n0_
                   have HB := n1_
                   have HO423 := n2_
                   clear n0_ n1_ n2_
                   clear ho hb hg hat
                   refine hK.out _ _ ⟨(bC BK406.out 0).trans rfl, (bC BK406.out 1).trans rfl, (bC BK406.out 2).trans rfl, (bC BK406.out 3).trans rfl, (bC BK406.out 4).trans rfl, ((HB.out.cell (wb_ w _ hw419_0)).trans hw419_0), ((HB.out.cell (wb_ w _ hw419_1)).trans hw419_1), ((HB.out.cell (wb_ w _ hw419_2)).trans hw419_2)⟩ (fun hHeld => ?_)
                   clear hK K
                   refine norm_ (a' := ?_) ?_ ?_
                   rotate_left
                   ·show Act.put _ (some 58) _ = _
                    simp only [Act.put, sA_, sZ_, sS_, i64_w, i32_w]
                    rfl
                   refine pure_ (i := 17) (N := some 5) (v := ?_) (a' := ?_) #[true, true, true, true, true, true, true, true, true, true, true, true, true, true, true, true, true, true] rfl rfl (any_of HT_.out (by kernel_rfl)) (fun _ _ _ h => h) (Or.inl ⟨by rfl, ?_⟩) ?_ ?_
                   rotate_left
                   ·intro w'
                    go_simp
                    with_reducible rfl
                   rotate_left
                   ·simp only [Act.put, sA_, sZ_, sS_, i64_w, i32_w]
                    rfl
                   refine done_ (done_of HT_.out (by kernel_rfl)) ?_
                   try go_wp2
                   have n0_ := aK_ (Kd.R_drew HO423.out)
                   have n1_ := aK_ (bD BK406.out)
                   have n2_ := aK_ (lD_ HB.out)
                   clear HO423
                   clear BK406
                   clear HB
                   have HO423 := n0_
                   have BK406 := n1_
                   have HB := n2_
                   clear n0_ n1_ n2_
                   obtain ⟨Ao45, co45, eo45⟩ := Kd.R_slice HO423.out
                   (first | subst eo45 | (injection eo45 with f1_ f2_ f3_; have f4_ := f1_.symm; have f5_ := f3_.symm; clear f1_ f2_ f3_; subst f4_; subst f5_))
                   refine start_ (n := 9) (S := fun w' => w'.cell? ⟨gb406, 0, none⟩ = some (.string a0_0) ∧ w'.cell? ⟨gb406, 1, none⟩ = some (.slice (some ad419) l0_1.length c0_1) ∧ w'.cell? ⟨gb406, 2, none⟩ = some (.int .i64 a0_2) ∧ w'.cell? ⟨gb406, 3, none⟩ = some (.slice A0_3 l0_3.length c0_3) ∧ w'.cell? ⟨gb406, 4, none⟩ = some (.int .i64 a0_4)) (ds := []) #[false, false, false, false, false, false, false, false, false] (by kernel_rfl) rfl rfl ⟨(bC BK406.out 0).trans rfl, (bC BK406.out 1).trans rfl, (bC BK406.out 2).trans rfl, (bC BK406.out 3).trans rfl, (bC BK406.out 4).trans rfl⟩ (fun hHeld => ?_); refine with_tabW syntax_Rule_String.tab11 syntax_Rule_String.bits11 (fun HT_ HW_ => ?_)
                   generalize w43.drew = w44 at HO423 BK406 HB hHeld ⊢
                   refine pure_ (i := 0) (N := some 59) (v := ?_) (a' := ?_) #[true, false, false, false, false, false, false, false, false] rfl rfl (any_of HT_.out (by kernel_rfl)) (fun _ _ _ h => h) (Or.inl ⟨by rfl, ?_⟩) ?_ ?_
                   rotate_left
                   ·intro w'
                    go_simp
                    with_reducible rfl
                   rotate_left
                   ·simp only [Act.put, sA_, sZ_, sS_, i64_w, i32_w]
                    rfl
                   refine pure_ (i := 1) (N := some 60) (v := ?_) (a' := ?_) #[true, true, false, false, false, false, false, false, false] rfl rfl (any_of HT_.out (by kernel_rfl)) (fun _ _ _ h => h) (Or.inl ⟨by rfl, ?_⟩) ?_ ?_
                   rotate_left
                   ·intro w'
                    go_simp
                    with_reducible rfl
                   rotate_left
                   ·simp only [Act.put, sA_, sZ_, sS_, i64_w, i32_w]
                    rfl
                   refine pure_ (i := 4) (N := some 63) (v := ?_) (a' := ?_) #[true, true, false, false, true, false, false, false, false] rfl rfl (any_of HT_.out (by kernel_rfl)) (fun _ _ _ h => h) (Or.inl ⟨by rfl, ?_⟩) ?_ ?_
                   rotate_left
                   ·intro w'
                    go_simp
                    with_reducible rfl
                   rotate_left
                   ·simp only [Act.put, sA_, sZ_, sS_, i64_w, i32_w]
                    rfl
                   refine take_ (i := 2) (N := some 61) (v := ?_) (a' := ?_) #[true, true, true, false, true, false, false, false, false] rfl rfl (take_ofW HT_.out HW_.out (by kernel_rfl)) (fun _ _ _ h => h) (Or.inl ⟨by rfl, ?_⟩) hHeld ?_ ?_
                   rotate_left
                   ·rintro w' ⟨s0, s1, s2, s3, s4⟩
                    go_simp
                    with_reducible rfl
                   rotate_left
                   ·simp only [Act.put, sA_, sZ_, sS_, i64_w, i32_w]
                    rfl
                   refine pure_ (i := 3) (N := some 62) (v := ?_) (a' := ?_) #[true, true, true, true, true, false, false, false, false] rfl rfl (any_of HT_.out (by kernel_rfl)) (fun _ _ _ h => h) (Or.inl ⟨by rfl, ?_⟩) ?_ ?_
                   rotate_left
                   ·intro w'
                    go_simp
                    with_reducible rfl
                   rotate_left
                   ·simp only [Act.put, sA_, sZ_, sS_, i64_w, i32_w]
                    rfl
                   refine one_ (i := 5) (N := some 64) #[true, true, true, true, true, true, false, false, false] rfl rfl (one_of HT_.out (by kernel_rfl)) (by decide) (fun K hK => ?_)
                   refine goes_ Tryd.func46 (by kernel_rfl) rfl #[.slice Ao45 y421.length co45, .string (⟨#[44]⟩ : ByteArray)] (by rfl) rfl rfl (by (try simp only [List.map_toArray, List.map_cons, List.map_nil]); first | done | rfl | (simp only [List.length_drop, List.length_take]; rfl)) ?_
                   with_reducible refine (strings_Join.calls _ _ y421 (⟨#[44]⟩ : ByteArray) t424 _ ?side1 ?side2 A37.out).mono ?_
                   (case side1 => repeat (first | exact (Kd.R_reads' HO423.out).2.2 | (with_reducible refine Kd.C_alloc ?_ _) | (with_reducible refine Kd.C_drewN ?_ _) | (with_reducible refine Kd.C_drew ?_)))
                   (case side2 => exact (Kd.R_reads' HO423.out).2.1)
                   rintro e w46 ⟨rfl, hb⟩
                   refine ⟨_, rfl, ?_⟩
                   have n0_ := aK_ (Kd.R_below (by (with_reducible repeat (first | apply Kd.R_alloc | apply Kd.R_drewN | apply Kd.R_drew)); exact HO423.out) hb)
                   have n1_ := aK_ (bB (by (with_reducible repeat (first | refine bDN ?_ _ | refine bD ?_ | refine bA ?_ _)); exact BK406.out) hb)
                   have n2_ := aK_ (lT_ (by repeat (first | (with_reducible first | exact HB.out | apply lA_ | apply pD | apply lD_ | refine lS_ ?_ GE406.out) | exact HB.out)) hb)
                   clear HO423
                   clear BK406
                   clear HB
                   have HO423 := n0_
                   have BK406 := n1_
                   have HB := n2_
                   clear n0_ n1_ n2_
                   (try clear hb)
                   (try clear hb2)
                   (try clear hk)
                   (try clear hi)
                   refine hK.out _ _ ⟨(bC BK406.out 0).trans rfl, (bC BK406.out 1).trans rfl, (bC BK406.out 2).trans rfl, (bC BK406.out 3).trans rfl, (bC BK406.out 4).trans rfl⟩ (fun hHeld => ?_)
                   clear hK K
                   refine norm_ (a' := ?_) ?_ ?_
                   rotate_left
                   ·show Act.put _ (some 64) _ = _
                    simp only [Act.put, sA_, sZ_, sS_, i64_w, i32_w]
                    rfl
                   refine pure_ (i := 6) (N := some 65) (v := ?_) (a' := ?_) #[true, true, true, true, true, true, true, false, false] rfl rfl (any_of HT_.out (by kernel_rfl)) (fun _ _ _ h => h) (Or.inl ⟨by rfl, ?_⟩) ?_ ?_
                   rotate_left
                   ·intro w'
                    go_simp
                    with_reducible rfl
                   rotate_left
                   ·simp only [Act.put, sA_, sZ_, sS_, i64_w, i32_w]
                    rfl
                   refine pure_ (i := 7) (N := some 66) (v := ?_) (a' := ?_) #[true, true, true, true, true, true, true, true, false] rfl rfl (any_of HT_.out (by kernel_rfl)) (fun _ _ _ h => h) (Or.inl ⟨by rfl, ?_⟩) ?_ ?_
                   rotate_left
                   ·intro w'
                    go_simp
                    with_reducible rfl
                   rotate_left
                   ·simp only [Act.put, sA_, sZ_, sS_, i64_w, i32_w]
                    rfl
                   refine pure_ (i := 8) (N := some 3) (v := ?_) (a' := ?_) #[true, true, true, true, true, true, true, true, true] rfl rfl (any_of HT_.out (by kernel_rfl)) (fun _ _ _ h => h) (Or.inl ⟨by rfl, ?_⟩) ?_ ?_
                   rotate_left
                   ·intro w'
                    go_simp
                    with_reducible rfl
                   rotate_left
                   ·simp only [Act.put, sA_, sZ_, sS_, i64_w, i32_w]
                    rfl
                   refine done_ (done_of HT_.out (by kernel_rfl)) ?_
                   try go_wp2
                   go_meet
                   case rel => exact ⟨_, (((a0_0 ++ (⟨#[40]⟩ : ByteArray)) ++ t424) ++ (⟨#[41]⟩ : ByteArray)), (by first | rfl | (simp; done) | (simp [*]; done)), H', ⟨by have := HJ2.out; have := HK2.out; first | omega | exact Nat.le_refl _⟩, ⟨by (with_reducible repeat (first | refine bDN ?_ _ | refine bD ?_ | refine bA ?_ _)); exact BK406.out⟩, ⟨by repeat (first | (with_reducible first | exact HB.out | apply lA_ | apply pD | apply lD_ | refine lS_ ?_ GE406.out) | exact HB.out)⟩⟩
                  ·rw [if_neg c39] at H
                   exact absurd H (by simp)
                 ·rw [if_neg c38] at H
                  exact absurd H (by simp)
                ·rw [if_neg c36] at H
                 exact absurd H (by simp)
               ·rw [if_neg c35] at H
                exact absurd H (by simp)
              ·rw [if_neg c34] at H
               exact absurd H (by simp)
             ·rw [if_neg c33] at H
              exact absurd H (by simp)
            ·rw [if_neg c31] at H
             exact absurd H (by simp)
           ·rw [if_neg c30] at H
            exact absurd H (by simp)
          ·rw [if_neg c28] at H
           exact absurd H (by simp)
      ·rw [if_neg c14] at H
       exact absurd H (by simp)
     ·rw [if_neg c13] at H
      exact absurd H (by simp)
    ·replace c11 := Bool.eq_false_iff.mpr c11
     subst c11
     have H1 : (syntax_Rule_String.j2 kj2 t407 a0_0 l0_1 a0_2 l0_3 a0_4) = some r := by rw [if_neg (show ¬ (false = true) by decide)] at H; exact H
     clear H
     have H := H1
     clear H1
     have H' := aK_ H
     clear H
     go_wp2
     go_meet
     case rel => exact ⟨_, (t407), (by first | rfl | (simp; done) | (simp [*]; done)), H', ⟨by have := HJ2.out; first | omega | exact Nat.le_refl _⟩, ⟨by (with_reducible repeat (first | refine bDN ?_ _ | refine bD ?_ | refine bA ?_ _)); exact BK406.out⟩, ⟨by repeat (first | (with_reducible first | exact HB.out | apply lA_ | apply pD | apply lD_ | refine lS_ ?_ GE406.out) | exact HB.out)⟩⟩
   case rest =>
    clear HC10
    try clear c1
    try clear q1
    try clear c2
    try clear p2
    try clear c3
    try clear c4
    try clear p4
    try clear q4
    try clear hx4
    try clear p6
    try clear c8
    try clear c8b0
    try clear c8b1
    try clear c11
    try clear c13
    try clear c13b0
    try clear c13b1
    try clear c14
    try clear c14b0
    try clear c14b1
    try clear q16
    try clear c17
    try clear c17b0
    try clear c18
    try clear c18b0
    try clear c19
    try clear c19b0
    try clear c21
    try clear c23
    try clear c28
    try clear c28b0
    try clear c28b1
    try clear c28b2
    try clear c30
    try clear c30b0
    try clear c31
    try clear c31b0
    try clear c33
    try clear c33b0
    try clear c33b1
    try clear c33b2
    try clear c34
    try clear c34b0
    try clear c34b1
    try clear c34b2
    try clear c35
    try clear c36
    try clear c36b0
    try clear c36b1
    try clear c36b2
    try clear c38
    try clear c38b0
    try clear c38b1
    try clear c38b2
    try clear c39
    try clear c39b0
    try clear c39b1
    try clear c39b2
    try clear p41
    try clear q41
    try clear hx41
    try clear c44
    try clear c45
    try clear c46
    try clear hcz15_0
    try clear hcz15_1
    try clear hcz15_2
    try clear hcz15_3
    try clear hcz15_4
    try clear hcz24_0
    try clear hcz24_1
    try clear hcz24_2
    try clear hcz5_0
    try clear hcz5_1
    try clear hcz5_2
    try clear hcz5_3
    try clear hcz5_4
    try clear hcz7_0
    try clear hcz7_1
    try clear hcz7_2
    try clear hcz7_3
    try clear hcz7_4
    try clear hcz9_0
    try clear hcz9_1
    try clear hcz9_2
    try clear hcz9_3
    try clear hcz9_4
    try clear hfz15_0
    try clear hfz15_1
    try clear hfz15_2
    try clear hfz15_3
    try clear hfz15_4
    try clear hfz24_0
    try clear hfz24_1
    try clear hfz24_2
    try clear hfz5_0
    try clear hfz5_1
    try clear hfz5_2
    try clear hfz5_3
    try clear hfz5_4
    try clear hfz7_0
    try clear hfz7_1
    try clear hfz7_2
    try clear hfz7_3
    try clear hfz7_4
    try clear hfz9_0
    try clear hfz9_1
    try clear hfz9_2
    try clear hfz9_3
    try clear hfz9_4
    try clear hx412_0
    try clear hx412_1
    try clear hx412_2
    try clear hx419_0
    try clear hx419_1
    try clear hx419_2
    try clear p2
    try clear p412
    try clear p419
    try clear p6
    try clear q1
    try clear q16
    try clear q412
    try clear q419
    obtain ⟨kq, x3_9, rfl, HA, HJ9, BK406, HB⟩ := hcut
    cases kq with
    | zero => exact absurd HA.out (by simp [syntax_Rule_String.j2])
    | succ kj9 =>
     have H := HA.out
     clear HA
     simp only [syntax_Rule_String.j2] at H
     have H' := aK_ H
     clear H
     have hcz47_0 : wc.cell? ⟨gb406, 0, none⟩ = some (.string a0_0) := (bC BK406.out 0).trans rfl
     have hcz47_1 : wc.cell? ⟨gb406, 1, none⟩ = some (.slice A0_1 l0_1.length c0_1) := (bC BK406.out 1).trans rfl
     have hcz47_2 : wc.cell? ⟨gb406, 2, none⟩ = some (.int .i64 a0_2) := (bC BK406.out 2).trans rfl
     have hcz47_3 : wc.cell? ⟨gb406, 3, none⟩ = some (.slice A0_3 l0_3.length c0_3) := (bC BK406.out 3).trans rfl
     have hcz47_4 : wc.cell? ⟨gb406, 4, none⟩ = some (.int .i64 a0_4) := (bC BK406.out 4).trans rfl
     have hfz47_0 := bF BK406.out 0
     have hfz47_1 := bF BK406.out 1
     have hfz47_2 := bF BK406.out 2
     have hfz47_3 := bF BK406.out 3
     have hfz47_4 := bF BK406.out 4
     go_wp2
     go_loopg [8, 70] kj9 (fun kq v8 v70 w' => ∃ (x8_3 : List ByteArray) (x70_3 : Int), v70 = .int .i64 x70_3 ∧ Aside0 (syntax_Rule_String.l1 kq x3_9 x8_3 l0_3 (l0_3.length : Int) x70_3 = some r) ∧ Aside0 (kq ≤ kj9) ∧ Aside0 (Kd.R Kd.string 9 w' w.heap.size (fun _ => True) v8 x8_3) ∧ Aside0 (w'.heap[gb406]? = some (.cells #[.string a0_0, (.slice A0_1 l0_1.length c0_1), .int .i64 a0_2, (.slice A0_3 l0_3.length c0_3), .int .i64 a0_4] 43 (0, 0))) ∧ Aside0 (Below w.heap.size w w'))
     case atStart => exact ⟨(([] : List ByteArray)), (0), (by first | rfl | (simp; done) | (simp [*]; done)), H', ⟨Nat.le_refl _⟩, ⟨by first | exact Kd.R_nil _ _ _ _ _ | exact Kd.N_nil _ _ _ _ _ | exact Kd.V_nil _ _ _ _ _ | exact Kd.Q_nil _ _ _ _ _ | exact Kd.S_nil _ _ _ _ _⟩, ⟨by (with_reducible repeat (first | refine bDN ?_ _ | refine bD ?_ | refine bA ?_ _)); exact BK406.out⟩, ⟨by repeat (first | (with_reducible first | exact HB.out | apply lA_ | apply pD | apply lD_ | refine lS_ ?_ GE406.out) | exact HB.out)⟩⟩
     case round =>
      clear H'
      try clear c1
      try clear q1
      try clear c2
      try clear p2
      try clear c3
      try clear c4
      try clear p4
      try clear q4
      try clear hx4
      try clear p6
      try clear c8
      try clear c8b0
      try clear c8b1
      try clear c11
      try clear c13
      try clear c13b0
      try clear c13b1
      try clear c14
      try clear c14b0
      try clear c14b1
      try clear q16
      try clear c17
      try clear c17b0
      try clear c18
      try clear c18b0
      try clear c19
      try clear c19b0
      try clear c21
      try clear c23
      try clear c28
      try clear c28b0
      try clear c28b1
      try clear c28b2
      try clear c30
      try clear c30b0
      try clear c31
      try clear c31b0
      try clear c33
      try clear c33b0
      try clear c33b1
      try clear c33b2
      try clear c34
      try clear c34b0
      try clear c34b1
      try clear c34b2
      try clear c35
      try clear c36
      try clear c36b0
      try clear c36b1
      try clear c36b2
      try clear c38
      try clear c38b0
      try clear c38b1
      try clear c38b2
      try clear c39
      try clear c39b0
      try clear c39b1
      try clear c39b2
      try clear p41
      try clear q41
      try clear hx41
      try clear c44
      try clear c45
      try clear c46
      try clear hcz15_0
      try clear hcz15_1
      try clear hcz15_2
      try clear hcz15_3
      try clear hcz15_4
      try clear hcz24_0
      try clear hcz24_1
      try clear hcz24_2
      try clear hcz47_0
      try clear hcz47_1
      try clear hcz47_2
      try clear hcz47_3
      try clear hcz47_4
      try clear hcz5_0
      try clear hcz5_1
      try clear hcz5_2
      try clear hcz5_3
      try clear hcz5_4
      try clear hcz7_0
      try clear hcz7_1
      try clear hcz7_2
      try clear hcz7_3
      try clear hcz7_4
      try clear hcz9_0
      try clear hcz9_1
      try clear hcz9_2
      try clear hcz9_3
      try clear hcz9_4
      try clear hfz15_0
      try clear hfz15_1
      try clear hfz15_2
      try clear hfz15_3
      try clear hfz15_4
      try clear hfz24_0
      try clear hfz24_1
      try clear hfz24_2
      try clear hfz47_0
      try clear hfz47_1
      try clear hfz47_2
      try clear hfz47_3
      try clear hfz47_4
      try clear hfz5_0
      try clear hfz5_1
      try clear hfz5_2
      try clear hfz5_3
      try clear hfz5_4
      try clear hfz7_0
      try clear hfz7_1
      try clear hfz7_2
      try clear hfz7_3
      try clear hfz7_4
      try clear hfz9_0
      try clear hfz9_1
      try clear hfz9_2
      try clear hfz9_3
      try clear hfz9_4
      try clear hx412_0
      try clear hx412_1
      try clear hx412_2
      try clear hx419_0
      try clear hx419_1
      try clear hx419_2
      try clear p2
      try clear p4
      try clear p41
      try clear p412
      try clear p419
      try clear p6
      try clear q1
      try clear q16
      try clear q4
      try clear q41
      try clear q412
      try clear q419
      obtain ⟨x8_3, x70_3, rfl, HA, HK3, HO_8, BK406, HB⟩ := hrel
      cases gk with
      | zero => exact absurd HA.out (by simp [syntax_Rule_String.l1])
      | succ k3 =>
       have H := HA.out
       clear HA
       simp only [syntax_Rule_String.l1] at H
       by_cases c48 : x70_3 < (l0_3.length : Int)
       ·rw [if_pos c48] at H
        have c48b0 : decide (x70_3 < (l0_3.length : Int)) = true := decide_eq_true c48
        clear c48
        by_cases c49 : 0 ≤ x70_3
        ·rw [if_pos c49] at H
         have c49b0 : decide (0 ≤ x70_3) = true := decide_eq_true c49
         clear c49
         by_cases c50 : x70_3 < (l0_3.length : Int)
         ·rw [if_pos c50] at H
          have c50b0 : decide (x70_3 < (l0_3.length : Int)) = true := decide_eq_true c50
          clear c50
          replace H := Option.bind_eq_some_iff.mp H
          obtain ⟨t427, A510, H⟩ := H
          replace H : (if x8_3.length < 8796093022208 then (syntax_Rule_String.l1 k3 x3_9 (x8_3 ++ [t427]) l0_3 (l0_3.length : Int) (wrap64 (x70_3 + 1))) else (none)) = some r := H
          have A51 := aK_ A510
          clear A510
          by_cases c52 : x8_3.length < 8796093022208
          ·rw [if_pos c52] at H
           have LMc52 := aK_ c52
           clear c52
           obtain ⟨y428, hy428⟩ : ∃ y_ : List ByteArray, y_ = (x8_3 ++ [t427]) := ⟨_, rfl⟩
           replace H : (syntax_Rule_String.l1 k3 x3_9 y428 l0_3 (l0_3.length : Int) (wrap64 (x70_3 + 1))) = some r := by first | (rw [hy428]; with_reducible exact H) | (have H2_ := (Option.bind_some _ _).symm.trans H; rw [hy428]; with_reducible exact H2_) | (have H2_ := (Option.bind_some _ _).symm.trans H; with_reducible exact H2_) | with_reducible exact H | (rw [hy428]; exact H) | exact H
           have Ny428 := aK_ hy428
           clear hy428
           have H' := aK_ H
           clear H
           have p425 : 0 ≤ (x70_3 : Int) := of_decide_eq_true (by first | (with_reducible assumption) | assumption)
           have q425 : x70_3 < (l0_3.length : Int) := of_decide_eq_true (by first | (with_reducible assumption) | assumption)
           obtain ⟨ad425, A425_2, c425_2, A425_15, c425_15, e425, hx425_0, hx425_1, hx425_2, hx425_3, hx425_4, hx425_5, hx425_6, hx425_7, hx425_8, hx425_9, hx425_10, hx425_11, hx425_12, hx425_13, hx425_14, hx425_15, hl425_2, hi425_2, hl425_15, hi425_15⟩ := at_T59 HR0_3.out x70_3 p425 q425
           cases e425
           replace hx425_0 := (HB.out.cell (wb_ w _ hx425_0)).trans hx425_0
           replace hx425_1 := (HB.out.cell (wb_ w _ hx425_1)).trans hx425_1
           replace hx425_2 := (HB.out.cell (wb_ w _ hx425_2)).trans hx425_2
           replace hx425_3 := (HB.out.cell (wb_ w _ hx425_3)).trans hx425_3
           replace hx425_4 := (HB.out.cell (wb_ w _ hx425_4)).trans hx425_4
           replace hx425_5 := (HB.out.cell (wb_ w _ hx425_5)).trans hx425_5
           replace hx425_6 := (HB.out.cell (wb_ w _ hx425_6)).trans hx425_6
           replace hx425_7 := (HB.out.cell (wb_ w _ hx425_7)).trans hx425_7
           replace hx425_8 := (HB.out.cell (wb_ w _ hx425_8)).trans hx425_8
           replace hx425_9 := (HB.out.cell (wb_ w _ hx425_9)).trans hx425_9
           replace hx425_10 := (HB.out.cell (wb_ w _ hx425_10)).trans hx425_10
           replace hx425_11 := (HB.out.cell (wb_ w _ hx425_11)).trans hx425_11
           replace hx425_12 := (HB.out.cell (wb_ w _ hx425_12)).trans hx425_12
           replace hx425_13 := (HB.out.cell (wb_ w _ hx425_13)).trans hx425_13
           replace hx425_14 := (HB.out.cell (wb_ w _ hx425_14)).trans hx425_14
           replace hx425_15 := (HB.out.cell (wb_ w _ hx425_15)).trans hx425_15
           have HR425_2 := aK_ hi425_2
           have HC425_2 := aK_ hl425_2
           clear hi425_2 hl425_2
           have HR425_15 := aK_ hi425_15
           have HC425_15 := aK_ hl425_15
           clear hi425_15 hl425_15
           replace p425 := eq_true p425
           replace q425 := eq_true q425
           go_wp2_with (first | ((with_reducible refine gate_dst (N := 10) rfl ?_); refine box_event ?hg (N := 10) ?hd (cs := #[.int .i64 0, .string (⟨#[]⟩ : ByteArray), .slice none 0 0, .int .i64 0, .int .i64 0, .string (⟨#[]⟩ : ByteArray), .int .i64 0, .int .i64 0, .string (⟨#[]⟩ : ByteArray), .int .i64 0, .string (⟨#[]⟩ : ByteArray), .int .i64 0, .string (⟨#[]⟩ : ByteArray), .int .i64 0, .int .i64 0, .slice none 0 0]) (t := 59) ?hr ?_; (case hd => rfl); (case hg => rfl); (case hr => first | (go_simp; done) | (go_simp; rfl)); intro gb426 hg w53 hbox hb; have n0_ := aK_ (Kd.R_below (by (with_reducible repeat (first | apply Kd.R_alloc | apply Kd.R_drewN | apply Kd.R_drew)); exact HO_8.out) hb); have n1_ := aK_ (bB (by (with_reducible repeat (first | refine bDN ?_ _ | refine bD ?_ | refine bA ?_ _)); exact BK406.out) hb); have n2_ := aK_ (lT_ (by repeat (first | (with_reducible first | exact HB.out | apply lA_ | apply pD | apply lD_ | refine lS_ ?_ GE406.out) | exact HB.out)) hb); have n3_ := aK_ (hbox); have n4_ := aK_ ((by rw [hg]; exact (lZ_ (by repeat (first | (with_reducible first | exact HB.out | apply lA_ | apply pD | apply lD_ | refine lS_ ?_ GE406.out) | exact HB.out))) : w.heap.size ≤ gb426)); have n5_ := aK_ ((by rw [hg]; exact (lZ_ (by repeat (first | (with_reducible first | exact HB.out | apply lA_ | apply pD | apply lD_ | refine lS_ ?_ GE406.out) | exact HB.out))) : w.heap.size ≤ gb426)); have n6_ := aK_ ((by rw [hg]; exact Nat.ne_of_lt (blk_lt (g := gb406) (o := .cells #[.string a0_0, .slice A0_1 l0_1.length c0_1, .int .i64 a0_2, .slice (some ad425) l0_3.length c0_3, .int .i64 a0_4] 43 (0, 0)) (by (with_reducible repeat (first | refine bDN ?_ _ | refine bD ?_ | refine bA ?_ _)); exact BK406.out)) : gb406 ≠ gb426)); have n7_ := aK_ ((by rw [hg]; exact Nat.ne_of_gt (blk_lt (g := gb406) (o := .cells #[.string a0_0, .slice A0_1 l0_1.length c0_1, .int .i64 a0_2, .slice (some ad425) l0_3.length c0_3, .int .i64 a0_4] 43 (0, 0)) (by (with_reducible repeat (first | refine bDN ?_ _ | refine bD ?_ | refine bA ?_ _)); exact BK406.out)) : gb426 ≠ gb406)); clear HO_8; clear BK406; clear HB; have HO_8 := n0_; have BK406 := n1_; have HB := n2_; have BK426 := n3_; have GW426 := n4_; have GE426 := n5_; have NB406_426 := n6_; have NB426_406 := n7_; clear n0_ n1_ n2_ n3_ n4_ n5_ n6_ n7_; clear hb hbox hg; have hnb54 := NB426_406.out; have hnc54 := NB406_426.out; have hcz55_0 : w53.cell? ⟨gb426, 0, none⟩ = some (.int .i64 0) := (bC BK426.out 0).trans rfl; have hcz55_1 : w53.cell? ⟨gb426, 1, none⟩ = some (.string (⟨#[]⟩ : ByteArray)) := (bC BK426.out 1).trans rfl; have hcz55_2 : w53.cell? ⟨gb426, 2, none⟩ = some (.slice none 0 0) := (bC BK426.out 2).trans rfl; have hcz55_3 : w53.cell? ⟨gb426, 3, none⟩ = some (.int .i64 0) := (bC BK426.out 3).trans rfl; have hcz55_4 : w53.cell? ⟨gb426, 4, none⟩ = some (.int .i64 0) := (bC BK426.out 4).trans rfl; have hcz55_5 : w53.cell? ⟨gb426, 5, none⟩ = some (.string (⟨#[]⟩ : ByteArray)) := (bC BK426.out 5).trans rfl; have hcz55_6 : w53.cell? ⟨gb426, 6, none⟩ = some (.int .i64 0) := (bC BK426.out 6).trans rfl; have hcz55_7 : w53.cell? ⟨gb426, 7, none⟩ = some (.int .i64 0) := (bC BK426.out 7).trans rfl; have hcz55_8 : w53.cell? ⟨gb426, 8, none⟩ = some (.string (⟨#[]⟩ : ByteArray)) := (bC BK426.out 8).trans rfl; have hcz55_9 : w53.cell? ⟨gb426, 9, none⟩ = some (.int .i64 0) := (bC BK426.out 9).trans rfl; have hcz55_10 : w53.cell? ⟨gb426, 10, none⟩ = some (.string (⟨#[]⟩ : ByteArray)) := (bC BK426.out 10).trans rfl; have hcz55_11 : w53.cell? ⟨gb426, 11, none⟩ = some (.int .i64 0) := (bC BK426.out 11).trans rfl; have hcz55_12 : w53.cell? ⟨gb426, 12, none⟩ = some (.string (⟨#[]⟩ : ByteArray)) := (bC BK426.out 12).trans rfl; have hcz55_13 : w53.cell? ⟨gb426, 13, none⟩ = some (.int .i64 0) := (bC BK426.out 13).trans rfl; have hcz55_14 : w53.cell? ⟨gb426, 14, none⟩ = some (.int .i64 0) := (bC BK426.out 14).trans rfl; have hcz55_15 : w53.cell? ⟨gb426, 15, none⟩ = some (.slice none 0 0) := (bC BK426.out 15).trans rfl; have hfz55_0 := bF BK426.out 0; have hfz55_1 := bF BK426.out 1; have hfz55_2 := bF BK426.out 2; have hfz55_3 := bF BK426.out 3; have hfz55_4 := bF BK426.out 4; have hfz55_5 := bF BK426.out 5; have hfz55_6 := bF BK426.out 6; have hfz55_7 := bF BK426.out 7; have hfz55_8 := bF BK426.out 8; have hfz55_9 := bF BK426.out 9; have hfz55_10 := bF BK426.out 10; have hfz55_11 := bF BK426.out 11; have hfz55_12 := bF BK426.out 12; have hfz55_13 := bF BK426.out 13; have hfz55_14 := bF BK426.out 14; have hfz55_15 := bF BK426.out 15) | ((with_reducible refine gate_callee (f := 47) rfl ?_); refine goesL_ (some 76) rfl rfl Tryd.func47 (by kernel_rfl) rfl #[.agg #[.int .i64 ((rd_T59 l0_3 x70_3).f0), .string ((rd_T59 l0_3 x70_3).f1.f0), .slice A425_2 ((rd_T59 l0_3 x70_3).f1.f1).length c425_2, .int .i64 ((rd_T59 l0_3 x70_3).f2), .int .i64 ((rd_T59 l0_3 x70_3).f3.f0), .string ((rd_T59 l0_3 x70_3).f3.f1), .int .i64 ((rd_T59 l0_3 x70_3).f3.f2), .int .i64 ((rd_T59 l0_3 x70_3).f4.f0), .string ((rd_T59 l0_3 x70_3).f4.f1), .int .i64 ((rd_T59 l0_3 x70_3).f4.f2), .string ((rd_T59 l0_3 x70_3).f5), .int .i64 ((rd_T59 l0_3 x70_3).f6.f0.f0), .string ((rd_T59 l0_3 x70_3).f6.f0.f1), .int .i64 ((rd_T59 l0_3 x70_3).f6.f0.f2), .int .i64 ((rd_T59 l0_3 x70_3).f6.f1), .slice A425_15 ((rd_T59 l0_3 x70_3).f6.f2).length c425_15]] rfl (by (try simp only [List.map_toArray, List.map_cons, List.map_nil]); first | done | rfl | (simp only [List.length_drop, List.length_take]; rfl)) ?_; (with_reducible refine (syntax_Part_String.calls k3 ((rd_T59 l0_3 x70_3).f0) ((rd_T59 l0_3 x70_3).f1.f0) _ _ ((rd_T59 l0_3 x70_3).f1.f1) ((rd_T59 l0_3 x70_3).f2) ((rd_T59 l0_3 x70_3).f3.f0) ((rd_T59 l0_3 x70_3).f3.f1) ((rd_T59 l0_3 x70_3).f3.f2) ((rd_T59 l0_3 x70_3).f4.f0) ((rd_T59 l0_3 x70_3).f4.f1) ((rd_T59 l0_3 x70_3).f4.f2) ((rd_T59 l0_3 x70_3).f5) ((rd_T59 l0_3 x70_3).f6.f0.f0) ((rd_T59 l0_3 x70_3).f6.f0.f1) ((rd_T59 l0_3 x70_3).f6.f0.f2) ((rd_T59 l0_3 x70_3).f6.f1) _ _ ((rd_T59 l0_3 x70_3).f6.f2) t427 _ ?side1 ?side2 ?side3 ?side4 A51.out ?hGl).mono ?_); (case side1 => exact Kd.C_below HR425_2.out (by repeat (first | (with_reducible first | exact HB.out | apply lA_ | apply pD | apply lD_ | refine lS_ ?_ GE406.out | refine lS_ ?_ GE426.out) | exact HB.out))); (case side2 => exact HC425_2.out); (case side3 => exact Kd.C_below HR425_15.out (by repeat (first | (with_reducible first | exact HB.out | apply lA_ | apply pD | apply lD_ | refine lS_ ?_ GE406.out | refine lS_ ?_ GE426.out) | exact HB.out))); (case side4 => exact HC425_15.out); (case hGl => exact tab_below hG (by repeat (first | (with_reducible first | exact HB.out | apply lA_ | apply pD | apply lD_ | refine lS_ ?_ GE406.out | refine lS_ ?_ GE426.out) | exact HB.out))); rintro e w56 ⟨rfl, hb⟩; refine ⟨_, rfl, ?_⟩; have n0_ := aK_ (Kd.R_below (by (with_reducible repeat (first | apply Kd.R_alloc | apply Kd.R_drewN | apply Kd.R_drew)); exact (Kd.R_mono (Kd.R_far (p := ⟨gb426, 15, none⟩) (Kd.R_far (p := ⟨gb426, 14, none⟩) (Kd.R_far (p := ⟨gb426, 13, none⟩) (Kd.R_far (p := ⟨gb426, 12, none⟩) (Kd.R_far (p := ⟨gb426, 11, none⟩) (Kd.R_far (p := ⟨gb426, 10, none⟩) (Kd.R_far (p := ⟨gb426, 9, none⟩) (Kd.R_far (p := ⟨gb426, 8, none⟩) (Kd.R_far (p := ⟨gb426, 7, none⟩) (Kd.R_far (p := ⟨gb426, 6, none⟩) (Kd.R_far (p := ⟨gb426, 5, none⟩) (Kd.R_far (p := ⟨gb426, 4, none⟩) (Kd.R_far (p := ⟨gb426, 3, none⟩) (Kd.R_far (p := ⟨gb426, 2, none⟩) (Kd.R_far (p := ⟨gb426, 1, none⟩) (Kd.R_far (p := ⟨gb426, 0, none⟩) (Kd.R_types HO_8.out BK426.out (by decide)) (fun _ hk => hk.2) (.int .i64 ((rd_T59 l0_3 x70_3).f0))) (fun _ hk => hk.2) (.string ((rd_T59 l0_3 x70_3).f1.f0))) (fun _ hk => hk.2) (.slice A425_2 ((rd_T59 l0_3 x70_3).f1.f1).length c425_2)) (fun _ hk => hk.2) (.int .i64 ((rd_T59 l0_3 x70_3).f2))) (fun _ hk => hk.2) (.int .i64 ((rd_T59 l0_3 x70_3).f3.f0))) (fun _ hk => hk.2) (.string ((rd_T59 l0_3 x70_3).f3.f1))) (fun _ hk => hk.2) (.int .i64 ((rd_T59 l0_3 x70_3).f3.f2))) (fun _ hk => hk.2) (.int .i64 ((rd_T59 l0_3 x70_3).f4.f0))) (fun _ hk => hk.2) (.string ((rd_T59 l0_3 x70_3).f4.f1))) (fun _ hk => hk.2) (.int .i64 ((rd_T59 l0_3 x70_3).f4.f2))) (fun _ hk => hk.2) (.string ((rd_T59 l0_3 x70_3).f5))) (fun _ hk => hk.2) (.int .i64 ((rd_T59 l0_3 x70_3).f6.f0.f0))) (fun _ hk => hk.2) (.string ((rd_T59 l0_3 x70_3).f6.f0.f1))) (fun _ hk => hk.2) (.int .i64 ((rd_T59 l0_3 x70_3).f6.f0.f2))) (fun _ hk => hk.2) (.int .i64 ((rd_T59 l0_3 x70_3).f6.f1))) (fun _ hk => hk.2) (.slice A425_15 ((rd_T59 l0_3 x70_3).f6.f2).length c425_15)) (fun _ h_ => h_.1))) hb); have n1_ := aK_ (bB (g := gb406) (o := .cells #[.string a0_0, .slice A0_1 l0_1.length c0_1, .int .i64 a0_2, .slice (some ad425) l0_3.length c0_3, .int .i64 a0_4] 43 (0, 0)) (by (with_reducible repeat (first | refine bDN ?_ _ | refine bD ?_ | refine bA ?_ _)); refine blk_far ?_ NB406_426.out _; (with_reducible repeat (first | refine bDN ?_ _ | refine bD ?_ | refine bA ?_ _)); refine blk_far ?_ NB406_426.out _; (with_reducible repeat (first | refine bDN ?_ _ | refine bD ?_ | refine bA ?_ _)); refine blk_far ?_ NB406_426.out _; (with_reducible repeat (first | refine bDN ?_ _ | refine bD ?_ | refine bA ?_ _)); refine blk_far ?_ NB406_426.out _; (with_reducible repeat (first | refine bDN ?_ _ | refine bD ?_ | refine bA ?_ _)); refine blk_far ?_ NB406_426.out _; (with_reducible repeat (first | refine bDN ?_ _ | refine bD ?_ | refine bA ?_ _)); refine blk_far ?_ NB406_426.out _; (with_reducible repeat (first | refine bDN ?_ _ | refine bD ?_ | refine bA ?_ _)); refine blk_far ?_ NB406_426.out _; (with_reducible repeat (first | refine bDN ?_ _ | refine bD ?_ | refine bA ?_ _)); refine blk_far ?_ NB406_426.out _; (with_reducible repeat (first | refine bDN ?_ _ | refine bD ?_ | refine bA ?_ _)); refine blk_far ?_ NB406_426.out _; (with_reducible repeat (first | refine bDN ?_ _ | refine bD ?_ | refine bA ?_ _)); refine blk_far ?_ NB406_426.out _; (with_reducible repeat (first | refine bDN ?_ _ | refine bD ?_ | refine bA ?_ _)); refine blk_far ?_ NB406_426.out _; (with_reducible repeat (first | refine bDN ?_ _ | refine bD ?_ | refine bA ?_ _)); refine blk_far ?_ NB406_426.out _; (with_reducible repeat (first | refine bDN ?_ _ | refine bD ?_ | refine bA ?_ _)); refine blk_far ?_ NB406_426.out _; (with_reducible repeat (first | refine bDN ?_ _ | refine bD ?_ | refine bA ?_ _)); refine blk_far ?_ NB406_426.out _; (with_reducible repeat (first | refine bDN ?_ _ | refine bD ?_ | refine bA ?_ _)); refine blk_far ?_ NB406_426.out _; (with_reducible repeat (first | refine bDN ?_ _ | refine bD ?_ | refine bA ?_ _)); refine blk_far ?_ NB406_426.out _; (with_reducible repeat (first | refine bDN ?_ _ | refine bD ?_ | refine bA ?_ _)); exact BK406.out) hb); have n2_ := aK_ (bB (g := gb426) (o := .cells #[.int .i64 ((rd_T59 l0_3 x70_3).f0), .string ((rd_T59 l0_3 x70_3).f1.f0), .slice A425_2 ((rd_T59 l0_3 x70_3).f1.f1).length c425_2, .int .i64 ((rd_T59 l0_3 x70_3).f2), .int .i64 ((rd_T59 l0_3 x70_3).f3.f0), .string ((rd_T59 l0_3 x70_3).f3.f1), .int .i64 ((rd_T59 l0_3 x70_3).f3.f2), .int .i64 ((rd_T59 l0_3 x70_3).f4.f0), .string ((rd_T59 l0_3 x70_3).f4.f1), .int .i64 ((rd_T59 l0_3 x70_3).f4.f2), .string ((rd_T59 l0_3 x70_3).f5), .int .i64 ((rd_T59 l0_3 x70_3).f6.f0.f0), .string ((rd_T59 l0_3 x70_3).f6.f0.f1), .int .i64 ((rd_T59 l0_3 x70_3).f6.f0.f2), .int .i64 ((rd_T59 l0_3 x70_3).f6.f1), .slice A425_15 ((rd_T59 l0_3 x70_3).f6.f2).length c425_15] 59 (0, 0)) ((by apply eC_; (with_reducible repeat (first | refine bDN ?_ _ | refine bD ?_ | refine bA ?_ _)); apply b2_; (with_reducible repeat (first | refine bDN ?_ _ | refine bD ?_ | refine bA ?_ _)); apply b2_; (with_reducible repeat (first | refine bDN ?_ _ | refine bD ?_ | refine bA ?_ _)); apply b2_; (with_reducible repeat (first | refine bDN ?_ _ | refine bD ?_ | refine bA ?_ _)); apply b2_; (with_reducible repeat (first | refine bDN ?_ _ | refine bD ?_ | refine bA ?_ _)); apply b2_; (with_reducible repeat (first | refine bDN ?_ _ | refine bD ?_ | refine bA ?_ _)); apply b2_; (with_reducible repeat (first | refine bDN ?_ _ | refine bD ?_ | refine bA ?_ _)); apply b2_; (with_reducible repeat (first | refine bDN ?_ _ | refine bD ?_ | refine bA ?_ _)); apply b2_; (with_reducible repeat (first | refine bDN ?_ _ | refine bD ?_ | refine bA ?_ _)); apply b2_; (with_reducible repeat (first | refine bDN ?_ _ | refine bD ?_ | refine bA ?_ _)); apply b2_; (with_reducible repeat (first | refine bDN ?_ _ | refine bD ?_ | refine bA ?_ _)); apply b2_; (with_reducible repeat (first | refine bDN ?_ _ | refine bD ?_ | refine bA ?_ _)); apply b2_; (with_reducible repeat (first | refine bDN ?_ _ | refine bD ?_ | refine bA ?_ _)); apply b2_; (with_reducible repeat (first | refine bDN ?_ _ | refine bD ?_ | refine bA ?_ _)); apply b2_; (with_reducible repeat (first | refine bDN ?_ _ | refine bD ?_ | refine bA ?_ _)); apply b2_; (with_reducible repeat (first | refine bDN ?_ _ | refine bD ?_ | refine bA ?_ _)); apply b2_; (with_reducible repeat (first | refine bDN ?_ _ | refine bD ?_ | refine bA ?_ _)); exact BK426.out; kernel_rfl)) hb); have n3_ := aK_ (lT_ (by repeat (first | (with_reducible first | exact HB.out | apply lA_ | apply pD | apply lD_ | refine lS_ ?_ GE406.out | refine lS_ ?_ GE426.out) | exact HB.out)) hb); clear HO_8; clear BK406; clear BK426; clear HB; have HO_8 := n0_; have BK406 := n1_; have BK426 := n2_; have HB := n3_; clear n0_ n1_ n2_ n3_; (try clear hb); (try clear hb2); (try clear hk); (try clear hi)) | ((with_reducible refine gate_builtin (b := .append) (xs := #[.tmp 74, .tmp 77]) rfl ?_); at_builtin; refine Kd.R_append Kd.string (w0 := w) w.heap.size rfl (.tmp 74) (.tmp 77) 45 9 (.string ⟨#[]⟩) 16 rfl Tryd.underlying45 info9 rfl (by decide) (by omega) u8 x8_3 t427 [.string t427] (fun _ => True) (fun _ => False) rfl rfl ?aP (fun _ hk => hk.elim) ?aF ?aO ?aB ?aS ?aL ?_; (case aP => exact rfl); (case aB => exact (by repeat (first | (with_reducible first | exact HB.out | apply lA_ | apply pD | apply lD_ | refine lS_ ?_ GE406.out | refine lS_ ?_ GE426.out) | exact HB.out))); (case aF => exact (fun _ _ => trivial)); (case aO => exact (by (with_reducible repeat (first | apply Kd.R_alloc | apply Kd.R_drewN | apply Kd.R_drew)); exact HO_8.out)); (case aS => exact (lZ_ (by repeat (first | (with_reducible first | exact HB.out | apply lA_ | apply pD | apply lD_ | refine lS_ ?_ GE406.out | refine lS_ ?_ GE426.out) | exact HB.out)))); (case aL => have := LMc52.out; omega); intro v429 w57 ho hb hg hat; rw [← Ny428.out] at ho; have n0_ := aK_ (bG_ (g := gb406) (o := .cells #[.string a0_0, .slice A0_1 l0_1.length c0_1, .int .i64 a0_2, .slice (some ad425) l0_3.length c0_3, .int .i64 a0_4] 43 (0, 0)) (by (with_reducible repeat (first | refine bDN ?_ _ | refine bD ?_ | refine bA ?_ _)); exact BK406.out) hg (Kd.R_ne HO_8.out BK406.out (by decide))); have n1_ := aK_ (bG_ (g := gb426) (o := .cells #[.int .i64 ((rd_T59 l0_3 x70_3).f0), .string ((rd_T59 l0_3 x70_3).f1.f0), .slice A425_2 ((rd_T59 l0_3 x70_3).f1.f1).length c425_2, .int .i64 ((rd_T59 l0_3 x70_3).f2), .int .i64 ((rd_T59 l0_3 x70_3).f3.f0), .string ((rd_T59 l0_3 x70_3).f3.f1), .int .i64 ((rd_T59 l0_3 x70_3).f3.f2), .int .i64 ((rd_T59 l0_3 x70_3).f4.f0), .string ((rd_T59 l0_3 x70_3).f4.f1), .int .i64 ((rd_T59 l0_3 x70_3).f4.f2), .string ((rd_T59 l0_3 x70_3).f5), .int .i64 ((rd_T59 l0_3 x70_3).f6.f0.f0), .string ((rd_T59 l0_3 x70_3).f6.f0.f1), .int .i64 ((rd_T59 l0_3 x70_3).f6.f0.f2), .int .i64 ((rd_T59 l0_3 x70_3).f6.f1), .slice A425_15 ((rd_T59 l0_3 x70_3).f6.f2).length c425_15] 59 (0, 0)) (by (with_reducible repeat (first | refine bDN ?_ _ | refine bD ?_ | refine bA ?_ _)); exact BK426.out) hg (Kd.R_ne HO_8.out BK426.out (by decide))); have n2_ := aK_ (hb); have n3_ := aK_ (ho); clear BK406; clear BK426; clear HB; clear HO_8; have BK406 := n0_; have BK426 := n1_; have HB := n2_; have HO430 := n3_; clear n0_ n1_ n2_ n3_; clear ho hb hg hat))
           go_roundg k3
           case measure => have := HJ2.out; have := HJ9.out; have := HK3.out; omega
           case rel => exact ⟨(y428), (wrap64 (x70_3 + 1)), (by first | rfl | (simp; done) | (simp [*]; done)), H', ⟨by have := HJ2.out; have := HJ9.out; have := HK3.out; omega⟩, ⟨by (with_reducible repeat (first | apply Kd.R_alloc | apply Kd.R_drewN | apply Kd.R_drew)); exact HO430.out⟩, ⟨by (with_reducible repeat (first | refine bDN ?_ _ | refine bD ?_ | refine bA ?_ _)); exact BK406.out⟩, ⟨by repeat (first | (with_reducible first | exact HB.out | apply lA_ | apply pD | apply lD_ | refine lS_ ?_ GE406.out | refine lS_ ?_ GE426.out) | exact HB.out)⟩⟩
          ·rw [if_neg c52] at H
           exact absurd H (by simp)
         ·rw [if_neg c50] at H
          exact absurd H (by simp)
        ·rw [if_neg c49] at H
         exact absurd H (by simp)
       ·rw [if_neg c48] at H
        have c48b0 : decide (x70_3 < (l0_3.length : Int)) = false := decide_eq_false c48
        clear c48
        by_cases c58 : (x8_3.length : Int) > 0
        ·rw [if_pos c58] at H
         have c58b0 : decide (0 < (x8_3.length : Int)) = true := decide_eq_true c58
         have c58b1 : decide (0 < x8_3.length) = true := decide_eq_true (by omega)
         clear c58
         replace H := Option.bind_eq_some_iff.mp H
         obtain ⟨t431, A590, H⟩ := H
         replace H : (if 4 + t431.size ≤ 9223372036854775807 then (if x3_9.size + ((⟨#[32, 58, 45, 32]⟩ : ByteArray) ++ t431).size ≤ 9223372036854775807 then (if (x3_9 ++ ((⟨#[32, 58, 45, 32]⟩ : ByteArray) ++ t431)).size + 1 ≤ 9223372036854775807 then (some ((x3_9 ++ ((⟨#[32, 58, 45, 32]⟩ : ByteArray) ++ t431)) ++ (⟨#[46]⟩ : ByteArray))) else (none)) else (none)) else (none)) = some r := H
         have A59 := aK_ A590
         clear A590
         by_cases c60 : 4 + t431.size ≤ 9223372036854775807
         ·rw [if_pos c60] at H
          have c60b0 := eq_true c60
          have c60b1 : decide (4 + t431.size ≤ 9223372036854775807) = true := decide_eq_true c60
          try have c60b2 : (9223372036854775807 < 4 + t431.size) = False := eq_false (Nat.not_lt.2 c60)
          by_cases c61 : x3_9.size + ((⟨#[32, 58, 45, 32]⟩ : ByteArray) ++ t431).size ≤ 9223372036854775807
          ·rw [if_pos c61] at H
           have c61b0 := eq_true c61
           have c61b1 : decide (x3_9.size + ((⟨#[32, 58, 45, 32]⟩ : ByteArray) ++ t431).size ≤ 9223372036854775807) = true := decide_eq_true c61
           try have c61b2 : (9223372036854775807 < x3_9.size + ((⟨#[32, 58, 45, 32]⟩ : ByteArray) ++ t431).size) = False := eq_false (Nat.not_lt.2 c61)
           try have c61b4 : (9223372036854775807 < x3_9.size + (4 + t431.size)) = False := eq_false (Nat.not_lt.2 (by have h9 := c61; simp only [ByteArray.size_append] at h9; exact h9))
           by_cases c62 : (x3_9 ++ ((⟨#[32, 58, 45, 32]⟩ : ByteArray) ++ t431)).size + 1 ≤ 9223372036854775807
           ·rw [if_pos c62] at H
            have c62b0 := eq_true c62
            have c62b1 : decide ((x3_9 ++ ((⟨#[32, 58, 45, 32]⟩ : ByteArray) ++ t431)).size + 1 ≤ 9223372036854775807) = true := decide_eq_true c62
            try have c62b2 : (9223372036854775807 < (x3_9 ++ ((⟨#[32, 58, 45, 32]⟩ : ByteArray) ++ t431)).size + 1) = False := eq_false (Nat.not_lt.2 c62)
            try have c62b4 : (9223372036854775807 < x3_9.size + (4 + t431.size) + 1) = False := eq_false (Nat.not_lt.2 (by have h9 := c62; simp only [ByteArray.size_append] at h9; exact h9))
            obtain rfl := Option.some.inj H
            obtain ⟨Ao63, co63, eo63⟩ := Kd.R_slice HO_8.out
            subst eo63
            go_wp2_with (first | ((with_reducible refine gate_callee (f := 46) rfl ?_); refine goesL_ (some 85) rfl rfl Tryd.func46 (by kernel_rfl) rfl #[.slice Ao63 x8_3.length co63, .string (⟨#[44, 32]⟩ : ByteArray)] rfl (by (try simp only [List.map_toArray, List.map_cons, List.map_nil]); first | done | rfl | (simp only [List.length_drop, List.length_take]; rfl)) ?_; (with_reducible refine (strings_Join.calls _ _ x8_3 (⟨#[44, 32]⟩ : ByteArray) t431 _ ?side1 ?side2 A59.out).mono ?_); (case side1 => repeat (first | exact (Kd.R_reads' HO_8.out).2.2 | (with_reducible refine Kd.C_alloc ?_ _) | (with_reducible refine Kd.C_drewN ?_ _) | (with_reducible refine Kd.C_drew ?_))); (case side2 => exact (Kd.R_reads' HO_8.out).2.1); rintro e w64 ⟨rfl, hb⟩; refine ⟨_, rfl, ?_⟩; have n0_ := aK_ (Kd.R_below (by (with_reducible repeat (first | apply Kd.R_alloc | apply Kd.R_drewN | apply Kd.R_drew)); exact HO_8.out) hb); have n1_ := aK_ (bB (by (with_reducible repeat (first | refine bDN ?_ _ | refine bD ?_ | refine bA ?_ _)); exact BK406.out) hb); have n2_ := aK_ (lT_ (by repeat (first | (with_reducible first | exact HB.out | apply lA_ | apply pD | apply lD_ | refine lS_ ?_ GE406.out) | exact HB.out)) hb); clear HO_8; clear BK406; clear HB; have HO_8 := n0_; have BK406 := n1_; have HB := n2_; clear n0_ n1_ n2_; (try clear hb); (try clear hb2); (try clear hk); (try clear hi)))
            go_ret
            exact ⟨by first | rfl | (simp [errW_none, errW_some] <;> rfl) | (simp [*, errW_none, errW_some] <;> rfl), by repeat (first | (with_reducible first | exact HB.out | apply lA_ | apply pD | apply lD_ | refine lS_ ?_ GE406.out) | exact HB.out)⟩
           ·rw [if_neg c62] at H
            exact absurd H (by simp)
          ·rw [if_neg c61] at H
           exact absurd H (by simp)
         ·rw [if_neg c60] at H
          exact absurd H (by simp)
        ·rw [if_neg c58] at H
         have c58b0 : decide (0 < (x8_3.length : Int)) = false := decide_eq_false c58
         have c58b1 : decide (0 < x8_3.length) = false := decide_eq_false (by omega)
         clear c58
         by_cases c65 : x3_9.size + 1 ≤ 9223372036854775807
         ·rw [if_pos c65] at H
          have c65b0 := eq_true c65
          have c65b1 : decide (x3_9.size + 1 ≤ 9223372036854775807) = true := decide_eq_true c65
          try have c65b2 : (9223372036854775807 < x3_9.size + 1) = False := eq_false (Nat.not_lt.2 c65)
          obtain rfl := Option.some.inj H
          obtain ⟨Ao66, co66, eo66⟩ := Kd.R_slice HO_8.out
          subst eo66
          go_wp2
          go_ret
          exact ⟨by first | rfl | (simp [errW_none, errW_some] <;> rfl) | (simp [*, errW_none, errW_some] <;> rfl), by repeat (first | (with_reducible first | exact HB.out | apply lA_ | apply pD | apply lD_ | refine lS_ ?_ GE406.out) | exact HB.out)⟩
         ·rw [if_neg c65] at H
          exact absurd H (by simp)
end Go.Proofs.YtdbpboipiceifaaDoorPSP
