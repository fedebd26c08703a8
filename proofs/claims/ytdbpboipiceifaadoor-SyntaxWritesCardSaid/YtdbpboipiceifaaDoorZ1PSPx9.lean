import Derived.Test.YtdbpboipiceifaaDoorZ1PSPx0
import Derived.Test.YtdbpboipiceifaaDoorZ1PSPx8
namespace Go.Proofs.YtdbpboipiceifaaDoorPSP
open Go.RowKit Go.Proofs.YtdbpboipiceifaaDoorW.PrintWords Go.Proofs.YtdbpboipiceifaaDoorW.PrintLast Go.Proofs.YtdbpboipiceifaaDoorW.PrintMore
attribute [local go_sem] max2_int min2_int max_two min_two max_three min_three max_four min_four   -- for this text's walks alone
set_option linter.unusedVariables false
set_option linter.unusedSimpArgs false
mutual
def ergolaw13_expr.j0 : Nat → ByteArray → Bool → Int → ByteArray → Int → Int → List (S57) → Option (ByteArray)
 | 0, _, _, _, _, _, _, _ => none
 | k + 1, x3, x4, x346000, x346001, x346002, x346003, x346004 => ergolaw13_expr.l0 k x3 x4 x346004 (x346004.length : Int) 0 x346000 x346001 x346002 x346003 x346004
def ergolaw13_expr.l0 : Nat → ByteArray → Bool → List (S57) → Int → Int → Int → ByteArray → Int → Int → List (S57) → Option (ByteArray)
 | 0, _, _, _, _, _, _, _, _, _, _ => none
 | k + 1, x3, x4, x25, x26, x27, x346000, x346001, x346002, x346003, x346004 => if x27 < x26 then (if 0 ≤ x27 then (if x27 < (x25.length : Int) then ((ergolaw13_expr.f k ((rd_T57 x25 x27).f0.f0) ((rd_T57 x25 x27).f0.f1) ((rd_T57 x25 x27).f0.f2) ((rd_T57 x25 x27).f1) ((rd_T57 x25 x27).f2)).bind fun t349 => (if ((rd_T57 x25 x27).f1) = 0 then (ergolaw13_expr.j2 k x3 x4 x27 t349 true x25 x26 x27 x346000 x346001 x346002 x346003 x346004 ((rd_T57 x25 x27).f0.f0) ((rd_T57 x25 x27).f0.f1) ((rd_T57 x25 x27).f0.f2) ((rd_T57 x25 x27).f1) ((rd_T57 x25 x27).f2)) else (ergolaw13_expr.j2 k x3 x4 x27 t349 (((rd_T57 x25 x27).f1) == 1) x25 x26 x27 x346000 x346001 x346002 x346003 x346004 ((rd_T57 x25 x27).f0.f0) ((rd_T57 x25 x27).f0.f1) ((rd_T57 x25 x27).f0.f2) ((rd_T57 x25 x27).f1) ((rd_T57 x25 x27).f2)))) else (none)) else (none)) else (some x3)
def ergolaw13_expr.j2 : Nat → ByteArray → Bool → Int → ByteArray → Bool → List (S57) → Int → Int → Int → ByteArray → Int → Int → List (S57) → Int → ByteArray → Int → Int → List (S57) → Option (ByteArray)
 | 0, _, _, _, _, _, _, _, _, _, _, _, _, _, _, _, _, _, _ => none
 | k + 1, x3, x4, x5, x7, x8, x25, x26, x27, x346000, x346001, x346002, x346003, x346004, x349000, x349001, x349002, x349003, x349004 => if (x349004.length : Int) = 2 then (if x8 = true then (if x4 = true then (if x5 = 1 then (ergolaw13_expr.j3 k x3 x4 x5 x7 x25 x26 x27 (x8 == x4) x346000 x346001 x346002 x346003 x346004) else (ergolaw13_expr.j3 k x3 x4 x5 x7 x25 x26 x27 false x346000 x346001 x346002 x346003 x346004)) else (ergolaw13_expr.j3 k x3 x4 x5 x7 x25 x26 x27 true x346000 x346001 x346002 x346003 x346004)) else (if x5 = 1 then (ergolaw13_expr.j3 k x3 x4 x5 x7 x25 x26 x27 (x8 == x4) x346000 x346001 x346002 x346003 x346004) else (ergolaw13_expr.j3 k x3 x4 x5 x7 x25 x26 x27 false x346000 x346001 x346002 x346003 x346004))) else (ergolaw13_expr.j3 k x3 x4 x5 x7 x25 x26 x27 false x346000 x346001 x346002 x346003 x346004)
def ergolaw13_expr.j3 : Nat → ByteArray → Bool → Int → ByteArray → List (S57) → Int → Int → Bool → Int → ByteArray → Int → Int → List (S57) → Option (ByteArray)
 | 0, _, _, _, _, _, _, _, _, _, _, _, _, _ => none
 | k + 1, x3, x4, x5, x7, x25, x26, x27, x61, x346000, x346001, x346002, x346003, x346004 => if x61 = true then (if 1 + x7.size ≤ 9223372036854775807 then (if ((⟨#[40]⟩ : ByteArray) ++ x7).size + 1 ≤ 9223372036854775807 then (if x5 = 1 then (if x3.size + 1 ≤ 9223372036854775807 then ((arith_Op_Sign.f x346003).bind fun t350 => (if (x3 ++ (⟨#[32]⟩ : ByteArray)).size + t350.size ≤ 9223372036854775807 then (if ((x3 ++ (⟨#[32]⟩ : ByteArray)) ++ t350).size + 1 ≤ 9223372036854775807 then (if (((x3 ++ (⟨#[32]⟩ : ByteArray)) ++ t350) ++ (⟨#[32]⟩ : ByteArray)).size + (((⟨#[40]⟩ : ByteArray) ++ x7) ++ (⟨#[41]⟩ : ByteArray)).size ≤ 9223372036854775807 then (ergolaw13_expr.l0 k ((((x3 ++ (⟨#[32]⟩ : ByteArray)) ++ t350) ++ (⟨#[32]⟩ : ByteArray)) ++ (((⟨#[40]⟩ : ByteArray) ++ x7) ++ (⟨#[41]⟩ : ByteArray))) x4 x25 x26 (wrap64 (x27 + 1)) x346000 x346001 x346002 x346003 x346004) else (none)) else (none)) else (none))) else (none)) else (if x3.size + (((⟨#[40]⟩ : ByteArray) ++ x7) ++ (⟨#[41]⟩ : ByteArray)).size ≤ 9223372036854775807 then (ergolaw13_expr.l0 k (x3 ++ (((⟨#[40]⟩ : ByteArray) ++ x7) ++ (⟨#[41]⟩ : ByteArray))) x4 x25 x26 (wrap64 (x27 + 1)) x346000 x346001 x346002 x346003 x346004) else (none))) else (none)) else (none)) else (if x5 = 1 then (if x3.size + 1 ≤ 9223372036854775807 then ((arith_Op_Sign.f x346003).bind fun t351 => (if (x3 ++ (⟨#[32]⟩ : ByteArray)).size + t351.size ≤ 9223372036854775807 then (if ((x3 ++ (⟨#[32]⟩ : ByteArray)) ++ t351).size + 1 ≤ 9223372036854775807 then (if (((x3 ++ (⟨#[32]⟩ : ByteArray)) ++ t351) ++ (⟨#[32]⟩ : ByteArray)).size + x7.size ≤ 9223372036854775807 then (ergolaw13_expr.l0 k ((((x3 ++ (⟨#[32]⟩ : ByteArray)) ++ t351) ++ (⟨#[32]⟩ : ByteArray)) ++ x7) x4 x25 x26 (wrap64 (x27 + 1)) x346000 x346001 x346002 x346003 x346004) else (none)) else (none)) else (none))) else (none)) else (if x3.size + x7.size ≤ 9223372036854775807 then (ergolaw13_expr.l0 k (x3 ++ x7) x4 x25 x26 (wrap64 (x27 + 1)) x346000 x346001 x346002 x346003 x346004) else (none)))
def ergolaw13_expr.f : Nat → Int → ByteArray → Int → Int → List (S57) → Option (ByteArray)
 | 0, _, _, _, _, _ => none
 | k + 1, a0_0, a0_1, a0_2, a0_3, l0_4 => if (l0_4.length : Int) = 2 then (if a0_3 = 0 then (ergolaw13_expr.j0 k (⟨#[]⟩ : ByteArray) true a0_0 a0_1 a0_2 a0_3 l0_4) else (ergolaw13_expr.j0 k (⟨#[]⟩ : ByteArray) (a0_3 == 1) a0_0 a0_1 a0_2 a0_3 l0_4)) else ((ergolaw13_text.f k a0_0 a0_1 a0_2).bind fun t346 => (some t346))
end
set_option maxHeartbeats 8000000 in
set_option maxRecDepth 100000 in
theorem ergolaw13_expr.calls (k : Nat) : ∀ (a0_0 : Int) (a0_1 : ByteArray) (a0_2 : Int) (a0_3 : Int) (A0_4 : Option Addr) (c0_4 : Nat) (l0_4 : List (S57)) (r : ByteArray) (w : World) (hr0_4 : Kd.C k57 w A0_4 l0_4.length l0_4) (hc0_4 : l0_4.length ≤ c0_4) (h : ergolaw13_expr.f k a0_0 a0_1 a0_2 a0_3 l0_4 = some r) (hG : Go.Proofs.YtdbpboipiceifaaDoor.TabT w),
  Calls Tryd.prog 73 #[.agg #[.int .i64 a0_0, .string a0_1, .int .i64 a0_2, .int .i64 a0_3, .slice A0_4 l0_4.length c0_4]] w fun e w' => e = .returned (.string r) ∧ Below w.heap.size w w' := by
 induction k using Nat.strongRecOn with
 | _ k ih =>
 intro a0_0 a0_1 a0_2 a0_3 A0_4 c0_4 l0_4 r w hr0_4 hc0_4 h hG
 cases k with
 | zero => exact absurd h (by simp [ergolaw13_expr.f])
 | succ k =>
 simp only [ergolaw13_expr.f] at h
 have hu57 := Tryd.underlying57
 have hu53 := Tryd.underlying53
 have HR0_4 := aK_ hr0_4
 have HC0_4 := aK_ hc0_4
 clear hr0_4 hc0_4
 have HB := aK_ (Below.refl w.heap.size w)
 have H : (if (l0_4.length : Int) = 2 then (if a0_3 = 0 then (ergolaw13_expr.j0 k (⟨#[]⟩ : ByteArray) true a0_0 a0_1 a0_2 a0_3 l0_4) else (ergolaw13_expr.j0 k (⟨#[]⟩ : ByteArray) (a0_3 == 1) a0_0 a0_1 a0_2 a0_3 l0_4)) else ((ergolaw13_text.f k a0_0 a0_1 a0_2).bind fun t346 => (some t346))) = some r := h
 clear h
 by_cases c2 : (l0_4.length : Int) = 2
 ·rw [if_pos c2] at H
  have c2b0 : ((l0_4.length : Int) == 2) = true := beq_iff_eq.mpr c2
  have c2b1 : ((l0_4.length : Int) != 2) = false := bne_eq_false_iff_eq.mpr c2
  clear c2
  have HC3 := aK_ H
  clear H
  go_enter Tryd.func73, Tryd.ntmps73
  go_upto_region 4 with (first | ((with_reducible refine gate_dst (N := 1) rfl ?_); refine box_event ?hg (N := 1) ?hd (cs := #[.int .i64 a0_0, .string a0_1, .int .i64 a0_2, .int .i64 a0_3, .slice A0_4 l0_4.length c0_4]) (t := 57) ?hr ?_; (case hd => rfl); (case hg => rfl); (case hr => first | (go_simp; done) | (go_simp; rfl)); intro gb345 hg w4 hbox hb; have n0_ := aK_ (lT_ (by repeat (first | (with_reducible first | exact HB.out | apply lA_ | apply pD | apply lD_) | exact HB.out)) hb); have n1_ := aK_ (hbox); have n2_ := aK_ ((by rw [hg]; exact (lZ_ (by repeat (first | (with_reducible first | exact HB.out | apply lA_ | apply pD | apply lD_) | exact HB.out))) : w.heap.size ≤ gb345)); have n3_ := aK_ ((by rw [hg]; exact (lZ_ (by repeat (first | (with_reducible first | exact HB.out | apply lA_ | apply pD | apply lD_) | exact HB.out))) : w.heap.size ≤ gb345)); clear HB; have HB := n0_; have BK345 := n1_; have GW345 := n2_; have GE345 := n3_; clear n0_ n1_ n2_ n3_; clear hb hbox hg; have hcz5_0 : w4.cell? ⟨gb345, 0, none⟩ = some (.int .i64 a0_0) := (bC BK345.out 0).trans rfl; have hcz5_1 : w4.cell? ⟨gb345, 1, none⟩ = some (.string a0_1) := (bC BK345.out 1).trans rfl; have hcz5_2 : w4.cell? ⟨gb345, 2, none⟩ = some (.int .i64 a0_2) := (bC BK345.out 2).trans rfl; have hcz5_3 : w4.cell? ⟨gb345, 3, none⟩ = some (.int .i64 a0_3) := (bC BK345.out 3).trans rfl; have hcz5_4 : w4.cell? ⟨gb345, 4, none⟩ = some (.slice A0_4 l0_4.length c0_4) := (bC BK345.out 4).trans rfl; have hfz5_0 := bF BK345.out 0; have hfz5_1 := bF BK345.out 1; have hfz5_2 := bF BK345.out 2; have hfz5_3 := bF BK345.out 3; have hfz5_4 := bF BK345.out 4))
  (try simp only [Act.put, sA_, sZ_, sS_])
  go_cut [4] (fun v4 wc => ∃ (kq : Nat) (x4_2 : Bool), v4 = .bool x4_2 ∧ Aside0 (ergolaw13_expr.j0 kq (⟨#[]⟩ : ByteArray) x4_2 a0_0 a0_1 a0_2 a0_3 l0_4 = some r) ∧ Aside0 (kq ≤ k) ∧ Aside0 (wc.heap[gb345]? = some (.cells #[.int .i64 a0_0, .string a0_1, .int .i64 a0_2, .int .i64 a0_3, (.slice A0_4 l0_4.length c0_4)] 57 (0, 0))) ∧ Aside0 (Below w.heap.size w wc))
  case first =>
   have H := HC3.out
   clear HC3
   by_cases c6 : a0_3 = 0
   ·rw [if_pos c6] at H
    have c6b0 : (a0_3 == 0) = true := beq_iff_eq.mpr c6
    have c6b1 : (a0_3 != 0) = false := bne_eq_false_iff_eq.mpr c6
    clear c6
    (first | rw [c6b0] | (simp only [i64_w, i32_w]; rw [c6b0]) | skip)
    have H' := aK_ H
    clear H
    have hcz7_0 : w4.cell? ⟨gb345, 0, none⟩ = some (.int .i64 a0_0) := (bC BK345.out 0).trans rfl
    have hcz7_1 : w4.cell? ⟨gb345, 1, none⟩ = some (.string a0_1) := (bC BK345.out 1).trans rfl
    have hcz7_2 : w4.cell? ⟨gb345, 2, none⟩ = some (.int .i64 a0_2) := (bC BK345.out 2).trans rfl
    have hcz7_3 : w4.cell? ⟨gb345, 3, none⟩ = some (.int .i64 a0_3) := (bC BK345.out 3).trans rfl
    have hcz7_4 : w4.cell? ⟨gb345, 4, none⟩ = some (.slice A0_4 l0_4.length c0_4) := (bC BK345.out 4).trans rfl
    have hfz7_0 := bF BK345.out 0
    have hfz7_1 := bF BK345.out 1
    have hfz7_2 := bF BK345.out 2
    have hfz7_3 := bF BK345.out 3
    have hfz7_4 := bF BK345.out 4
    go_wp2
    go_meet
    case rel => exact ⟨_, (true), (by first | rfl | (simp; done) | (simp [*]; done)), H', ⟨by first | omega | exact Nat.le_refl _⟩, ⟨by (with_reducible repeat (first | refine bDN ?_ _ | refine bD ?_ | refine bA ?_ _)); exact BK345.out⟩, ⟨by repeat (first | (with_reducible first | exact HB.out | apply lA_ | apply pD | apply lD_ | refine lS_ ?_ GE345.out) | exact HB.out)⟩⟩
   ·rw [if_neg c6] at H
    have c6b0 : (a0_3 == 0) = false := beq_eq_false_iff_ne.mpr c6
    have c6b1 : (a0_3 != 0) = true := bne_iff_ne.mpr c6
    (first | rw [c6b0] | (simp only [i64_w, i32_w]; rw [c6b0]) | skip)
    have H' := aK_ H
    clear H
    have hcz8_0 : w4.cell? ⟨gb345, 0, none⟩ = some (.int .i64 a0_0) := (bC BK345.out 0).trans rfl
    have hcz8_1 : w4.cell? ⟨gb345, 1, none⟩ = some (.string a0_1) := (bC BK345.out 1).trans rfl
    have hcz8_2 : w4.cell? ⟨gb345, 2, none⟩ = some (.int .i64 a0_2) := (bC BK345.out 2).trans rfl
    have hcz8_3 : w4.cell? ⟨gb345, 3, none⟩ = some (.int .i64 a0_3) := (bC BK345.out 3).trans rfl
    have hcz8_4 : w4.cell? ⟨gb345, 4, none⟩ = some (.slice A0_4 l0_4.length c0_4) := (bC BK345.out 4).trans rfl
    have hfz8_0 := bF BK345.out 0
    have hfz8_1 := bF BK345.out 1
    have hfz8_2 := bF BK345.out 2
    have hfz8_3 := bF BK345.out 3
    have hfz8_4 := bF BK345.out 4
    go_wp2
    go_meet
    case rel => exact ⟨_, ((a0_3 == 1)), (by first | rfl | (simp; done) | (simp [*]; done)), H', ⟨by first | omega | exact Nat.le_refl _⟩, ⟨by (with_reducible repeat (first | refine bDN ?_ _ | refine bD ?_ | refine bA ?_ _)); exact BK345.out⟩, ⟨by repeat (first | (with_reducible first | exact HB.out | apply lA_ | apply pD | apply lD_ | refine lS_ ?_ GE345.out) | exact HB.out)⟩⟩
  case rest =>
   clear HC3
   try clear c2
   try clear c2b0
   try clear c2b1
   try clear p2
   try clear c6
   try clear c6b0
   try clear c6b1
   try clear c7
   try clear hcz5_0
   try clear hcz5_1
   try clear hcz5_2
   try clear hcz5_3
   try clear hcz5_4
   try clear hcz7_0
   try clear hcz7_1
   try clear hcz7_2
   try clear hcz7_3
   try clear hcz7_4
   try clear hcz8_0
   try clear hcz8_1
   try clear hcz8_2
   try clear hcz8_3
   try clear hcz8_4
   try clear hfz5_0
   try clear hfz5_1
   try clear hfz5_2
   try clear hfz5_3
   try clear hfz5_4
   try clear hfz7_0
   try clear hfz7_1
   try clear hfz7_2
   try clear hfz7_3
   try clear hfz7_4
   try clear hfz8_0
   try clear hfz8_1
   try clear hfz8_2
   try clear hfz8_3
   try clear hfz8_4
   obtain ⟨kq, x4_2, rfl, HA, HJ2, BK345, HB⟩ := hcut
   cases kq with
   | zero => exact absurd HA.out (by simp [ergolaw13_expr.j0])
   | succ kj2 =>
    have H := HA.out
    clear HA
    simp only [ergolaw13_expr.j0] at H
    have H' := aK_ H
    clear H
    have hcz9_0 : wc.cell? ⟨gb345, 0, none⟩ = some (.int .i64 a0_0) := (bC BK345.out 0).trans rfl
    have hcz9_1 : wc.cell? ⟨gb345, 1, none⟩ = some (.string a0_1) := (bC BK345.out 1).trans rfl
    have hcz9_2 : wc.cell? ⟨gb345, 2, none⟩ = some (.int .i64 a0_2) := (bC BK345.out 2).trans rfl
    have hcz9_3 : wc.cell? ⟨gb345, 3, none⟩ = some (.int .i64 a0_3) := (bC BK345.out 3).trans rfl
    have hcz9_4 : wc.cell? ⟨gb345, 4, none⟩ = some (.slice A0_4 l0_4.length c0_4) := (bC BK345.out 4).trans rfl
    have hfz9_0 := bF BK345.out 0
    have hfz9_1 := bF BK345.out 1
    have hfz9_2 := bF BK345.out 2
    have hfz9_3 := bF BK345.out 3
    have hfz9_4 := bF BK345.out 4
    go_wp2
    go_loopg [3, 27] kj2 (fun kq v3 v27 w' => ∃ (x3_2 : ByteArray) (x27_2 : Int), v3 = .string x3_2 ∧ v27 = .int .i64 x27_2 ∧ Aside0 (ergolaw13_expr.l0 kq x3_2 x4_2 l0_4 (l0_4.length : Int) x27_2 a0_0 a0_1 a0_2 a0_3 l0_4 = some r) ∧ Aside0 (kq ≤ kj2) ∧ Aside0 (w'.heap[gb345]? = some (.cells #[.int .i64 a0_0, .string a0_1, .int .i64 a0_2, .int .i64 a0_3, (.slice A0_4 l0_4.length c0_4)] 57 (0, 0))) ∧ Aside0 (Below w.heap.size w w'))
    case atStart => exact ⟨((⟨#[]⟩ : ByteArray)), (0), (by first | rfl | (simp; done) | (simp [*]; done)), (by first | rfl | (simp; done) | (simp [*]; done)), H', ⟨Nat.le_refl _⟩, ⟨by (with_reducible repeat (first | refine bDN ?_ _ | refine bD ?_ | refine bA ?_ _)); exact BK345.out⟩, ⟨by repeat (first | (with_reducible first | exact HB.out | apply lA_ | apply pD | apply lD_ | refine lS_ ?_ GE345.out) | exact HB.out)⟩⟩
    case round =>
     clear H'
     try clear c2
     try clear c2b0
     try clear c2b1
     try clear p2
     try clear c6
     try clear c6b0
     try clear c6b1
     try clear c7
     try clear hcz5_0
     try clear hcz5_1
     try clear hcz5_2
     try clear hcz5_3
     try clear hcz5_4
     try clear hcz7_0
     try clear hcz7_1
     try clear hcz7_2
     try clear hcz7_3
     try clear hcz7_4
     try clear hcz8_0
     try clear hcz8_1
     try clear hcz8_2
     try clear hcz8_3
     try clear hcz8_4
     try clear hcz9_0
     try clear hcz9_1
     try clear hcz9_2
     try clear hcz9_3
     try clear hcz9_4
     try clear hfz5_0
     try clear hfz5_1
     try clear hfz5_2
     try clear hfz5_3
     try clear hfz5_4
     try clear hfz7_0
     try clear hfz7_1
     try clear hfz7_2
     try clear hfz7_3
     try clear hfz7_4
     try clear hfz8_0
     try clear hfz8_1
     try clear hfz8_2
     try clear hfz8_3
     try clear hfz8_4
     try clear hfz9_0
     try clear hfz9_1
     try clear hfz9_2
     try clear hfz9_3
     try clear hfz9_4
     try clear p2
     obtain ⟨x3_2, x27_2, rfl, rfl, HA, HK2, BK345, HB⟩ := hrel
     cases gk with
     | zero => exact absurd HA.out (by simp [ergolaw13_expr.l0])
     | succ k2 =>
      have H := HA.out
      clear HA
      simp only [ergolaw13_expr.l0] at H
      by_cases c10 : x27_2 < (l0_4.length : Int)
      ·rw [if_pos c10] at H
       have c10b0 : decide (x27_2 < (l0_4.length : Int)) = true := decide_eq_true c10
       clear c10
       by_cases c11 : 0 ≤ x27_2
       ·rw [if_pos c11] at H
        have c11b0 : decide (0 ≤ x27_2) = true := decide_eq_true c11
        clear c11
        by_cases c12 : x27_2 < (l0_4.length : Int)
        ·rw [if_pos c12] at H
         have c12b0 : decide (x27_2 < (l0_4.length : Int)) = true := decide_eq_true c12
         clear c12
         replace H := Option.bind_eq_some_iff.mp H
         obtain ⟨t349, A130, H⟩ := H
         replace H : (if ((rd_T57 l0_4 x27_2).f1) = 0 then (ergolaw13_expr.j2 k2 x3_2 x4_2 x27_2 t349 true l0_4 (l0_4.length : Int) x27_2 a0_0 a0_1 a0_2 a0_3 l0_4 ((rd_T57 l0_4 x27_2).f0.f0) ((rd_T57 l0_4 x27_2).f0.f1) ((rd_T57 l0_4 x27_2).f0.f2) ((rd_T57 l0_4 x27_2).f1) ((rd_T57 l0_4 x27_2).f2)) else (ergolaw13_expr.j2 k2 x3_2 x4_2 x27_2 t349 (((rd_T57 l0_4 x27_2).f1) == 1) l0_4 (l0_4.length : Int) x27_2 a0_0 a0_1 a0_2 a0_3 l0_4 ((rd_T57 l0_4 x27_2).f0.f0) ((rd_T57 l0_4 x27_2).f0.f1) ((rd_T57 l0_4 x27_2).f0.f2) ((rd_T57 l0_4 x27_2).f1) ((rd_T57 l0_4 x27_2).f2))) = some r := H
         have A13 := aK_ A130
         clear A130
         have HC14 := aK_ H
         clear H
         have p347 : 0 ≤ (x27_2 : Int) := of_decide_eq_true (by first | (with_reducible assumption) | assumption)
         have q347 : x27_2 < (l0_4.length : Int) := of_decide_eq_true (by first | (with_reducible assumption) | assumption)
         obtain ⟨ad347, A347_4, c347_4, e347, hx347_0, hx347_1, hx347_2, hx347_3, hx347_4, hl347_4, hi347_4⟩ := at_T57 HR0_4.out x27_2 p347 q347
         cases e347
         replace hx347_0 := (HB.out.cell (wb_ w _ hx347_0)).trans hx347_0
         replace hx347_1 := (HB.out.cell (wb_ w _ hx347_1)).trans hx347_1
         replace hx347_2 := (HB.out.cell (wb_ w _ hx347_2)).trans hx347_2
         replace hx347_3 := (HB.out.cell (wb_ w _ hx347_3)).trans hx347_3
         replace hx347_4 := (HB.out.cell (wb_ w _ hx347_4)).trans hx347_4
         have HR347_4 := aK_ hi347_4
         have HC347_4 := aK_ hl347_4
         clear hi347_4 hl347_4
         replace p347 := eq_true p347
         replace q347 := eq_true q347
         go_upto_region 9 with (first | ((with_reducible refine gate_dst (N := 6) rfl ?_); refine box_event ?hg (N := 6) ?hd (cs := #[.int .i64 0, .string (⟨#[]⟩ : ByteArray), .int .i64 0, .int .i64 0, .slice none 0 0]) (t := 57) ?hr ?_; (case hd => rfl); (case hg => rfl); (case hr => first | (go_simp; done) | (go_simp; rfl)); intro gb348 hg w15 hbox hb; have n0_ := aK_ (bB (by (with_reducible repeat (first | refine bDN ?_ _ | refine bD ?_ | refine bA ?_ _)); exact BK345.out) hb); have n1_ := aK_ (lT_ (by repeat (first | (with_reducible first | exact HB.out | apply lA_ | apply pD | apply lD_ | refine lS_ ?_ GE345.out) | exact HB.out)) hb); have n2_ := aK_ (hbox); have n3_ := aK_ ((by rw [hg]; exact (lZ_ (by repeat (first | (with_reducible first | exact HB.out | apply lA_ | apply pD | apply lD_ | refine lS_ ?_ GE345.out) | exact HB.out))) : w.heap.size ≤ gb348)); have n4_ := aK_ ((by rw [hg]; exact (lZ_ (by repeat (first | (with_reducible first | exact HB.out | apply lA_ | apply pD | apply lD_ | refine lS_ ?_ GE345.out) | exact HB.out))) : w.heap.size ≤ gb348)); have n5_ := aK_ ((by rw [hg]; exact Nat.ne_of_lt (blk_lt (g := gb345) (o := .cells #[.int .i64 a0_0, .string a0_1, .int .i64 a0_2, .int .i64 a0_3, .slice (some ad347) l0_4.length c0_4] 57 (0, 0)) (by (with_reducible repeat (first | refine bDN ?_ _ | refine bD ?_ | refine bA ?_ _)); exact BK345.out)) : gb345 ≠ gb348)); have n6_ := aK_ ((by rw [hg]; exact Nat.ne_of_gt (blk_lt (g := gb345) (o := .cells #[.int .i64 a0_0, .string a0_1, .int .i64 a0_2, .int .i64 a0_3, .slice (some ad347) l0_4.length c0_4] 57 (0, 0)) (by (with_reducible repeat (first | refine bDN ?_ _ | refine bD ?_ | refine bA ?_ _)); exact BK345.out)) : gb348 ≠ gb345)); clear BK345; clear HB; have BK345 := n0_; have HB := n1_; have BK348 := n2_; have GW348 := n3_; have GE348 := n4_; have NB345_348 := n5_; have NB348_345 := n6_; clear n0_ n1_ n2_ n3_ n4_ n5_ n6_; clear hb hbox hg; have hnb16 := NB348_345.out; have hnc16 := NB345_348.out; have hcz17_0 : w15.cell? ⟨gb348, 0, none⟩ = some (.int .i64 0) := (bC BK348.out 0).trans rfl; have hcz17_1 : w15.cell? ⟨gb348, 1, none⟩ = some (.string (⟨#[]⟩ : ByteArray)) := (bC BK348.out 1).trans rfl; have hcz17_2 : w15.cell? ⟨gb348, 2, none⟩ = some (.int .i64 0) := (bC BK348.out 2).trans rfl; have hcz17_3 : w15.cell? ⟨gb348, 3, none⟩ = some (.int .i64 0) := (bC BK348.out 3).trans rfl; have hcz17_4 : w15.cell? ⟨gb348, 4, none⟩ = some (.slice none 0 0) := (bC BK348.out 4).trans rfl; have hfz17_0 := bF BK348.out 0; have hfz17_1 := bF BK348.out 1; have hfz17_2 := bF BK348.out 2; have hfz17_3 := bF BK348.out 3; have hfz17_4 := bF BK348.out 4) | ((with_reducible refine gate_callee (f := 73) rfl ?_); refine goesL_ (some 33) rfl rfl Tryd.func73 (by kernel_rfl) rfl #[.agg #[.int .i64 ((rd_T57 l0_4 x27_2).f0.f0), .string ((rd_T57 l0_4 x27_2).f0.f1), .int .i64 ((rd_T57 l0_4 x27_2).f0.f2), .int .i64 ((rd_T57 l0_4 x27_2).f1), .slice A347_4 ((rd_T57 l0_4 x27_2).f2).length c347_4]] rfl (by (try simp only [List.map_toArray, List.map_cons, List.map_nil]); first | done | rfl | (simp only [List.length_drop, List.length_take]; rfl)) ?_; (with_reducible refine (ih k2 (by have := HJ2.out; have := HK2.out; omega) ((rd_T57 l0_4 x27_2).f0.f0) ((rd_T57 l0_4 x27_2).f0.f1) ((rd_T57 l0_4 x27_2).f0.f2) ((rd_T57 l0_4 x27_2).f1) _ _ ((rd_T57 l0_4 x27_2).f2) t349 _ ?side1 ?side2 A13.out ?hGl).mono ?_); (case side1 => exact Kd.C_below HR347_4.out (by repeat (first | (with_reducible first | exact HB.out | apply lA_ | apply pD | apply lD_ | refine lS_ ?_ GE345.out | refine lS_ ?_ GE348.out) | exact HB.out))); (case side2 => exact HC347_4.out); (case hGl => exact tab_below hG (by repeat (first | (with_reducible first | exact HB.out | apply lA_ | apply pD | apply lD_ | refine lS_ ?_ GE345.out | refine lS_ ?_ GE348.out) | exact HB.out))); rintro e w18 ⟨rfl, hb⟩; refine ⟨_, rfl, ?_⟩; have n0_ := aK_ (bB (g := gb345) (o := .cells #[.int .i64 a0_0, .string a0_1, .int .i64 a0_2, .int .i64 a0_3, .slice (some ad347) l0_4.length c0_4] 57 (0, 0)) (by (with_reducible repeat (first | refine bDN ?_ _ | refine bD ?_ | refine bA ?_ _)); refine blk_far ?_ NB345_348.out _; (with_reducible repeat (first | refine bDN ?_ _ | refine bD ?_ | refine bA ?_ _)); refine blk_far ?_ NB345_348.out _; (with_reducible repeat (first | refine bDN ?_ _ | refine bD ?_ | refine bA ?_ _)); refine blk_far ?_ NB345_348.out _; (with_reducible repeat (first | refine bDN ?_ _ | refine bD ?_ | refine bA ?_ _)); refine blk_far ?_ NB345_348.out _; (with_reducible repeat (first | refine bDN ?_ _ | refine bD ?_ | refine bA ?_ _)); refine blk_far ?_ NB345_348.out _; (with_reducible repeat (first | refine bDN ?_ _ | refine bD ?_ | refine bA ?_ _)); exact BK345.out) hb); have n1_ := aK_ (bB (g := gb348) (o := .cells #[.int .i64 ((rd_T57 l0_4 x27_2).f0.f0), .string ((rd_T57 l0_4 x27_2).f0.f1), .int .i64 ((rd_T57 l0_4 x27_2).f0.f2), .int .i64 ((rd_T57 l0_4 x27_2).f1), .slice A347_4 ((rd_T57 l0_4 x27_2).f2).length c347_4] 57 (0, 0)) ((by apply eC_; (with_reducible repeat (first | refine bDN ?_ _ | refine bD ?_ | refine bA ?_ _)); apply b2_; (with_reducible repeat (first | refine bDN ?_ _ | refine bD ?_ | refine bA ?_ _)); apply b2_; (with_reducible repeat (first | refine bDN ?_ _ | refine bD ?_ | refine bA ?_ _)); apply b2_; (with_reducible repeat (first | refine bDN ?_ _ | refine bD ?_ | refine bA ?_ _)); apply b2_; (with_reducible repeat (first | refine bDN ?_ _ | refine bD ?_ | refine bA ?_ _)); apply b2_; (with_reducible repeat (first | refine bDN ?_ _ | refine bD ?_ | refine bA ?_ _)); exact BK348.out; kernel_rfl)) hb); have n2_ := aK_ (lT_ (by repeat (first | (with_reducible first | exact HB.out | apply lA_ | apply pD | apply lD_ | refine lS_ ?_ GE345.out | refine lS_ ?_ GE348.out) | exact HB.out)) hb); clear BK345; clear BK348; clear HB; have BK345 := n0_; have BK348 := n1_; have HB := n2_; clear n0_ n1_ n2_; (try clear hb); (try clear hb2); (try clear hk); (try clear hi)))
         (try simp only [Act.put, sA_, sZ_, sS_])
         go_cut [8] (fun v8 wc => ∃ (kq : Nat) (x8_13 : Bool), v8 = .bool x8_13 ∧ Aside0 (ergolaw13_expr.j2 kq x3_2 x4_2 x27_2 t349 x8_13 l0_4 (l0_4.length : Int) x27_2 a0_0 a0_1 a0_2 a0_3 l0_4 ((rd_T57 l0_4 x27_2).f0.f0) ((rd_T57 l0_4 x27_2).f0.f1) ((rd_T57 l0_4 x27_2).f0.f2) ((rd_T57 l0_4 x27_2).f1) ((rd_T57 l0_4 x27_2).f2) = some r) ∧ Aside0 (kq ≤ k2) ∧ Aside0 (wc.heap[gb345]? = some (.cells #[.int .i64 a0_0, .string a0_1, .int .i64 a0_2, .int .i64 a0_3, (.slice (some ad347) l0_4.length c0_4)] 57 (0, 0))) ∧ Aside0 (wc.heap[gb348]? = some (.cells #[.int .i64 ((rd_T57 l0_4 x27_2).f0.f0), .string ((rd_T57 l0_4 x27_2).f0.f1), .int .i64 ((rd_T57 l0_4 x27_2).f0.f2), .int .i64 ((rd_T57 l0_4 x27_2).f1), (.slice A347_4 ((rd_T57 l0_4 x27_2).f2).length c347_4)] 57 (0, 0))) ∧ Aside0 (Below w.heap.size w wc))
         case first =>
          have H := HC14.out
          clear HC14
          by_cases c19 : ((rd_T57 l0_4 x27_2).f1) = 0
          ·rw [if_pos c19] at H
           have c19b0 : (((rd_T57 l0_4 x27_2).f1) == 0) = true := beq_iff_eq.mpr c19
           have c19b1 : (((rd_T57 l0_4 x27_2).f1) != 0) = false := bne_eq_false_iff_eq.mpr c19
           clear c19
           (first | rw [c19b0] | (simp only [i64_w, i32_w]; rw [c19b0]) | skip)
           have H' := aK_ H
           clear H
           have hnb20 := NB348_345.out
           have hnc20 := NB345_348.out
           have hcz21_0 : w18.cell? ⟨gb348, 0, none⟩ = some (.int .i64 ((rd_T57 l0_4 x27_2).f0.f0)) := (bC BK348.out 0).trans rfl
           have hcz21_1 : w18.cell? ⟨gb348, 1, none⟩ = some (.string ((rd_T57 l0_4 x27_2).f0.f1)) := (bC BK348.out 1).trans rfl
           have hcz21_2 : w18.cell? ⟨gb348, 2, none⟩ = some (.int .i64 ((rd_T57 l0_4 x27_2).f0.f2)) := (bC BK348.out 2).trans rfl
           have hcz21_3 : w18.cell? ⟨gb348, 3, none⟩ = some (.int .i64 ((rd_T57 l0_4 x27_2).f1)) := (bC BK348.out 3).trans rfl
           have hcz21_4 : w18.cell? ⟨gb348, 4, none⟩ = some (.slice A347_4 ((rd_T57 l0_4 x27_2).f2).length c347_4) := (bC BK348.out 4).trans rfl
           have hfz21_0 := bF BK348.out 0
           have hfz21_1 := bF BK348.out 1
           have hfz21_2 := bF BK348.out 2
           have hfz21_3 := bF BK348.out 3
           have hfz21_4 := bF BK348.out 4
           go_wp2
           go_meet
           case rel => exact ⟨_, (true), (by first | rfl | (simp; done) | (simp [*]; done)), H', ⟨by have := HJ2.out; have := HK2.out; first | omega | exact Nat.le_refl _⟩, ⟨by (with_reducible repeat (first | refine bDN ?_ _ | refine bD ?_ | refine bA ?_ _)); exact BK345.out⟩, ⟨by (with_reducible repeat (first | refine bDN ?_ _ | refine bD ?_ | refine bA ?_ _)); exact BK348.out⟩, ⟨by repeat (first | (with_reducible first | exact HB.out | apply lA_ | apply pD | apply lD_ | refine lS_ ?_ GE345.out | refine lS_ ?_ GE348.out) | exact HB.out)⟩⟩
          ·rw [if_neg c19] at H
           have c19b0 : (((rd_T57 l0_4 x27_2).f1) == 0) = false := beq_eq_false_iff_ne.mpr c19
           have c19b1 : (((rd_T57 l0_4 x27_2).f1) != 0) = true := bne_iff_ne.mpr c19
           (first | rw [c19b0] | (simp only [i64_w, i32_w]; rw [c19b0]) | skip)
           have H' := aK_ H
           clear H
           have hnb22 := NB348_345.out
           have hnc22 := NB345_348.out
           have hcz23_0 : w18.cell? ⟨gb348, 0, none⟩ = some (.int .i64 ((rd_T57 l0_4 x27_2).f0.f0)) := (bC BK348.out 0).trans rfl
           have hcz23_1 : w18.cell? ⟨gb348, 1, none⟩ = some (.string ((rd_T57 l0_4 x27_2).f0.f1)) := (bC BK348.out 1).trans rfl
           have hcz23_2 : w18.cell? ⟨gb348, 2, none⟩ = some (.int .i64 ((rd_T57 l0_4 x27_2).f0.f2)) := (bC BK348.out 2).trans rfl
           have hcz23_3 : w18.cell? ⟨gb348, 3, none⟩ = some (.int .i64 ((rd_T57 l0_4 x27_2).f1)) := (bC BK348.out 3).trans rfl
           have hcz23_4 : w18.cell? ⟨gb348, 4, none⟩ = some (.slice A347_4 ((rd_T57 l0_4 x27_2).f2).length c347_4) := (bC BK348.out 4).trans rfl
           have hfz23_0 := bF BK348.out 0
           have hfz23_1 := bF BK348.out 1
           have hfz23_2 := bF BK348.out 2
           have hfz23_3 := bF BK348.out 3
           have hfz23_4 := bF BK348.out 4
           go_wp2
           go_meet
           case rel => exact ⟨_, ((((rd_T57 l0_4 x27_2).f1) == 1)), (by first | rfl | (simp; done) | (simp [*]; done)), H', ⟨by have := HJ2.out; have := HK2.out; first | omega | exact Nat.le_refl _⟩, ⟨by (with_reducible repeat (first | refine bDN ?_ _ | refine bD ?_ | refine bA ?_ _)); exact BK345.out⟩, ⟨by (with_reducible repeat (first | refine bDN ?_ _ | refine bD ?_ | refine bA ?_ _)); exact BK348.out⟩, ⟨by repeat (first | (with_reducible first | exact HB.out | apply lA_ | apply pD | apply lD_ | refine lS_ ?_ GE345.out | refine lS_ ?_ GE348.out) | exact HB.out)⟩⟩
         case rest =>
          clear HC14
          try clear c1
          try clear c2
          try clear c2b0
          try clear c2b1
          try clear p2
          try clear c3
          try clear p3
          try clear q3
          try clear hx3
          try clear c6
          try clear c6b0
          try clear c6b1
          try clear c7
          try clear c10
          try clear c10b0
          try clear c11
          try clear c11b0
          try clear c12
          try clear c12b0
          try clear c16
          try clear c19
          try clear c19b0
          try clear c19b1
          try clear c20
          try clear c22
          try clear hcz17_0
          try clear hcz17_1
          try clear hcz17_2
          try clear hcz17_3
          try clear hcz17_4
          try clear hcz21_0
          try clear hcz21_1
          try clear hcz21_2
          try clear hcz21_3
          try clear hcz21_4
          try clear hcz23_0
          try clear hcz23_1
          try clear hcz23_2
          try clear hcz23_3
          try clear hcz23_4
          try clear hcz5_0
          try clear hcz5_1
          try clear hcz5_2
          try clear hcz5_3
          try clear hcz5_4
          try clear hcz7_0
          try clear hcz7_1
          try clear hcz7_2
          try clear hcz7_3
          try clear hcz7_4
          try clear hcz8_0
          try clear hcz8_1
          try clear hcz8_2
          try clear hcz8_3
          try clear hcz8_4
          try clear hcz9_0
          try clear hcz9_1
          try clear hcz9_2
          try clear hcz9_3
          try clear hcz9_4
          try clear hfz17_0
          try clear hfz17_1
          try clear hfz17_2
          try clear hfz17_3
          try clear hfz17_4
          try clear hfz21_0
          try clear hfz21_1
          try clear hfz21_2
          try clear hfz21_3
          try clear hfz21_4
          try clear hfz23_0
          try clear hfz23_1
          try clear hfz23_2
          try clear hfz23_3
          try clear hfz23_4
          try clear hfz5_0
          try clear hfz5_1
          try clear hfz5_2
          try clear hfz5_3
          try clear hfz5_4
          try clear hfz7_0
          try clear hfz7_1
          try clear hfz7_2
          try clear hfz7_3
          try clear hfz7_4
          try clear hfz8_0
          try clear hfz8_1
          try clear hfz8_2
          try clear hfz8_3
          try clear hfz8_4
          try clear hfz9_0
          try clear hfz9_1
          try clear hfz9_2
          try clear hfz9_3
          try clear hfz9_4
          try clear hx347_0
          try clear hx347_1
          try clear hx347_2
          try clear hx347_3
          try clear hx347_4
          try clear p2
          try clear p347
          try clear q347
          obtain ⟨kq, x8_13, rfl, HA, HJ13, BK345, BK348, HB⟩ := hcut
          cases kq with
          | zero => exact absurd HA.out (by simp [ergolaw13_expr.j2])
          | succ kj13 =>
           have H := HA.out
           clear HA
           simp only [ergolaw13_expr.j2] at H
           have HC24 := aK_ H
           clear H
           go_upto_region 10 with (fail)
           go_cut [61] (fun v61 wc => ∃ (kq : Nat) (x61_23 : Bool), v61 = .bool x61_23 ∧ Aside0 (ergolaw13_expr.j3 kq x3_2 x4_2 x27_2 t349 l0_4 (l0_4.length : Int) x27_2 x61_23 a0_0 a0_1 a0_2 a0_3 l0_4 = some r) ∧ Aside0 (kq ≤ kj13) ∧ Aside0 (wc.heap[gb345]? = some (.cells #[.int .i64 a0_0, .string a0_1, .int .i64 a0_2, .int .i64 a0_3, (.slice (some ad347) l0_4.length c0_4)] 57 (0, 0))) ∧ Aside0 (wc.heap[gb348]? = some (.cells #[.int .i64 ((rd_T57 l0_4 x27_2).f0.f0), .string ((rd_T57 l0_4 x27_2).f0.f1), .int .i64 ((rd_T57 l0_4 x27_2).f0.f2), .int .i64 ((rd_T57 l0_4 x27_2).f1), (.slice A347_4 ((rd_T57 l0_4 x27_2).f2).length c347_4)] 57 (0, 0))) ∧ Aside0 (Below w.heap.size w wc))
           case first =>
            have H := HC24.out
            clear HC24
            by_cases c25 : (((rd_T57 l0_4 x27_2).f2).length : Int) = 2
            ·rw [if_pos c25] at H
             have c25b0 : ((((rd_T57 l0_4 x27_2).f2).length : Int) == 2) = true := beq_iff_eq.mpr c25
             have c25b1 : ((((rd_T57 l0_4 x27_2).f2).length : Int) != 2) = false := bne_eq_false_iff_eq.mpr c25
             clear c25
             (first | rw [c25b0] | (simp only [i64_w, i32_w]; rw [c25b0]) | skip)
             by_cases c26 : x8_13 = true
             ·subst c26
              have H1 : (if x4_2 = true then (if x27_2 = 1 then (ergolaw13_expr.j3 kj13 x3_2 x4_2 x27_2 t349 l0_4 (l0_4.length : Int) x27_2 (true == x4_2) a0_0 a0_1 a0_2 a0_3 l0_4) else (ergolaw13_expr.j3 kj13 x3_2 x4_2 x27_2 t349 l0_4 (l0_4.length : Int) x27_2 false a0_0 a0_1 a0_2 a0_3 l0_4)) else (ergolaw13_expr.j3 kj13 x3_2 x4_2 x27_2 t349 l0_4 (l0_4.length : Int) x27_2 true a0_0 a0_1 a0_2 a0_3 l0_4)) = some r := by rw [if_pos rfl] at H; exact H
              clear H
              have H := H1
              clear H1
              by_cases c27 : x4_2 = true
              ·subst c27
               have H1 : (if x27_2 = 1 then (ergolaw13_expr.j3 kj13 x3_2 true x27_2 t349 l0_4 (l0_4.length : Int) x27_2 (true == true) a0_0 a0_1 a0_2 a0_3 l0_4) else (ergolaw13_expr.j3 kj13 x3_2 true x27_2 t349 l0_4 (l0_4.length : Int) x27_2 false a0_0 a0_1 a0_2 a0_3 l0_4)) = some r := by rw [if_pos rfl] at H; exact H
               clear H
               have H := H1
               clear H1
               by_cases c28 : x27_2 = 1
               ·rw [if_pos c28] at H
                have c28b0 : (x27_2 == 1) = true := beq_iff_eq.mpr c28
                have c28b1 : (x27_2 != 1) = false := bne_eq_false_iff_eq.mpr c28
                clear c28
                have H' := aK_ H
                clear H
                have hnb29 := NB348_345.out
                have hnc29 := NB345_348.out
                have hcz30_0 : wc.cell? ⟨gb348, 0, none⟩ = some (.int .i64 ((rd_T57 l0_4 x27_2).f0.f0)) := (bC BK348.out 0).trans rfl
                have hcz30_1 : wc.cell? ⟨gb348, 1, none⟩ = some (.string ((rd_T57 l0_4 x27_2).f0.f1)) := (bC BK348.out 1).trans rfl
                have hcz30_2 : wc.cell? ⟨gb348, 2, none⟩ = some (.int .i64 ((rd_T57 l0_4 x27_2).f0.f2)) := (bC BK348.out 2).trans rfl
                have hcz30_3 : wc.cell? ⟨gb348, 3, none⟩ = some (.int .i64 ((rd_T57 l0_4 x27_2).f1)) := (bC BK348.out 3).trans rfl
                have hcz30_4 : wc.cell? ⟨gb348, 4, none⟩ = some (.slice A347_4 ((rd_T57 l0_4 x27_2).f2).length c347_4) := (bC BK348.out 4).trans rfl
                have hfz30_0 := bF BK348.out 0
                have hfz30_1 := bF BK348.out 1
                have hfz30_2 := bF BK348.out 2
                have hfz30_3 := bF BK348.out 3
                have hfz30_4 := bF BK348.out 4
                go_wp2
                go_meet
                case rel => exact ⟨_, ((true == true)), (by first | rfl | (simp; done) | (simp [*]; done)), H', ⟨by have := HJ2.out; have := HK2.out; have := HJ13.out; first | omega | exact Nat.le_refl _⟩, ⟨by (with_reducible repeat (first | refine bDN ?_ _ | refine bD ?_ | refine bA ?_ _)); exact BK345.out⟩, ⟨by (with_reducible repeat (first | refine bDN ?_ _ | refine bD ?_ | refine bA ?_ _)); exact BK348.out⟩, ⟨by repeat (first | (with_reducible first | exact HB.out | apply lA_ | apply pD | apply lD_ | refine lS_ ?_ GE345.out | refine lS_ ?_ GE348.out) | exact HB.out)⟩⟩
               ·rw [if_neg c28] at H
                have c28b0 : (x27_2 == 1) = false := beq_eq_false_iff_ne.mpr c28
                have c28b1 : (x27_2 != 1) = true := bne_iff_ne.mpr c28
                have H' := aK_ H
                clear H
                have hnb31 := NB348_345.out
                have hnc31 := NB345_348.out
                have hcz32_0 : wc.cell? ⟨gb348, 0, none⟩ = some (.int .i64 ((rd_T57 l0_4 x27_2).f0.f0)) := (bC BK348.out 0).trans rfl
                have hcz32_1 : wc.cell? ⟨gb348, 1, none⟩ = some (.string ((rd_T57 l0_4 x27_2).f0.f1)) := (bC BK348.out 1).trans rfl
                have hcz32_2 : wc.cell? ⟨gb348, 2, none⟩ = some (.int .i64 ((rd_T57 l0_4 x27_2).f0.f2)) := (bC BK348.out 2).trans rfl
                have hcz32_3 : wc.cell? ⟨gb348, 3, none⟩ = some (.int .i64 ((rd_T57 l0_4 x27_2).f1)) := (bC BK348.out 3).trans rfl
                have hcz32_4 : wc.cell? ⟨gb348, 4, none⟩ = some (.slice A347_4 ((rd_T57 l0_4 x27_2).f2).length c347_4) := (bC BK348.out 4).trans rfl
                have hfz32_0 := bF BK348.out 0
                have hfz32_1 := bF BK348.out 1
                have hfz32_2 := bF BK348.out 2
                have hfz32_3 := bF BK348.out 3
                have hfz32_4 := bF BK348.out 4
                go_wp2
                go_meet
                case rel => exact ⟨_, (false), (by first | rfl | (simp; done) | (simp [*]; done)), H', ⟨by have := HJ2.out; have := HK2.out; have := HJ13.out; first | omega | exact Nat.le_refl _⟩, ⟨by (with_reducible repeat (first | refine bDN ?_ _ | refine bD ?_ | refine bA ?_ _)); exact BK345.out⟩, ⟨by (with_reducible repeat (first | refine bDN ?_ _ | refine bD ?_ | refine bA ?_ _)); exact BK348.out⟩, ⟨by repeat (first | (with_reducible first | exact HB.out | apply lA_ | apply pD | apply lD_ | refine lS_ ?_ GE345.out | refine lS_ ?_ GE348.out) | exact HB.out)⟩⟩
              ·replace c27 := Bool.eq_false_iff.mpr c27
               subst c27
               have H1 : (ergolaw13_expr.j3 kj13 x3_2 false x27_2 t349 l0_4 (l0_4.length : Int) x27_2 true a0_0 a0_1 a0_2 a0_3 l0_4) = some r := by rw [if_neg (show ¬ (false = true) by decide)] at H; exact H
               clear H
               have H := H1
               clear H1
               have H' := aK_ H
               clear H
               have hnb33 := NB348_345.out
               have hnc33 := NB345_348.out
               have hcz34_0 : wc.cell? ⟨gb348, 0, none⟩ = some (.int .i64 ((rd_T57 l0_4 x27_2).f0.f0)) := (bC BK348.out 0).trans rfl
               have hcz34_1 : wc.cell? ⟨gb348, 1, none⟩ = some (.string ((rd_T57 l0_4 x27_2).f0.f1)) := (bC BK348.out 1).trans rfl
               have hcz34_2 : wc.cell? ⟨gb348, 2, none⟩ = some (.int .i64 ((rd_T57 l0_4 x27_2).f0.f2)) := (bC BK348.out 2).trans rfl
               have hcz34_3 : wc.cell? ⟨gb348, 3, none⟩ = some (.int .i64 ((rd_T57 l0_4 x27_2).f1)) := (bC BK348.out 3).trans rfl
               have hcz34_4 : wc.cell? ⟨gb348, 4, none⟩ = some (.slice A347_4 ((rd_T57 l0_4 x27_2).f2).length c347_4) := (bC BK348.out 4).trans rfl
               have hfz34_0 := bF BK348.out 0
               have hfz34_1 := bF BK348.out 1
               have hfz34_2 := bF BK348.out 2
               have hfz34_3 := bF BK348.out 3
               have hfz34_4 := bF BK348.out 4
               go_wp2
               go_meet
               case rel => exact ⟨_, (true), (by first | rfl | (simp; done) | (simp [*]; done)), H', ⟨by have := HJ2.out; have := HK2.out; have := HJ13.out; first | omega | exact Nat.le_refl _⟩, ⟨by (with_reducible repeat (first | refine bDN ?_ _ | refine bD ?_ | refine bA ?_ _)); exact BK345.out⟩, ⟨by (with_reducible repeat (first | refine bDN ?_ _ | refine bD ?_ | refine bA ?_ _)); exact BK348.out⟩, ⟨by repeat (first | (with_reducible first | exact HB.out | apply lA_ | apply pD | apply lD_ | refine lS_ ?_ GE345.out | refine lS_ ?_ GE348.out) | exact HB.out)⟩⟩
             ·replace c26 := Bool.eq_false_iff.mpr c26
              subst c26
              have H1 : (if x27_2 = 1 then (ergolaw13_expr.j3 kj13 x3_2 x4_2 x27_2 t349 l0_4 (l0_4.length : Int) x27_2 (false == x4_2) a0_0 a0_1 a0_2 a0_3 l0_4) else (ergolaw13_expr.j3 kj13 x3_2 x4_2 x27_2 t349 l0_4 (l0_4.length : Int) x27_2 false a0_0 a0_1 a0_2 a0_3 l0_4)) = some r := by rw [if_neg (show ¬ (false = true) by decide)] at H; exact H
              clear H
              have H := H1
              clear H1
              by_cases c35 : x27_2 = 1
              ·rw [if_pos c35] at H
               have c35b0 : (x27_2 == 1) = true := beq_iff_eq.mpr c35
               have c35b1 : (x27_2 != 1) = false := bne_eq_false_iff_eq.mpr c35
               clear c35
               have H' := aK_ H
               clear H
               have hnb36 := NB348_345.out
               have hnc36 := NB345_348.out
               have hcz37_0 : wc.cell? ⟨gb348, 0, none⟩ = some (.int .i64 ((rd_T57 l0_4 x27_2).f0.f0)) := (bC BK348.out 0).trans rfl
               have hcz37_1 : wc.cell? ⟨gb348, 1, none⟩ = some (.string ((rd_T57 l0_4 x27_2).f0.f1)) := (bC BK348.out 1).trans rfl
               have hcz37_2 : wc.cell? ⟨gb348, 2, none⟩ = some (.int .i64 ((rd_T57 l0_4 x27_2).f0.f2)) := (bC BK348.out 2).trans rfl
               have hcz37_3 : wc.cell? ⟨gb348, 3, none⟩ = some (.int .i64 ((rd_T57 l0_4 x27_2).f1)) := (bC BK348.out 3).trans rfl
               have hcz37_4 : wc.cell? ⟨gb348, 4, none⟩ = some (.slice A347_4 ((rd_T57 l0_4 x27_2).f2).length c347_4) := (bC BK348.out 4).trans rfl
               have hfz37_0 := bF BK348.out 0
               have hfz37_1 := bF BK348.out 1
               have hfz37_2 := bF BK348.out 2
               have hfz37_3 := bF BK348.out 3
               have hfz37_4 := bF BK348.out 4
               go_wp2
               go_meet
               case rel => exact ⟨_, ((false == x4_2)), (by first | rfl | (simp; done) | (simp [*]; done)), H', ⟨by have := HJ2.out; have := HK2.out; have := HJ13.out; first | omega | exact Nat.le_refl _⟩, ⟨by (with_reducible repeat (first | refine bDN ?_ _ | refine bD ?_ | refine bA ?_ _)); exact BK345.out⟩, ⟨by (with_reducible repeat (first | refine bDN ?_ _ | refine bD ?_ | refine bA ?_ _)); exact BK348.out⟩, ⟨by repeat (first | (with_reducible first | exact HB.out | apply lA_ | apply pD | apply lD_ | refine lS_ ?_ GE345.out | refine lS_ ?_ GE348.out) | exact HB.out)⟩⟩
              ·rw [if_neg c35] at H
               have c35b0 : (x27_2 == 1) = false := beq_eq_false_iff_ne.mpr c35
               have c35b1 : (x27_2 != 1) = true := bne_iff_ne.mpr c35
               have H' := aK_ H
               clear H
               have hnb38 := NB348_345.out
               have hnc38 := NB345_348.out
               have hcz39_0 : wc.cell? ⟨gb348, 0, none⟩ = some (.int .i64 ((rd_T57 l0_4 x27_2).f0.f0)) := (bC BK348.out 0).trans rfl
               have hcz39_1 : wc.cell? ⟨gb348, 1, none⟩ = some (.string ((rd_T57 l0_4 x27_2).f0.f1)) := (bC BK348.out 1).trans rfl
               have hcz39_2 : wc.cell? ⟨gb348, 2, none⟩ = some (.int .i64 ((rd_T57 l0_4 x27_2).f0.f2)) := (bC BK348.out 2).trans rfl
               have hcz39_3 : wc.cell? ⟨gb348, 3, none⟩ = some (.int .i64 ((rd_T57 l0_4 x27_2).f1)) := (bC BK348.out 3).trans rfl
               have hcz39_4 : wc.cell? ⟨gb348, 4, none⟩ = some (.slice A347_4 ((rd_T57 l0_4 x27_2).f2).length c347_4) := (bC BK348.out 4).trans rfl
               have hfz39_0 := bF BK348.out 0
               have hfz39_1 := bF BK348.out 1
               have hfz39_2 := bF BK348.out 2
               have hfz39_3 := bF BK348.out 3
               have hfz39_4 := bF BK348.out 4
               go_wp2
               go_meet
               case rel => exact ⟨_, (false), (by first | rfl | (simp; done) | (simp [*]; done)), H', ⟨by have := HJ2.out; have := HK2.out; have := HJ13.out; first | omega | exact Nat.le_refl _⟩, ⟨by (with_reducible repeat (first | refine bDN ?_ _ | refine bD ?_ | refine bA ?_ _)); exact BK345.out⟩, ⟨by (with_reducible repeat (first | refine bDN ?_ _ | refine bD ?_ | refine bA ?_ _)); exact BK348.out⟩, ⟨by repeat (first | (with_reducible first | exact HB.out | apply lA_ | apply pD | apply lD_ | refine lS_ ?_ GE345.out | refine lS_ ?_ GE348.out) | exact HB.out)⟩⟩
            ·rw [if_neg c25] at H
             have c25b0 : ((((rd_T57 l0_4 x27_2).f2).length : Int) == 2) = false := beq_eq_false_iff_ne.mpr c25
             have c25b1 : ((((rd_T57 l0_4 x27_2).f2).length : Int) != 2) = true := bne_iff_ne.mpr c25
             (first | rw [c25b0] | (simp only [i64_w, i32_w]; rw [c25b0]) | skip)
             have H' := aK_ H
             clear H
             have hnb40 := NB348_345.out
             have hnc40 := NB345_348.out
             have hcz41_0 : wc.cell? ⟨gb348, 0, none⟩ = some (.int .i64 ((rd_T57 l0_4 x27_2).f0.f0)) := (bC BK348.out 0).trans rfl
             have hcz41_1 : wc.cell? ⟨gb348, 1, none⟩ = some (.string ((rd_T57 l0_4 x27_2).f0.f1)) := (bC BK348.out 1).trans rfl
             have hcz41_2 : wc.cell? ⟨gb348, 2, none⟩ = some (.int .i64 ((rd_T57 l0_4 x27_2).f0.f2)) := (bC BK348.out 2).trans rfl
             have hcz41_3 : wc.cell? ⟨gb348, 3, none⟩ = some (.int .i64 ((rd_T57 l0_4 x27_2).f1)) := (bC BK348.out 3).trans rfl
             have hcz41_4 : wc.cell? ⟨gb348, 4, none⟩ = some (.slice A347_4 ((rd_T57 l0_4 x27_2).f2).length c347_4) := (bC BK348.out 4).trans rfl
             have hfz41_0 := bF BK348.out 0
             have hfz41_1 := bF BK348.out 1
             have hfz41_2 := bF BK348.out 2
             have hfz41_3 := bF BK348.out 3
             have hfz41_4 := bF BK348.out 4
             go_wp2
             go_meet
             case rel => exact ⟨_, (false), (by first | rfl | (simp; done) | (simp [*]; done)), H', ⟨by have := HJ2.out; have := HK2.out; have := HJ13.out; first | omega | exact Nat.le_refl _⟩, ⟨by (with_reducible repeat (first | refine bDN ?_ _ | refine bD ?_ | refine bA ?_ _)); exact BK345.out⟩, ⟨by (with_reducible repeat (first | refine bDN ?_ _ | refine bD ?_ | refine bA ?_ _)); exact BK348.out⟩, ⟨by repeat (first | (with_reducible first | exact HB.out | apply lA_ | apply pD | apply lD_ | refine lS_ ?_ GE345.out | refine lS_ ?_ GE348.out) | exact HB.out)⟩⟩
           case rest =>
            clear HC24
            try clear c1
            try clear c2
            try clear c2b0
            try clear c2b1
            try clear p2
            try clear c3
            try clear p3
            try clear q3
            try clear hx3
            try clear c4
            try clear c6
            try clear c6b0
            try clear c6b1
            try clear c7
            try clear c10
            try clear c10b0
            try clear c11
            try clear c11b0
            try clear c12
            try clear c12b0
            try clear c16
            try clear c19
            try clear c19b0
            try clear c19b1
            try clear c20
            try clear c22
            try clear c25
            try clear c25b0
            try clear c25b1
            try clear c26
            try clear c27
            try clear c28
            try clear c28b0
            try clear c28b1
            try clear c29
            try clear c31
            try clear c33
            try clear c34
            try clear p34
            try clear q34
            try clear hx34
            try clear c35
            try clear c35b0
            try clear c35b1
            try clear c36
            try clear c38
            try clear c40
            try clear hcz17_0
            try clear hcz17_1
            try clear hcz17_2
            try clear hcz17_3
            try clear hcz17_4
            try clear hcz21_0
            try clear hcz21_1
            try clear hcz21_2
            try clear hcz21_3
            try clear hcz21_4
            try clear hcz23_0
            try clear hcz23_1
            try clear hcz23_2
            try clear hcz23_3
            try clear hcz23_4
            try clear hcz30_0
            try clear hcz30_1
            try clear hcz30_2
            try clear hcz30_3
            try clear hcz30_4
            try clear hcz32_0
            try clear hcz32_1
            try clear hcz32_2
            try clear hcz32_3
            try clear hcz32_4
            try clear hcz34_0
            try clear hcz34_1
            try clear hcz34_2
            try clear hcz34_3
            try clear hcz34_4
            try clear hcz37_0
            try clear hcz37_1
            try clear hcz37_2
            try clear hcz37_3
            try clear hcz37_4
            try clear hcz39_0
            try clear hcz39_1
            try clear hcz39_2
            try clear hcz39_3
            try clear hcz39_4
            try clear hcz41_0
            try clear hcz41_1
            try clear hcz41_2
            try clear hcz41_3
            try clear hcz41_4
            try clear hcz5_0
            try clear hcz5_1
            try clear hcz5_2
            try clear hcz5_3
            try clear hcz5_4
            try clear hcz7_0
            try clear hcz7_1
            try clear hcz7_2
            try clear hcz7_3
            try clear hcz7_4
            try clear hcz8_0
            try clear hcz8_1
            try clear hcz8_2
            try clear hcz8_3
            try clear hcz8_4
            try clear hcz9_0
            try clear hcz9_1
            try clear hcz9_2
            try clear hcz9_3
            try clear hcz9_4
            try clear hfz17_0
            try clear hfz17_1
            try clear hfz17_2
            try clear hfz17_3
            try clear hfz17_4
            try clear hfz21_0
            try clear hfz21_1
            try clear hfz21_2
            try clear hfz21_3
            try clear hfz21_4
            try clear hfz23_0
            try clear hfz23_1
            try clear hfz23_2
            try clear hfz23_3
            try clear hfz23_4
            try clear hfz30_0
            try clear hfz30_1
            try clear hfz30_2
            try clear hfz30_3
            try clear hfz30_4
            try clear hfz32_0
            try clear hfz32_1
            try clear hfz32_2
            try clear hfz32_3
            try clear hfz32_4
            try clear hfz34_0
            try clear hfz34_1
            try clear hfz34_2
            try clear hfz34_3
            try clear hfz34_4
            try clear hfz37_0
            try clear hfz37_1
            try clear hfz37_2
            try clear hfz37_3
            try clear hfz37_4
            try clear hfz39_0
            try clear hfz39_1
            try clear hfz39_2
            try clear hfz39_3
            try clear hfz39_4
            try clear hfz41_0
            try clear hfz41_1
            try clear hfz41_2
            try clear hfz41_3
            try clear hfz41_4
            try clear hfz5_0
            try clear hfz5_1
            try clear hfz5_2
            try clear hfz5_3
            try clear hfz5_4
            try clear hfz7_0
            try clear hfz7_1
            try clear hfz7_2
            try clear hfz7_3
            try clear hfz7_4
            try clear hfz8_0
            try clear hfz8_1
            try clear hfz8_2
            try clear hfz8_3
            try clear hfz8_4
            try clear hfz9_0
            try clear hfz9_1
            try clear hfz9_2
            try clear hfz9_3
            try clear hfz9_4
            try clear hx347_0
            try clear hx347_1
            try clear hx347_2
            try clear hx347_3
            try clear hx347_4
            try clear p2
            try clear p3
            try clear p347
            try clear q3
            try clear q347
            obtain ⟨kq, x61_23, rfl, HA, HJ23, BK345, BK348, HB⟩ := hcut
            cases kq with
            | zero => exact absurd HA.out (by simp [ergolaw13_expr.j3])
            | succ kj23 =>
             have H := HA.out
             clear HA
             simp only [ergolaw13_expr.j3] at H
             by_cases c42 : x61_23 = true
             ·subst c42
              have H1 : (if 1 + t349.size ≤ 9223372036854775807 then (if ((⟨#[40]⟩ : ByteArray) ++ t349).size + 1 ≤ 9223372036854775807 then (if x27_2 = 1 then (if x3_2.size + 1 ≤ 9223372036854775807 then ((arith_Op_Sign.f a0_3).bind fun t350 => (if (x3_2 ++ (⟨#[32]⟩ : ByteArray)).size + t350.size ≤ 9223372036854775807 then (if ((x3_2 ++ (⟨#[32]⟩ : ByteArray)) ++ t350).size + 1 ≤ 9223372036854775807 then (if (((x3_2 ++ (⟨#[32]⟩ : ByteArray)) ++ t350) ++ (⟨#[32]⟩ : ByteArray)).size + (((⟨#[40]⟩ : ByteArray) ++ t349) ++ (⟨#[41]⟩ : ByteArray)).size ≤ 9223372036854775807 then (ergolaw13_expr.l0 kj23 ((((x3_2 ++ (⟨#[32]⟩ : ByteArray)) ++ t350) ++ (⟨#[32]⟩ : ByteArray)) ++ (((⟨#[40]⟩ : ByteArray) ++ t349) ++ (⟨#[41]⟩ : ByteArray))) x4_2 l0_4 (l0_4.length : Int) (wrap64 (x27_2 + 1)) a0_0 a0_1 a0_2 a0_3 l0_4) else (none)) else (none)) else (none))) else (none)) else (if x3_2.size + (((⟨#[40]⟩ : ByteArray) ++ t349) ++ (⟨#[41]⟩ : ByteArray)).size ≤ 9223372036854775807 then (ergolaw13_expr.l0 kj23 (x3_2 ++ (((⟨#[40]⟩ : ByteArray) ++ t349) ++ (⟨#[41]⟩ : ByteArray))) x4_2 l0_4 (l0_4.length : Int) (wrap64 (x27_2 + 1)) a0_0 a0_1 a0_2 a0_3 l0_4) else (none))) else (none)) else (none)) = some r := by rw [if_pos rfl] at H; exact H
              clear H
              have H := H1
              clear H1
              by_cases c43 : 1 + t349.size ≤ 9223372036854775807
              ·rw [if_pos c43] at H
               have c43b0 := eq_true c43
               have c43b1 : decide (1 + t349.size ≤ 9223372036854775807) = true := decide_eq_true c43
               try have c43b2 : (9223372036854775807 < 1 + t349.size) = False := eq_false (Nat.not_lt.2 c43)
               by_cases c44 : ((⟨#[40]⟩ : ByteArray) ++ t349).size + 1 ≤ 9223372036854775807
               ·rw [if_pos c44] at H
                have c44b0 := eq_true c44
                have c44b1 : decide (((⟨#[40]⟩ : ByteArray) ++ t349).size + 1 ≤ 9223372036854775807) = true := decide_eq_true c44
                try have c44b2 : (9223372036854775807 < ((⟨#[40]⟩ : ByteArray) ++ t349).size + 1) = False := eq_false (Nat.not_lt.2 c44)
                try have c44b4 : (9223372036854775807 < 1 + t349.size + 1) = False := eq_false (Nat.not_lt.2 (by have h9 := c44; simp only [ByteArray.size_append] at h9; exact h9))
                by_cases c45 : x27_2 = 1
                ·rw [if_pos c45] at H
                 have c45b0 : (x27_2 == 1) = true := beq_iff_eq.mpr c45
                 have c45b1 : (x27_2 != 1) = false := bne_eq_false_iff_eq.mpr c45
                 clear c45
                 by_cases c46 : x3_2.size + 1 ≤ 9223372036854775807
                 ·rw [if_pos c46] at H
                  have c46b0 := eq_true c46
                  have c46b1 : decide (x3_2.size + 1 ≤ 9223372036854775807) = true := decide_eq_true c46
                  try have c46b2 : (9223372036854775807 < x3_2.size + 1) = False := eq_false (Nat.not_lt.2 c46)
                  replace H := Option.bind_eq_some_iff.mp H
                  obtain ⟨t350, A470, H⟩ := H
                  replace H : (if (x3_2 ++ (⟨#[32]⟩ : ByteArray)).size + t350.size ≤ 9223372036854775807 then (if ((x3_2 ++ (⟨#[32]⟩ : ByteArray)) ++ t350).size + 1 ≤ 9223372036854775807 then (if (((x3_2 ++ (⟨#[32]⟩ : ByteArray)) ++ t350) ++ (⟨#[32]⟩ : ByteArray)).size + (((⟨#[40]⟩ : ByteArray) ++ t349) ++ (⟨#[41]⟩ : ByteArray)).size ≤ 9223372036854775807 then (ergolaw13_expr.l0 kj23 ((((x3_2 ++ (⟨#[32]⟩ : ByteArray)) ++ t350) ++ (⟨#[32]⟩ : ByteArray)) ++ (((⟨#[40]⟩ : ByteArray) ++ t349) ++ (⟨#[41]⟩ : ByteArray))) x4_2 l0_4 (l0_4.length : Int) (wrap64 (x27_2 + 1)) a0_0 a0_1 a0_2 a0_3 l0_4) else (none)) else (none)) else (none)) = some r := H
                  have A47 := aK_ A470
                  clear A470
                  by_cases c48 : (x3_2 ++ (⟨#[32]⟩ : ByteArray)).size + t350.size ≤ 9223372036854775807
                  ·rw [if_pos c48] at H
                   have c48b0 := eq_true c48
                   have c48b1 : decide ((x3_2 ++ (⟨#[32]⟩ : ByteArray)).size + t350.size ≤ 9223372036854775807) = true := decide_eq_true c48
                   try have c48b2 : (9223372036854775807 < (x3_2 ++ (⟨#[32]⟩ : ByteArray)).size + t350.size) = False := eq_false (Nat.not_lt.2 c48)
                   try have c48b4 : (9223372036854775807 < x3_2.size + 1 + t350.size) = False := eq_false (Nat.not_lt.2 (by have h9 := c48; simp only [ByteArray.size_append] at h9; exact h9))
                   by_cases c49 : ((x3_2 ++ (⟨#[32]⟩ : ByteArray)) ++ t350).size + 1 ≤ 9223372036854775807
                   ·rw [if_pos c49] at H
                    have c49b0 := eq_true c49
                    have c49b1 : decide (((x3_2 ++ (⟨#[32]⟩ : ByteArray)) ++ t350).size + 1 ≤ 9223372036854775807) = true := decide_eq_true c49
                    try have c49b2 : (9223372036854775807 < ((x3_2 ++ (⟨#[32]⟩ : ByteArray)) ++ t350).size + 1) = False := eq_false (Nat.not_lt.2 c49)
                    try have c49b4 : (9223372036854775807 < x3_2.size + 1 + t350.size + 1) = False := eq_false (Nat.not_lt.2 (by have h9 := c49; simp only [ByteArray.size_append] at h9; exact h9))
                    by_cases c50 : (((x3_2 ++ (⟨#[32]⟩ : ByteArray)) ++ t350) ++ (⟨#[32]⟩ : ByteArray)).size + (((⟨#[40]⟩ : ByteArray) ++ t349) ++ (⟨#[41]⟩ : ByteArray)).size ≤ 9223372036854775807
                    ·rw [if_pos c50] at H
                     have c50b0 := eq_true c50
                     have c50b1 : decide ((((x3_2 ++ (⟨#[32]⟩ : ByteArray)) ++ t350) ++ (⟨#[32]⟩ : ByteArray)).size + (((⟨#[40]⟩ : ByteArray) ++ t349) ++ (⟨#[41]⟩ : ByteArray)).size ≤ 9223372036854775807) = true := decide_eq_true c50
                     try have c50b2 : (9223372036854775807 < (((x3_2 ++ (⟨#[32]⟩ : ByteArray)) ++ t350) ++ (⟨#[32]⟩ : ByteArray)).size + (((⟨#[40]⟩ : ByteArray) ++ t349) ++ (⟨#[41]⟩ : ByteArray)).size) = False := eq_false (Nat.not_lt.2 c50)
                     try have c50b4 : (9223372036854775807 < x3_2.size + 1 + t350.size + 1 + (1 + t349.size + 1)) = False := eq_false (Nat.not_lt.2 (by have h9 := c50; simp only [ByteArray.size_append] at h9; exact h9))
                     have H' := aK_ H
                     clear H
                     have hnb51 := NB345_348.out
                     have hnc51 := NB348_345.out
                     have hcz52_0 : wc.cell? ⟨gb345, 0, none⟩ = some (.int .i64 a0_0) := (bC BK345.out 0).trans rfl
                     have hcz52_1 : wc.cell? ⟨gb345, 1, none⟩ = some (.string a0_1) := (bC BK345.out 1).trans rfl
                     have hcz52_2 : wc.cell? ⟨gb345, 2, none⟩ = some (.int .i64 a0_2) := (bC BK345.out 2).trans rfl
                     have hcz52_3 : wc.cell? ⟨gb345, 3, none⟩ = some (.int .i64 a0_3) := (bC BK345.out 3).trans rfl
                     have hcz52_4 : wc.cell? ⟨gb345, 4, none⟩ = some (.slice (some ad347) l0_4.length c0_4) := (bC BK345.out 4).trans rfl
                     have hfz52_0 := bF BK345.out 0
                     have hfz52_1 := bF BK345.out 1
                     have hfz52_2 := bF BK345.out 2
                     have hfz52_3 := bF BK345.out 3
                     have hfz52_4 := bF BK345.out 4
                     go_wp2_with (first | ((with_reducible refine gate_callee (f := 94) rfl ?_); refine goesL_ (some 71) rfl rfl Tryd.func94 (by kernel_rfl) rfl #[.int .i64 a0_3] rfl (by (try simp only [List.map_toArray, List.map_cons, List.map_nil]); first | done | rfl | (simp only [List.length_drop, List.length_take]; rfl)) ?_; (with_reducible refine (arith_Op_Sign.calls a0_3 t350 _ A47.out).mono ?_); rintro e w53 ⟨rfl, hb⟩; refine ⟨_, rfl, ?_⟩; have n0_ := aK_ (bB (by (with_reducible repeat (first | refine bDN ?_ _ | refine bD ?_ | refine bA ?_ _)); exact BK345.out) hb); have n1_ := aK_ (bB (by (with_reducible repeat (first | refine bDN ?_ _ | refine bD ?_ | refine bA ?_ _)); exact BK348.out) hb); have n2_ := aK_ (lT_ (by repeat (first | (with_reducible first | exact HB.out | apply lA_ | apply pD | apply lD_ | refine lS_ ?_ GE345.out | refine lS_ ?_ GE348.out) | exact HB.out)) hb); clear BK345; clear BK348; clear HB; have BK345 := n0_; have BK348 := n1_; have HB := n2_; clear n0_ n1_ n2_; (try clear hb); (try clear hb2); (try clear hk); (try clear hi)))
                     go_roundg kj23
                     case measure => have := HJ2.out; have := HK2.out; have := HJ13.out; have := HJ23.out; omega
                     case rel => exact ⟨((((x3_2 ++ (⟨#[32]⟩ : ByteArray)) ++ t350) ++ (⟨#[32]⟩ : ByteArray)) ++ (((⟨#[40]⟩ : ByteArray) ++ t349) ++ (⟨#[41]⟩ : ByteArray))), (wrap64 (x27_2 + 1)), (by first | rfl | (simp; done) | (simp [*]; done)), (by first | rfl | (simp; done) | (simp [*]; done)), H', ⟨by have := HJ2.out; have := HK2.out; have := HJ13.out; have := HJ23.out; omega⟩, ⟨by (with_reducible repeat (first | refine bDN ?_ _ | refine bD ?_ | refine bA ?_ _)); exact BK345.out⟩, ⟨by repeat (first | (with_reducible first | exact HB.out | apply lA_ | apply pD | apply lD_ | refine lS_ ?_ GE345.out | refine lS_ ?_ GE348.out) | exact HB.out)⟩⟩
                    ·rw [if_neg c50] at H
                     exact absurd H (by simp)
                   ·rw [if_neg c49] at H
                    exact absurd H (by simp)
                  ·rw [if_neg c48] at H
                   exact absurd H (by simp)
                 ·rw [if_neg c46] at H
                  exact absurd H (by simp)
                ·rw [if_neg c45] at H
                 have c45b0 : (x27_2 == 1) = false := beq_eq_false_iff_ne.mpr c45
                 have c45b1 : (x27_2 != 1) = true := bne_iff_ne.mpr c45
                 by_cases c54 : x3_2.size + (((⟨#[40]⟩ : ByteArray) ++ t349) ++ (⟨#[41]⟩ : ByteArray)).size ≤ 9223372036854775807
                 ·rw [if_pos c54] at H
                  have c54b0 := eq_true c54
                  have c54b1 : decide (x3_2.size + (((⟨#[40]⟩ : ByteArray) ++ t349) ++ (⟨#[41]⟩ : ByteArray)).size ≤ 9223372036854775807) = true := decide_eq_true c54
                  try have c54b2 : (9223372036854775807 < x3_2.size + (((⟨#[40]⟩ : ByteArray) ++ t349) ++ (⟨#[41]⟩ : ByteArray)).size) = False := eq_false (Nat.not_lt.2 c54)
                  try have c54b4 : (9223372036854775807 < x3_2.size + (1 + t349.size + 1)) = False := eq_false (Nat.not_lt.2 (by have h9 := c54; simp only [ByteArray.size_append] at h9; exact h9))
                  have H' := aK_ H
                  clear H
                  go_wp2
                  go_roundg kj23
                  case measure => have := HJ2.out; have := HK2.out; have := HJ13.out; have := HJ23.out; omega
                  case rel => exact ⟨(x3_2 ++ (((⟨#[40]⟩ : ByteArray) ++ t349) ++ (⟨#[41]⟩ : ByteArray))), (wrap64 (x27_2 + 1)), (by first | rfl | (simp; done) | (simp [*]; done)), (by first | rfl | (simp; done) | (simp [*]; done)), H', ⟨by have := HJ2.out; have := HK2.out; have := HJ13.out; have := HJ23.out; omega⟩, ⟨by (with_reducible repeat (first | refine bDN ?_ _ | refine bD ?_ | refine bA ?_ _)); exact BK345.out⟩, ⟨by repeat (first | (with_reducible first | exact HB.out | apply lA_ | apply pD | apply lD_ | refine lS_ ?_ GE345.out | refine lS_ ?_ GE348.out) | exact HB.out)⟩⟩
                 ·rw [if_neg c54] at H
                  exact absurd H (by simp)
               ·rw [if_neg c44] at H
                exact absurd H (by simp)
              ·rw [if_neg c43] at H
               exact absurd H (by simp)
             ·replace c42 := Bool.eq_false_iff.mpr c42
              subst c42
              have H1 : (if x27_2 = 1 then (if x3_2.size + 1 ≤ 9223372036854775807 then ((arith_Op_Sign.f a0_3).bind fun t351 => (if (x3_2 ++ (⟨#[32]⟩ : ByteArray)).size + t351.size ≤ 9223372036854775807 then (if ((x3_2 ++ (⟨#[32]⟩ : ByteArray)) ++ t351).size + 1 ≤ 9223372036854775807 then (if (((x3_2 ++ (⟨#[32]⟩ : ByteArray)) ++ t351) ++ (⟨#[32]⟩ : ByteArray)).size + t349.size ≤ 9223372036854775807 then (ergolaw13_expr.l0 kj23 ((((x3_2 ++ (⟨#[32]⟩ : ByteArray)) ++ t351) ++ (⟨#[32]⟩ : ByteArray)) ++ t349) x4_2 l0_4 (l0_4.length : Int) (wrap64 (x27_2 + 1)) a0_0 a0_1 a0_2 a0_3 l0_4) else (none)) else (none)) else (none))) else (none)) else (if x3_2.size + t349.size ≤ 9223372036854775807 then (ergolaw13_expr.l0 kj23 (x3_2 ++ t349) x4_2 l0_4 (l0_4.length : Int) (wrap64 (x27_2 + 1)) a0_0 a0_1 a0_2 a0_3 l0_4) else (none))) = some r := by rw [if_neg (show ¬ (false = true) by decide)] at H; exact H
              clear H
              have H := H1
              clear H1
              by_cases c55 : x27_2 = 1
              ·rw [if_pos c55] at H
               have c55b0 : (x27_2 == 1) = true := beq_iff_eq.mpr c55
               have c55b1 : (x27_2 != 1) = false := bne_eq_false_iff_eq.mpr c55
               clear c55
               by_cases c56 : x3_2.size + 1 ≤ 9223372036854775807
               ·rw [if_pos c56] at H
                have c56b0 := eq_true c56
                have c56b1 : decide (x3_2.size + 1 ≤ 9223372036854775807) = true := decide_eq_true c56
                try have c56b2 : (9223372036854775807 < x3_2.size + 1) = False := eq_false (Nat.not_lt.2 c56)
                replace H := Option.bind_eq_some_iff.mp H
                obtain ⟨t351, A570, H⟩ := H
                replace H : (if (x3_2 ++ (⟨#[32]⟩ : ByteArray)).size + t351.size ≤ 9223372036854775807 then (if ((x3_2 ++ (⟨#[32]⟩ : ByteArray)) ++ t351).size + 1 ≤ 9223372036854775807 then (if (((x3_2 ++ (⟨#[32]⟩ : ByteArray)) ++ t351) ++ (⟨#[32]⟩ : ByteArray)).size + t349.size ≤ 9223372036854775807 then (ergolaw13_expr.l0 kj23 ((((x3_2 ++ (⟨#[32]⟩ : ByteArray)) ++ t351) ++ (⟨#[32]⟩ : ByteArray)) ++ t349) x4_2 l0_4 (l0_4.length : Int) (wrap64 (x27_2 + 1)) a0_0 a0_1 a0_2 a0_3 l0_4) else (none)) else (none)) else (none)) = some r := H
                have A57 := aK_ A570
                clear A570
                by_cases c58 : (x3_2 ++ (⟨#[32]⟩ : ByteArray)).size + t351.size ≤ 9223372036854775807
                ·rw [if_pos c58] at H
                 have c58b0 := eq_true c58
                 have c58b1 : decide ((x3_2 ++ (⟨#[32]⟩ : ByteArray)).size + t351.size ≤ 9223372036854775807) = true := decide_eq_true c58
                 try have c58b2 : (9223372036854775807 < (x3_2 ++ (⟨#[32]⟩ : ByteArray)).size + t351.size) = False := eq_false (Nat.not_lt.2 c58)
                 try have c58b4 : (9223372036854775807 < x3_2.size + 1 + t351.size) = False := eq_false (Nat.not_lt.2 (by have h9 := c58; simp only [ByteArray.size_append] at h9; exact h9))
                 by_cases c59 : ((x3_2 ++ (⟨#[32]⟩ : ByteArray)) ++ t351).size + 1 ≤ 9223372036854775807
                 ·rw [if_pos c59] at H
                  have c59b0 := eq_true c59
                  have c59b1 : decide (((x3_2 ++ (⟨#[32]⟩ : ByteArray)) ++ t351).size + 1 ≤ 9223372036854775807) = true := decide_eq_true c59
                  try have c59b2 : (9223372036854775807 < ((x3_2 ++ (⟨#[32]⟩ : ByteArray)) ++ t351).size + 1) = False := eq_false (Nat.not_lt.2 c59)
                  try have c59b4 : (9223372036854775807 < x3_2.size + 1 + t351.size + 1) = False := eq_false (Nat.not_lt.2 (by have h9 := c59; simp only [ByteArray.size_append] at h9; exact h9))
                  by_cases c60 : (((x3_2 ++ (⟨#[32]⟩ : ByteArray)) ++ t351) ++ (⟨#[32]⟩ : ByteArray)).size + t349.size ≤ 9223372036854775807
                  ·rw [if_pos c60] at H
                   have c60b0 := eq_true c60
                   have c60b1 : decide ((((x3_2 ++ (⟨#[32]⟩ : ByteArray)) ++ t351) ++ (⟨#[32]⟩ : ByteArray)).size + t349.size ≤ 9223372036854775807) = true := decide_eq_true c60
                   try have c60b2 : (9223372036854775807 < (((x3_2 ++ (⟨#[32]⟩ : ByteArray)) ++ t351) ++ (⟨#[32]⟩ : ByteArray)).size + t349.size) = False := eq_false (Nat.not_lt.2 c60)
                   try have c60b4 : (9223372036854775807 < x3_2.size + 1 + t351.size + 1 + t349.size) = False := eq_false (Nat.not_lt.2 (by have h9 := c60; simp only [ByteArray.size_append] at h9; exact h9))
                   have H' := aK_ H
                   clear H
                   have hnb61 := NB345_348.out
                   have hnc61 := NB348_345.out
                   have hcz62_0 : wc.cell? ⟨gb345, 0, none⟩ = some (.int .i64 a0_0) := (bC BK345.out 0).trans rfl
                   have hcz62_1 : wc.cell? ⟨gb345, 1, none⟩ = some (.string a0_1) := (bC BK345.out 1).trans rfl
                   have hcz62_2 : wc.cell? ⟨gb345, 2, none⟩ = some (.int .i64 a0_2) := (bC BK345.out 2).trans rfl
                   have hcz62_3 : wc.cell? ⟨gb345, 3, none⟩ = some (.int .i64 a0_3) := (bC BK345.out 3).trans rfl
                   have hcz62_4 : wc.cell? ⟨gb345, 4, none⟩ = some (.slice (some ad347) l0_4.length c0_4) := (bC BK345.out 4).trans rfl
                   have hfz62_0 := bF BK345.out 0
                   have hfz62_1 := bF BK345.out 1
                   have hfz62_2 := bF BK345.out 2
                   have hfz62_3 := bF BK345.out 3
                   have hfz62_4 := bF BK345.out 4
                   go_wp2_with (first | ((with_reducible refine gate_callee (f := 94) rfl ?_); refine goesL_ (some 71) rfl rfl Tryd.func94 (by kernel_rfl) rfl #[.int .i64 a0_3] rfl (by (try simp only [List.map_toArray, List.map_cons, List.map_nil]); first | done | rfl | (simp only [List.length_drop, List.length_take]; rfl)) ?_; (with_reducible refine (arith_Op_Sign.calls a0_3 t351 _ A57.out).mono ?_); rintro e w63 ⟨rfl, hb⟩; refine ⟨_, rfl, ?_⟩; have n0_ := aK_ (bB (by (with_reducible repeat (first | refine bDN ?_ _ | refine bD ?_ | refine bA ?_ _)); exact BK345.out) hb); have n1_ := aK_ (bB (by (with_reducible repeat (first | refine bDN ?_ _ | refine bD ?_ | refine bA ?_ _)); exact BK348.out) hb); have n2_ := aK_ (lT_ (by repeat (first | (with_reducible first | exact HB.out | apply lA_ | apply pD | apply lD_ | refine lS_ ?_ GE345.out | refine lS_ ?_ GE348.out) | exact HB.out)) hb); clear BK345; clear BK348; clear HB; have BK345 := n0_; have BK348 := n1_; have HB := n2_; clear n0_ n1_ n2_; (try clear hb); (try clear hb2); (try clear hk); (try clear hi)))
                   go_roundg kj23
                   case measure => have := HJ2.out; have := HK2.out; have := HJ13.out; have := HJ23.out; omega
                   case rel => exact ⟨((((x3_2 ++ (⟨#[32]⟩ : ByteArray)) ++ t351) ++ (⟨#[32]⟩ : ByteArray)) ++ t349), (wrap64 (x27_2 + 1)), (by first | rfl | (simp; done) | (simp [*]; done)), (by first | rfl | (simp; done) | (simp [*]; done)), H', ⟨by have := HJ2.out; have := HK2.out; have := HJ13.out; have := HJ23.out; omega⟩, ⟨by (with_reducible repeat (first | refine bDN ?_ _ | refine bD ?_ | refine bA ?_ _)); exact BK345.out⟩, ⟨by repeat (first | (with_reducible first | exact HB.out | apply lA_ | apply pD | apply lD_ | refine lS_ ?_ GE345.out | refine lS_ ?_ GE348.out) | exact HB.out)⟩⟩
                  ·rw [if_neg c60] at H
                   exact absurd H (by simp)
                 ·rw [if_neg c59] at H
                  exact absurd H (by simp)
                ·rw [if_neg c58] at H
                 exact absurd H (by simp)
               ·rw [if_neg c56] at H
                exact absurd H (by simp)
              ·rw [if_neg c55] at H
               have c55b0 : (x27_2 == 1) = false := beq_eq_false_iff_ne.mpr c55
               have c55b1 : (x27_2 != 1) = true := bne_iff_ne.mpr c55
               by_cases c64 : x3_2.size + t349.size ≤ 9223372036854775807
               ·rw [if_pos c64] at H
                have c64b0 := eq_true c64
                have c64b1 : decide (x3_2.size + t349.size ≤ 9223372036854775807) = true := decide_eq_true c64
                try have c64b2 : (9223372036854775807 < x3_2.size + t349.size) = False := eq_false (Nat.not_lt.2 c64)
                have H' := aK_ H
                clear H
                go_wp2
                go_roundg kj23
                case measure => have := HJ2.out; have := HK2.out; have := HJ13.out; have := HJ23.out; omega
                case rel => exact ⟨(x3_2 ++ t349), (wrap64 (x27_2 + 1)), (by first | rfl | (simp; done) | (simp [*]; done)), (by first | rfl | (simp; done) | (simp [*]; done)), H', ⟨by have := HJ2.out; have := HK2.out; have := HJ13.out; have := HJ23.out; omega⟩, ⟨by (with_reducible repeat (first | refine bDN ?_ _ | refine bD ?_ | refine bA ?_ _)); exact BK345.out⟩, ⟨by repeat (first | (with_reducible first | exact HB.out | apply lA_ | apply pD | apply lD_ | refine lS_ ?_ GE345.out | refine lS_ ?_ GE348.out) | exact HB.out)⟩⟩
               ·rw [if_neg c64] at H
                exact absurd H (by simp)
        ·rw [if_neg c12] at H
         exact absurd H (by simp)
       ·rw [if_neg c11] at H
        exact absurd H (by simp)
      ·rw [if_neg c10] at H
       have c10b0 : decide (x27_2 < (l0_4.length : Int)) = false := decide_eq_false c10
       clear c10
       obtain rfl := Option.some.inj H
       go_wp2
       go_ret
       exact ⟨by first | rfl | (simp [errW_none, errW_some] <;> rfl) | (simp [*, errW_none, errW_some] <;> rfl), by repeat (first | (with_reducible first | exact HB.out | apply lA_ | apply pD | apply lD_ | refine lS_ ?_ GE345.out) | exact HB.out)⟩
 ·rw [if_neg c2] at H
  have c2b0 : ((l0_4.length : Int) == 2) = false := beq_eq_false_iff_ne.mpr c2
  have c2b1 : ((l0_4.length : Int) != 2) = true := bne_iff_ne.mpr c2
  replace H := Option.bind_eq_some_iff.mp H
  obtain ⟨t346, A650, H⟩ := H
  replace H : (some t346) = some r := H
  have A65 := aK_ A650
  clear A650
  obtain rfl := Option.some.inj H
  go_enter Tryd.func73, Tryd.ntmps73
  go_wp2_with (first | ((with_reducible refine gate_dst (N := 1) rfl ?_); refine box_event ?hg (N := 1) ?hd (cs := #[.int .i64 a0_0, .string a0_1, .int .i64 a0_2, .int .i64 a0_3, .slice A0_4 l0_4.length c0_4]) (t := 57) ?hr ?_; (case hd => rfl); (case hg => rfl); (case hr => first | (go_simp; done) | (go_simp; rfl)); intro gb345 hg w66 hbox hb; have n0_ := aK_ (lT_ (by repeat (first | (with_reducible first | exact HB.out | apply lA_ | apply pD | apply lD_) | exact HB.out)) hb); have n1_ := aK_ (hbox); have n2_ := aK_ ((by rw [hg]; exact (lZ_ (by repeat (first | (with_reducible first | exact HB.out | apply lA_ | apply pD | apply lD_) | exact HB.out))) : w.heap.size ≤ gb345)); have n3_ := aK_ ((by rw [hg]; exact (lZ_ (by repeat (first | (with_reducible first | exact HB.out | apply lA_ | apply pD | apply lD_) | exact HB.out))) : w.heap.size ≤ gb345)); clear HB; have HB := n0_; have BK345 := n1_; have GW345 := n2_; have GE345 := n3_; clear n0_ n1_ n2_ n3_; clear hb hbox hg; have hcz67_0 : w66.cell? ⟨gb345, 0, none⟩ = some (.int .i64 a0_0) := (bC BK345.out 0).trans rfl; have hcz67_1 : w66.cell? ⟨gb345, 1, none⟩ = some (.string a0_1) := (bC BK345.out 1).trans rfl; have hcz67_2 : w66.cell? ⟨gb345, 2, none⟩ = some (.int .i64 a0_2) := (bC BK345.out 2).trans rfl; have hcz67_3 : w66.cell? ⟨gb345, 3, none⟩ = some (.int .i64 a0_3) := (bC BK345.out 3).trans rfl; have hcz67_4 : w66.cell? ⟨gb345, 4, none⟩ = some (.slice A0_4 l0_4.length c0_4) := (bC BK345.out 4).trans rfl; have hfz67_0 := bF BK345.out 0; have hfz67_1 := bF BK345.out 1; have hfz67_2 := bF BK345.out 2; have hfz67_3 := bF BK345.out 3; have hfz67_4 := bF BK345.out 4) | ((with_reducible refine gate_callee (f := 49) rfl ?_); refine goesL_ (some 15) rfl rfl Tryd.func49 (by kernel_rfl) rfl #[.agg #[.int .i64 a0_0, .string a0_1, .int .i64 a0_2]] rfl (by (try simp only [List.map_toArray, List.map_cons, List.map_nil]); first | done | rfl | (simp only [List.length_drop, List.length_take]; rfl)) ?_; (with_reducible refine (ergolaw13_text.calls k a0_0 a0_1 a0_2 t346 _ A65.out ?hGl).mono ?_); (case hGl => exact tab_below hG (by repeat (first | (with_reducible first | exact HB.out | apply lA_ | apply pD | apply lD_ | refine lS_ ?_ GE345.out) | exact HB.out))); rintro e w68 ⟨rfl, hb⟩; refine ⟨_, rfl, ?_⟩; have n0_ := aK_ (bB (by (with_reducible repeat (first | refine bDN ?_ _ | refine bD ?_ | refine bA ?_ _)); exact BK345.out) hb); have n1_ := aK_ (lT_ (by repeat (first | (with_reducible first | exact HB.out | apply lA_ | apply pD | apply lD_ | refine lS_ ?_ GE345.out) | exact HB.out)) hb); clear BK345; clear HB; have BK345 := n0_; have HB := n1_; clear n0_ n1_; (try clear hb); (try clear hb2); (try clear hk); (try clear hi)))
  go_ret
  exact ⟨by first | rfl | (simp [errW_none, errW_some] <;> rfl) | (simp [*, errW_none, errW_some] <;> rfl), by repeat (first | (with_reducible first | exact HB.out | apply lA_ | apply pD | apply lD_ | refine lS_ ?_ GE345.out) | exact HB.out)⟩
end Go.Proofs.YtdbpboipiceifaaDoorPSP
