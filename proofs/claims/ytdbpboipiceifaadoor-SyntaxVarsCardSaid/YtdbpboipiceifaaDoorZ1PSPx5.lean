import Derived.Test.YtdbpboipiceifaaDoorZ1PSPx0
namespace Go.Proofs.YtdbpboipiceifaaDoorPSP
open Go.RowKit Go.Proofs.YtdbpboipiceifaaDoorW.PrintWords Go.Proofs.YtdbpboipiceifaaDoorW.PrintLast Go.Proofs.YtdbpboipiceifaaDoorW.PrintMore
attribute [local go_sem] max2_int min2_int max_two min_two max_three min_three max_four min_four   -- for this text's walks alone
set_option linter.unusedVariables false
set_option linter.unusedSimpArgs false
def ergolaw13_names.l0 : Nat → List ByteArray → List (S53) → Int → Int → Option (List ByteArray)
 | 0, _, _, _, _ => none
 | k + 1, x3, x7, x8, x9 => if x9 < x8 then (if 0 ≤ x9 then (if x9 < (x7.length : Int) then (if ((rd_T53 x7 x9).f0) = 0 then (if x3.length < 8796093022208 then (ergolaw13_names.l0 k (x3 ++ [(rd_T53 x7 x9).f1]) x7 x8 (wrap64 (x9 + 1))) else (none)) else (ergolaw13_names.l0 k x3 x7 x8 (wrap64 (x9 + 1)))) else (none)) else (none)) else (some x3)
def ergolaw13_names.f (k : Nat) (l0 : List (S53)) : Option (List ByteArray) := ergolaw13_names.l0 k (([] : List ByteArray)) l0 (l0.length : Int) 0
set_option maxHeartbeats 8000000 in
set_option maxRecDepth 100000 in
theorem ergolaw13_names.calls (k : Nat) (A0 : Option Addr) (c0 : Nat) (l0 : List (S53)) (r : List ByteArray) (w : World) (hr0 : Kd.C k53 w A0 l0.length l0) (hc0 : l0.length ≤ c0) (h : ergolaw13_names.f k l0 = some r) :
  Calls Tryd.prog 12 #[.slice A0 l0.length c0] w fun e w' => ∃ v0_ : Value, e = .returned (v0_) ∧ Kd.R Kd.string 9 w' w.heap.size (fun _ => True) v0_ r ∧ Below w.heap.size w w' := by
 have hu53 := Tryd.underlying53
 have HR0 := aK_ hr0
 have HC0 := aK_ hc0
 clear hr0 hc0
 have HB := aK_ (Below.refl w.heap.size w)
 have H : (ergolaw13_names.l0 k (([] : List ByteArray)) l0 (l0.length : Int) 0) = some r := h
 clear h
 obtain ⟨y214, hy214⟩ : ∃ y_ : List ByteArray, y_ = (([] : List ByteArray)) := ⟨_, rfl⟩
 replace H : (ergolaw13_names.l0 k y214 l0 (l0.length : Int) 0) = some r := by first | (rw [hy214]; with_reducible exact H) | (have H2_ := (Option.bind_some _ _).symm.trans H; rw [hy214]; with_reducible exact H2_) | (have H2_ := (Option.bind_some _ _).symm.trans H; with_reducible exact H2_) | with_reducible exact H | (rw [hy214]; exact H) | exact H
 have Ny214 := aK_ hy214
 clear hy214
 have H' := aK_ H
 clear H
 go_enter Tryd.func12, Tryd.ntmps12
 go_wp2_with (first | ((with_reducible refine gate_dst (N := 6) rfl ?_); refine Kd.R_lit Kd.string _ 9 ?hg (N := 6) ?hd (xs := ([] : List ByteArray)) (inner := []) (ok := fun _ => True) (okp := fun _ => True) ?hr ?hp (fun _ hk => hk) trivial (Below.refl _ _) (Nat.le_refl _) (by simp) ?_; (case hd => rfl); (case hg => rfl); (case hr => first | (go_simp; done) | (go_simp; rfl)); (case hp => exact (Reps.none _ _)); intro v215 w2 ho3 hb hg_ hnew_; clear hg_ hnew_; (first | rw [← Ny214.out] at ho3 | (simp only [Int.reduceToNat] at ho3; rw [← Ny214.out] at ho3)); have n0_ := aK_ (Kd.R_lower ho3 (lZ_ (by repeat (first | (with_reducible first | exact HB.out | apply lA_ | apply pD | apply lD_) | exact HB.out)))); have n1_ := aK_ (lT_ (by repeat (first | (with_reducible first | exact HB.out | apply lA_ | apply pD | apply lD_) | exact HB.out)) hb); clear HB; have HO216 := n0_; have HB := n1_; clear n0_ n1_; clear hb ho3))
 go_loopg [3, 9] k (fun kq v3 v9 w' => ∃ (x3_1 : List ByteArray) (x9_1 : Int), v9 = .int .i64 x9_1 ∧ Aside0 (ergolaw13_names.l0 kq x3_1 l0 (l0.length : Int) x9_1 = some r) ∧ Aside0 (kq ≤ k) ∧ Aside0 (Kd.R Kd.string 9 w' w.heap.size (fun _ => True) v3 x3_1) ∧ Aside0 (Below w.heap.size w w'))
 case atStart => exact ⟨(y214), (0), (by first | rfl | (simp; done) | (simp [*]; done)), H', ⟨Nat.le_refl _⟩, ⟨by (with_reducible repeat (first | apply Kd.R_alloc | apply Kd.R_drewN | apply Kd.R_drew)); exact HO216.out⟩, ⟨by repeat (first | (with_reducible first | exact HB.out | apply lA_ | apply pD | apply lD_) | exact HB.out)⟩⟩
 case round =>
  clear H'
  try clear c1
  try clear p2
  obtain ⟨x3_1, x9_1, rfl, HA, HK1, HO_3, HB⟩ := hrel
  cases gk with
  | zero => exact absurd HA.out (by simp [ergolaw13_names.l0])
  | succ k1 =>
   have H := HA.out
   clear HA
   simp only [ergolaw13_names.l0] at H
   by_cases c4 : x9_1 < (l0.length : Int)
   ·rw [if_pos c4] at H
    have c4b0 : decide (x9_1 < (l0.length : Int)) = true := decide_eq_true c4
    clear c4
    by_cases c5 : 0 ≤ x9_1
    ·rw [if_pos c5] at H
     have c5b0 : decide (0 ≤ x9_1) = true := decide_eq_true c5
     clear c5
     by_cases c6 : x9_1 < (l0.length : Int)
     ·rw [if_pos c6] at H
      have c6b0 : decide (x9_1 < (l0.length : Int)) = true := decide_eq_true c6
      clear c6
      by_cases c7 : ((rd_T53 l0 x9_1).f0) = 0
      ·rw [if_pos c7] at H
       have c7b0 : (((rd_T53 l0 x9_1).f0) == 0) = true := beq_iff_eq.mpr c7
       have c7b1 : (((rd_T53 l0 x9_1).f0) != 0) = false := bne_eq_false_iff_eq.mpr c7
       clear c7
       by_cases c8 : x3_1.length < 8796093022208
       ·rw [if_pos c8] at H
        have LMc8 := aK_ c8
        clear c8
        obtain ⟨y219, hy219⟩ : ∃ y_ : List ByteArray, y_ = (x3_1 ++ [(rd_T53 l0 x9_1).f1]) := ⟨_, rfl⟩
        replace H : (ergolaw13_names.l0 k1 y219 l0 (l0.length : Int) (wrap64 (x9_1 + 1))) = some r := by first | (rw [hy219]; with_reducible exact H) | (have H2_ := (Option.bind_some _ _).symm.trans H; rw [hy219]; with_reducible exact H2_) | (have H2_ := (Option.bind_some _ _).symm.trans H; with_reducible exact H2_) | with_reducible exact H | (rw [hy219]; exact H) | exact H
        have Ny219 := aK_ hy219
        clear hy219
        have H' := aK_ H
        clear H
        have p217 : 0 ≤ (x9_1 : Int) := of_decide_eq_true (by first | (with_reducible assumption) | assumption)
        have q217 : x9_1 < (l0.length : Int) := of_decide_eq_true (by first | (with_reducible assumption) | assumption)
        obtain ⟨ad217, e217, hx217_0, hx217_1, hx217_2⟩ := at_T53 HR0.out x9_1 p217 q217
        cases e217
        replace hx217_0 := (HB.out.cell (wb_ w _ hx217_0)).trans hx217_0
        replace hx217_1 := (HB.out.cell (wb_ w _ hx217_1)).trans hx217_1
        replace hx217_2 := (HB.out.cell (wb_ w _ hx217_2)).trans hx217_2
        replace p217 := eq_true p217
        replace q217 := eq_true q217
        go_wp2_with (first | ((with_reducible refine gate_dst (N := 5) rfl ?_); refine box_event ?hg (N := 5) ?hd (cs := #[.int .i64 0, .string (⟨#[]⟩ : ByteArray), .int .i64 0]) (t := 53) ?hr ?_; (case hd => rfl); (case hg => rfl); (case hr => first | (go_simp; done) | (go_simp; rfl)); intro gb218 hg w9 hbox hb; have n0_ := aK_ (Kd.R_below (by (with_reducible repeat (first | apply Kd.R_alloc | apply Kd.R_drewN | apply Kd.R_drew)); exact HO_3.out) hb); have n1_ := aK_ (lT_ (by repeat (first | (with_reducible first | exact HB.out | apply lA_ | apply pD | apply lD_) | exact HB.out)) hb); have n2_ := aK_ (hbox); have n3_ := aK_ ((by rw [hg]; exact (lZ_ (by repeat (first | (with_reducible first | exact HB.out | apply lA_ | apply pD | apply lD_) | exact HB.out))) : w.heap.size ≤ gb218)); have n4_ := aK_ ((by rw [hg]; exact (lZ_ (by repeat (first | (with_reducible first | exact HB.out | apply lA_ | apply pD | apply lD_) | exact HB.out))) : w.heap.size ≤ gb218)); clear HO_3; clear HB; have HO_3 := n0_; have HB := n1_; have BK218 := n2_; have GW218 := n3_; have GE218 := n4_; clear n0_ n1_ n2_ n3_ n4_; clear hb hbox hg; have hcz10_0 : w9.cell? ⟨gb218, 0, none⟩ = some (.int .i64 0) := (bC BK218.out 0).trans rfl; have hcz10_1 : w9.cell? ⟨gb218, 1, none⟩ = some (.string (⟨#[]⟩ : ByteArray)) := (bC BK218.out 1).trans rfl; have hcz10_2 : w9.cell? ⟨gb218, 2, none⟩ = some (.int .i64 0) := (bC BK218.out 2).trans rfl; have hfz10_0 := bF BK218.out 0; have hfz10_1 := bF BK218.out 1; have hfz10_2 := bF BK218.out 2) | ((with_reducible refine gate_builtin (b := .append) (xs := #[.tmp 16, .tmp 19]) rfl ?_); at_builtin; refine Kd.R_append Kd.string (w0 := w) w.heap.size rfl (.tmp 16) (.tmp 19) 45 9 (.string ⟨#[]⟩) 16 rfl Tryd.underlying45 info9 rfl (by decide) (by omega) u3 x3_1 ((rd_T53 l0 x9_1).f1) [.string ((rd_T53 l0 x9_1).f1)] (fun _ => True) (fun _ => False) rfl (by first | (go_simp; done) | (go_simp; rfl)) ?aP (fun _ hk => hk.elim) ?aF ?aO ?aB ?aS ?aL ?_; (case aP => exact rfl); (case aB => exact (by repeat (first | (with_reducible first | exact HB.out | apply lA_ | apply pD | apply lD_ | refine lS_ ?_ GE218.out) | exact HB.out))); (case aF => exact (fun _ _ => trivial)); (case aO => exact (by (with_reducible repeat (first | apply Kd.R_alloc | apply Kd.R_drewN | apply Kd.R_drew)); exact Kd.R_mono (Kd.R_far (p := ⟨gb218, 2, none⟩) (Kd.R_far (p := ⟨gb218, 1, none⟩) (Kd.R_far (p := ⟨gb218, 0, none⟩) (Kd.R_types HO_3.out BK218.out (by decide)) (fun _ hk => hk.2) (.int .i64 ((rd_T53 l0 x9_1).f0))) (fun _ hk => hk.2) (.string ((rd_T53 l0 x9_1).f1))) (fun _ hk => hk.2) (.int .i64 ((rd_T53 l0 x9_1).f2))) (fun _ hk => trivial))); (case aS => exact (lZ_ (by repeat (first | (with_reducible first | exact HB.out | apply lA_ | apply pD | apply lD_ | refine lS_ ?_ GE218.out) | exact HB.out)))); (case aL => have := LMc8.out; omega); intro v220 w11 ho hb hg hat; rw [← Ny219.out] at ho; have n0_ := aK_ (bG_ (g := gb218) (o := .cells #[.int .i64 ((rd_T53 l0 x9_1).f0), .string ((rd_T53 l0 x9_1).f1), .int .i64 ((rd_T53 l0 x9_1).f2)] 53 (0, 0)) ((by apply eC_; (with_reducible repeat (first | refine bDN ?_ _ | refine bD ?_ | refine bA ?_ _)); apply b2_; (with_reducible repeat (first | refine bDN ?_ _ | refine bD ?_ | refine bA ?_ _)); apply b2_; (with_reducible repeat (first | refine bDN ?_ _ | refine bD ?_ | refine bA ?_ _)); apply b2_; (with_reducible repeat (first | refine bDN ?_ _ | refine bD ?_ | refine bA ?_ _)); exact BK218.out; kernel_rfl)) hg (Kd.R_ne HO_3.out BK218.out (by decide))); have n1_ := aK_ (hb); have n2_ := aK_ (ho); clear BK218; clear HB; clear HO_3; have BK218 := n0_; have HB := n1_; have HO221 := n2_; clear n0_ n1_ n2_; clear ho hb hg hat))
        go_roundg k1
        case measure => have := HK1.out; omega
        case rel => exact ⟨(y219), (wrap64 (x9_1 + 1)), (by first | rfl | (simp; done) | (simp [*]; done)), H', ⟨by have := HK1.out; omega⟩, ⟨by (with_reducible repeat (first | apply Kd.R_alloc | apply Kd.R_drewN | apply Kd.R_drew)); exact HO221.out⟩, ⟨by repeat (first | (with_reducible first | exact HB.out | apply lA_ | apply pD | apply lD_ | refine lS_ ?_ GE218.out) | exact HB.out)⟩⟩
       ·rw [if_neg c8] at H
        exact absurd H (by simp)
      ·rw [if_neg c7] at H
       have c7b0 : (((rd_T53 l0 x9_1).f0) == 0) = false := beq_eq_false_iff_ne.mpr c7
       have c7b1 : (((rd_T53 l0 x9_1).f0) != 0) = true := bne_iff_ne.mpr c7
       have H' := aK_ H
       clear H
       have p217 : 0 ≤ (x9_1 : Int) := of_decide_eq_true (by first | (with_reducible assumption) | assumption)
       have q217 : x9_1 < (l0.length : Int) := of_decide_eq_true (by first | (with_reducible assumption) | assumption)
       obtain ⟨ad217, e217, hx217_0, hx217_1, hx217_2⟩ := at_T53 HR0.out x9_1 p217 q217
       cases e217
       replace hx217_0 := (HB.out.cell (wb_ w _ hx217_0)).trans hx217_0
       replace hx217_1 := (HB.out.cell (wb_ w _ hx217_1)).trans hx217_1
       replace hx217_2 := (HB.out.cell (wb_ w _ hx217_2)).trans hx217_2
       replace p217 := eq_true p217
       replace q217 := eq_true q217
       go_wp2_with (first | ((with_reducible refine gate_dst (N := 5) rfl ?_); refine box_event ?hg (N := 5) ?hd (cs := #[.int .i64 0, .string (⟨#[]⟩ : ByteArray), .int .i64 0]) (t := 53) ?hr ?_; (case hd => rfl); (case hg => rfl); (case hr => first | (go_simp; done) | (go_simp; rfl)); intro gb218 hg w12 hbox hb; have n0_ := aK_ (Kd.R_below (by (with_reducible repeat (first | apply Kd.R_alloc | apply Kd.R_drewN | apply Kd.R_drew)); exact HO_3.out) hb); have n1_ := aK_ (lT_ (by repeat (first | (with_reducible first | exact HB.out | apply lA_ | apply pD | apply lD_) | exact HB.out)) hb); have n2_ := aK_ (hbox); have n3_ := aK_ ((by rw [hg]; exact (lZ_ (by repeat (first | (with_reducible first | exact HB.out | apply lA_ | apply pD | apply lD_) | exact HB.out))) : w.heap.size ≤ gb218)); have n4_ := aK_ ((by rw [hg]; exact (lZ_ (by repeat (first | (with_reducible first | exact HB.out | apply lA_ | apply pD | apply lD_) | exact HB.out))) : w.heap.size ≤ gb218)); clear HO_3; clear HB; have HO_3 := n0_; have HB := n1_; have BK218 := n2_; have GW218 := n3_; have GE218 := n4_; clear n0_ n1_ n2_ n3_ n4_; clear hb hbox hg; have hcz13_0 : w12.cell? ⟨gb218, 0, none⟩ = some (.int .i64 0) := (bC BK218.out 0).trans rfl; have hcz13_1 : w12.cell? ⟨gb218, 1, none⟩ = some (.string (⟨#[]⟩ : ByteArray)) := (bC BK218.out 1).trans rfl; have hcz13_2 : w12.cell? ⟨gb218, 2, none⟩ = some (.int .i64 0) := (bC BK218.out 2).trans rfl; have hfz13_0 := bF BK218.out 0; have hfz13_1 := bF BK218.out 1; have hfz13_2 := bF BK218.out 2))
       go_roundg k1
       case measure => have := HK1.out; omega
       case rel => exact ⟨(x3_1), (wrap64 (x9_1 + 1)), (by first | rfl | (simp; done) | (simp [*]; done)), H', ⟨by have := HK1.out; omega⟩, ⟨by (with_reducible repeat (first | apply Kd.R_alloc | apply Kd.R_drewN | apply Kd.R_drew)); exact Kd.R_mono (Kd.R_far (p := ⟨gb218, 2, none⟩) (Kd.R_far (p := ⟨gb218, 1, none⟩) (Kd.R_far (p := ⟨gb218, 0, none⟩) (Kd.R_types HO_3.out BK218.out (by decide)) (fun _ hk => hk.2) (.int .i64 ((rd_T53 l0 x9_1).f0))) (fun _ hk => hk.2) (.string ((rd_T53 l0 x9_1).f1))) (fun _ hk => hk.2) (.int .i64 ((rd_T53 l0 x9_1).f2))) (fun _ hk => trivial)⟩, ⟨by repeat (first | (with_reducible first | exact HB.out | apply lA_ | apply pD | apply lD_ | refine lS_ ?_ GE218.out) | exact HB.out)⟩⟩
     ·rw [if_neg c6] at H
      exact absurd H (by simp)
    ·rw [if_neg c5] at H
     exact absurd H (by simp)
   ·rw [if_neg c4] at H
    have c4b0 : decide (x9_1 < (l0.length : Int)) = false := decide_eq_false c4
    clear c4
    obtain rfl := Option.some.inj H
    go_wp2
    go_ret
    exact ⟨_, by first | rfl | (simp [errW_none, errW_some] <;> rfl) | (simp [*, errW_none, errW_some] <;> rfl), by (with_reducible repeat (first | apply Kd.R_alloc | apply Kd.R_drewN | apply Kd.R_drew)); exact HO_3.out, by repeat (first | (with_reducible first | exact HB.out | apply lA_ | apply pD | apply lD_) | exact HB.out)⟩
def ergolaw13_same.l0 : Nat → List ByteArray → List ByteArray → Int → Int → Option (Bool)
 | 0, _, _, _, _ => none
 | k + 1, x0, x1, x12, x13 => if x13 < x12 then (if 0 ≤ x13 then (if x13 < (x0.length : Int) then (if x13 < (x1.length : Int) then (if (rdOf ByteArray.empty x0 x13).toList = (rdOf ByteArray.empty x1 x13).toList then (ergolaw13_same.l0 k x0 x1 x12 (wrap64 (x13 + 1))) else (some false)) else (none)) else (none)) else (none)) else (some true)
def ergolaw13_same.f (k : Nat) (l0 : List ByteArray) (l1 : List ByteArray) : Option (Bool) := if (l0.length : Int) = (l1.length : Int) then (ergolaw13_same.l0 k l0 l1 (l0.length : Int) 0) else (some false)
set_option maxHeartbeats 8000000 in
set_option maxRecDepth 100000 in
theorem ergolaw13_same.calls (k : Nat) (A0 : Option Addr) (c0 : Nat) (l0 : List ByteArray) (A1 : Option Addr) (c1 : Nat) (l1 : List ByteArray) (r : Bool) (w : World) (hr0 : Kd.C Kd.string w A0 l0.length l0) (hc0 : l0.length ≤ c0) (hr1 : Kd.C Kd.string w A1 l1.length l1) (hc1 : l1.length ≤ c1) (h : ergolaw13_same.f k l0 l1 = some r) :
  Calls Tryd.prog 13 #[.slice A0 l0.length c0, .slice A1 l1.length c1] w fun e w' => e = .returned (.bool r) ∧ Drawn0 w w' := by
 have HR0 := aK_ hr0
 have HC0 := aK_ hc0
 clear hr0 hc0
 have HR1 := aK_ hr1
 have HC1 := aK_ hc1
 clear hr1 hc1
 have H : (if (l0.length : Int) = (l1.length : Int) then (ergolaw13_same.l0 k l0 l1 (l0.length : Int) 0) else (some false)) = some r := h
 clear h
 by_cases c3 : (l0.length : Int) = (l1.length : Int)
 ·rw [if_pos c3] at H
  have c3b0 : ((l0.length : Int) == (l1.length : Int)) = true := beq_iff_eq.mpr c3
  have c3b1 : ((l0.length : Int) != (l1.length : Int)) = false := bne_eq_false_iff_eq.mpr c3
  have c3b2 : (l0.length == l1.length) = true := by first | simpa using c3 | (simp at c3 ⊢; omega)
  clear c3
  have H' := aK_ H
  clear H
  go_enter Tryd.func13, Tryd.ntmps13
  go_wp2
  repeat (go_quiet (fail); try go_wp2)
  go_loopg [13] k (fun kq v13 w' => ∃ (x13_1 : Int), v13 = .int .i64 x13_1 ∧ Aside0 (ergolaw13_same.l0 kq l0 l1 (l0.length : Int) x13_1 = some r) ∧ Aside0 (kq ≤ k) ∧ Drawn0 w w')
  case atStart => exact ⟨(0), (by first | rfl | (simp; done) | (simp [*]; done)), H', ⟨Nat.le_refl _⟩, by repeat (first | exact Drawn0.refl _ | apply Drawn0.step)⟩
  case round =>
   clear H'
   try clear c1
   try clear p2
   try clear c3
   try clear c3b0
   try clear c3b1
   try clear c3b2
   obtain ⟨x13_1, rfl, HA, HK1, ⟨m1, rfl⟩⟩ := hrel
   cases gk with
   | zero => exact absurd HA.out (by simp [ergolaw13_same.l0])
   | succ k1 =>
    have H := HA.out
    clear HA
    simp only [ergolaw13_same.l0] at H
    by_cases c4 : x13_1 < (l0.length : Int)
    ·rw [if_pos c4] at H
     have c4b0 : decide (x13_1 < (l0.length : Int)) = true := decide_eq_true c4
     clear c4
     by_cases c5 : 0 ≤ x13_1
     ·rw [if_pos c5] at H
      have c5b0 : decide (0 ≤ x13_1) = true := decide_eq_true c5
      clear c5
      by_cases c6 : x13_1 < (l0.length : Int)
      ·rw [if_pos c6] at H
       have c6b0 : decide (x13_1 < (l0.length : Int)) = true := decide_eq_true c6
       clear c6
       by_cases c7 : x13_1 < (l1.length : Int)
       ·rw [if_pos c7] at H
        have c7b0 : decide (x13_1 < (l1.length : Int)) = true := decide_eq_true c7
        clear c7
        by_cases c8 : (rdOf ByteArray.empty l0 x13_1).toList = (rdOf ByteArray.empty l1 x13_1).toList
        ·rw [if_pos c8] at H
         have c8b0 : ((rdOf ByteArray.empty l0 x13_1).toList == (rdOf ByteArray.empty l1 x13_1).toList) = true := beq_iff_eq.mpr c8
         have c8b1 : ((rdOf ByteArray.empty l0 x13_1).toList != (rdOf ByteArray.empty l1 x13_1).toList) = false := bne_eq_false_iff_eq.mpr c8
         clear c8
         have H' := aK_ H
         clear H
         have p222 : 0 ≤ (x13_1 : Int) := of_decide_eq_true (by first | (with_reducible assumption) | assumption)
         have q222 : x13_1 < (l0.length : Int) := of_decide_eq_true (by first | (with_reducible assumption) | assumption)
         obtain ⟨ad222, e222, hx222_0⟩ := Kd.at_string HR0.out x13_1 p222 q222
         cases e222
         replace p222 := eq_true p222
         replace q222 := eq_true q222
         have p223 : 0 ≤ (x13_1 : Int) := of_decide_eq_true (by first | (with_reducible assumption) | assumption)
         have q223 : x13_1 < (l1.length : Int) := of_decide_eq_true (by first | (with_reducible assumption) | assumption)
         obtain ⟨ad223, e223, hx223_0⟩ := Kd.at_string HR1.out x13_1 p223 q223
         cases e223
         replace p223 := eq_true p223
         replace q223 := eq_true q223
         go_wp2
         repeat (go_quiet (fail); try go_wp2)
         go_roundg k1
         case measure => have := HK1.out; omega
         case rel => exact ⟨(wrap64 (x13_1 + 1)), (by first | rfl | (simp; done) | (simp [*]; done)), H', ⟨by have := HK1.out; omega⟩, by repeat (first | exact Drawn0.refl _ | apply Drawn0.step)⟩
        ·rw [if_neg c8] at H
         have c8b0 : ((rdOf ByteArray.empty l0 x13_1).toList == (rdOf ByteArray.empty l1 x13_1).toList) = false := beq_eq_false_iff_ne.mpr c8
         have c8b1 : ((rdOf ByteArray.empty l0 x13_1).toList != (rdOf ByteArray.empty l1 x13_1).toList) = true := bne_iff_ne.mpr c8
         obtain rfl := Option.some.inj H
         have p222 : 0 ≤ (x13_1 : Int) := of_decide_eq_true (by first | (with_reducible assumption) | assumption)
         have q222 : x13_1 < (l0.length : Int) := of_decide_eq_true (by first | (with_reducible assumption) | assumption)
         obtain ⟨ad222, e222, hx222_0⟩ := Kd.at_string HR0.out x13_1 p222 q222
         cases e222
         replace p222 := eq_true p222
         replace q222 := eq_true q222
         have p223 : 0 ≤ (x13_1 : Int) := of_decide_eq_true (by first | (with_reducible assumption) | assumption)
         have q223 : x13_1 < (l1.length : Int) := of_decide_eq_true (by first | (with_reducible assumption) | assumption)
         obtain ⟨ad223, e223, hx223_0⟩ := Kd.at_string HR1.out x13_1 p223 q223
         cases e223
         replace p223 := eq_true p223
         replace q223 := eq_true q223
         go_wp2
         repeat (go_quiet (fail); try go_wp2)
         go_ret
         exact ⟨by first | rfl | (simp; done) | (simp [*]; done), by repeat (first | exact Drawn0.refl _ | apply Drawn0.step)⟩
       ·rw [if_neg c7] at H
        exact absurd H (by simp)
      ·rw [if_neg c6] at H
       exact absurd H (by simp)
     ·rw [if_neg c5] at H
      exact absurd H (by simp)
    ·rw [if_neg c4] at H
     have c4b0 : decide (x13_1 < (l0.length : Int)) = false := decide_eq_false c4
     clear c4
     obtain rfl := Option.some.inj H
     go_wp2
     repeat (go_quiet (fail); try go_wp2)
     go_ret
     exact ⟨by first | rfl | (simp; done) | (simp [*]; done), by repeat (first | exact Drawn0.refl _ | apply Drawn0.step)⟩
 ·rw [if_neg c3] at H
  have c3b0 : ((l0.length : Int) == (l1.length : Int)) = false := beq_eq_false_iff_ne.mpr c3
  have c3b1 : ((l0.length : Int) != (l1.length : Int)) = true := bne_iff_ne.mpr c3
  have c3b2 : (l0.length == l1.length) = false := by first | simpa using c3 | (simp at c3 ⊢; omega)
  obtain rfl := Option.some.inj H
  go_enter Tryd.func13, Tryd.ntmps13
  go_wp2
  repeat (go_quiet (fail); try go_wp2)
  go_ret
  exact ⟨by first | rfl | (simp; done) | (simp [*]; done), by repeat (first | exact Drawn0.refl _ | apply Drawn0.step)⟩
def syntax_vars.l0 : Nat → List ByteArray → List (S53) → Int → Int → Option (List ByteArray)
 | 0, _, _, _, _ => none
 | k + 1, x3, x6, x7, x8 => if x8 < x7 then (if 0 ≤ x8 then (if x8 < (x6.length : Int) then (if ((rd_T53 x6 x8).f0) = 0 then (if x3.length < 8796093022208 then (syntax_vars.l0 k (x3 ++ [(rd_T53 x6 x8).f1]) x6 x7 (wrap64 (x8 + 1))) else (none)) else (syntax_vars.l0 k x3 x6 x7 (wrap64 (x8 + 1)))) else (none)) else (none)) else (some x3)
def syntax_vars.f (k : Nat) (l0 : List (S53)) : Option (List ByteArray) := syntax_vars.l0 k ([] : List ByteArray) l0 (l0.length : Int) 0
set_option maxHeartbeats 8000000 in
set_option maxRecDepth 100000 in
theorem syntax_vars.calls (k : Nat) (A0 : Option Addr) (c0 : Nat) (l0 : List (S53)) (r : List ByteArray) (w : World) (hr0 : Kd.C k53 w A0 l0.length l0) (hc0 : l0.length ≤ c0) (h : syntax_vars.f k l0 = some r) :
  Calls Tryd.prog 33 #[.slice A0 l0.length c0] w fun e w' => ∃ v0_ : Value, e = .returned (v0_) ∧ Kd.R Kd.string 9 w' w.heap.size (fun _ => True) v0_ r ∧ Below w.heap.size w w' := by
 have hu53 := Tryd.underlying53
 have HR0 := aK_ hr0
 have HC0 := aK_ hc0
 clear hr0 hc0
 have HB := aK_ (Below.refl w.heap.size w)
 have H : (syntax_vars.l0 k ([] : List ByteArray) l0 (l0.length : Int) 0) = some r := h
 clear h
 have H' := aK_ H
 clear H
 go_enter Tryd.func33, Tryd.ntmps33
 go_wp2
 go_loopg [3, 8] k (fun kq v3 v8 w' => ∃ (x3_1 : List ByteArray) (x8_1 : Int), v8 = .int .i64 x8_1 ∧ Aside0 (syntax_vars.l0 kq x3_1 l0 (l0.length : Int) x8_1 = some r) ∧ Aside0 (kq ≤ k) ∧ Aside0 (Kd.R Kd.string 9 w' w.heap.size (fun _ => True) v3 x3_1) ∧ Aside0 (Below w.heap.size w w'))
 case atStart => exact ⟨(([] : List ByteArray)), (0), (by first | rfl | (simp; done) | (simp [*]; done)), H', ⟨Nat.le_refl _⟩, ⟨by first | exact Kd.R_nil _ _ _ _ _ | exact Kd.N_nil _ _ _ _ _ | exact Kd.V_nil _ _ _ _ _ | exact Kd.Q_nil _ _ _ _ _ | exact Kd.S_nil _ _ _ _ _⟩, ⟨by repeat (first | (with_reducible first | exact HB.out | apply lA_ | apply pD | apply lD_) | exact HB.out)⟩⟩
 case round =>
  clear H'
  obtain ⟨x3_1, x8_1, rfl, HA, HK1, HO_3, HB⟩ := hrel
  cases gk with
  | zero => exact absurd HA.out (by simp [syntax_vars.l0])
  | succ k1 =>
   have H := HA.out
   clear HA
   simp only [syntax_vars.l0] at H
   by_cases c2 : x8_1 < (l0.length : Int)
   ·rw [if_pos c2] at H
    have c2b0 : decide (x8_1 < (l0.length : Int)) = true := decide_eq_true c2
    clear c2
    by_cases c3 : 0 ≤ x8_1
    ·rw [if_pos c3] at H
     have c3b0 : decide (0 ≤ x8_1) = true := decide_eq_true c3
     clear c3
     by_cases c4 : x8_1 < (l0.length : Int)
     ·rw [if_pos c4] at H
      have c4b0 : decide (x8_1 < (l0.length : Int)) = true := decide_eq_true c4
      clear c4
      by_cases c5 : ((rd_T53 l0 x8_1).f0) = 0
      ·rw [if_pos c5] at H
       have c5b0 : (((rd_T53 l0 x8_1).f0) == 0) = true := beq_iff_eq.mpr c5
       have c5b1 : (((rd_T53 l0 x8_1).f0) != 0) = false := bne_eq_false_iff_eq.mpr c5
       clear c5
       by_cases c6 : x3_1.length < 8796093022208
       ·rw [if_pos c6] at H
        have LMc6 := aK_ c6
        clear c6
        obtain ⟨y226, hy226⟩ : ∃ y_ : List ByteArray, y_ = (x3_1 ++ [(rd_T53 l0 x8_1).f1]) := ⟨_, rfl⟩
        replace H : (syntax_vars.l0 k1 y226 l0 (l0.length : Int) (wrap64 (x8_1 + 1))) = some r := by first | (rw [hy226]; with_reducible exact H) | (have H2_ := (Option.bind_some _ _).symm.trans H; rw [hy226]; with_reducible exact H2_) | (have H2_ := (Option.bind_some _ _).symm.trans H; with_reducible exact H2_) | with_reducible exact H | (rw [hy226]; exact H) | exact H
        have Ny226 := aK_ hy226
        clear hy226
        have H' := aK_ H
        clear H
        have p224 : 0 ≤ (x8_1 : Int) := of_decide_eq_true (by first | (with_reducible assumption) | assumption)
        have q224 : x8_1 < (l0.length : Int) := of_decide_eq_true (by first | (with_reducible assumption) | assumption)
        obtain ⟨ad224, e224, hx224_0, hx224_1, hx224_2⟩ := at_T53 HR0.out x8_1 p224 q224
        cases e224
        replace hx224_0 := (HB.out.cell (wb_ w _ hx224_0)).trans hx224_0
        replace hx224_1 := (HB.out.cell (wb_ w _ hx224_1)).trans hx224_1
        replace hx224_2 := (HB.out.cell (wb_ w _ hx224_2)).trans hx224_2
        replace p224 := eq_true p224
        replace q224 := eq_true q224
        go_wp2_with (first | ((with_reducible refine gate_dst (N := 5) rfl ?_); refine box_event ?hg (N := 5) ?hd (cs := #[.int .i64 0, .string (⟨#[]⟩ : ByteArray), .int .i64 0]) (t := 53) ?hr ?_; (case hd => rfl); (case hg => rfl); (case hr => first | (go_simp; done) | (go_simp; rfl)); intro gb225 hg w7 hbox hb; have n0_ := aK_ (Kd.R_below (by (with_reducible repeat (first | apply Kd.R_alloc | apply Kd.R_drewN | apply Kd.R_drew)); exact HO_3.out) hb); have n1_ := aK_ (lT_ (by repeat (first | (with_reducible first | exact HB.out | apply lA_ | apply pD | apply lD_) | exact HB.out)) hb); have n2_ := aK_ (hbox); have n3_ := aK_ ((by rw [hg]; exact (lZ_ (by repeat (first | (with_reducible first | exact HB.out | apply lA_ | apply pD | apply lD_) | exact HB.out))) : w.heap.size ≤ gb225)); have n4_ := aK_ ((by rw [hg]; exact (lZ_ (by repeat (first | (with_reducible first | exact HB.out | apply lA_ | apply pD | apply lD_) | exact HB.out))) : w.heap.size ≤ gb225)); clear HO_3; clear HB; have HO_3 := n0_; have HB := n1_; have BK225 := n2_; have GW225 := n3_; have GE225 := n4_; clear n0_ n1_ n2_ n3_ n4_; clear hb hbox hg; have hcz8_0 : w7.cell? ⟨gb225, 0, none⟩ = some (.int .i64 0) := (bC BK225.out 0).trans rfl; have hcz8_1 : w7.cell? ⟨gb225, 1, none⟩ = some (.string (⟨#[]⟩ : ByteArray)) := (bC BK225.out 1).trans rfl; have hcz8_2 : w7.cell? ⟨gb225, 2, none⟩ = some (.int .i64 0) := (bC BK225.out 2).trans rfl; have hfz8_0 := bF BK225.out 0; have hfz8_1 := bF BK225.out 1; have hfz8_2 := bF BK225.out 2) | ((with_reducible refine gate_builtin (b := .append) (xs := #[.tmp 15, .tmp 18]) rfl ?_); at_builtin; refine Kd.R_append Kd.string (w0 := w) w.heap.size rfl (.tmp 15) (.tmp 18) 45 9 (.string ⟨#[]⟩) 16 rfl Tryd.underlying45 info9 rfl (by decide) (by omega) u3 x3_1 ((rd_T53 l0 x8_1).f1) [.string ((rd_T53 l0 x8_1).f1)] (fun _ => True) (fun _ => False) rfl (by first | (go_simp; done) | (go_simp; rfl)) ?aP (fun _ hk => hk.elim) ?aF ?aO ?aB ?aS ?aL ?_; (case aP => exact rfl); (case aB => exact (by repeat (first | (with_reducible first | exact HB.out | apply lA_ | apply pD | apply lD_ | refine lS_ ?_ GE225.out) | exact HB.out))); (case aF => exact (fun _ _ => trivial)); (case aO => exact (by (with_reducible repeat (first | apply Kd.R_alloc | apply Kd.R_drewN | apply Kd.R_drew)); exact Kd.R_mono (Kd.R_far (p := ⟨gb225, 2, none⟩) (Kd.R_far (p := ⟨gb225, 1, none⟩) (Kd.R_far (p := ⟨gb225, 0, none⟩) (Kd.R_types HO_3.out BK225.out (by decide)) (fun _ hk => hk.2) (.int .i64 ((rd_T53 l0 x8_1).f0))) (fun _ hk => hk.2) (.string ((rd_T53 l0 x8_1).f1))) (fun _ hk => hk.2) (.int .i64 ((rd_T53 l0 x8_1).f2))) (fun _ hk => trivial))); (case aS => exact (lZ_ (by repeat (first | (with_reducible first | exact HB.out | apply lA_ | apply pD | apply lD_ | refine lS_ ?_ GE225.out) | exact HB.out)))); (case aL => have := LMc6.out; omega); intro v227 w9 ho hb hg hat; rw [← Ny226.out] at ho; have n0_ := aK_ (bG_ (g := gb225) (o := .cells #[.int .i64 ((rd_T53 l0 x8_1).f0), .string ((rd_T53 l0 x8_1).f1), .int .i64 ((rd_T53 l0 x8_1).f2)] 53 (0, 0)) ((by apply eC_; (with_reducible repeat (first | refine bDN ?_ _ | refine bD ?_ | refine bA ?_ _)); apply b2_; (with_reducible repeat (first | refine bDN ?_ _ | refine bD ?_ | refine bA ?_ _)); apply b2_; (with_reducible repeat (first | refine bDN ?_ _ | refine bD ?_ | refine bA ?_ _)); apply b2_; (with_reducible repeat (first | refine bDN ?_ _ | refine bD ?_ | refine bA ?_ _)); exact BK225.out; kernel_rfl)) hg (Kd.R_ne HO_3.out BK225.out (by decide))); have n1_ := aK_ (hb); have n2_ := aK_ (ho); clear BK225; clear HB; clear HO_3; have BK225 := n0_; have HB := n1_; have HO228 := n2_; clear n0_ n1_ n2_; clear ho hb hg hat))
        go_roundg k1
        case measure => have := HK1.out; omega
        case rel => exact ⟨(y226), (wrap64 (x8_1 + 1)), (by first | rfl | (simp; done) | (simp [*]; done)), H', ⟨by have := HK1.out; omega⟩, ⟨by (with_reducible repeat (first | apply Kd.R_alloc | apply Kd.R_drewN | apply Kd.R_drew)); exact HO228.out⟩, ⟨by repeat (first | (with_reducible first | exact HB.out | apply lA_ | apply pD | apply lD_ | refine lS_ ?_ GE225.out) | exact HB.out)⟩⟩
       ·rw [if_neg c6] at H
        exact absurd H (by simp)
      ·rw [if_neg c5] at H
       have c5b0 : (((rd_T53 l0 x8_1).f0) == 0) = false := beq_eq_false_iff_ne.mpr c5
       have c5b1 : (((rd_T53 l0 x8_1).f0) != 0) = true := bne_iff_ne.mpr c5
       have H' := aK_ H
       clear H
       have p224 : 0 ≤ (x8_1 : Int) := of_decide_eq_true (by first | (with_reducible assumption) | assumption)
       have q224 : x8_1 < (l0.length : Int) := of_decide_eq_true (by first | (with_reducible assumption) | assumption)
       obtain ⟨ad224, e224, hx224_0, hx224_1, hx224_2⟩ := at_T53 HR0.out x8_1 p224 q224
       cases e224
       replace hx224_0 := (HB.out.cell (wb_ w _ hx224_0)).trans hx224_0
       replace hx224_1 := (HB.out.cell (wb_ w _ hx224_1)).trans hx224_1
       replace hx224_2 := (HB.out.cell (wb_ w _ hx224_2)).trans hx224_2
       replace p224 := eq_true p224
       replace q224 := eq_true q224
       go_wp2_with (first | ((with_reducible refine gate_dst (N := 5) rfl ?_); refine box_event ?hg (N := 5) ?hd (cs := #[.int .i64 0, .string (⟨#[]⟩ : ByteArray), .int .i64 0]) (t := 53) ?hr ?_; (case hd => rfl); (case hg => rfl); (case hr => first | (go_simp; done) | (go_simp; rfl)); intro gb225 hg w10 hbox hb; have n0_ := aK_ (Kd.R_below (by (with_reducible repeat (first | apply Kd.R_alloc | apply Kd.R_drewN | apply Kd.R_drew)); exact HO_3.out) hb); have n1_ := aK_ (lT_ (by repeat (first | (with_reducible first | exact HB.out | apply lA_ | apply pD | apply lD_) | exact HB.out)) hb); have n2_ := aK_ (hbox); have n3_ := aK_ ((by rw [hg]; exact (lZ_ (by repeat (first | (with_reducible first | exact HB.out | apply lA_ | apply pD | apply lD_) | exact HB.out))) : w.heap.size ≤ gb225)); have n4_ := aK_ ((by rw [hg]; exact (lZ_ (by repeat (first | (with_reducible first | exact HB.out | apply lA_ | apply pD | apply lD_) | exact HB.out))) : w.heap.size ≤ gb225)); clear HO_3; clear HB; have HO_3 := n0_; have HB := n1_; have BK225 := n2_; have GW225 := n3_; have GE225 := n4_; clear n0_ n1_ n2_ n3_ n4_; clear hb hbox hg; have hcz11_0 : w10.cell? ⟨gb225, 0, none⟩ = some (.int .i64 0) := (bC BK225.out 0).trans rfl; have hcz11_1 : w10.cell? ⟨gb225, 1, none⟩ = some (.string (⟨#[]⟩ : ByteArray)) := (bC BK225.out 1).trans rfl; have hcz11_2 : w10.cell? ⟨gb225, 2, none⟩ = some (.int .i64 0) := (bC BK225.out 2).trans rfl; have hfz11_0 := bF BK225.out 0; have hfz11_1 := bF BK225.out 1; have hfz11_2 := bF BK225.out 2))
       go_roundg k1
       case measure => have := HK1.out; omega
       case rel => exact ⟨(x3_1), (wrap64 (x8_1 + 1)), (by first | rfl | (simp; done) | (simp [*]; done)), H', ⟨by have := HK1.out; omega⟩, ⟨by (with_reducible repeat (first | apply Kd.R_alloc | apply Kd.R_drewN | apply Kd.R_drew)); exact Kd.R_mono (Kd.R_far (p := ⟨gb225, 2, none⟩) (Kd.R_far (p := ⟨gb225, 1, none⟩) (Kd.R_far (p := ⟨gb225, 0, none⟩) (Kd.R_types HO_3.out BK225.out (by decide)) (fun _ hk => hk.2) (.int .i64 ((rd_T53 l0 x8_1).f0))) (fun _ hk => hk.2) (.string ((rd_T53 l0 x8_1).f1))) (fun _ hk => hk.2) (.int .i64 ((rd_T53 l0 x8_1).f2))) (fun _ hk => trivial)⟩, ⟨by repeat (first | (with_reducible first | exact HB.out | apply lA_ | apply pD | apply lD_ | refine lS_ ?_ GE225.out) | exact HB.out)⟩⟩
     ·rw [if_neg c4] at H
      exact absurd H (by simp)
    ·rw [if_neg c3] at H
     exact absurd H (by simp)
   ·rw [if_neg c2] at H
    have c2b0 : decide (x8_1 < (l0.length : Int)) = false := decide_eq_false c2
    clear c2
    obtain rfl := Option.some.inj H
    go_wp2
    go_ret
    exact ⟨_, by first | rfl | (simp [errW_none, errW_some] <;> rfl) | (simp [*, errW_none, errW_some] <;> rfl), by (with_reducible repeat (first | apply Kd.R_alloc | apply Kd.R_drewN | apply Kd.R_drew)); exact HO_3.out, by repeat (first | (with_reducible first | exact HB.out | apply lA_ | apply pD | apply lD_) | exact HB.out)⟩
def syntax_Atom_Vars.f (k : Nat) (a0_0 : ByteArray) (l0_1 : List (S53)) : Option (List ByteArray) := (syntax_vars.f k l0_1).bind fun t230 => (some t230)
set_option maxHeartbeats 8000000 in
set_option maxRecDepth 100000 in
theorem syntax_Atom_Vars.calls (k : Nat) (a0_0 : ByteArray) (A0_1 : Option Addr) (c0_1 : Nat) (l0_1 : List (S53)) (r : List ByteArray) (w : World) (hr0_1 : Kd.C k53 w A0_1 l0_1.length l0_1) (hc0_1 : l0_1.length ≤ c0_1) (h : syntax_Atom_Vars.f k a0_0 l0_1 = some r) :
  Calls Tryd.prog 14 #[.agg #[.string a0_0, .slice A0_1 l0_1.length c0_1]] w fun e w' => ∃ v0_ : Value, e = .returned (v0_) ∧ Kd.R Kd.string 9 w' w.heap.size (fun _ => True) v0_ r ∧ Below w.heap.size w w' := by
 have hu39 := Tryd.underlying39
 have HR0_1 := aK_ hr0_1
 have HC0_1 := aK_ hc0_1
 clear hr0_1 hc0_1
 have HB := aK_ (Below.refl w.heap.size w)
 have H : ((syntax_vars.f k l0_1).bind fun t230 => (some t230)) = some r := h
 clear h
 replace H := Option.bind_eq_some_iff.mp H
 obtain ⟨t230, A20, H⟩ := H
 replace H : (some t230) = some r := H
 have A2 := aK_ A20
 clear A20
 obtain rfl := Option.some.inj H
 go_enter Tryd.func14, Tryd.ntmps14
 go_wp2_with (first | ((with_reducible refine gate_dst (N := 1) rfl ?_); refine box_event ?hg (N := 1) ?hd (cs := #[.string a0_0, .slice A0_1 l0_1.length c0_1]) (t := 39) ?hr ?_; (case hd => rfl); (case hg => rfl); (case hr => first | (go_simp; done) | (go_simp; rfl)); intro gb229 hg w3 hbox hb; have n0_ := aK_ (lT_ (by repeat (first | (with_reducible first | exact HB.out | apply lA_ | apply pD | apply lD_) | exact HB.out)) hb); have n1_ := aK_ (hbox); have n2_ := aK_ ((by rw [hg]; exact (lZ_ (by repeat (first | (with_reducible first | exact HB.out | apply lA_ | apply pD | apply lD_) | exact HB.out))) : w.heap.size ≤ gb229)); have n3_ := aK_ ((by rw [hg]; exact (lZ_ (by repeat (first | (with_reducible first | exact HB.out | apply lA_ | apply pD | apply lD_) | exact HB.out))) : w.heap.size ≤ gb229)); clear HB; have HB := n0_; have BK229 := n1_; have GW229 := n2_; have GE229 := n3_; clear n0_ n1_ n2_ n3_; clear hb hbox hg; have hcz4_0 : w3.cell? ⟨gb229, 0, none⟩ = some (.string a0_0) := (bC BK229.out 0).trans rfl; have hcz4_1 : w3.cell? ⟨gb229, 1, none⟩ = some (.slice A0_1 l0_1.length c0_1) := (bC BK229.out 1).trans rfl; have hfz4_0 := bF BK229.out 0; have hfz4_1 := bF BK229.out 1) | ((with_reducible refine gate_callee (f := 33) rfl ?_); refine goesL_ (some 5) rfl rfl Tryd.func33 (by kernel_rfl) rfl #[.slice A0_1 l0_1.length c0_1] rfl (by (try simp only [List.map_toArray, List.map_cons, List.map_nil]); first | done | rfl | (simp only [List.length_drop, List.length_take]; rfl)) ?_; (with_reducible refine (syntax_vars.calls k _ _ l0_1 t230 _ ?side1 ?side2 A2.out).mono ?_); (case side1 => repeat (first | exact (Kd.C_below HR0_1.out HB.out) | (with_reducible refine Kd.C_alloc ?_ _) | (with_reducible refine Kd.C_drewN ?_ _) | (with_reducible refine Kd.C_drew ?_))); (case side2 => exact HC0_1.out); rintro e w5 ⟨v231, rfl, ho0, hb⟩; refine ⟨_, rfl, ?_⟩; have n0_ := aK_ (Kd.R_lower ho0 (lZ_ (by repeat (first | (with_reducible first | exact HB.out | apply lA_ | apply pD | apply lD_ | refine lS_ ?_ GE229.out) | exact HB.out)))); have n1_ := aK_ (bB (by (with_reducible repeat (first | refine bDN ?_ _ | refine bD ?_ | refine bA ?_ _)); exact BK229.out) hb); have n2_ := aK_ (lT_ (by repeat (first | (with_reducible first | exact HB.out | apply lA_ | apply pD | apply lD_ | refine lS_ ?_ GE229.out) | exact HB.out)) hb); clear BK229; clear HB; have HO232 := n0_; have BK229 := n1_; have HB := n2_; clear n0_ n1_ n2_; (try clear hb); (try clear hb2); (try clear hk); (try clear hi); (try clear ho0)))
 go_ret
 exact ⟨_, by first | rfl | (simp [errW_none, errW_some] <;> rfl) | (simp [*, errW_none, errW_some] <;> rfl), by (with_reducible repeat (first | apply Kd.R_alloc | apply Kd.R_drewN | apply Kd.R_drew)); exact HO232.out, by repeat (first | (with_reducible first | exact HB.out | apply lA_ | apply pD | apply lD_ | refine lS_ ?_ GE229.out) | exact HB.out)⟩
def syntax_Expr_Vars.f : Nat → Int → ByteArray → Int → Int → List (S57) → Option (List ByteArray)
 | 0, _, _, _, _, _ => none
 | k + 1, a0_0, a0_1, a0_2, a0_3, l0_4 => if (l0_4.length : Int) = 2 then (if 0 < (l0_4.length : Int) then ((syntax_Expr_Vars.f k ((rd_T57 l0_4 0).f0.f0) ((rd_T57 l0_4 0).f0.f1) ((rd_T57 l0_4 0).f0.f2) ((rd_T57 l0_4 0).f1) ((rd_T57 l0_4 0).f2)).bind fun t235 => (if 1 < (l0_4.length : Int) then ((syntax_Expr_Vars.f k ((rd_T57 l0_4 1).f0.f0) ((rd_T57 l0_4 1).f0.f1) ((rd_T57 l0_4 1).f0.f2) ((rd_T57 l0_4 1).f1) ((rd_T57 l0_4 1).f2)).bind fun t239 => ((slices_Concat_string_string.f (([t235, t239] : List (List ByteArray)))).bind fun t245 => (some t245))) else (none))) else (none)) else ((syntax_vars.f k (([(⟨a0_0, a0_1, a0_2⟩ : S53)] : List (S53)))).bind fun t251 => (some t251))
def syntax_Expr_Vars.T3 : Bool × List (List Nat × List Nat) := (true, [([], []), ([0], [0]), ([1], [1]), ([2], [2]), ([3], [3]), ([], []), ([5], [5]), ([6], [6]), ([7], [7]), ([8, 4], [8]), ([4, 9], [4, 9]), ([10, 9], [10]), ([11, 11, 0, 1, 2, 3, 4, 5, 6, 7, 8, 9, 10, 11], [11])])
def syntax_Expr_Vars.B3 : List Nat := [0, 1, 3, 7, 15, 0, 32, 96, 224, 511, 1023, 2047, 4095]
theorem syntax_Expr_Vars.tab3 : rtab .any (opsOf Tryd.f17 3) = syntax_Expr_Vars.T3 := by kernel_rfl
theorem syntax_Expr_Vars.bits3 : waitsOk syntax_Expr_Vars.T3.2 syntax_Expr_Vars.B3 = true := by kernel_rfl
set_option maxHeartbeats 8000000 in
set_option maxRecDepth 100000 in
theorem syntax_Expr_Vars.calls (k : Nat) : ∀ (a0_0 : Int) (a0_1 : ByteArray) (a0_2 : Int) (a0_3 : Int) (A0_4 : Option Addr) (c0_4 : Nat) (l0_4 : List (S57)) (r : List ByteArray) (w : World) (hr0_4 : Kd.C k57 w A0_4 l0_4.length l0_4) (hc0_4 : l0_4.length ≤ c0_4) (h : syntax_Expr_Vars.f k a0_0 a0_1 a0_2 a0_3 l0_4 = some r),
  Calls Tryd.prog 17 #[.agg #[.int .i64 a0_0, .string a0_1, .int .i64 a0_2, .int .i64 a0_3, .slice A0_4 l0_4.length c0_4]] w fun e w' => ∃ v0_ : Value, e = .returned (v0_) ∧ Kd.R Kd.string 9 w' w.heap.size (fun _ => True) v0_ r ∧ Below w.heap.size w w' := by
 induction k using Nat.strongRecOn with
 | _ k ih =>
 intro a0_0 a0_1 a0_2 a0_3 A0_4 c0_4 l0_4 r w hr0_4 hc0_4 h
 cases k with
 | zero => exact absurd h (by simp [syntax_Expr_Vars.f])
 | succ k =>
 simp only [syntax_Expr_Vars.f] at h
 have hu57 := Tryd.underlying57
 have hu53 := Tryd.underlying53
 have HR0_4 := aK_ hr0_4
 have HC0_4 := aK_ hc0_4
 clear hr0_4 hc0_4
 have HB := aK_ (Below.refl w.heap.size w)
 have H : (if (l0_4.length : Int) = 2 then (if 0 < (l0_4.length : Int) then ((syntax_Expr_Vars.f k ((rd_T57 l0_4 0).f0.f0) ((rd_T57 l0_4 0).f0.f1) ((rd_T57 l0_4 0).f0.f2) ((rd_T57 l0_4 0).f1) ((rd_T57 l0_4 0).f2)).bind fun t235 => (if 1 < (l0_4.length : Int) then ((syntax_Expr_Vars.f k ((rd_T57 l0_4 1).f0.f0) ((rd_T57 l0_4 1).f0.f1) ((rd_T57 l0_4 1).f0.f2) ((rd_T57 l0_4 1).f1) ((rd_T57 l0_4 1).f2)).bind fun t239 => ((slices_Concat_string_string.f (([t235, t239] : List (List ByteArray)))).bind fun t245 => (some t245))) else (none))) else (none)) else ((syntax_vars.f k (([(⟨a0_0, a0_1, a0_2⟩ : S53)] : List (S53)))).bind fun t251 => (some t251))) = some r := h
 clear h
 by_cases c2 : (l0_4.length : Int) = 2
 ·rw [if_pos c2] at H
  have c2b0 : ((l0_4.length : Int) == 2) = true := beq_iff_eq.mpr c2
  have c2b1 : ((l0_4.length : Int) != 2) = false := bne_eq_false_iff_eq.mpr c2
  clear c2
  by_cases c3 : 0 < (l0_4.length : Int)
  ·rw [if_pos c3] at H
   have c3b0 : decide (0 < (l0_4.length : Int)) = true := decide_eq_true c3
   have c3b1 : decide (0 < l0_4.length) = true := decide_eq_true (by omega)
   clear c3
   replace H := Option.bind_eq_some_iff.mp H
   obtain ⟨t235, A40, H⟩ := H
   replace H : (if 1 < (l0_4.length : Int) then ((syntax_Expr_Vars.f k ((rd_T57 l0_4 1).f0.f0) ((rd_T57 l0_4 1).f0.f1) ((rd_T57 l0_4 1).f0.f2) ((rd_T57 l0_4 1).f1) ((rd_T57 l0_4 1).f2)).bind fun t239 => ((slices_Concat_string_string.f (([t235, t239] : List (List ByteArray)))).bind fun t245 => (some t245))) else (none)) = some r := H
   have A4 := aK_ A40
   clear A40
   by_cases c5 : 1 < (l0_4.length : Int)
   ·rw [if_pos c5] at H
    have c5b0 : decide (1 < (l0_4.length : Int)) = true := decide_eq_true c5
    have c5b1 : decide (1 < l0_4.length) = true := decide_eq_true (by omega)
    clear c5
    replace H := Option.bind_eq_some_iff.mp H
    obtain ⟨t239, A60, H⟩ := H
    replace H : ((slices_Concat_string_string.f (([t235, t239] : List (List ByteArray)))).bind fun t245 => (some t245)) = some r := H
    have A6 := aK_ A60
    clear A60
    obtain ⟨y242, hy242⟩ : ∃ y_ : List (List ByteArray), y_ = (([t235, t239] : List (List ByteArray))) := ⟨_, rfl⟩
    replace H : ((slices_Concat_string_string.f y242).bind fun t245 => (some t245)) = some r := by first | (rw [hy242]; with_reducible exact H) | (have H2_ := (Option.bind_some _ _).symm.trans H; rw [hy242]; with_reducible exact H2_) | (have H2_ := (Option.bind_some _ _).symm.trans H; with_reducible exact H2_) | with_reducible exact H | (rw [hy242]; exact H) | exact H
    have Ny242 := aK_ hy242
    clear hy242
    replace H := Option.bind_eq_some_iff.mp H
    obtain ⟨t245, A70, H⟩ := H
    replace H : (some t245) = some r := H
    have A7 := aK_ A70
    clear A70
    obtain rfl := Option.some.inj H
    go_enter Tryd.func17, Tryd.ntmps17
    try go_wp2_with (first | ((with_reducible refine gate_dst (N := 1) rfl ?_); refine box_event ?hg (N := 1) ?hd (cs := #[.int .i64 a0_0, .string a0_1, .int .i64 a0_2, .int .i64 a0_3, .slice A0_4 l0_4.length c0_4]) (t := 57) ?hr ?_; (case hd => rfl); (case hg => rfl); (case hr => first | (go_simp; done) | (go_simp; rfl)); intro gb233 hg w8 hbox hb; have n0_ := aK_ (lT_ (by repeat (first | (with_reducible first | exact HB.out | apply lA_ | apply pD | apply lD_) | exact HB.out)) hb); have n1_ := aK_ (hbox); have n2_ := aK_ ((by rw [hg]; exact (lZ_ (by repeat (first | (with_reducible first | exact HB.out | apply lA_ | apply pD | apply lD_) | exact HB.out))) : w.heap.size ≤ gb233)); have n3_ := aK_ ((by rw [hg]; exact (lZ_ (by repeat (first | (with_reducible first | exact HB.out | apply lA_ | apply pD | apply lD_) | exact HB.out))) : w.heap.size ≤ gb233)); clear HB; have HB := n0_; have BK233 := n1_; have GW233 := n2_; have GE233 := n3_; clear n0_ n1_ n2_ n3_; clear hb hbox hg; have hcz9_0 : w8.cell? ⟨gb233, 0, none⟩ = some (.int .i64 a0_0) := (bC BK233.out 0).trans rfl; have hcz9_1 : w8.cell? ⟨gb233, 1, none⟩ = some (.string a0_1) := (bC BK233.out 1).trans rfl; have hcz9_2 : w8.cell? ⟨gb233, 2, none⟩ = some (.int .i64 a0_2) := (bC BK233.out 2).trans rfl; have hcz9_3 : w8.cell? ⟨gb233, 3, none⟩ = some (.int .i64 a0_3) := (bC BK233.out 3).trans rfl; have hcz9_4 : w8.cell? ⟨gb233, 4, none⟩ = some (.slice A0_4 l0_4.length c0_4) := (bC BK233.out 4).trans rfl; have hfz9_0 := bF BK233.out 0; have hfz9_1 := bF BK233.out 1; have hfz9_2 := bF BK233.out 2; have hfz9_3 := bF BK233.out 3; have hfz9_4 := bF BK233.out 4))
    have n0_ := aK_ (bD BK233.out)
    have n1_ := aK_ (lD_ HB.out)
    clear BK233
    clear HB
    have BK233 := n0_
    have HB := n1_
    clear n0_ n1_
    have p234 : 0 ≤ (0 : Int) := (by omega)
    have q234 : 0 < (l0_4.length : Int) := of_decide_eq_true (by first | (with_reducible assumption) | assumption)
    obtain ⟨ad234, A234_4, c234_4, e234, hx234_0, hx234_1, hx234_2, hx234_3, hx234_4, hl234_4, hi234_4⟩ := at_T57 HR0_4.out 0 p234 q234
    have hw234_4 := hx234_4
    (try rw [show ((0 : Int)).toNat = 0 from rfl] at hw234_4)
    (try rw [show 0 * 5 = 0 from rfl] at hw234_4)
    (try rw [Addr.add_zero'] at hw234_4)
    have hw234_3 := hx234_3
    (try rw [show ((0 : Int)).toNat = 0 from rfl] at hw234_3)
    (try rw [show 0 * 5 = 0 from rfl] at hw234_3)
    (try rw [Addr.add_zero'] at hw234_3)
    have hw234_2 := hx234_2
    (try rw [show ((0 : Int)).toNat = 0 from rfl] at hw234_2)
    (try rw [show 0 * 5 = 0 from rfl] at hw234_2)
    (try rw [Addr.add_zero'] at hw234_2)
    have hw234_1 := hx234_1
    (try rw [show ((0 : Int)).toNat = 0 from rfl] at hw234_1)
    (try rw [show 0 * 5 = 0 from rfl] at hw234_1)
    (try rw [Addr.add_zero'] at hw234_1)
    have hw234_0 := hx234_0
    (try rw [show ((0 : Int)).toNat = 0 from rfl] at hw234_0)
    (try rw [show 0 * 5 = 0 from rfl] at hw234_0)
    (try rw [Addr.add_zero'] at hw234_0)
    cases e234
    have qi234 : (0 < l0_4.length) = True := eq_true (by omega)
    (try rw [show ((0 : Int)).toNat = 0 from rfl] at hx234_0)
    (try rw [show 0 * 5 = 0 from rfl] at hx234_0)
    (try rw [Addr.add_zero'] at hx234_0)
    (try rw [show ((0 : Int)).toNat = 0 from rfl] at hx234_1)
    (try rw [show 0 * 5 = 0 from rfl] at hx234_1)
    (try rw [Addr.add_zero'] at hx234_1)
    (try rw [show ((0 : Int)).toNat = 0 from rfl] at hx234_2)
    (try rw [show 0 * 5 = 0 from rfl] at hx234_2)
    (try rw [Addr.add_zero'] at hx234_2)
    (try rw [show ((0 : Int)).toNat = 0 from rfl] at hx234_3)
    (try rw [show 0 * 5 = 0 from rfl] at hx234_3)
    (try rw [Addr.add_zero'] at hx234_3)
    (try rw [show ((0 : Int)).toNat = 0 from rfl] at hx234_4)
    (try rw [show 0 * 5 = 0 from rfl] at hx234_4)
    (try rw [Addr.add_zero'] at hx234_4)
    replace hx234_0 := (HB.out.cell (wb_ w _ hx234_0)).trans hx234_0
    replace hx234_1 := (HB.out.cell (wb_ w _ hx234_1)).trans hx234_1
    replace hx234_2 := (HB.out.cell (wb_ w _ hx234_2)).trans hx234_2
    replace hx234_3 := (HB.out.cell (wb_ w _ hx234_3)).trans hx234_3
    replace hx234_4 := (HB.out.cell (wb_ w _ hx234_4)).trans hx234_4
    have HR234_4 := aK_ hi234_4
    have HC234_4 := aK_ hl234_4
    clear hi234_4 hl234_4
    replace p234 := eq_true p234
    replace q234 := eq_true q234
    have p238 : 0 ≤ (1 : Int) := (by omega)
    have q238 : 1 < (l0_4.length : Int) := of_decide_eq_true (by first | (with_reducible assumption) | assumption)
    obtain ⟨ad238, A238_4, c238_4, e238, hx238_0, hx238_1, hx238_2, hx238_3, hx238_4, hl238_4, hi238_4⟩ := at_T57 HR0_4.out 1 p238 q238
    have hw238_4 := hx238_4
    (try rw [show ((1 : Int)).toNat = 1 from rfl] at hw238_4)
    (try rw [show 1 * 5 = 5 from rfl] at hw238_4)
    (try simp only [Nat.reduceMul, Nat.reduceEqDiff, Go.Addr.add, ↓reduceIte] at hw238_4)
    have hw238_3 := hx238_3
    (try rw [show ((1 : Int)).toNat = 1 from rfl] at hw238_3)
    (try rw [show 1 * 5 = 5 from rfl] at hw238_3)
    (try simp only [Nat.reduceMul, Nat.reduceEqDiff, Go.Addr.add, ↓reduceIte] at hw238_3)
    have hw238_2 := hx238_2
    (try rw [show ((1 : Int)).toNat = 1 from rfl] at hw238_2)
    (try rw [show 1 * 5 = 5 from rfl] at hw238_2)
    (try simp only [Nat.reduceMul, Nat.reduceEqDiff, Go.Addr.add, ↓reduceIte] at hw238_2)
    have hw238_1 := hx238_1
    (try rw [show ((1 : Int)).toNat = 1 from rfl] at hw238_1)
    (try rw [show 1 * 5 = 5 from rfl] at hw238_1)
    (try simp only [Nat.reduceMul, Nat.reduceEqDiff, Go.Addr.add, ↓reduceIte] at hw238_1)
    have hw238_0 := hx238_0
    (try rw [show ((1 : Int)).toNat = 1 from rfl] at hw238_0)
    (try rw [show 1 * 5 = 5 from rfl] at hw238_0)
    (try simp only [Nat.reduceMul, Nat.reduceEqDiff, Go.Addr.add, ↓reduceIte] at hw238_0)
    obtain rfl : ad234 = ad238 := (by injection e238)
    (try simp only [show (1 : Int).toNat = 1 from rfl, Nat.reduceMul, Nat.reduceEqDiff, Go.Addr.add, ↓reduceIte] at hx238_0)
    (try simp only [show (1 : Int).toNat = 1 from rfl, Nat.reduceMul, Nat.reduceEqDiff, Go.Addr.add, ↓reduceIte] at hx238_1)
    (try simp only [show (1 : Int).toNat = 1 from rfl, Nat.reduceMul, Nat.reduceEqDiff, Go.Addr.add, ↓reduceIte] at hx238_2)
    (try simp only [show (1 : Int).toNat = 1 from rfl, Nat.reduceMul, Nat.reduceEqDiff, Go.Addr.add, ↓reduceIte] at hx238_3)
    (try simp only [show (1 : Int).toNat = 1 from rfl, Nat.reduceMul, Nat.reduceEqDiff, Go.Addr.add, ↓reduceIte] at hx238_4)
    have qi238 : (1 < l0_4.length) = True := eq_true (by omega)
    (try rw [show ((1 : Int)).toNat = 1 from rfl] at hx238_0)
    (try rw [show 1 * 5 = 5 from rfl] at hx238_0)
    (try rw [show ((1 : Int)).toNat = 1 from rfl] at hx238_1)
    (try rw [show 1 * 5 = 5 from rfl] at hx238_1)
    (try rw [show ((1 : Int)).toNat = 1 from rfl] at hx238_2)
    (try rw [show 1 * 5 = 5 from rfl] at hx238_2)
    (try rw [show ((1 : Int)).toNat = 1 from rfl] at hx238_3)
    (try rw [show 1 * 5 = 5 from rfl] at hx238_3)
    (try rw [show ((1 : Int)).toNat = 1 from rfl] at hx238_4)
    (try rw [show 1 * 5 = 5 from rfl] at hx238_4)
    replace hx238_0 := (HB.out.cell (wb_ w _ hx238_0)).trans hx238_0
    replace hx238_1 := (HB.out.cell (wb_ w _ hx238_1)).trans hx238_1
    replace hx238_2 := (HB.out.cell (wb_ w _ hx238_2)).trans hx238_2
    replace hx238_3 := (HB.out.cell (wb_ w _ hx238_3)).trans hx238_3
    replace hx238_4 := (HB.out.cell (wb_ w _ hx238_4)).trans hx238_4
    have HR238_4 := aK_ hi238_4
    have HC238_4 := aK_ hl238_4
    clear hi238_4 hl238_4
    replace p238 := eq_true p238
    replace q238 := eq_true q238
    refine start_ (n := 13) (S := fun w' => w'.cell? ⟨gb233, 0, none⟩ = some (.int .i64 a0_0) ∧ w'.cell? ⟨gb233, 1, none⟩ = some (.string a0_1) ∧ w'.cell? ⟨gb233, 2, none⟩ = some (.int .i64 a0_2) ∧ w'.cell? ⟨gb233, 3, none⟩ = some (.int .i64 a0_3) ∧ w'.cell? ⟨gb233, 4, none⟩ = some (.slice (some ad234) l0_4.length c0_4) ∧ w'.cell? ad234 = some (.int .i64 ((rd_T57 l0_4 0).f0.f0)) ∧ w'.cell? ⟨ad234.block, ad234.off + 1, none⟩ = some (.string ((rd_T57 l0_4 0).f0.f1)) ∧ w'.cell? ⟨ad234.block, ad234.off + 2, none⟩ = some (.int .i64 ((rd_T57 l0_4 0).f0.f2)) ∧ w'.cell? ⟨ad234.block, ad234.off + 3, none⟩ = some (.int .i64 ((rd_T57 l0_4 0).f1)) ∧ w'.cell? ⟨ad234.block, ad234.off + 4, none⟩ = some (.slice A234_4 ((rd_T57 l0_4 0).f2).length c234_4) ∧ w'.cell? ⟨ad234.block, ad234.off + 5, none⟩ = some (.int .i64 ((rd_T57 l0_4 1).f0.f0)) ∧ w'.cell? ⟨ad234.block, ad234.off + 5 + 1, none⟩ = some (.string ((rd_T57 l0_4 1).f0.f1)) ∧ w'.cell? ⟨ad234.block, ad234.off + 5 + 2, none⟩ = some (.int .i64 ((rd_T57 l0_4 1).f0.f2)) ∧ w'.cell? ⟨ad234.block, ad234.off + 5 + 3, none⟩ = some (.int .i64 ((rd_T57 l0_4 1).f1)) ∧ w'.cell? ⟨ad234.block, ad234.off + 5 + 4, none⟩ = some (.slice A238_4 ((rd_T57 l0_4 1).f2).length c238_4)) (ds := []) #[false, false, false, false, false, false, false, false, false, false, false, false, false] (by kernel_rfl) rfl rfl ⟨(bC BK233.out 0).trans rfl, (bC BK233.out 1).trans rfl, (bC BK233.out 2).trans rfl, (bC BK233.out 3).trans rfl, (bC BK233.out 4).trans rfl, ((HB.out.cell (wb_ w _ hw234_0)).trans hw234_0), ((HB.out.cell (wb_ w _ hw234_1)).trans hw234_1), ((HB.out.cell (wb_ w _ hw234_2)).trans hw234_2), ((HB.out.cell (wb_ w _ hw234_3)).trans hw234_3), ((HB.out.cell (wb_ w _ hw234_4)).trans hw234_4), ((HB.out.cell (wb_ w _ hw238_0)).trans hw238_0), ((HB.out.cell (wb_ w _ hw238_1)).trans hw238_1), ((HB.out.cell (wb_ w _ hw238_2)).trans hw238_2), ((HB.out.cell (wb_ w _ hw238_3)).trans hw238_3), ((HB.out.cell (wb_ w _ hw238_4)).trans hw238_4)⟩ (fun hHeld => ?_); refine with_tabW syntax_Expr_Vars.tab3 syntax_Expr_Vars.bits3 (fun HT_ HW_ => ?_)
    generalize w8.drew = w10 at BK233 HB HR234_4 HR238_4 hx234_0 hx234_1 hx234_2 hx234_3 hx234_4 hx238_0 hx238_1 hx238_2 hx238_3 hx238_4 hHeld ⊢
    refine pure_ (i := 0) (N := some 11) (v := ?_) (a' := ?_) #[true, false, false, false, false, false, false, false, false, false, false, false, false] rfl rfl (any_of HT_.out (by kernel_rfl)) (fun _ _ _ h => h) (Or.inl ⟨by rfl, ?_⟩) ?_ ?_
    rotate_left
    ·intro w'
     go_simp
     with_reducible rfl
    rotate_left
    ·simp only [Act.put, sA_, sZ_, sS_, i64_w, i32_w]
     rfl
    refine pure_ (i := 5) (N := some 16) (v := ?_) (a' := ?_) #[true, false, false, false, false, true, false, false, false, false, false, false, false] rfl rfl (any_of HT_.out (by kernel_rfl)) (fun _ _ _ h => h) (Or.inl ⟨by rfl, ?_⟩) ?_ ?_
    rotate_left
    ·intro w'
     go_simp
     with_reducible rfl
    rotate_left
    ·simp only [Act.put, sA_, sZ_, sS_, i64_w, i32_w]
     rfl
    refine take_ (i := 1) (N := some 12) (v := ?_) (a' := ?_) #[true, true, false, false, false, true, false, false, false, false, false, false, false] rfl rfl (take_ofW HT_.out HW_.out (by kernel_rfl)) (fun _ _ _ h => h) (Or.inl ⟨by rfl, ?_⟩) hHeld ?_ ?_
    rotate_left
    ·rintro w' ⟨s0, s1, s2, s3, s4, s5, s6, s7, s8, s9, s10, s11, s12, s13, s14⟩
     go_simp
     with_reducible rfl
    rotate_left
    ·simp only [Act.put, sA_, sZ_, sS_, i64_w, i32_w]
     rfl
    refine pure_ (i := 2) (N := some 13) (v := ?_) (a' := ?_) #[true, true, true, false, false, true, false, false, false, false, false, false, false] rfl rfl (any_of HT_.out (by kernel_rfl)) (fun _ _ _ h => h) (Or.inl ⟨by rfl, ?_⟩) ?_ ?_
    rotate_left
    ·intro w'
     go_simp
     with_reducible rfl
    rotate_left
    ·simp only [Act.put, sA_, sZ_, sS_, i64_w, i32_w]
     rfl
    refine take_ (i := 3) (N := some 14) (v := ?_) (a' := ?_) #[true, true, true, true, false, true, false, false, false, false, false, false, false] rfl rfl (take_ofW HT_.out HW_.out (by kernel_rfl)) (fun _ _ _ h => h) (Or.inl ⟨by rfl, ?_⟩) hHeld ?_ ?_
    rotate_left
    ·rintro w' ⟨s0, s1, s2, s3, s4, s5, s6, s7, s8, s9, s10, s11, s12, s13, s14⟩
     go_simp
     with_reducible rfl
    rotate_left
    ·simp only [Act.put, sA_, sZ_, sS_, i64_w, i32_w]
     rfl
    refine take_ (i := 6) (N := some 17) (v := ?_) (a' := ?_) #[true, true, true, true, false, true, true, false, false, false, false, false, false] rfl rfl (take_ofW HT_.out HW_.out (by kernel_rfl)) (fun _ _ _ h => h) (Or.inl ⟨by rfl, ?_⟩) hHeld ?_ ?_
    rotate_left
    ·rintro w' ⟨s0, s1, s2, s3, s4, s5, s6, s7, s8, s9, s10, s11, s12, s13, s14⟩
     go_simp
     with_reducible rfl
    rotate_left
    ·simp only [Act.put, sA_, sZ_, sS_, i64_w, i32_w]
     rfl
    refine pure_ (i := 7) (N := some 18) (v := ?_) (a' := ?_) #[true, true, true, true, false, true, true, true, false, false, false, false, false] rfl rfl (any_of HT_.out (by kernel_rfl)) (fun _ _ _ h => h) (Or.inl ⟨by rfl, ?_⟩) ?_ ?_
    rotate_left
    ·intro w'
     go_simp
     with_reducible rfl
    rotate_left
    ·simp only [Act.put, sA_, sZ_, sS_, i64_w, i32_w]
     rfl
    refine take_ (i := 8) (N := some 19) (v := ?_) (a' := ?_) #[true, true, true, true, false, true, true, true, true, false, false, false, false] rfl rfl (take_ofW HT_.out HW_.out (by kernel_rfl)) (fun _ _ _ h => h) (Or.inl ⟨by rfl, ?_⟩) hHeld ?_ ?_
    rotate_left
    ·rintro w' ⟨s0, s1, s2, s3, s4, s5, s6, s7, s8, s9, s10, s11, s12, s13, s14⟩
     go_simp
     with_reducible rfl
    rotate_left
    ·simp only [Act.put, sA_, sZ_, sS_, i64_w, i32_w]
     rfl
    refine one_ (i := 4) (N := some 15) #[true, true, true, true, true, true, true, true, true, false, false, false, false] rfl rfl (one_of HT_.out (by kernel_rfl)) (by decide) (fun K hK => ?_)
    refine goes_ Tryd.func17 (by kernel_rfl) rfl #[.agg #[.int .i64 ((rd_T57 l0_4 0).f0.f0), .string ((rd_T57 l0_4 0).f0.f1), .int .i64 ((rd_T57 l0_4 0).f0.f2), .int .i64 ((rd_T57 l0_4 0).f1), .slice A234_4 ((rd_T57 l0_4 0).f2).length c234_4]] (by rfl) rfl rfl (by (try simp only [List.map_toArray, List.map_cons, List.map_nil]); first | done | rfl | (simp only [List.length_drop, List.length_take]; rfl)) ?_
    with_reducible refine (ih k (by omega) ((rd_T57 l0_4 0).f0.f0) ((rd_T57 l0_4 0).f0.f1) ((rd_T57 l0_4 0).f0.f2) ((rd_T57 l0_4 0).f1) _ _ ((rd_T57 l0_4 0).f2) t235 _ ?side1 ?side2 A4.out).mono ?_
    (case side1 => repeat (first | exact (Kd.C_below HR234_4.out HB.out) | (with_reducible refine Kd.C_alloc ?_ _) | (with_reducible refine Kd.C_drewN ?_ _) | (with_reducible refine Kd.C_drew ?_)))
    (case side2 => exact HC234_4.out)
    rintro e w11 ⟨v236, rfl, ho0, hb⟩
    refine ⟨_, rfl, ?_⟩
    have n0_ := aK_ (Kd.R_lower ho0 (lZ_ (by repeat (first | (with_reducible first | exact HB.out | apply lA_ | apply pD | apply lD_ | refine lS_ ?_ GE233.out) | exact HB.out))))
    have n1_ := aK_ (bB (by (with_reducible repeat (first | refine bDN ?_ _ | refine bD ?_ | refine bA ?_ _)); exact BK233.out) hb)
    have n2_ := aK_ (lT_ (by repeat (first | (with_reducible first | exact HB.out | apply lA_ | apply pD | apply lD_ | refine lS_ ?_ GE233.out) | exact HB.out)) hb)
    clear BK233
    clear HB
    have HO237 := n0_
    have BK233 := n1_
    have HB := n2_
    clear n0_ n1_ n2_
    (try clear hb)
    (try clear hb2)
    (try clear hk)
    (try clear hi)
    (try clear ho0)
    refine hK.out _ _ ⟨(bC BK233.out 0).trans rfl, (bC BK233.out 1).trans rfl, (bC BK233.out 2).trans rfl, (bC BK233.out 3).trans rfl, (bC BK233.out 4).trans rfl, ((HB.out.cell (wb_ w _ hw234_0)).trans hw234_0), ((HB.out.cell (wb_ w _ hw234_1)).trans hw234_1), ((HB.out.cell (wb_ w _ hw234_2)).trans hw234_2), ((HB.out.cell (wb_ w _ hw234_3)).trans hw234_3), ((HB.out.cell (wb_ w _ hw234_4)).trans hw234_4), ((HB.out.cell (wb_ w _ hw238_0)).trans hw238_0), ((HB.out.cell (wb_ w _ hw238_1)).trans hw238_1), ((HB.out.cell (wb_ w _ hw238_2)).trans hw238_2), ((HB.out.cell (wb_ w _ hw238_3)).trans hw238_3), ((HB.out.cell (wb_ w _ hw238_4)).trans hw238_4)⟩ (fun hHeld => ?_)
    clear hK K
    refine norm_ (a' := ?_) ?_ ?_
    rotate_left
    ·show Act.put _ (some 15) _ = _
     simp only [Act.put, sA_, sZ_, sS_, i64_w, i32_w]
     rfl
    refine one_ (i := 9) (N := some 20) #[true, true, true, true, true, true, true, true, true, true, false, false, false] rfl rfl (one_of HT_.out (by kernel_rfl)) (by decide) (fun K hK => ?_)
    refine goes_ Tryd.func17 (by kernel_rfl) rfl #[.agg #[.int .i64 ((rd_T57 l0_4 1).f0.f0), .string ((rd_T57 l0_4 1).f0.f1), .int .i64 ((rd_T57 l0_4 1).f0.f2), .int .i64 ((rd_T57 l0_4 1).f1), .slice A238_4 ((rd_T57 l0_4 1).f2).length c238_4]] (by rfl) rfl rfl (by (try simp only [List.map_toArray, List.map_cons, List.map_nil]); first | done | rfl | (simp only [List.length_drop, List.length_take]; rfl)) ?_
    with_reducible refine (ih k (by omega) ((rd_T57 l0_4 1).f0.f0) ((rd_T57 l0_4 1).f0.f1) ((rd_T57 l0_4 1).f0.f2) ((rd_T57 l0_4 1).f1) _ _ ((rd_T57 l0_4 1).f2) t239 _ ?side1 ?side2 A6.out).mono ?_
    (case side1 => repeat (first | exact (Kd.C_below HR238_4.out HB.out) | (with_reducible refine Kd.C_alloc ?_ _) | (with_reducible refine Kd.C_drewN ?_ _) | (with_reducible refine Kd.C_drew ?_)))
    (case side2 => exact HC238_4.out)
    rintro e w12 ⟨v240, rfl, ho0, hb⟩
    refine ⟨_, rfl, ?_⟩
    have n0_ := aK_ (Kd.R_elder' (by (with_reducible repeat (first | apply Kd.R_alloc | apply Kd.R_drewN | apply Kd.R_drew)); exact HO237.out) (Kd.R_base ho0) hb)
    have n1_ := aK_ (Kd.R_lower (Kd.R_new' ho0 (Kd.R_lt (by (with_reducible repeat (first | apply Kd.R_alloc | apply Kd.R_drewN | apply Kd.R_drew)); exact HO237.out))) (lZ_ (by repeat (first | (with_reducible first | exact HB.out | apply lA_ | apply pD | apply lD_ | refine lS_ ?_ GE233.out) | exact HB.out))))
    have n2_ := aK_ (bB (by (with_reducible repeat (first | refine bDN ?_ _ | refine bD ?_ | refine bA ?_ _)); exact BK233.out) hb)
    have n3_ := aK_ (lT_ (by repeat (first | (with_reducible first | exact HB.out | apply lA_ | apply pD | apply lD_ | refine lS_ ?_ GE233.out) | exact HB.out)) hb)
    clear HO237
    clear BK233
    clear HB
    have HO237 := n0_
    have HO241 := n1_
    have BK233 := n2_
    have HB := n3_
    clear n0_ n1_ n2_ n3_
    (try clear hb)
    (try clear hb2)
    (try clear hk)
    (try clear hi)
    (try clear ho0)
    obtain ⟨Ao13, co13, eo13⟩ := Kd.R_slice HO237.out
    (first | subst eo13 | (injection eo13 with f1_ f2_ f3_; have f4_ := f1_.symm; have f5_ := f3_.symm; clear f1_ f2_ f3_; subst f4_; subst f5_))
    obtain ⟨Ao14, co14, eo14⟩ := Kd.R_slice HO241.out
    (first | subst eo14 | (injection eo14 with f1_ f2_ f3_; have f4_ := f1_.symm; have f5_ := f3_.symm; clear f1_ f2_ f3_; subst f4_; subst f5_))
    refine hK.out _ _ ⟨(bC BK233.out 0).trans rfl, (bC BK233.out 1).trans rfl, (bC BK233.out 2).trans rfl, (bC BK233.out 3).trans rfl, (bC BK233.out 4).trans rfl, ((HB.out.cell (wb_ w _ hw234_0)).trans hw234_0), ((HB.out.cell (wb_ w _ hw234_1)).trans hw234_1), ((HB.out.cell (wb_ w _ hw234_2)).trans hw234_2), ((HB.out.cell (wb_ w _ hw234_3)).trans hw234_3), ((HB.out.cell (wb_ w _ hw234_4)).trans hw234_4), ((HB.out.cell (wb_ w _ hw238_0)).trans hw238_0), ((HB.out.cell (wb_ w _ hw238_1)).trans hw238_1), ((HB.out.cell (wb_ w _ hw238_2)).trans hw238_2), ((HB.out.cell (wb_ w _ hw238_3)).trans hw238_3), ((HB.out.cell (wb_ w _ hw238_4)).trans hw238_4)⟩ (fun hHeld => ?_)
    clear hK K
    refine norm_ (a' := ?_) ?_ ?_
    rotate_left
    ·show Act.put _ (some 20) _ = _
     simp only [Act.put, sA_, sZ_, sS_, i64_w, i32_w]
     rfl
    refine one_ (i := 10) (N := some 21) #[true, true, true, true, true, true, true, true, true, true, true, false, false] rfl rfl (one_of HT_.out (by kernel_rfl)) (by decide) (fun K hK => ?_)
    refine Kd.N_lit_step (Kd.slice 9 Kd.string) _ 45 ?hg (N' := 21) ?hd (xs := ([t235, t239] : List (List ByteArray))) (inner := [.slice Ao13 t235.length co13, .slice Ao14 t239.length co14]) (ok := (fun k_ => k_ ≠ gb233)) (okp := (fun k_ => k_ ≠ gb233)) ?hr ?hp (fun _ hk => hk) ((show ∀ k_, w12.heap.size ≤ k_ → (fun k_ => k_ ≠ gb233) k_ from fun k_ hk => Kd.freshB (g := gb233) (o := .cells #[.int .i64 a0_0, .string a0_1, .int .i64 a0_2, .int .i64 a0_3, .slice (some ad234) l0_4.length c0_4] 57 (0, 0)) (by (with_reducible repeat (first | refine bDN ?_ _ | refine bD ?_ | refine bA ?_ _)); exact BK233.out) k_ hk) _ (Nat.le_refl _)) (Below.refl _ _) (Nat.le_refl _) (by simp) ?_; (case hd => rfl); (case hg => rfl); (case hr => first | (go_simp; done) | (go_simp; rfl)); (case hp => exact (Reps.one (show Kd.FK (Kd.slice 9 Kd.string) _ _ t235 [.slice Ao13 t235.length co13] from (Kd.FK_slice_mk (Kd.R_reads' (Kd.R_mono (ok' := (fun k_ => k_ ≠ gb233)) (Kd.R_types (HO237.out) BK233.out (by decide)) (fun k_ hk => hk.2))).2.1 (Kd.R_F (Kd.R_mono (ok' := (fun k_ => k_ ≠ gb233)) (Kd.R_types (HO237.out) BK233.out (by decide)) (fun k_ hk => hk.2))))) (Reps.one (show Kd.FK (Kd.slice 9 Kd.string) _ _ t239 [.slice Ao14 t239.length co14] from (Kd.FK_slice_mk (Kd.R_reads' (Kd.R_mono (ok' := (fun k_ => k_ ≠ gb233)) (Kd.R_types (HO241.out) BK233.out (by decide)) (fun k_ hk => hk.2))).2.1 (Kd.R_F (Kd.R_mono (ok' := (fun k_ => k_ ≠ gb233)) (Kd.R_types (HO241.out) BK233.out (by decide)) (fun k_ hk => hk.2))))) (Reps.none _ _))))
    intro v243 w15 ho16 hb hg_ hnew_
    clear hg_ hnew_
    (first | rw [← Ny242.out] at ho16 | (simp only [Int.reduceToNat] at ho16; rw [← Ny242.out] at ho16))
    have n0_ := aK_ (Kd.N_lower ho16 (lZ_ (by repeat (first | (with_reducible first | exact HB.out | apply lA_ | apply pD | apply lD_ | refine lS_ ?_ GE233.out) | exact HB.out))))
    have n1_ := aK_ (bB (by (with_reducible repeat (first | refine bDN ?_ _ | refine bD ?_ | refine bA ?_ _)); exact BK233.out) hb)
    have n2_ := aK_ (lT_ (by repeat (first | (with_reducible first | exact HB.out | apply lA_ | apply pD | apply lD_ | refine lS_ ?_ GE233.out) | exact HB.out)) hb)
    clear BK233
    clear HB
    clear HO237
    clear HO241
    have HO244 := n0_
    have BK233 := n1_
    have HB := n2_
    clear n0_ n1_ n2_
    clear hb ho16
    obtain ⟨Ao17, co17, eo17⟩ := Kd.N_slice HO244.out
    (first | subst eo17 | (injection eo17 with f1_ f2_ f3_; have f4_ := f1_.symm; have f5_ := f3_.symm; clear f1_ f2_ f3_; subst f4_; subst f5_))
    refine hK.out _ _ ⟨(bC BK233.out 0).trans rfl, (bC BK233.out 1).trans rfl, (bC BK233.out 2).trans rfl, (bC BK233.out 3).trans rfl, (bC BK233.out 4).trans rfl, ((HB.out.cell (wb_ w _ hw234_0)).trans hw234_0), ((HB.out.cell (wb_ w _ hw234_1)).trans hw234_1), ((HB.out.cell (wb_ w _ hw234_2)).trans hw234_2), ((HB.out.cell (wb_ w _ hw234_3)).trans hw234_3), ((HB.out.cell (wb_ w _ hw234_4)).trans hw234_4), ((HB.out.cell (wb_ w _ hw238_0)).trans hw238_0), ((HB.out.cell (wb_ w _ hw238_1)).trans hw238_1), ((HB.out.cell (wb_ w _ hw238_2)).trans hw238_2), ((HB.out.cell (wb_ w _ hw238_3)).trans hw238_3), ((HB.out.cell (wb_ w _ hw238_4)).trans hw238_4)⟩ (fun hHeld => ?_)
    clear hK K
    refine norm_ (a' := ?_) ?_ ?_
    rotate_left
    ·show Act.put _ (some 21) _ = _
     simp only [Act.put, sA_, sZ_, sS_, i64_w, i32_w]
     rfl
    refine one_ (i := 11) (N := some 22) #[true, true, true, true, true, true, true, true, true, true, true, true, false] rfl rfl (one_of HT_.out (by kernel_rfl)) (by decide) (fun K hK => ?_)
    refine goes_ Tryd.func34 (by kernel_rfl) rfl #[.slice Ao17 y242.length co17] (by rfl) rfl rfl (by (try simp only [List.map_toArray, List.map_cons, List.map_nil]); first | done | rfl | (simp only [List.length_drop, List.length_take]; rfl)) ?_
    with_reducible refine (slices_Concat_string_string.calls _ _ y242 t245 _ ?side1 ?side2 A7.out).mono ?_
    (case side1 => repeat (first | exact (Kd.N_reads' HO244.out).2.2 | (with_reducible refine Kd.C_alloc ?_ _) | (with_reducible refine Kd.C_drewN ?_ _) | (with_reducible refine Kd.C_drew ?_)))
    (case side2 => exact (Kd.N_reads' HO244.out).2.1)
    rintro e w18 ⟨v246, rfl, ho0, hb⟩
    refine ⟨_, rfl, ?_⟩
    have n0_ := aK_ (Kd.N_elder' (by (with_reducible repeat (first | apply Kd.N_alloc | apply Kd.N_drewN | apply Kd.N_drew)); exact HO244.out) (Kd.R_base ho0) hb)
    have n1_ := aK_ (Kd.R_lower ho0 (lZ_ (by repeat (first | (with_reducible first | exact HB.out | apply lA_ | apply pD | apply lD_ | refine lS_ ?_ GE233.out) | exact HB.out))))
    have n2_ := aK_ (bB (by (with_reducible repeat (first | refine bDN ?_ _ | refine bD ?_ | refine bA ?_ _)); exact BK233.out) hb)
    have n3_ := aK_ (lT_ (by repeat (first | (with_reducible first | exact HB.out | apply lA_ | apply pD | apply lD_ | refine lS_ ?_ GE233.out) | exact HB.out)) hb)
    clear HO244
    clear BK233
    clear HB
    have HO244 := n0_
    have HO247 := n1_
    have BK233 := n2_
    have HB := n3_
    clear n0_ n1_ n2_ n3_
    (try clear hb)
    (try clear hb2)
    (try clear hk)
    (try clear hi)
    (try clear ho0)
    refine hK.out _ _ ⟨(bC BK233.out 0).trans rfl, (bC BK233.out 1).trans rfl, (bC BK233.out 2).trans rfl, (bC BK233.out 3).trans rfl, (bC BK233.out 4).trans rfl, ((HB.out.cell (wb_ w _ hw234_0)).trans hw234_0), ((HB.out.cell (wb_ w _ hw234_1)).trans hw234_1), ((HB.out.cell (wb_ w _ hw234_2)).trans hw234_2), ((HB.out.cell (wb_ w _ hw234_3)).trans hw234_3), ((HB.out.cell (wb_ w _ hw234_4)).trans hw234_4), ((HB.out.cell (wb_ w _ hw238_0)).trans hw238_0), ((HB.out.cell (wb_ w _ hw238_1)).trans hw238_1), ((HB.out.cell (wb_ w _ hw238_2)).trans hw238_2), ((HB.out.cell (wb_ w _ hw238_3)).trans hw238_3), ((HB.out.cell (wb_ w _ hw238_4)).trans hw238_4)⟩ (fun hHeld => ?_)
    clear hK K
    refine norm_ (a' := ?_) ?_ ?_
    rotate_left
    ·show Act.put _ (some 22) _ = _
     simp only [Act.put, sA_, sZ_, sS_, i64_w, i32_w]
     rfl
    refine pure_ (i := 12) (N := some 2) (v := ?_) (a' := ?_) #[true, true, true, true, true, true, true, true, true, true, true, true, true] rfl rfl (any_of HT_.out (by kernel_rfl)) (fun _ _ _ h => h) (Or.inl ⟨by rfl, ?_⟩) ?_ ?_
    rotate_left
    ·intro w'
     go_simp
     with_reducible rfl
    rotate_left
    ·simp only [Act.put, sA_, sZ_, sS_, i64_w, i32_w]
     rfl
    refine done_ (done_of HT_.out (by kernel_rfl)) ?_
    try go_wp2
    go_ret
    exact ⟨_, by first | rfl | (simp [errW_none, errW_some] <;> rfl) | (simp [*, errW_none, errW_some] <;> rfl), by (with_reducible repeat (first | apply Kd.R_alloc | apply Kd.R_drewN | apply Kd.R_drew)); exact HO247.out, by repeat (first | (with_reducible first | exact HB.out | apply lA_ | apply pD | apply lD_ | refine lS_ ?_ GE233.out) | exact HB.out)⟩
   ·rw [if_neg c5] at H
    exact absurd H (by simp)
  ·rw [if_neg c3] at H
   exact absurd H (by simp)
 ·rw [if_neg c2] at H
  have c2b0 : ((l0_4.length : Int) == 2) = false := beq_eq_false_iff_ne.mpr c2
  have c2b1 : ((l0_4.length : Int) != 2) = true := bne_iff_ne.mpr c2
  obtain ⟨y248, hy248⟩ : ∃ y_ : List (S53), y_ = (([(⟨a0_0, a0_1, a0_2⟩ : S53)] : List (S53))) := ⟨_, rfl⟩
  replace H : ((syntax_vars.f k y248).bind fun t251 => (some t251)) = some r := by first | (rw [hy248]; with_reducible exact H) | (have H2_ := (Option.bind_some _ _).symm.trans H; rw [hy248]; with_reducible exact H2_) | (have H2_ := (Option.bind_some _ _).symm.trans H; with_reducible exact H2_) | with_reducible exact H | (rw [hy248]; exact H) | exact H
  have Ny248 := aK_ hy248
  clear hy248
  replace H := Option.bind_eq_some_iff.mp H
  obtain ⟨t251, A190, H⟩ := H
  replace H : (some t251) = some r := H
  have A19 := aK_ A190
  clear A190
  obtain rfl := Option.some.inj H
  go_enter Tryd.func17, Tryd.ntmps17
  go_wp2_with (first | ((with_reducible refine gate_dst (N := 1) rfl ?_); refine box_event ?hg (N := 1) ?hd (cs := #[.int .i64 a0_0, .string a0_1, .int .i64 a0_2, .int .i64 a0_3, .slice A0_4 l0_4.length c0_4]) (t := 57) ?hr ?_; (case hd => rfl); (case hg => rfl); (case hr => first | (go_simp; done) | (go_simp; rfl)); intro gb233 hg w20 hbox hb; have n0_ := aK_ (lT_ (by repeat (first | (with_reducible first | exact HB.out | apply lA_ | apply pD | apply lD_) | exact HB.out)) hb); have n1_ := aK_ (hbox); have n2_ := aK_ ((by rw [hg]; exact (lZ_ (by repeat (first | (with_reducible first | exact HB.out | apply lA_ | apply pD | apply lD_) | exact HB.out))) : w.heap.size ≤ gb233)); have n3_ := aK_ ((by rw [hg]; exact (lZ_ (by repeat (first | (with_reducible first | exact HB.out | apply lA_ | apply pD | apply lD_) | exact HB.out))) : w.heap.size ≤ gb233)); clear HB; have HB := n0_; have BK233 := n1_; have GW233 := n2_; have GE233 := n3_; clear n0_ n1_ n2_ n3_; clear hb hbox hg; have hcz21_0 : w20.cell? ⟨gb233, 0, none⟩ = some (.int .i64 a0_0) := (bC BK233.out 0).trans rfl; have hcz21_1 : w20.cell? ⟨gb233, 1, none⟩ = some (.string a0_1) := (bC BK233.out 1).trans rfl; have hcz21_2 : w20.cell? ⟨gb233, 2, none⟩ = some (.int .i64 a0_2) := (bC BK233.out 2).trans rfl; have hcz21_3 : w20.cell? ⟨gb233, 3, none⟩ = some (.int .i64 a0_3) := (bC BK233.out 3).trans rfl; have hcz21_4 : w20.cell? ⟨gb233, 4, none⟩ = some (.slice A0_4 l0_4.length c0_4) := (bC BK233.out 4).trans rfl; have hfz21_0 := bF BK233.out 0; have hfz21_1 := bF BK233.out 1; have hfz21_2 := bF BK233.out 2; have hfz21_3 := bF BK233.out 3; have hfz21_4 := bF BK233.out 4) | ((with_reducible refine gate_dst (N := 9) rfl ?_); refine Kd.R_lit k53 _ 53 ?hg (N := 9) ?hd (xs := ([(⟨a0_0, a0_1, a0_2⟩ : S53)] : List (S53))) (inner := [.int .i64 a0_0, .string a0_1, .int .i64 a0_2]) (ok := fun _ => True) (okp := fun _ => True) ?hr ?hp (fun _ hk => hk) trivial (Below.refl _ _) (Nat.le_refl _) (by simp) ?_; (case hd => rfl); (case hg => rfl); (case hr => first | (go_simp; done) | (go_simp; rfl)); (case hp => exact (Reps.c3 (show Kd.M k53 _ _ _ (⟨a0_0, a0_1, a0_2⟩ : S53) [.int .i64 a0_0, .string a0_1, .int .i64 a0_2] from (k53_mkM _ _ _ (⟨a0_0, a0_1, a0_2⟩ : S53) )) (Reps.none _ _))); intro v249 w22 ho23 hb hg_ hnew_; clear hg_ hnew_; (first | rw [← Ny248.out] at ho23 | (simp only [Int.reduceToNat] at ho23; rw [← Ny248.out] at ho23)); have n0_ := aK_ (Kd.R_lower ho23 (lZ_ (by repeat (first | (with_reducible first | exact HB.out | apply lA_ | apply pD | apply lD_ | refine lS_ ?_ GE233.out) | exact HB.out)))); have n1_ := aK_ (bB (by (with_reducible repeat (first | refine bDN ?_ _ | refine bD ?_ | refine bA ?_ _)); exact BK233.out) hb); have n2_ := aK_ (lT_ (by repeat (first | (with_reducible first | exact HB.out | apply lA_ | apply pD | apply lD_ | refine lS_ ?_ GE233.out) | exact HB.out)) hb); clear BK233; clear HB; have HO250 := n0_; have BK233 := n1_; have HB := n2_; clear n0_ n1_ n2_; clear hb ho23; obtain ⟨Ao24, co24, eo24⟩ := Kd.R_slice HO250.out; subst eo24) | ((with_reducible refine gate_callee (f := 33) rfl ?_); refine goesL_ (some 10) rfl rfl Tryd.func33 (by kernel_rfl) rfl #[.slice Ao24 y248.length co24] rfl (by (try simp only [List.map_toArray, List.map_cons, List.map_nil]); first | done | rfl | (simp only [List.length_drop, List.length_take]; rfl)) ?_; (with_reducible refine (syntax_vars.calls k _ _ y248 t251 _ ?side1 ?side2 A19.out).mono ?_); (case side1 => repeat (first | exact (Kd.R_reads' HO250.out).2.2 | (with_reducible refine Kd.C_alloc ?_ _) | (with_reducible refine Kd.C_drewN ?_ _) | (with_reducible refine Kd.C_drew ?_))); (case side2 => exact (Kd.R_reads' HO250.out).2.1); rintro e w25 ⟨v252, rfl, ho0, hb⟩; refine ⟨_, rfl, ?_⟩; have n0_ := aK_ (Kd.R_below (by (with_reducible repeat (first | apply Kd.R_alloc | apply Kd.R_drewN | apply Kd.R_drew)); exact HO250.out) hb); have n1_ := aK_ (Kd.R_lower ho0 (lZ_ (by repeat (first | (with_reducible first | exact HB.out | apply lA_ | apply pD | apply lD_ | refine lS_ ?_ GE233.out) | exact HB.out)))); have n2_ := aK_ (bB (by (with_reducible repeat (first | refine bDN ?_ _ | refine bD ?_ | refine bA ?_ _)); exact BK233.out) hb); have n3_ := aK_ (lT_ (by repeat (first | (with_reducible first | exact HB.out | apply lA_ | apply pD | apply lD_ | refine lS_ ?_ GE233.out) | exact HB.out)) hb); clear HO250; clear BK233; clear HB; have HO250 := n0_; have HO253 := n1_; have BK233 := n2_; have HB := n3_; clear n0_ n1_ n2_ n3_; (try clear hb); (try clear hb2); (try clear hk); (try clear hi); (try clear ho0)))
  go_ret
  exact ⟨_, by first | rfl | (simp [errW_none, errW_some] <;> rfl) | (simp [*, errW_none, errW_some] <;> rfl), by (with_reducible repeat (first | apply Kd.R_alloc | apply Kd.R_drewN | apply Kd.R_drew)); exact HO253.out, by repeat (first | (with_reducible first | exact HB.out | apply lA_ | apply pD | apply lD_ | refine lS_ ?_ GE233.out) | exact HB.out)⟩
end Go.Proofs.YtdbpboipiceifaaDoorPSP
