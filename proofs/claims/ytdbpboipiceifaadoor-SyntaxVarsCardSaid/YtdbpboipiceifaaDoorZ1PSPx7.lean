import Derived.Test.YtdbpboipiceifaaDoorZ1PSPx0
import Derived.Test.YtdbpboipiceifaaDoorZ1PSPx5
import Derived.Test.YtdbpboipiceifaaDoorZ1PSPx6
namespace Go.Proofs.YtdbpboipiceifaaDoorPSP
open Go.RowKit Go.Proofs.YtdbpboipiceifaaDoorW.PrintWords Go.Proofs.YtdbpboipiceifaaDoorW.PrintLast Go.Proofs.YtdbpboipiceifaaDoorW.PrintMore
attribute [local go_sem] max2_int min2_int max_two min_two max_three min_three max_four min_four   -- for this text's walks alone
set_option linter.unusedVariables false
set_option linter.unusedSimpArgs false
def ergolaw13_Names.f (k : Nat) (a0_0 : Int) (a0_1 : ByteArray) (l0_2 : List (S53)) (a0_3 : Int) (a0_4 : Int) (a0_5 : ByteArray) (a0_6 : Int) (a0_7 : Int) (a0_8 : ByteArray) (a0_9 : Int) (a0_10 : ByteArray) (a0_11 : Int) (a0_12 : ByteArray) (a0_13 : Int) (a0_14 : Int) (l0_15 : List (S57)) : Option (List ByteArray) := if a0_0 = 2 then ((ergolaw13_names.f k (([(⟨a0_4, a0_5, a0_6⟩ : S53), (⟨a0_7, a0_8, a0_9⟩ : S53)] : List (S53)))).bind fun t295 => (some t295)) else (if a0_0 = 3 then ((some (([a0_10] : List ByteArray) : List ByteArray)).bind fun y298 => ((ergolaw13_inner.f k a0_11 a0_12 a0_13 a0_14 l0_15).bind fun t301 => (if y298.length + t301.length < 8796093022208 then (some (y298 ++ t301)) else (none)))) else ((ergolaw13_names.f k l0_2).bind fun t307 => (some t307)))
def ergolaw13_Names.T5 : Bool × List (List Nat × List Nat) := (true, [([], []), ([0], [0]), ([1], [1]), ([], []), ([3], [3]), ([4], [4]), ([2, 5, 5], [2, 5]), ([6, 6, 0, 1, 2, 3, 4, 5, 6], [6])])
def ergolaw13_Names.B5 : List Nat := [0, 1, 3, 0, 8, 24, 63, 127]
theorem ergolaw13_Names.tab5 : rtab .any (opsOf Tryd.f16 5) = ergolaw13_Names.T5 := by kernel_rfl
theorem ergolaw13_Names.bits5 : waitsOk ergolaw13_Names.T5.2 ergolaw13_Names.B5 = true := by kernel_rfl
set_option maxHeartbeats 8000000 in
set_option maxRecDepth 100000 in
theorem ergolaw13_Names.calls (k : Nat) (a0_0 : Int) (a0_1 : ByteArray) (A0_2 : Option Addr) (c0_2 : Nat) (l0_2 : List (S53)) (a0_3 : Int) (a0_4 : Int) (a0_5 : ByteArray) (a0_6 : Int) (a0_7 : Int) (a0_8 : ByteArray) (a0_9 : Int) (a0_10 : ByteArray) (a0_11 : Int) (a0_12 : ByteArray) (a0_13 : Int) (a0_14 : Int) (A0_15 : Option Addr) (c0_15 : Nat) (l0_15 : List (S57)) (r : List ByteArray) (w : World) (hr0_2 : Kd.C k53 w A0_2 l0_2.length l0_2) (hc0_2 : l0_2.length ≤ c0_2) (hr0_15 : Kd.C k57 w A0_15 l0_15.length l0_15) (hc0_15 : l0_15.length ≤ c0_15) (h : ergolaw13_Names.f k a0_0 a0_1 l0_2 a0_3 a0_4 a0_5 a0_6 a0_7 a0_8 a0_9 a0_10 a0_11 a0_12 a0_13 a0_14 l0_15 = some r) :
  Calls Tryd.prog 16 #[.agg #[.int .i64 a0_0, .string a0_1, .slice A0_2 l0_2.length c0_2, .int .i64 a0_3, .int .i64 a0_4, .string a0_5, .int .i64 a0_6, .int .i64 a0_7, .string a0_8, .int .i64 a0_9, .string a0_10, .int .i64 a0_11, .string a0_12, .int .i64 a0_13, .int .i64 a0_14, .slice A0_15 l0_15.length c0_15]] w fun e w' => ∃ v0_ : Value, e = .returned (v0_) ∧ Kd.R Kd.string 9 w' w.heap.size (fun _ => True) v0_ r ∧ Below w.heap.size w w' := by
 have hu59 := Tryd.underlying59
 have hu53 := Tryd.underlying53
 have hu57 := Tryd.underlying57
 have HR0_2 := aK_ hr0_2
 have HC0_2 := aK_ hc0_2
 clear hr0_2 hc0_2
 have HR0_15 := aK_ hr0_15
 have HC0_15 := aK_ hc0_15
 clear hr0_15 hc0_15
 have HB := aK_ (Below.refl w.heap.size w)
 have H : (if a0_0 = 2 then ((ergolaw13_names.f k (([(⟨a0_4, a0_5, a0_6⟩ : S53), (⟨a0_7, a0_8, a0_9⟩ : S53)] : List (S53)))).bind fun t295 => (some t295)) else (if a0_0 = 3 then ((some (([a0_10] : List ByteArray) : List ByteArray)).bind fun y298 => ((ergolaw13_inner.f k a0_11 a0_12 a0_13 a0_14 l0_15).bind fun t301 => (if y298.length + t301.length < 8796093022208 then (some (y298 ++ t301)) else (none)))) else ((ergolaw13_names.f k l0_2).bind fun t307 => (some t307)))) = some r := h
 clear h
 by_cases c2 : a0_0 = 2
 ·rw [if_pos c2] at H
  have c2b0 : (a0_0 == 2) = true := beq_iff_eq.mpr c2
  have c2b1 : (a0_0 != 2) = false := bne_eq_false_iff_eq.mpr c2
  clear c2
  obtain ⟨y292, hy292⟩ : ∃ y_ : List (S53), y_ = (([(⟨a0_4, a0_5, a0_6⟩ : S53), (⟨a0_7, a0_8, a0_9⟩ : S53)] : List (S53))) := ⟨_, rfl⟩
  replace H : ((ergolaw13_names.f k y292).bind fun t295 => (some t295)) = some r := by first | (rw [hy292]; with_reducible exact H) | (have H2_ := (Option.bind_some _ _).symm.trans H; rw [hy292]; with_reducible exact H2_) | (have H2_ := (Option.bind_some _ _).symm.trans H; with_reducible exact H2_) | with_reducible exact H | (rw [hy292]; exact H) | exact H
  have Ny292 := aK_ hy292
  clear hy292
  replace H := Option.bind_eq_some_iff.mp H
  obtain ⟨t295, A30, H⟩ := H
  replace H : (some t295) = some r := H
  have A3 := aK_ A30
  clear A30
  obtain rfl := Option.some.inj H
  go_enter Tryd.func16, Tryd.ntmps16
  go_wp2_with (first | ((with_reducible refine gate_dst (N := 1) rfl ?_); refine box_event ?hg (N := 1) ?hd (cs := #[.int .i64 a0_0, .string a0_1, .slice A0_2 l0_2.length c0_2, .int .i64 a0_3, .int .i64 a0_4, .string a0_5, .int .i64 a0_6, .int .i64 a0_7, .string a0_8, .int .i64 a0_9, .string a0_10, .int .i64 a0_11, .string a0_12, .int .i64 a0_13, .int .i64 a0_14, .slice A0_15 l0_15.length c0_15]) (t := 59) ?hr ?_; (case hd => rfl); (case hg => rfl); (case hr => first | (go_simp; done) | (go_simp; rfl)); intro gb291 hg w4 hbox hb; have n0_ := aK_ (lT_ (by repeat (first | (with_reducible first | exact HB.out | apply lA_ | apply pD | apply lD_) | exact HB.out)) hb); have n1_ := aK_ (hbox); have n2_ := aK_ ((by rw [hg]; exact (lZ_ (by repeat (first | (with_reducible first | exact HB.out | apply lA_ | apply pD | apply lD_) | exact HB.out))) : w.heap.size ≤ gb291)); have n3_ := aK_ ((by rw [hg]; exact (lZ_ (by repeat (first | (with_reducible first | exact HB.out | apply lA_ | apply pD | apply lD_) | exact HB.out))) : w.heap.size ≤ gb291)); clear HB; have HB := n0_; have BK291 := n1_; have GW291 := n2_; have GE291 := n3_; clear n0_ n1_ n2_ n3_; clear hb hbox hg; have hcz5_0 : w4.cell? ⟨gb291, 0, none⟩ = some (.int .i64 a0_0) := (bC BK291.out 0).trans rfl; have hcz5_1 : w4.cell? ⟨gb291, 1, none⟩ = some (.string a0_1) := (bC BK291.out 1).trans rfl; have hcz5_2 : w4.cell? ⟨gb291, 2, none⟩ = some (.slice A0_2 l0_2.length c0_2) := (bC BK291.out 2).trans rfl; have hcz5_3 : w4.cell? ⟨gb291, 3, none⟩ = some (.int .i64 a0_3) := (bC BK291.out 3).trans rfl; have hcz5_4 : w4.cell? ⟨gb291, 4, none⟩ = some (.int .i64 a0_4) := (bC BK291.out 4).trans rfl; have hcz5_5 : w4.cell? ⟨gb291, 5, none⟩ = some (.string a0_5) := (bC BK291.out 5).trans rfl; have hcz5_6 : w4.cell? ⟨gb291, 6, none⟩ = some (.int .i64 a0_6) := (bC BK291.out 6).trans rfl; have hcz5_7 : w4.cell? ⟨gb291, 7, none⟩ = some (.int .i64 a0_7) := (bC BK291.out 7).trans rfl; have hcz5_8 : w4.cell? ⟨gb291, 8, none⟩ = some (.string a0_8) := (bC BK291.out 8).trans rfl; have hcz5_9 : w4.cell? ⟨gb291, 9, none⟩ = some (.int .i64 a0_9) := (bC BK291.out 9).trans rfl; have hcz5_10 : w4.cell? ⟨gb291, 10, none⟩ = some (.string a0_10) := (bC BK291.out 10).trans rfl; have hcz5_11 : w4.cell? ⟨gb291, 11, none⟩ = some (.int .i64 a0_11) := (bC BK291.out 11).trans rfl; have hcz5_12 : w4.cell? ⟨gb291, 12, none⟩ = some (.string a0_12) := (bC BK291.out 12).trans rfl; have hcz5_13 : w4.cell? ⟨gb291, 13, none⟩ = some (.int .i64 a0_13) := (bC BK291.out 13).trans rfl; have hcz5_14 : w4.cell? ⟨gb291, 14, none⟩ = some (.int .i64 a0_14) := (bC BK291.out 14).trans rfl; have hcz5_15 : w4.cell? ⟨gb291, 15, none⟩ = some (.slice A0_15 l0_15.length c0_15) := (bC BK291.out 15).trans rfl; have hfz5_0 := bF BK291.out 0; have hfz5_1 := bF BK291.out 1; have hfz5_2 := bF BK291.out 2; have hfz5_3 := bF BK291.out 3; have hfz5_4 := bF BK291.out 4; have hfz5_5 := bF BK291.out 5; have hfz5_6 := bF BK291.out 6; have hfz5_7 := bF BK291.out 7; have hfz5_8 := bF BK291.out 8; have hfz5_9 := bF BK291.out 9; have hfz5_10 := bF BK291.out 10; have hfz5_11 := bF BK291.out 11; have hfz5_12 := bF BK291.out 12; have hfz5_13 := bF BK291.out 13; have hfz5_14 := bF BK291.out 14; have hfz5_15 := bF BK291.out 15) | ((with_reducible refine gate_dst (N := 11) rfl ?_); refine Kd.R_lit k53 _ 53 ?hg (N := 11) ?hd (xs := ([(⟨a0_4, a0_5, a0_6⟩ : S53), (⟨a0_7, a0_8, a0_9⟩ : S53)] : List (S53))) (inner := [.int .i64 a0_4, .string a0_5, .int .i64 a0_6, .int .i64 a0_7, .string a0_8, .int .i64 a0_9]) (ok := fun _ => True) (okp := fun _ => True) ?hr ?hp (fun _ hk => hk) trivial (Below.refl _ _) (Nat.le_refl _) (by simp) ?_; (case hd => rfl); (case hg => rfl); (case hr => first | (go_simp; done) | (go_simp; rfl)); (case hp => exact (Reps.c3 (show Kd.M k53 _ _ _ (⟨a0_4, a0_5, a0_6⟩ : S53) [.int .i64 a0_4, .string a0_5, .int .i64 a0_6] from (k53_mkM _ _ _ (⟨a0_4, a0_5, a0_6⟩ : S53) )) (Reps.c3 (show Kd.M k53 _ _ _ (⟨a0_7, a0_8, a0_9⟩ : S53) [.int .i64 a0_7, .string a0_8, .int .i64 a0_9] from (k53_mkM _ _ _ (⟨a0_7, a0_8, a0_9⟩ : S53) )) (Reps.none _ _)))); intro v293 w6 ho7 hb hg_ hnew_; clear hg_ hnew_; (first | rw [← Ny292.out] at ho7 | (simp only [Int.reduceToNat] at ho7; rw [← Ny292.out] at ho7)); have n0_ := aK_ (Kd.R_lower ho7 (lZ_ (by repeat (first | (with_reducible first | exact HB.out | apply lA_ | apply pD | apply lD_ | refine lS_ ?_ GE291.out) | exact HB.out)))); have n1_ := aK_ (bB (by (with_reducible repeat (first | refine bDN ?_ _ | refine bD ?_ | refine bA ?_ _)); exact BK291.out) hb); have n2_ := aK_ (lT_ (by repeat (first | (with_reducible first | exact HB.out | apply lA_ | apply pD | apply lD_ | refine lS_ ?_ GE291.out) | exact HB.out)) hb); clear BK291; clear HB; have HO294 := n0_; have BK291 := n1_; have HB := n2_; clear n0_ n1_ n2_; clear hb ho7; obtain ⟨Ao8, co8, eo8⟩ := Kd.R_slice HO294.out; subst eo8) | ((with_reducible refine gate_callee (f := 12) rfl ?_); refine goesL_ (some 12) rfl rfl Tryd.func12 (by kernel_rfl) rfl #[.slice Ao8 y292.length co8] rfl (by (try simp only [List.map_toArray, List.map_cons, List.map_nil]); first | done | rfl | (simp only [List.length_drop, List.length_take]; rfl)) ?_; (with_reducible refine (ergolaw13_names.calls k _ _ y292 t295 _ ?side1 ?side2 A3.out).mono ?_); (case side1 => repeat (first | exact (Kd.R_reads' HO294.out).2.2 | (with_reducible refine Kd.C_alloc ?_ _) | (with_reducible refine Kd.C_drewN ?_ _) | (with_reducible refine Kd.C_drew ?_))); (case side2 => exact (Kd.R_reads' HO294.out).2.1); rintro e w9 ⟨v296, rfl, ho0, hb⟩; refine ⟨_, rfl, ?_⟩; have n0_ := aK_ (Kd.R_below (by (with_reducible repeat (first | apply Kd.R_alloc | apply Kd.R_drewN | apply Kd.R_drew)); exact HO294.out) hb); have n1_ := aK_ (Kd.R_lower ho0 (lZ_ (by repeat (first | (with_reducible first | exact HB.out | apply lA_ | apply pD | apply lD_ | refine lS_ ?_ GE291.out) | exact HB.out)))); have n2_ := aK_ (bB (by (with_reducible repeat (first | refine bDN ?_ _ | refine bD ?_ | refine bA ?_ _)); exact BK291.out) hb); have n3_ := aK_ (lT_ (by repeat (first | (with_reducible first | exact HB.out | apply lA_ | apply pD | apply lD_ | refine lS_ ?_ GE291.out) | exact HB.out)) hb); clear HO294; clear BK291; clear HB; have HO294 := n0_; have HO297 := n1_; have BK291 := n2_; have HB := n3_; clear n0_ n1_ n2_ n3_; (try clear hb); (try clear hb2); (try clear hk); (try clear hi); (try clear ho0)))
  go_ret
  exact ⟨_, by first | rfl | (simp [errW_none, errW_some] <;> rfl) | (simp [*, errW_none, errW_some] <;> rfl), by (with_reducible repeat (first | apply Kd.R_alloc | apply Kd.R_drewN | apply Kd.R_drew)); exact HO297.out, by repeat (first | (with_reducible first | exact HB.out | apply lA_ | apply pD | apply lD_ | refine lS_ ?_ GE291.out) | exact HB.out)⟩
 ·rw [if_neg c2] at H
  have c2b0 : (a0_0 == 2) = false := beq_eq_false_iff_ne.mpr c2
  have c2b1 : (a0_0 != 2) = true := bne_iff_ne.mpr c2
  by_cases c10 : a0_0 = 3
  ·rw [if_pos c10] at H
   have c10b0 : (a0_0 == 3) = true := beq_iff_eq.mpr c10
   have c10b1 : (a0_0 != 3) = false := bne_eq_false_iff_eq.mpr c10
   clear c10
   obtain ⟨y298, hy298⟩ : ∃ y_ : List ByteArray, y_ = (([a0_10] : List ByteArray)) := ⟨_, rfl⟩
   replace H : ((ergolaw13_inner.f k a0_11 a0_12 a0_13 a0_14 l0_15).bind fun t301 => (if y298.length + t301.length < 8796093022208 then (some (y298 ++ t301)) else (none))) = some r := by first | (rw [hy298]; with_reducible exact H) | (have H2_ := (Option.bind_some _ _).symm.trans H; rw [hy298]; with_reducible exact H2_) | (have H2_ := (Option.bind_some _ _).symm.trans H; with_reducible exact H2_) | with_reducible exact H | (rw [hy298]; exact H) | exact H
   have Ny298 := aK_ hy298
   clear hy298
   replace H := Option.bind_eq_some_iff.mp H
   obtain ⟨t301, A110, H⟩ := H
   replace H : (if y298.length + t301.length < 8796093022208 then (some (y298 ++ t301)) else (none)) = some r := H
   have A11 := aK_ A110
   clear A110
   by_cases c12 : y298.length + t301.length < 8796093022208
   ·rw [if_pos c12] at H
    have LMc12 := aK_ c12
    clear c12
    obtain ⟨y304, hy304⟩ : ∃ y_ : List ByteArray, y_ = (y298 ++ t301) := ⟨_, rfl⟩
    replace H : (some y304) = some r := by first | (rw [hy304]; with_reducible exact H) | (have H2_ := (Option.bind_some _ _).symm.trans H; rw [hy304]; with_reducible exact H2_) | (have H2_ := (Option.bind_some _ _).symm.trans H; with_reducible exact H2_) | with_reducible exact H | (rw [hy304]; exact H) | exact H
    have Ny304 := aK_ hy304
    clear hy304
    obtain rfl := Option.some.inj H
    go_enter Tryd.func16, Tryd.ntmps16
    try go_wp2_with (first | ((with_reducible refine gate_dst (N := 1) rfl ?_); refine box_event ?hg (N := 1) ?hd (cs := #[.int .i64 a0_0, .string a0_1, .slice A0_2 l0_2.length c0_2, .int .i64 a0_3, .int .i64 a0_4, .string a0_5, .int .i64 a0_6, .int .i64 a0_7, .string a0_8, .int .i64 a0_9, .string a0_10, .int .i64 a0_11, .string a0_12, .int .i64 a0_13, .int .i64 a0_14, .slice A0_15 l0_15.length c0_15]) (t := 59) ?hr ?_; (case hd => rfl); (case hg => rfl); (case hr => first | (go_simp; done) | (go_simp; rfl)); intro gb291 hg w13 hbox hb; have n0_ := aK_ (lT_ (by repeat (first | (with_reducible first | exact HB.out | apply lA_ | apply pD | apply lD_) | exact HB.out)) hb); have n1_ := aK_ (hbox); have n2_ := aK_ ((by rw [hg]; exact (lZ_ (by repeat (first | (with_reducible first | exact HB.out | apply lA_ | apply pD | apply lD_) | exact HB.out))) : w.heap.size ≤ gb291)); have n3_ := aK_ ((by rw [hg]; exact (lZ_ (by repeat (first | (with_reducible first | exact HB.out | apply lA_ | apply pD | apply lD_) | exact HB.out))) : w.heap.size ≤ gb291)); clear HB; have HB := n0_; have BK291 := n1_; have GW291 := n2_; have GE291 := n3_; clear n0_ n1_ n2_ n3_; clear hb hbox hg; have hcz14_0 : w13.cell? ⟨gb291, 0, none⟩ = some (.int .i64 a0_0) := (bC BK291.out 0).trans rfl; have hcz14_1 : w13.cell? ⟨gb291, 1, none⟩ = some (.string a0_1) := (bC BK291.out 1).trans rfl; have hcz14_2 : w13.cell? ⟨gb291, 2, none⟩ = some (.slice A0_2 l0_2.length c0_2) := (bC BK291.out 2).trans rfl; have hcz14_3 : w13.cell? ⟨gb291, 3, none⟩ = some (.int .i64 a0_3) := (bC BK291.out 3).trans rfl; have hcz14_4 : w13.cell? ⟨gb291, 4, none⟩ = some (.int .i64 a0_4) := (bC BK291.out 4).trans rfl; have hcz14_5 : w13.cell? ⟨gb291, 5, none⟩ = some (.string a0_5) := (bC BK291.out 5).trans rfl; have hcz14_6 : w13.cell? ⟨gb291, 6, none⟩ = some (.int .i64 a0_6) := (bC BK291.out 6).trans rfl; have hcz14_7 : w13.cell? ⟨gb291, 7, none⟩ = some (.int .i64 a0_7) := (bC BK291.out 7).trans rfl; have hcz14_8 : w13.cell? ⟨gb291, 8, none⟩ = some (.string a0_8) := (bC BK291.out 8).trans rfl; have hcz14_9 : w13.cell? ⟨gb291, 9, none⟩ = some (.int .i64 a0_9) := (bC BK291.out 9).trans rfl; have hcz14_10 : w13.cell? ⟨gb291, 10, none⟩ = some (.string a0_10) := (bC BK291.out 10).trans rfl; have hcz14_11 : w13.cell? ⟨gb291, 11, none⟩ = some (.int .i64 a0_11) := (bC BK291.out 11).trans rfl; have hcz14_12 : w13.cell? ⟨gb291, 12, none⟩ = some (.string a0_12) := (bC BK291.out 12).trans rfl; have hcz14_13 : w13.cell? ⟨gb291, 13, none⟩ = some (.int .i64 a0_13) := (bC BK291.out 13).trans rfl; have hcz14_14 : w13.cell? ⟨gb291, 14, none⟩ = some (.int .i64 a0_14) := (bC BK291.out 14).trans rfl; have hcz14_15 : w13.cell? ⟨gb291, 15, none⟩ = some (.slice A0_15 l0_15.length c0_15) := (bC BK291.out 15).trans rfl; have hfz14_0 := bF BK291.out 0; have hfz14_1 := bF BK291.out 1; have hfz14_2 := bF BK291.out 2; have hfz14_3 := bF BK291.out 3; have hfz14_4 := bF BK291.out 4; have hfz14_5 := bF BK291.out 5; have hfz14_6 := bF BK291.out 6; have hfz14_7 := bF BK291.out 7; have hfz14_8 := bF BK291.out 8; have hfz14_9 := bF BK291.out 9; have hfz14_10 := bF BK291.out 10; have hfz14_11 := bF BK291.out 11; have hfz14_12 := bF BK291.out 12; have hfz14_13 := bF BK291.out 13; have hfz14_14 := bF BK291.out 14; have hfz14_15 := bF BK291.out 15))
    have n0_ := aK_ (bD BK291.out)
    have n1_ := aK_ (lD_ HB.out)
    clear BK291
    clear HB
    have BK291 := n0_
    have HB := n1_
    clear n0_ n1_
    refine start_ (n := 8) (S := fun w' => w'.cell? ⟨gb291, 0, none⟩ = some (.int .i64 a0_0) ∧ w'.cell? ⟨gb291, 1, none⟩ = some (.string a0_1) ∧ w'.cell? ⟨gb291, 2, none⟩ = some (.slice A0_2 l0_2.length c0_2) ∧ w'.cell? ⟨gb291, 3, none⟩ = some (.int .i64 a0_3) ∧ w'.cell? ⟨gb291, 4, none⟩ = some (.int .i64 a0_4) ∧ w'.cell? ⟨gb291, 5, none⟩ = some (.string a0_5) ∧ w'.cell? ⟨gb291, 6, none⟩ = some (.int .i64 a0_6) ∧ w'.cell? ⟨gb291, 7, none⟩ = some (.int .i64 a0_7) ∧ w'.cell? ⟨gb291, 8, none⟩ = some (.string a0_8) ∧ w'.cell? ⟨gb291, 9, none⟩ = some (.int .i64 a0_9) ∧ w'.cell? ⟨gb291, 10, none⟩ = some (.string a0_10) ∧ w'.cell? ⟨gb291, 11, none⟩ = some (.int .i64 a0_11) ∧ w'.cell? ⟨gb291, 12, none⟩ = some (.string a0_12) ∧ w'.cell? ⟨gb291, 13, none⟩ = some (.int .i64 a0_13) ∧ w'.cell? ⟨gb291, 14, none⟩ = some (.int .i64 a0_14) ∧ w'.cell? ⟨gb291, 15, none⟩ = some (.slice A0_15 l0_15.length c0_15)) (ds := []) #[false, false, false, false, false, false, false, false] (by kernel_rfl) rfl rfl ⟨(bC BK291.out 0).trans rfl, (bC BK291.out 1).trans rfl, (bC BK291.out 2).trans rfl, (bC BK291.out 3).trans rfl, (bC BK291.out 4).trans rfl, (bC BK291.out 5).trans rfl, (bC BK291.out 6).trans rfl, (bC BK291.out 7).trans rfl, (bC BK291.out 8).trans rfl, (bC BK291.out 9).trans rfl, (bC BK291.out 10).trans rfl, (bC BK291.out 11).trans rfl, (bC BK291.out 12).trans rfl, (bC BK291.out 13).trans rfl, (bC BK291.out 14).trans rfl, (bC BK291.out 15).trans rfl⟩ (fun hHeld => ?_); refine with_tabW ergolaw13_Names.tab5 ergolaw13_Names.bits5 (fun HT_ HW_ => ?_)
    generalize w13.drew = w15 at BK291 HB hHeld ⊢
    refine pure_ (i := 0) (N := some 15) (v := ?_) (a' := ?_) #[true, false, false, false, false, false, false, false] rfl rfl (any_of HT_.out (by kernel_rfl)) (fun _ _ _ h => h) (Or.inl ⟨by rfl, ?_⟩) ?_ ?_
    rotate_left
    ·intro w'
     go_simp
     with_reducible rfl
    rotate_left
    ·simp only [Act.put, sA_, sZ_, sS_, i64_w, i32_w]
     rfl
    refine pure_ (i := 3) (N := some 18) (v := ?_) (a' := ?_) #[true, false, false, true, false, false, false, false] rfl rfl (any_of HT_.out (by kernel_rfl)) (fun _ _ _ h => h) (Or.inl ⟨by rfl, ?_⟩) ?_ ?_
    rotate_left
    ·intro w'
     go_simp
     with_reducible rfl
    rotate_left
    ·simp only [Act.put, sA_, sZ_, sS_, i64_w, i32_w]
     rfl
    refine take_ (i := 1) (N := some 16) (v := ?_) (a' := ?_) #[true, true, false, true, false, false, false, false] rfl rfl (take_ofW HT_.out HW_.out (by kernel_rfl)) (fun _ _ _ h => h) (Or.inl ⟨by rfl, ?_⟩) hHeld ?_ ?_
    rotate_left
    ·rintro w' ⟨s0, s1, s2, s3, s4, s5, s6, s7, s8, s9, s10, s11, s12, s13, s14, s15⟩
     go_simp
     with_reducible rfl
    rotate_left
    ·simp only [Act.put, sA_, sZ_, sS_, i64_w, i32_w]
     rfl
    refine take_ (i := 4) (N := some 19) (v := ?_) (a' := ?_) #[true, true, false, true, true, false, false, false] rfl rfl (take_ofW HT_.out HW_.out (by kernel_rfl)) (fun _ _ _ h => h) (Or.inl ⟨by rfl, ?_⟩) hHeld ?_ ?_
    rotate_left
    ·rintro w' ⟨s0, s1, s2, s3, s4, s5, s6, s7, s8, s9, s10, s11, s12, s13, s14, s15⟩
     go_simp
     with_reducible rfl
    rotate_left
    ·simp only [Act.put, sA_, sZ_, sS_, i64_w, i32_w]
     rfl
    refine join_ (σ := Value × Value) 2 #[true, true, true, true, true, true, false, false] (fun s_ => [(17, s_.1), (20, s_.2)]) (fun s_ w' => (w'.cell? ⟨gb291, 0, none⟩ = some (.int .i64 a0_0) ∧ w'.cell? ⟨gb291, 1, none⟩ = some (.string a0_1) ∧ w'.cell? ⟨gb291, 2, none⟩ = some (.slice A0_2 l0_2.length c0_2) ∧ w'.cell? ⟨gb291, 3, none⟩ = some (.int .i64 a0_3) ∧ w'.cell? ⟨gb291, 4, none⟩ = some (.int .i64 a0_4) ∧ w'.cell? ⟨gb291, 5, none⟩ = some (.string a0_5) ∧ w'.cell? ⟨gb291, 6, none⟩ = some (.int .i64 a0_6) ∧ w'.cell? ⟨gb291, 7, none⟩ = some (.int .i64 a0_7) ∧ w'.cell? ⟨gb291, 8, none⟩ = some (.string a0_8) ∧ w'.cell? ⟨gb291, 9, none⟩ = some (.int .i64 a0_9) ∧ w'.cell? ⟨gb291, 10, none⟩ = some (.string a0_10) ∧ w'.cell? ⟨gb291, 11, none⟩ = some (.int .i64 a0_11) ∧ w'.cell? ⟨gb291, 12, none⟩ = some (.string a0_12) ∧ w'.cell? ⟨gb291, 13, none⟩ = some (.int .i64 a0_13) ∧ w'.cell? ⟨gb291, 14, none⟩ = some (.int .i64 a0_14) ∧ w'.cell? ⟨gb291, 15, none⟩ = some (.slice A0_15 l0_15.length c0_15)) ∧ (Kd.R Kd.string 9 w' w.heap.size (fun k_ => some k_ ≠ (s_.2 : Value).ownBlock) s_.1 y298) ∧ (Kd.R Kd.string 9 w' w.heap.size (fun k_ => some k_ ≠ (s_.1 : Value).ownBlock) s_.2 t301) ∧ (w'.heap[gb291]? = some (.cells #[.int .i64 a0_0, .string a0_1, .slice A0_2 l0_2.length c0_2, .int .i64 a0_3, .int .i64 a0_4, .string a0_5, .int .i64 a0_6, .int .i64 a0_7, .string a0_8, .int .i64 a0_9, .string a0_10, .int .i64 a0_11, .string a0_12, .int .i64 a0_13, .int .i64 a0_14, .slice A0_15 l0_15.length c0_15] 59 (0, 0))) ∧ (Below w.heap.size w w')) ?_ ?_
    rotate_left
    ·intro hCont
     refine two_ (i := 2) (j := 5) (Ni := some 17) (Nj := some 20) #[true, true, true, true, true, false, false, false] #[true, true, false, true, true, true, false, false] rfl rfl rfl rfl (two_of HT_.out (by kernel_rfl)) (by decide) (by decide) (fun K hK => ?_) (fun K hK => ?_)
     ·skip
      refine Kd.R_lit_step Kd.string _ 9 ?hg (N := 17) ?hd (xs := ([a0_10] : List ByteArray)) (inner := [.string a0_10]) (ok := fun _ => True) (okp := fun _ => True) ?hr ?hp (fun _ hk => hk) trivial (Below.refl _ _) (Nat.le_refl _) (by simp) ?_; (case hd => rfl); (case hg => rfl); (case hr => first | (go_simp; done) | (go_simp; rfl)); (case hp => exact (Reps.one (show Kd.M Kd.string _ _ _ a0_10 [.string a0_10] from rfl) (Reps.none _ _)))
      intro v299 w16 ho17 hb hg_ hnew_
      clear hg_ hnew_
      (first | rw [← Ny298.out] at ho17 | (simp only [Int.reduceToNat] at ho17; rw [← Ny298.out] at ho17))
      have n0_ := aK_ (Kd.R_lower ho17 (lZ_ (by repeat (first | (with_reducible first | exact HB.out | apply lA_ | apply pD | apply lD_ | refine lS_ ?_ GE291.out) | exact HB.out))))
      have n1_ := aK_ (bB (by (with_reducible repeat (first | refine bDN ?_ _ | refine bD ?_ | refine bA ?_ _)); exact BK291.out) hb)
      have n2_ := aK_ (lT_ (by repeat (first | (with_reducible first | exact HB.out | apply lA_ | apply pD | apply lD_ | refine lS_ ?_ GE291.out) | exact HB.out)) hb)
      clear BK291
      clear HB
      have HO300 := n0_
      have BK291 := n1_
      have HB := n2_
      clear n0_ n1_ n2_
      clear hb ho17
      refine hK.out _ _ ⟨(bC BK291.out 0).trans rfl, (bC BK291.out 1).trans rfl, (bC BK291.out 2).trans rfl, (bC BK291.out 3).trans rfl, (bC BK291.out 4).trans rfl, (bC BK291.out 5).trans rfl, (bC BK291.out 6).trans rfl, (bC BK291.out 7).trans rfl, (bC BK291.out 8).trans rfl, (bC BK291.out 9).trans rfl, (bC BK291.out 10).trans rfl, (bC BK291.out 11).trans rfl, (bC BK291.out 12).trans rfl, (bC BK291.out 13).trans rfl, (bC BK291.out 14).trans rfl, (bC BK291.out 15).trans rfl⟩ (fun hHeld => ?_)
      clear hK K
      refine norm_ (a' := ?_) ?_ ?_
      rotate_left
      ·show Act.put _ (some 17) _ = _
       simp only [Act.put, sA_, sZ_, sS_, i64_w, i32_w]
       rfl
      refine one_ (i := 5) (N := some 20) #[true, true, true, true, true, true, false, false] rfl rfl (one_of HT_.out (by kernel_rfl)) (by decide) (fun K hK => ?_)
      refine goes_ Tryd.func18 (by kernel_rfl) rfl #[.agg #[.int .i64 a0_11, .string a0_12, .int .i64 a0_13, .int .i64 a0_14, .slice A0_15 l0_15.length c0_15]] (by rfl) rfl rfl (by (try simp only [List.map_toArray, List.map_cons, List.map_nil]); first | done | rfl | (simp only [List.length_drop, List.length_take]; rfl)) ?_
      with_reducible refine (ergolaw13_inner.calls k a0_11 a0_12 a0_13 a0_14 _ _ l0_15 t301 _ ?side1 ?side2 A11.out).mono ?_
      (case side1 => repeat (first | exact (Kd.C_below HR0_15.out HB.out) | (with_reducible refine Kd.C_alloc ?_ _) | (with_reducible refine Kd.C_drewN ?_ _) | (with_reducible refine Kd.C_drew ?_)))
      (case side2 => exact HC0_15.out)
      rintro e w18 ⟨v302, rfl, ho0, hb⟩
      refine ⟨_, rfl, ?_⟩
      have n0_ := aK_ (Kd.R_elder' (by (with_reducible repeat (first | apply Kd.R_alloc | apply Kd.R_drewN | apply Kd.R_drew)); exact HO300.out) (Kd.R_base ho0) hb)
      have n1_ := aK_ (Kd.R_lower (Kd.R_new' ho0 (Kd.R_lt (by (with_reducible repeat (first | apply Kd.R_alloc | apply Kd.R_drewN | apply Kd.R_drew)); exact HO300.out))) (lZ_ (by repeat (first | (with_reducible first | exact HB.out | apply lA_ | apply pD | apply lD_ | refine lS_ ?_ GE291.out) | exact HB.out))))
      have n2_ := aK_ (bB (by (with_reducible repeat (first | refine bDN ?_ _ | refine bD ?_ | refine bA ?_ _)); exact BK291.out) hb)
      have n3_ := aK_ (lT_ (by repeat (first | (with_reducible first | exact HB.out | apply lA_ | apply pD | apply lD_ | refine lS_ ?_ GE291.out) | exact HB.out)) hb)
      clear HO300
      clear BK291
      clear HB
      have HO300 := n0_
      have HO303 := n1_
      have BK291 := n2_
      have HB := n3_
      clear n0_ n1_ n2_ n3_
      (try clear hb)
      (try clear hb2)
      (try clear hk)
      (try clear hi)
      (try clear ho0)
      refine hK.out _ _ ⟨(bC BK291.out 0).trans rfl, (bC BK291.out 1).trans rfl, (bC BK291.out 2).trans rfl, (bC BK291.out 3).trans rfl, (bC BK291.out 4).trans rfl, (bC BK291.out 5).trans rfl, (bC BK291.out 6).trans rfl, (bC BK291.out 7).trans rfl, (bC BK291.out 8).trans rfl, (bC BK291.out 9).trans rfl, (bC BK291.out 10).trans rfl, (bC BK291.out 11).trans rfl, (bC BK291.out 12).trans rfl, (bC BK291.out 13).trans rfl, (bC BK291.out 14).trans rfl, (bC BK291.out 15).trans rfl⟩ (fun hHeld => ?_)
      clear hK K
      refine norm_ (a' := ?_) ?_ ?_
      rotate_left
      ·show Act.put _ (some 20) _ = _
       simp only [Act.put, sA_, sZ_, sS_, i64_w, i32_w]
       rfl
      exact norm_ (by simp only [putAll, Act.put, sA_, sZ_, sS_]) (hCont (v299, v302) _ ⟨hHeld, (by (with_reducible repeat (first | apply Kd.R_alloc | apply Kd.R_drewN | apply Kd.R_drew)); exact Kd.R_mono HO300.out (fun _ hk => hk.2)), (by (with_reducible repeat (first | apply Kd.R_alloc | apply Kd.R_drewN | apply Kd.R_drew)); exact Kd.R_mono HO303.out (fun _ hk => hk.2)), (by (with_reducible repeat (first | refine bDN ?_ _ | refine bD ?_ | refine bA ?_ _)); exact BK291.out), (by repeat (first | (with_reducible first | exact HB.out | apply lA_ | apply pD | apply lD_ | refine lS_ ?_ GE291.out) | exact HB.out))⟩)
     ·skip
      refine goes_ Tryd.func18 (by kernel_rfl) rfl #[.agg #[.int .i64 a0_11, .string a0_12, .int .i64 a0_13, .int .i64 a0_14, .slice A0_15 l0_15.length c0_15]] (by rfl) rfl rfl (by (try simp only [List.map_toArray, List.map_cons, List.map_nil]); first | done | rfl | (simp only [List.length_drop, List.length_take]; rfl)) ?_
      with_reducible refine (ergolaw13_inner.calls k a0_11 a0_12 a0_13 a0_14 _ _ l0_15 t301 _ ?side1 ?side2 A11.out).mono ?_
      (case side1 => repeat (first | exact (Kd.C_below HR0_15.out HB.out) | (with_reducible refine Kd.C_alloc ?_ _) | (with_reducible refine Kd.C_drewN ?_ _) | (with_reducible refine Kd.C_drew ?_)))
      (case side2 => exact HC0_15.out)
      rintro e w16 ⟨v302, rfl, ho0, hb⟩
      refine ⟨_, rfl, ?_⟩
      have n0_ := aK_ (Kd.R_lower ho0 (lZ_ (by repeat (first | (with_reducible first | exact HB.out | apply lA_ | apply pD | apply lD_ | refine lS_ ?_ GE291.out) | exact HB.out))))
      have n1_ := aK_ (bB (by (with_reducible repeat (first | refine bDN ?_ _ | refine bD ?_ | refine bA ?_ _)); exact BK291.out) hb)
      have n2_ := aK_ (lT_ (by repeat (first | (with_reducible first | exact HB.out | apply lA_ | apply pD | apply lD_ | refine lS_ ?_ GE291.out) | exact HB.out)) hb)
      clear BK291
      clear HB
      have HO303 := n0_
      have BK291 := n1_
      have HB := n2_
      clear n0_ n1_ n2_
      (try clear hb)
      (try clear hb2)
      (try clear hk)
      (try clear hi)
      (try clear ho0)
      refine hK.out _ _ ⟨(bC BK291.out 0).trans rfl, (bC BK291.out 1).trans rfl, (bC BK291.out 2).trans rfl, (bC BK291.out 3).trans rfl, (bC BK291.out 4).trans rfl, (bC BK291.out 5).trans rfl, (bC BK291.out 6).trans rfl, (bC BK291.out 7).trans rfl, (bC BK291.out 8).trans rfl, (bC BK291.out 9).trans rfl, (bC BK291.out 10).trans rfl, (bC BK291.out 11).trans rfl, (bC BK291.out 12).trans rfl, (bC BK291.out 13).trans rfl, (bC BK291.out 14).trans rfl, (bC BK291.out 15).trans rfl⟩ (fun hHeld => ?_)
      clear hK K
      refine norm_ (a' := ?_) ?_ ?_
      rotate_left
      ·show Act.put _ (some 20) _ = _
       simp only [Act.put, sA_, sZ_, sS_, i64_w, i32_w]
       rfl
      refine one_ (i := 2) (N := some 17) #[true, true, true, true, true, true, false, false] rfl rfl (one_of HT_.out (by kernel_rfl)) (by decide) (fun K hK => ?_)
      refine Kd.R_lit_step Kd.string _ 9 ?hg (N := 17) ?hd (xs := ([a0_10] : List ByteArray)) (inner := [.string a0_10]) (ok := fun _ => True) (okp := fun _ => True) ?hr ?hp (fun _ hk => hk) trivial (Below.refl _ _) (Nat.le_refl _) (by simp) ?_; (case hd => rfl); (case hg => rfl); (case hr => first | (go_simp; done) | (go_simp; rfl)); (case hp => exact (Reps.one (show Kd.M Kd.string _ _ _ a0_10 [.string a0_10] from rfl) (Reps.none _ _)))
      intro v299 w17 ho18 hb hg_ hnew_
      clear hg_ hnew_
      (first | rw [← Ny298.out] at ho18 | (simp only [Int.reduceToNat] at ho18; rw [← Ny298.out] at ho18))
      have n0_ := aK_ (Kd.R_elder' (by (with_reducible repeat (first | apply Kd.R_alloc | apply Kd.R_drewN | apply Kd.R_drew)); exact HO303.out) (Kd.R_base ho18) hb)
      have n1_ := aK_ (Kd.R_lower (Kd.R_new' ho18 (Kd.R_lt (by (with_reducible repeat (first | apply Kd.R_alloc | apply Kd.R_drewN | apply Kd.R_drew)); exact HO303.out))) (lZ_ (by repeat (first | (with_reducible first | exact HB.out | apply lA_ | apply pD | apply lD_ | refine lS_ ?_ GE291.out) | exact HB.out))))
      have n2_ := aK_ (bB (by (with_reducible repeat (first | refine bDN ?_ _ | refine bD ?_ | refine bA ?_ _)); exact BK291.out) hb)
      have n3_ := aK_ (lT_ (by repeat (first | (with_reducible first | exact HB.out | apply lA_ | apply pD | apply lD_ | refine lS_ ?_ GE291.out) | exact HB.out)) hb)
      clear HO303
      clear BK291
      clear HB
      have HO303 := n0_
      have HO300 := n1_
      have BK291 := n2_
      have HB := n3_
      clear n0_ n1_ n2_ n3_
      clear hb ho18
      refine hK.out _ _ ⟨(bC BK291.out 0).trans rfl, (bC BK291.out 1).trans rfl, (bC BK291.out 2).trans rfl, (bC BK291.out 3).trans rfl, (bC BK291.out 4).trans rfl, (bC BK291.out 5).trans rfl, (bC BK291.out 6).trans rfl, (bC BK291.out 7).trans rfl, (bC BK291.out 8).trans rfl, (bC BK291.out 9).trans rfl, (bC BK291.out 10).trans rfl, (bC BK291.out 11).trans rfl, (bC BK291.out 12).trans rfl, (bC BK291.out 13).trans rfl, (bC BK291.out 14).trans rfl, (bC BK291.out 15).trans rfl⟩ (fun hHeld => ?_)
      clear hK K
      refine norm_ (a' := ?_) ?_ ?_
      rotate_left
      ·show Act.put _ (some 17) _ = _
       simp only [Act.put, sA_, sZ_, sS_, i64_w, i32_w]
       rfl
      exact norm_ (by simp only [putAll, Act.put, sA_, sZ_, sS_]) (hCont (v299, v302) _ ⟨hHeld, (by (with_reducible repeat (first | apply Kd.R_alloc | apply Kd.R_drewN | apply Kd.R_drew)); exact Kd.R_mono HO300.out (fun _ hk => hk.2)), (by (with_reducible repeat (first | apply Kd.R_alloc | apply Kd.R_drewN | apply Kd.R_drew)); exact Kd.R_mono HO303.out (fun _ hk => hk.2)), (by (with_reducible repeat (first | refine bDN ?_ _ | refine bD ?_ | refine bA ?_ _)); exact BK291.out), (by repeat (first | (with_reducible first | exact HB.out | apply lA_ | apply pD | apply lD_ | refine lS_ ?_ GE291.out) | exact HB.out))⟩)
    rintro ⟨v299, v302⟩ w19 ⟨hS_, h0_, h1_, h2_, h3_⟩
    have n0_ : Aside0 (Kd.R Kd.string 9 w19 w.heap.size (fun k_ => some k_ ≠ (v302 : Value).ownBlock) v299 y298) := ⟨h0_⟩
    have n1_ : Aside0 (Kd.R Kd.string 9 w19 w.heap.size (fun k_ => some k_ ≠ (v299 : Value).ownBlock) v302 t301) := ⟨h1_⟩
    have n2_ : Aside0 (w19.heap[gb291]? = some (.cells #[.int .i64 a0_0, .string a0_1, .slice A0_2 l0_2.length c0_2, .int .i64 a0_3, .int .i64 a0_4, .string a0_5, .int .i64 a0_6, .int .i64 a0_7, .string a0_8, .int .i64 a0_9, .string a0_10, .int .i64 a0_11, .string a0_12, .int .i64 a0_13, .int .i64 a0_14, .slice A0_15 l0_15.length c0_15] 59 (0, 0))) := ⟨h2_⟩
    have n3_ : Aside0 (Below w.heap.size w w19) := ⟨h3_⟩
    clear BK291
    clear HB
    clear h0_ h1_ h2_ h3_
    have HO300 := n0_
    have HO303 := n1_
    have BK291 := n2_
    have HB := n3_
    clear n0_ n1_ n2_ n3_
    have hHeld : w19.cell? ⟨gb291, 0, none⟩ = some (.int .i64 a0_0) ∧ w19.cell? ⟨gb291, 1, none⟩ = some (.string a0_1) ∧ w19.cell? ⟨gb291, 2, none⟩ = some (.slice A0_2 l0_2.length c0_2) ∧ w19.cell? ⟨gb291, 3, none⟩ = some (.int .i64 a0_3) ∧ w19.cell? ⟨gb291, 4, none⟩ = some (.int .i64 a0_4) ∧ w19.cell? ⟨gb291, 5, none⟩ = some (.string a0_5) ∧ w19.cell? ⟨gb291, 6, none⟩ = some (.int .i64 a0_6) ∧ w19.cell? ⟨gb291, 7, none⟩ = some (.int .i64 a0_7) ∧ w19.cell? ⟨gb291, 8, none⟩ = some (.string a0_8) ∧ w19.cell? ⟨gb291, 9, none⟩ = some (.int .i64 a0_9) ∧ w19.cell? ⟨gb291, 10, none⟩ = some (.string a0_10) ∧ w19.cell? ⟨gb291, 11, none⟩ = some (.int .i64 a0_11) ∧ w19.cell? ⟨gb291, 12, none⟩ = some (.string a0_12) ∧ w19.cell? ⟨gb291, 13, none⟩ = some (.int .i64 a0_13) ∧ w19.cell? ⟨gb291, 14, none⟩ = some (.int .i64 a0_14) ∧ w19.cell? ⟨gb291, 15, none⟩ = some (.slice A0_15 l0_15.length c0_15) := hS_
    obtain ⟨Ao21, co21, eo21⟩ := Kd.R_slice HO303.out
    (first | subst eo21 | (injection eo21 with f1_ f2_ f3_; have f4_ := f1_.symm; have f5_ := f3_.symm; clear f1_ f2_ f3_; subst f4_; subst f5_))
    refine norm_ (a' := ?_) ?_ ?_
    rotate_left
    ·simp only [putAll, Act.put, sA_, sZ_, sS_]
     rfl
    refine one_ (i := 6) (N := some 21) #[true, true, true, true, true, true, true, false] rfl rfl (one_of HT_.out (by kernel_rfl)) (by decide) (fun K hK => ?_)
    refine Kd.Rars Kd.string (w0 := w) w.heap.size (by rfl) (.tmp 17) (.tmp 20) 45 9 (.string ⟨#[]⟩) 16 rfl Tryd.underlying45 info9 rfl (by decide) (by omega) v299 y298 t301 _ _ _ (fun k_ => some k_ ≠ (.slice Ao21 t301.length co21 : Value).ownBlock) (fun _ => False) rfl rfl ?aO ?aR (fun _ _ h => h) (fun _ h => h.elim) ?aF ?aB ?aS ?aL ?_
    (case aR => repeat (first | exact (Kd.R_reads' HO303.out).2.2 | (with_reducible refine Kd.C_alloc ?_ _) | (with_reducible refine Kd.C_drewN ?_ _) | (with_reducible refine Kd.C_drew ?_)))
    (case aB => exact (by repeat (first | (with_reducible first | exact HB.out | apply lA_ | apply pD | apply lD_ | refine lS_ ?_ GE291.out) | exact HB.out)))
    (case aF => exact (fun k_ hk => Kd.fresh' (Kd.R_lt (by (with_reducible repeat (first | apply Kd.R_alloc | apply Kd.R_drewN | apply Kd.R_drew)); exact HO303.out)) k_ hk))
    (case aO => exact (by (with_reducible repeat (first | apply Kd.R_alloc | apply Kd.R_drewN | apply Kd.R_drew)); exact HO300.out))
    (case aS => exact (lZ_ (by repeat (first | (with_reducible first | exact HB.out | apply lA_ | apply pD | apply lD_ | refine lS_ ?_ GE291.out) | exact HB.out))))
    (case aL => have := LMc12.out; omega)
    intro v305 w20 ho hb hg hat
    rw [← Ny304.out] at ho
    have n0_ := aK_ (bG_ (g := gb291) (o := .cells #[.int .i64 a0_0, .string a0_1, .slice A0_2 l0_2.length c0_2, .int .i64 a0_3, .int .i64 a0_4, .string a0_5, .int .i64 a0_6, .int .i64 a0_7, .string a0_8, .int .i64 a0_9, .string a0_10, .int .i64 a0_11, .string a0_12, .int .i64 a0_13, .int .i64 a0_14, .slice A0_15 l0_15.length c0_15] 59 (0, 0)) (by (with_reducible repeat (first | refine bDN ?_ _ | refine bD ?_ | refine bA ?_ _)); exact BK291.out) hg (Kd.R_ne HO300.out BK291.out (by decide)))
    have n1_ := aK_ (Kd.R_after (ok := (fun _ => True)) (by (with_reducible repeat (first | apply Kd.R_alloc | apply Kd.R_drewN | apply Kd.R_drew)); exact Kd.R_mono HO303.out (fun _ hk => ⟨trivial, hk⟩)) hg hat)
    have n2_ := aK_ (hb)
    have n3_ := aK_ (ho)
    clear BK291
    clear HO303
    clear HB
    clear HO300
    have BK291 := n0_
    have HO303 := n1_
    have HB := n2_
    have HO306 := n3_
    clear n0_ n1_ n2_ n3_
    clear ho hb hg hat
    refine hK.out _ _ ⟨(bC BK291.out 0).trans rfl, (bC BK291.out 1).trans rfl, (bC BK291.out 2).trans rfl, (bC BK291.out 3).trans rfl, (bC BK291.out 4).trans rfl, (bC BK291.out 5).trans rfl, (bC BK291.out 6).trans rfl, (bC BK291.out 7).trans rfl, (bC BK291.out 8).trans rfl, (bC BK291.out 9).trans rfl, (bC BK291.out 10).trans rfl, (bC BK291.out 11).trans rfl, (bC BK291.out 12).trans rfl, (bC BK291.out 13).trans rfl, (bC BK291.out 14).trans rfl, (bC BK291.out 15).trans rfl⟩ (fun hHeld => ?_)
    clear hK K
    refine norm_ (a' := ?_) ?_ ?_
    rotate_left
    ·show Act.put _ (some 21) _ = _
     simp only [Act.put, sA_, sZ_, sS_, i64_w, i32_w]
     rfl
    refine pure_ (i := 7) (N := some 2) (v := ?_) (a' := ?_) #[true, true, true, true, true, true, true, true] rfl rfl (any_of HT_.out (by kernel_rfl)) (fun _ _ _ h => h) (Or.inl ⟨by rfl, ?_⟩) ?_ ?_
    rotate_left
    ·intro w'
     go_simp
     with_reducible rfl
    rotate_left
    ·simp only [Act.put, sA_, sZ_, sS_, i64_w, i32_w]
     rfl
    refine done_ (done_of HT_.out (by kernel_rfl)) ?_
    try go_wp2
    go_ret
    exact ⟨_, by first | rfl | (simp [errW_none, errW_some] <;> rfl) | (simp [*, errW_none, errW_some] <;> rfl), by (with_reducible repeat (first | apply Kd.R_alloc | apply Kd.R_drewN | apply Kd.R_drew)); exact Kd.R_mono HO306.out (fun _ hk => trivial), by repeat (first | (with_reducible first | exact HB.out | apply lA_ | apply pD | apply lD_ | refine lS_ ?_ GE291.out) | exact HB.out)⟩
   ·rw [if_neg c12] at H
    exact absurd H (by simp)
  ·rw [if_neg c10] at H
   have c10b0 : (a0_0 == 3) = false := beq_eq_false_iff_ne.mpr c10
   have c10b1 : (a0_0 != 3) = true := bne_iff_ne.mpr c10
   replace H := Option.bind_eq_some_iff.mp H
   obtain ⟨t307, A220, H⟩ := H
   replace H : (some t307) = some r := H
   have A22 := aK_ A220
   clear A220
   obtain rfl := Option.some.inj H
   go_enter Tryd.func16, Tryd.ntmps16
   go_wp2_with (first | ((with_reducible refine gate_dst (N := 1) rfl ?_); refine box_event ?hg (N := 1) ?hd (cs := #[.int .i64 a0_0, .string a0_1, .slice A0_2 l0_2.length c0_2, .int .i64 a0_3, .int .i64 a0_4, .string a0_5, .int .i64 a0_6, .int .i64 a0_7, .string a0_8, .int .i64 a0_9, .string a0_10, .int .i64 a0_11, .string a0_12, .int .i64 a0_13, .int .i64 a0_14, .slice A0_15 l0_15.length c0_15]) (t := 59) ?hr ?_; (case hd => rfl); (case hg => rfl); (case hr => first | (go_simp; done) | (go_simp; rfl)); intro gb291 hg w23 hbox hb; have n0_ := aK_ (lT_ (by repeat (first | (with_reducible first | exact HB.out | apply lA_ | apply pD | apply lD_) | exact HB.out)) hb); have n1_ := aK_ (hbox); have n2_ := aK_ ((by rw [hg]; exact (lZ_ (by repeat (first | (with_reducible first | exact HB.out | apply lA_ | apply pD | apply lD_) | exact HB.out))) : w.heap.size ≤ gb291)); have n3_ := aK_ ((by rw [hg]; exact (lZ_ (by repeat (first | (with_reducible first | exact HB.out | apply lA_ | apply pD | apply lD_) | exact HB.out))) : w.heap.size ≤ gb291)); clear HB; have HB := n0_; have BK291 := n1_; have GW291 := n2_; have GE291 := n3_; clear n0_ n1_ n2_ n3_; clear hb hbox hg; have hcz24_0 : w23.cell? ⟨gb291, 0, none⟩ = some (.int .i64 a0_0) := (bC BK291.out 0).trans rfl; have hcz24_1 : w23.cell? ⟨gb291, 1, none⟩ = some (.string a0_1) := (bC BK291.out 1).trans rfl; have hcz24_2 : w23.cell? ⟨gb291, 2, none⟩ = some (.slice A0_2 l0_2.length c0_2) := (bC BK291.out 2).trans rfl; have hcz24_3 : w23.cell? ⟨gb291, 3, none⟩ = some (.int .i64 a0_3) := (bC BK291.out 3).trans rfl; have hcz24_4 : w23.cell? ⟨gb291, 4, none⟩ = some (.int .i64 a0_4) := (bC BK291.out 4).trans rfl; have hcz24_5 : w23.cell? ⟨gb291, 5, none⟩ = some (.string a0_5) := (bC BK291.out 5).trans rfl; have hcz24_6 : w23.cell? ⟨gb291, 6, none⟩ = some (.int .i64 a0_6) := (bC BK291.out 6).trans rfl; have hcz24_7 : w23.cell? ⟨gb291, 7, none⟩ = some (.int .i64 a0_7) := (bC BK291.out 7).trans rfl; have hcz24_8 : w23.cell? ⟨gb291, 8, none⟩ = some (.string a0_8) := (bC BK291.out 8).trans rfl; have hcz24_9 : w23.cell? ⟨gb291, 9, none⟩ = some (.int .i64 a0_9) := (bC BK291.out 9).trans rfl; have hcz24_10 : w23.cell? ⟨gb291, 10, none⟩ = some (.string a0_10) := (bC BK291.out 10).trans rfl; have hcz24_11 : w23.cell? ⟨gb291, 11, none⟩ = some (.int .i64 a0_11) := (bC BK291.out 11).trans rfl; have hcz24_12 : w23.cell? ⟨gb291, 12, none⟩ = some (.string a0_12) := (bC BK291.out 12).trans rfl; have hcz24_13 : w23.cell? ⟨gb291, 13, none⟩ = some (.int .i64 a0_13) := (bC BK291.out 13).trans rfl; have hcz24_14 : w23.cell? ⟨gb291, 14, none⟩ = some (.int .i64 a0_14) := (bC BK291.out 14).trans rfl; have hcz24_15 : w23.cell? ⟨gb291, 15, none⟩ = some (.slice A0_15 l0_15.length c0_15) := (bC BK291.out 15).trans rfl; have hfz24_0 := bF BK291.out 0; have hfz24_1 := bF BK291.out 1; have hfz24_2 := bF BK291.out 2; have hfz24_3 := bF BK291.out 3; have hfz24_4 := bF BK291.out 4; have hfz24_5 := bF BK291.out 5; have hfz24_6 := bF BK291.out 6; have hfz24_7 := bF BK291.out 7; have hfz24_8 := bF BK291.out 8; have hfz24_9 := bF BK291.out 9; have hfz24_10 := bF BK291.out 10; have hfz24_11 := bF BK291.out 11; have hfz24_12 := bF BK291.out 12; have hfz24_13 := bF BK291.out 13; have hfz24_14 := bF BK291.out 14; have hfz24_15 := bF BK291.out 15) | ((with_reducible refine gate_callee (f := 12) rfl ?_); refine goesL_ (some 25) rfl rfl Tryd.func12 (by kernel_rfl) rfl #[.slice A0_2 l0_2.length c0_2] rfl (by (try simp only [List.map_toArray, List.map_cons, List.map_nil]); first | done | rfl | (simp only [List.length_drop, List.length_take]; rfl)) ?_; (with_reducible refine (ergolaw13_names.calls k _ _ l0_2 t307 _ ?side1 ?side2 A22.out).mono ?_); (case side1 => repeat (first | exact (Kd.C_below HR0_2.out HB.out) | (with_reducible refine Kd.C_alloc ?_ _) | (with_reducible refine Kd.C_drewN ?_ _) | (with_reducible refine Kd.C_drew ?_))); (case side2 => exact HC0_2.out); rintro e w25 ⟨v308, rfl, ho0, hb⟩; refine ⟨_, rfl, ?_⟩; have n0_ := aK_ (Kd.R_lower ho0 (lZ_ (by repeat (first | (with_reducible first | exact HB.out | apply lA_ | apply pD | apply lD_ | refine lS_ ?_ GE291.out) | exact HB.out)))); have n1_ := aK_ (bB (by (with_reducible repeat (first | refine bDN ?_ _ | refine bD ?_ | refine bA ?_ _)); exact BK291.out) hb); have n2_ := aK_ (lT_ (by repeat (first | (with_reducible first | exact HB.out | apply lA_ | apply pD | apply lD_ | refine lS_ ?_ GE291.out) | exact HB.out)) hb); clear BK291; clear HB; have HO309 := n0_; have BK291 := n1_; have HB := n2_; clear n0_ n1_ n2_; (try clear hb); (try clear hb2); (try clear hk); (try clear hi); (try clear ho0)))
   go_ret
   exact ⟨_, by first | rfl | (simp [errW_none, errW_some] <;> rfl) | (simp [*, errW_none, errW_some] <;> rfl), by (with_reducible repeat (first | apply Kd.R_alloc | apply Kd.R_drewN | apply Kd.R_drew)); exact HO309.out, by repeat (first | (with_reducible first | exact HB.out | apply lA_ | apply pD | apply lD_ | refine lS_ ?_ GE291.out) | exact HB.out)⟩
def slices_Index_string_string.l0 : Nat → List ByteArray → ByteArray → Int → Int → Option (Int)
 | 0, _, _, _, _ => none
 | k + 1, x0, x1, x7, x8 => if x8 < x7 then (if 0 ≤ x8 then (if x8 < (x0.length : Int) then (if x1.toList = (rdOf ByteArray.empty x0 x8).toList then (some x8) else (slices_Index_string_string.l0 k x0 x1 x7 (wrap64 (x8 + 1)))) else (none)) else (none)) else (some (-1))
def slices_Index_string_string.f (k : Nat) (l0 : List ByteArray) (a1 : ByteArray) : Option (Int) := slices_Index_string_string.l0 k l0 a1 (l0.length : Int) 0
theorem slices_Index_string_string.mono_l : ∀ k, (∀ y0 y1 y2 y3, LeO (slices_Index_string_string.l0 k y0 y1 y2 y3) (slices_Index_string_string.l0 (k + 1) y0 y1 y2 y3))
 | 0 => fun _ _ _ _ r h => by simp [slices_Index_string_string.l0] at h
 | k + 1 => by
  have ih0 := slices_Index_string_string.mono_l k
  ·intro y0 y1 y2 y3
   unfold slices_Index_string_string.l0
   repeat' first
   | (with_reducible exact ih0 _ _ _ _)
   | (with_reducible exact LeO.refl _)
   | (with_reducible exact LeO.none _)
   | (with_reducible refine LeO.ite ?_ ?_)
   | (with_reducible refine LeO.bind ?_ (fun _ => ?_))
   | exact ih0 _ _ _ _
   | exact LeO.none _
   | refine LeO.ite ?_ ?_
   | refine LeO.bind ?_ (fun _ => ?_)
theorem slices_Index_string_string.mono : ∀ a0 a1 k, LeO (slices_Index_string_string.f k a0 a1) (slices_Index_string_string.f (k + 1) a0 a1) := by
 intro a0 a1 k
 have ih0 := slices_Index_string_string.mono_l k
 unfold slices_Index_string_string.f
 repeat' first
   | (with_reducible exact ih0 _ _ _ _)
   | (with_reducible exact LeO.refl _)
   | (with_reducible exact LeO.none _)
   | (with_reducible refine LeO.ite ?_ ?_)
   | (with_reducible refine LeO.bind ?_ (fun _ => ?_))
   | exact ih0 _ _ _ _
   | exact LeO.none _
   | refine LeO.ite ?_ ?_
   | refine LeO.bind ?_ (fun _ => ?_)
set_option maxHeartbeats 8000000 in
set_option maxRecDepth 100000 in
theorem slices_Index_string_string.calls (k : Nat) (A0 : Option Addr) (c0 : Nat) (l0 : List ByteArray) (a1 : ByteArray) (r : Int) (w : World) (hr0 : Kd.C Kd.string w A0 l0.length l0) (hc0 : l0.length ≤ c0) (h : slices_Index_string_string.f k l0 a1 = some r) :
  Calls Tryd.prog 55 #[.slice A0 l0.length c0, .string a1] w fun e w' => e = .returned (.int .i64 r) ∧ Drawn0 w w' := by
 have HR0 := aK_ hr0
 have HC0 := aK_ hc0
 clear hr0 hc0
 have H : (slices_Index_string_string.l0 k l0 a1 (l0.length : Int) 0) = some r := h
 clear h
 have H' := aK_ H
 clear H
 go_enter Tryd.func55, Tryd.ntmps55
 go_wp2
 go_loopg [8] k (fun kq v8 w' => ∃ (x8_1 : Int), v8 = .int .i64 x8_1 ∧ Aside0 (slices_Index_string_string.l0 kq l0 a1 (l0.length : Int) x8_1 = some r) ∧ Aside0 (kq ≤ k) ∧ Drawn0 w w')
 case atStart => exact ⟨(0), (by first | rfl | (simp; done) | (simp [*]; done)), H', ⟨Nat.le_refl _⟩, by repeat (first | exact Drawn0.refl _ | apply Drawn0.step)⟩
 case round =>
  clear H'
  try clear p2
  obtain ⟨x8_1, rfl, HA, HK1, ⟨m1, rfl⟩⟩ := hrel
  cases gk with
  | zero => exact absurd HA.out (by simp [slices_Index_string_string.l0])
  | succ k1 =>
   have H := HA.out
   clear HA
   simp only [slices_Index_string_string.l0] at H
   by_cases c3 : x8_1 < (l0.length : Int)
   ·rw [if_pos c3] at H
    have c3b0 : decide (x8_1 < (l0.length : Int)) = true := decide_eq_true c3
    clear c3
    by_cases c4 : 0 ≤ x8_1
    ·rw [if_pos c4] at H
     have c4b0 : decide (0 ≤ x8_1) = true := decide_eq_true c4
     clear c4
     by_cases c5 : x8_1 < (l0.length : Int)
     ·rw [if_pos c5] at H
      have c5b0 : decide (x8_1 < (l0.length : Int)) = true := decide_eq_true c5
      clear c5
      by_cases c6 : a1.toList = (rdOf ByteArray.empty l0 x8_1).toList
      ·rw [if_pos c6] at H
       have c6b0 : (a1.toList == (rdOf ByteArray.empty l0 x8_1).toList) = true := beq_iff_eq.mpr c6
       have c6b1 : (a1.toList != (rdOf ByteArray.empty l0 x8_1).toList) = false := bne_eq_false_iff_eq.mpr c6
       clear c6
       obtain rfl := Option.some.inj H
       have p310 : 0 ≤ (x8_1 : Int) := of_decide_eq_true (by first | (with_reducible assumption) | assumption)
       have q310 : x8_1 < (l0.length : Int) := of_decide_eq_true (by first | (with_reducible assumption) | assumption)
       obtain ⟨ad310, e310, hx310_0⟩ := Kd.at_string HR0.out x8_1 p310 q310
       cases e310
       replace p310 := eq_true p310
       replace q310 := eq_true q310
       go_wp2
       go_ret
       exact ⟨by first | rfl | (simp; done) | (simp [*]; done), by repeat (first | exact Drawn0.refl _ | apply Drawn0.step)⟩
      ·rw [if_neg c6] at H
       have c6b0 : (a1.toList == (rdOf ByteArray.empty l0 x8_1).toList) = false := beq_eq_false_iff_ne.mpr c6
       have c6b1 : (a1.toList != (rdOf ByteArray.empty l0 x8_1).toList) = true := bne_iff_ne.mpr c6
       have H' := aK_ H
       clear H
       have p310 : 0 ≤ (x8_1 : Int) := of_decide_eq_true (by first | (with_reducible assumption) | assumption)
       have q310 : x8_1 < (l0.length : Int) := of_decide_eq_true (by first | (with_reducible assumption) | assumption)
       obtain ⟨ad310, e310, hx310_0⟩ := Kd.at_string HR0.out x8_1 p310 q310
       cases e310
       replace p310 := eq_true p310
       replace q310 := eq_true q310
       go_wp2
       go_roundg k1
       case measure => have := HK1.out; omega
       case rel => exact ⟨(wrap64 (x8_1 + 1)), (by first | rfl | (simp; done) | (simp [*]; done)), H', ⟨by have := HK1.out; omega⟩, by repeat (first | exact Drawn0.refl _ | apply Drawn0.step)⟩
     ·rw [if_neg c5] at H
      exact absurd H (by simp)
    ·rw [if_neg c4] at H
     exact absurd H (by simp)
   ·rw [if_neg c3] at H
    have c3b0 : decide (x8_1 < (l0.length : Int)) = false := decide_eq_false c3
    clear c3
    obtain rfl := Option.some.inj H
    go_wp2
    go_ret
    exact ⟨by first | rfl | (simp; done) | (simp [*]; done), by repeat (first | exact Drawn0.refl _ | apply Drawn0.step)⟩
def slices_Contains_string_string.f (k : Nat) (l0 : List ByteArray) (a1 : ByteArray) : Option (Bool) := (slices_Index_string_string.f k l0 a1).bind fun t311 => (some (decide (t311 ≥ 0)))
theorem slices_Contains_string_string.mono : ∀ a0 a1 k, LeO (slices_Contains_string_string.f k a0 a1) (slices_Contains_string_string.f (k + 1) a0 a1) := by
 intro a0 a1 k
 unfold slices_Contains_string_string.f
 repeat' first
   | (with_reducible exact slices_Index_string_string.mono _ _ _)
   | (with_reducible exact LeO.refl _)
   | (with_reducible exact LeO.none _)
   | (with_reducible refine LeO.ite ?_ ?_)
   | (with_reducible refine LeO.bind ?_ (fun _ => ?_))
   | exact slices_Index_string_string.mono _ _ _
   | exact LeO.none _
   | refine LeO.ite ?_ ?_
   | refine LeO.bind ?_ (fun _ => ?_)
set_option maxHeartbeats 8000000 in
set_option maxRecDepth 100000 in
theorem slices_Contains_string_string.calls (k : Nat) (A0 : Option Addr) (c0 : Nat) (l0 : List ByteArray) (a1 : ByteArray) (r : Bool) (w : World) (hr0 : Kd.C Kd.string w A0 l0.length l0) (hc0 : l0.length ≤ c0) (h : slices_Contains_string_string.f k l0 a1 = some r) :
  Calls Tryd.prog 35 #[.slice A0 l0.length c0, .string a1] w fun e w' => e = .returned (.bool r) ∧ Drawn0 w w' := by
 have HR0 := aK_ hr0
 have HC0 := aK_ hc0
 clear hr0 hc0
 have H : ((slices_Index_string_string.f k l0 a1).bind fun t311 => (some (decide (t311 ≥ 0)))) = some r := h
 clear h
 replace H := Option.bind_eq_some_iff.mp H
 obtain ⟨t311, A30, H⟩ := H
 replace H : (some (decide (t311 ≥ 0))) = some r := H
 have A3 := aK_ A30
 clear A30
 obtain rfl := Option.some.inj H
 go_enter Tryd.func35, Tryd.ntmps35
 go_wp2_with (first | ((with_reducible refine gate_callee (f := 55) rfl ?_); refine goesL_ (some 7) rfl rfl Tryd.func55 (by kernel_rfl) rfl #[.slice A0 l0.length c0, .string a1] rfl (by (try simp only [List.map_toArray, List.map_cons, List.map_nil]); first | done | rfl | (simp only [List.length_drop, List.length_take]; rfl)) ?_; (with_reducible refine (slices_Index_string_string.calls k _ _ l0 a1 t311 _ ?side1 ?side2 A3.out).mono ?_); (case side1 => repeat (first | exact HR0.out | (with_reducible refine Kd.C_alloc ?_ _) | (with_reducible refine Kd.C_drewN ?_ _) | (with_reducible refine Kd.C_drew ?_))); (case side2 => exact HC0.out); rintro e w' ⟨rfl, ⟨nd, rfl⟩⟩; refine ⟨_, rfl, ?_⟩))
 go_ret
 exact ⟨by first | rfl | (simp; done) | (simp [*]; done), by repeat (first | exact Drawn0.refl _ | apply Drawn0.step)⟩
mutual
def syntax_Rule_Vars.l0 : Nat → List ByteArray → List (S59) → Int → Int → Option (List ByteArray)
 | 0, _, _, _, _ => none
 | k + 1, x3, x13, x14, x15 => if x15 < x14 then (if 0 ≤ x15 then (if x15 < (x13.length : Int) then ((syntax_Part_Vars.f k ((rd_T59 x13 x15).f0) ((rd_T59 x13 x15).f1.f0) ((rd_T59 x13 x15).f1.f1) ((rd_T59 x13 x15).f2) ((rd_T59 x13 x15).f3.f0) ((rd_T59 x13 x15).f3.f1) ((rd_T59 x13 x15).f3.f2) ((rd_T59 x13 x15).f4.f0) ((rd_T59 x13 x15).f4.f1) ((rd_T59 x13 x15).f4.f2) ((rd_T59 x13 x15).f5) ((rd_T59 x13 x15).f6.f0.f0) ((rd_T59 x13 x15).f6.f0.f1) ((rd_T59 x13 x15).f6.f0.f2) ((rd_T59 x13 x15).f6.f1) ((rd_T59 x13 x15).f6.f2)).bind fun t318 => (if x3.length + t318.length < 8796093022208 then (syntax_Rule_Vars.l0 k (x3 ++ t318) x13 x14 (wrap64 (x15 + 1))) else (none))) else (none)) else (none)) else (syntax_Rule_Vars.l1 k ([] : List ByteArray) x3 (x3.length : Int) 0)
def syntax_Rule_Vars.l1 : Nat → List ByteArray → List ByteArray → Int → Int → Option (List ByteArray)
 | 0, _, _, _, _ => none
 | k + 1, x6, x24, x25, x26 => if x26 < x25 then (if 0 ≤ x26 then (if x26 < (x24.length : Int) then ((slices_Contains_string_string.f k x6 (rdOf ByteArray.empty x24 x26)).bind fun t325 => (if t325 = true then (syntax_Rule_Vars.l1 k x6 x24 x25 (wrap64 (x26 + 1))) else (if x6.length < 8796093022208 then (syntax_Rule_Vars.l1 k (x6 ++ [rdOf ByteArray.empty x24 x26]) x24 x25 (wrap64 (x26 + 1))) else (none)))) else (none)) else (none)) else (some x6)
end
def syntax_Rule_Vars.f (k : Nat) (a0_0 : ByteArray) (l0_1 : List (S53)) (a0_2 : Int) (l0_3 : List (S59)) (a0_4 : Int) : Option (List ByteArray) := (syntax_Atom_Vars.f k a0_0 l0_1).bind fun t313 => (syntax_Rule_Vars.l0 k t313 l0_3 (l0_3.length : Int) 0)
set_option maxHeartbeats 8000000 in
set_option maxRecDepth 100000 in
theorem syntax_Rule_Vars.calls (k : Nat) (a0_0 : ByteArray) (A0_1 : Option Addr) (c0_1 : Nat) (l0_1 : List (S53)) (a0_2 : Int) (A0_3 : Option Addr) (c0_3 : Nat) (l0_3 : List (S59)) (a0_4 : Int) (r : List ByteArray) (w : World) (hr0_1 : Kd.C k53 w A0_1 l0_1.length l0_1) (hc0_1 : l0_1.length ≤ c0_1) (hr0_3 : Kd.C k59 w A0_3 l0_3.length l0_3) (hc0_3 : l0_3.length ≤ c0_3) (h : syntax_Rule_Vars.f k a0_0 l0_1 a0_2 l0_3 a0_4 = some r) :
  Calls Tryd.prog 19 #[.agg #[.string a0_0, .slice A0_1 l0_1.length c0_1, .int .i64 a0_2, .slice A0_3 l0_3.length c0_3, .int .i64 a0_4]] w fun e w' => ∃ v0_ : Value, e = .returned (v0_) ∧ Kd.R Kd.string 9 w' w.heap.size (fun _ => True) v0_ r ∧ Below w.heap.size w w' := by
 have hu43 := Tryd.underlying43
 have hu39 := Tryd.underlying39
 have hu59 := Tryd.underlying59
 have HR0_1 := aK_ hr0_1
 have HC0_1 := aK_ hc0_1
 clear hr0_1 hc0_1
 have HR0_3 := aK_ hr0_3
 have HC0_3 := aK_ hc0_3
 clear hr0_3 hc0_3
 have HB := aK_ (Below.refl w.heap.size w)
 have H : ((syntax_Atom_Vars.f k a0_0 l0_1).bind fun t313 => (syntax_Rule_Vars.l0 k t313 l0_3 (l0_3.length : Int) 0)) = some r := h
 clear h
 replace H := Option.bind_eq_some_iff.mp H
 obtain ⟨t313, A20, H⟩ := H
 replace H : (syntax_Rule_Vars.l0 k t313 l0_3 (l0_3.length : Int) 0) = some r := H
 have A2 := aK_ A20
 clear A20
 have H' := aK_ H
 clear H
 go_enter Tryd.func19, Tryd.ntmps19
 go_wp2_with (first | ((with_reducible refine gate_dst (N := 1) rfl ?_); refine box_event ?hg (N := 1) ?hd (cs := #[.string a0_0, .slice A0_1 l0_1.length c0_1, .int .i64 a0_2, .slice A0_3 l0_3.length c0_3, .int .i64 a0_4]) (t := 43) ?hr ?_; (case hd => rfl); (case hg => rfl); (case hr => first | (go_simp; done) | (go_simp; rfl)); intro gb312 hg w3 hbox hb; have n0_ := aK_ (lT_ (by repeat (first | (with_reducible first | exact HB.out | apply lA_ | apply pD | apply lD_) | exact HB.out)) hb); have n1_ := aK_ (hbox); have n2_ := aK_ ((by rw [hg]; exact (lZ_ (by repeat (first | (with_reducible first | exact HB.out | apply lA_ | apply pD | apply lD_) | exact HB.out))) : w.heap.size ≤ gb312)); have n3_ := aK_ ((by rw [hg]; exact (lZ_ (by repeat (first | (with_reducible first | exact HB.out | apply lA_ | apply pD | apply lD_) | exact HB.out))) : w.heap.size ≤ gb312)); clear HB; have HB := n0_; have BK312 := n1_; have GW312 := n2_; have GE312 := n3_; clear n0_ n1_ n2_ n3_; clear hb hbox hg; have hcz4_0 : w3.cell? ⟨gb312, 0, none⟩ = some (.string a0_0) := (bC BK312.out 0).trans rfl; have hcz4_1 : w3.cell? ⟨gb312, 1, none⟩ = some (.slice A0_1 l0_1.length c0_1) := (bC BK312.out 1).trans rfl; have hcz4_2 : w3.cell? ⟨gb312, 2, none⟩ = some (.int .i64 a0_2) := (bC BK312.out 2).trans rfl; have hcz4_3 : w3.cell? ⟨gb312, 3, none⟩ = some (.slice A0_3 l0_3.length c0_3) := (bC BK312.out 3).trans rfl; have hcz4_4 : w3.cell? ⟨gb312, 4, none⟩ = some (.int .i64 a0_4) := (bC BK312.out 4).trans rfl; have hfz4_0 := bF BK312.out 0; have hfz4_1 := bF BK312.out 1; have hfz4_2 := bF BK312.out 2; have hfz4_3 := bF BK312.out 3; have hfz4_4 := bF BK312.out 4) | ((with_reducible refine gate_callee (f := 14) rfl ?_); refine goesL_ (some 11) rfl rfl Tryd.func14 (by kernel_rfl) rfl #[.agg #[.string a0_0, .slice A0_1 l0_1.length c0_1]] rfl (by (try simp only [List.map_toArray, List.map_cons, List.map_nil]); first | done | rfl | (simp only [List.length_drop, List.length_take]; rfl)) ?_; (with_reducible refine (syntax_Atom_Vars.calls k a0_0 _ _ l0_1 t313 _ ?side1 ?side2 A2.out).mono ?_); (case side1 => repeat (first | exact (Kd.C_below HR0_1.out HB.out) | (with_reducible refine Kd.C_alloc ?_ _) | (with_reducible refine Kd.C_drewN ?_ _) | (with_reducible refine Kd.C_drew ?_))); (case side2 => exact HC0_1.out); rintro e w5 ⟨v314, rfl, ho0, hb⟩; refine ⟨_, rfl, ?_⟩; have n0_ := aK_ (Kd.R_lower ho0 (lZ_ (by repeat (first | (with_reducible first | exact HB.out | apply lA_ | apply pD | apply lD_ | refine lS_ ?_ GE312.out) | exact HB.out)))); have n1_ := aK_ (bB (by (with_reducible repeat (first | refine bDN ?_ _ | refine bD ?_ | refine bA ?_ _)); exact BK312.out) hb); have n2_ := aK_ (lT_ (by repeat (first | (with_reducible first | exact HB.out | apply lA_ | apply pD | apply lD_ | refine lS_ ?_ GE312.out) | exact HB.out)) hb); clear BK312; clear HB; have HO315 := n0_; have BK312 := n1_; have HB := n2_; clear n0_ n1_ n2_; (try clear hb); (try clear hb2); (try clear hk); (try clear hi); (try clear ho0); have hcz6_0 : w5.cell? ⟨gb312, 0, none⟩ = some (.string a0_0) := (bC BK312.out 0).trans rfl; have hcz6_1 : w5.cell? ⟨gb312, 1, none⟩ = some (.slice A0_1 l0_1.length c0_1) := (bC BK312.out 1).trans rfl; have hcz6_2 : w5.cell? ⟨gb312, 2, none⟩ = some (.int .i64 a0_2) := (bC BK312.out 2).trans rfl; have hcz6_3 : w5.cell? ⟨gb312, 3, none⟩ = some (.slice A0_3 l0_3.length c0_3) := (bC BK312.out 3).trans rfl; have hcz6_4 : w5.cell? ⟨gb312, 4, none⟩ = some (.int .i64 a0_4) := (bC BK312.out 4).trans rfl; have hfz6_0 := bF BK312.out 0; have hfz6_1 := bF BK312.out 1; have hfz6_2 := bF BK312.out 2; have hfz6_3 := bF BK312.out 3; have hfz6_4 := bF BK312.out 4))
 go_loopg [3, 15] k (fun kq v3 v15 w' => ∃ (x3_1 : List ByteArray) (x15_1 : Int), v15 = .int .i64 x15_1 ∧ Aside0 (syntax_Rule_Vars.l0 kq x3_1 l0_3 (l0_3.length : Int) x15_1 = some r) ∧ Aside0 (kq ≤ k) ∧ Aside0 (Kd.R Kd.string 9 w' w.heap.size (fun _ => True) v3 x3_1) ∧ Aside0 (w'.heap[gb312]? = some (.cells #[.string a0_0, (.slice A0_1 l0_1.length c0_1), .int .i64 a0_2, (.slice A0_3 l0_3.length c0_3), .int .i64 a0_4] 43 (0, 0))) ∧ Aside0 (Below w.heap.size w w'))
 case atStart => exact ⟨(t313), (0), (by first | rfl | (simp; done) | (simp [*]; done)), H', ⟨Nat.le_refl _⟩, ⟨by (with_reducible repeat (first | apply Kd.R_alloc | apply Kd.R_drewN | apply Kd.R_drew)); exact HO315.out⟩, ⟨by (with_reducible repeat (first | refine bDN ?_ _ | refine bD ?_ | refine bA ?_ _)); exact BK312.out⟩, ⟨by repeat (first | (with_reducible first | exact HB.out | apply lA_ | apply pD | apply lD_ | refine lS_ ?_ GE312.out) | exact HB.out)⟩⟩
 case round =>
  clear H'
  try clear c1
  try clear p2
  try clear hcz4_0
  try clear hcz4_1
  try clear hcz4_2
  try clear hcz4_3
  try clear hcz4_4
  try clear hcz6_0
  try clear hcz6_1
  try clear hcz6_2
  try clear hcz6_3
  try clear hcz6_4
  try clear hfz4_0
  try clear hfz4_1
  try clear hfz4_2
  try clear hfz4_3
  try clear hfz4_4
  try clear hfz6_0
  try clear hfz6_1
  try clear hfz6_2
  try clear hfz6_3
  try clear hfz6_4
  obtain ⟨x3_1, x15_1, rfl, HA, HK1, HO_3, BK312, HB⟩ := hrel
  cases gk with
  | zero => exact absurd HA.out (by simp [syntax_Rule_Vars.l0])
  | succ k1 =>
   have H := HA.out
   clear HA
   simp only [syntax_Rule_Vars.l0] at H
   by_cases c7 : x15_1 < (l0_3.length : Int)
   ·rw [if_pos c7] at H
    have c7b0 : decide (x15_1 < (l0_3.length : Int)) = true := decide_eq_true c7
    clear c7
    by_cases c8 : 0 ≤ x15_1
    ·rw [if_pos c8] at H
     have c8b0 : decide (0 ≤ x15_1) = true := decide_eq_true c8
     clear c8
     by_cases c9 : x15_1 < (l0_3.length : Int)
     ·rw [if_pos c9] at H
      have c9b0 : decide (x15_1 < (l0_3.length : Int)) = true := decide_eq_true c9
      clear c9
      replace H := Option.bind_eq_some_iff.mp H
      obtain ⟨t318, A100, H⟩ := H
      replace H : (if x3_1.length + t318.length < 8796093022208 then (syntax_Rule_Vars.l0 k1 (x3_1 ++ t318) l0_3 (l0_3.length : Int) (wrap64 (x15_1 + 1))) else (none)) = some r := H
      have A10 := aK_ A100
      clear A100
      by_cases c11 : x3_1.length + t318.length < 8796093022208
      ·rw [if_pos c11] at H
       have LMc11 := aK_ c11
       clear c11
       obtain ⟨y321, hy321⟩ : ∃ y_ : List ByteArray, y_ = (x3_1 ++ t318) := ⟨_, rfl⟩
       replace H : (syntax_Rule_Vars.l0 k1 y321 l0_3 (l0_3.length : Int) (wrap64 (x15_1 + 1))) = some r := by first | (rw [hy321]; with_reducible exact H) | (have H2_ := (Option.bind_some _ _).symm.trans H; rw [hy321]; with_reducible exact H2_) | (have H2_ := (Option.bind_some _ _).symm.trans H; with_reducible exact H2_) | with_reducible exact H | (rw [hy321]; exact H) | exact H
       have Ny321 := aK_ hy321
       clear hy321
       have H' := aK_ H
       clear H
       have p316 : 0 ≤ (x15_1 : Int) := of_decide_eq_true (by first | (with_reducible assumption) | assumption)
       have q316 : x15_1 < (l0_3.length : Int) := of_decide_eq_true (by first | (with_reducible assumption) | assumption)
       obtain ⟨ad316, A316_2, c316_2, A316_15, c316_15, e316, hx316_0, hx316_1, hx316_2, hx316_3, hx316_4, hx316_5, hx316_6, hx316_7, hx316_8, hx316_9, hx316_10, hx316_11, hx316_12, hx316_13, hx316_14, hx316_15, hl316_2, hi316_2, hl316_15, hi316_15⟩ := at_T59 HR0_3.out x15_1 p316 q316
       cases e316
       replace hx316_0 := (HB.out.cell (wb_ w _ hx316_0)).trans hx316_0
       replace hx316_1 := (HB.out.cell (wb_ w _ hx316_1)).trans hx316_1
       replace hx316_2 := (HB.out.cell (wb_ w _ hx316_2)).trans hx316_2
       replace hx316_3 := (HB.out.cell (wb_ w _ hx316_3)).trans hx316_3
       replace hx316_4 := (HB.out.cell (wb_ w _ hx316_4)).trans hx316_4
       replace hx316_5 := (HB.out.cell (wb_ w _ hx316_5)).trans hx316_5
       replace hx316_6 := (HB.out.cell (wb_ w _ hx316_6)).trans hx316_6
       replace hx316_7 := (HB.out.cell (wb_ w _ hx316_7)).trans hx316_7
       replace hx316_8 := (HB.out.cell (wb_ w _ hx316_8)).trans hx316_8
       replace hx316_9 := (HB.out.cell (wb_ w _ hx316_9)).trans hx316_9
       replace hx316_10 := (HB.out.cell (wb_ w _ hx316_10)).trans hx316_10
       replace hx316_11 := (HB.out.cell (wb_ w _ hx316_11)).trans hx316_11
       replace hx316_12 := (HB.out.cell (wb_ w _ hx316_12)).trans hx316_12
       replace hx316_13 := (HB.out.cell (wb_ w _ hx316_13)).trans hx316_13
       replace hx316_14 := (HB.out.cell (wb_ w _ hx316_14)).trans hx316_14
       replace hx316_15 := (HB.out.cell (wb_ w _ hx316_15)).trans hx316_15
       have HR316_2 := aK_ hi316_2
       have HC316_2 := aK_ hl316_2
       clear hi316_2 hl316_2
       have HR316_15 := aK_ hi316_15
       have HC316_15 := aK_ hl316_15
       clear hi316_15 hl316_15
       replace p316 := eq_true p316
       replace q316 := eq_true q316
       go_wp2_with (first | ((with_reducible refine gate_dst (N := 5) rfl ?_); refine box_event ?hg (N := 5) ?hd (cs := #[.int .i64 0, .string (⟨#[]⟩ : ByteArray), .slice none 0 0, .int .i64 0, .int .i64 0, .string (⟨#[]⟩ : ByteArray), .int .i64 0, .int .i64 0, .string (⟨#[]⟩ : ByteArray), .int .i64 0, .string (⟨#[]⟩ : ByteArray), .int .i64 0, .string (⟨#[]⟩ : ByteArray), .int .i64 0, .int .i64 0, .slice none 0 0]) (t := 59) ?hr ?_; (case hd => rfl); (case hg => rfl); (case hr => first | (go_simp; done) | (go_simp; rfl)); intro gb317 hg w12 hbox hb; have n0_ := aK_ (Kd.R_below (by (with_reducible repeat (first | apply Kd.R_alloc | apply Kd.R_drewN | apply Kd.R_drew)); exact HO_3.out) hb); have n1_ := aK_ (bB (by (with_reducible repeat (first | refine bDN ?_ _ | refine bD ?_ | refine bA ?_ _)); exact BK312.out) hb); have n2_ := aK_ (lT_ (by repeat (first | (with_reducible first | exact HB.out | apply lA_ | apply pD | apply lD_ | refine lS_ ?_ GE312.out) | exact HB.out)) hb); have n3_ := aK_ (hbox); have n4_ := aK_ ((by rw [hg]; exact (lZ_ (by repeat (first | (with_reducible first | exact HB.out | apply lA_ | apply pD | apply lD_ | refine lS_ ?_ GE312.out) | exact HB.out))) : w.heap.size ≤ gb317)); have n5_ := aK_ ((by rw [hg]; exact (lZ_ (by repeat (first | (with_reducible first | exact HB.out | apply lA_ | apply pD | apply lD_ | refine lS_ ?_ GE312.out) | exact HB.out))) : w.heap.size ≤ gb317)); have n6_ := aK_ ((by rw [hg]; exact Nat.ne_of_lt (blk_lt (g := gb312) (o := .cells #[.string a0_0, .slice A0_1 l0_1.length c0_1, .int .i64 a0_2, .slice (some ad316) l0_3.length c0_3, .int .i64 a0_4] 43 (0, 0)) (by (with_reducible repeat (first | refine bDN ?_ _ | refine bD ?_ | refine bA ?_ _)); exact BK312.out)) : gb312 ≠ gb317)); have n7_ := aK_ ((by rw [hg]; exact Nat.ne_of_gt (blk_lt (g := gb312) (o := .cells #[.string a0_0, .slice A0_1 l0_1.length c0_1, .int .i64 a0_2, .slice (some ad316) l0_3.length c0_3, .int .i64 a0_4] 43 (0, 0)) (by (with_reducible repeat (first | refine bDN ?_ _ | refine bD ?_ | refine bA ?_ _)); exact BK312.out)) : gb317 ≠ gb312)); clear HO_3; clear BK312; clear HB; have HO_3 := n0_; have BK312 := n1_; have HB := n2_; have BK317 := n3_; have GW317 := n4_; have GE317 := n5_; have NB312_317 := n6_; have NB317_312 := n7_; clear n0_ n1_ n2_ n3_ n4_ n5_ n6_ n7_; clear hb hbox hg; have hnb13 := NB317_312.out; have hnc13 := NB312_317.out; have hcz14_0 : w12.cell? ⟨gb317, 0, none⟩ = some (.int .i64 0) := (bC BK317.out 0).trans rfl; have hcz14_1 : w12.cell? ⟨gb317, 1, none⟩ = some (.string (⟨#[]⟩ : ByteArray)) := (bC BK317.out 1).trans rfl; have hcz14_2 : w12.cell? ⟨gb317, 2, none⟩ = some (.slice none 0 0) := (bC BK317.out 2).trans rfl; have hcz14_3 : w12.cell? ⟨gb317, 3, none⟩ = some (.int .i64 0) := (bC BK317.out 3).trans rfl; have hcz14_4 : w12.cell? ⟨gb317, 4, none⟩ = some (.int .i64 0) := (bC BK317.out 4).trans rfl; have hcz14_5 : w12.cell? ⟨gb317, 5, none⟩ = some (.string (⟨#[]⟩ : ByteArray)) := (bC BK317.out 5).trans rfl; have hcz14_6 : w12.cell? ⟨gb317, 6, none⟩ = some (.int .i64 0) := (bC BK317.out 6).trans rfl; have hcz14_7 : w12.cell? ⟨gb317, 7, none⟩ = some (.int .i64 0) := (bC BK317.out 7).trans rfl; have hcz14_8 : w12.cell? ⟨gb317, 8, none⟩ = some (.string (⟨#[]⟩ : ByteArray)) := (bC BK317.out 8).trans rfl; have hcz14_9 : w12.cell? ⟨gb317, 9, none⟩ = some (.int .i64 0) := (bC BK317.out 9).trans rfl; have hcz14_10 : w12.cell? ⟨gb317, 10, none⟩ = some (.string (⟨#[]⟩ : ByteArray)) := (bC BK317.out 10).trans rfl; have hcz14_11 : w12.cell? ⟨gb317, 11, none⟩ = some (.int .i64 0) := (bC BK317.out 11).trans rfl; have hcz14_12 : w12.cell? ⟨gb317, 12, none⟩ = some (.string (⟨#[]⟩ : ByteArray)) := (bC BK317.out 12).trans rfl; have hcz14_13 : w12.cell? ⟨gb317, 13, none⟩ = some (.int .i64 0) := (bC BK317.out 13).trans rfl; have hcz14_14 : w12.cell? ⟨gb317, 14, none⟩ = some (.int .i64 0) := (bC BK317.out 14).trans rfl; have hcz14_15 : w12.cell? ⟨gb317, 15, none⟩ = some (.slice none 0 0) := (bC BK317.out 15).trans rfl; have hfz14_0 := bF BK317.out 0; have hfz14_1 := bF BK317.out 1; have hfz14_2 := bF BK317.out 2; have hfz14_3 := bF BK317.out 3; have hfz14_4 := bF BK317.out 4; have hfz14_5 := bF BK317.out 5; have hfz14_6 := bF BK317.out 6; have hfz14_7 := bF BK317.out 7; have hfz14_8 := bF BK317.out 8; have hfz14_9 := bF BK317.out 9; have hfz14_10 := bF BK317.out 10; have hfz14_11 := bF BK317.out 11; have hfz14_12 := bF BK317.out 12; have hfz14_13 := bF BK317.out 13; have hfz14_14 := bF BK317.out 14; have hfz14_15 := bF BK317.out 15) | ((with_reducible refine gate_callee (f := 15) rfl ?_); refine goesL_ (some 21) rfl rfl Tryd.func15 (by kernel_rfl) rfl #[.agg #[.int .i64 ((rd_T59 l0_3 x15_1).f0), .string ((rd_T59 l0_3 x15_1).f1.f0), .slice A316_2 ((rd_T59 l0_3 x15_1).f1.f1).length c316_2, .int .i64 ((rd_T59 l0_3 x15_1).f2), .int .i64 ((rd_T59 l0_3 x15_1).f3.f0), .string ((rd_T59 l0_3 x15_1).f3.f1), .int .i64 ((rd_T59 l0_3 x15_1).f3.f2), .int .i64 ((rd_T59 l0_3 x15_1).f4.f0), .string ((rd_T59 l0_3 x15_1).f4.f1), .int .i64 ((rd_T59 l0_3 x15_1).f4.f2), .string ((rd_T59 l0_3 x15_1).f5), .int .i64 ((rd_T59 l0_3 x15_1).f6.f0.f0), .string ((rd_T59 l0_3 x15_1).f6.f0.f1), .int .i64 ((rd_T59 l0_3 x15_1).f6.f0.f2), .int .i64 ((rd_T59 l0_3 x15_1).f6.f1), .slice A316_15 ((rd_T59 l0_3 x15_1).f6.f2).length c316_15]] rfl (by (try simp only [List.map_toArray, List.map_cons, List.map_nil]); first | done | rfl | (simp only [List.length_drop, List.length_take]; rfl)) ?_; (with_reducible refine (syntax_Part_Vars.calls k1 ((rd_T59 l0_3 x15_1).f0) ((rd_T59 l0_3 x15_1).f1.f0) _ _ ((rd_T59 l0_3 x15_1).f1.f1) ((rd_T59 l0_3 x15_1).f2) ((rd_T59 l0_3 x15_1).f3.f0) ((rd_T59 l0_3 x15_1).f3.f1) ((rd_T59 l0_3 x15_1).f3.f2) ((rd_T59 l0_3 x15_1).f4.f0) ((rd_T59 l0_3 x15_1).f4.f1) ((rd_T59 l0_3 x15_1).f4.f2) ((rd_T59 l0_3 x15_1).f5) ((rd_T59 l0_3 x15_1).f6.f0.f0) ((rd_T59 l0_3 x15_1).f6.f0.f1) ((rd_T59 l0_3 x15_1).f6.f0.f2) ((rd_T59 l0_3 x15_1).f6.f1) _ _ ((rd_T59 l0_3 x15_1).f6.f2) t318 _ ?side1 ?side2 ?side3 ?side4 A10.out).mono ?_); (case side1 => exact Kd.C_below HR316_2.out (by repeat (first | (with_reducible first | exact HB.out | apply lA_ | apply pD | apply lD_ | refine lS_ ?_ GE312.out | refine lS_ ?_ GE317.out) | exact HB.out))); (case side2 => exact HC316_2.out); (case side3 => exact Kd.C_below HR316_15.out (by repeat (first | (with_reducible first | exact HB.out | apply lA_ | apply pD | apply lD_ | refine lS_ ?_ GE312.out | refine lS_ ?_ GE317.out) | exact HB.out))); (case side4 => exact HC316_15.out); rintro e w15 ⟨v319, rfl, ho0, hb⟩; refine ⟨_, rfl, ?_⟩; have n0_ := aK_ (Kd.R_elder' (by (with_reducible repeat (first | apply Kd.R_alloc | apply Kd.R_drewN | apply Kd.R_drew)); exact (Kd.R_mono (Kd.R_far (p := ⟨gb317, 15, none⟩) (Kd.R_far (p := ⟨gb317, 14, none⟩) (Kd.R_far (p := ⟨gb317, 13, none⟩) (Kd.R_far (p := ⟨gb317, 12, none⟩) (Kd.R_far (p := ⟨gb317, 11, none⟩) (Kd.R_far (p := ⟨gb317, 10, none⟩) (Kd.R_far (p := ⟨gb317, 9, none⟩) (Kd.R_far (p := ⟨gb317, 8, none⟩) (Kd.R_far (p := ⟨gb317, 7, none⟩) (Kd.R_far (p := ⟨gb317, 6, none⟩) (Kd.R_far (p := ⟨gb317, 5, none⟩) (Kd.R_far (p := ⟨gb317, 4, none⟩) (Kd.R_far (p := ⟨gb317, 3, none⟩) (Kd.R_far (p := ⟨gb317, 2, none⟩) (Kd.R_far (p := ⟨gb317, 1, none⟩) (Kd.R_far (p := ⟨gb317, 0, none⟩) (Kd.R_types HO_3.out BK317.out (by decide)) (fun _ hk => hk.2) (.int .i64 ((rd_T59 l0_3 x15_1).f0))) (fun _ hk => hk.2) (.string ((rd_T59 l0_3 x15_1).f1.f0))) (fun _ hk => hk.2) (.slice A316_2 ((rd_T59 l0_3 x15_1).f1.f1).length c316_2)) (fun _ hk => hk.2) (.int .i64 ((rd_T59 l0_3 x15_1).f2))) (fun _ hk => hk.2) (.int .i64 ((rd_T59 l0_3 x15_1).f3.f0))) (fun _ hk => hk.2) (.string ((rd_T59 l0_3 x15_1).f3.f1))) (fun _ hk => hk.2) (.int .i64 ((rd_T59 l0_3 x15_1).f3.f2))) (fun _ hk => hk.2) (.int .i64 ((rd_T59 l0_3 x15_1).f4.f0))) (fun _ hk => hk.2) (.string ((rd_T59 l0_3 x15_1).f4.f1))) (fun _ hk => hk.2) (.int .i64 ((rd_T59 l0_3 x15_1).f4.f2))) (fun _ hk => hk.2) (.string ((rd_T59 l0_3 x15_1).f5))) (fun _ hk => hk.2) (.int .i64 ((rd_T59 l0_3 x15_1).f6.f0.f0))) (fun _ hk => hk.2) (.string ((rd_T59 l0_3 x15_1).f6.f0.f1))) (fun _ hk => hk.2) (.int .i64 ((rd_T59 l0_3 x15_1).f6.f0.f2))) (fun _ hk => hk.2) (.int .i64 ((rd_T59 l0_3 x15_1).f6.f1))) (fun _ hk => hk.2) (.slice A316_15 ((rd_T59 l0_3 x15_1).f6.f2).length c316_15)) (fun _ h_ => h_.1))) (Kd.R_base ho0) hb); have n1_ := aK_ (Kd.R_lower (Kd.R_new' ho0 (Kd.R_lt (by (with_reducible repeat (first | apply Kd.R_alloc | apply Kd.R_drewN | apply Kd.R_drew)); exact (Kd.R_mono (Kd.R_far (p := ⟨gb317, 15, none⟩) (Kd.R_far (p := ⟨gb317, 14, none⟩) (Kd.R_far (p := ⟨gb317, 13, none⟩) (Kd.R_far (p := ⟨gb317, 12, none⟩) (Kd.R_far (p := ⟨gb317, 11, none⟩) (Kd.R_far (p := ⟨gb317, 10, none⟩) (Kd.R_far (p := ⟨gb317, 9, none⟩) (Kd.R_far (p := ⟨gb317, 8, none⟩) (Kd.R_far (p := ⟨gb317, 7, none⟩) (Kd.R_far (p := ⟨gb317, 6, none⟩) (Kd.R_far (p := ⟨gb317, 5, none⟩) (Kd.R_far (p := ⟨gb317, 4, none⟩) (Kd.R_far (p := ⟨gb317, 3, none⟩) (Kd.R_far (p := ⟨gb317, 2, none⟩) (Kd.R_far (p := ⟨gb317, 1, none⟩) (Kd.R_far (p := ⟨gb317, 0, none⟩) (Kd.R_types HO_3.out BK317.out (by decide)) (fun _ hk => hk.2) (.int .i64 ((rd_T59 l0_3 x15_1).f0))) (fun _ hk => hk.2) (.string ((rd_T59 l0_3 x15_1).f1.f0))) (fun _ hk => hk.2) (.slice A316_2 ((rd_T59 l0_3 x15_1).f1.f1).length c316_2)) (fun _ hk => hk.2) (.int .i64 ((rd_T59 l0_3 x15_1).f2))) (fun _ hk => hk.2) (.int .i64 ((rd_T59 l0_3 x15_1).f3.f0))) (fun _ hk => hk.2) (.string ((rd_T59 l0_3 x15_1).f3.f1))) (fun _ hk => hk.2) (.int .i64 ((rd_T59 l0_3 x15_1).f3.f2))) (fun _ hk => hk.2) (.int .i64 ((rd_T59 l0_3 x15_1).f4.f0))) (fun _ hk => hk.2) (.string ((rd_T59 l0_3 x15_1).f4.f1))) (fun _ hk => hk.2) (.int .i64 ((rd_T59 l0_3 x15_1).f4.f2))) (fun _ hk => hk.2) (.string ((rd_T59 l0_3 x15_1).f5))) (fun _ hk => hk.2) (.int .i64 ((rd_T59 l0_3 x15_1).f6.f0.f0))) (fun _ hk => hk.2) (.string ((rd_T59 l0_3 x15_1).f6.f0.f1))) (fun _ hk => hk.2) (.int .i64 ((rd_T59 l0_3 x15_1).f6.f0.f2))) (fun _ hk => hk.2) (.int .i64 ((rd_T59 l0_3 x15_1).f6.f1))) (fun _ hk => hk.2) (.slice A316_15 ((rd_T59 l0_3 x15_1).f6.f2).length c316_15)) (fun _ h_ => h_.1))))) (lZ_ (by repeat (first | (with_reducible first | exact HB.out | apply lA_ | apply pD | apply lD_ | refine lS_ ?_ GE312.out | refine lS_ ?_ GE317.out) | exact HB.out)))); have n2_ := aK_ (bB (g := gb312) (o := .cells #[.string a0_0, .slice A0_1 l0_1.length c0_1, .int .i64 a0_2, .slice (some ad316) l0_3.length c0_3, .int .i64 a0_4] 43 (0, 0)) (by (with_reducible repeat (first | refine bDN ?_ _ | refine bD ?_ | refine bA ?_ _)); refine blk_far ?_ NB312_317.out _; (with_reducible repeat (first | refine bDN ?_ _ | refine bD ?_ | refine bA ?_ _)); refine blk_far ?_ NB312_317.out _; (with_reducible repeat (first | refine bDN ?_ _ | refine bD ?_ | refine bA ?_ _)); refine blk_far ?_ NB312_317.out _; (with_reducible repeat (first | refine bDN ?_ _ | refine bD ?_ | refine bA ?_ _)); refine blk_far ?_ NB312_317.out _; (with_reducible repeat (first | refine bDN ?_ _ | refine bD ?_ | refine bA ?_ _)); refine blk_far ?_ NB312_317.out _; (with_reducible repeat (first | refine bDN ?_ _ | refine bD ?_ | refine bA ?_ _)); refine blk_far ?_ NB312_317.out _; (with_reducible repeat (first | refine bDN ?_ _ | refine bD ?_ | refine bA ?_ _)); refine blk_far ?_ NB312_317.out _; (with_reducible repeat (first | refine bDN ?_ _ | refine bD ?_ | refine bA ?_ _)); refine blk_far ?_ NB312_317.out _; (with_reducible repeat (first | refine bDN ?_ _ | refine bD ?_ | refine bA ?_ _)); refine blk_far ?_ NB312_317.out _; (with_reducible repeat (first | refine bDN ?_ _ | refine bD ?_ | refine bA ?_ _)); refine blk_far ?_ NB312_317.out _; (with_reducible repeat (first | refine bDN ?_ _ | refine bD ?_ | refine bA ?_ _)); refine blk_far ?_ NB312_317.out _; (with_reducible repeat (first | refine bDN ?_ _ | refine bD ?_ | refine bA ?_ _)); refine blk_far ?_ NB312_317.out _; (with_reducible repeat (first | refine bDN ?_ _ | refine bD ?_ | refine bA ?_ _)); refine blk_far ?_ NB312_317.out _; (with_reducible repeat (first | refine bDN ?_ _ | refine bD ?_ | refine bA ?_ _)); refine blk_far ?_ NB312_317.out _; (with_reducible repeat (first | refine bDN ?_ _ | refine bD ?_ | refine bA ?_ _)); refine blk_far ?_ NB312_317.out _; (with_reducible repeat (first | refine bDN ?_ _ | refine bD ?_ | refine bA ?_ _)); refine blk_far ?_ NB312_317.out _; (with_reducible repeat (first | refine bDN ?_ _ | refine bD ?_ | refine bA ?_ _)); exact BK312.out) hb); have n3_ := aK_ (bB (g := gb317) (o := .cells #[.int .i64 ((rd_T59 l0_3 x15_1).f0), .string ((rd_T59 l0_3 x15_1).f1.f0), .slice A316_2 ((rd_T59 l0_3 x15_1).f1.f1).length c316_2, .int .i64 ((rd_T59 l0_3 x15_1).f2), .int .i64 ((rd_T59 l0_3 x15_1).f3.f0), .string ((rd_T59 l0_3 x15_1).f3.f1), .int .i64 ((rd_T59 l0_3 x15_1).f3.f2), .int .i64 ((rd_T59 l0_3 x15_1).f4.f0), .string ((rd_T59 l0_3 x15_1).f4.f1), .int .i64 ((rd_T59 l0_3 x15_1).f4.f2), .string ((rd_T59 l0_3 x15_1).f5), .int .i64 ((rd_T59 l0_3 x15_1).f6.f0.f0), .string ((rd_T59 l0_3 x15_1).f6.f0.f1), .int .i64 ((rd_T59 l0_3 x15_1).f6.f0.f2), .int .i64 ((rd_T59 l0_3 x15_1).f6.f1), .slice A316_15 ((rd_T59 l0_3 x15_1).f6.f2).length c316_15] 59 (0, 0)) ((by apply eC_; (with_reducible repeat (first | refine bDN ?_ _ | refine bD ?_ | refine bA ?_ _)); apply b2_; (with_reducible repeat (first | refine bDN ?_ _ | refine bD ?_ | refine bA ?_ _)); apply b2_; (with_reducible repeat (first | refine bDN ?_ _ | refine bD ?_ | refine bA ?_ _)); apply b2_; (with_reducible repeat (first | refine bDN ?_ _ | refine bD ?_ | refine bA ?_ _)); apply b2_; (with_reducible repeat (first | refine bDN ?_ _ | refine bD ?_ | refine bA ?_ _)); apply b2_; (with_reducible repeat (first | refine bDN ?_ _ | refine bD ?_ | refine bA ?_ _)); apply b2_; (with_reducible repeat (first | refine bDN ?_ _ | refine bD ?_ | refine bA ?_ _)); apply b2_; (with_reducible repeat (first | refine bDN ?_ _ | refine bD ?_ | refine bA ?_ _)); apply b2_; (with_reducible repeat (first | refine bDN ?_ _ | refine bD ?_ | refine bA ?_ _)); apply b2_; (with_reducible repeat (first | refine bDN ?_ _ | refine bD ?_ | refine bA ?_ _)); apply b2_; (with_reducible repeat (first | refine bDN ?_ _ | refine bD ?_ | refine bA ?_ _)); apply b2_; (with_reducible repeat (first | refine bDN ?_ _ | refine bD ?_ | refine bA ?_ _)); apply b2_; (with_reducible repeat (first | refine bDN ?_ _ | refine bD ?_ | refine bA ?_ _)); apply b2_; (with_reducible repeat (first | refine bDN ?_ _ | refine bD ?_ | refine bA ?_ _)); apply b2_; (with_reducible repeat (first | refine bDN ?_ _ | refine bD ?_ | refine bA ?_ _)); apply b2_; (with_reducible repeat (first | refine bDN ?_ _ | refine bD ?_ | refine bA ?_ _)); apply b2_; (with_reducible repeat (first | refine bDN ?_ _ | refine bD ?_ | refine bA ?_ _)); exact BK317.out; kernel_rfl)) hb); have n4_ := aK_ (lT_ (by repeat (first | (with_reducible first | exact HB.out | apply lA_ | apply pD | apply lD_ | refine lS_ ?_ GE312.out | refine lS_ ?_ GE317.out) | exact HB.out)) hb); clear HO_3; clear BK312; clear BK317; clear HB; have HO_3 := n0_; have HO320 := n1_; have BK312 := n2_; have BK317 := n3_; have HB := n4_; clear n0_ n1_ n2_ n3_ n4_; (try clear hb); (try clear hb2); (try clear hk); (try clear hi); (try clear ho0); obtain ⟨Ao17, co17, eo17⟩ := Kd.R_slice HO320.out; subst eo17) | ((with_reducible refine gate_builtin (b := .append) (xs := #[.tmp 19, .tmp 21]) rfl ?_); at_builtin; refine Kd.R_append_rows Kd.string (w0 := w) w.heap.size rfl (.tmp 19) (.tmp 21) 45 9 (.string ⟨#[]⟩) 16 rfl Tryd.underlying45 info9 rfl (by decide) (by omega) u3 x3_1 t318 _ _ _ (fun k_ => some k_ ≠ (.slice Ao17 t318.length co17 : Value).ownBlock) (fun _ => False) rfl rfl ?aO ?aR (fun _ _ h => h) (fun _ h => h.elim) ?aF ?aB ?aS ?aL ?_; (case aR => repeat (first | exact (Kd.R_reads' HO320.out).2.2 | (with_reducible refine Kd.C_alloc ?_ _) | (with_reducible refine Kd.C_drewN ?_ _) | (with_reducible refine Kd.C_drew ?_))); (case aB => exact (by repeat (first | (with_reducible first | exact HB.out | apply lA_ | apply pD | apply lD_ | refine lS_ ?_ GE312.out | refine lS_ ?_ GE317.out) | exact HB.out))); (case aF => exact (fun k_ hk => Kd.fresh' (Kd.R_lt (by (with_reducible repeat (first | apply Kd.R_alloc | apply Kd.R_drewN | apply Kd.R_drew)); exact HO320.out)) k_ hk)); (case aO => exact (by (with_reducible repeat (first | apply Kd.R_alloc | apply Kd.R_drewN | apply Kd.R_drew)); exact Kd.R_mono HO_3.out (fun _ hk => hk.2))); (case aS => exact (lZ_ (by repeat (first | (with_reducible first | exact HB.out | apply lA_ | apply pD | apply lD_ | refine lS_ ?_ GE312.out | refine lS_ ?_ GE317.out) | exact HB.out)))); (case aL => have := LMc11.out; omega); intro v322 w16 ho hb hg hat; rw [← Ny321.out] at ho; have n0_ := aK_ (bG_ (g := gb312) (o := .cells #[.string a0_0, .slice A0_1 l0_1.length c0_1, .int .i64 a0_2, .slice (some ad316) l0_3.length c0_3, .int .i64 a0_4] 43 (0, 0)) (by (with_reducible repeat (first | refine bDN ?_ _ | refine bD ?_ | refine bA ?_ _)); exact BK312.out) hg (Kd.R_ne HO_3.out BK312.out (by decide))); have n1_ := aK_ (bG_ (g := gb317) (o := .cells #[.int .i64 ((rd_T59 l0_3 x15_1).f0), .string ((rd_T59 l0_3 x15_1).f1.f0), .slice A316_2 ((rd_T59 l0_3 x15_1).f1.f1).length c316_2, .int .i64 ((rd_T59 l0_3 x15_1).f2), .int .i64 ((rd_T59 l0_3 x15_1).f3.f0), .string ((rd_T59 l0_3 x15_1).f3.f1), .int .i64 ((rd_T59 l0_3 x15_1).f3.f2), .int .i64 ((rd_T59 l0_3 x15_1).f4.f0), .string ((rd_T59 l0_3 x15_1).f4.f1), .int .i64 ((rd_T59 l0_3 x15_1).f4.f2), .string ((rd_T59 l0_3 x15_1).f5), .int .i64 ((rd_T59 l0_3 x15_1).f6.f0.f0), .string ((rd_T59 l0_3 x15_1).f6.f0.f1), .int .i64 ((rd_T59 l0_3 x15_1).f6.f0.f2), .int .i64 ((rd_T59 l0_3 x15_1).f6.f1), .slice A316_15 ((rd_T59 l0_3 x15_1).f6.f2).length c316_15] 59 (0, 0)) (by (with_reducible repeat (first | refine bDN ?_ _ | refine bD ?_ | refine bA ?_ _)); exact BK317.out) hg (Kd.R_ne HO_3.out BK317.out (by decide))); have n2_ := aK_ (Kd.R_after (ok := (fun _ => True)) (by (with_reducible repeat (first | apply Kd.R_alloc | apply Kd.R_drewN | apply Kd.R_drew)); exact HO320.out) hg hat); have n3_ := aK_ (hb); have n4_ := aK_ (ho); clear BK312; clear BK317; clear HO320; clear HB; clear HO_3; have BK312 := n0_; have BK317 := n1_; have HO320 := n2_; have HB := n3_; have HO323 := n4_; clear n0_ n1_ n2_ n3_ n4_; clear ho hb hg hat))
       go_roundg k1
       case measure => have := HK1.out; omega
       case rel => exact ⟨(y321), (wrap64 (x15_1 + 1)), (by first | rfl | (simp; done) | (simp [*]; done)), H', ⟨by have := HK1.out; omega⟩, ⟨by (with_reducible repeat (first | apply Kd.R_alloc | apply Kd.R_drewN | apply Kd.R_drew)); exact Kd.R_mono HO323.out (fun _ hk => trivial)⟩, ⟨by (with_reducible repeat (first | refine bDN ?_ _ | refine bD ?_ | refine bA ?_ _)); exact BK312.out⟩, ⟨by repeat (first | (with_reducible first | exact HB.out | apply lA_ | apply pD | apply lD_ | refine lS_ ?_ GE312.out | refine lS_ ?_ GE317.out) | exact HB.out)⟩⟩
      ·rw [if_neg c11] at H
       exact absurd H (by simp)
     ·rw [if_neg c9] at H
      exact absurd H (by simp)
    ·rw [if_neg c8] at H
     exact absurd H (by simp)
   ·rw [if_neg c7] at H
    have c7b0 : decide (x15_1 < (l0_3.length : Int)) = false := decide_eq_false c7
    clear c7
    have H' := aK_ H
    clear H
    obtain ⟨Ao18, co18, eo18⟩ := Kd.R_slice HO_3.out
    subst eo18
    go_wp2
    go_loopg [6, 26] k1 (fun kq v6 v26 w' => ∃ (x6_2 : List ByteArray) (x26_2 : Int), v26 = .int .i64 x26_2 ∧ Aside0 (syntax_Rule_Vars.l1 kq x6_2 x3_1 (x3_1.length : Int) x26_2 = some r) ∧ Aside0 (kq ≤ k1) ∧ Aside0 (Kd.R Kd.string 9 w' w.heap.size (fun k_ => some k_ ≠ ((.slice Ao18 x3_1.length co18) : Value).ownBlock) v6 x6_2) ∧ Aside0 (Kd.R Kd.string 9 w' w.heap.size (fun k_ => some k_ ≠ (v6 : Value).ownBlock) (.slice Ao18 x3_1.length co18) x3_1) ∧ Aside0 (w'.heap[gb312]? = some (.cells #[.string a0_0, (.slice A0_1 l0_1.length c0_1), .int .i64 a0_2, (.slice A0_3 l0_3.length c0_3), .int .i64 a0_4] 43 (0, 0))) ∧ Aside0 (Below w.heap.size w w'))
    case atStart => exact ⟨(([] : List ByteArray)), (0), (by first | rfl | (simp; done) | (simp [*]; done)), H', ⟨Nat.le_refl _⟩, ⟨by first | exact Kd.R_nil _ _ _ _ _ | exact Kd.N_nil _ _ _ _ _ | exact Kd.V_nil _ _ _ _ _ | exact Kd.Q_nil _ _ _ _ _ | exact Kd.S_nil _ _ _ _ _⟩, ⟨by (with_reducible repeat (first | apply Kd.R_alloc | apply Kd.R_drewN | apply Kd.R_drew)); exact Kd.R_mono HO_3.out (fun _ hk => (by simp [Value.ownBlock]))⟩, ⟨by (with_reducible repeat (first | refine bDN ?_ _ | refine bD ?_ | refine bA ?_ _)); exact BK312.out⟩, ⟨by repeat (first | (with_reducible first | exact HB.out | apply lA_ | apply pD | apply lD_ | refine lS_ ?_ GE312.out) | exact HB.out)⟩⟩
    case round =>
     clear H'
     try clear c1
     try clear p2
     try clear c3
     try clear p3
     try clear q3
     try clear hx3
     try clear p6
     try clear c7
     try clear c7b0
     try clear c8
     try clear c8b0
     try clear c9
     try clear c9b0
     try clear c11
     try clear c13
     try clear c14
     try clear c15
     try clear hcz14_0
     try clear hcz14_1
     try clear hcz14_10
     try clear hcz14_11
     try clear hcz14_12
     try clear hcz14_13
     try clear hcz14_14
     try clear hcz14_15
     try clear hcz14_2
     try clear hcz14_3
     try clear hcz14_4
     try clear hcz14_5
     try clear hcz14_6
     try clear hcz14_7
     try clear hcz14_8
     try clear hcz14_9
     try clear hcz4_0
     try clear hcz4_1
     try clear hcz4_2
     try clear hcz4_3
     try clear hcz4_4
     try clear hcz6_0
     try clear hcz6_1
     try clear hcz6_2
     try clear hcz6_3
     try clear hcz6_4
     try clear hfz14_0
     try clear hfz14_1
     try clear hfz14_10
     try clear hfz14_11
     try clear hfz14_12
     try clear hfz14_13
     try clear hfz14_14
     try clear hfz14_15
     try clear hfz14_2
     try clear hfz14_3
     try clear hfz14_4
     try clear hfz14_5
     try clear hfz14_6
     try clear hfz14_7
     try clear hfz14_8
     try clear hfz14_9
     try clear hfz4_0
     try clear hfz4_1
     try clear hfz4_2
     try clear hfz4_3
     try clear hfz4_4
     try clear hfz6_0
     try clear hfz6_1
     try clear hfz6_2
     try clear hfz6_3
     try clear hfz6_4
     try clear hx316_0
     try clear hx316_1
     try clear hx316_10
     try clear hx316_11
     try clear hx316_12
     try clear hx316_13
     try clear hx316_14
     try clear hx316_15
     try clear hx316_2
     try clear hx316_3
     try clear hx316_4
     try clear hx316_5
     try clear hx316_6
     try clear hx316_7
     try clear hx316_8
     try clear hx316_9
     try clear p2
     try clear p316
     try clear q316
     obtain ⟨x6_2, x26_2, rfl, HA, HK2, HO_6, HO_24, BK312, HB⟩ := hrel
     cases gk with
     | zero => exact absurd HA.out (by simp [syntax_Rule_Vars.l1])
     | succ k2 =>
      have H := HA.out
      clear HA
      simp only [syntax_Rule_Vars.l1] at H
      by_cases c19 : x26_2 < (x3_1.length : Int)
      ·rw [if_pos c19] at H
       have c19b0 : decide (x26_2 < (x3_1.length : Int)) = true := decide_eq_true c19
       clear c19
       by_cases c20 : 0 ≤ x26_2
       ·rw [if_pos c20] at H
        have c20b0 : decide (0 ≤ x26_2) = true := decide_eq_true c20
        clear c20
        by_cases c21 : x26_2 < (x3_1.length : Int)
        ·rw [if_pos c21] at H
         have c21b0 : decide (x26_2 < (x3_1.length : Int)) = true := decide_eq_true c21
         clear c21
         replace H := Option.bind_eq_some_iff.mp H
         obtain ⟨t325, A220, H⟩ := H
         replace H : (if t325 = true then (syntax_Rule_Vars.l1 k2 x6_2 x3_1 (x3_1.length : Int) (wrap64 (x26_2 + 1))) else (if x6_2.length < 8796093022208 then (syntax_Rule_Vars.l1 k2 (x6_2 ++ [rdOf ByteArray.empty x3_1 x26_2]) x3_1 (x3_1.length : Int) (wrap64 (x26_2 + 1))) else (none))) = some r := H
         have A22 := aK_ A220
         clear A220
         by_cases c23 : t325 = true
         ·subst c23
          have H1 : (syntax_Rule_Vars.l1 k2 x6_2 x3_1 (x3_1.length : Int) (wrap64 (x26_2 + 1))) = some r := by rw [if_pos rfl] at H; exact H
          clear H
          have H := H1
          clear H1
          have H' := aK_ H
          clear H
          have p324 : 0 ≤ (x26_2 : Int) := of_decide_eq_true (by first | (with_reducible assumption) | assumption)
          have q324 : x26_2 < (x3_1.length : Int) := of_decide_eq_true (by first | (with_reducible assumption) | assumption)
          obtain ⟨ad324, e324, hx324_0⟩ := Kd.at_string (Kd.R_reads' HO_24.out).2.2 x26_2 p324 q324
          cases e324
          replace p324 := eq_true p324
          replace q324 := eq_true q324
          obtain ⟨Ao24, co24, eo24⟩ := Kd.R_slice HO_6.out
          subst eo24
          go_wp2_with (first | ((with_reducible refine gate_callee (f := 35) rfl ?_); refine goesL_ (some 32) rfl rfl Tryd.func35 (by kernel_rfl) rfl #[.slice Ao24 x6_2.length co24, .string (rdOf ByteArray.empty x3_1 x26_2)] rfl (by (try simp only [List.map_toArray, List.map_cons, List.map_nil]); first | done | rfl | (simp only [List.length_drop, List.length_take]; rfl)) ?_; (with_reducible refine (slices_Contains_string_string.calls k2 _ _ x6_2 (rdOf ByteArray.empty x3_1 x26_2) true _ ?side1 ?side2 A22.out).mono ?_); (case side1 => repeat (first | exact (Kd.R_reads' HO_6.out).2.2 | (with_reducible refine Kd.C_alloc ?_ _) | (with_reducible refine Kd.C_drewN ?_ _) | (with_reducible refine Kd.C_drew ?_))); (case side2 => exact (Kd.R_reads' HO_6.out).2.1); rintro e w' ⟨rfl, ⟨nd, rfl⟩⟩; refine ⟨_, rfl, ?_⟩))
          go_roundg k2
          case measure => have := HK1.out; have := HK2.out; omega
          case rel => exact ⟨(x6_2), (wrap64 (x26_2 + 1)), (by first | rfl | (simp; done) | (simp [*]; done)), H', ⟨by have := HK1.out; have := HK2.out; omega⟩, ⟨by (with_reducible repeat (first | apply Kd.R_alloc | apply Kd.R_drewN | apply Kd.R_drew)); exact HO_6.out⟩, ⟨by (with_reducible repeat (first | apply Kd.R_alloc | apply Kd.R_drewN | apply Kd.R_drew)); exact HO_24.out⟩, ⟨by (with_reducible repeat (first | refine bDN ?_ _ | refine bD ?_ | refine bA ?_ _)); exact BK312.out⟩, ⟨by repeat (first | (with_reducible first | exact HB.out | apply lA_ | apply pD | apply lD_ | refine lS_ ?_ GE312.out) | exact HB.out)⟩⟩
         ·replace c23 := Bool.eq_false_iff.mpr c23
          subst c23
          have H1 : (if x6_2.length < 8796093022208 then (syntax_Rule_Vars.l1 k2 (x6_2 ++ [rdOf ByteArray.empty x3_1 x26_2]) x3_1 (x3_1.length : Int) (wrap64 (x26_2 + 1))) else (none)) = some r := by rw [if_neg (show ¬ (false = true) by decide)] at H; exact H
          clear H
          have H := H1
          clear H1
          by_cases c25 : x6_2.length < 8796093022208
          ·rw [if_pos c25] at H
           have LMc25 := aK_ c25
           clear c25
           obtain ⟨y326, hy326⟩ : ∃ y_ : List ByteArray, y_ = (x6_2 ++ [rdOf ByteArray.empty x3_1 x26_2]) := ⟨_, rfl⟩
           replace H : (syntax_Rule_Vars.l1 k2 y326 x3_1 (x3_1.length : Int) (wrap64 (x26_2 + 1))) = some r := by first | (rw [hy326]; with_reducible exact H) | (have H2_ := (Option.bind_some _ _).symm.trans H; rw [hy326]; with_reducible exact H2_) | (have H2_ := (Option.bind_some _ _).symm.trans H; with_reducible exact H2_) | with_reducible exact H | (rw [hy326]; exact H) | exact H
           have Ny326 := aK_ hy326
           clear hy326
           have H' := aK_ H
           clear H
           have p324 : 0 ≤ (x26_2 : Int) := of_decide_eq_true (by first | (with_reducible assumption) | assumption)
           have q324 : x26_2 < (x3_1.length : Int) := of_decide_eq_true (by first | (with_reducible assumption) | assumption)
           obtain ⟨ad324, e324, hx324_0⟩ := Kd.at_string (Kd.R_reads' HO_24.out).2.2 x26_2 p324 q324
           cases e324
           replace p324 := eq_true p324
           replace q324 := eq_true q324
           obtain ⟨Ao26, co26, eo26⟩ := Kd.R_slice HO_6.out
           subst eo26
           go_wp2_with (first | ((with_reducible refine gate_callee (f := 35) rfl ?_); refine goesL_ (some 32) rfl rfl Tryd.func35 (by kernel_rfl) rfl #[.slice Ao26 x6_2.length co26, .string (rdOf ByteArray.empty x3_1 x26_2)] rfl (by (try simp only [List.map_toArray, List.map_cons, List.map_nil]); first | done | rfl | (simp only [List.length_drop, List.length_take]; rfl)) ?_; (with_reducible refine (slices_Contains_string_string.calls k2 _ _ x6_2 (rdOf ByteArray.empty x3_1 x26_2) false _ ?side1 ?side2 A22.out).mono ?_); (case side1 => repeat (first | exact (Kd.R_reads' HO_6.out).2.2 | (with_reducible refine Kd.C_alloc ?_ _) | (with_reducible refine Kd.C_drewN ?_ _) | (with_reducible refine Kd.C_drew ?_))); (case side2 => exact (Kd.R_reads' HO_6.out).2.1); rintro e w' ⟨rfl, ⟨nd, rfl⟩⟩; refine ⟨_, rfl, ?_⟩) | ((with_reducible refine gate_builtin (b := .append) (xs := #[.tmp 34, .tmp 36]) rfl ?_); at_builtin; refine Kd.R_append Kd.string (w0 := w) w.heap.size rfl (.tmp 34) (.tmp 36) 45 9 (.string ⟨#[]⟩) 16 rfl Tryd.underlying45 info9 rfl (by decide) (by omega) (.slice Ao26 x6_2.length co26) x6_2 (rdOf ByteArray.empty x3_1 x26_2) [.string (rdOf ByteArray.empty x3_1 x26_2)] (fun k_ => some k_ ≠ (.slice (some ad324) x3_1.length co18 : Value).ownBlock) (fun _ => False) rfl rfl ?aP (fun _ hk => hk.elim) ?aF ?aO ?aB ?aS ?aL ?_; (case aP => exact rfl); (case aB => exact (by repeat (first | (with_reducible first | exact HB.out | apply lA_ | apply pD | apply lD_ | refine lS_ ?_ GE312.out) | exact HB.out))); (case aF => exact (fun k_ hk => Kd.fresh' (Kd.R_lt (by (with_reducible repeat (first | apply Kd.R_alloc | apply Kd.R_drewN | apply Kd.R_drew)); exact HO_24.out)) k_ hk)); (case aO => exact (by (with_reducible repeat (first | apply Kd.R_alloc | apply Kd.R_drewN | apply Kd.R_drew)); exact HO_6.out)); (case aS => exact (lZ_ (by repeat (first | (with_reducible first | exact HB.out | apply lA_ | apply pD | apply lD_ | refine lS_ ?_ GE312.out) | exact HB.out)))); (case aL => have := LMc25.out; omega); intro v327 w27 ho hb hg hat; rw [← Ny326.out] at ho; have n0_ := aK_ (Kd.R_after (ok := (fun _ => True)) (by (with_reducible repeat (first | apply Kd.R_alloc | apply Kd.R_drewN | apply Kd.R_drew)); exact Kd.R_mono HO_24.out (fun _ hk => ⟨trivial, hk⟩)) hg hat); have n1_ := aK_ (bG_ (g := gb312) (o := .cells #[.string a0_0, .slice A0_1 l0_1.length c0_1, .int .i64 a0_2, .slice A0_3 l0_3.length c0_3, .int .i64 a0_4] 43 (0, 0)) (by (with_reducible repeat (first | refine bDN ?_ _ | refine bD ?_ | refine bA ?_ _)); exact BK312.out) hg (Kd.R_ne HO_6.out BK312.out (by decide))); have n2_ := aK_ (hb); have n3_ := aK_ (ho); clear HO_24; clear BK312; clear HB; clear HO_6; have HO_24 := n0_; have BK312 := n1_; have HB := n2_; have HO328 := n3_; clear n0_ n1_ n2_ n3_; clear ho hb hg hat))
           go_roundg k2
           case measure => have := HK1.out; have := HK2.out; omega
           case rel => exact ⟨(y326), (wrap64 (x26_2 + 1)), (by first | rfl | (simp; done) | (simp [*]; done)), H', ⟨by have := HK1.out; have := HK2.out; omega⟩, ⟨by (with_reducible repeat (first | apply Kd.R_alloc | apply Kd.R_drewN | apply Kd.R_drew)); exact HO328.out⟩, ⟨by (with_reducible repeat (first | apply Kd.R_alloc | apply Kd.R_drewN | apply Kd.R_drew)); exact Kd.R_mono HO_24.out (fun _ hk => hk.2)⟩, ⟨by (with_reducible repeat (first | refine bDN ?_ _ | refine bD ?_ | refine bA ?_ _)); exact BK312.out⟩, ⟨by repeat (first | (with_reducible first | exact HB.out | apply lA_ | apply pD | apply lD_ | refine lS_ ?_ GE312.out) | exact HB.out)⟩⟩
          ·rw [if_neg c25] at H
           exact absurd H (by simp)
        ·rw [if_neg c21] at H
         exact absurd H (by simp)
       ·rw [if_neg c20] at H
        exact absurd H (by simp)
      ·rw [if_neg c19] at H
       have c19b0 : decide (x26_2 < (x3_1.length : Int)) = false := decide_eq_false c19
       clear c19
       obtain rfl := Option.some.inj H
       go_wp2
       go_ret
       exact ⟨_, by first | rfl | (simp [errW_none, errW_some] <;> rfl) | (simp [*, errW_none, errW_some] <;> rfl), by (with_reducible repeat (first | apply Kd.R_alloc | apply Kd.R_drewN | apply Kd.R_drew)); exact Kd.R_mono HO_6.out (fun _ hk => trivial), by repeat (first | (with_reducible first | exact HB.out | apply lA_ | apply pD | apply lD_ | refine lS_ ?_ GE312.out) | exact HB.out)⟩
def lex_between.f (a0 : Int) (a1 : Int) (a2 : Int) : Option (Bool) := if a0 ≥ a1 then (some (decide (a0 ≤ a2))) else (some false)
set_option maxHeartbeats 8000000 in
set_option maxRecDepth 100000 in
theorem lex_between.calls (a0 : Int) (a1 : Int) (a2 : Int) (r : Bool) (w : World) (h : lex_between.f a0 a1 a2 = some r) :
  Calls Tryd.prog 89 #[.int .u8 a0, .int .u8 a1, .int .u8 a2] w fun e w' => e = .returned (.bool r) ∧ Drawn0 w w' := by
 have H : (if a0 ≥ a1 then (some (decide (a0 ≤ a2))) else (some false)) = some r := h
 clear h
 by_cases c4 : a0 ≥ a1
 ·rw [if_pos c4] at H
  have c4b0 : decide (a1 ≤ a0) = true := decide_eq_true c4
  clear c4
  obtain rfl := Option.some.inj H
  go_enter Tryd.func89, Tryd.ntmps89
  go_wp2
  go_ret
  exact ⟨by first | rfl | (simp; done) | (simp [*]; done), by repeat (first | exact Drawn0.refl _ | apply Drawn0.step)⟩
 ·rw [if_neg c4] at H
  have c4b0 : decide (a1 ≤ a0) = false := decide_eq_false c4
  clear c4
  obtain rfl := Option.some.inj H
  go_enter Tryd.func89, Tryd.ntmps89
  go_wp2
  go_ret
  exact ⟨by first | rfl | (simp; done) | (simp [*]; done), by repeat (first | exact Drawn0.refl _ | apply Drawn0.step)⟩
end Go.Proofs.YtdbpboipiceifaaDoorPSP
