import Derived.Test.YtdbpboipiceifaaDoorZ1PSPx0
import Derived.Test.YtdbpboipiceifaaDoorZ1PSPx5
namespace Go.Proofs.YtdbpboipiceifaaDoorPSP
open Go.RowKit Go.Proofs.YtdbpboipiceifaaDoorW.PrintWords Go.Proofs.YtdbpboipiceifaaDoorW.PrintLast Go.Proofs.YtdbpboipiceifaaDoorW.PrintMore
attribute [local go_sem] max2_int min2_int max_two min_two max_three min_three max_four min_four   -- for this text's walks alone
set_option linter.unusedVariables false
set_option linter.unusedSimpArgs false
def syntax_Part_Vars.f (k : Nat) (a0_0 : Int) (a0_1 : ByteArray) (l0_2 : List (S53)) (a0_3 : Int) (a0_4 : Int) (a0_5 : ByteArray) (a0_6 : Int) (a0_7 : Int) (a0_8 : ByteArray) (a0_9 : Int) (a0_10 : ByteArray) (a0_11 : Int) (a0_12 : ByteArray) (a0_13 : Int) (a0_14 : Int) (l0_15 : List (S57)) : Option (List ByteArray) := if a0_0 = 2 then ((syntax_vars.f k (([(⟨a0_4, a0_5, a0_6⟩ : S53), (⟨a0_7, a0_8, a0_9⟩ : S53)] : List (S53)))).bind fun t258 => (some t258)) else (if a0_0 = 3 then ((some (([a0_10] : List ByteArray) : List ByteArray)).bind fun y261 => ((syntax_Expr_Vars.f k a0_11 a0_12 a0_13 a0_14 l0_15).bind fun t264 => (if y261.length + t264.length < 8796093022208 then (some (y261 ++ t264)) else (none)))) else ((syntax_Atom_Vars.f k a0_1 l0_2).bind fun t270 => (some t270)))
def syntax_Part_Vars.T5 : Bool × List (List Nat × List Nat) := (true, [([], []), ([0], [0]), ([1], [1]), ([], []), ([3], [3]), ([4], [4]), ([2, 5, 5], [2, 5]), ([6, 6, 0, 1, 2, 3, 4, 5, 6], [6])])
def syntax_Part_Vars.B5 : List Nat := [0, 1, 3, 0, 8, 24, 63, 127]
theorem syntax_Part_Vars.tab5 : rtab .any (opsOf Tryd.f15 5) = syntax_Part_Vars.T5 := by kernel_rfl
theorem syntax_Part_Vars.bits5 : waitsOk syntax_Part_Vars.T5.2 syntax_Part_Vars.B5 = true := by kernel_rfl
set_option maxHeartbeats 8000000 in
set_option maxRecDepth 100000 in
theorem syntax_Part_Vars.calls (k : Nat) (a0_0 : Int) (a0_1 : ByteArray) (A0_2 : Option Addr) (c0_2 : Nat) (l0_2 : List (S53)) (a0_3 : Int) (a0_4 : Int) (a0_5 : ByteArray) (a0_6 : Int) (a0_7 : Int) (a0_8 : ByteArray) (a0_9 : Int) (a0_10 : ByteArray) (a0_11 : Int) (a0_12 : ByteArray) (a0_13 : Int) (a0_14 : Int) (A0_15 : Option Addr) (c0_15 : Nat) (l0_15 : List (S57)) (r : List ByteArray) (w : World) (hr0_2 : Kd.C k53 w A0_2 l0_2.length l0_2) (hc0_2 : l0_2.length ≤ c0_2) (hr0_15 : Kd.C k57 w A0_15 l0_15.length l0_15) (hc0_15 : l0_15.length ≤ c0_15) (h : syntax_Part_Vars.f k a0_0 a0_1 l0_2 a0_3 a0_4 a0_5 a0_6 a0_7 a0_8 a0_9 a0_10 a0_11 a0_12 a0_13 a0_14 l0_15 = some r) :
  Calls Tryd.prog 15 #[.agg #[.int .i64 a0_0, .string a0_1, .slice A0_2 l0_2.length c0_2, .int .i64 a0_3, .int .i64 a0_4, .string a0_5, .int .i64 a0_6, .int .i64 a0_7, .string a0_8, .int .i64 a0_9, .string a0_10, .int .i64 a0_11, .string a0_12, .int .i64 a0_13, .int .i64 a0_14, .slice A0_15 l0_15.length c0_15]] w fun e w' => ∃ v0_ : Value, e = .returned (v0_) ∧ Kd.R Kd.string 9 w' w.heap.size (fun _ => True) v0_ r ∧ Below w.heap.size w w' := by
 have hu59 := Tryd.underlying59
 have hu53 := Tryd.underlying53
 have hu57 := Tryd.underlying57
 have hu39 := Tryd.underlying39
 have HR0_2 := aK_ hr0_2
 have HC0_2 := aK_ hc0_2
 clear hr0_2 hc0_2
 have HR0_15 := aK_ hr0_15
 have HC0_15 := aK_ hc0_15
 clear hr0_15 hc0_15
 have HB := aK_ (Below.refl w.heap.size w)
 have H : (if a0_0 = 2 then ((syntax_vars.f k (([(⟨a0_4, a0_5, a0_6⟩ : S53), (⟨a0_7, a0_8, a0_9⟩ : S53)] : List (S53)))).bind fun t258 => (some t258)) else (if a0_0 = 3 then ((some (([a0_10] : List ByteArray) : List ByteArray)).bind fun y261 => ((syntax_Expr_Vars.f k a0_11 a0_12 a0_13 a0_14 l0_15).bind fun t264 => (if y261.length + t264.length < 8796093022208 then (some (y261 ++ t264)) else (none)))) else ((syntax_Atom_Vars.f k a0_1 l0_2).bind fun t270 => (some t270)))) = some r := h
 clear h
 by_cases c2 : a0_0 = 2
 ·rw [if_pos c2] at H
  have c2b0 : (a0_0 == 2) = true := beq_iff_eq.mpr c2
  have c2b1 : (a0_0 != 2) = false := bne_eq_false_iff_eq.mpr c2
  clear c2
  obtain ⟨y255, hy255⟩ : ∃ y_ : List (S53), y_ = (([(⟨a0_4, a0_5, a0_6⟩ : S53), (⟨a0_7, a0_8, a0_9⟩ : S53)] : List (S53))) := ⟨_, rfl⟩
  replace H : ((syntax_vars.f k y255).bind fun t258 => (some t258)) = some r := by first | (rw [hy255]; with_reducible exact H) | (have H2_ := (Option.bind_some _ _).symm.trans H; rw [hy255]; with_reducible exact H2_) | (have H2_ := (Option.bind_some _ _).symm.trans H; with_reducible exact H2_) | with_reducible exact H | (rw [hy255]; exact H) | exact H
  have Ny255 := aK_ hy255
  clear hy255
  replace H := Option.bind_eq_some_iff.mp H
  obtain ⟨t258, A30, H⟩ := H
  replace H : (some t258) = some r := H
  have A3 := aK_ A30
  clear A30
  obtain rfl := Option.some.inj H
  go_enter Tryd.func15, Tryd.ntmps15
  go_wp2_with (first | ((with_reducible refine gate_dst (N := 1) rfl ?_); refine box_event ?hg (N := 1) ?hd (cs := #[.int .i64 a0_0, .string a0_1, .slice A0_2 l0_2.length c0_2, .int .i64 a0_3, .int .i64 a0_4, .string a0_5, .int .i64 a0_6, .int .i64 a0_7, .string a0_8, .int .i64 a0_9, .string a0_10, .int .i64 a0_11, .string a0_12, .int .i64 a0_13, .int .i64 a0_14, .slice A0_15 l0_15.length c0_15]) (t := 59) ?hr ?_; (case hd => rfl); (case hg => rfl); (case hr => first | (go_simp; done) | (go_simp; rfl)); intro gb254 hg w4 hbox hb; have n0_ := aK_ (lT_ (by repeat (first | (with_reducible first | exact HB.out | apply lA_ | apply pD | apply lD_) | exact HB.out)) hb); have n1_ := aK_ (hbox); have n2_ := aK_ ((by rw [hg]; exact (lZ_ (by repeat (first | (with_reducible first | exact HB.out | apply lA_ | apply pD | apply lD_) | exact HB.out))) : w.heap.size ≤ gb254)); have n3_ := aK_ ((by rw [hg]; exact (lZ_ (by repeat (first | (with_reducible first | exact HB.out | apply lA_ | apply pD | apply lD_) | exact HB.out))) : w.heap.size ≤ gb254)); clear HB; have HB := n0_; have BK254 := n1_; have GW254 := n2_; have GE254 := n3_; clear n0_ n1_ n2_ n3_; clear hb hbox hg; have hcz5_0 : w4.cell? ⟨gb254, 0, none⟩ = some (.int .i64 a0_0) := (bC BK254.out 0).trans rfl; have hcz5_1 : w4.cell? ⟨gb254, 1, none⟩ = some (.string a0_1) := (bC BK254.out 1).trans rfl; have hcz5_2 : w4.cell? ⟨gb254, 2, none⟩ = some (.slice A0_2 l0_2.length c0_2) := (bC BK254.out 2).trans rfl; have hcz5_3 : w4.cell? ⟨gb254, 3, none⟩ = some (.int .i64 a0_3) := (bC BK254.out 3).trans rfl; have hcz5_4 : w4.cell? ⟨gb254, 4, none⟩ = some (.int .i64 a0_4) := (bC BK254.out 4).trans rfl; have hcz5_5 : w4.cell? ⟨gb254, 5, none⟩ = some (.string a0_5) := (bC BK254.out 5).trans rfl; have hcz5_6 : w4.cell? ⟨gb254, 6, none⟩ = some (.int .i64 a0_6) := (bC BK254.out 6).trans rfl; have hcz5_7 : w4.cell? ⟨gb254, 7, none⟩ = some (.int .i64 a0_7) := (bC BK254.out 7).trans rfl; have hcz5_8 : w4.cell? ⟨gb254, 8, none⟩ = some (.string a0_8) := (bC BK254.out 8).trans rfl; have hcz5_9 : w4.cell? ⟨gb254, 9, none⟩ = some (.int .i64 a0_9) := (bC BK254.out 9).trans rfl; have hcz5_10 : w4.cell? ⟨gb254, 10, none⟩ = some (.string a0_10) := (bC BK254.out 10).trans rfl; have hcz5_11 : w4.cell? ⟨gb254, 11, none⟩ = some (.int .i64 a0_11) := (bC BK254.out 11).trans rfl; have hcz5_12 : w4.cell? ⟨gb254, 12, none⟩ = some (.string a0_12) := (bC BK254.out 12).trans rfl; have hcz5_13 : w4.cell? ⟨gb254, 13, none⟩ = some (.int .i64 a0_13) := (bC BK254.out 13).trans rfl; have hcz5_14 : w4.cell? ⟨gb254, 14, none⟩ = some (.int .i64 a0_14) := (bC BK254.out 14).trans rfl; have hcz5_15 : w4.cell? ⟨gb254, 15, none⟩ = some (.slice A0_15 l0_15.length c0_15) := (bC BK254.out 15).trans rfl; have hfz5_0 := bF BK254.out 0; have hfz5_1 := bF BK254.out 1; have hfz5_2 := bF BK254.out 2; have hfz5_3 := bF BK254.out 3; have hfz5_4 := bF BK254.out 4; have hfz5_5 := bF BK254.out 5; have hfz5_6 := bF BK254.out 6; have hfz5_7 := bF BK254.out 7; have hfz5_8 := bF BK254.out 8; have hfz5_9 := bF BK254.out 9; have hfz5_10 := bF BK254.out 10; have hfz5_11 := bF BK254.out 11; have hfz5_12 := bF BK254.out 12; have hfz5_13 := bF BK254.out 13; have hfz5_14 := bF BK254.out 14; have hfz5_15 := bF BK254.out 15) | ((with_reducible refine gate_dst (N := 11) rfl ?_); refine Kd.R_lit k53 _ 53 ?hg (N := 11) ?hd (xs := ([(⟨a0_4, a0_5, a0_6⟩ : S53), (⟨a0_7, a0_8, a0_9⟩ : S53)] : List (S53))) (inner := [.int .i64 a0_4, .string a0_5, .int .i64 a0_6, .int .i64 a0_7, .string a0_8, .int .i64 a0_9]) (ok := fun _ => True) (okp := fun _ => True) ?hr ?hp (fun _ hk => hk) trivial (Below.refl _ _) (Nat.le_refl _) (by simp) ?_; (case hd => rfl); (case hg => rfl); (case hr => first | (go_simp; done) | (go_simp; rfl)); (case hp => exact (Reps.c3 (show Kd.M k53 _ _ _ (⟨a0_4, a0_5, a0_6⟩ : S53) [.int .i64 a0_4, .string a0_5, .int .i64 a0_6] from (k53_mkM _ _ _ (⟨a0_4, a0_5, a0_6⟩ : S53) )) (Reps.c3 (show Kd.M k53 _ _ _ (⟨a0_7, a0_8, a0_9⟩ : S53) [.int .i64 a0_7, .string a0_8, .int .i64 a0_9] from (k53_mkM _ _ _ (⟨a0_7, a0_8, a0_9⟩ : S53) )) (Reps.none _ _)))); intro v256 w6 ho7 hb hg_ hnew_; clear hg_ hnew_; (first | rw [← Ny255.out] at ho7 | (simp only [Int.reduceToNat] at ho7; rw [← Ny255.out] at ho7)); have n0_ := aK_ (Kd.R_lower ho7 (lZ_ (by repeat (first | (with_reducible first | exact HB.out | apply lA_ | apply pD | apply lD_ | refine lS_ ?_ GE254.out) | exact HB.out)))); have n1_ := aK_ (bB (by (with_reducible repeat (first | refine bDN ?_ _ | refine bD ?_ | refine bA ?_ _)); exact BK254.out) hb); have n2_ := aK_ (lT_ (by repeat (first | (with_reducible first | exact HB.out | apply lA_ | apply pD | apply lD_ | refine lS_ ?_ GE254.out) | exact HB.out)) hb); clear BK254; clear HB; have HO257 := n0_; have BK254 := n1_; have HB := n2_; clear n0_ n1_ n2_; clear hb ho7; obtain ⟨Ao8, co8, eo8⟩ := Kd.R_slice HO257.out; subst eo8) | ((with_reducible refine gate_callee (f := 33) rfl ?_); refine goesL_ (some 12) rfl rfl Tryd.func33 (by kernel_rfl) rfl #[.slice Ao8 y255.length co8] rfl (by (try simp only [List.map_toArray, List.map_cons, List.map_nil]); first | done | rfl | (simp only [List.length_drop, List.length_take]; rfl)) ?_; (with_reducible refine (syntax_vars.calls k _ _ y255 t258 _ ?side1 ?side2 A3.out).mono ?_); (case side1 => repeat (first | exact (Kd.R_reads' HO257.out).2.2 | (with_reducible refine Kd.C_alloc ?_ _) | (with_reducible refine Kd.C_drewN ?_ _) | (with_reducible refine Kd.C_drew ?_))); (case side2 => exact (Kd.R_reads' HO257.out).2.1); rintro e w9 ⟨v259, rfl, ho0, hb⟩; refine ⟨_, rfl, ?_⟩; have n0_ := aK_ (Kd.R_below (by (with_reducible repeat (first | apply Kd.R_alloc | apply Kd.R_drewN | apply Kd.R_drew)); exact HO257.out) hb); have n1_ := aK_ (Kd.R_lower ho0 (lZ_ (by repeat (first | (with_reducible first | exact HB.out | apply lA_ | apply pD | apply lD_ | refine lS_ ?_ GE254.out) | exact HB.out)))); have n2_ := aK_ (bB (by (with_reducible repeat (first | refine bDN ?_ _ | refine bD ?_ | refine bA ?_ _)); exact BK254.out) hb); have n3_ := aK_ (lT_ (by repeat (first | (with_reducible first | exact HB.out | apply lA_ | apply pD | apply lD_ | refine lS_ ?_ GE254.out) | exact HB.out)) hb); clear HO257; clear BK254; clear HB; have HO257 := n0_; have HO260 := n1_; have BK254 := n2_; have HB := n3_; clear n0_ n1_ n2_ n3_; (try clear hb); (try clear hb2); (try clear hk); (try clear hi); (try clear ho0)))
  go_ret
  exact ⟨_, by first | rfl | (simp [errW_none, errW_some] <;> rfl) | (simp [*, errW_none, errW_some] <;> rfl), by (with_reducible repeat (first | apply Kd.R_alloc | apply Kd.R_drewN | apply Kd.R_drew)); exact HO260.out, by repeat (first | (with_reducible first | exact HB.out | apply lA_ | apply pD | apply lD_ | refine lS_ ?_ GE254.out) | exact HB.out)⟩
 ·rw [if_neg c2] at H
  have c2b0 : (a0_0 == 2) = false := beq_eq_false_iff_ne.mpr c2
  have c2b1 : (a0_0 != 2) = true := bne_iff_ne.mpr c2
  by_cases c10 : a0_0 = 3
  ·rw [if_pos c10] at H
   have c10b0 : (a0_0 == 3) = true := beq_iff_eq.mpr c10
   have c10b1 : (a0_0 != 3) = false := bne_eq_false_iff_eq.mpr c10
   clear c10
   obtain ⟨y261, hy261⟩ : ∃ y_ : List ByteArray, y_ = (([a0_10] : List ByteArray)) := ⟨_, rfl⟩
   replace H : ((syntax_Expr_Vars.f k a0_11 a0_12 a0_13 a0_14 l0_15).bind fun t264 => (if y261.length + t264.length < 8796093022208 then (some (y261 ++ t264)) else (none))) = some r := by first | (rw [hy261]; with_reducible exact H) | (have H2_ := (Option.bind_some _ _).symm.trans H; rw [hy261]; with_reducible exact H2_) | (have H2_ := (Option.bind_some _ _).symm.trans H; with_reducible exact H2_) | with_reducible exact H | (rw [hy261]; exact H) | exact H
   have Ny261 := aK_ hy261
   clear hy261
   replace H := Option.bind_eq_some_iff.mp H
   obtain ⟨t264, A110, H⟩ := H
   replace H : (if y261.length + t264.length < 8796093022208 then (some (y261 ++ t264)) else (none)) = some r := H
   have A11 := aK_ A110
   clear A110
   by_cases c12 : y261.length + t264.length < 8796093022208
   ·rw [if_pos c12] at H
    have LMc12 := aK_ c12
    clear c12
    obtain ⟨y267, hy267⟩ : ∃ y_ : List ByteArray, y_ = (y261 ++ t264) := ⟨_, rfl⟩
    replace H : (some y267) = some r := by first | (rw [hy267]; with_reducible exact H) | (have H2_ := (Option.bind_some _ _).symm.trans H; rw [hy267]; with_reducible exact H2_) | (have H2_ := (Option.bind_some _ _).symm.trans H; with_reducible exact H2_) | with_reducible exact H | (rw [hy267]; exact H) | exact H
    have Ny267 := aK_ hy267
    clear hy267
    obtain rfl := Option.some.inj H
    go_enter Tryd.func15, Tryd.ntmps15
    try go_wp2_with (first | ((with_reducible refine gate_dst (N := 1) rfl ?_); refine box_event ?hg (N := 1) ?hd (cs := #[.int .i64 a0_0, .string a0_1, .slice A0_2 l0_2.length c0_2, .int .i64 a0_3, .int .i64 a0_4, .string a0_5, .int .i64 a0_6, .int .i64 a0_7, .string a0_8, .int .i64 a0_9, .string a0_10, .int .i64 a0_11, .string a0_12, .int .i64 a0_13, .int .i64 a0_14, .slice A0_15 l0_15.length c0_15]) (t := 59) ?hr ?_; (case hd => rfl); (case hg => rfl); (case hr => first | (go_simp; done) | (go_simp; rfl)); intro gb254 hg w13 hbox hb; have n0_ := aK_ (lT_ (by repeat (first | (with_reducible first | exact HB.out | apply lA_ | apply pD | apply lD_) | exact HB.out)) hb); have n1_ := aK_ (hbox); have n2_ := aK_ ((by rw [hg]; exact (lZ_ (by repeat (first | (with_reducible first | exact HB.out | apply lA_ | apply pD | apply lD_) | exact HB.out))) : w.heap.size ≤ gb254)); have n3_ := aK_ ((by rw [hg]; exact (lZ_ (by repeat (first | (with_reducible first | exact HB.out | apply lA_ | apply pD | apply lD_) | exact HB.out))) : w.heap.size ≤ gb254)); clear HB; have HB := n0_; have BK254 := n1_; have GW254 := n2_; have GE254 := n3_; clear n0_ n1_ n2_ n3_; clear hb hbox hg; have hcz14_0 : w13.cell? ⟨gb254, 0, none⟩ = some (.int .i64 a0_0) := (bC BK254.out 0).trans rfl; have hcz14_1 : w13.cell? ⟨gb254, 1, none⟩ = some (.string a0_1) := (bC BK254.out 1).trans rfl; have hcz14_2 : w13.cell? ⟨gb254, 2, none⟩ = some (.slice A0_2 l0_2.length c0_2) := (bC BK254.out 2).trans rfl; have hcz14_3 : w13.cell? ⟨gb254, 3, none⟩ = some (.int .i64 a0_3) := (bC BK254.out 3).trans rfl; have hcz14_4 : w13.cell? ⟨gb254, 4, none⟩ = some (.int .i64 a0_4) := (bC BK254.out 4).trans rfl; have hcz14_5 : w13.cell? ⟨gb254, 5, none⟩ = some (.string a0_5) := (bC BK254.out 5).trans rfl; have hcz14_6 : w13.cell? ⟨gb254, 6, none⟩ = some (.int .i64 a0_6) := (bC BK254.out 6).trans rfl; have hcz14_7 : w13.cell? ⟨gb254, 7, none⟩ = some (.int .i64 a0_7) := (bC BK254.out 7).trans rfl; have hcz14_8 : w13.cell? ⟨gb254, 8, none⟩ = some (.string a0_8) := (bC BK254.out 8).trans rfl; have hcz14_9 : w13.cell? ⟨gb254, 9, none⟩ = some (.int .i64 a0_9) := (bC BK254.out 9).trans rfl; have hcz14_10 : w13.cell? ⟨gb254, 10, none⟩ = some (.string a0_10) := (bC BK254.out 10).trans rfl; have hcz14_11 : w13.cell? ⟨gb254, 11, none⟩ = some (.int .i64 a0_11) := (bC BK254.out 11).trans rfl; have hcz14_12 : w13.cell? ⟨gb254, 12, none⟩ = some (.string a0_12) := (bC BK254.out 12).trans rfl; have hcz14_13 : w13.cell? ⟨gb254, 13, none⟩ = some (.int .i64 a0_13) := (bC BK254.out 13).trans rfl; have hcz14_14 : w13.cell? ⟨gb254, 14, none⟩ = some (.int .i64 a0_14) := (bC BK254.out 14).trans rfl; have hcz14_15 : w13.cell? ⟨gb254, 15, none⟩ = some (.slice A0_15 l0_15.length c0_15) := (bC BK254.out 15).trans rfl; have hfz14_0 := bF BK254.out 0; have hfz14_1 := bF BK254.out 1; have hfz14_2 := bF BK254.out 2; have hfz14_3 := bF BK254.out 3; have hfz14_4 := bF BK254.out 4; have hfz14_5 := bF BK254.out 5; have hfz14_6 := bF BK254.out 6; have hfz14_7 := bF BK254.out 7; have hfz14_8 := bF BK254.out 8; have hfz14_9 := bF BK254.out 9; have hfz14_10 := bF BK254.out 10; have hfz14_11 := bF BK254.out 11; have hfz14_12 := bF BK254.out 12; have hfz14_13 := bF BK254.out 13; have hfz14_14 := bF BK254.out 14; have hfz14_15 := bF BK254.out 15))
    have n0_ := aK_ (bD BK254.out)
    have n1_ := aK_ (lD_ HB.out)
    clear BK254
    clear HB
    have BK254 := n0_
    have HB := n1_
    clear n0_ n1_
    refine start_ (n := 8) (S := fun w' => w'.cell? ⟨gb254, 0, none⟩ = some (.int .i64 a0_0) ∧ w'.cell? ⟨gb254, 1, none⟩ = some (.string a0_1) ∧ w'.cell? ⟨gb254, 2, none⟩ = some (.slice A0_2 l0_2.length c0_2) ∧ w'.cell? ⟨gb254, 3, none⟩ = some (.int .i64 a0_3) ∧ w'.cell? ⟨gb254, 4, none⟩ = some (.int .i64 a0_4) ∧ w'.cell? ⟨gb254, 5, none⟩ = some (.string a0_5) ∧ w'.cell? ⟨gb254, 6, none⟩ = some (.int .i64 a0_6) ∧ w'.cell? ⟨gb254, 7, none⟩ = some (.int .i64 a0_7) ∧ w'.cell? ⟨gb254, 8, none⟩ = some (.string a0_8) ∧ w'.cell? ⟨gb254, 9, none⟩ = some (.int .i64 a0_9) ∧ w'.cell? ⟨gb254, 10, none⟩ = some (.string a0_10) ∧ w'.cell? ⟨gb254, 11, none⟩ = some (.int .i64 a0_11) ∧ w'.cell? ⟨gb254, 12, none⟩ = some (.string a0_12) ∧ w'.cell? ⟨gb254, 13, none⟩ = some (.int .i64 a0_13) ∧ w'.cell? ⟨gb254, 14, none⟩ = some (.int .i64 a0_14) ∧ w'.cell? ⟨gb254, 15, none⟩ = some (.slice A0_15 l0_15.length c0_15)) (ds := []) #[false, false, false, false, false, false, false, false] (by kernel_rfl) rfl rfl ⟨(bC BK254.out 0).trans rfl, (bC BK254.out 1).trans rfl, (bC BK254.out 2).trans rfl, (bC BK254.out 3).trans rfl, (bC BK254.out 4).trans rfl, (bC BK254.out 5).trans rfl, (bC BK254.out 6).trans rfl, (bC BK254.out 7).trans rfl, (bC BK254.out 8).trans rfl, (bC BK254.out 9).trans rfl, (bC BK254.out 10).trans rfl, (bC BK254.out 11).trans rfl, (bC BK254.out 12).trans rfl, (bC BK254.out 13).trans rfl, (bC BK254.out 14).trans rfl, (bC BK254.out 15).trans rfl⟩ (fun hHeld => ?_); refine with_tabW syntax_Part_Vars.tab5 syntax_Part_Vars.bits5 (fun HT_ HW_ => ?_)
    generalize w13.drew = w15 at BK254 HB hHeld ⊢
    refine pure_ (i := 0) (N := some 15) (v := ?_) (a' := ?_) #[true, false, false, false, false, false, false, false] rfl rfl (any_of HT_.out (by kernel_rfl)) (fun _ _ _ h => h) (Or.inl ⟨by rfl, ?_⟩) ?_ ?_
    rotate_left
    ·intro w'
     go_simp
     with_reducible rfl
    rotate_left
    ·simp only [Act.put, sA_, sZ_, sS_, i64_w, i32_w]
     rfl
    refine pure_ (i := 3) (N := some 18) (v := ?_) (a' := ?_) #[true, false, false, true, false, false, false, false] rfl rfl (any_of HT_.out (by kernel_rfl)) (fun _ _ _ h => h) (Or.inl ⟨by rfl, ?_⟩) ?_ ?_
    rotate_left
    ·intro w'
     go_simp
     with_reducible rfl
    rotate_left
    ·simp only [Act.put, sA_, sZ_, sS_, i64_w, i32_w]
     rfl
    refine take_ (i := 1) (N := some 16) (v := ?_) (a' := ?_) #[true, true, false, true, false, false, false, false] rfl rfl (take_ofW HT_.out HW_.out (by kernel_rfl)) (fun _ _ _ h => h) (Or.inl ⟨by rfl, ?_⟩) hHeld ?_ ?_
    rotate_left
    ·rintro w' ⟨s0, s1, s2, s3, s4, s5, s6, s7, s8, s9, s10, s11, s12, s13, s14, s15⟩
     go_simp
     with_reducible rfl
    rotate_left
    ·simp only [Act.put, sA_, sZ_, sS_, i64_w, i32_w]
     rfl
    refine take_ (i := 4) (N := some 19) (v := ?_) (a' := ?_) #[true, true, false, true, true, false, false, false] rfl rfl (take_ofW HT_.out HW_.out (by kernel_rfl)) (fun _ _ _ h => h) (Or.inl ⟨by rfl, ?_⟩) hHeld ?_ ?_
    rotate_left
    ·rintro w' ⟨s0, s1, s2, s3, s4, s5, s6, s7, s8, s9, s10, s11, s12, s13, s14, s15⟩
     go_simp
     with_reducible rfl
    rotate_left
    ·simp only [Act.put, sA_, sZ_, sS_, i64_w, i32_w]
     rfl
    refine join_ (σ := Value × Value) 2 #[true, true, true, true, true, true, false, false] (fun s_ => [(17, s_.1), (20, s_.2)]) (fun s_ w' => (w'.cell? ⟨gb254, 0, none⟩ = some (.int .i64 a0_0) ∧ w'.cell? ⟨gb254, 1, none⟩ = some (.string a0_1) ∧ w'.cell? ⟨gb254, 2, none⟩ = some (.slice A0_2 l0_2.length c0_2) ∧ w'.cell? ⟨gb254, 3, none⟩ = some (.int .i64 a0_3) ∧ w'.cell? ⟨gb254, 4, none⟩ = some (.int .i64 a0_4) ∧ w'.cell? ⟨gb254, 5, none⟩ = some (.string a0_5) ∧ w'.cell? ⟨gb254, 6, none⟩ = some (.int .i64 a0_6) ∧ w'.cell? ⟨gb254, 7, none⟩ = some (.int .i64 a0_7) ∧ w'.cell? ⟨gb254, 8, none⟩ = some (.string a0_8) ∧ w'.cell? ⟨gb254, 9, none⟩ = some (.int .i64 a0_9) ∧ w'.cell? ⟨gb254, 10, none⟩ = some (.string a0_10) ∧ w'.cell? ⟨gb254, 11, none⟩ = some (.int .i64 a0_11) ∧ w'.cell? ⟨gb254, 12, none⟩ = some (.string a0_12) ∧ w'.cell? ⟨gb254, 13, none⟩ = some (.int .i64 a0_13) ∧ w'.cell? ⟨gb254, 14, none⟩ = some (.int .i64 a0_14) ∧ w'.cell? ⟨gb254, 15, none⟩ = some (.slice A0_15 l0_15.length c0_15)) ∧ (Kd.R Kd.string 9 w' w.heap.size (fun k_ => some k_ ≠ (s_.2 : Value).ownBlock) s_.1 y261) ∧ (Kd.R Kd.string 9 w' w.heap.size (fun k_ => some k_ ≠ (s_.1 : Value).ownBlock) s_.2 t264) ∧ (w'.heap[gb254]? = some (.cells #[.int .i64 a0_0, .string a0_1, .slice A0_2 l0_2.length c0_2, .int .i64 a0_3, .int .i64 a0_4, .string a0_5, .int .i64 a0_6, .int .i64 a0_7, .string a0_8, .int .i64 a0_9, .string a0_10, .int .i64 a0_11, .string a0_12, .int .i64 a0_13, .int .i64 a0_14, .slice A0_15 l0_15.length c0_15] 59 (0, 0))) ∧ (Below w.heap.size w w')) ?_ ?_
    rotate_left
    ·intro hCont
     refine two_ (i := 2) (j := 5) (Ni := some 17) (Nj := some 20) #[true, true, true, true, true, false, false, false] #[true, true, false, true, true, true, false, false] rfl rfl rfl rfl (two_of HT_.out (by kernel_rfl)) (by decide) (by decide) (fun K hK => ?_) (fun K hK => ?_)
     ·skip
      refine Kd.R_lit_step Kd.string _ 9 ?hg (N := 17) ?hd (xs := ([a0_10] : List ByteArray)) (inner := [.string a0_10]) (ok := fun _ => True) (okp := fun _ => True) ?hr ?hp (fun _ hk => hk) trivial (Below.refl _ _) (Nat.le_refl _) (by simp) ?_; (case hd => rfl); (case hg => rfl); (case hr => first | (go_simp; done) | (go_simp; rfl)); (case hp => exact (Reps.one (show Kd.M Kd.string _ _ _ a0_10 [.string a0_10] from rfl) (Reps.none _ _)))
      intro v262 w16 ho17 hb hg_ hnew_
      clear hg_ hnew_
      (first | rw [← Ny261.out] at ho17 | (simp only [Int.reduceToNat] at ho17; rw [← Ny261.out] at ho17))
      have n0_ := aK_ (Kd.R_lower ho17 (lZ_ (by repeat (first | (with_reducible first | exact HB.out | apply lA_ | apply pD | apply lD_ | refine lS_ ?_ GE254.out) | exact HB.out))))
      have n1_ := aK_ (bB (by (with_reducible repeat (first | refine bDN ?_ _ | refine bD ?_ | refine bA ?_ _)); exact BK254.out) hb)
      have n2_ := aK_ (lT_ (by repeat (first | (with_reducible first | exact HB.out | apply lA_ | apply pD | apply lD_ | refine lS_ ?_ GE254.out) | exact HB.out)) hb)
      clear BK254
      clear HB
      have HO263 := n0_
      have BK254 := n1_
      have HB := n2_
      clear n0_ n1_ n2_
      clear hb ho17
      refine hK.out _ _ ⟨(bC BK254.out 0).trans rfl, (bC BK254.out 1).trans rfl, (bC BK254.out 2).trans rfl, (bC BK254.out 3).trans rfl, (bC BK254.out 4).trans rfl, (bC BK254.out 5).trans rfl, (bC BK254.out 6).trans rfl, (bC BK254.out 7).trans rfl, (bC BK254.out 8).trans rfl, (bC BK254.out 9).trans rfl, (bC BK254.out 10).trans rfl, (bC BK254.out 11).trans rfl, (bC BK254.out 12).trans rfl, (bC BK254.out 13).trans rfl, (bC BK254.out 14).trans rfl, (bC BK254.out 15).trans rfl⟩ (fun hHeld => ?_)
      clear hK K
      refine norm_ (a' := ?_) ?_ ?_
      rotate_left
      ·show Act.put _ (some 17) _ = _
       simp only [Act.put, sA_, sZ_, sS_, i64_w, i32_w]
       rfl
      refine one_ (i := 5) (N := some 20) #[true, true, true, true, true, true, false, false] rfl rfl (one_of HT_.out (by kernel_rfl)) (by decide) (fun K hK => ?_)
      refine goes_ Tryd.func17 (by kernel_rfl) rfl #[.agg #[.int .i64 a0_11, .string a0_12, .int .i64 a0_13, .int .i64 a0_14, .slice A0_15 l0_15.length c0_15]] (by rfl) rfl rfl (by (try simp only [List.map_toArray, List.map_cons, List.map_nil]); first | done | rfl | (simp only [List.length_drop, List.length_take]; rfl)) ?_
      with_reducible refine (syntax_Expr_Vars.calls k a0_11 a0_12 a0_13 a0_14 _ _ l0_15 t264 _ ?side1 ?side2 A11.out).mono ?_
      (case side1 => repeat (first | exact (Kd.C_below HR0_15.out HB.out) | (with_reducible refine Kd.C_alloc ?_ _) | (with_reducible refine Kd.C_drewN ?_ _) | (with_reducible refine Kd.C_drew ?_)))
      (case side2 => exact HC0_15.out)
      rintro e w18 ⟨v265, rfl, ho0, hb⟩
      refine ⟨_, rfl, ?_⟩
      have n0_ := aK_ (Kd.R_elder' (by (with_reducible repeat (first | apply Kd.R_alloc | apply Kd.R_drewN | apply Kd.R_drew)); exact HO263.out) (Kd.R_base ho0) hb)
      have n1_ := aK_ (Kd.R_lower (Kd.R_new' ho0 (Kd.R_lt (by (with_reducible repeat (first | apply Kd.R_alloc | apply Kd.R_drewN | apply Kd.R_drew)); exact HO263.out))) (lZ_ (by repeat (first | (with_reducible first | exact HB.out | apply lA_ | apply pD | apply lD_ | refine lS_ ?_ GE254.out) | exact HB.out))))
      have n2_ := aK_ (bB (by (with_reducible repeat (first | refine bDN ?_ _ | refine bD ?_ | refine bA ?_ _)); exact BK254.out) hb)
      have n3_ := aK_ (lT_ (by repeat (first | (with_reducible first | exact HB.out | apply lA_ | apply pD | apply lD_ | refine lS_ ?_ GE254.out) | exact HB.out)) hb)
      clear HO263
      clear BK254
      clear HB
      have HO263 := n0_
      have HO266 := n1_
      have BK254 := n2_
      have HB := n3_
      clear n0_ n1_ n2_ n3_
      (try clear hb)
      (try clear hb2)
      (try clear hk)
      (try clear hi)
      (try clear ho0)
      refine hK.out _ _ ⟨(bC BK254.out 0).trans rfl, (bC BK254.out 1).trans rfl, (bC BK254.out 2).trans rfl, (bC BK254.out 3).trans rfl, (bC BK254.out 4).trans rfl, (bC BK254.out 5).trans rfl, (bC BK254.out 6).trans rfl, (bC BK254.out 7).trans rfl, (bC BK254.out 8).trans rfl, (bC BK254.out 9).trans rfl, (bC BK254.out 10).trans rfl, (bC BK254.out 11).trans rfl, (bC BK254.out 12).trans rfl, (bC BK254.out 13).trans rfl, (bC BK254.out 14).trans rfl, (bC BK254.out 15).trans rfl⟩ (fun hHeld => ?_)
      clear hK K
      refine norm_ (a' := ?_) ?_ ?_
      rotate_left
      ·show Act.put _ (some 20) _ = _
       simp only [Act.put, sA_, sZ_, sS_, i64_w, i32_w]
       rfl
      exact norm_ (by simp only [putAll, Act.put, sA_, sZ_, sS_]) (hCont (v262, v265) _ ⟨hHeld, (by (with_reducible repeat (first | apply Kd.R_alloc | apply Kd.R_drewN | apply Kd.R_drew)); exact Kd.R_mono HO263.out (fun _ hk => hk.2)), (by (with_reducible repeat (first | apply Kd.R_alloc | apply Kd.R_drewN | apply Kd.R_drew)); exact Kd.R_mono HO266.out (fun _ hk => hk.2)), (by (with_reducible repeat (first | refine bDN ?_ _ | refine bD ?_ | refine bA ?_ _)); exact BK254.out), (by repeat (first | (with_reducible first | exact HB.out | apply lA_ | apply pD | apply lD_ | refine lS_ ?_ GE254.out) | exact HB.out))⟩)
     ·skip
      refine goes_ Tryd.func17 (by kernel_rfl) rfl #[.agg #[.int .i64 a0_11, .string a0_12, .int .i64 a0_13, .int .i64 a0_14, .slice A0_15 l0_15.length c0_15]] (by rfl) rfl rfl (by (try simp only [List.map_toArray, List.map_cons, List.map_nil]); first | done | rfl | (simp only [List.length_drop, List.length_take]; rfl)) ?_
      with_reducible refine (syntax_Expr_Vars.calls k a0_11 a0_12 a0_13 a0_14 _ _ l0_15 t264 _ ?side1 ?side2 A11.out).mono ?_
      (case side1 => repeat (first | exact (Kd.C_below HR0_15.out HB.out) | (with_reducible refine Kd.C_alloc ?_ _) | (with_reducible refine Kd.C_drewN ?_ _) | (with_reducible refine Kd.C_drew ?_)))
      (case side2 => exact HC0_15.out)
      rintro e w16 ⟨v265, rfl, ho0, hb⟩
      refine ⟨_, rfl, ?_⟩
      have n0_ := aK_ (Kd.R_lower ho0 (lZ_ (by repeat (first | (with_reducible first | exact HB.out | apply lA_ | apply pD | apply lD_ | refine lS_ ?_ GE254.out) | exact HB.out))))
      have n1_ := aK_ (bB (by (with_reducible repeat (first | refine bDN ?_ _ | refine bD ?_ | refine bA ?_ _)); exact BK254.out) hb)
      have n2_ := aK_ (lT_ (by repeat (first | (with_reducible first | exact HB.out | apply lA_ | apply pD | apply lD_ | refine lS_ ?_ GE254.out) | exact HB.out)) hb)
      clear BK254
      clear HB
      have HO266 := n0_
      have BK254 := n1_
      have HB := n2_
      clear n0_ n1_ n2_
      (try clear hb)
      (try clear hb2)
      (try clear hk)
      (try clear hi)
      (try clear ho0)
      refine hK.out _ _ ⟨(bC BK254.out 0).trans rfl, (bC BK254.out 1).trans rfl, (bC BK254.out 2).trans rfl, (bC BK254.out 3).trans rfl, (bC BK254.out 4).trans rfl, (bC BK254.out 5).trans rfl, (bC BK254.out 6).trans rfl, (bC BK254.out 7).trans rfl, (bC BK254.out 8).trans rfl, (bC BK254.out 9).trans rfl, (bC BK254.out 10).trans rfl, (bC BK254.out 11).trans rfl, (bC BK254.out 12).trans rfl, (bC BK254.out 13).trans rfl, (bC BK254.out 14).trans rfl, (bC BK254.out 15).trans rfl⟩ (fun hHeld => ?_)
      clear hK K
      refine norm_ (a' := ?_) ?_ ?_
      rotate_left
      ·show Act.put _ (some 20) _ = _
       simp only [Act.put, sA_, sZ_, sS_, i64_w, i32_w]
       rfl
      refine one_ (i := 2) (N := some 17) #[true, true, true, true, true, true, false, false] rfl rfl (one_of HT_.out (by kernel_rfl)) (by decide) (fun K hK => ?_)
      refine Kd.R_lit_step Kd.string _ 9 ?hg (N := 17) ?hd (xs := ([a0_10] : List ByteArray)) (inner := [.string a0_10]) (ok := fun _ => True) (okp := fun _ => True) ?hr ?hp (fun _ hk => hk) trivial (Below.refl _ _) (Nat.le_refl _) (by simp) ?_; (case hd => rfl); (case hg => rfl); (case hr => first | (go_simp; done) | (go_simp; rfl)); (case hp => exact (Reps.one (show Kd.M Kd.string _ _ _ a0_10 [.string a0_10] from rfl) (Reps.none _ _)))
      intro v262 w17 ho18 hb hg_ hnew_
      clear hg_ hnew_
      (first | rw [← Ny261.out] at ho18 | (simp only [Int.reduceToNat] at ho18; rw [← Ny261.out] at ho18))
      have n0_ := aK_ (Kd.R_elder' (by (with_reducible repeat (first | apply Kd.R_alloc | apply Kd.R_drewN | apply Kd.R_drew)); exact HO266.out) (Kd.R_base ho18) hb)
      have n1_ := aK_ (Kd.R_lower (Kd.R_new' ho18 (Kd.R_lt (by (with_reducible repeat (first | apply Kd.R_alloc | apply Kd.R_drewN | apply Kd.R_drew)); exact HO266.out))) (lZ_ (by repeat (first | (with_reducible first | exact HB.out | apply lA_ | apply pD | apply lD_ | refine lS_ ?_ GE254.out) | exact HB.out))))
      have n2_ := aK_ (bB (by (with_reducible repeat (first | refine bDN ?_ _ | refine bD ?_ | refine bA ?_ _)); exact BK254.out) hb)
      have n3_ := aK_ (lT_ (by repeat (first | (with_reducible first | exact HB.out | apply lA_ | apply pD | apply lD_ | refine lS_ ?_ GE254.out) | exact HB.out)) hb)
      clear HO266
      clear BK254
      clear HB
      have HO266 := n0_
      have HO263 := n1_
      have BK254 := n2_
      have HB := n3_
      clear n0_ n1_ n2_ n3_
      clear hb ho18
      refine hK.out _ _ ⟨(bC BK254.out 0).trans rfl, (bC BK254.out 1).trans rfl, (bC BK254.out 2).trans rfl, (bC BK254.out 3).trans rfl, (bC BK254.out 4).trans rfl, (bC BK254.out 5).trans rfl, (bC BK254.out 6).trans rfl, (bC BK254.out 7).trans rfl, (bC BK254.out 8).trans rfl, (bC BK254.out 9).trans rfl, (bC BK254.out 10).trans rfl, (bC BK254.out 11).trans rfl, (bC BK254.out 12).trans rfl, (bC BK254.out 13).trans rfl, (bC BK254.out 14).trans rfl, (bC BK254.out 15).trans rfl⟩ (fun hHeld => ?_)
      clear hK K
      refine norm_ (a' := ?_) ?_ ?_
      rotate_left
      ·show Act.put _ (some 17) _ = _
       simp only [Act.put, sA_, sZ_, sS_, i64_w, i32_w]
       rfl
      exact norm_ (by simp only [putAll, Act.put, sA_, sZ_, sS_]) (hCont (v262, v265) _ ⟨hHeld, (by (with_reducible repeat (first | apply Kd.R_alloc | apply Kd.R_drewN | apply Kd.R_drew)); exact Kd.R_mono HO263.out (fun _ hk => hk.2)), (by (with_reducible repeat (first | apply Kd.R_alloc | apply Kd.R_drewN | apply Kd.R_drew)); exact Kd.R_mono HO266.out (fun _ hk => hk.2)), (by (with_reducible repeat (first | refine bDN ?_ _ | refine bD ?_ | refine bA ?_ _)); exact BK254.out), (by repeat (first | (with_reducible first | exact HB.out | apply lA_ | apply pD | apply lD_ | refine lS_ ?_ GE254.out) | exact HB.out))⟩)
    rintro ⟨v262, v265⟩ w19 ⟨hS_, h0_, h1_, h2_, h3_⟩
    have n0_ : Aside0 (Kd.R Kd.string 9 w19 w.heap.size (fun k_ => some k_ ≠ (v265 : Value).ownBlock) v262 y261) := ⟨h0_⟩
    have n1_ : Aside0 (Kd.R Kd.string 9 w19 w.heap.size (fun k_ => some k_ ≠ (v262 : Value).ownBlock) v265 t264) := ⟨h1_⟩
    have n2_ : Aside0 (w19.heap[gb254]? = some (.cells #[.int .i64 a0_0, .string a0_1, .slice A0_2 l0_2.length c0_2, .int .i64 a0_3, .int .i64 a0_4, .string a0_5, .int .i64 a0_6, .int .i64 a0_7, .string a0_8, .int .i64 a0_9, .string a0_10, .int .i64 a0_11, .string a0_12, .int .i64 a0_13, .int .i64 a0_14, .slice A0_15 l0_15.length c0_15] 59 (0, 0))) := ⟨h2_⟩
    have n3_ : Aside0 (Below w.heap.size w w19) := ⟨h3_⟩
    clear BK254
    clear HB
    clear h0_ h1_ h2_ h3_
    have HO263 := n0_
    have HO266 := n1_
    have BK254 := n2_
    have HB := n3_
    clear n0_ n1_ n2_ n3_
    have hHeld : w19.cell? ⟨gb254, 0, none⟩ = some (.int .i64 a0_0) ∧ w19.cell? ⟨gb254, 1, none⟩ = some (.string a0_1) ∧ w19.cell? ⟨gb254, 2, none⟩ = some (.slice A0_2 l0_2.length c0_2) ∧ w19.cell? ⟨gb254, 3, none⟩ = some (.int .i64 a0_3) ∧ w19.cell? ⟨gb254, 4, none⟩ = some (.int .i64 a0_4) ∧ w19.cell? ⟨gb254, 5, none⟩ = some (.string a0_5) ∧ w19.cell? ⟨gb254, 6, none⟩ = some (.int .i64 a0_6) ∧ w19.cell? ⟨gb254, 7, none⟩ = some (.int .i64 a0_7) ∧ w19.cell? ⟨gb254, 8, none⟩ = some (.string a0_8) ∧ w19.cell? ⟨gb254, 9, none⟩ = some (.int .i64 a0_9) ∧ w19.cell? ⟨gb254, 10, none⟩ = some (.string a0_10) ∧ w19.cell? ⟨gb254, 11, none⟩ = some (.int .i64 a0_11) ∧ w19.cell? ⟨gb254, 12, none⟩ = some (.string a0_12) ∧ w19.cell? ⟨gb254, 13, none⟩ = some (.int .i64 a0_13) ∧ w19.cell? ⟨gb254, 14, none⟩ = some (.int .i64 a0_14) ∧ w19.cell? ⟨gb254, 15, none⟩ = some (.slice A0_15 l0_15.length c0_15) := hS_
    obtain ⟨Ao21, co21, eo21⟩ := Kd.R_slice HO266.out
    (first | subst eo21 | (injection eo21 with f1_ f2_ f3_; have f4_ := f1_.symm; have f5_ := f3_.symm; clear f1_ f2_ f3_; subst f4_; subst f5_))
    refine norm_ (a' := ?_) ?_ ?_
    rotate_left
    ·simp only [putAll, Act.put, sA_, sZ_, sS_]
     rfl
    refine one_ (i := 6) (N := some 21) #[true, true, true, true, true, true, true, false] rfl rfl (one_of HT_.out (by kernel_rfl)) (by decide) (fun K hK => ?_)
    refine Kd.Rars Kd.string (w0 := w) w.heap.size (by rfl) (.tmp 17) (.tmp 20) 45 9 (.string ⟨#[]⟩) 16 rfl Tryd.underlying45 info9 rfl (by decide) (by omega) v262 y261 t264 _ _ _ (fun k_ => some k_ ≠ (.slice Ao21 t264.length co21 : Value).ownBlock) (fun _ => False) rfl rfl ?aO ?aR (fun _ _ h => h) (fun _ h => h.elim) ?aF ?aB ?aS ?aL ?_
    (case aR => repeat (first | exact (Kd.R_reads' HO266.out).2.2 | (with_reducible refine Kd.C_alloc ?_ _) | (with_reducible refine Kd.C_drewN ?_ _) | (with_reducible refine Kd.C_drew ?_)))
    (case aB => exact (by repeat (first | (with_reducible first | exact HB.out | apply lA_ | apply pD | apply lD_ | refine lS_ ?_ GE254.out) | exact HB.out)))
    (case aF => exact (fun k_ hk => Kd.fresh' (Kd.R_lt (by (with_reducible repeat (first | apply Kd.R_alloc | apply Kd.R_drewN | apply Kd.R_drew)); exact HO266.out)) k_ hk))
    (case aO => exact (by (with_reducible repeat (first | apply Kd.R_alloc | apply Kd.R_drewN | apply Kd.R_drew)); exact HO263.out))
    (case aS => exact (lZ_ (by repeat (first | (with_reducible first | exact HB.out | apply lA_ | apply pD | apply lD_ | refine lS_ ?_ GE254.out) | exact HB.out))))
    (case aL => have := LMc12.out; omega)
    intro v268 w20 ho hb hg hat
    rw [← Ny267.out] at ho
    have n0_ := aK_ (bG_ (g := gb254) (o := .cells #[.int .i64 a0_0, .string a0_1, .slice A0_2 l0_2.length c0_2, .int .i64 a0_3, .int .i64 a0_4, .string a0_5, .int .i64 a0_6, .int .i64 a0_7, .string a0_8, .int .i64 a0_9, .string a0_10, .int .i64 a0_11, .string a0_12, .int .i64 a0_13, .int .i64 a0_14, .slice A0_15 l0_15.length c0_15] 59 (0, 0)) (by (with_reducible repeat (first | refine bDN ?_ _ | refine bD ?_ | refine bA ?_ _)); exact BK254.out) hg (Kd.R_ne HO263.out BK254.out (by decide)))
    have n1_ := aK_ (Kd.R_after (ok := (fun _ => True)) (by (with_reducible repeat (first | apply Kd.R_alloc | apply Kd.R_drewN | apply Kd.R_drew)); exact Kd.R_mono HO266.out (fun _ hk => ⟨trivial, hk⟩)) hg hat)
    have n2_ := aK_ (hb)
    have n3_ := aK_ (ho)
    clear BK254
    clear HO266
    clear HB
    clear HO263
    have BK254 := n0_
    have HO266 := n1_
    have HB := n2_
    have HO269 := n3_
    clear n0_ n1_ n2_ n3_
    clear ho hb hg hat
    refine hK.out _ _ ⟨(bC BK254.out 0).trans rfl, (bC BK254.out 1).trans rfl, (bC BK254.out 2).trans rfl, (bC BK254.out 3).trans rfl, (bC BK254.out 4).trans rfl, (bC BK254.out 5).trans rfl, (bC BK254.out 6).trans rfl, (bC BK254.out 7).trans rfl, (bC BK254.out 8).trans rfl, (bC BK254.out 9).trans rfl, (bC BK254.out 10).trans rfl, (bC BK254.out 11).trans rfl, (bC BK254.out 12).trans rfl, (bC BK254.out 13).trans rfl, (bC BK254.out 14).trans rfl, (bC BK254.out 15).trans rfl⟩ (fun hHeld => ?_)
    clear hK K
    refine norm_ (a' := ?_) ?_ ?_
    rotate_left
    ·show Act.put _ (some 21) _ = _
     simp only [Act.put, sA_, sZ_, sS_, i64_w, i32_w]
     rfl
    refine pure_ (i := 7) (N := some 2) (v := ?_) (a' := ?_) #[true, true, true, true, true, true, true, true] rfl rfl (any_of HT_.out (by kernel_rfl)) (fun _ _ _ h => h) (Or.inl ⟨by rfl, ?_⟩) ?_ ?_
    rotate_left
    ·intro w'
     go_simp
     with_reducible rfl
    rotate_left
    ·simp only [Act.put, sA_, sZ_, sS_, i64_w, i32_w]
     rfl
    refine done_ (done_of HT_.out (by kernel_rfl)) ?_
    try go_wp2
    go_ret
    exact ⟨_, by first | rfl | (simp [errW_none, errW_some] <;> rfl) | (simp [*, errW_none, errW_some] <;> rfl), by (with_reducible repeat (first | apply Kd.R_alloc | apply Kd.R_drewN | apply Kd.R_drew)); exact Kd.R_mono HO269.out (fun _ hk => trivial), by repeat (first | (with_reducible first | exact HB.out | apply lA_ | apply pD | apply lD_ | refine lS_ ?_ GE254.out) | exact HB.out)⟩
   ·rw [if_neg c12] at H
    exact absurd H (by simp)
  ·rw [if_neg c10] at H
   have c10b0 : (a0_0 == 3) = false := beq_eq_false_iff_ne.mpr c10
   have c10b1 : (a0_0 != 3) = true := bne_iff_ne.mpr c10
   replace H := Option.bind_eq_some_iff.mp H
   obtain ⟨t270, A220, H⟩ := H
   replace H : (some t270) = some r := H
   have A22 := aK_ A220
   clear A220
   obtain rfl := Option.some.inj H
   go_enter Tryd.func15, Tryd.ntmps15
   go_wp2_with (first | ((with_reducible refine gate_dst (N := 1) rfl ?_); refine box_event ?hg (N := 1) ?hd (cs := #[.int .i64 a0_0, .string a0_1, .slice A0_2 l0_2.length c0_2, .int .i64 a0_3, .int .i64 a0_4, .string a0_5, .int .i64 a0_6, .int .i64 a0_7, .string a0_8, .int .i64 a0_9, .string a0_10, .int .i64 a0_11, .string a0_12, .int .i64 a0_13, .int .i64 a0_14, .slice A0_15 l0_15.length c0_15]) (t := 59) ?hr ?_; (case hd => rfl); (case hg => rfl); (case hr => first | (go_simp; done) | (go_simp; rfl)); intro gb254 hg w23 hbox hb; have n0_ := aK_ (lT_ (by repeat (first | (with_reducible first | exact HB.out | apply lA_ | apply pD | apply lD_) | exact HB.out)) hb); have n1_ := aK_ (hbox); have n2_ := aK_ ((by rw [hg]; exact (lZ_ (by repeat (first | (with_reducible first | exact HB.out | apply lA_ | apply pD | apply lD_) | exact HB.out))) : w.heap.size ≤ gb254)); have n3_ := aK_ ((by rw [hg]; exact (lZ_ (by repeat (first | (with_reducible first | exact HB.out | apply lA_ | apply pD | apply lD_) | exact HB.out))) : w.heap.size ≤ gb254)); clear HB; have HB := n0_; have BK254 := n1_; have GW254 := n2_; have GE254 := n3_; clear n0_ n1_ n2_ n3_; clear hb hbox hg; have hcz24_0 : w23.cell? ⟨gb254, 0, none⟩ = some (.int .i64 a0_0) := (bC BK254.out 0).trans rfl; have hcz24_1 : w23.cell? ⟨gb254, 1, none⟩ = some (.string a0_1) := (bC BK254.out 1).trans rfl; have hcz24_2 : w23.cell? ⟨gb254, 2, none⟩ = some (.slice A0_2 l0_2.length c0_2) := (bC BK254.out 2).trans rfl; have hcz24_3 : w23.cell? ⟨gb254, 3, none⟩ = some (.int .i64 a0_3) := (bC BK254.out 3).trans rfl; have hcz24_4 : w23.cell? ⟨gb254, 4, none⟩ = some (.int .i64 a0_4) := (bC BK254.out 4).trans rfl; have hcz24_5 : w23.cell? ⟨gb254, 5, none⟩ = some (.string a0_5) := (bC BK254.out 5).trans rfl; have hcz24_6 : w23.cell? ⟨gb254, 6, none⟩ = some (.int .i64 a0_6) := (bC BK254.out 6).trans rfl; have hcz24_7 : w23.cell? ⟨gb254, 7, none⟩ = some (.int .i64 a0_7) := (bC BK254.out 7).trans rfl; have hcz24_8 : w23.cell? ⟨gb254, 8, none⟩ = some (.string a0_8) := (bC BK254.out 8).trans rfl; have hcz24_9 : w23.cell? ⟨gb254, 9, none⟩ = some (.int .i64 a0_9) := (bC BK254.out 9).trans rfl; have hcz24_10 : w23.cell? ⟨gb254, 10, none⟩ = some (.string a0_10) := (bC BK254.out 10).trans rfl; have hcz24_11 : w23.cell? ⟨gb254, 11, none⟩ = some (.int .i64 a0_11) := (bC BK254.out 11).trans rfl; have hcz24_12 : w23.cell? ⟨gb254, 12, none⟩ = some (.string a0_12) := (bC BK254.out 12).trans rfl; have hcz24_13 : w23.cell? ⟨gb254, 13, none⟩ = some (.int .i64 a0_13) := (bC BK254.out 13).trans rfl; have hcz24_14 : w23.cell? ⟨gb254, 14, none⟩ = some (.int .i64 a0_14) := (bC BK254.out 14).trans rfl; have hcz24_15 : w23.cell? ⟨gb254, 15, none⟩ = some (.slice A0_15 l0_15.length c0_15) := (bC BK254.out 15).trans rfl; have hfz24_0 := bF BK254.out 0; have hfz24_1 := bF BK254.out 1; have hfz24_2 := bF BK254.out 2; have hfz24_3 := bF BK254.out 3; have hfz24_4 := bF BK254.out 4; have hfz24_5 := bF BK254.out 5; have hfz24_6 := bF BK254.out 6; have hfz24_7 := bF BK254.out 7; have hfz24_8 := bF BK254.out 8; have hfz24_9 := bF BK254.out 9; have hfz24_10 := bF BK254.out 10; have hfz24_11 := bF BK254.out 11; have hfz24_12 := bF BK254.out 12; have hfz24_13 := bF BK254.out 13; have hfz24_14 := bF BK254.out 14; have hfz24_15 := bF BK254.out 15) | ((with_reducible refine gate_callee (f := 14) rfl ?_); refine goesL_ (some 24) rfl rfl Tryd.func14 (by kernel_rfl) rfl #[.agg #[.string a0_1, .slice A0_2 l0_2.length c0_2]] rfl (by (try simp only [List.map_toArray, List.map_cons, List.map_nil]); first | done | rfl | (simp only [List.length_drop, List.length_take]; rfl)) ?_; (with_reducible refine (syntax_Atom_Vars.calls k a0_1 _ _ l0_2 t270 _ ?side1 ?side2 A22.out).mono ?_); (case side1 => repeat (first | exact (Kd.C_below HR0_2.out HB.out) | (with_reducible refine Kd.C_alloc ?_ _) | (with_reducible refine Kd.C_drewN ?_ _) | (with_reducible refine Kd.C_drew ?_))); (case side2 => exact HC0_2.out); rintro e w25 ⟨v271, rfl, ho0, hb⟩; refine ⟨_, rfl, ?_⟩; have n0_ := aK_ (Kd.R_lower ho0 (lZ_ (by repeat (first | (with_reducible first | exact HB.out | apply lA_ | apply pD | apply lD_ | refine lS_ ?_ GE254.out) | exact HB.out)))); have n1_ := aK_ (bB (by (with_reducible repeat (first | refine bDN ?_ _ | refine bD ?_ | refine bA ?_ _)); exact BK254.out) hb); have n2_ := aK_ (lT_ (by repeat (first | (with_reducible first | exact HB.out | apply lA_ | apply pD | apply lD_ | refine lS_ ?_ GE254.out) | exact HB.out)) hb); clear BK254; clear HB; have HO272 := n0_; have BK254 := n1_; have HB := n2_; clear n0_ n1_ n2_; (try clear hb); (try clear hb2); (try clear hk); (try clear hi); (try clear ho0)))
   go_ret
   exact ⟨_, by first | rfl | (simp [errW_none, errW_some] <;> rfl) | (simp [*, errW_none, errW_some] <;> rfl), by (with_reducible repeat (first | apply Kd.R_alloc | apply Kd.R_drewN | apply Kd.R_drew)); exact HO272.out, by repeat (first | (with_reducible first | exact HB.out | apply lA_ | apply pD | apply lD_ | refine lS_ ?_ GE254.out) | exact HB.out)⟩
def ergolaw13_inner.f : Nat → Int → ByteArray → Int → Int → List (S57) → Option (List ByteArray)
 | 0, _, _, _, _, _ => none
 | k + 1, a0_0, a0_1, a0_2, a0_3, l0_4 => if (l0_4.length : Int) = 2 then (if 0 < (l0_4.length : Int) then ((ergolaw13_inner.f k ((rd_T57 l0_4 0).f0.f0) ((rd_T57 l0_4 0).f0.f1) ((rd_T57 l0_4 0).f0.f2) ((rd_T57 l0_4 0).f1) ((rd_T57 l0_4 0).f2)).bind fun t275 => (if 1 < (l0_4.length : Int) then ((ergolaw13_inner.f k ((rd_T57 l0_4 1).f0.f0) ((rd_T57 l0_4 1).f0.f1) ((rd_T57 l0_4 1).f0.f2) ((rd_T57 l0_4 1).f1) ((rd_T57 l0_4 1).f2)).bind fun t279 => (if t275.length + t279.length < 8796093022208 then (some (t275 ++ t279)) else (none))) else (none))) else (none)) else ((ergolaw13_names.f k (([(⟨a0_0, a0_1, a0_2⟩ : S53)] : List (S53)))).bind fun t288 => (some t288))
def ergolaw13_inner.T3 : Bool × List (List Nat × List Nat) := (true, [([], []), ([0], [0]), ([1], [1]), ([2], [2]), ([3], [3]), ([], []), ([5], [5]), ([6], [6]), ([7], [7]), ([8, 4], [8]), ([4, 9, 9], [4, 9]), ([10, 10, 0, 1, 2, 3, 4, 5, 6, 7, 8, 9, 10], [10])])
def ergolaw13_inner.B3 : List Nat := [0, 1, 3, 7, 15, 0, 32, 96, 224, 511, 1023, 2047]
theorem ergolaw13_inner.tab3 : rtab .any (opsOf Tryd.f18 3) = ergolaw13_inner.T3 := by kernel_rfl
theorem ergolaw13_inner.bits3 : waitsOk ergolaw13_inner.T3.2 ergolaw13_inner.B3 = true := by kernel_rfl
set_option maxHeartbeats 8000000 in
set_option maxRecDepth 100000 in
theorem ergolaw13_inner.calls (k : Nat) : ∀ (a0_0 : Int) (a0_1 : ByteArray) (a0_2 : Int) (a0_3 : Int) (A0_4 : Option Addr) (c0_4 : Nat) (l0_4 : List (S57)) (r : List ByteArray) (w : World) (hr0_4 : Kd.C k57 w A0_4 l0_4.length l0_4) (hc0_4 : l0_4.length ≤ c0_4) (h : ergolaw13_inner.f k a0_0 a0_1 a0_2 a0_3 l0_4 = some r),
  Calls Tryd.prog 18 #[.agg #[.int .i64 a0_0, .string a0_1, .int .i64 a0_2, .int .i64 a0_3, .slice A0_4 l0_4.length c0_4]] w fun e w' => ∃ v0_ : Value, e = .returned (v0_) ∧ Kd.R Kd.string 9 w' w.heap.size (fun _ => True) v0_ r ∧ Below w.heap.size w w' := by
 induction k using Nat.strongRecOn with
 | _ k ih =>
 intro a0_0 a0_1 a0_2 a0_3 A0_4 c0_4 l0_4 r w hr0_4 hc0_4 h
 cases k with
 | zero => exact absurd h (by simp [ergolaw13_inner.f])
 | succ k =>
 simp only [ergolaw13_inner.f] at h
 have hu57 := Tryd.underlying57
 have hu53 := Tryd.underlying53
 have HR0_4 := aK_ hr0_4
 have HC0_4 := aK_ hc0_4
 clear hr0_4 hc0_4
 have HB := aK_ (Below.refl w.heap.size w)
 have H : (if (l0_4.length : Int) = 2 then (if 0 < (l0_4.length : Int) then ((ergolaw13_inner.f k ((rd_T57 l0_4 0).f0.f0) ((rd_T57 l0_4 0).f0.f1) ((rd_T57 l0_4 0).f0.f2) ((rd_T57 l0_4 0).f1) ((rd_T57 l0_4 0).f2)).bind fun t275 => (if 1 < (l0_4.length : Int) then ((ergolaw13_inner.f k ((rd_T57 l0_4 1).f0.f0) ((rd_T57 l0_4 1).f0.f1) ((rd_T57 l0_4 1).f0.f2) ((rd_T57 l0_4 1).f1) ((rd_T57 l0_4 1).f2)).bind fun t279 => (if t275.length + t279.length < 8796093022208 then (some (t275 ++ t279)) else (none))) else (none))) else (none)) else ((ergolaw13_names.f k (([(⟨a0_0, a0_1, a0_2⟩ : S53)] : List (S53)))).bind fun t288 => (some t288))) = some r := h
 clear h
 by_cases c2 : (l0_4.length : Int) = 2
 ·rw [if_pos c2] at H
  have c2b0 : ((l0_4.length : Int) == 2) = true := beq_iff_eq.mpr c2
  have c2b1 : ((l0_4.length : Int) != 2) = false := bne_eq_false_iff_eq.mpr c2
  clear c2
  by_cases c3 : 0 < (l0_4.length : Int)
  ·rw [if_pos c3] at H
   have c3b0 : decide (0 < (l0_4.length : Int)) = true := decide_eq_true c3
   have c3b1 : decide (0 < l0_4.length) = true := decide_eq_true (by omega)
   clear c3
   replace H := Option.bind_eq_some_iff.mp H
   obtain ⟨t275, A40, H⟩ := H
   replace H : (if 1 < (l0_4.length : Int) then ((ergolaw13_inner.f k ((rd_T57 l0_4 1).f0.f0) ((rd_T57 l0_4 1).f0.f1) ((rd_T57 l0_4 1).f0.f2) ((rd_T57 l0_4 1).f1) ((rd_T57 l0_4 1).f2)).bind fun t279 => (if t275.length + t279.length < 8796093022208 then (some (t275 ++ t279)) else (none))) else (none)) = some r := H
   have A4 := aK_ A40
   clear A40
   by_cases c5 : 1 < (l0_4.length : Int)
   ·rw [if_pos c5] at H
    have c5b0 : decide (1 < (l0_4.length : Int)) = true := decide_eq_true c5
    have c5b1 : decide (1 < l0_4.length) = true := decide_eq_true (by omega)
    clear c5
    replace H := Option.bind_eq_some_iff.mp H
    obtain ⟨t279, A60, H⟩ := H
    replace H : (if t275.length + t279.length < 8796093022208 then (some (t275 ++ t279)) else (none)) = some r := H
    have A6 := aK_ A60
    clear A60
    by_cases c7 : t275.length + t279.length < 8796093022208
    ·rw [if_pos c7] at H
     have LMc7 := aK_ c7
     clear c7
     obtain ⟨y282, hy282⟩ : ∃ y_ : List ByteArray, y_ = (t275 ++ t279) := ⟨_, rfl⟩
     replace H : (some y282) = some r := by first | (rw [hy282]; with_reducible exact H) | (have H2_ := (Option.bind_some _ _).symm.trans H; rw [hy282]; with_reducible exact H2_) | (have H2_ := (Option.bind_some _ _).symm.trans H; with_reducible exact H2_) | with_reducible exact H | (rw [hy282]; exact H) | exact H
     have Ny282 := aK_ hy282
     clear hy282
     obtain rfl := Option.some.inj H
     go_enter Tryd.func18, Tryd.ntmps18
     try go_wp2_with (first | ((with_reducible refine gate_dst (N := 1) rfl ?_); refine box_event ?hg (N := 1) ?hd (cs := #[.int .i64 a0_0, .string a0_1, .int .i64 a0_2, .int .i64 a0_3, .slice A0_4 l0_4.length c0_4]) (t := 57) ?hr ?_; (case hd => rfl); (case hg => rfl); (case hr => first | (go_simp; done) | (go_simp; rfl)); intro gb273 hg w8 hbox hb; have n0_ := aK_ (lT_ (by repeat (first | (with_reducible first | exact HB.out | apply lA_ | apply pD | apply lD_) | exact HB.out)) hb); have n1_ := aK_ (hbox); have n2_ := aK_ ((by rw [hg]; exact (lZ_ (by repeat (first | (with_reducible first | exact HB.out | apply lA_ | apply pD | apply lD_) | exact HB.out))) : w.heap.size ≤ gb273)); have n3_ := aK_ ((by rw [hg]; exact (lZ_ (by repeat (first | (with_reducible first | exact HB.out | apply lA_ | apply pD | apply lD_) | exact HB.out))) : w.heap.size ≤ gb273)); clear HB; have HB := n0_; have BK273 := n1_; have GW273 := n2_; have GE273 := n3_; clear n0_ n1_ n2_ n3_; clear hb hbox hg; have hcz9_0 : w8.cell? ⟨gb273, 0, none⟩ = some (.int .i64 a0_0) := (bC BK273.out 0).trans rfl; have hcz9_1 : w8.cell? ⟨gb273, 1, none⟩ = some (.string a0_1) := (bC BK273.out 1).trans rfl; have hcz9_2 : w8.cell? ⟨gb273, 2, none⟩ = some (.int .i64 a0_2) := (bC BK273.out 2).trans rfl; have hcz9_3 : w8.cell? ⟨gb273, 3, none⟩ = some (.int .i64 a0_3) := (bC BK273.out 3).trans rfl; have hcz9_4 : w8.cell? ⟨gb273, 4, none⟩ = some (.slice A0_4 l0_4.length c0_4) := (bC BK273.out 4).trans rfl; have hfz9_0 := bF BK273.out 0; have hfz9_1 := bF BK273.out 1; have hfz9_2 := bF BK273.out 2; have hfz9_3 := bF BK273.out 3; have hfz9_4 := bF BK273.out 4))
     have n0_ := aK_ (bD BK273.out)
     have n1_ := aK_ (lD_ HB.out)
     clear BK273
     clear HB
     have BK273 := n0_
     have HB := n1_
     clear n0_ n1_
     have p274 : 0 ≤ (0 : Int) := (by omega)
     have q274 : 0 < (l0_4.length : Int) := of_decide_eq_true (by first | (with_reducible assumption) | assumption)
     obtain ⟨ad274, A274_4, c274_4, e274, hx274_0, hx274_1, hx274_2, hx274_3, hx274_4, hl274_4, hi274_4⟩ := at_T57 HR0_4.out 0 p274 q274
     have hw274_4 := hx274_4
     (try rw [show ((0 : Int)).toNat = 0 from rfl] at hw274_4)
     (try rw [show 0 * 5 = 0 from rfl] at hw274_4)
     (try rw [Addr.add_zero'] at hw274_4)
     have hw274_3 := hx274_3
     (try rw [show ((0 : Int)).toNat = 0 from rfl] at hw274_3)
     (try rw [show 0 * 5 = 0 from rfl] at hw274_3)
     (try rw [Addr.add_zero'] at hw274_3)
     have hw274_2 := hx274_2
     (try rw [show ((0 : Int)).toNat = 0 from rfl] at hw274_2)
     (try rw [show 0 * 5 = 0 from rfl] at hw274_2)
     (try rw [Addr.add_zero'] at hw274_2)
     have hw274_1 := hx274_1
     (try rw [show ((0 : Int)).toNat = 0 from rfl] at hw274_1)
     (try rw [show 0 * 5 = 0 from rfl] at hw274_1)
     (try rw [Addr.add_zero'] at hw274_1)
     have hw274_0 := hx274_0
     (try rw [show ((0 : Int)).toNat = 0 from rfl] at hw274_0)
     (try rw [show 0 * 5 = 0 from rfl] at hw274_0)
     (try rw [Addr.add_zero'] at hw274_0)
     cases e274
     have qi274 : (0 < l0_4.length) = True := eq_true (by omega)
     (try rw [show ((0 : Int)).toNat = 0 from rfl] at hx274_0)
     (try rw [show 0 * 5 = 0 from rfl] at hx274_0)
     (try rw [Addr.add_zero'] at hx274_0)
     (try rw [show ((0 : Int)).toNat = 0 from rfl] at hx274_1)
     (try rw [show 0 * 5 = 0 from rfl] at hx274_1)
     (try rw [Addr.add_zero'] at hx274_1)
     (try rw [show ((0 : Int)).toNat = 0 from rfl] at hx274_2)
     (try rw [show 0 * 5 = 0 from rfl] at hx274_2)
     (try rw [Addr.add_zero'] at hx274_2)
     (try rw [show ((0 : Int)).toNat = 0 from rfl] at hx274_3)
     (try rw [show 0 * 5 = 0 from rfl] at hx274_3)
     (try rw [Addr.add_zero'] at hx274_3)
     (try rw [show ((0 : Int)).toNat = 0 from rfl] at hx274_4)
     (try rw [show 0 * 5 = 0 from rfl] at hx274_4)
     (try rw [Addr.add_zero'] at hx274_4)
     replace hx274_0 := (HB.out.cell (wb_ w _ hx274_0)).trans hx274_0
     replace hx274_1 := (HB.out.cell (wb_ w _ hx274_1)).trans hx274_1
     replace hx274_2 := (HB.out.cell (wb_ w _ hx274_2)).trans hx274_2
     replace hx274_3 := (HB.out.cell (wb_ w _ hx274_3)).trans hx274_3
     replace hx274_4 := (HB.out.cell (wb_ w _ hx274_4)).trans hx274_4
     have HR274_4 := aK_ hi274_4
     have HC274_4 := aK_ hl274_4
     clear hi274_4 hl274_4
     replace p274 := eq_true p274
     replace q274 := eq_true q274
     have p278 : 0 ≤ (1 : Int) := (by omega)
     have q278 : 1 < (l0_4.length : Int) := of_decide_eq_true (by first | (with_reducible assumption) | assumption)
     obtain ⟨ad278, A278_4, c278_4, e278, hx278_0, hx278_1, hx278_2, hx278_3, hx278_4, hl278_4, hi278_4⟩ := at_T57 HR0_4.out 1 p278 q278
     have hw278_4 := hx278_4
     (try rw [show ((1 : Int)).toNat = 1 from rfl] at hw278_4)
     (try rw [show 1 * 5 = 5 from rfl] at hw278_4)
     (try simp only [Nat.reduceMul, Nat.reduceEqDiff, Go.Addr.add, ↓reduceIte] at hw278_4)
     have hw278_3 := hx278_3
     (try rw [show ((1 : Int)).toNat = 1 from rfl] at hw278_3)
     (try rw [show 1 * 5 = 5 from rfl] at hw278_3)
     (try simp only [Nat.reduceMul, Nat.reduceEqDiff, Go.Addr.add, ↓reduceIte] at hw278_3)
     have hw278_2 := hx278_2
     (try rw [show ((1 : Int)).toNat = 1 from rfl] at hw278_2)
     (try rw [show 1 * 5 = 5 from rfl] at hw278_2)
     (try simp only [Nat.reduceMul, Nat.reduceEqDiff, Go.Addr.add, ↓reduceIte] at hw278_2)
     have hw278_1 := hx278_1
     (try rw [show ((1 : Int)).toNat = 1 from rfl] at hw278_1)
     (try rw [show 1 * 5 = 5 from rfl] at hw278_1)
     (try simp only [Nat.reduceMul, Nat.reduceEqDiff, Go.Addr.add, ↓reduceIte] at hw278_1)
     have hw278_0 := hx278_0
     (try rw [show ((1 : Int)).toNat = 1 from rfl] at hw278_0)
     (try rw [show 1 * 5 = 5 from rfl] at hw278_0)
     (try simp only [Nat.reduceMul, Nat.reduceEqDiff, Go.Addr.add, ↓reduceIte] at hw278_0)
     obtain rfl : ad274 = ad278 := (by injection e278)
     (try simp only [show (1 : Int).toNat = 1 from rfl, Nat.reduceMul, Nat.reduceEqDiff, Go.Addr.add, ↓reduceIte] at hx278_0)
     (try simp only [show (1 : Int).toNat = 1 from rfl, Nat.reduceMul, Nat.reduceEqDiff, Go.Addr.add, ↓reduceIte] at hx278_1)
     (try simp only [show (1 : Int).toNat = 1 from rfl, Nat.reduceMul, Nat.reduceEqDiff, Go.Addr.add, ↓reduceIte] at hx278_2)
     (try simp only [show (1 : Int).toNat = 1 from rfl, Nat.reduceMul, Nat.reduceEqDiff, Go.Addr.add, ↓reduceIte] at hx278_3)
     (try simp only [show (1 : Int).toNat = 1 from rfl, Nat.reduceMul, Nat.reduceEqDiff, Go.Addr.add, ↓reduceIte] at hx278_4)
     have qi278 : (1 < l0_4.length) = True := eq_true (by omega)
     (try rw [show ((1 : Int)).toNat = 1 from rfl] at hx278_0)
     (try rw [show 1 * 5 = 5 from rfl] at hx278_0)
     (try rw [show ((1 : Int)).toNat = 1 from rfl] at hx278_1)
     (try rw [show 1 * 5 = 5 from rfl] at hx278_1)
     (try rw [show ((1 : Int)).toNat = 1 from rfl] at hx278_2)
     (try rw [show 1 * 5 = 5 from rfl] at hx278_2)
     (try rw [show ((1 : Int)).toNat = 1 from rfl] at hx278_3)
     (try rw [show 1 * 5 = 5 from rfl] at hx278_3)
     (try rw [show ((1 : Int)).toNat = 1 from rfl] at hx278_4)
     (try rw [show 1 * 5 = 5 from rfl] at hx278_4)
     replace hx278_0 := (HB.out.cell (wb_ w _ hx278_0)).trans hx278_0
     replace hx278_1 := (HB.out.cell (wb_ w _ hx278_1)).trans hx278_1
     replace hx278_2 := (HB.out.cell (wb_ w _ hx278_2)).trans hx278_2
     replace hx278_3 := (HB.out.cell (wb_ w _ hx278_3)).trans hx278_3
     replace hx278_4 := (HB.out.cell (wb_ w _ hx278_4)).trans hx278_4
     have HR278_4 := aK_ hi278_4
     have HC278_4 := aK_ hl278_4
     clear hi278_4 hl278_4
     replace p278 := eq_true p278
     replace q278 := eq_true q278
     refine start_ (n := 12) (S := fun w' => w'.cell? ⟨gb273, 0, none⟩ = some (.int .i64 a0_0) ∧ w'.cell? ⟨gb273, 1, none⟩ = some (.string a0_1) ∧ w'.cell? ⟨gb273, 2, none⟩ = some (.int .i64 a0_2) ∧ w'.cell? ⟨gb273, 3, none⟩ = some (.int .i64 a0_3) ∧ w'.cell? ⟨gb273, 4, none⟩ = some (.slice (some ad274) l0_4.length c0_4) ∧ w'.cell? ad274 = some (.int .i64 ((rd_T57 l0_4 0).f0.f0)) ∧ w'.cell? ⟨ad274.block, ad274.off + 1, none⟩ = some (.string ((rd_T57 l0_4 0).f0.f1)) ∧ w'.cell? ⟨ad274.block, ad274.off + 2, none⟩ = some (.int .i64 ((rd_T57 l0_4 0).f0.f2)) ∧ w'.cell? ⟨ad274.block, ad274.off + 3, none⟩ = some (.int .i64 ((rd_T57 l0_4 0).f1)) ∧ w'.cell? ⟨ad274.block, ad274.off + 4, none⟩ = some (.slice A274_4 ((rd_T57 l0_4 0).f2).length c274_4) ∧ w'.cell? ⟨ad274.block, ad274.off + 5, none⟩ = some (.int .i64 ((rd_T57 l0_4 1).f0.f0)) ∧ w'.cell? ⟨ad274.block, ad274.off + 5 + 1, none⟩ = some (.string ((rd_T57 l0_4 1).f0.f1)) ∧ w'.cell? ⟨ad274.block, ad274.off + 5 + 2, none⟩ = some (.int .i64 ((rd_T57 l0_4 1).f0.f2)) ∧ w'.cell? ⟨ad274.block, ad274.off + 5 + 3, none⟩ = some (.int .i64 ((rd_T57 l0_4 1).f1)) ∧ w'.cell? ⟨ad274.block, ad274.off + 5 + 4, none⟩ = some (.slice A278_4 ((rd_T57 l0_4 1).f2).length c278_4)) (ds := []) #[false, false, false, false, false, false, false, false, false, false, false, false] (by kernel_rfl) rfl rfl ⟨(bC BK273.out 0).trans rfl, (bC BK273.out 1).trans rfl, (bC BK273.out 2).trans rfl, (bC BK273.out 3).trans rfl, (bC BK273.out 4).trans rfl, ((HB.out.cell (wb_ w _ hw274_0)).trans hw274_0), ((HB.out.cell (wb_ w _ hw274_1)).trans hw274_1), ((HB.out.cell (wb_ w _ hw274_2)).trans hw274_2), ((HB.out.cell (wb_ w _ hw274_3)).trans hw274_3), ((HB.out.cell (wb_ w _ hw274_4)).trans hw274_4), ((HB.out.cell (wb_ w _ hw278_0)).trans hw278_0), ((HB.out.cell (wb_ w _ hw278_1)).trans hw278_1), ((HB.out.cell (wb_ w _ hw278_2)).trans hw278_2), ((HB.out.cell (wb_ w _ hw278_3)).trans hw278_3), ((HB.out.cell (wb_ w _ hw278_4)).trans hw278_4)⟩ (fun hHeld => ?_); refine with_tabW ergolaw13_inner.tab3 ergolaw13_inner.bits3 (fun HT_ HW_ => ?_)
     generalize w8.drew = w10 at BK273 HB HR274_4 HR278_4 hx274_0 hx274_1 hx274_2 hx274_3 hx274_4 hx278_0 hx278_1 hx278_2 hx278_3 hx278_4 hHeld ⊢
     refine pure_ (i := 0) (N := some 11) (v := ?_) (a' := ?_) #[true, false, false, false, false, false, false, false, false, false, false, false] rfl rfl (any_of HT_.out (by kernel_rfl)) (fun _ _ _ h => h) (Or.inl ⟨by rfl, ?_⟩) ?_ ?_
     rotate_left
     ·intro w'
      go_simp
      with_reducible rfl
     rotate_left
     ·simp only [Act.put, sA_, sZ_, sS_, i64_w, i32_w]
      rfl
     refine pure_ (i := 5) (N := some 16) (v := ?_) (a' := ?_) #[true, false, false, false, false, true, false, false, false, false, false, false] rfl rfl (any_of HT_.out (by kernel_rfl)) (fun _ _ _ h => h) (Or.inl ⟨by rfl, ?_⟩) ?_ ?_
     rotate_left
     ·intro w'
      go_simp
      with_reducible rfl
     rotate_left
     ·simp only [Act.put, sA_, sZ_, sS_, i64_w, i32_w]
      rfl
     refine take_ (i := 1) (N := some 12) (v := ?_) (a' := ?_) #[true, true, false, false, false, true, false, false, false, false, false, false] rfl rfl (take_ofW HT_.out HW_.out (by kernel_rfl)) (fun _ _ _ h => h) (Or.inl ⟨by rfl, ?_⟩) hHeld ?_ ?_
     rotate_left
     ·rintro w' ⟨s0, s1, s2, s3, s4, s5, s6, s7, s8, s9, s10, s11, s12, s13, s14⟩
      go_simp
      with_reducible rfl
     rotate_left
     ·simp only [Act.put, sA_, sZ_, sS_, i64_w, i32_w]
      rfl
     refine pure_ (i := 2) (N := some 13) (v := ?_) (a' := ?_) #[true, true, true, false, false, true, false, false, false, false, false, false] rfl rfl (any_of HT_.out (by kernel_rfl)) (fun _ _ _ h => h) (Or.inl ⟨by rfl, ?_⟩) ?_ ?_
     rotate_left
     ·intro w'
      go_simp
      with_reducible rfl
     rotate_left
     ·simp only [Act.put, sA_, sZ_, sS_, i64_w, i32_w]
      rfl
     refine take_ (i := 3) (N := some 14) (v := ?_) (a' := ?_) #[true, true, true, true, false, true, false, false, false, false, false, false] rfl rfl (take_ofW HT_.out HW_.out (by kernel_rfl)) (fun _ _ _ h => h) (Or.inl ⟨by rfl, ?_⟩) hHeld ?_ ?_
     rotate_left
     ·rintro w' ⟨s0, s1, s2, s3, s4, s5, s6, s7, s8, s9, s10, s11, s12, s13, s14⟩
      go_simp
      with_reducible rfl
     rotate_left
     ·simp only [Act.put, sA_, sZ_, sS_, i64_w, i32_w]
      rfl
     refine take_ (i := 6) (N := some 17) (v := ?_) (a' := ?_) #[true, true, true, true, false, true, true, false, false, false, false, false] rfl rfl (take_ofW HT_.out HW_.out (by kernel_rfl)) (fun _ _ _ h => h) (Or.inl ⟨by rfl, ?_⟩) hHeld ?_ ?_
     rotate_left
     ·rintro w' ⟨s0, s1, s2, s3, s4, s5, s6, s7, s8, s9, s10, s11, s12, s13, s14⟩
      go_simp
      with_reducible rfl
     rotate_left
     ·simp only [Act.put, sA_, sZ_, sS_, i64_w, i32_w]
      rfl
     refine pure_ (i := 7) (N := some 18) (v := ?_) (a' := ?_) #[true, true, true, true, false, true, true, true, false, false, false, false] rfl rfl (any_of HT_.out (by kernel_rfl)) (fun _ _ _ h => h) (Or.inl ⟨by rfl, ?_⟩) ?_ ?_
     rotate_left
     ·intro w'
      go_simp
      with_reducible rfl
     rotate_left
     ·simp only [Act.put, sA_, sZ_, sS_, i64_w, i32_w]
      rfl
     refine take_ (i := 8) (N := some 19) (v := ?_) (a' := ?_) #[true, true, true, true, false, true, true, true, true, false, false, false] rfl rfl (take_ofW HT_.out HW_.out (by kernel_rfl)) (fun _ _ _ h => h) (Or.inl ⟨by rfl, ?_⟩) hHeld ?_ ?_
     rotate_left
     ·rintro w' ⟨s0, s1, s2, s3, s4, s5, s6, s7, s8, s9, s10, s11, s12, s13, s14⟩
      go_simp
      with_reducible rfl
     rotate_left
     ·simp only [Act.put, sA_, sZ_, sS_, i64_w, i32_w]
      rfl
     refine one_ (i := 4) (N := some 15) #[true, true, true, true, true, true, true, true, true, false, false, false] rfl rfl (one_of HT_.out (by kernel_rfl)) (by decide) (fun K hK => ?_)
     refine goes_ Tryd.func18 (by kernel_rfl) rfl #[.agg #[.int .i64 ((rd_T57 l0_4 0).f0.f0), .string ((rd_T57 l0_4 0).f0.f1), .int .i64 ((rd_T57 l0_4 0).f0.f2), .int .i64 ((rd_T57 l0_4 0).f1), .slice A274_4 ((rd_T57 l0_4 0).f2).length c274_4]] (by rfl) rfl rfl (by (try simp only [List.map_toArray, List.map_cons, List.map_nil]); first | done | rfl | (simp only [List.length_drop, List.length_take]; rfl)) ?_
     with_reducible refine (ih k (by omega) ((rd_T57 l0_4 0).f0.f0) ((rd_T57 l0_4 0).f0.f1) ((rd_T57 l0_4 0).f0.f2) ((rd_T57 l0_4 0).f1) _ _ ((rd_T57 l0_4 0).f2) t275 _ ?side1 ?side2 A4.out).mono ?_
     (case side1 => repeat (first | exact (Kd.C_below HR274_4.out HB.out) | (with_reducible refine Kd.C_alloc ?_ _) | (with_reducible refine Kd.C_drewN ?_ _) | (with_reducible refine Kd.C_drew ?_)))
     (case side2 => exact HC274_4.out)
     rintro e w11 ⟨v276, rfl, ho0, hb⟩
     refine ⟨_, rfl, ?_⟩
     have n0_ := aK_ (Kd.R_lower ho0 (lZ_ (by repeat (first | (with_reducible first | exact HB.out | apply lA_ | apply pD | apply lD_ | refine lS_ ?_ GE273.out) | exact HB.out))))
     have n1_ := aK_ (bB (by (with_reducible repeat (first | refine bDN ?_ _ | refine bD ?_ | refine bA ?_ _)); exact BK273.out) hb)
     have n2_ := aK_ (lT_ (by repeat (first | (with_reducible first | exact HB.out | apply lA_ | apply pD | apply lD_ | refine lS_ ?_ GE273.out) | exact HB.out)) hb)
     clear BK273
     clear HB
     have HO277 := n0_
     have BK273 := n1_
     have HB := n2_
     clear n0_ n1_ n2_
     (try clear hb)
     (try clear hb2)
     (try clear hk)
     (try clear hi)
     (try clear ho0)
     refine hK.out _ _ ⟨(bC BK273.out 0).trans rfl, (bC BK273.out 1).trans rfl, (bC BK273.out 2).trans rfl, (bC BK273.out 3).trans rfl, (bC BK273.out 4).trans rfl, ((HB.out.cell (wb_ w _ hw274_0)).trans hw274_0), ((HB.out.cell (wb_ w _ hw274_1)).trans hw274_1), ((HB.out.cell (wb_ w _ hw274_2)).trans hw274_2), ((HB.out.cell (wb_ w _ hw274_3)).trans hw274_3), ((HB.out.cell (wb_ w _ hw274_4)).trans hw274_4), ((HB.out.cell (wb_ w _ hw278_0)).trans hw278_0), ((HB.out.cell (wb_ w _ hw278_1)).trans hw278_1), ((HB.out.cell (wb_ w _ hw278_2)).trans hw278_2), ((HB.out.cell (wb_ w _ hw278_3)).trans hw278_3), ((HB.out.cell (wb_ w _ hw278_4)).trans hw278_4)⟩ (fun hHeld => ?_)
     clear hK K
     refine norm_ (a' := ?_) ?_ ?_
     rotate_left
     ·show Act.put _ (some 15) _ = _
      simp only [Act.put, sA_, sZ_, sS_, i64_w, i32_w]
      rfl
     refine one_ (i := 9) (N := some 20) #[true, true, true, true, true, true, true, true, true, true, false, false] rfl rfl (one_of HT_.out (by kernel_rfl)) (by decide) (fun K hK => ?_)
     refine goes_ Tryd.func18 (by kernel_rfl) rfl #[.agg #[.int .i64 ((rd_T57 l0_4 1).f0.f0), .string ((rd_T57 l0_4 1).f0.f1), .int .i64 ((rd_T57 l0_4 1).f0.f2), .int .i64 ((rd_T57 l0_4 1).f1), .slice A278_4 ((rd_T57 l0_4 1).f2).length c278_4]] (by rfl) rfl rfl (by (try simp only [List.map_toArray, List.map_cons, List.map_nil]); first | done | rfl | (simp only [List.length_drop, List.length_take]; rfl)) ?_
     with_reducible refine (ih k (by omega) ((rd_T57 l0_4 1).f0.f0) ((rd_T57 l0_4 1).f0.f1) ((rd_T57 l0_4 1).f0.f2) ((rd_T57 l0_4 1).f1) _ _ ((rd_T57 l0_4 1).f2) t279 _ ?side1 ?side2 A6.out).mono ?_
     (case side1 => repeat (first | exact (Kd.C_below HR278_4.out HB.out) | (with_reducible refine Kd.C_alloc ?_ _) | (with_reducible refine Kd.C_drewN ?_ _) | (with_reducible refine Kd.C_drew ?_)))
     (case side2 => exact HC278_4.out)
     rintro e w12 ⟨v280, rfl, ho0, hb⟩
     refine ⟨_, rfl, ?_⟩
     have n0_ := aK_ (Kd.R_elder' (by (with_reducible repeat (first | apply Kd.R_alloc | apply Kd.R_drewN | apply Kd.R_drew)); exact HO277.out) (Kd.R_base ho0) hb)
     have n1_ := aK_ (Kd.R_lower (Kd.R_new' ho0 (Kd.R_lt (by (with_reducible repeat (first | apply Kd.R_alloc | apply Kd.R_drewN | apply Kd.R_drew)); exact HO277.out))) (lZ_ (by repeat (first | (with_reducible first | exact HB.out | apply lA_ | apply pD | apply lD_ | refine lS_ ?_ GE273.out) | exact HB.out))))
     have n2_ := aK_ (bB (by (with_reducible repeat (first | refine bDN ?_ _ | refine bD ?_ | refine bA ?_ _)); exact BK273.out) hb)
     have n3_ := aK_ (lT_ (by repeat (first | (with_reducible first | exact HB.out | apply lA_ | apply pD | apply lD_ | refine lS_ ?_ GE273.out) | exact HB.out)) hb)
     clear HO277
     clear BK273
     clear HB
     have HO277 := n0_
     have HO281 := n1_
     have BK273 := n2_
     have HB := n3_
     clear n0_ n1_ n2_ n3_
     (try clear hb)
     (try clear hb2)
     (try clear hk)
     (try clear hi)
     (try clear ho0)
     obtain ⟨Ao14, co14, eo14⟩ := Kd.R_slice HO281.out
     (first | subst eo14 | (injection eo14 with f1_ f2_ f3_; have f4_ := f1_.symm; have f5_ := f3_.symm; clear f1_ f2_ f3_; subst f4_; subst f5_))
     refine hK.out _ _ ⟨(bC BK273.out 0).trans rfl, (bC BK273.out 1).trans rfl, (bC BK273.out 2).trans rfl, (bC BK273.out 3).trans rfl, (bC BK273.out 4).trans rfl, ((HB.out.cell (wb_ w _ hw274_0)).trans hw274_0), ((HB.out.cell (wb_ w _ hw274_1)).trans hw274_1), ((HB.out.cell (wb_ w _ hw274_2)).trans hw274_2), ((HB.out.cell (wb_ w _ hw274_3)).trans hw274_3), ((HB.out.cell (wb_ w _ hw274_4)).trans hw274_4), ((HB.out.cell (wb_ w _ hw278_0)).trans hw278_0), ((HB.out.cell (wb_ w _ hw278_1)).trans hw278_1), ((HB.out.cell (wb_ w _ hw278_2)).trans hw278_2), ((HB.out.cell (wb_ w _ hw278_3)).trans hw278_3), ((HB.out.cell (wb_ w _ hw278_4)).trans hw278_4)⟩ (fun hHeld => ?_)
     clear hK K
     refine norm_ (a' := ?_) ?_ ?_
     rotate_left
     ·show Act.put _ (some 20) _ = _
      simp only [Act.put, sA_, sZ_, sS_, i64_w, i32_w]
      rfl
     refine one_ (i := 10) (N := some 21) #[true, true, true, true, true, true, true, true, true, true, true, false] rfl rfl (one_of HT_.out (by kernel_rfl)) (by decide) (fun K hK => ?_)
     refine Kd.Rars Kd.string (w0 := w) w.heap.size (by rfl) (.tmp 15) (.tmp 20) 45 9 (.string ⟨#[]⟩) 16 rfl Tryd.underlying45 info9 rfl (by decide) (by omega) v276 t275 t279 _ _ _ (fun k_ => some k_ ≠ (.slice Ao14 t279.length co14 : Value).ownBlock) (fun _ => False) rfl rfl ?aO ?aR (fun _ _ h => h) (fun _ h => h.elim) ?aF ?aB ?aS ?aL ?_
     (case aR => repeat (first | exact (Kd.R_reads' HO281.out).2.2 | (with_reducible refine Kd.C_alloc ?_ _) | (with_reducible refine Kd.C_drewN ?_ _) | (with_reducible refine Kd.C_drew ?_)))
     (case aB => exact (by repeat (first | (with_reducible first | exact HB.out | apply lA_ | apply pD | apply lD_ | refine lS_ ?_ GE273.out) | exact HB.out)))
     (case aF => exact (fun k_ hk => Kd.fresh' (Kd.R_lt (by (with_reducible repeat (first | apply Kd.R_alloc | apply Kd.R_drewN | apply Kd.R_drew)); exact HO281.out)) k_ hk))
     (case aO => exact (by (with_reducible repeat (first | apply Kd.R_alloc | apply Kd.R_drewN | apply Kd.R_drew)); exact Kd.R_mono HO277.out (fun _ hk => hk.2)))
     (case aS => exact (lZ_ (by repeat (first | (with_reducible first | exact HB.out | apply lA_ | apply pD | apply lD_ | refine lS_ ?_ GE273.out) | exact HB.out))))
     (case aL => have := LMc7.out; omega)
     intro v283 w13 ho hb hg hat
     rw [← Ny282.out] at ho
     have n0_ := aK_ (bG_ (g := gb273) (o := .cells #[.int .i64 a0_0, .string a0_1, .int .i64 a0_2, .int .i64 a0_3, .slice (some ad274) l0_4.length c0_4] 57 (0, 0)) (by (with_reducible repeat (first | refine bDN ?_ _ | refine bD ?_ | refine bA ?_ _)); exact BK273.out) hg (Kd.R_ne HO277.out BK273.out (by decide)))
     have n1_ := aK_ (Kd.R_after (ok := (fun _ => True)) (by (with_reducible repeat (first | apply Kd.R_alloc | apply Kd.R_drewN | apply Kd.R_drew)); exact HO281.out) hg hat)
     have n2_ := aK_ (hb)
     have n3_ := aK_ (ho)
     clear BK273
     clear HO281
     clear HB
     clear HO277
     have BK273 := n0_
     have HO281 := n1_
     have HB := n2_
     have HO284 := n3_
     clear n0_ n1_ n2_ n3_
     clear ho hb hg hat
     refine hK.out _ _ ⟨(bC BK273.out 0).trans rfl, (bC BK273.out 1).trans rfl, (bC BK273.out 2).trans rfl, (bC BK273.out 3).trans rfl, (bC BK273.out 4).trans rfl, ((HB.out.cell (wb_ w _ hw274_0)).trans hw274_0), ((HB.out.cell (wb_ w _ hw274_1)).trans hw274_1), ((HB.out.cell (wb_ w _ hw274_2)).trans hw274_2), ((HB.out.cell (wb_ w _ hw274_3)).trans hw274_3), ((HB.out.cell (wb_ w _ hw274_4)).trans hw274_4), ((HB.out.cell (wb_ w _ hw278_0)).trans hw278_0), ((HB.out.cell (wb_ w _ hw278_1)).trans hw278_1), ((HB.out.cell (wb_ w _ hw278_2)).trans hw278_2), ((HB.out.cell (wb_ w _ hw278_3)).trans hw278_3), ((HB.out.cell (wb_ w _ hw278_4)).trans hw278_4)⟩ (fun hHeld => ?_)
     clear hK K
     refine norm_ (a' := ?_) ?_ ?_
     rotate_left
     ·show Act.put _ (some 21) _ = _
      simp only [Act.put, sA_, sZ_, sS_, i64_w, i32_w]
      rfl
     refine pure_ (i := 11) (N := some 2) (v := ?_) (a' := ?_) #[true, true, true, true, true, true, true, true, true, true, true, true] rfl rfl (any_of HT_.out (by kernel_rfl)) (fun _ _ _ h => h) (Or.inl ⟨by rfl, ?_⟩) ?_ ?_
     rotate_left
     ·intro w'
      go_simp
      with_reducible rfl
     rotate_left
     ·simp only [Act.put, sA_, sZ_, sS_, i64_w, i32_w]
      rfl
     refine done_ (done_of HT_.out (by kernel_rfl)) ?_
     try go_wp2
     go_ret
     exact ⟨_, by first | rfl | (simp [errW_none, errW_some] <;> rfl) | (simp [*, errW_none, errW_some] <;> rfl), by (with_reducible repeat (first | apply Kd.R_alloc | apply Kd.R_drewN | apply Kd.R_drew)); exact Kd.R_mono HO284.out (fun _ hk => trivial), by repeat (first | (with_reducible first | exact HB.out | apply lA_ | apply pD | apply lD_ | refine lS_ ?_ GE273.out) | exact HB.out)⟩
    ·rw [if_neg c7] at H
     exact absurd H (by simp)
   ·rw [if_neg c5] at H
    exact absurd H (by simp)
  ·rw [if_neg c3] at H
   exact absurd H (by simp)
 ·rw [if_neg c2] at H
  have c2b0 : ((l0_4.length : Int) == 2) = false := beq_eq_false_iff_ne.mpr c2
  have c2b1 : ((l0_4.length : Int) != 2) = true := bne_iff_ne.mpr c2
  obtain ⟨y285, hy285⟩ : ∃ y_ : List (S53), y_ = (([(⟨a0_0, a0_1, a0_2⟩ : S53)] : List (S53))) := ⟨_, rfl⟩
  replace H : ((ergolaw13_names.f k y285).bind fun t288 => (some t288)) = some r := by first | (rw [hy285]; with_reducible exact H) | (have H2_ := (Option.bind_some _ _).symm.trans H; rw [hy285]; with_reducible exact H2_) | (have H2_ := (Option.bind_some _ _).symm.trans H; with_reducible exact H2_) | with_reducible exact H | (rw [hy285]; exact H) | exact H
  have Ny285 := aK_ hy285
  clear hy285
  replace H := Option.bind_eq_some_iff.mp H
  obtain ⟨t288, A150, H⟩ := H
  replace H : (some t288) = some r := H
  have A15 := aK_ A150
  clear A150
  obtain rfl := Option.some.inj H
  go_enter Tryd.func18, Tryd.ntmps18
  go_wp2_with (first | ((with_reducible refine gate_dst (N := 1) rfl ?_); refine box_event ?hg (N := 1) ?hd (cs := #[.int .i64 a0_0, .string a0_1, .int .i64 a0_2, .int .i64 a0_3, .slice A0_4 l0_4.length c0_4]) (t := 57) ?hr ?_; (case hd => rfl); (case hg => rfl); (case hr => first | (go_simp; done) | (go_simp; rfl)); intro gb273 hg w16 hbox hb; have n0_ := aK_ (lT_ (by repeat (first | (with_reducible first | exact HB.out | apply lA_ | apply pD | apply lD_) | exact HB.out)) hb); have n1_ := aK_ (hbox); have n2_ := aK_ ((by rw [hg]; exact (lZ_ (by repeat (first | (with_reducible first | exact HB.out | apply lA_ | apply pD | apply lD_) | exact HB.out))) : w.heap.size ≤ gb273)); have n3_ := aK_ ((by rw [hg]; exact (lZ_ (by repeat (first | (with_reducible first | exact HB.out | apply lA_ | apply pD | apply lD_) | exact HB.out))) : w.heap.size ≤ gb273)); clear HB; have HB := n0_; have BK273 := n1_; have GW273 := n2_; have GE273 := n3_; clear n0_ n1_ n2_ n3_; clear hb hbox hg; have hcz17_0 : w16.cell? ⟨gb273, 0, none⟩ = some (.int .i64 a0_0) := (bC BK273.out 0).trans rfl; have hcz17_1 : w16.cell? ⟨gb273, 1, none⟩ = some (.string a0_1) := (bC BK273.out 1).trans rfl; have hcz17_2 : w16.cell? ⟨gb273, 2, none⟩ = some (.int .i64 a0_2) := (bC BK273.out 2).trans rfl; have hcz17_3 : w16.cell? ⟨gb273, 3, none⟩ = some (.int .i64 a0_3) := (bC BK273.out 3).trans rfl; have hcz17_4 : w16.cell? ⟨gb273, 4, none⟩ = some (.slice A0_4 l0_4.length c0_4) := (bC BK273.out 4).trans rfl; have hfz17_0 := bF BK273.out 0; have hfz17_1 := bF BK273.out 1; have hfz17_2 := bF BK273.out 2; have hfz17_3 := bF BK273.out 3; have hfz17_4 := bF BK273.out 4) | ((with_reducible refine gate_dst (N := 9) rfl ?_); refine Kd.R_lit k53 _ 53 ?hg (N := 9) ?hd (xs := ([(⟨a0_0, a0_1, a0_2⟩ : S53)] : List (S53))) (inner := [.int .i64 a0_0, .string a0_1, .int .i64 a0_2]) (ok := fun _ => True) (okp := fun _ => True) ?hr ?hp (fun _ hk => hk) trivial (Below.refl _ _) (Nat.le_refl _) (by simp) ?_; (case hd => rfl); (case hg => rfl); (case hr => first | (go_simp; done) | (go_simp; rfl)); (case hp => exact (Reps.c3 (show Kd.M k53 _ _ _ (⟨a0_0, a0_1, a0_2⟩ : S53) [.int .i64 a0_0, .string a0_1, .int .i64 a0_2] from (k53_mkM _ _ _ (⟨a0_0, a0_1, a0_2⟩ : S53) )) (Reps.none _ _))); intro v286 w18 ho19 hb hg_ hnew_; clear hg_ hnew_; (first | rw [← Ny285.out] at ho19 | (simp only [Int.reduceToNat] at ho19; rw [← Ny285.out] at ho19)); have n0_ := aK_ (Kd.R_lower ho19 (lZ_ (by repeat (first | (with_reducible first | exact HB.out | apply lA_ | apply pD | apply lD_ | refine lS_ ?_ GE273.out) | exact HB.out)))); have n1_ := aK_ (bB (by (with_reducible repeat (first | refine bDN ?_ _ | refine bD ?_ | refine bA ?_ _)); exact BK273.out) hb); have n2_ := aK_ (lT_ (by repeat (first | (with_reducible first | exact HB.out | apply lA_ | apply pD | apply lD_ | refine lS_ ?_ GE273.out) | exact HB.out)) hb); clear BK273; clear HB; have HO287 := n0_; have BK273 := n1_; have HB := n2_; clear n0_ n1_ n2_; clear hb ho19; obtain ⟨Ao20, co20, eo20⟩ := Kd.R_slice HO287.out; subst eo20) | ((with_reducible refine gate_callee (f := 12) rfl ?_); refine goesL_ (some 10) rfl rfl Tryd.func12 (by kernel_rfl) rfl #[.slice Ao20 y285.length co20] rfl (by (try simp only [List.map_toArray, List.map_cons, List.map_nil]); first | done | rfl | (simp only [List.length_drop, List.length_take]; rfl)) ?_; (with_reducible refine (ergolaw13_names.calls k _ _ y285 t288 _ ?side1 ?side2 A15.out).mono ?_); (case side1 => repeat (first | exact (Kd.R_reads' HO287.out).2.2 | (with_reducible refine Kd.C_alloc ?_ _) | (with_reducible refine Kd.C_drewN ?_ _) | (with_reducible refine Kd.C_drew ?_))); (case side2 => exact (Kd.R_reads' HO287.out).2.1); rintro e w21 ⟨v289, rfl, ho0, hb⟩; refine ⟨_, rfl, ?_⟩; have n0_ := aK_ (Kd.R_below (by (with_reducible repeat (first | apply Kd.R_alloc | apply Kd.R_drewN | apply Kd.R_drew)); exact HO287.out) hb); have n1_ := aK_ (Kd.R_lower ho0 (lZ_ (by repeat (first | (with_reducible first | exact HB.out | apply lA_ | apply pD | apply lD_ | refine lS_ ?_ GE273.out) | exact HB.out)))); have n2_ := aK_ (bB (by (with_reducible repeat (first | refine bDN ?_ _ | refine bD ?_ | refine bA ?_ _)); exact BK273.out) hb); have n3_ := aK_ (lT_ (by repeat (first | (with_reducible first | exact HB.out | apply lA_ | apply pD | apply lD_ | refine lS_ ?_ GE273.out) | exact HB.out)) hb); clear HO287; clear BK273; clear HB; have HO287 := n0_; have HO290 := n1_; have BK273 := n2_; have HB := n3_; clear n0_ n1_ n2_ n3_; (try clear hb); (try clear hb2); (try clear hk); (try clear hi); (try clear ho0)))
  go_ret
  exact ⟨_, by first | rfl | (simp [errW_none, errW_some] <;> rfl) | (simp [*, errW_none, errW_some] <;> rfl), by (with_reducible repeat (first | apply Kd.R_alloc | apply Kd.R_drewN | apply Kd.R_drew)); exact HO290.out, by repeat (first | (with_reducible first | exact HB.out | apply lA_ | apply pD | apply lD_ | refine lS_ ?_ GE273.out) | exact HB.out)⟩
end Go.Proofs.YtdbpboipiceifaaDoorPSP
