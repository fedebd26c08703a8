import Derived.Test.YtdbpboipiceifaaDoorZ1PSPx0
import Derived.Test.YtdbpboipiceifaaDoorZ1PSPx2
namespace Go.Proofs.YtdbpboipiceifaaDoorPSP
open Go.RowKit Go.Proofs.YtdbpboipiceifaaDoorW.PrintWords Go.Proofs.YtdbpboipiceifaaDoorW.PrintLast Go.Proofs.YtdbpboipiceifaaDoorW.PrintMore
attribute [local go_sem] max2_int min2_int max_two min_two max_three min_three max_four min_four   -- for this text's walks alone
set_option linter.unusedVariables false
set_option linter.unusedSimpArgs false
def ergolaw13_P_Part.f (k : Nat) (a0_0 : Int) (a0_1 : Int) (a0_2 : Int) (l0_3 : List (S81)) (a0_4 : Int) (a0_5 : Int) (a0_6 : Int) (a0_7 : Int) (a0_8 : Int) (a0_9 : Int) (a0_10 : Int) (a0_11 : Int) (a0_12 : Int) (a0_13 : Int) (l0_14 : List (S84)) : Option (Int × ByteArray × (List (S53)) × Int × Int × ByteArray × Int × Int × ByteArray × Int × ByteArray × Int × ByteArray × Int × Int × (List (S57))) := if (wrap64 (Int.tmod (IntKind.u64.wrap (a0_0)) 6)) = 3 then ((ergolaw13_A_Atom.f k a0_2 l0_3).bind fun bt155 => (some (1, bt155.1, bt155.2, 0, 0, (⟨#[]⟩ : ByteArray), 0, 0, (⟨#[]⟩ : ByteArray), 0, (⟨#[]⟩ : ByteArray), 0, (⟨#[]⟩ : ByteArray), 0, 0, ([] : List (S57))))) else (if (wrap64 (Int.tmod (IntKind.u64.wrap (a0_0)) 6)) = 4 then ((ergolaw13_T_Term.f a0_4 a0_5 a0_6).bind fun bt159 => ((ergolaw13_T_Term.f a0_7 a0_8 a0_9).bind fun bt162 => (some (2, (⟨#[]⟩ : ByteArray), ([] : List (S53)), wrap64 (Int.tmod (IntKind.u64.wrap (a0_1)) 6), bt159.1, bt159.2.1, bt159.2.2, bt162.1, bt162.2.1, bt162.2.2, (⟨#[]⟩ : ByteArray), 0, (⟨#[]⟩ : ByteArray), 0, 0, ([] : List (S57)))))) else (if (wrap64 (Int.tmod (IntKind.u64.wrap (a0_0)) 6)) = 5 then ((ergolaw13_T_Term.f 0 a0_5 a0_6).bind fun bt166 => ((ergolaw13_E_Expr.f k a0_10 a0_11 a0_12 a0_13 l0_14).bind fun bt169 => (some (3, (⟨#[]⟩ : ByteArray), ([] : List (S53)), 0, 0, (⟨#[]⟩ : ByteArray), 0, 0, (⟨#[]⟩ : ByteArray), 0, bt166.2.1, bt169.1, bt169.2.1, bt169.2.2.1, bt169.2.2.2.1, bt169.2.2.2.2)))) else ((ergolaw13_A_Atom.f k a0_2 l0_3).bind fun bt176 => (some (0, bt176.1, bt176.2, 0, 0, (⟨#[]⟩ : ByteArray), 0, 0, (⟨#[]⟩ : ByteArray), 0, (⟨#[]⟩ : ByteArray), 0, (⟨#[]⟩ : ByteArray), 0, 0, ([] : List (S57)))))))
def ergolaw13_P_Part.T5 : Bool × List (List Nat × List Nat) := (true, [([], []), ([0], [0]), ([1], [1]), ([2], [2]), ([3], [3]), ([], []), ([5], [5]), ([6], [6]), ([], []), ([8], [8]), ([9, 7], [9]), ([4, 7, 10], [4, 7, 10]), ([11, 10, 0, 1, 2, 3, 4, 5, 6, 7, 8, 9, 10, 11], [11])])
def ergolaw13_P_Part.B5 : List Nat := [0, 1, 3, 7, 15, 0, 32, 96, 0, 256, 992, 2047, 4095]
theorem ergolaw13_P_Part.tab5 : rtab .any (opsOf Tryd.f32 5) = ergolaw13_P_Part.T5 := by kernel_rfl
theorem ergolaw13_P_Part.bits5 : waitsOk ergolaw13_P_Part.T5.2 ergolaw13_P_Part.B5 = true := by kernel_rfl
def ergolaw13_P_Part.T9 : Bool × List (List Nat × List Nat) := (true, [([], []), ([0], [0]), ([1], [1]), ([], []), ([3], [3]), ([4, 1], [4]), ([2, 5], [2, 5]), ([6, 5, 0, 1, 2, 3, 4, 5, 6], [6])])
def ergolaw13_P_Part.B9 : List Nat := [0, 1, 3, 0, 8, 27, 63, 127]
theorem ergolaw13_P_Part.tab9 : rtab .any (opsOf Tryd.f32 9) = ergolaw13_P_Part.T9 := by kernel_rfl
theorem ergolaw13_P_Part.bits9 : waitsOk ergolaw13_P_Part.T9.2 ergolaw13_P_Part.B9 = true := by kernel_rfl
set_option maxHeartbeats 8000000 in
set_option maxRecDepth 100000 in
theorem ergolaw13_P_Part.calls (k : Nat) (a0_0 : Int) (a0_1 : Int) (a0_2 : Int) (A0_3 : Option Addr) (c0_3 : Nat) (l0_3 : List (S81)) (a0_4 : Int) (a0_5 : Int) (a0_6 : Int) (a0_7 : Int) (a0_8 : Int) (a0_9 : Int) (a0_10 : Int) (a0_11 : Int) (a0_12 : Int) (a0_13 : Int) (A0_14 : Option Addr) (c0_14 : Nat) (l0_14 : List (S84)) (r1 : Int) (r2 : ByteArray) (r3 : List (S53)) (r4 : Int) (r5 : Int) (r6 : ByteArray) (r7 : Int) (r8 : Int) (r9 : ByteArray) (r10 : Int) (r11 : ByteArray) (r12 : Int) (r13 : ByteArray) (r14 : Int) (r15 : Int) (r16 : List (S57)) (w : World) (hr0_3 : Kd.C k81 w A0_3 l0_3.length l0_3) (hc0_3 : l0_3.length ≤ c0_3) (hr0_14 : Kd.C k84 w A0_14 l0_14.length l0_14) (hc0_14 : l0_14.length ≤ c0_14) (h : ergolaw13_P_Part.f k a0_0 a0_1 a0_2 l0_3 a0_4 a0_5 a0_6 a0_7 a0_8 a0_9 a0_10 a0_11 a0_12 a0_13 l0_14 = some (r1, r2, r3, r4, r5, r6, r7, r8, r9, r10, r11, r12, r13, r14, r15, r16)) :
  Calls Tryd.prog 32 #[.agg #[.int .i64 a0_0, .int .i64 a0_1, .int .i64 a0_2, .slice A0_3 l0_3.length c0_3, .int .i64 a0_4, .int .i64 a0_5, .int .i64 a0_6, .int .i64 a0_7, .int .i64 a0_8, .int .i64 a0_9, .int .i64 a0_10, .int .i64 a0_11, .int .i64 a0_12, .int .i64 a0_13, .slice A0_14 l0_14.length c0_14]] w fun e w' => ∃ v2_ v15_ : Value, e = .returned (.agg #[.int .i64 r1, .string r2, v2_, .int .i64 r4, .int .i64 r5, .string r6, .int .i64 r7, .int .i64 r8, .string r9, .int .i64 r10, .string r11, .int .i64 r12, .string r13, .int .i64 r14, .int .i64 r15, v15_]) ∧ Kd.R k53 53 w' w.heap.size (fun k_ => (w.heap.size ≤ k_)) v2_ r3 ∧ Kd.N k57 57 w' w.heap.size (fun k_ => (w.heap.size ≤ k_) ∧ some k_ ≠ (v2_ : Value).ownBlock) v15_ r16 ∧ Below w.heap.size w w' := by
 have hfd53 : ∀ (z0 : Int) (z1 : ByteArray) (z2 : Int) (w_ : World), (Instr.field 53 (.agg #[.int .i64 z0, .string z1, .int .i64 z2]) 1).run Tryd.prog w_ = .ok (.string z1) w_ := fun _ _ _ _ => by kernel_rfl
 have hu86 := Tryd.underlying86
 have hu59 := Tryd.underlying59
 have hu33 := Tryd.underlying33
 have hu81 := Tryd.underlying81
 have hu84 := Tryd.underlying84
 have HR0_3 := aK_ hr0_3
 have HC0_3 := aK_ hc0_3
 clear hr0_3 hc0_3
 have HR0_14 := aK_ hr0_14
 have HC0_14 := aK_ hc0_14
 clear hr0_14 hc0_14
 have HB := aK_ (Below.refl w.heap.size w)
 have H : (if (wrap64 (Int.tmod (IntKind.u64.wrap (a0_0)) 6)) = 3 then ((ergolaw13_A_Atom.f k a0_2 l0_3).bind fun bt155 => (some (1, bt155.1, bt155.2, 0, 0, (⟨#[]⟩ : ByteArray), 0, 0, (⟨#[]⟩ : ByteArray), 0, (⟨#[]⟩ : ByteArray), 0, (⟨#[]⟩ : ByteArray), 0, 0, ([] : List (S57))))) else (if (wrap64 (Int.tmod (IntKind.u64.wrap (a0_0)) 6)) = 4 then ((ergolaw13_T_Term.f a0_4 a0_5 a0_6).bind fun bt159 => ((ergolaw13_T_Term.f a0_7 a0_8 a0_9).bind fun bt162 => (some (2, (⟨#[]⟩ : ByteArray), ([] : List (S53)), wrap64 (Int.tmod (IntKind.u64.wrap (a0_1)) 6), bt159.1, bt159.2.1, bt159.2.2, bt162.1, bt162.2.1, bt162.2.2, (⟨#[]⟩ : ByteArray), 0, (⟨#[]⟩ : ByteArray), 0, 0, ([] : List (S57)))))) else (if (wrap64 (Int.tmod (IntKind.u64.wrap (a0_0)) 6)) = 5 then ((ergolaw13_T_Term.f 0 a0_5 a0_6).bind fun bt166 => ((ergolaw13_E_Expr.f k a0_10 a0_11 a0_12 a0_13 l0_14).bind fun bt169 => (some (3, (⟨#[]⟩ : ByteArray), ([] : List (S53)), 0, 0, (⟨#[]⟩ : ByteArray), 0, 0, (⟨#[]⟩ : ByteArray), 0, bt166.2.1, bt169.1, bt169.2.1, bt169.2.2.1, bt169.2.2.2.1, bt169.2.2.2.2)))) else ((ergolaw13_A_Atom.f k a0_2 l0_3).bind fun bt176 => (some (0, bt176.1, bt176.2, 0, 0, (⟨#[]⟩ : ByteArray), 0, 0, (⟨#[]⟩ : ByteArray), 0, (⟨#[]⟩ : ByteArray), 0, (⟨#[]⟩ : ByteArray), 0, 0, ([] : List (S57)))))))) = some (r1, r2, r3, r4, r5, r6, r7, r8, r9, r10, r11, r12, r13, r14, r15, r16) := h
 clear h
 by_cases c2 : (wrap64 (Int.tmod (IntKind.u64.wrap (a0_0)) 6)) = 3
 ·rw [if_pos c2] at H
  have c2b0 : ((wrap64 (Int.tmod (IntKind.u64.wrap (a0_0)) 6)) == 3) = true := beq_iff_eq.mpr c2
  have c2b1 : ((wrap64 (Int.tmod (IntKind.u64.wrap (a0_0)) 6)) != 3) = false := bne_eq_false_iff_eq.mpr c2
  clear c2
  replace H := Option.bind_eq_some_iff.mp H
  obtain ⟨⟨t155, t156⟩, A30, H⟩ := H
  replace H : (some (1, t155, t156, 0, 0, (⟨#[]⟩ : ByteArray), 0, 0, (⟨#[]⟩ : ByteArray), 0, (⟨#[]⟩ : ByteArray), 0, (⟨#[]⟩ : ByteArray), 0, 0, ([] : List (S57)))) = some (r1, r2, r3, r4, r5, r6, r7, r8, r9, r10, r11, r12, r13, r14, r15, r16) := H
  have A3 := aK_ A30
  clear A30
  simp only [Option.some.injEq, Prod.mk.injEq] at H
  obtain ⟨rfl, rfl, rfl, rfl, rfl, rfl, rfl, rfl, rfl, rfl, rfl, rfl, rfl, rfl, rfl, rfl⟩ := H
  go_enter Tryd.func32, Tryd.ntmps32
  go_wp2_with (first | ((with_reducible refine gate_dst (N := 1) rfl ?_); refine box_event ?hg (N := 1) ?hd (cs := #[.int .i64 a0_0, .int .i64 a0_1, .int .i64 a0_2, .slice A0_3 l0_3.length c0_3, .int .i64 a0_4, .int .i64 a0_5, .int .i64 a0_6, .int .i64 a0_7, .int .i64 a0_8, .int .i64 a0_9, .int .i64 a0_10, .int .i64 a0_11, .int .i64 a0_12, .int .i64 a0_13, .slice A0_14 l0_14.length c0_14]) (t := 86) ?hr ?_; (case hd => rfl); (case hg => rfl); (case hr => first | (go_simp; done) | (go_simp; rfl)); intro gb153 hg w4 hbox hb; have n0_ := aK_ (lT_ (by repeat (first | (with_reducible first | exact HB.out | apply lA_ | apply pD | apply lD_) | exact HB.out)) hb); have n1_ := aK_ (hbox); have n2_ := aK_ ((by rw [hg]; exact (lZ_ (by repeat (first | (with_reducible first | exact HB.out | apply lA_ | apply pD | apply lD_) | exact HB.out))) : w.heap.size ≤ gb153)); have n3_ := aK_ ((by rw [hg]; exact (lZ_ (by repeat (first | (with_reducible first | exact HB.out | apply lA_ | apply pD | apply lD_) | exact HB.out))) : w.heap.size ≤ gb153)); clear HB; have HB := n0_; have BK153 := n1_; have GW153 := n2_; have GE153 := n3_; clear n0_ n1_ n2_ n3_; clear hb hbox hg) | ((with_reducible refine gate_dst (N := 2) rfl ?_); refine box_event ?hg (N := 2) ?hd (cs := #[.int .i64 0, .string (⟨#[]⟩ : ByteArray), .slice none 0 0, .int .i64 0, .int .i64 0, .string (⟨#[]⟩ : ByteArray), .int .i64 0, .int .i64 0, .string (⟨#[]⟩ : ByteArray), .int .i64 0, .string (⟨#[]⟩ : ByteArray), .int .i64 0, .string (⟨#[]⟩ : ByteArray), .int .i64 0, .int .i64 0, .slice none 0 0]) (t := 59) ?hr ?_; (case hd => rfl); (case hg => rfl); (case hr => first | (go_simp; done) | (go_simp; rfl)); intro gb154 hg w5 hbox hb; have n0_ := aK_ (bB (by (with_reducible repeat (first | refine bDN ?_ _ | refine bD ?_ | refine bA ?_ _)); exact BK153.out) hb); have n1_ := aK_ (lT_ (by repeat (first | (with_reducible first | exact HB.out | apply lA_ | apply pD | apply lD_ | refine lS_ ?_ GE153.out) | exact HB.out)) hb); have n2_ := aK_ (hbox); have n3_ := aK_ ((by rw [hg]; exact (lZ_ (by repeat (first | (with_reducible first | exact HB.out | apply lA_ | apply pD | apply lD_ | refine lS_ ?_ GE153.out) | exact HB.out))) : w.heap.size ≤ gb154)); have n4_ := aK_ ((by rw [hg]; exact (lZ_ (by repeat (first | (with_reducible first | exact HB.out | apply lA_ | apply pD | apply lD_ | refine lS_ ?_ GE153.out) | exact HB.out))) : w.heap.size ≤ gb154)); have n5_ := aK_ ((by rw [hg]; exact Nat.ne_of_lt (blk_lt (g := gb153) (o := .cells #[.int .i64 a0_0, .int .i64 a0_1, .int .i64 a0_2, .slice A0_3 l0_3.length c0_3, .int .i64 a0_4, .int .i64 a0_5, .int .i64 a0_6, .int .i64 a0_7, .int .i64 a0_8, .int .i64 a0_9, .int .i64 a0_10, .int .i64 a0_11, .int .i64 a0_12, .int .i64 a0_13, .slice A0_14 l0_14.length c0_14] 86 (0, 0)) (by (with_reducible repeat (first | refine bDN ?_ _ | refine bD ?_ | refine bA ?_ _)); exact BK153.out)) : gb153 ≠ gb154)); have n6_ := aK_ ((by rw [hg]; exact Nat.ne_of_gt (blk_lt (g := gb153) (o := .cells #[.int .i64 a0_0, .int .i64 a0_1, .int .i64 a0_2, .slice A0_3 l0_3.length c0_3, .int .i64 a0_4, .int .i64 a0_5, .int .i64 a0_6, .int .i64 a0_7, .int .i64 a0_8, .int .i64 a0_9, .int .i64 a0_10, .int .i64 a0_11, .int .i64 a0_12, .int .i64 a0_13, .slice A0_14 l0_14.length c0_14] 86 (0, 0)) (by (with_reducible repeat (first | refine bDN ?_ _ | refine bD ?_ | refine bA ?_ _)); exact BK153.out)) : gb154 ≠ gb153)); clear BK153; clear HB; have BK153 := n0_; have HB := n1_; have BK154 := n2_; have GW154 := n3_; have GE154 := n4_; have NB153_154 := n5_; have NB154_153 := n6_; clear n0_ n1_ n2_ n3_ n4_ n5_ n6_; clear hb hbox hg; have hnb6 := NB153_154.out; have hnc6 := NB154_153.out; have hcz7_0 : w5.cell? ⟨gb153, 0, none⟩ = some (.int .i64 a0_0) := (bC BK153.out 0).trans rfl; have hcz7_1 : w5.cell? ⟨gb153, 1, none⟩ = some (.int .i64 a0_1) := (bC BK153.out 1).trans rfl; have hcz7_2 : w5.cell? ⟨gb153, 2, none⟩ = some (.int .i64 a0_2) := (bC BK153.out 2).trans rfl; have hcz7_3 : w5.cell? ⟨gb153, 3, none⟩ = some (.slice A0_3 l0_3.length c0_3) := (bC BK153.out 3).trans rfl; have hcz7_4 : w5.cell? ⟨gb153, 4, none⟩ = some (.int .i64 a0_4) := (bC BK153.out 4).trans rfl; have hcz7_5 : w5.cell? ⟨gb153, 5, none⟩ = some (.int .i64 a0_5) := (bC BK153.out 5).trans rfl; have hcz7_6 : w5.cell? ⟨gb153, 6, none⟩ = some (.int .i64 a0_6) := (bC BK153.out 6).trans rfl; have hcz7_7 : w5.cell? ⟨gb153, 7, none⟩ = some (.int .i64 a0_7) := (bC BK153.out 7).trans rfl; have hcz7_8 : w5.cell? ⟨gb153, 8, none⟩ = some (.int .i64 a0_8) := (bC BK153.out 8).trans rfl; have hcz7_9 : w5.cell? ⟨gb153, 9, none⟩ = some (.int .i64 a0_9) := (bC BK153.out 9).trans rfl; have hcz7_10 : w5.cell? ⟨gb153, 10, none⟩ = some (.int .i64 a0_10) := (bC BK153.out 10).trans rfl; have hcz7_11 : w5.cell? ⟨gb153, 11, none⟩ = some (.int .i64 a0_11) := (bC BK153.out 11).trans rfl; have hcz7_12 : w5.cell? ⟨gb153, 12, none⟩ = some (.int .i64 a0_12) := (bC BK153.out 12).trans rfl; have hcz7_13 : w5.cell? ⟨gb153, 13, none⟩ = some (.int .i64 a0_13) := (bC BK153.out 13).trans rfl; have hcz7_14 : w5.cell? ⟨gb153, 14, none⟩ = some (.slice A0_14 l0_14.length c0_14) := (bC BK153.out 14).trans rfl; have hfz7_0 := bF BK153.out 0; have hfz7_1 := bF BK153.out 1; have hfz7_2 := bF BK153.out 2; have hfz7_3 := bF BK153.out 3; have hfz7_4 := bF BK153.out 4; have hfz7_5 := bF BK153.out 5; have hfz7_6 := bF BK153.out 6; have hfz7_7 := bF BK153.out 7; have hfz7_8 := bF BK153.out 8; have hfz7_9 := bF BK153.out 9; have hfz7_10 := bF BK153.out 10; have hfz7_11 := bF BK153.out 11; have hfz7_12 := bF BK153.out 12; have hfz7_13 := bF BK153.out 13; have hfz7_14 := bF BK153.out 14) | ((with_reducible refine gate_callee (f := 31) rfl ?_); refine goesL_ (some 13) rfl rfl Tryd.func31 (by kernel_rfl) rfl #[.agg #[.int .i64 a0_2, .slice A0_3 l0_3.length c0_3]] rfl (by (try simp only [List.map_toArray, List.map_cons, List.map_nil]); first | done | rfl | (simp only [List.length_drop, List.length_take]; rfl)) ?_; (with_reducible refine (ergolaw13_A_Atom.calls k a0_2 _ _ l0_3 t155 t156 _ ?side1 ?side2 A3.out).mono ?_); (case side1 => repeat (first | exact (Kd.C_below HR0_3.out HB.out) | (with_reducible refine Kd.C_alloc ?_ _) | (with_reducible refine Kd.C_drewN ?_ _) | (with_reducible refine Kd.C_drew ?_))); (case side2 => exact HC0_3.out); rintro e w8 ⟨v157, rfl, ho0, hb⟩; refine ⟨_, rfl, ?_⟩; have n0_ := aK_ (Kd.R_lower (Kd.R_newM (M := fun k_ => (w.heap.size ≤ k_)) ho0 (lZ_ (by repeat (first | (with_reducible first | exact HB.out | apply lA_ | apply pD | apply lD_ | refine lS_ ?_ GE153.out | refine lS_ ?_ GE154.out) | exact HB.out))) (fun k_ h_ => h_)) (lZ_ (by repeat (first | (with_reducible first | exact HB.out | apply lA_ | apply pD | apply lD_ | refine lS_ ?_ GE153.out | refine lS_ ?_ GE154.out) | exact HB.out)))); have n1_ := aK_ (bB (by (with_reducible repeat (first | refine bDN ?_ _ | refine bD ?_ | refine bA ?_ _)); exact BK153.out) hb); have n2_ := aK_ (bB (by (with_reducible repeat (first | refine bDN ?_ _ | refine bD ?_ | refine bA ?_ _)); exact BK154.out) hb); have n3_ := aK_ (lT_ (by repeat (first | (with_reducible first | exact HB.out | apply lA_ | apply pD | apply lD_ | refine lS_ ?_ GE153.out | refine lS_ ?_ GE154.out) | exact HB.out)) hb); clear BK153; clear BK154; clear HB; have HO158 := n0_; have BK153 := n1_; have BK154 := n2_; have HB := n3_; clear n0_ n1_ n2_ n3_; (try clear hb); (try clear hb2); (try clear hk); (try clear hi); (try clear ho0); obtain ⟨Ao9, co9, eo9⟩ := Kd.R_slice HO158.out; subst eo9; have hcz10_0 : w8.cell? ⟨gb154, 0, none⟩ = some (.int .i64 0) := (bC BK154.out 0).trans rfl; have hcz10_1 : w8.cell? ⟨gb154, 1, none⟩ = some (.string (⟨#[]⟩ : ByteArray)) := (bC BK154.out 1).trans rfl; have hcz10_2 : w8.cell? ⟨gb154, 2, none⟩ = some (.slice none 0 0) := (bC BK154.out 2).trans rfl; have hcz10_3 : w8.cell? ⟨gb154, 3, none⟩ = some (.int .i64 0) := (bC BK154.out 3).trans rfl; have hcz10_4 : w8.cell? ⟨gb154, 4, none⟩ = some (.int .i64 0) := (bC BK154.out 4).trans rfl; have hcz10_5 : w8.cell? ⟨gb154, 5, none⟩ = some (.string (⟨#[]⟩ : ByteArray)) := (bC BK154.out 5).trans rfl; have hcz10_6 : w8.cell? ⟨gb154, 6, none⟩ = some (.int .i64 0) := (bC BK154.out 6).trans rfl; have hcz10_7 : w8.cell? ⟨gb154, 7, none⟩ = some (.int .i64 0) := (bC BK154.out 7).trans rfl; have hcz10_8 : w8.cell? ⟨gb154, 8, none⟩ = some (.string (⟨#[]⟩ : ByteArray)) := (bC BK154.out 8).trans rfl; have hcz10_9 : w8.cell? ⟨gb154, 9, none⟩ = some (.int .i64 0) := (bC BK154.out 9).trans rfl; have hcz10_10 : w8.cell? ⟨gb154, 10, none⟩ = some (.string (⟨#[]⟩ : ByteArray)) := (bC BK154.out 10).trans rfl; have hcz10_11 : w8.cell? ⟨gb154, 11, none⟩ = some (.int .i64 0) := (bC BK154.out 11).trans rfl; have hcz10_12 : w8.cell? ⟨gb154, 12, none⟩ = some (.string (⟨#[]⟩ : ByteArray)) := (bC BK154.out 12).trans rfl; have hcz10_13 : w8.cell? ⟨gb154, 13, none⟩ = some (.int .i64 0) := (bC BK154.out 13).trans rfl; have hcz10_14 : w8.cell? ⟨gb154, 14, none⟩ = some (.int .i64 0) := (bC BK154.out 14).trans rfl; have hcz10_15 : w8.cell? ⟨gb154, 15, none⟩ = some (.slice none 0 0) := (bC BK154.out 15).trans rfl; have hfz10_0 := bF BK154.out 0; have hfz10_1 := bF BK154.out 1; have hfz10_2 := bF BK154.out 2; have hfz10_3 := bF BK154.out 3; have hfz10_4 := bF BK154.out 4; have hfz10_5 := bF BK154.out 5; have hfz10_6 := bF BK154.out 6; have hfz10_7 := bF BK154.out 7; have hfz10_8 := bF BK154.out 8; have hfz10_9 := bF BK154.out 9; have hfz10_10 := bF BK154.out 10; have hfz10_11 := bF BK154.out 11; have hfz10_12 := bF BK154.out 12; have hfz10_13 := bF BK154.out 13; have hfz10_14 := bF BK154.out 14; have hfz10_15 := bF BK154.out 15))
  refine bodyPost_ret (results_cell_row rfl _ _ gb154 59 #[.int .i64 1, .string t155, .slice Ao9 t156.length co9, .int .i64 0, .int .i64 0, .string (⟨#[]⟩ : ByteArray), .int .i64 0, .int .i64 0, .string (⟨#[]⟩ : ByteArray), .int .i64 0, .string (⟨#[]⟩ : ByteArray), .int .i64 0, .string (⟨#[]⟩ : ByteArray), .int .i64 0, .int .i64 0, .slice none 0 0] (0, 0) _ rfl ((by apply eC_; (with_reducible repeat (first | refine bDN ?_ _ | refine bD ?_ | refine bA ?_ _)); apply b2_; (with_reducible repeat (first | refine bDN ?_ _ | refine bD ?_ | refine bA ?_ _)); apply b2_; (with_reducible repeat (first | refine bDN ?_ _ | refine bD ?_ | refine bA ?_ _)); apply b2_; (with_reducible repeat (first | refine bDN ?_ _ | refine bD ?_ | refine bA ?_ _)); apply b2_; (with_reducible repeat (first | refine bDN ?_ _ | refine bD ?_ | refine bA ?_ _)); apply b2_; (with_reducible repeat (first | refine bDN ?_ _ | refine bD ?_ | refine bA ?_ _)); apply b2_; (with_reducible repeat (first | refine bDN ?_ _ | refine bD ?_ | refine bA ?_ _)); apply b2_; (with_reducible repeat (first | refine bDN ?_ _ | refine bD ?_ | refine bA ?_ _)); apply b2_; (with_reducible repeat (first | refine bDN ?_ _ | refine bD ?_ | refine bA ?_ _)); apply b2_; (with_reducible repeat (first | refine bDN ?_ _ | refine bD ?_ | refine bA ?_ _)); apply b2_; (with_reducible repeat (first | refine bDN ?_ _ | refine bD ?_ | refine bA ?_ _)); apply b2_; (with_reducible repeat (first | refine bDN ?_ _ | refine bD ?_ | refine bA ?_ _)); apply b2_; (with_reducible repeat (first | refine bDN ?_ _ | refine bD ?_ | refine bA ?_ _)); apply b2_; (with_reducible repeat (first | refine bDN ?_ _ | refine bD ?_ | refine bA ?_ _)); apply b2_; (with_reducible repeat (first | refine bDN ?_ _ | refine bD ?_ | refine bA ?_ _)); apply b2_; (with_reducible repeat (first | refine bDN ?_ _ | refine bD ?_ | refine bA ?_ _)); apply b2_; (with_reducible repeat (first | refine bDN ?_ _ | refine bD ?_ | refine bA ?_ _)); exact BK154.out; kernel_rfl)) Tryd.underlying59 rfl (by kernel_rfl)) rfl ?_
  exact ⟨_, _, by first | rfl | (simp [errW_none, errW_some] <;> rfl) | (simp [*, errW_none, errW_some] <;> rfl), by (with_reducible repeat (first | apply Kd.R_alloc | apply Kd.R_drewN | apply Kd.R_drew)); exact Kd.R_mono (Kd.R_far (p := ⟨gb154, 15, none⟩) (Kd.R_far (p := ⟨gb154, 14, none⟩) (Kd.R_far (p := ⟨gb154, 13, none⟩) (Kd.R_far (p := ⟨gb154, 12, none⟩) (Kd.R_far (p := ⟨gb154, 11, none⟩) (Kd.R_far (p := ⟨gb154, 10, none⟩) (Kd.R_far (p := ⟨gb154, 9, none⟩) (Kd.R_far (p := ⟨gb154, 8, none⟩) (Kd.R_far (p := ⟨gb154, 7, none⟩) (Kd.R_far (p := ⟨gb154, 6, none⟩) (Kd.R_far (p := ⟨gb154, 5, none⟩) (Kd.R_far (p := ⟨gb154, 4, none⟩) (Kd.R_far (p := ⟨gb154, 3, none⟩) (Kd.R_far (p := ⟨gb154, 2, none⟩) (Kd.R_far (p := ⟨gb154, 1, none⟩) (Kd.R_far (p := ⟨gb154, 0, none⟩) (Kd.R_types HO158.out BK154.out (by decide)) (fun _ hk => hk.2) (.int .i64 1)) (fun _ hk => hk.2) (.string t155)) (fun _ hk => hk.2) (.slice Ao9 t156.length co9)) (fun _ hk => hk.2) (.int .i64 0)) (fun _ hk => hk.2) (.int .i64 0)) (fun _ hk => hk.2) (.string (⟨#[]⟩ : ByteArray))) (fun _ hk => hk.2) (.int .i64 0)) (fun _ hk => hk.2) (.int .i64 0)) (fun _ hk => hk.2) (.string (⟨#[]⟩ : ByteArray))) (fun _ hk => hk.2) (.int .i64 0)) (fun _ hk => hk.2) (.string (⟨#[]⟩ : ByteArray))) (fun _ hk => hk.2) (.int .i64 0)) (fun _ hk => hk.2) (.string (⟨#[]⟩ : ByteArray))) (fun _ hk => hk.2) (.int .i64 0)) (fun _ hk => hk.2) (.int .i64 0)) (fun _ hk => hk.2) (.slice none 0 0)) (fun _ hk => hk.1.1), by first | exact Kd.R_nil _ _ _ _ _ | exact Kd.N_nil _ _ _ _ _ | exact Kd.V_nil _ _ _ _ _ | exact Kd.Q_nil _ _ _ _ _ | exact Kd.S_nil _ _ _ _ _, by repeat (first | (with_reducible first | exact HB.out | apply lA_ | apply pD | apply lD_ | refine lS_ ?_ GE153.out | refine lS_ ?_ GE154.out) | exact HB.out)⟩
 ·rw [if_neg c2] at H
  have c2b0 : ((wrap64 (Int.tmod (IntKind.u64.wrap (a0_0)) 6)) == 3) = false := beq_eq_false_iff_ne.mpr c2
  have c2b1 : ((wrap64 (Int.tmod (IntKind.u64.wrap (a0_0)) 6)) != 3) = true := bne_iff_ne.mpr c2
  by_cases c11 : (wrap64 (Int.tmod (IntKind.u64.wrap (a0_0)) 6)) = 4
  ·rw [if_pos c11] at H
   have c11b0 : ((wrap64 (Int.tmod (IntKind.u64.wrap (a0_0)) 6)) == 4) = true := beq_iff_eq.mpr c11
   have c11b1 : ((wrap64 (Int.tmod (IntKind.u64.wrap (a0_0)) 6)) != 4) = false := bne_eq_false_iff_eq.mpr c11
   clear c11
   replace H := Option.bind_eq_some_iff.mp H
   obtain ⟨⟨t159, t160, t161⟩, A120, H⟩ := H
   replace H : ((ergolaw13_T_Term.f a0_7 a0_8 a0_9).bind fun bt162 => (some (2, (⟨#[]⟩ : ByteArray), ([] : List (S53)), wrap64 (Int.tmod (IntKind.u64.wrap (a0_1)) 6), t159, t160, t161, bt162.1, bt162.2.1, bt162.2.2, (⟨#[]⟩ : ByteArray), 0, (⟨#[]⟩ : ByteArray), 0, 0, ([] : List (S57))))) = some (r1, r2, r3, r4, r5, r6, r7, r8, r9, r10, r11, r12, r13, r14, r15, r16) := H
   have A12 := aK_ A120
   clear A120
   replace H := Option.bind_eq_some_iff.mp H
   obtain ⟨⟨t162, t163, t164⟩, A130, H⟩ := H
   replace H : (some (2, (⟨#[]⟩ : ByteArray), ([] : List (S53)), wrap64 (Int.tmod (IntKind.u64.wrap (a0_1)) 6), t159, t160, t161, t162, t163, t164, (⟨#[]⟩ : ByteArray), 0, (⟨#[]⟩ : ByteArray), 0, 0, ([] : List (S57)))) = some (r1, r2, r3, r4, r5, r6, r7, r8, r9, r10, r11, r12, r13, r14, r15, r16) := H
   have A13 := aK_ A130
   clear A130
   simp only [Option.some.injEq, Prod.mk.injEq] at H
   obtain ⟨rfl, rfl, rfl, rfl, rfl, rfl, rfl, rfl, rfl, rfl, rfl, rfl, rfl, rfl, rfl, rfl⟩ := H
   go_enter Tryd.func32, Tryd.ntmps32
   try go_wp2_with (first | ((with_reducible refine gate_dst (N := 1) rfl ?_); refine box_event ?hg (N := 1) ?hd (cs := #[.int .i64 a0_0, .int .i64 a0_1, .int .i64 a0_2, .slice A0_3 l0_3.length c0_3, .int .i64 a0_4, .int .i64 a0_5, .int .i64 a0_6, .int .i64 a0_7, .int .i64 a0_8, .int .i64 a0_9, .int .i64 a0_10, .int .i64 a0_11, .int .i64 a0_12, .int .i64 a0_13, .slice A0_14 l0_14.length c0_14]) (t := 86) ?hr ?_; (case hd => rfl); (case hg => rfl); (case hr => first | (go_simp; done) | (go_simp; rfl)); intro gb153 hg w14 hbox hb; have n0_ := aK_ (lT_ (by repeat (first | (with_reducible first | exact HB.out | apply lA_ | apply pD | apply lD_) | exact HB.out)) hb); have n1_ := aK_ (hbox); have n2_ := aK_ ((by rw [hg]; exact (lZ_ (by repeat (first | (with_reducible first | exact HB.out | apply lA_ | apply pD | apply lD_) | exact HB.out))) : w.heap.size ≤ gb153)); have n3_ := aK_ ((by rw [hg]; exact (lZ_ (by repeat (first | (with_reducible first | exact HB.out | apply lA_ | apply pD | apply lD_) | exact HB.out))) : w.heap.size ≤ gb153)); clear HB; have HB := n0_; have BK153 := n1_; have GW153 := n2_; have GE153 := n3_; clear n0_ n1_ n2_ n3_; clear hb hbox hg) | ((with_reducible refine gate_dst (N := 2) rfl ?_); refine box_event ?hg (N := 2) ?hd (cs := #[.int .i64 0, .string (⟨#[]⟩ : ByteArray), .slice none 0 0, .int .i64 0, .int .i64 0, .string (⟨#[]⟩ : ByteArray), .int .i64 0, .int .i64 0, .string (⟨#[]⟩ : ByteArray), .int .i64 0, .string (⟨#[]⟩ : ByteArray), .int .i64 0, .string (⟨#[]⟩ : ByteArray), .int .i64 0, .int .i64 0, .slice none 0 0]) (t := 59) ?hr ?_; (case hd => rfl); (case hg => rfl); (case hr => first | (go_simp; done) | (go_simp; rfl)); intro gb154 hg w15 hbox hb; have n0_ := aK_ (bB (by (with_reducible repeat (first | refine bDN ?_ _ | refine bD ?_ | refine bA ?_ _)); exact BK153.out) hb); have n1_ := aK_ (lT_ (by repeat (first | (with_reducible first | exact HB.out | apply lA_ | apply pD | apply lD_ | refine lS_ ?_ GE153.out) | exact HB.out)) hb); have n2_ := aK_ (hbox); have n3_ := aK_ ((by rw [hg]; exact (lZ_ (by repeat (first | (with_reducible first | exact HB.out | apply lA_ | apply pD | apply lD_ | refine lS_ ?_ GE153.out) | exact HB.out))) : w.heap.size ≤ gb154)); have n4_ := aK_ ((by rw [hg]; exact (lZ_ (by repeat (first | (with_reducible first | exact HB.out | apply lA_ | apply pD | apply lD_ | refine lS_ ?_ GE153.out) | exact HB.out))) : w.heap.size ≤ gb154)); have n5_ := aK_ ((by rw [hg]; exact Nat.ne_of_lt (blk_lt (g := gb153) (o := .cells #[.int .i64 a0_0, .int .i64 a0_1, .int .i64 a0_2, .slice A0_3 l0_3.length c0_3, .int .i64 a0_4, .int .i64 a0_5, .int .i64 a0_6, .int .i64 a0_7, .int .i64 a0_8, .int .i64 a0_9, .int .i64 a0_10, .int .i64 a0_11, .int .i64 a0_12, .int .i64 a0_13, .slice A0_14 l0_14.length c0_14] 86 (0, 0)) (by (with_reducible repeat (first | refine bDN ?_ _ | refine bD ?_ | refine bA ?_ _)); exact BK153.out)) : gb153 ≠ gb154)); have n6_ := aK_ ((by rw [hg]; exact Nat.ne_of_gt (blk_lt (g := gb153) (o := .cells #[.int .i64 a0_0, .int .i64 a0_1, .int .i64 a0_2, .slice A0_3 l0_3.length c0_3, .int .i64 a0_4, .int .i64 a0_5, .int .i64 a0_6, .int .i64 a0_7, .int .i64 a0_8, .int .i64 a0_9, .int .i64 a0_10, .int .i64 a0_11, .int .i64 a0_12, .int .i64 a0_13, .slice A0_14 l0_14.length c0_14] 86 (0, 0)) (by (with_reducible repeat (first | refine bDN ?_ _ | refine bD ?_ | refine bA ?_ _)); exact BK153.out)) : gb154 ≠ gb153)); clear BK153; clear HB; have BK153 := n0_; have HB := n1_; have BK154 := n2_; have GW154 := n3_; have GE154 := n4_; have NB153_154 := n5_; have NB154_153 := n6_; clear n0_ n1_ n2_ n3_ n4_ n5_ n6_; clear hb hbox hg; have hnb16 := NB153_154.out; have hnc16 := NB154_153.out; have hcz17_0 : w15.cell? ⟨gb153, 0, none⟩ = some (.int .i64 a0_0) := (bC BK153.out 0).trans rfl; have hcz17_1 : w15.cell? ⟨gb153, 1, none⟩ = some (.int .i64 a0_1) := (bC BK153.out 1).trans rfl; have hcz17_2 : w15.cell? ⟨gb153, 2, none⟩ = some (.int .i64 a0_2) := (bC BK153.out 2).trans rfl; have hcz17_3 : w15.cell? ⟨gb153, 3, none⟩ = some (.slice A0_3 l0_3.length c0_3) := (bC BK153.out 3).trans rfl; have hcz17_4 : w15.cell? ⟨gb153, 4, none⟩ = some (.int .i64 a0_4) := (bC BK153.out 4).trans rfl; have hcz17_5 : w15.cell? ⟨gb153, 5, none⟩ = some (.int .i64 a0_5) := (bC BK153.out 5).trans rfl; have hcz17_6 : w15.cell? ⟨gb153, 6, none⟩ = some (.int .i64 a0_6) := (bC BK153.out 6).trans rfl; have hcz17_7 : w15.cell? ⟨gb153, 7, none⟩ = some (.int .i64 a0_7) := (bC BK153.out 7).trans rfl; have hcz17_8 : w15.cell? ⟨gb153, 8, none⟩ = some (.int .i64 a0_8) := (bC BK153.out 8).trans rfl; have hcz17_9 : w15.cell? ⟨gb153, 9, none⟩ = some (.int .i64 a0_9) := (bC BK153.out 9).trans rfl; have hcz17_10 : w15.cell? ⟨gb153, 10, none⟩ = some (.int .i64 a0_10) := (bC BK153.out 10).trans rfl; have hcz17_11 : w15.cell? ⟨gb153, 11, none⟩ = some (.int .i64 a0_11) := (bC BK153.out 11).trans rfl; have hcz17_12 : w15.cell? ⟨gb153, 12, none⟩ = some (.int .i64 a0_12) := (bC BK153.out 12).trans rfl; have hcz17_13 : w15.cell? ⟨gb153, 13, none⟩ = some (.int .i64 a0_13) := (bC BK153.out 13).trans rfl; have hcz17_14 : w15.cell? ⟨gb153, 14, none⟩ = some (.slice A0_14 l0_14.length c0_14) := (bC BK153.out 14).trans rfl; have hfz17_0 := bF BK153.out 0; have hfz17_1 := bF BK153.out 1; have hfz17_2 := bF BK153.out 2; have hfz17_3 := bF BK153.out 3; have hfz17_4 := bF BK153.out 4; have hfz17_5 := bF BK153.out 5; have hfz17_6 := bF BK153.out 6; have hfz17_7 := bF BK153.out 7; have hfz17_8 := bF BK153.out 8; have hfz17_9 := bF BK153.out 9; have hfz17_10 := bF BK153.out 10; have hfz17_11 := bF BK153.out 11; have hfz17_12 := bF BK153.out 12; have hfz17_13 := bF BK153.out 13; have hfz17_14 := bF BK153.out 14))
   have n0_ := aK_ (bD BK153.out)
   have n1_ := aK_ (bD BK154.out)
   have n2_ := aK_ (lD_ HB.out)
   clear BK153
   clear BK154
   clear HB
   have BK153 := n0_
   have BK154 := n1_
   have HB := n2_
   clear n0_ n1_ n2_
   refine start_ (n := 13) (S := fun w' => w'.cell? ⟨gb153, 0, none⟩ = some (.int .i64 a0_0) ∧ w'.cell? ⟨gb153, 1, none⟩ = some (.int .i64 a0_1) ∧ w'.cell? ⟨gb153, 2, none⟩ = some (.int .i64 a0_2) ∧ w'.cell? ⟨gb153, 3, none⟩ = some (.slice A0_3 l0_3.length c0_3) ∧ w'.cell? ⟨gb153, 4, none⟩ = some (.int .i64 a0_4) ∧ w'.cell? ⟨gb153, 5, none⟩ = some (.int .i64 a0_5) ∧ w'.cell? ⟨gb153, 6, none⟩ = some (.int .i64 a0_6) ∧ w'.cell? ⟨gb153, 7, none⟩ = some (.int .i64 a0_7) ∧ w'.cell? ⟨gb153, 8, none⟩ = some (.int .i64 a0_8) ∧ w'.cell? ⟨gb153, 9, none⟩ = some (.int .i64 a0_9) ∧ w'.cell? ⟨gb153, 10, none⟩ = some (.int .i64 a0_10) ∧ w'.cell? ⟨gb153, 11, none⟩ = some (.int .i64 a0_11) ∧ w'.cell? ⟨gb153, 12, none⟩ = some (.int .i64 a0_12) ∧ w'.cell? ⟨gb153, 13, none⟩ = some (.int .i64 a0_13) ∧ w'.cell? ⟨gb153, 14, none⟩ = some (.slice A0_14 l0_14.length c0_14)) (ds := []) #[false, false, false, false, false, false, false, false, false, false, false, false, false] (by kernel_rfl) rfl rfl ⟨(bC BK153.out 0).trans rfl, (bC BK153.out 1).trans rfl, (bC BK153.out 2).trans rfl, (bC BK153.out 3).trans rfl, (bC BK153.out 4).trans rfl, (bC BK153.out 5).trans rfl, (bC BK153.out 6).trans rfl, (bC BK153.out 7).trans rfl, (bC BK153.out 8).trans rfl, (bC BK153.out 9).trans rfl, (bC BK153.out 10).trans rfl, (bC BK153.out 11).trans rfl, (bC BK153.out 12).trans rfl, (bC BK153.out 13).trans rfl, (bC BK153.out 14).trans rfl⟩ (fun hHeld => ?_); refine with_tabW ergolaw13_P_Part.tab5 ergolaw13_P_Part.bits5 (fun HT_ HW_ => ?_)
   generalize w15.drew = w18 at BK153 BK154 HB hHeld ⊢
   refine pure_ (i := 0) (N := some 17) (v := ?_) (a' := ?_) #[true, false, false, false, false, false, false, false, false, false, false, false, false] rfl rfl (any_of HT_.out (by kernel_rfl)) (fun _ _ _ h => h) (Or.inl ⟨by rfl, ?_⟩) ?_ ?_
   rotate_left
   ·intro w'
    go_simp
    with_reducible rfl
   rotate_left
   ·simp only [Act.put, sA_, sZ_, sS_, i64_w, i32_w]
    rfl
   refine pure_ (i := 5) (N := some 22) (v := ?_) (a' := ?_) #[true, false, false, false, false, true, false, false, false, false, false, false, false] rfl rfl (any_of HT_.out (by kernel_rfl)) (fun _ _ _ h => h) (Or.inl ⟨by rfl, ?_⟩) ?_ ?_
   rotate_left
   ·intro w'
    go_simp
    with_reducible rfl
   rotate_left
   ·simp only [Act.put, sA_, sZ_, sS_, i64_w, i32_w]
    rfl
   refine pure_ (i := 8) (N := some 25) (v := ?_) (a' := ?_) #[true, false, false, false, false, true, false, false, true, false, false, false, false] rfl rfl (any_of HT_.out (by kernel_rfl)) (fun _ _ _ h => h) (Or.inl ⟨by rfl, ?_⟩) ?_ ?_
   rotate_left
   ·intro w'
    go_simp
    with_reducible rfl
   rotate_left
   ·simp only [Act.put, sA_, sZ_, sS_, i64_w, i32_w]
    rfl
   refine take_ (i := 1) (N := some 18) (v := ?_) (a' := ?_) #[true, true, false, false, false, true, false, false, true, false, false, false, false] rfl rfl (take_ofW HT_.out HW_.out (by kernel_rfl)) (fun _ _ _ h => h) (Or.inl ⟨by rfl, ?_⟩) hHeld ?_ ?_
   rotate_left
   ·rintro w' ⟨s0, s1, s2, s3, s4, s5, s6, s7, s8, s9, s10, s11, s12, s13, s14⟩
    go_simp
    with_reducible rfl
   rotate_left
   ·simp only [Act.put, sA_, sZ_, sS_, i64_w, i32_w]
    rfl
   refine pure_ (i := 2) (N := some 19) (v := ?_) (a' := ?_) #[true, true, true, false, false, true, false, false, true, false, false, false, false] rfl rfl (any_of HT_.out (by kernel_rfl)) (fun _ _ _ h => h) (Or.inl ⟨by rfl, ?_⟩) ?_ ?_
   rotate_left
   ·intro w'
    go_simp
    with_reducible rfl
   rotate_left
   ·simp only [Act.put, sA_, sZ_, sS_, i64_w, i32_w]
    rfl
   refine pure_ (i := 3) (N := some 20) (v := ?_) (a' := ?_) #[true, true, true, true, false, true, false, false, true, false, false, false, false] rfl rfl (any_of HT_.out (by kernel_rfl)) (fun _ _ _ h => h) (Or.inl ⟨by rfl, ?_⟩) ?_ ?_
   rotate_left
   ·intro w'
    go_simp
    with_reducible rfl
   rotate_left
   ·simp only [Act.put, sA_, sZ_, sS_, i64_w, i32_w]
    rfl
   refine pure_ (i := 4) (N := some 21) (v := ?_) (a' := ?_) #[true, true, true, true, true, true, false, false, true, false, false, false, false] rfl rfl (any_of HT_.out (by kernel_rfl)) (fun _ _ _ h => h) (Or.inl ⟨by rfl, ?_⟩) ?_ ?_
   rotate_left
   ·intro w'
    go_simp
    with_reducible rfl
   rotate_left
   ·simp only [Act.put, sA_, sZ_, sS_, i64_w, i32_w]
    rfl
   refine take_ (i := 6) (N := some 23) (v := ?_) (a' := ?_) #[true, true, true, true, true, true, true, false, true, false, false, false, false] rfl rfl (take_ofW HT_.out HW_.out (by kernel_rfl)) (fun _ _ _ h => h) (Or.inl ⟨by rfl, ?_⟩) hHeld ?_ ?_
   rotate_left
   ·rintro w' ⟨s0, s1, s2, s3, s4, s5, s6, s7, s8, s9, s10, s11, s12, s13, s14⟩
    go_simp
    with_reducible rfl
   rotate_left
   ·simp only [Act.put, sA_, sZ_, sS_, i64_w, i32_w]
    rfl
   refine take_ (i := 9) (N := some 26) (v := ?_) (a' := ?_) #[true, true, true, true, true, true, true, false, true, true, false, false, false] rfl rfl (take_ofW HT_.out HW_.out (by kernel_rfl)) (fun _ _ _ h => h) (Or.inl ⟨by rfl, ?_⟩) hHeld ?_ ?_
   rotate_left
   ·rintro w' ⟨s0, s1, s2, s3, s4, s5, s6, s7, s8, s9, s10, s11, s12, s13, s14⟩
    go_simp
    with_reducible rfl
   rotate_left
   ·simp only [Act.put, sA_, sZ_, sS_, i64_w, i32_w]
    rfl
   refine one_ (i := 7) (N := some 24) #[true, true, true, true, true, true, true, true, true, true, false, false, false] rfl rfl (one_of HT_.out (by kernel_rfl)) (by decide) (fun K hK => ?_)
   refine goes_ Tryd.func52 (by kernel_rfl) rfl #[.agg #[.int .i64 a0_4, .int .i64 a0_5, .int .i64 a0_6]] (by rfl) rfl rfl (by (try simp only [List.map_toArray, List.map_cons, List.map_nil]); first | done | rfl | (simp only [List.length_drop, List.length_take]; rfl)) ?_
   with_reducible refine (ergolaw13_T_Term.calls a0_4 a0_5 a0_6 t159 t160 t161 _ A12.out).mono ?_
   rintro e w19 ⟨rfl, hb⟩
   refine ⟨_, rfl, ?_⟩
   have n0_ := aK_ (bB (by (with_reducible repeat (first | refine bDN ?_ _ | refine bD ?_ | refine bA ?_ _)); exact BK153.out) hb)
   have n1_ := aK_ (bB (by (with_reducible repeat (first | refine bDN ?_ _ | refine bD ?_ | refine bA ?_ _)); exact BK154.out) hb)
   have n2_ := aK_ (lT_ (by repeat (first | (with_reducible first | exact HB.out | apply lA_ | apply pD | apply lD_ | refine lS_ ?_ GE153.out | refine lS_ ?_ GE154.out) | exact HB.out)) hb)
   clear BK153
   clear BK154
   clear HB
   have BK153 := n0_
   have BK154 := n1_
   have HB := n2_
   clear n0_ n1_ n2_
   (try clear hb)
   (try clear hb2)
   (try clear hk)
   (try clear hi)
   refine hK.out _ _ ⟨(bC BK153.out 0).trans rfl, (bC BK153.out 1).trans rfl, (bC BK153.out 2).trans rfl, (bC BK153.out 3).trans rfl, (bC BK153.out 4).trans rfl, (bC BK153.out 5).trans rfl, (bC BK153.out 6).trans rfl, (bC BK153.out 7).trans rfl, (bC BK153.out 8).trans rfl, (bC BK153.out 9).trans rfl, (bC BK153.out 10).trans rfl, (bC BK153.out 11).trans rfl, (bC BK153.out 12).trans rfl, (bC BK153.out 13).trans rfl, (bC BK153.out 14).trans rfl⟩ (fun hHeld => ?_)
   clear hK K
   refine norm_ (a' := ?_) ?_ ?_
   rotate_left
   ·show Act.put _ (some 24) _ = _
    simp only [Act.put, sA_, sZ_, sS_, i64_w, i32_w]
    rfl
   refine one_ (i := 10) (N := some 27) #[true, true, true, true, true, true, true, true, true, true, true, false, false] rfl rfl (one_of HT_.out (by kernel_rfl)) (by decide) (fun K hK => ?_)
   refine goes_ Tryd.func52 (by kernel_rfl) rfl #[.agg #[.int .i64 a0_7, .int .i64 a0_8, .int .i64 a0_9]] (by rfl) rfl rfl (by (try simp only [List.map_toArray, List.map_cons, List.map_nil]); first | done | rfl | (simp only [List.length_drop, List.length_take]; rfl)) ?_
   with_reducible refine (ergolaw13_T_Term.calls a0_7 a0_8 a0_9 t162 t163 t164 _ A13.out).mono ?_
   rintro e w20 ⟨rfl, hb⟩
   refine ⟨_, rfl, ?_⟩
   have n0_ := aK_ (bB (by (with_reducible repeat (first | refine bDN ?_ _ | refine bD ?_ | refine bA ?_ _)); exact BK153.out) hb)
   have n1_ := aK_ (bB (by (with_reducible repeat (first | refine bDN ?_ _ | refine bD ?_ | refine bA ?_ _)); exact BK154.out) hb)
   have n2_ := aK_ (lT_ (by repeat (first | (with_reducible first | exact HB.out | apply lA_ | apply pD | apply lD_ | refine lS_ ?_ GE153.out | refine lS_ ?_ GE154.out) | exact HB.out)) hb)
   clear BK153
   clear BK154
   clear HB
   have BK153 := n0_
   have BK154 := n1_
   have HB := n2_
   clear n0_ n1_ n2_
   (try clear hb)
   (try clear hb2)
   (try clear hk)
   (try clear hi)
   refine hK.out _ _ ⟨(bC BK153.out 0).trans rfl, (bC BK153.out 1).trans rfl, (bC BK153.out 2).trans rfl, (bC BK153.out 3).trans rfl, (bC BK153.out 4).trans rfl, (bC BK153.out 5).trans rfl, (bC BK153.out 6).trans rfl, (bC BK153.out 7).trans rfl, (bC BK153.out 8).trans rfl, (bC BK153.out 9).trans rfl, (bC BK153.out 10).trans rfl, (bC BK153.out 11).trans rfl, (bC BK153.out 12).trans rfl, (bC BK153.out 13).trans rfl, (bC BK153.out 14).trans rfl⟩ (fun hHeld => ?_)
   clear hK K
   refine norm_ (a' := ?_) ?_ ?_
   rotate_left
   ·show Act.put _ (some 27) _ = _
    simp only [Act.put, sA_, sZ_, sS_, i64_w, i32_w]
    rfl
   refine pure_ (i := 11) (N := some 28) (v := ?_) (a' := ?_) #[true, true, true, true, true, true, true, true, true, true, true, true, false] rfl rfl (any_of HT_.out (by kernel_rfl)) (fun _ _ _ h => h) (Or.inl ⟨by rfl, ?_⟩) ?_ ?_
   rotate_left
   ·intro w'
    go_simp
    with_reducible rfl
   rotate_left
   ·simp only [Act.put, sA_, sZ_, sS_, i64_w, i32_w]
    rfl
   refine one_ (i := 12) (N := none) #[true, true, true, true, true, true, true, true, true, true, true, true, true] rfl rfl (one_of HT_.out (by kernel_rfl)) (by decide) (fun K hK => ?_)
   have hs21 : w20.cell? ⟨gb154, 0, none⟩ = some (.int .i64 0) := (bC BK154.out 0).trans rfl
   have hfs21 := bF BK154.out 0
   have hns21_0 := NB153_154.out
   have hms21_0 := NB154_153.out
   have hs22 : w20.cell? ⟨gb154, 1, none⟩ = some (.string (⟨#[]⟩ : ByteArray)) := (bC BK154.out 1).trans rfl
   have hfs22 := bF BK154.out 1
   have hns22_0 := NB153_154.out
   have hms22_0 := NB154_153.out
   have hs23 : w20.cell? ⟨gb154, 2, none⟩ = some (.slice none 0 0) := (bC BK154.out 2).trans rfl
   have hfs23 := bF BK154.out 2
   have hns23_0 := NB153_154.out
   have hms23_0 := NB154_153.out
   have hs24 : w20.cell? ⟨gb154, 3, none⟩ = some (.int .i64 0) := (bC BK154.out 3).trans rfl
   have hfs24 := bF BK154.out 3
   have hns24_0 := NB153_154.out
   have hms24_0 := NB154_153.out
   have hs25 : w20.cell? ⟨gb154, 4, none⟩ = some (.int .i64 0) := (bC BK154.out 4).trans rfl
   have hfs25 := bF BK154.out 4
   have hns25_0 := NB153_154.out
   have hms25_0 := NB154_153.out
   have hs26 : w20.cell? ⟨gb154, 5, none⟩ = some (.string (⟨#[]⟩ : ByteArray)) := (bC BK154.out 5).trans rfl
   have hfs26 := bF BK154.out 5
   have hns26_0 := NB153_154.out
   have hms26_0 := NB154_153.out
   have hs27 : w20.cell? ⟨gb154, 6, none⟩ = some (.int .i64 0) := (bC BK154.out 6).trans rfl
   have hfs27 := bF BK154.out 6
   have hns27_0 := NB153_154.out
   have hms27_0 := NB154_153.out
   have hs28 : w20.cell? ⟨gb154, 7, none⟩ = some (.int .i64 0) := (bC BK154.out 7).trans rfl
   have hfs28 := bF BK154.out 7
   have hns28_0 := NB153_154.out
   have hms28_0 := NB154_153.out
   have hs29 : w20.cell? ⟨gb154, 8, none⟩ = some (.string (⟨#[]⟩ : ByteArray)) := (bC BK154.out 8).trans rfl
   have hfs29 := bF BK154.out 8
   have hns29_0 := NB153_154.out
   have hms29_0 := NB154_153.out
   have hs30 : w20.cell? ⟨gb154, 9, none⟩ = some (.int .i64 0) := (bC BK154.out 9).trans rfl
   have hfs30 := bF BK154.out 9
   have hns30_0 := NB153_154.out
   have hms30_0 := NB154_153.out
   have hs31 : w20.cell? ⟨gb154, 10, none⟩ = some (.string (⟨#[]⟩ : ByteArray)) := (bC BK154.out 10).trans rfl
   have hfs31 := bF BK154.out 10
   have hns31_0 := NB153_154.out
   have hms31_0 := NB154_153.out
   have hs32 : w20.cell? ⟨gb154, 11, none⟩ = some (.int .i64 0) := (bC BK154.out 11).trans rfl
   have hfs32 := bF BK154.out 11
   have hns32_0 := NB153_154.out
   have hms32_0 := NB154_153.out
   have hs33 : w20.cell? ⟨gb154, 12, none⟩ = some (.string (⟨#[]⟩ : ByteArray)) := (bC BK154.out 12).trans rfl
   have hfs33 := bF BK154.out 12
   have hns33_0 := NB153_154.out
   have hms33_0 := NB154_153.out
   have hs34 : w20.cell? ⟨gb154, 13, none⟩ = some (.int .i64 0) := (bC BK154.out 13).trans rfl
   have hfs34 := bF BK154.out 13
   have hns34_0 := NB153_154.out
   have hms34_0 := NB154_153.out
   have hs35 : w20.cell? ⟨gb154, 14, none⟩ = some (.int .i64 0) := (bC BK154.out 14).trans rfl
   have hfs35 := bF BK154.out 14
   have hns35_0 := NB153_154.out
   have hms35_0 := NB154_153.out
   have hs36 : w20.cell? ⟨gb154, 15, none⟩ = some (.slice none 0 0) := (bC BK154.out 15).trans rfl
   have hfs36 := bF BK154.out 15
   have hns36_0 := NB153_154.out
   have hms36_0 := NB154_153.out
   refine skip_ (w1 := ?_) (by rfl) rfl ?_ ?_
   rotate_left
   ·go_simp
    rfl
   refine hK.out _ _ ⟨(cX_ NB153_154.out ((cX_ NB153_154.out ((cX_ NB153_154.out ((cX_ NB153_154.out ((cX_ NB153_154.out ((cX_ NB153_154.out ((cX_ NB153_154.out ((cX_ NB153_154.out ((cX_ NB153_154.out ((cX_ NB153_154.out ((cX_ NB153_154.out ((cX_ NB153_154.out ((cX_ NB153_154.out ((cX_ NB153_154.out ((cX_ NB153_154.out ((cX_ NB153_154.out (hHeld.1)))))))))))))))))))))))))))))))), (cX_ NB153_154.out ((cX_ NB153_154.out ((cX_ NB153_154.out ((cX_ NB153_154.out ((cX_ NB153_154.out ((cX_ NB153_154.out ((cX_ NB153_154.out ((cX_ NB153_154.out ((cX_ NB153_154.out ((cX_ NB153_154.out ((cX_ NB153_154.out ((cX_ NB153_154.out ((cX_ NB153_154.out ((cX_ NB153_154.out ((cX_ NB153_154.out ((cX_ NB153_154.out (hHeld.2.1)))))))))))))))))))))))))))))))), (cX_ NB153_154.out ((cX_ NB153_154.out ((cX_ NB153_154.out ((cX_ NB153_154.out ((cX_ NB153_154.out ((cX_ NB153_154.out ((cX_ NB153_154.out ((cX_ NB153_154.out ((cX_ NB153_154.out ((cX_ NB153_154.out ((cX_ NB153_154.out ((cX_ NB153_154.out ((cX_ NB153_154.out ((cX_ NB153_154.out ((cX_ NB153_154.out ((cX_ NB153_154.out (hHeld.2.2.1)))))))))))))))))))))))))))))))), (cX_ NB153_154.out ((cX_ NB153_154.out ((cX_ NB153_154.out ((cX_ NB153_154.out ((cX_ NB153_154.out ((cX_ NB153_154.out ((cX_ NB153_154.out ((cX_ NB153_154.out ((cX_ NB153_154.out ((cX_ NB153_154.out ((cX_ NB153_154.out ((cX_ NB153_154.out ((cX_ NB153_154.out ((cX_ NB153_154.out ((cX_ NB153_154.out ((cX_ NB153_154.out (hHeld.2.2.2.1)))))))))))))))))))))))))))))))), (cX_ NB153_154.out ((cX_ NB153_154.out ((cX_ NB153_154.out ((cX_ NB153_154.out ((cX_ NB153_154.out ((cX_ NB153_154.out ((cX_ NB153_154.out ((cX_ NB153_154.out ((cX_ NB153_154.out ((cX_ NB153_154.out ((cX_ NB153_154.out ((cX_ NB153_154.out ((cX_ NB153_154.out ((cX_ NB153_154.out ((cX_ NB153_154.out ((cX_ NB153_154.out (hHeld.2.2.2.2.1)))))))))))))))))))))))))))))))), (cX_ NB153_154.out ((cX_ NB153_154.out ((cX_ NB153_154.out ((cX_ NB153_154.out ((cX_ NB153_154.out ((cX_ NB153_154.out ((cX_ NB153_154.out ((cX_ NB153_154.out ((cX_ NB153_154.out ((cX_ NB153_154.out ((cX_ NB153_154.out ((cX_ NB153_154.out ((cX_ NB153_154.out ((cX_ NB153_154.out ((cX_ NB153_154.out ((cX_ NB153_154.out (hHeld.2.2.2.2.2.1)))))))))))))))))))))))))))))))), (cX_ NB153_154.out ((cX_ NB153_154.out ((cX_ NB153_154.out ((cX_ NB153_154.out ((cX_ NB153_154.out ((cX_ NB153_154.out ((cX_ NB153_154.out ((cX_ NB153_154.out ((cX_ NB153_154.out ((cX_ NB153_154.out ((cX_ NB153_154.out ((cX_ NB153_154.out ((cX_ NB153_154.out ((cX_ NB153_154.out ((cX_ NB153_154.out ((cX_ NB153_154.out (hHeld.2.2.2.2.2.2.1)))))))))))))))))))))))))))))))), (cX_ NB153_154.out ((cX_ NB153_154.out ((cX_ NB153_154.out ((cX_ NB153_154.out ((cX_ NB153_154.out ((cX_ NB153_154.out ((cX_ NB153_154.out ((cX_ NB153_154.out ((cX_ NB153_154.out ((cX_ NB153_154.out ((cX_ NB153_154.out ((cX_ NB153_154.out ((cX_ NB153_154.out ((cX_ NB153_154.out ((cX_ NB153_154.out ((cX_ NB153_154.out (hHeld.2.2.2.2.2.2.2.1)))))))))))))))))))))))))))))))), (cX_ NB153_154.out ((cX_ NB153_154.out ((cX_ NB153_154.out ((cX_ NB153_154.out ((cX_ NB153_154.out ((cX_ NB153_154.out ((cX_ NB153_154.out ((cX_ NB153_154.out ((cX_ NB153_154.out ((cX_ NB153_154.out ((cX_ NB153_154.out ((cX_ NB153_154.out ((cX_ NB153_154.out ((cX_ NB153_154.out ((cX_ NB153_154.out ((cX_ NB153_154.out (hHeld.2.2.2.2.2.2.2.2.1)))))))))))))))))))))))))))))))), (cX_ NB153_154.out ((cX_ NB153_154.out ((cX_ NB153_154.out ((cX_ NB153_154.out ((cX_ NB153_154.out ((cX_ NB153_154.out ((cX_ NB153_154.out ((cX_ NB153_154.out ((cX_ NB153_154.out ((cX_ NB153_154.out ((cX_ NB153_154.out ((cX_ NB153_154.out ((cX_ NB153_154.out ((cX_ NB153_154.out ((cX_ NB153_154.out ((cX_ NB153_154.out (hHeld.2.2.2.2.2.2.2.2.2.1)))))))))))))))))))))))))))))))), (cX_ NB153_154.out ((cX_ NB153_154.out ((cX_ NB153_154.out ((cX_ NB153_154.out ((cX_ NB153_154.out ((cX_ NB153_154.out ((cX_ NB153_154.out ((cX_ NB153_154.out ((cX_ NB153_154.out ((cX_ NB153_154.out ((cX_ NB153_154.out ((cX_ NB153_154.out ((cX_ NB153_154.out ((cX_ NB153_154.out ((cX_ NB153_154.out ((cX_ NB153_154.out (hHeld.2.2.2.2.2.2.2.2.2.2.1)))))))))))))))))))))))))))))))), (cX_ NB153_154.out ((cX_ NB153_154.out ((cX_ NB153_154.out ((cX_ NB153_154.out ((cX_ NB153_154.out ((cX_ NB153_154.out ((cX_ NB153_154.out ((cX_ NB153_154.out ((cX_ NB153_154.out ((cX_ NB153_154.out ((cX_ NB153_154.out ((cX_ NB153_154.out ((cX_ NB153_154.out ((cX_ NB153_154.out ((cX_ NB153_154.out ((cX_ NB153_154.out (hHeld.2.2.2.2.2.2.2.2.2.2.2.1)))))))))))))))))))))))))))))))), (cX_ NB153_154.out ((cX_ NB153_154.out ((cX_ NB153_154.out ((cX_ NB153_154.out ((cX_ NB153_154.out ((cX_ NB153_154.out ((cX_ NB153_154.out ((cX_ NB153_154.out ((cX_ NB153_154.out ((cX_ NB153_154.out ((cX_ NB153_154.out ((cX_ NB153_154.out ((cX_ NB153_154.out ((cX_ NB153_154.out ((cX_ NB153_154.out ((cX_ NB153_154.out (hHeld.2.2.2.2.2.2.2.2.2.2.2.2.1)))))))))))))))))))))))))))))))), (cX_ NB153_154.out ((cX_ NB153_154.out ((cX_ NB153_154.out ((cX_ NB153_154.out ((cX_ NB153_154.out ((cX_ NB153_154.out ((cX_ NB153_154.out ((cX_ NB153_154.out ((cX_ NB153_154.out ((cX_ NB153_154.out ((cX_ NB153_154.out ((cX_ NB153_154.out ((cX_ NB153_154.out ((cX_ NB153_154.out ((cX_ NB153_154.out ((cX_ NB153_154.out (hHeld.2.2.2.2.2.2.2.2.2.2.2.2.2.1)))))))))))))))))))))))))))))))), (cX_ NB153_154.out ((cX_ NB153_154.out ((cX_ NB153_154.out ((cX_ NB153_154.out ((cX_ NB153_154.out ((cX_ NB153_154.out ((cX_ NB153_154.out ((cX_ NB153_154.out ((cX_ NB153_154.out ((cX_ NB153_154.out ((cX_ NB153_154.out ((cX_ NB153_154.out ((cX_ NB153_154.out ((cX_ NB153_154.out ((cX_ NB153_154.out ((cX_ NB153_154.out (hHeld.2.2.2.2.2.2.2.2.2.2.2.2.2.2))))))))))))))))))))))))))))))))⟩ (fun hHeld => ?_)
   clear hK K
   refine done_ (done_of HT_.out (by kernel_rfl)) ?_
   try go_wp2
   refine bodyPost_ret (results_cell_row rfl _ _ gb154 59 #[.int .i64 2, .string (⟨#[]⟩ : ByteArray), .slice none 0 0, .int .i64 (wrap64 (Int.tmod (IntKind.u64.wrap (a0_1)) 6)), .int .i64 t159, .string t160, .int .i64 t161, .int .i64 t162, .string t163, .int .i64 t164, .string (⟨#[]⟩ : ByteArray), .int .i64 0, .string (⟨#[]⟩ : ByteArray), .int .i64 0, .int .i64 0, .slice none 0 0] (0, 0) _ rfl ((by apply eC_; (with_reducible repeat (first | refine bDN ?_ _ | refine bD ?_ | refine bA ?_ _)); apply b2_; (with_reducible repeat (first | refine bDN ?_ _ | refine bD ?_ | refine bA ?_ _)); apply b2_; (with_reducible repeat (first | refine bDN ?_ _ | refine bD ?_ | refine bA ?_ _)); apply b2_; (with_reducible repeat (first | refine bDN ?_ _ | refine bD ?_ | refine bA ?_ _)); apply b2_; (with_reducible repeat (first | refine bDN ?_ _ | refine bD ?_ | refine bA ?_ _)); apply b2_; (with_reducible repeat (first | refine bDN ?_ _ | refine bD ?_ | refine bA ?_ _)); apply b2_; (with_reducible repeat (first | refine bDN ?_ _ | refine bD ?_ | refine bA ?_ _)); apply b2_; (with_reducible repeat (first | refine bDN ?_ _ | refine bD ?_ | refine bA ?_ _)); apply b2_; (with_reducible repeat (first | refine bDN ?_ _ | refine bD ?_ | refine bA ?_ _)); apply b2_; (with_reducible repeat (first | refine bDN ?_ _ | refine bD ?_ | refine bA ?_ _)); apply b2_; (with_reducible repeat (first | refine bDN ?_ _ | refine bD ?_ | refine bA ?_ _)); apply b2_; (with_reducible repeat (first | refine bDN ?_ _ | refine bD ?_ | refine bA ?_ _)); apply b2_; (with_reducible repeat (first | refine bDN ?_ _ | refine bD ?_ | refine bA ?_ _)); apply b2_; (with_reducible repeat (first | refine bDN ?_ _ | refine bD ?_ | refine bA ?_ _)); apply b2_; (with_reducible repeat (first | refine bDN ?_ _ | refine bD ?_ | refine bA ?_ _)); apply b2_; (with_reducible repeat (first | refine bDN ?_ _ | refine bD ?_ | refine bA ?_ _)); apply b2_; (with_reducible repeat (first | refine bDN ?_ _ | refine bD ?_ | refine bA ?_ _)); exact BK154.out; kernel_rfl)) Tryd.underlying59 rfl (by kernel_rfl)) rfl ?_
   exact ⟨_, _, by first | rfl | (simp [errW_none, errW_some] <;> rfl) | (simp [*, errW_none, errW_some] <;> rfl), by first | exact Kd.R_nil _ _ _ _ _ | exact Kd.N_nil _ _ _ _ _ | exact Kd.V_nil _ _ _ _ _ | exact Kd.Q_nil _ _ _ _ _ | exact Kd.S_nil _ _ _ _ _, by first | exact Kd.R_nil _ _ _ _ _ | exact Kd.N_nil _ _ _ _ _ | exact Kd.V_nil _ _ _ _ _ | exact Kd.Q_nil _ _ _ _ _ | exact Kd.S_nil _ _ _ _ _, by repeat (first | (with_reducible first | exact HB.out | apply lA_ | apply pD | apply lD_ | refine lS_ ?_ GE153.out | refine lS_ ?_ GE154.out) | exact HB.out)⟩
  ·rw [if_neg c11] at H
   have c11b0 : ((wrap64 (Int.tmod (IntKind.u64.wrap (a0_0)) 6)) == 4) = false := beq_eq_false_iff_ne.mpr c11
   have c11b1 : ((wrap64 (Int.tmod (IntKind.u64.wrap (a0_0)) 6)) != 4) = true := bne_iff_ne.mpr c11
   by_cases c37 : (wrap64 (Int.tmod (IntKind.u64.wrap (a0_0)) 6)) = 5
   ·rw [if_pos c37] at H
    have c37b0 : ((wrap64 (Int.tmod (IntKind.u64.wrap (a0_0)) 6)) == 5) = true := beq_iff_eq.mpr c37
    have c37b1 : ((wrap64 (Int.tmod (IntKind.u64.wrap (a0_0)) 6)) != 5) = false := bne_eq_false_iff_eq.mpr c37
    clear c37
    replace H := Option.bind_eq_some_iff.mp H
    obtain ⟨⟨t166, t167, t168⟩, A380, H⟩ := H
    replace H : ((ergolaw13_E_Expr.f k a0_10 a0_11 a0_12 a0_13 l0_14).bind fun bt169 => (some (3, (⟨#[]⟩ : ByteArray), ([] : List (S53)), 0, 0, (⟨#[]⟩ : ByteArray), 0, 0, (⟨#[]⟩ : ByteArray), 0, t167, bt169.1, bt169.2.1, bt169.2.2.1, bt169.2.2.2.1, bt169.2.2.2.2))) = some (r1, r2, r3, r4, r5, r6, r7, r8, r9, r10, r11, r12, r13, r14, r15, r16) := H
    have A38 := aK_ A380
    clear A380
    replace H := Option.bind_eq_some_iff.mp H
    obtain ⟨⟨t169, t170, t171, t172, t173⟩, A390, H⟩ := H
    replace H : (some (3, (⟨#[]⟩ : ByteArray), ([] : List (S53)), 0, 0, (⟨#[]⟩ : ByteArray), 0, 0, (⟨#[]⟩ : ByteArray), 0, t167, t169, t170, t171, t172, t173)) = some (r1, r2, r3, r4, r5, r6, r7, r8, r9, r10, r11, r12, r13, r14, r15, r16) := H
    have A39 := aK_ A390
    clear A390
    simp only [Option.some.injEq, Prod.mk.injEq] at H
    obtain ⟨rfl, rfl, rfl, rfl, rfl, rfl, rfl, rfl, rfl, rfl, rfl, rfl, rfl, rfl, rfl, rfl⟩ := H
    go_enter Tryd.func32, Tryd.ntmps32
    try go_wp2_with (first | ((with_reducible refine gate_dst (N := 1) rfl ?_); refine box_event ?hg (N := 1) ?hd (cs := #[.int .i64 a0_0, .int .i64 a0_1, .int .i64 a0_2, .slice A0_3 l0_3.length c0_3, .int .i64 a0_4, .int .i64 a0_5, .int .i64 a0_6, .int .i64 a0_7, .int .i64 a0_8, .int .i64 a0_9, .int .i64 a0_10, .int .i64 a0_11, .int .i64 a0_12, .int .i64 a0_13, .slice A0_14 l0_14.length c0_14]) (t := 86) ?hr ?_; (case hd => rfl); (case hg => rfl); (case hr => first | (go_simp; done) | (go_simp; rfl)); intro gb153 hg w40 hbox hb; have n0_ := aK_ (lT_ (by repeat (first | (with_reducible first | exact HB.out | apply lA_ | apply pD | apply lD_) | exact HB.out)) hb); have n1_ := aK_ (hbox); have n2_ := aK_ ((by rw [hg]; exact (lZ_ (by repeat (first | (with_reducible first | exact HB.out | apply lA_ | apply pD | apply lD_) | exact HB.out))) : w.heap.size ≤ gb153)); have n3_ := aK_ ((by rw [hg]; exact (lZ_ (by repeat (first | (with_reducible first | exact HB.out | apply lA_ | apply pD | apply lD_) | exact HB.out))) : w.heap.size ≤ gb153)); clear HB; have HB := n0_; have BK153 := n1_; have GW153 := n2_; have GE153 := n3_; clear n0_ n1_ n2_ n3_; clear hb hbox hg) | ((with_reducible refine gate_dst (N := 2) rfl ?_); refine box_event ?hg (N := 2) ?hd (cs := #[.int .i64 0, .string (⟨#[]⟩ : ByteArray), .slice none 0 0, .int .i64 0, .int .i64 0, .string (⟨#[]⟩ : ByteArray), .int .i64 0, .int .i64 0, .string (⟨#[]⟩ : ByteArray), .int .i64 0, .string (⟨#[]⟩ : ByteArray), .int .i64 0, .string (⟨#[]⟩ : ByteArray), .int .i64 0, .int .i64 0, .slice none 0 0]) (t := 59) ?hr ?_; (case hd => rfl); (case hg => rfl); (case hr => first | (go_simp; done) | (go_simp; rfl)); intro gb154 hg w41 hbox hb; have n0_ := aK_ (bB (by (with_reducible repeat (first | refine bDN ?_ _ | refine bD ?_ | refine bA ?_ _)); exact BK153.out) hb); have n1_ := aK_ (lT_ (by repeat (first | (with_reducible first | exact HB.out | apply lA_ | apply pD | apply lD_ | refine lS_ ?_ GE153.out) | exact HB.out)) hb); have n2_ := aK_ (hbox); have n3_ := aK_ ((by rw [hg]; exact (lZ_ (by repeat (first | (with_reducible first | exact HB.out | apply lA_ | apply pD | apply lD_ | refine lS_ ?_ GE153.out) | exact HB.out))) : w.heap.size ≤ gb154)); have n4_ := aK_ ((by rw [hg]; exact (lZ_ (by repeat (first | (with_reducible first | exact HB.out | apply lA_ | apply pD | apply lD_ | refine lS_ ?_ GE153.out) | exact HB.out))) : w.heap.size ≤ gb154)); have n5_ := aK_ ((by rw [hg]; exact Nat.ne_of_lt (blk_lt (g := gb153) (o := .cells #[.int .i64 a0_0, .int .i64 a0_1, .int .i64 a0_2, .slice A0_3 l0_3.length c0_3, .int .i64 a0_4, .int .i64 a0_5, .int .i64 a0_6, .int .i64 a0_7, .int .i64 a0_8, .int .i64 a0_9, .int .i64 a0_10, .int .i64 a0_11, .int .i64 a0_12, .int .i64 a0_13, .slice A0_14 l0_14.length c0_14] 86 (0, 0)) (by (with_reducible repeat (first | refine bDN ?_ _ | refine bD ?_ | refine bA ?_ _)); exact BK153.out)) : gb153 ≠ gb154)); have n6_ := aK_ ((by rw [hg]; exact Nat.ne_of_gt (blk_lt (g := gb153) (o := .cells #[.int .i64 a0_0, .int .i64 a0_1, .int .i64 a0_2, .slice A0_3 l0_3.length c0_3, .int .i64 a0_4, .int .i64 a0_5, .int .i64 a0_6, .int .i64 a0_7, .int .i64 a0_8, .int .i64 a0_9, .int .i64 a0_10, .int .i64 a0_11, .int .i64 a0_12, .int .i64 a0_13, .slice A0_14 l0_14.length c0_14] 86 (0, 0)) (by (with_reducible repeat (first | refine bDN ?_ _ | refine bD ?_ | refine bA ?_ _)); exact BK153.out)) : gb154 ≠ gb153)); clear BK153; clear HB; have BK153 := n0_; have HB := n1_; have BK154 := n2_; have GW154 := n3_; have GE154 := n4_; have NB153_154 := n5_; have NB154_153 := n6_; clear n0_ n1_ n2_ n3_ n4_ n5_ n6_; clear hb hbox hg; have hnb42 := NB153_154.out; have hnc42 := NB154_153.out; have hcz43_0 : w41.cell? ⟨gb153, 0, none⟩ = some (.int .i64 a0_0) := (bC BK153.out 0).trans rfl; have hcz43_1 : w41.cell? ⟨gb153, 1, none⟩ = some (.int .i64 a0_1) := (bC BK153.out 1).trans rfl; have hcz43_2 : w41.cell? ⟨gb153, 2, none⟩ = some (.int .i64 a0_2) := (bC BK153.out 2).trans rfl; have hcz43_3 : w41.cell? ⟨gb153, 3, none⟩ = some (.slice A0_3 l0_3.length c0_3) := (bC BK153.out 3).trans rfl; have hcz43_4 : w41.cell? ⟨gb153, 4, none⟩ = some (.int .i64 a0_4) := (bC BK153.out 4).trans rfl; have hcz43_5 : w41.cell? ⟨gb153, 5, none⟩ = some (.int .i64 a0_5) := (bC BK153.out 5).trans rfl; have hcz43_6 : w41.cell? ⟨gb153, 6, none⟩ = some (.int .i64 a0_6) := (bC BK153.out 6).trans rfl; have hcz43_7 : w41.cell? ⟨gb153, 7, none⟩ = some (.int .i64 a0_7) := (bC BK153.out 7).trans rfl; have hcz43_8 : w41.cell? ⟨gb153, 8, none⟩ = some (.int .i64 a0_8) := (bC BK153.out 8).trans rfl; have hcz43_9 : w41.cell? ⟨gb153, 9, none⟩ = some (.int .i64 a0_9) := (bC BK153.out 9).trans rfl; have hcz43_10 : w41.cell? ⟨gb153, 10, none⟩ = some (.int .i64 a0_10) := (bC BK153.out 10).trans rfl; have hcz43_11 : w41.cell? ⟨gb153, 11, none⟩ = some (.int .i64 a0_11) := (bC BK153.out 11).trans rfl; have hcz43_12 : w41.cell? ⟨gb153, 12, none⟩ = some (.int .i64 a0_12) := (bC BK153.out 12).trans rfl; have hcz43_13 : w41.cell? ⟨gb153, 13, none⟩ = some (.int .i64 a0_13) := (bC BK153.out 13).trans rfl; have hcz43_14 : w41.cell? ⟨gb153, 14, none⟩ = some (.slice A0_14 l0_14.length c0_14) := (bC BK153.out 14).trans rfl; have hfz43_0 := bF BK153.out 0; have hfz43_1 := bF BK153.out 1; have hfz43_2 := bF BK153.out 2; have hfz43_3 := bF BK153.out 3; have hfz43_4 := bF BK153.out 4; have hfz43_5 := bF BK153.out 5; have hfz43_6 := bF BK153.out 6; have hfz43_7 := bF BK153.out 7; have hfz43_8 := bF BK153.out 8; have hfz43_9 := bF BK153.out 9; have hfz43_10 := bF BK153.out 10; have hfz43_11 := bF BK153.out 11; have hfz43_12 := bF BK153.out 12; have hfz43_13 := bF BK153.out 13; have hfz43_14 := bF BK153.out 14) | ((with_reducible refine gate_dst (N := 3) rfl ?_); refine box_event ?hg (N := 3) ?hd (cs := #[.int .i64 0, .int .i64 0, .int .i64 0]) (t := 81) ?hr ?_; (case hd => rfl); (case hg => rfl); (case hr => first | (go_simp; done) | (go_simp; rfl)); intro gb165 hg w44 hbox hb; have n0_ := aK_ (bB (by (with_reducible repeat (first | refine bDN ?_ _ | refine bD ?_ | refine bA ?_ _)); exact BK153.out) hb); have n1_ := aK_ (bB (by (with_reducible repeat (first | refine bDN ?_ _ | refine bD ?_ | refine bA ?_ _)); exact BK154.out) hb); have n2_ := aK_ (lT_ (by repeat (first | (with_reducible first | exact HB.out | apply lA_ | apply pD | apply lD_ | refine lS_ ?_ GE153.out | refine lS_ ?_ GE154.out) | exact HB.out)) hb); have n3_ := aK_ (hbox); have n4_ := aK_ ((by rw [hg]; exact (lZ_ (by repeat (first | (with_reducible first | exact HB.out | apply lA_ | apply pD | apply lD_ | refine lS_ ?_ GE153.out | refine lS_ ?_ GE154.out) | exact HB.out))) : w.heap.size ≤ gb165)); have n5_ := aK_ ((by rw [hg]; exact (lZ_ (by repeat (first | (with_reducible first | exact HB.out | apply lA_ | apply pD | apply lD_ | refine lS_ ?_ GE153.out | refine lS_ ?_ GE154.out) | exact HB.out))) : w.heap.size ≤ gb165)); have n6_ := aK_ ((by rw [hg]; exact Nat.ne_of_lt (blk_lt (g := gb153) (o := .cells #[.int .i64 a0_0, .int .i64 a0_1, .int .i64 a0_2, .slice A0_3 l0_3.length c0_3, .int .i64 a0_4, .int .i64 a0_5, .int .i64 a0_6, .int .i64 a0_7, .int .i64 a0_8, .int .i64 a0_9, .int .i64 a0_10, .int .i64 a0_11, .int .i64 a0_12, .int .i64 a0_13, .slice A0_14 l0_14.length c0_14] 86 (0, 0)) (by (with_reducible repeat (first | refine bDN ?_ _ | refine bD ?_ | refine bA ?_ _)); exact BK153.out)) : gb153 ≠ gb165)); have n7_ := aK_ ((by rw [hg]; exact Nat.ne_of_gt (blk_lt (g := gb153) (o := .cells #[.int .i64 a0_0, .int .i64 a0_1, .int .i64 a0_2, .slice A0_3 l0_3.length c0_3, .int .i64 a0_4, .int .i64 a0_5, .int .i64 a0_6, .int .i64 a0_7, .int .i64 a0_8, .int .i64 a0_9, .int .i64 a0_10, .int .i64 a0_11, .int .i64 a0_12, .int .i64 a0_13, .slice A0_14 l0_14.length c0_14] 86 (0, 0)) (by (with_reducible repeat (first | refine bDN ?_ _ | refine bD ?_ | refine bA ?_ _)); exact BK153.out)) : gb165 ≠ gb153)); have n8_ := aK_ ((by rw [hg]; exact Nat.ne_of_lt (blk_lt (g := gb154) (o := .cells #[.int .i64 0, .string (⟨#[]⟩ : ByteArray), .slice none 0 0, .int .i64 0, .int .i64 0, .string (⟨#[]⟩ : ByteArray), .int .i64 0, .int .i64 0, .string (⟨#[]⟩ : ByteArray), .int .i64 0, .string (⟨#[]⟩ : ByteArray), .int .i64 0, .string (⟨#[]⟩ : ByteArray), .int .i64 0, .int .i64 0, .slice none 0 0] 59 (0, 0)) (by (with_reducible repeat (first | refine bDN ?_ _ | refine bD ?_ | refine bA ?_ _)); exact BK154.out)) : gb154 ≠ gb165)); have n9_ := aK_ ((by rw [hg]; exact Nat.ne_of_gt (blk_lt (g := gb154) (o := .cells #[.int .i64 0, .string (⟨#[]⟩ : ByteArray), .slice none 0 0, .int .i64 0, .int .i64 0, .string (⟨#[]⟩ : ByteArray), .int .i64 0, .int .i64 0, .string (⟨#[]⟩ : ByteArray), .int .i64 0, .string (⟨#[]⟩ : ByteArray), .int .i64 0, .string (⟨#[]⟩ : ByteArray), .int .i64 0, .int .i64 0, .slice none 0 0] 59 (0, 0)) (by (with_reducible repeat (first | refine bDN ?_ _ | refine bD ?_ | refine bA ?_ _)); exact BK154.out)) : gb165 ≠ gb154)); clear BK153; clear BK154; clear HB; have BK153 := n0_; have BK154 := n1_; have HB := n2_; have BK165 := n3_; have GW165 := n4_; have GE165 := n5_; have NB153_165 := n6_; have NB165_153 := n7_; have NB154_165 := n8_; have NB165_154 := n9_; clear n0_ n1_ n2_ n3_ n4_ n5_ n6_ n7_ n8_ n9_; clear hb hbox hg; have hnb45 := NB165_153.out; have hnc45 := NB153_165.out; have hnb46 := NB165_154.out; have hnc46 := NB154_165.out; have hcz47_0 : w44.cell? ⟨gb165, 0, none⟩ = some (.int .i64 0) := (bC BK165.out 0).trans rfl; have hcz47_1 : w44.cell? ⟨gb165, 1, none⟩ = some (.int .i64 0) := (bC BK165.out 1).trans rfl; have hcz47_2 : w44.cell? ⟨gb165, 2, none⟩ = some (.int .i64 0) := (bC BK165.out 2).trans rfl; have hfz47_0 := bF BK165.out 0; have hfz47_1 := bF BK165.out 1; have hfz47_2 := bF BK165.out 2))
    have n0_ : Aside0 (((((w44.setCell ⟨gb165, 0, none⟩ (.int .i64 a0_4)).setCell ⟨gb165, 1, none⟩ (.int .i64 a0_5)).setCell ⟨gb165, 2, none⟩ (.int .i64 a0_6)).setCell ⟨gb165, 0, none⟩ (.int .i64 0)).heap[gb153]? = some (.cells #[.int .i64 a0_0, .int .i64 a0_1, .int .i64 a0_2, .slice A0_3 l0_3.length c0_3, .int .i64 a0_4, .int .i64 a0_5, .int .i64 a0_6, .int .i64 a0_7, .int .i64 a0_8, .int .i64 a0_9, .int .i64 a0_10, .int .i64 a0_11, .int .i64 a0_12, .int .i64 a0_13, .slice A0_14 l0_14.length c0_14] 86 (0, 0))) := ⟨by (with_reducible repeat (first | refine bDN ?_ _ | refine bD ?_ | refine bA ?_ _)); refine blk_far ?_ NB153_165.out _; (with_reducible repeat (first | refine bDN ?_ _ | refine bD ?_ | refine bA ?_ _)); refine blk_far ?_ NB153_165.out _; (with_reducible repeat (first | refine bDN ?_ _ | refine bD ?_ | refine bA ?_ _)); refine blk_far ?_ NB153_165.out _; (with_reducible repeat (first | refine bDN ?_ _ | refine bD ?_ | refine bA ?_ _)); refine blk_far ?_ NB153_165.out _; (with_reducible repeat (first | refine bDN ?_ _ | refine bD ?_ | refine bA ?_ _)); exact BK153.out⟩
    have n1_ : Aside0 (((((w44.setCell ⟨gb165, 0, none⟩ (.int .i64 a0_4)).setCell ⟨gb165, 1, none⟩ (.int .i64 a0_5)).setCell ⟨gb165, 2, none⟩ (.int .i64 a0_6)).setCell ⟨gb165, 0, none⟩ (.int .i64 0)).heap[gb154]? = some (.cells #[.int .i64 0, .string (⟨#[]⟩ : ByteArray), .slice none 0 0, .int .i64 0, .int .i64 0, .string (⟨#[]⟩ : ByteArray), .int .i64 0, .int .i64 0, .string (⟨#[]⟩ : ByteArray), .int .i64 0, .string (⟨#[]⟩ : ByteArray), .int .i64 0, .string (⟨#[]⟩ : ByteArray), .int .i64 0, .int .i64 0, .slice none 0 0] 59 (0, 0))) := ⟨by (with_reducible repeat (first | refine bDN ?_ _ | refine bD ?_ | refine bA ?_ _)); refine blk_far ?_ NB154_165.out _; (with_reducible repeat (first | refine bDN ?_ _ | refine bD ?_ | refine bA ?_ _)); refine blk_far ?_ NB154_165.out _; (with_reducible repeat (first | refine bDN ?_ _ | refine bD ?_ | refine bA ?_ _)); refine blk_far ?_ NB154_165.out _; (with_reducible repeat (first | refine bDN ?_ _ | refine bD ?_ | refine bA ?_ _)); refine blk_far ?_ NB154_165.out _; (with_reducible repeat (first | refine bDN ?_ _ | refine bD ?_ | refine bA ?_ _)); exact BK154.out⟩
    have n2_ : Aside0 (((((w44.setCell ⟨gb165, 0, none⟩ (.int .i64 a0_4)).setCell ⟨gb165, 1, none⟩ (.int .i64 a0_5)).setCell ⟨gb165, 2, none⟩ (.int .i64 a0_6)).setCell ⟨gb165, 0, none⟩ (.int .i64 0)).heap[gb165]? = some (.cells #[.int .i64 0, .int .i64 a0_5, .int .i64 a0_6] 81 (0, 0))) := ⟨(by apply eC_; (with_reducible repeat (first | refine bDN ?_ _ | refine bD ?_ | refine bA ?_ _)); apply b2_; (with_reducible repeat (first | refine bDN ?_ _ | refine bD ?_ | refine bA ?_ _)); apply b2_; (with_reducible repeat (first | refine bDN ?_ _ | refine bD ?_ | refine bA ?_ _)); apply b2_; (with_reducible repeat (first | refine bDN ?_ _ | refine bD ?_ | refine bA ?_ _)); apply b2_; (with_reducible repeat (first | refine bDN ?_ _ | refine bD ?_ | refine bA ?_ _)); exact BK165.out; kernel_rfl)⟩
    have n3_ : Aside0 (Below w.heap.size w ((((w44.setCell ⟨gb165, 0, none⟩ (.int .i64 a0_4)).setCell ⟨gb165, 1, none⟩ (.int .i64 a0_5)).setCell ⟨gb165, 2, none⟩ (.int .i64 a0_6)).setCell ⟨gb165, 0, none⟩ (.int .i64 0))) := ⟨by repeat (first | (with_reducible first | exact HB.out | apply lA_ | apply pD | apply lD_ | refine lS_ ?_ GE153.out | refine lS_ ?_ GE154.out | refine lS_ ?_ GE165.out) | exact HB.out)⟩
    (try clear BK153)
    (try clear BK154)
    (try clear BK165)
    (try clear HB)
    generalize ((((w44.setCell ⟨gb165, 0, none⟩ (.int .i64 a0_4)).setCell ⟨gb165, 1, none⟩ (.int .i64 a0_5)).setCell ⟨gb165, 2, none⟩ (.int .i64 a0_6)).setCell ⟨gb165, 0, none⟩ (.int .i64 0)) = w48 at n0_ n1_ n2_ n3_ ⊢
    have BK153 := n0_
    have BK154 := n1_
    have BK165 := n2_
    have HB := n3_
    clear n0_ n1_ n2_ n3_
    have n0_ := aK_ (bD BK153.out)
    have n1_ := aK_ (bD BK154.out)
    have n2_ := aK_ (bD BK165.out)
    have n3_ := aK_ (lD_ HB.out)
    clear BK153
    clear BK154
    clear BK165
    clear HB
    have BK153 := n0_
    have BK154 := n1_
    have BK165 := n2_
    have HB := n3_
    clear n0_ n1_ n2_ n3_
    refine start_ (n := 8) (S := fun w' => w'.cell? ⟨gb165, 0, none⟩ = some (.int .i64 0) ∧ w'.cell? ⟨gb165, 1, none⟩ = some (.int .i64 a0_5) ∧ w'.cell? ⟨gb165, 2, none⟩ = some (.int .i64 a0_6) ∧ w'.cell? ⟨gb153, 0, none⟩ = some (.int .i64 a0_0) ∧ w'.cell? ⟨gb153, 1, none⟩ = some (.int .i64 a0_1) ∧ w'.cell? ⟨gb153, 2, none⟩ = some (.int .i64 a0_2) ∧ w'.cell? ⟨gb153, 3, none⟩ = some (.slice A0_3 l0_3.length c0_3) ∧ w'.cell? ⟨gb153, 4, none⟩ = some (.int .i64 a0_4) ∧ w'.cell? ⟨gb153, 5, none⟩ = some (.int .i64 a0_5) ∧ w'.cell? ⟨gb153, 6, none⟩ = some (.int .i64 a0_6) ∧ w'.cell? ⟨gb153, 7, none⟩ = some (.int .i64 a0_7) ∧ w'.cell? ⟨gb153, 8, none⟩ = some (.int .i64 a0_8) ∧ w'.cell? ⟨gb153, 9, none⟩ = some (.int .i64 a0_9) ∧ w'.cell? ⟨gb153, 10, none⟩ = some (.int .i64 a0_10) ∧ w'.cell? ⟨gb153, 11, none⟩ = some (.int .i64 a0_11) ∧ w'.cell? ⟨gb153, 12, none⟩ = some (.int .i64 a0_12) ∧ w'.cell? ⟨gb153, 13, none⟩ = some (.int .i64 a0_13) ∧ w'.cell? ⟨gb153, 14, none⟩ = some (.slice A0_14 l0_14.length c0_14)) (ds := []) #[false, false, false, false, false, false, false, false] (by kernel_rfl) rfl rfl ⟨(bC BK165.out 0).trans rfl, (bC BK165.out 1).trans rfl, (bC BK165.out 2).trans rfl, (bC BK153.out 0).trans rfl, (bC BK153.out 1).trans rfl, (bC BK153.out 2).trans rfl, (bC BK153.out 3).trans rfl, (bC BK153.out 4).trans rfl, (bC BK153.out 5).trans rfl, (bC BK153.out 6).trans rfl, (bC BK153.out 7).trans rfl, (bC BK153.out 8).trans rfl, (bC BK153.out 9).trans rfl, (bC BK153.out 10).trans rfl, (bC BK153.out 11).trans rfl, (bC BK153.out 12).trans rfl, (bC BK153.out 13).trans rfl, (bC BK153.out 14).trans rfl⟩ (fun hHeld => ?_); refine with_tabW ergolaw13_P_Part.tab9 ergolaw13_P_Part.bits9 (fun HT_ HW_ => ?_)
    generalize w48.drew = w49 at BK153 BK154 BK165 HB hHeld ⊢
    refine pure_ (i := 3) (N := some 37) (v := ?_) (a' := ?_) #[false, false, false, true, false, false, false, false] rfl rfl (any_of HT_.out (by kernel_rfl)) (fun _ _ _ h => h) (Or.inl ⟨by rfl, ?_⟩) ?_ ?_
    rotate_left
    ·intro w'
     go_simp
     with_reducible rfl
    rotate_left
    ·simp only [Act.put, sA_, sZ_, sS_, i64_w, i32_w]
     rfl
    refine take_ (i := 0) (N := some 34) (v := ?_) (a' := ?_) #[true, false, false, true, false, false, false, false] rfl rfl (take_ofW HT_.out HW_.out (by kernel_rfl)) (fun _ _ _ h => h) (Or.inl ⟨by rfl, ?_⟩) hHeld ?_ ?_
    rotate_left
    ·rintro w' ⟨s0, s1, s2, s3, s4, s5, s6, s7, s8, s9, s10, s11, s12, s13, s14, s15, s16, s17⟩
     go_simp
     with_reducible rfl
    rotate_left
    ·simp only [Act.put, sA_, sZ_, sS_, i64_w, i32_w]
     rfl
    refine take_ (i := 4) (N := some 38) (v := ?_) (a' := ?_) #[true, false, false, true, true, false, false, false] rfl rfl (take_ofW HT_.out HW_.out (by kernel_rfl)) (fun _ _ _ h => h) (Or.inl ⟨by rfl, ?_⟩) hHeld ?_ ?_
    rotate_left
    ·rintro w' ⟨s0, s1, s2, s3, s4, s5, s6, s7, s8, s9, s10, s11, s12, s13, s14, s15, s16, s17⟩
     go_simp
     with_reducible rfl
    rotate_left
    ·simp only [Act.put, sA_, sZ_, sS_, i64_w, i32_w]
     rfl
    refine one_ (i := 1) (N := some 35) #[true, true, false, true, true, false, false, false] rfl rfl (one_of HT_.out (by kernel_rfl)) (by decide) (fun K hK => ?_)
    refine goes_ Tryd.func52 (by kernel_rfl) rfl #[.agg #[.int .i64 0, .int .i64 a0_5, .int .i64 a0_6]] (by rfl) rfl rfl (by (try simp only [List.map_toArray, List.map_cons, List.map_nil]); first | done | rfl | (simp only [List.length_drop, List.length_take]; rfl)) ?_
    with_reducible refine (ergolaw13_T_Term.calls 0 a0_5 a0_6 t166 t167 t168 _ A38.out).mono ?_
    rintro e w50 ⟨rfl, hb⟩
    refine ⟨_, rfl, ?_⟩
    have n0_ := aK_ (bB (by (with_reducible repeat (first | refine bDN ?_ _ | refine bD ?_ | refine bA ?_ _)); exact BK153.out) hb)
    have n1_ := aK_ (bB (by (with_reducible repeat (first | refine bDN ?_ _ | refine bD ?_ | refine bA ?_ _)); exact BK154.out) hb)
    have n2_ := aK_ (bB (by (with_reducible repeat (first | refine bDN ?_ _ | refine bD ?_ | refine bA ?_ _)); exact BK165.out) hb)
    have n3_ := aK_ (lT_ (by repeat (first | (with_reducible first | exact HB.out | apply lA_ | apply pD | apply lD_ | refine lS_ ?_ GE153.out | refine lS_ ?_ GE154.out | refine lS_ ?_ GE165.out) | exact HB.out)) hb)
    clear BK153
    clear BK154
    clear BK165
    clear HB
    have BK153 := n0_
    have BK154 := n1_
    have BK165 := n2_
    have HB := n3_
    clear n0_ n1_ n2_ n3_
    (try clear hb)
    (try clear hb2)
    (try clear hk)
    (try clear hi)
    refine hK.out _ _ ⟨(bC BK165.out 0).trans rfl, (bC BK165.out 1).trans rfl, (bC BK165.out 2).trans rfl, (bC BK153.out 0).trans rfl, (bC BK153.out 1).trans rfl, (bC BK153.out 2).trans rfl, (bC BK153.out 3).trans rfl, (bC BK153.out 4).trans rfl, (bC BK153.out 5).trans rfl, (bC BK153.out 6).trans rfl, (bC BK153.out 7).trans rfl, (bC BK153.out 8).trans rfl, (bC BK153.out 9).trans rfl, (bC BK153.out 10).trans rfl, (bC BK153.out 11).trans rfl, (bC BK153.out 12).trans rfl, (bC BK153.out 13).trans rfl, (bC BK153.out 14).trans rfl⟩ (fun hHeld => ?_)
    clear hK K
    refine norm_ (a' := ?_) ?_ ?_
    rotate_left
    ·show Act.put _ (some 35) _ = _
     simp only [Act.put, sA_, sZ_, sS_, i64_w, i32_w]
     rfl
    refine pure_ (i := 2) (N := some 36) (v := ?_) (a' := ?_) #[true, true, true, true, true, false, false, false] rfl rfl (any_of HT_.out (by kernel_rfl)) (fun _ _ _ h => h) (Or.inl ⟨by rfl, ?_⟩) ?_ ?_
    rotate_left
    ·intro w'
     go_simp
     with_reducible rfl
    rotate_left
    ·simp only [Act.put, sA_, sZ_, sS_, i64_w, i32_w]
     rfl
    refine one_ (i := 5) (N := some 39) #[true, true, true, true, true, true, false, false] rfl rfl (one_of HT_.out (by kernel_rfl)) (by decide) (fun K hK => ?_)
    refine goes_ Tryd.func53 (by kernel_rfl) rfl #[.agg #[.int .i64 a0_10, .int .i64 a0_11, .int .i64 a0_12, .int .i64 a0_13, .slice A0_14 l0_14.length c0_14]] (by rfl) rfl rfl (by (try simp only [List.map_toArray, List.map_cons, List.map_nil]); first | done | rfl | (simp only [List.length_drop, List.length_take]; rfl)) ?_
    with_reducible refine (ergolaw13_E_Expr.calls k a0_10 a0_11 a0_12 a0_13 _ _ l0_14 t169 t170 t171 t172 t173 _ ?side1 ?side2 A39.out).mono ?_
    (case side1 => repeat (first | exact (Kd.C_below HR0_14.out HB.out) | (with_reducible refine Kd.C_alloc ?_ _) | (with_reducible refine Kd.C_drewN ?_ _) | (with_reducible refine Kd.C_drew ?_)))
    (case side2 => exact HC0_14.out)
    rintro e w51 ⟨v174, rfl, ho0, hb⟩
    refine ⟨_, rfl, ?_⟩
    have n0_ := aK_ (Kd.N_lower (Kd.N_mono (ok' := fun k_ => (w.heap.size ≤ k_) ∧ k_ ≠ gb153 ∧ k_ ≠ gb154 ∧ k_ ≠ gb165) ho0 (fun k_ hk_ => ⟨(Nat.le_trans (lZ_ (by repeat (first | (with_reducible first | exact HB.out | apply lA_ | apply pD | apply lD_ | refine lS_ ?_ GE153.out | refine lS_ ?_ GE154.out | refine lS_ ?_ GE165.out) | exact HB.out))) hk_), (Kd.freshB (g := gb153) (o := .cells #[.int .i64 a0_0, .int .i64 a0_1, .int .i64 a0_2, .slice A0_3 l0_3.length c0_3, .int .i64 a0_4, .int .i64 a0_5, .int .i64 a0_6, .int .i64 a0_7, .int .i64 a0_8, .int .i64 a0_9, .int .i64 a0_10, .int .i64 a0_11, .int .i64 a0_12, .int .i64 a0_13, .slice A0_14 l0_14.length c0_14] 86 (0, 0)) (by (with_reducible repeat (first | refine bDN ?_ _ | refine bD ?_ | refine bA ?_ _)); exact BK153.out) k_ hk_), (Kd.freshB (g := gb154) (o := .cells #[.int .i64 0, .string (⟨#[]⟩ : ByteArray), .slice none 0 0, .int .i64 0, .int .i64 0, .string (⟨#[]⟩ : ByteArray), .int .i64 0, .int .i64 0, .string (⟨#[]⟩ : ByteArray), .int .i64 0, .string (⟨#[]⟩ : ByteArray), .int .i64 0, .string (⟨#[]⟩ : ByteArray), .int .i64 0, .int .i64 0, .slice none 0 0] 59 (0, 0)) (by (with_reducible repeat (first | refine bDN ?_ _ | refine bD ?_ | refine bA ?_ _)); exact BK154.out) k_ hk_), (Kd.freshB (g := gb165) (o := .cells #[.int .i64 0, .int .i64 a0_5, .int .i64 a0_6] 81 (0, 0)) (by (with_reducible repeat (first | refine bDN ?_ _ | refine bD ?_ | refine bA ?_ _)); exact BK165.out) k_ hk_)⟩)) (lZ_ (by repeat (first | (with_reducible first | exact HB.out | apply lA_ | apply pD | apply lD_ | refine lS_ ?_ GE153.out | refine lS_ ?_ GE154.out | refine lS_ ?_ GE165.out) | exact HB.out))))
    have n1_ := aK_ (bB (by (with_reducible repeat (first | refine bDN ?_ _ | refine bD ?_ | refine bA ?_ _)); exact BK153.out) hb)
    have n2_ := aK_ (bB (by (with_reducible repeat (first | refine bDN ?_ _ | refine bD ?_ | refine bA ?_ _)); exact BK154.out) hb)
    have n3_ := aK_ (bB (by (with_reducible repeat (first | refine bDN ?_ _ | refine bD ?_ | refine bA ?_ _)); exact BK165.out) hb)
    have n4_ := aK_ (lT_ (by repeat (first | (with_reducible first | exact HB.out | apply lA_ | apply pD | apply lD_ | refine lS_ ?_ GE153.out | refine lS_ ?_ GE154.out | refine lS_ ?_ GE165.out) | exact HB.out)) hb)
    clear BK153
    clear BK154
    clear BK165
    clear HB
    have HO175 := n0_
    have BK153 := n1_
    have BK154 := n2_
    have BK165 := n3_
    have HB := n4_
    clear n0_ n1_ n2_ n3_ n4_
    (try clear hb)
    (try clear hb2)
    (try clear hk)
    (try clear hi)
    (try clear ho0)
    obtain ⟨Ao52, co52, eo52⟩ := Kd.N_slice HO175.out
    (first | subst eo52 | (injection eo52 with f1_ f2_ f3_; have f4_ := f1_.symm; have f5_ := f3_.symm; clear f1_ f2_ f3_; subst f4_; subst f5_))
    refine hK.out _ _ ⟨(bC BK165.out 0).trans rfl, (bC BK165.out 1).trans rfl, (bC BK165.out 2).trans rfl, (bC BK153.out 0).trans rfl, (bC BK153.out 1).trans rfl, (bC BK153.out 2).trans rfl, (bC BK153.out 3).trans rfl, (bC BK153.out 4).trans rfl, (bC BK153.out 5).trans rfl, (bC BK153.out 6).trans rfl, (bC BK153.out 7).trans rfl, (bC BK153.out 8).trans rfl, (bC BK153.out 9).trans rfl, (bC BK153.out 10).trans rfl, (bC BK153.out 11).trans rfl, (bC BK153.out 12).trans rfl, (bC BK153.out 13).trans rfl, (bC BK153.out 14).trans rfl⟩ (fun hHeld => ?_)
    clear hK K
    refine norm_ (a' := ?_) ?_ ?_
    rotate_left
    ·show Act.put _ (some 39) _ = _
     simp only [Act.put, sA_, sZ_, sS_, i64_w, i32_w]
     rfl
    refine pure_ (i := 6) (N := some 40) (v := ?_) (a' := ?_) #[true, true, true, true, true, true, true, false] rfl rfl (any_of HT_.out (by kernel_rfl)) (fun _ _ _ h => h) (Or.inl ⟨by rfl, ?_⟩) ?_ ?_
    rotate_left
    ·intro w'
     go_simp
     with_reducible rfl
    rotate_left
    ·simp only [Act.put, sA_, sZ_, sS_, i64_w, i32_w]
     rfl
    refine one_ (i := 7) (N := none) #[true, true, true, true, true, true, true, true] rfl rfl (one_of HT_.out (by kernel_rfl)) (by decide) (fun K hK => ?_)
    have hs53 : w51.cell? ⟨gb154, 0, none⟩ = some (.int .i64 0) := (bC BK154.out 0).trans rfl
    have hfs53 := bF BK154.out 0
    have hns53_0 := NB153_154.out
    have hns53_2 := NB165_154.out
    have hms53_0 := NB154_153.out
    have hms53_2 := NB154_165.out
    have hs54 : w51.cell? ⟨gb154, 1, none⟩ = some (.string (⟨#[]⟩ : ByteArray)) := (bC BK154.out 1).trans rfl
    have hfs54 := bF BK154.out 1
    have hns54_0 := NB153_154.out
    have hns54_2 := NB165_154.out
    have hms54_0 := NB154_153.out
    have hms54_2 := NB154_165.out
    have hs55 : w51.cell? ⟨gb154, 2, none⟩ = some (.slice none 0 0) := (bC BK154.out 2).trans rfl
    have hfs55 := bF BK154.out 2
    have hns55_0 := NB153_154.out
    have hns55_2 := NB165_154.out
    have hms55_0 := NB154_153.out
    have hms55_2 := NB154_165.out
    have hs56 : w51.cell? ⟨gb154, 3, none⟩ = some (.int .i64 0) := (bC BK154.out 3).trans rfl
    have hfs56 := bF BK154.out 3
    have hns56_0 := NB153_154.out
    have hns56_2 := NB165_154.out
    have hms56_0 := NB154_153.out
    have hms56_2 := NB154_165.out
    have hs57 : w51.cell? ⟨gb154, 4, none⟩ = some (.int .i64 0) := (bC BK154.out 4).trans rfl
    have hfs57 := bF BK154.out 4
    have hns57_0 := NB153_154.out
    have hns57_2 := NB165_154.out
    have hms57_0 := NB154_153.out
    have hms57_2 := NB154_165.out
    have hs58 : w51.cell? ⟨gb154, 5, none⟩ = some (.string (⟨#[]⟩ : ByteArray)) := (bC BK154.out 5).trans rfl
    have hfs58 := bF BK154.out 5
    have hns58_0 := NB153_154.out
    have hns58_2 := NB165_154.out
    have hms58_0 := NB154_153.out
    have hms58_2 := NB154_165.out
    have hs59 : w51.cell? ⟨gb154, 6, none⟩ = some (.int .i64 0) := (bC BK154.out 6).trans rfl
    have hfs59 := bF BK154.out 6
    have hns59_0 := NB153_154.out
    have hns59_2 := NB165_154.out
    have hms59_0 := NB154_153.out
    have hms59_2 := NB154_165.out
    have hs60 : w51.cell? ⟨gb154, 7, none⟩ = some (.int .i64 0) := (bC BK154.out 7).trans rfl
    have hfs60 := bF BK154.out 7
    have hns60_0 := NB153_154.out
    have hns60_2 := NB165_154.out
    have hms60_0 := NB154_153.out
    have hms60_2 := NB154_165.out
    have hs61 : w51.cell? ⟨gb154, 8, none⟩ = some (.string (⟨#[]⟩ : ByteArray)) := (bC BK154.out 8).trans rfl
    have hfs61 := bF BK154.out 8
    have hns61_0 := NB153_154.out
    have hns61_2 := NB165_154.out
    have hms61_0 := NB154_153.out
    have hms61_2 := NB154_165.out
    have hs62 : w51.cell? ⟨gb154, 9, none⟩ = some (.int .i64 0) := (bC BK154.out 9).trans rfl
    have hfs62 := bF BK154.out 9
    have hns62_0 := NB153_154.out
    have hns62_2 := NB165_154.out
    have hms62_0 := NB154_153.out
    have hms62_2 := NB154_165.out
    have hs63 : w51.cell? ⟨gb154, 10, none⟩ = some (.string (⟨#[]⟩ : ByteArray)) := (bC BK154.out 10).trans rfl
    have hfs63 := bF BK154.out 10
    have hns63_0 := NB153_154.out
    have hns63_2 := NB165_154.out
    have hms63_0 := NB154_153.out
    have hms63_2 := NB154_165.out
    have hs64 : w51.cell? ⟨gb154, 11, none⟩ = some (.int .i64 0) := (bC BK154.out 11).trans rfl
    have hfs64 := bF BK154.out 11
    have hns64_0 := NB153_154.out
    have hns64_2 := NB165_154.out
    have hms64_0 := NB154_153.out
    have hms64_2 := NB154_165.out
    have hs65 : w51.cell? ⟨gb154, 12, none⟩ = some (.string (⟨#[]⟩ : ByteArray)) := (bC BK154.out 12).trans rfl
    have hfs65 := bF BK154.out 12
    have hns65_0 := NB153_154.out
    have hns65_2 := NB165_154.out
    have hms65_0 := NB154_153.out
    have hms65_2 := NB154_165.out
    have hs66 : w51.cell? ⟨gb154, 13, none⟩ = some (.int .i64 0) := (bC BK154.out 13).trans rfl
    have hfs66 := bF BK154.out 13
    have hns66_0 := NB153_154.out
    have hns66_2 := NB165_154.out
    have hms66_0 := NB154_153.out
    have hms66_2 := NB154_165.out
    have hs67 : w51.cell? ⟨gb154, 14, none⟩ = some (.int .i64 0) := (bC BK154.out 14).trans rfl
    have hfs67 := bF BK154.out 14
    have hns67_0 := NB153_154.out
    have hns67_2 := NB165_154.out
    have hms67_0 := NB154_153.out
    have hms67_2 := NB154_165.out
    have hs68 : w51.cell? ⟨gb154, 15, none⟩ = some (.slice none 0 0) := (bC BK154.out 15).trans rfl
    have hfs68 := bF BK154.out 15
    have hns68_0 := NB153_154.out
    have hns68_2 := NB165_154.out
    have hms68_0 := NB154_153.out
    have hms68_2 := NB154_165.out
    refine skip_ (w1 := ?_) (by rfl) rfl ?_ ?_
    rotate_left
    ·go_simp
     rfl
    refine hK.out _ _ ⟨(cX_ NB165_154.out ((cX_ NB165_154.out ((cX_ NB165_154.out ((cX_ NB165_154.out ((cX_ NB165_154.out ((cX_ NB165_154.out ((cX_ NB165_154.out ((cX_ NB165_154.out ((cX_ NB165_154.out ((cX_ NB165_154.out ((cX_ NB165_154.out ((cX_ NB165_154.out ((cX_ NB165_154.out ((cX_ NB165_154.out ((cX_ NB165_154.out ((cX_ NB165_154.out (hHeld.1)))))))))))))))))))))))))))))))), (cX_ NB165_154.out ((cX_ NB165_154.out ((cX_ NB165_154.out ((cX_ NB165_154.out ((cX_ NB165_154.out ((cX_ NB165_154.out ((cX_ NB165_154.out ((cX_ NB165_154.out ((cX_ NB165_154.out ((cX_ NB165_154.out ((cX_ NB165_154.out ((cX_ NB165_154.out ((cX_ NB165_154.out ((cX_ NB165_154.out ((cX_ NB165_154.out ((cX_ NB165_154.out (hHeld.2.1)))))))))))))))))))))))))))))))), (cX_ NB165_154.out ((cX_ NB165_154.out ((cX_ NB165_154.out ((cX_ NB165_154.out ((cX_ NB165_154.out ((cX_ NB165_154.out ((cX_ NB165_154.out ((cX_ NB165_154.out ((cX_ NB165_154.out ((cX_ NB165_154.out ((cX_ NB165_154.out ((cX_ NB165_154.out ((cX_ NB165_154.out ((cX_ NB165_154.out ((cX_ NB165_154.out ((cX_ NB165_154.out (hHeld.2.2.1)))))))))))))))))))))))))))))))), (cX_ NB153_154.out ((cX_ NB153_154.out ((cX_ NB153_154.out ((cX_ NB153_154.out ((cX_ NB153_154.out ((cX_ NB153_154.out ((cX_ NB153_154.out ((cX_ NB153_154.out ((cX_ NB153_154.out ((cX_ NB153_154.out ((cX_ NB153_154.out ((cX_ NB153_154.out ((cX_ NB153_154.out ((cX_ NB153_154.out ((cX_ NB153_154.out ((cX_ NB153_154.out (hHeld.2.2.2.1)))))))))))))))))))))))))))))))), (cX_ NB153_154.out ((cX_ NB153_154.out ((cX_ NB153_154.out ((cX_ NB153_154.out ((cX_ NB153_154.out ((cX_ NB153_154.out ((cX_ NB153_154.out ((cX_ NB153_154.out ((cX_ NB153_154.out ((cX_ NB153_154.out ((cX_ NB153_154.out ((cX_ NB153_154.out ((cX_ NB153_154.out ((cX_ NB153_154.out ((cX_ NB153_154.out ((cX_ NB153_154.out (hHeld.2.2.2.2.1)))))))))))))))))))))))))))))))), (cX_ NB153_154.out ((cX_ NB153_154.out ((cX_ NB153_154.out ((cX_ NB153_154.out ((cX_ NB153_154.out ((cX_ NB153_154.out ((cX_ NB153_154.out ((cX_ NB153_154.out ((cX_ NB153_154.out ((cX_ NB153_154.out ((cX_ NB153_154.out ((cX_ NB153_154.out ((cX_ NB153_154.out ((cX_ NB153_154.out ((cX_ NB153_154.out ((cX_ NB153_154.out (hHeld.2.2.2.2.2.1)))))))))))))))))))))))))))))))), (cX_ NB153_154.out ((cX_ NB153_154.out ((cX_ NB153_154.out ((cX_ NB153_154.out ((cX_ NB153_154.out ((cX_ NB153_154.out ((cX_ NB153_154.out ((cX_ NB153_154.out ((cX_ NB153_154.out ((cX_ NB153_154.out ((cX_ NB153_154.out ((cX_ NB153_154.out ((cX_ NB153_154.out ((cX_ NB153_154.out ((cX_ NB153_154.out ((cX_ NB153_154.out (hHeld.2.2.2.2.2.2.1)))))))))))))))))))))))))))))))), (cX_ NB153_154.out ((cX_ NB153_154.out ((cX_ NB153_154.out ((cX_ NB153_154.out ((cX_ NB153_154.out ((cX_ NB153_154.out ((cX_ NB153_154.out ((cX_ NB153_154.out ((cX_ NB153_154.out ((cX_ NB153_154.out ((cX_ NB153_154.out ((cX_ NB153_154.out ((cX_ NB153_154.out ((cX_ NB153_154.out ((cX_ NB153_154.out ((cX_ NB153_154.out (hHeld.2.2.2.2.2.2.2.1)))))))))))))))))))))))))))))))), (cX_ NB153_154.out ((cX_ NB153_154.out ((cX_ NB153_154.out ((cX_ NB153_154.out ((cX_ NB153_154.out ((cX_ NB153_154.out ((cX_ NB153_154.out ((cX_ NB153_154.out ((cX_ NB153_154.out ((cX_ NB153_154.out ((cX_ NB153_154.out ((cX_ NB153_154.out ((cX_ NB153_154.out ((cX_ NB153_154.out ((cX_ NB153_154.out ((cX_ NB153_154.out (hHeld.2.2.2.2.2.2.2.2.1)))))))))))))))))))))))))))))))), (cX_ NB153_154.out ((cX_ NB153_154.out ((cX_ NB153_154.out ((cX_ NB153_154.out ((cX_ NB153_154.out ((cX_ NB153_154.out ((cX_ NB153_154.out ((cX_ NB153_154.out ((cX_ NB153_154.out ((cX_ NB153_154.out ((cX_ NB153_154.out ((cX_ NB153_154.out ((cX_ NB153_154.out ((cX_ NB153_154.out ((cX_ NB153_154.out ((cX_ NB153_154.out (hHeld.2.2.2.2.2.2.2.2.2.1)))))))))))))))))))))))))))))))), (cX_ NB153_154.out ((cX_ NB153_154.out ((cX_ NB153_154.out ((cX_ NB153_154.out ((cX_ NB153_154.out ((cX_ NB153_154.out ((cX_ NB153_154.out ((cX_ NB153_154.out ((cX_ NB153_154.out ((cX_ NB153_154.out ((cX_ NB153_154.out ((cX_ NB153_154.out ((cX_ NB153_154.out ((cX_ NB153_154.out ((cX_ NB153_154.out ((cX_ NB153_154.out (hHeld.2.2.2.2.2.2.2.2.2.2.1)))))))))))))))))))))))))))))))), (cX_ NB153_154.out ((cX_ NB153_154.out ((cX_ NB153_154.out ((cX_ NB153_154.out ((cX_ NB153_154.out ((cX_ NB153_154.out ((cX_ NB153_154.out ((cX_ NB153_154.out ((cX_ NB153_154.out ((cX_ NB153_154.out ((cX_ NB153_154.out ((cX_ NB153_154.out ((cX_ NB153_154.out ((cX_ NB153_154.out ((cX_ NB153_154.out ((cX_ NB153_154.out (hHeld.2.2.2.2.2.2.2.2.2.2.2.1)))))))))))))))))))))))))))))))), (cX_ NB153_154.out ((cX_ NB153_154.out ((cX_ NB153_154.out ((cX_ NB153_154.out ((cX_ NB153_154.out ((cX_ NB153_154.out ((cX_ NB153_154.out ((cX_ NB153_154.out ((cX_ NB153_154.out ((cX_ NB153_154.out ((cX_ NB153_154.out ((cX_ NB153_154.out ((cX_ NB153_154.out ((cX_ NB153_154.out ((cX_ NB153_154.out ((cX_ NB153_154.out (hHeld.2.2.2.2.2.2.2.2.2.2.2.2.1)))))))))))))))))))))))))))))))), (cX_ NB153_154.out ((cX_ NB153_154.out ((cX_ NB153_154.out ((cX_ NB153_154.out ((cX_ NB153_154.out ((cX_ NB153_154.out ((cX_ NB153_154.out ((cX_ NB153_154.out ((cX_ NB153_154.out ((cX_ NB153_154.out ((cX_ NB153_154.out ((cX_ NB153_154.out ((cX_ NB153_154.out ((cX_ NB153_154.out ((cX_ NB153_154.out ((cX_ NB153_154.out (hHeld.2.2.2.2.2.2.2.2.2.2.2.2.2.1)))))))))))))))))))))))))))))))), (cX_ NB153_154.out ((cX_ NB153_154.out ((cX_ NB153_154.out ((cX_ NB153_154.out ((cX_ NB153_154.out ((cX_ NB153_154.out ((cX_ NB153_154.out ((cX_ NB153_154.out ((cX_ NB153_154.out ((cX_ NB153_154.out ((cX_ NB153_154.out ((cX_ NB153_154.out ((cX_ NB153_154.out ((cX_ NB153_154.out ((cX_ NB153_154.out ((cX_ NB153_154.out (hHeld.2.2.2.2.2.2.2.2.2.2.2.2.2.2.1)))))))))))))))))))))))))))))))), (cX_ NB153_154.out ((cX_ NB153_154.out ((cX_ NB153_154.out ((cX_ NB153_154.out ((cX_ NB153_154.out ((cX_ NB153_154.out ((cX_ NB153_154.out ((cX_ NB153_154.out ((cX_ NB153_154.out ((cX_ NB153_154.out ((cX_ NB153_154.out ((cX_ NB153_154.out ((cX_ NB153_154.out ((cX_ NB153_154.out ((cX_ NB153_154.out ((cX_ NB153_154.out (hHeld.2.2.2.2.2.2.2.2.2.2.2.2.2.2.2.1)))))))))))))))))))))))))))))))), (cX_ NB153_154.out ((cX_ NB153_154.out ((cX_ NB153_154.out ((cX_ NB153_154.out ((cX_ NB153_154.out ((cX_ NB153_154.out ((cX_ NB153_154.out ((cX_ NB153_154.out ((cX_ NB153_154.out ((cX_ NB153_154.out ((cX_ NB153_154.out ((cX_ NB153_154.out ((cX_ NB153_154.out ((cX_ NB153_154.out ((cX_ NB153_154.out ((cX_ NB153_154.out (hHeld.2.2.2.2.2.2.2.2.2.2.2.2.2.2.2.2.1)))))))))))))))))))))))))))))))), (cX_ NB153_154.out ((cX_ NB153_154.out ((cX_ NB153_154.out ((cX_ NB153_154.out ((cX_ NB153_154.out ((cX_ NB153_154.out ((cX_ NB153_154.out ((cX_ NB153_154.out ((cX_ NB153_154.out ((cX_ NB153_154.out ((cX_ NB153_154.out ((cX_ NB153_154.out ((cX_ NB153_154.out ((cX_ NB153_154.out ((cX_ NB153_154.out ((cX_ NB153_154.out (hHeld.2.2.2.2.2.2.2.2.2.2.2.2.2.2.2.2.2))))))))))))))))))))))))))))))))⟩ (fun hHeld => ?_)
    clear hK K
    refine done_ (done_of HT_.out (by kernel_rfl)) ?_
    try go_wp2
    refine bodyPost_ret (results_cell_row rfl _ _ gb154 59 #[.int .i64 3, .string (⟨#[]⟩ : ByteArray), .slice none 0 0, .int .i64 0, .int .i64 0, .string (⟨#[]⟩ : ByteArray), .int .i64 0, .int .i64 0, .string (⟨#[]⟩ : ByteArray), .int .i64 0, .string t167, .int .i64 t169, .string t170, .int .i64 t171, .int .i64 t172, .slice Ao52 t173.length co52] (0, 0) _ rfl ((by apply eC_; (with_reducible repeat (first | refine bDN ?_ _ | refine bD ?_ | refine bA ?_ _)); apply b2_; (with_reducible repeat (first | refine bDN ?_ _ | refine bD ?_ | refine bA ?_ _)); apply b2_; (with_reducible repeat (first | refine bDN ?_ _ | refine bD ?_ | refine bA ?_ _)); apply b2_; (with_reducible repeat (first | refine bDN ?_ _ | refine bD ?_ | refine bA ?_ _)); apply b2_; (with_reducible repeat (first | refine bDN ?_ _ | refine bD ?_ | refine bA ?_ _)); apply b2_; (with_reducible repeat (first | refine bDN ?_ _ | refine bD ?_ | refine bA ?_ _)); apply b2_; (with_reducible repeat (first | refine bDN ?_ _ | refine bD ?_ | refine bA ?_ _)); apply b2_; (with_reducible repeat (first | refine bDN ?_ _ | refine bD ?_ | refine bA ?_ _)); apply b2_; (with_reducible repeat (first | refine bDN ?_ _ | refine bD ?_ | refine bA ?_ _)); apply b2_; (with_reducible repeat (first | refine bDN ?_ _ | refine bD ?_ | refine bA ?_ _)); apply b2_; (with_reducible repeat (first | refine bDN ?_ _ | refine bD ?_ | refine bA ?_ _)); apply b2_; (with_reducible repeat (first | refine bDN ?_ _ | refine bD ?_ | refine bA ?_ _)); apply b2_; (with_reducible repeat (first | refine bDN ?_ _ | refine bD ?_ | refine bA ?_ _)); apply b2_; (with_reducible repeat (first | refine bDN ?_ _ | refine bD ?_ | refine bA ?_ _)); apply b2_; (with_reducible repeat (first | refine bDN ?_ _ | refine bD ?_ | refine bA ?_ _)); apply b2_; (with_reducible repeat (first | refine bDN ?_ _ | refine bD ?_ | refine bA ?_ _)); apply b2_; (with_reducible repeat (first | refine bDN ?_ _ | refine bD ?_ | refine bA ?_ _)); exact BK154.out; kernel_rfl)) Tryd.underlying59 rfl (by kernel_rfl)) rfl ?_
    exact ⟨_, _, by first | rfl | (simp [errW_none, errW_some] <;> rfl) | (simp [*, errW_none, errW_some] <;> rfl), by first | exact Kd.R_nil _ _ _ _ _ | exact Kd.N_nil _ _ _ _ _ | exact Kd.V_nil _ _ _ _ _ | exact Kd.Q_nil _ _ _ _ _ | exact Kd.S_nil _ _ _ _ _, by (with_reducible repeat (first | apply Kd.N_alloc | apply Kd.N_drewN | apply Kd.N_drew)); exact Kd.N_mono (Kd.N_far (p := ⟨gb154, 15, none⟩) (Kd.N_far (p := ⟨gb154, 14, none⟩) (Kd.N_far (p := ⟨gb154, 13, none⟩) (Kd.N_far (p := ⟨gb154, 12, none⟩) (Kd.N_far (p := ⟨gb154, 11, none⟩) (Kd.N_far (p := ⟨gb154, 10, none⟩) (Kd.N_far (p := ⟨gb154, 9, none⟩) (Kd.N_far (p := ⟨gb154, 8, none⟩) (Kd.N_far (p := ⟨gb154, 7, none⟩) (Kd.N_far (p := ⟨gb154, 6, none⟩) (Kd.N_far (p := ⟨gb154, 5, none⟩) (Kd.N_far (p := ⟨gb154, 4, none⟩) (Kd.N_far (p := ⟨gb154, 3, none⟩) (Kd.N_far (p := ⟨gb154, 2, none⟩) (Kd.N_far (p := ⟨gb154, 1, none⟩) (Kd.N_far (p := ⟨gb154, 0, none⟩) (Kd.N_mono HO175.out (fun k_ hk => (⟨hk, hk.2.2.1⟩ : _ ∧ k_ ≠ gb154))) (fun _ hk => hk.2) (.int .i64 3)) (fun _ hk => hk.2) (.string (⟨#[]⟩ : ByteArray))) (fun _ hk => hk.2) (.slice none 0 0)) (fun _ hk => hk.2) (.int .i64 0)) (fun _ hk => hk.2) (.int .i64 0)) (fun _ hk => hk.2) (.string (⟨#[]⟩ : ByteArray))) (fun _ hk => hk.2) (.int .i64 0)) (fun _ hk => hk.2) (.int .i64 0)) (fun _ hk => hk.2) (.string (⟨#[]⟩ : ByteArray))) (fun _ hk => hk.2) (.int .i64 0)) (fun _ hk => hk.2) (.string t167)) (fun _ hk => hk.2) (.int .i64 t169)) (fun _ hk => hk.2) (.string t170)) (fun _ hk => hk.2) (.int .i64 t171)) (fun _ hk => hk.2) (.int .i64 t172)) (fun _ hk => hk.2) (.slice Ao52 t173.length co52)) (fun _ hk => ⟨hk.1.1, (by simp [Value.ownBlock])⟩), by repeat (first | (with_reducible first | exact HB.out | apply lA_ | apply pD | apply lD_ | refine lS_ ?_ GE153.out | refine lS_ ?_ GE154.out | refine lS_ ?_ GE165.out) | exact HB.out)⟩
   ·rw [if_neg c37] at H
    have c37b0 : ((wrap64 (Int.tmod (IntKind.u64.wrap (a0_0)) 6)) == 5) = false := beq_eq_false_iff_ne.mpr c37
    have c37b1 : ((wrap64 (Int.tmod (IntKind.u64.wrap (a0_0)) 6)) != 5) = true := bne_iff_ne.mpr c37
    replace H := Option.bind_eq_some_iff.mp H
    obtain ⟨⟨t176, t177⟩, A690, H⟩ := H
    replace H : (some (0, t176, t177, 0, 0, (⟨#[]⟩ : ByteArray), 0, 0, (⟨#[]⟩ : ByteArray), 0, (⟨#[]⟩ : ByteArray), 0, (⟨#[]⟩ : ByteArray), 0, 0, ([] : List (S57)))) = some (r1, r2, r3, r4, r5, r6, r7, r8, r9, r10, r11, r12, r13, r14, r15, r16) := H
    have A69 := aK_ A690
    clear A690
    simp only [Option.some.injEq, Prod.mk.injEq] at H
    obtain ⟨rfl, rfl, rfl, rfl, rfl, rfl, rfl, rfl, rfl, rfl, rfl, rfl, rfl, rfl, rfl, rfl⟩ := H
    go_enter Tryd.func32, Tryd.ntmps32
    go_wp2_with (first | ((with_reducible refine gate_dst (N := 1) rfl ?_); refine box_event ?hg (N := 1) ?hd (cs := #[.int .i64 a0_0, .int .i64 a0_1, .int .i64 a0_2, .slice A0_3 l0_3.length c0_3, .int .i64 a0_4, .int .i64 a0_5, .int .i64 a0_6, .int .i64 a0_7, .int .i64 a0_8, .int .i64 a0_9, .int .i64 a0_10, .int .i64 a0_11, .int .i64 a0_12, .int .i64 a0_13, .slice A0_14 l0_14.length c0_14]) (t := 86) ?hr ?_; (case hd => rfl); (case hg => rfl); (case hr => first | (go_simp; done) | (go_simp; rfl)); intro gb153 hg w70 hbox hb; have n0_ := aK_ (lT_ (by repeat (first | (with_reducible first | exact HB.out | apply lA_ | apply pD | apply lD_) | exact HB.out)) hb); have n1_ := aK_ (hbox); have n2_ := aK_ ((by rw [hg]; exact (lZ_ (by repeat (first | (with_reducible first | exact HB.out | apply lA_ | apply pD | apply lD_) | exact HB.out))) : w.heap.size ≤ gb153)); have n3_ := aK_ ((by rw [hg]; exact (lZ_ (by repeat (first | (with_reducible first | exact HB.out | apply lA_ | apply pD | apply lD_) | exact HB.out))) : w.heap.size ≤ gb153)); clear HB; have HB := n0_; have BK153 := n1_; have GW153 := n2_; have GE153 := n3_; clear n0_ n1_ n2_ n3_; clear hb hbox hg) | ((with_reducible refine gate_dst (N := 2) rfl ?_); refine box_event ?hg (N := 2) ?hd (cs := #[.int .i64 0, .string (⟨#[]⟩ : ByteArray), .slice none 0 0, .int .i64 0, .int .i64 0, .string (⟨#[]⟩ : ByteArray), .int .i64 0, .int .i64 0, .string (⟨#[]⟩ : ByteArray), .int .i64 0, .string (⟨#[]⟩ : ByteArray), .int .i64 0, .string (⟨#[]⟩ : ByteArray), .int .i64 0, .int .i64 0, .slice none 0 0]) (t := 59) ?hr ?_; (case hd => rfl); (case hg => rfl); (case hr => first | (go_simp; done) | (go_simp; rfl)); intro gb154 hg w71 hbox hb; have n0_ := aK_ (bB (by (with_reducible repeat (first | refine bDN ?_ _ | refine bD ?_ | refine bA ?_ _)); exact BK153.out) hb); have n1_ := aK_ (lT_ (by repeat (first | (with_reducible first | exact HB.out | apply lA_ | apply pD | apply lD_ | refine lS_ ?_ GE153.out) | exact HB.out)) hb); have n2_ := aK_ (hbox); have n3_ := aK_ ((by rw [hg]; exact (lZ_ (by repeat (first | (with_reducible first | exact HB.out | apply lA_ | apply pD | apply lD_ | refine lS_ ?_ GE153.out) | exact HB.out))) : w.heap.size ≤ gb154)); have n4_ := aK_ ((by rw [hg]; exact (lZ_ (by repeat (first | (with_reducible first | exact HB.out | apply lA_ | apply pD | apply lD_ | refine lS_ ?_ GE153.out) | exact HB.out))) : w.heap.size ≤ gb154)); have n5_ := aK_ ((by rw [hg]; exact Nat.ne_of_lt (blk_lt (g := gb153) (o := .cells #[.int .i64 a0_0, .int .i64 a0_1, .int .i64 a0_2, .slice A0_3 l0_3.length c0_3, .int .i64 a0_4, .int .i64 a0_5, .int .i64 a0_6, .int .i64 a0_7, .int .i64 a0_8, .int .i64 a0_9, .int .i64 a0_10, .int .i64 a0_11, .int .i64 a0_12, .int .i64 a0_13, .slice A0_14 l0_14.length c0_14] 86 (0, 0)) (by (with_reducible repeat (first | refine bDN ?_ _ | refine bD ?_ | refine bA ?_ _)); exact BK153.out)) : gb153 ≠ gb154)); have n6_ := aK_ ((by rw [hg]; exact Nat.ne_of_gt (blk_lt (g := gb153) (o := .cells #[.int .i64 a0_0, .int .i64 a0_1, .int .i64 a0_2, .slice A0_3 l0_3.length c0_3, .int .i64 a0_4, .int .i64 a0_5, .int .i64 a0_6, .int .i64 a0_7, .int .i64 a0_8, .int .i64 a0_9, .int .i64 a0_10, .int .i64 a0_11, .int .i64 a0_12, .int .i64 a0_13, .slice A0_14 l0_14.length c0_14] 86 (0, 0)) (by (with_reducible repeat (first | refine bDN ?_ _ | refine bD ?_ | refine bA ?_ _)); exact BK153.out)) : gb154 ≠ gb153)); clear BK153; clear HB; have BK153 := n0_; have HB := n1_; have BK154 := n2_; have GW154 := n3_; have GE154 := n4_; have NB153_154 := n5_; have NB154_153 := n6_; clear n0_ n1_ n2_ n3_ n4_ n5_ n6_; clear hb hbox hg; have hnb72 := NB153_154.out; have hnc72 := NB154_153.out; have hcz73_0 : w71.cell? ⟨gb153, 0, none⟩ = some (.int .i64 a0_0) := (bC BK153.out 0).trans rfl; have hcz73_1 : w71.cell? ⟨gb153, 1, none⟩ = some (.int .i64 a0_1) := (bC BK153.out 1).trans rfl; have hcz73_2 : w71.cell? ⟨gb153, 2, none⟩ = some (.int .i64 a0_2) := (bC BK153.out 2).trans rfl; have hcz73_3 : w71.cell? ⟨gb153, 3, none⟩ = some (.slice A0_3 l0_3.length c0_3) := (bC BK153.out 3).trans rfl; have hcz73_4 : w71.cell? ⟨gb153, 4, none⟩ = some (.int .i64 a0_4) := (bC BK153.out 4).trans rfl; have hcz73_5 : w71.cell? ⟨gb153, 5, none⟩ = some (.int .i64 a0_5) := (bC BK153.out 5).trans rfl; have hcz73_6 : w71.cell? ⟨gb153, 6, none⟩ = some (.int .i64 a0_6) := (bC BK153.out 6).trans rfl; have hcz73_7 : w71.cell? ⟨gb153, 7, none⟩ = some (.int .i64 a0_7) := (bC BK153.out 7).trans rfl; have hcz73_8 : w71.cell? ⟨gb153, 8, none⟩ = some (.int .i64 a0_8) := (bC BK153.out 8).trans rfl; have hcz73_9 : w71.cell? ⟨gb153, 9, none⟩ = some (.int .i64 a0_9) := (bC BK153.out 9).trans rfl; have hcz73_10 : w71.cell? ⟨gb153, 10, none⟩ = some (.int .i64 a0_10) := (bC BK153.out 10).trans rfl; have hcz73_11 : w71.cell? ⟨gb153, 11, none⟩ = some (.int .i64 a0_11) := (bC BK153.out 11).trans rfl; have hcz73_12 : w71.cell? ⟨gb153, 12, none⟩ = some (.int .i64 a0_12) := (bC BK153.out 12).trans rfl; have hcz73_13 : w71.cell? ⟨gb153, 13, none⟩ = some (.int .i64 a0_13) := (bC BK153.out 13).trans rfl; have hcz73_14 : w71.cell? ⟨gb153, 14, none⟩ = some (.slice A0_14 l0_14.length c0_14) := (bC BK153.out 14).trans rfl; have hfz73_0 := bF BK153.out 0; have hfz73_1 := bF BK153.out 1; have hfz73_2 := bF BK153.out 2; have hfz73_3 := bF BK153.out 3; have hfz73_4 := bF BK153.out 4; have hfz73_5 := bF BK153.out 5; have hfz73_6 := bF BK153.out 6; have hfz73_7 := bF BK153.out 7; have hfz73_8 := bF BK153.out 8; have hfz73_9 := bF BK153.out 9; have hfz73_10 := bF BK153.out 10; have hfz73_11 := bF BK153.out 11; have hfz73_12 := bF BK153.out 12; have hfz73_13 := bF BK153.out 13; have hfz73_14 := bF BK153.out 14) | ((with_reducible refine gate_callee (f := 31) rfl ?_); refine goesL_ (some 43) rfl rfl Tryd.func31 (by kernel_rfl) rfl #[.agg #[.int .i64 a0_2, .slice A0_3 l0_3.length c0_3]] rfl (by (try simp only [List.map_toArray, List.map_cons, List.map_nil]); first | done | rfl | (simp only [List.length_drop, List.length_take]; rfl)) ?_; (with_reducible refine (ergolaw13_A_Atom.calls k a0_2 _ _ l0_3 t176 t177 _ ?side1 ?side2 A69.out).mono ?_); (case side1 => repeat (first | exact (Kd.C_below HR0_3.out HB.out) | (with_reducible refine Kd.C_alloc ?_ _) | (with_reducible refine Kd.C_drewN ?_ _) | (with_reducible refine Kd.C_drew ?_))); (case side2 => exact HC0_3.out); rintro e w74 ⟨v178, rfl, ho0, hb⟩; refine ⟨_, rfl, ?_⟩; have n0_ := aK_ (Kd.R_lower (Kd.R_newM (M := fun k_ => (w.heap.size ≤ k_)) ho0 (lZ_ (by repeat (first | (with_reducible first | exact HB.out | apply lA_ | apply pD | apply lD_ | refine lS_ ?_ GE153.out | refine lS_ ?_ GE154.out) | exact HB.out))) (fun k_ h_ => h_)) (lZ_ (by repeat (first | (with_reducible first | exact HB.out | apply lA_ | apply pD | apply lD_ | refine lS_ ?_ GE153.out | refine lS_ ?_ GE154.out) | exact HB.out)))); have n1_ := aK_ (bB (by (with_reducible repeat (first | refine bDN ?_ _ | refine bD ?_ | refine bA ?_ _)); exact BK153.out) hb); have n2_ := aK_ (bB (by (with_reducible repeat (first | refine bDN ?_ _ | refine bD ?_ | refine bA ?_ _)); exact BK154.out) hb); have n3_ := aK_ (lT_ (by repeat (first | (with_reducible first | exact HB.out | apply lA_ | apply pD | apply lD_ | refine lS_ ?_ GE153.out | refine lS_ ?_ GE154.out) | exact HB.out)) hb); clear BK153; clear BK154; clear HB; have HO179 := n0_; have BK153 := n1_; have BK154 := n2_; have HB := n3_; clear n0_ n1_ n2_ n3_; (try clear hb); (try clear hb2); (try clear hk); (try clear hi); (try clear ho0); obtain ⟨Ao75, co75, eo75⟩ := Kd.R_slice HO179.out; subst eo75; have hcz76_0 : w74.cell? ⟨gb154, 0, none⟩ = some (.int .i64 0) := (bC BK154.out 0).trans rfl; have hcz76_1 : w74.cell? ⟨gb154, 1, none⟩ = some (.string (⟨#[]⟩ : ByteArray)) := (bC BK154.out 1).trans rfl; have hcz76_2 : w74.cell? ⟨gb154, 2, none⟩ = some (.slice none 0 0) := (bC BK154.out 2).trans rfl; have hcz76_3 : w74.cell? ⟨gb154, 3, none⟩ = some (.int .i64 0) := (bC BK154.out 3).trans rfl; have hcz76_4 : w74.cell? ⟨gb154, 4, none⟩ = some (.int .i64 0) := (bC BK154.out 4).trans rfl; have hcz76_5 : w74.cell? ⟨gb154, 5, none⟩ = some (.string (⟨#[]⟩ : ByteArray)) := (bC BK154.out 5).trans rfl; have hcz76_6 : w74.cell? ⟨gb154, 6, none⟩ = some (.int .i64 0) := (bC BK154.out 6).trans rfl; have hcz76_7 : w74.cell? ⟨gb154, 7, none⟩ = some (.int .i64 0) := (bC BK154.out 7).trans rfl; have hcz76_8 : w74.cell? ⟨gb154, 8, none⟩ = some (.string (⟨#[]⟩ : ByteArray)) := (bC BK154.out 8).trans rfl; have hcz76_9 : w74.cell? ⟨gb154, 9, none⟩ = some (.int .i64 0) := (bC BK154.out 9).trans rfl; have hcz76_10 : w74.cell? ⟨gb154, 10, none⟩ = some (.string (⟨#[]⟩ : ByteArray)) := (bC BK154.out 10).trans rfl; have hcz76_11 : w74.cell? ⟨gb154, 11, none⟩ = some (.int .i64 0) := (bC BK154.out 11).trans rfl; have hcz76_12 : w74.cell? ⟨gb154, 12, none⟩ = some (.string (⟨#[]⟩ : ByteArray)) := (bC BK154.out 12).trans rfl; have hcz76_13 : w74.cell? ⟨gb154, 13, none⟩ = some (.int .i64 0) := (bC BK154.out 13).trans rfl; have hcz76_14 : w74.cell? ⟨gb154, 14, none⟩ = some (.int .i64 0) := (bC BK154.out 14).trans rfl; have hcz76_15 : w74.cell? ⟨gb154, 15, none⟩ = some (.slice none 0 0) := (bC BK154.out 15).trans rfl; have hfz76_0 := bF BK154.out 0; have hfz76_1 := bF BK154.out 1; have hfz76_2 := bF BK154.out 2; have hfz76_3 := bF BK154.out 3; have hfz76_4 := bF BK154.out 4; have hfz76_5 := bF BK154.out 5; have hfz76_6 := bF BK154.out 6; have hfz76_7 := bF BK154.out 7; have hfz76_8 := bF BK154.out 8; have hfz76_9 := bF BK154.out 9; have hfz76_10 := bF BK154.out 10; have hfz76_11 := bF BK154.out 11; have hfz76_12 := bF BK154.out 12; have hfz76_13 := bF BK154.out 13; have hfz76_14 := bF BK154.out 14; have hfz76_15 := bF BK154.out 15))
    refine bodyPost_ret (results_cell_row rfl _ _ gb154 59 #[.int .i64 0, .string t176, .slice Ao75 t177.length co75, .int .i64 0, .int .i64 0, .string (⟨#[]⟩ : ByteArray), .int .i64 0, .int .i64 0, .string (⟨#[]⟩ : ByteArray), .int .i64 0, .string (⟨#[]⟩ : ByteArray), .int .i64 0, .string (⟨#[]⟩ : ByteArray), .int .i64 0, .int .i64 0, .slice none 0 0] (0, 0) _ rfl ((by apply eC_; (with_reducible repeat (first | refine bDN ?_ _ | refine bD ?_ | refine bA ?_ _)); apply b2_; (with_reducible repeat (first | refine bDN ?_ _ | refine bD ?_ | refine bA ?_ _)); apply b2_; (with_reducible repeat (first | refine bDN ?_ _ | refine bD ?_ | refine bA ?_ _)); apply b2_; (with_reducible repeat (first | refine bDN ?_ _ | refine bD ?_ | refine bA ?_ _)); apply b2_; (with_reducible repeat (first | refine bDN ?_ _ | refine bD ?_ | refine bA ?_ _)); apply b2_; (with_reducible repeat (first | refine bDN ?_ _ | refine bD ?_ | refine bA ?_ _)); apply b2_; (with_reducible repeat (first | refine bDN ?_ _ | refine bD ?_ | refine bA ?_ _)); apply b2_; (with_reducible repeat (first | refine bDN ?_ _ | refine bD ?_ | refine bA ?_ _)); apply b2_; (with_reducible repeat (first | refine bDN ?_ _ | refine bD ?_ | refine bA ?_ _)); apply b2_; (with_reducible repeat (first | refine bDN ?_ _ | refine bD ?_ | refine bA ?_ _)); apply b2_; (with_reducible repeat (first | refine bDN ?_ _ | refine bD ?_ | refine bA ?_ _)); apply b2_; (with_reducible repeat (first | refine bDN ?_ _ | refine bD ?_ | refine bA ?_ _)); apply b2_; (with_reducible repeat (first | refine bDN ?_ _ | refine bD ?_ | refine bA ?_ _)); apply b2_; (with_reducible repeat (first | refine bDN ?_ _ | refine bD ?_ | refine bA ?_ _)); apply b2_; (with_reducible repeat (first | refine bDN ?_ _ | refine bD ?_ | refine bA ?_ _)); apply b2_; (with_reducible repeat (first | refine bDN ?_ _ | refine bD ?_ | refine bA ?_ _)); apply b2_; (with_reducible repeat (first | refine bDN ?_ _ | refine bD ?_ | refine bA ?_ _)); exact BK154.out; kernel_rfl)) Tryd.underlying59 rfl (by kernel_rfl)) rfl ?_
    exact ⟨_, _, by first | rfl | (simp [errW_none, errW_some] <;> rfl) | (simp [*, errW_none, errW_some] <;> rfl), by (with_reducible repeat (first | apply Kd.R_alloc | apply Kd.R_drewN | apply Kd.R_drew)); exact Kd.R_mono (Kd.R_far (p := ⟨gb154, 15, none⟩) (Kd.R_far (p := ⟨gb154, 14, none⟩) (Kd.R_far (p := ⟨gb154, 13, none⟩) (Kd.R_far (p := ⟨gb154, 12, none⟩) (Kd.R_far (p := ⟨gb154, 11, none⟩) (Kd.R_far (p := ⟨gb154, 10, none⟩) (Kd.R_far (p := ⟨gb154, 9, none⟩) (Kd.R_far (p := ⟨gb154, 8, none⟩) (Kd.R_far (p := ⟨gb154, 7, none⟩) (Kd.R_far (p := ⟨gb154, 6, none⟩) (Kd.R_far (p := ⟨gb154, 5, none⟩) (Kd.R_far (p := ⟨gb154, 4, none⟩) (Kd.R_far (p := ⟨gb154, 3, none⟩) (Kd.R_far (p := ⟨gb154, 2, none⟩) (Kd.R_far (p := ⟨gb154, 1, none⟩) (Kd.R_far (p := ⟨gb154, 0, none⟩) (Kd.R_types HO179.out BK154.out (by decide)) (fun _ hk => hk.2) (.int .i64 0)) (fun _ hk => hk.2) (.string t176)) (fun _ hk => hk.2) (.slice Ao75 t177.length co75)) (fun _ hk => hk.2) (.int .i64 0)) (fun _ hk => hk.2) (.int .i64 0)) (fun _ hk => hk.2) (.string (⟨#[]⟩ : ByteArray))) (fun _ hk => hk.2) (.int .i64 0)) (fun _ hk => hk.2) (.int .i64 0)) (fun _ hk => hk.2) (.string (⟨#[]⟩ : ByteArray))) (fun _ hk => hk.2) (.int .i64 0)) (fun _ hk => hk.2) (.string (⟨#[]⟩ : ByteArray))) (fun _ hk => hk.2) (.int .i64 0)) (fun _ hk => hk.2) (.string (⟨#[]⟩ : ByteArray))) (fun _ hk => hk.2) (.int .i64 0)) (fun _ hk => hk.2) (.int .i64 0)) (fun _ hk => hk.2) (.slice none 0 0)) (fun _ hk => hk.1.1), by first | exact Kd.R_nil _ _ _ _ _ | exact Kd.N_nil _ _ _ _ _ | exact Kd.V_nil _ _ _ _ _ | exact Kd.Q_nil _ _ _ _ _ | exact Kd.S_nil _ _ _ _ _, by repeat (first | (with_reducible first | exact HB.out | apply lA_ | apply pD | apply lD_ | refine lS_ ?_ GE153.out | refine lS_ ?_ GE154.out) | exact HB.out)⟩
end Go.Proofs.YtdbpboipiceifaaDoorPSP
