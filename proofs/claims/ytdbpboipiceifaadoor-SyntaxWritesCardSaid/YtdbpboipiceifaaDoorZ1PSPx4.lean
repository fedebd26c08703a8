import Derived.Test.YtdbpboipiceifaaDoorZ1PSPx0
import Derived.Test.YtdbpboipiceifaaDoorZ1PSPx2
import Derived.Test.YtdbpboipiceifaaDoorZ1PSPx3
namespace Go.Proofs.YtdbpboipiceifaaDoorPSP
open Go.RowKit Go.Proofs.YtdbpboipiceifaaDoorW.PrintWords Go.Proofs.YtdbpboipiceifaaDoorW.PrintLast Go.Proofs.YtdbpboipiceifaaDoorW.PrintMore
attribute [local go_sem] max2_int min2_int max_two min_two max_three min_three max_four min_four   -- for this text's walks alone
set_option linter.unusedVariables false
set_option linter.unusedSimpArgs false
mutual
def ergolaw13_R_Rule.j0 : Nat → Int → Bool → Int → List (S81) → Int → List (S86) → ByteArray → List (S53) → Int → Int → Option (ByteArray × (List (S53)) × Int × (List (S59)) × Int)
 | 0, _, _, _, _, _, _, _, _, _, _ => none
 | k + 1, x4, x20, x181000, x181001, x181002, x181003, x187000, x187001, x187002, x187004 => if x20 = true then (if 0 ≤ (wrap64 ((x187001.length : Int) - 1)) then (if (wrap64 ((x187001.length : Int) - 1)) < (x187001.length : Int) then (if ((rd_T53 x187001 (wrap64 ((x187001.length : Int) - 1))).f0) = 0 then (ergolaw13_R_Rule.j1 k x181000 x181001 x181002 x181003 x187000 x187001 x4 x187004) else (ergolaw13_R_Rule.j1 k x181000 x181001 x181002 x181003 x187000 (x187001.set ((wrap64 ((x187001.length : Int) - 1)) : Int).toNat (⟨0, (⟨#[88]⟩ : ByteArray), 0⟩ : S53)) x4 x187004)) else (none)) else (none)) else (ergolaw13_R_Rule.j1 k x181000 x181001 x181002 x181003 x187000 x187001 x187002 x187004)
def ergolaw13_R_Rule.j1 : Nat → Int → List (S81) → Int → List (S86) → ByteArray → List (S53) → Int → Int → Option (ByteArray × (List (S53)) × Int × (List (S59)) × Int)
 | 0, _, _, _, _, _, _, _, _ => none
 | k + 1, x181000, x181001, x181002, x181003, x187000, x187001, x187002, x187004 => ergolaw13_R_Rule.l0 k x181003 (x181003.length : Int) 0 x187000 x187001 x187002 ([] : List (S59)) x187004
def ergolaw13_R_Rule.l0 : Nat → List (S86) → Int → Int → ByteArray → List (S53) → Int → List (S59) → Int → Option (ByteArray × (List (S53)) × Int × (List (S59)) × Int)
 | 0, _, _, _, _, _, _, _, _ => none
 | k + 1, x43, x44, x45, x187000, x187001, x187002, x187003, x187004 => if x45 < x44 then (if 0 ≤ x45 then (if x45 < (x43.length : Int) then ((ergolaw13_P_Part.f k ((rd_T86 x43 x45).f0) ((rd_T86 x43 x45).f1) ((rd_T86 x43 x45).f2.f0) ((rd_T86 x43 x45).f2.f1) ((rd_T86 x43 x45).f3.f0) ((rd_T86 x43 x45).f3.f1) ((rd_T86 x43 x45).f3.f2) ((rd_T86 x43 x45).f4.f0) ((rd_T86 x43 x45).f4.f1) ((rd_T86 x43 x45).f4.f2) ((rd_T86 x43 x45).f5.f0.f0) ((rd_T86 x43 x45).f5.f0.f1) ((rd_T86 x43 x45).f5.f0.f2) ((rd_T86 x43 x45).f5.f1) ((rd_T86 x43 x45).f5.f2)).bind fun bt191 => (if x187003.length < 703687441776 then (ergolaw13_R_Rule.l0 k x43 x44 (wrap64 (x45 + 1)) x187000 x187001 x187002 (x187003 ++ [(⟨bt191.1, (⟨bt191.2.1, bt191.2.2.1⟩ : S39), bt191.2.2.2.1, (⟨bt191.2.2.2.2.1, bt191.2.2.2.2.2.1, bt191.2.2.2.2.2.2.1⟩ : S53), (⟨bt191.2.2.2.2.2.2.2.1, bt191.2.2.2.2.2.2.2.2.1, bt191.2.2.2.2.2.2.2.2.2.1⟩ : S53), bt191.2.2.2.2.2.2.2.2.2.2.1, (⟨(⟨bt191.2.2.2.2.2.2.2.2.2.2.2.1, bt191.2.2.2.2.2.2.2.2.2.2.2.2.1, bt191.2.2.2.2.2.2.2.2.2.2.2.2.2.1⟩ : S53), bt191.2.2.2.2.2.2.2.2.2.2.2.2.2.2.1, bt191.2.2.2.2.2.2.2.2.2.2.2.2.2.2.2⟩ : S57)⟩ : S59)]) x187004) else (none))) else (none)) else (none)) else (some (x187000, x187001, x187002, x187003, x187004))
end
def ergolaw13_R_Rule.f (k : Nat) (a0_0 : Int) (l0_1 : List (S81)) (a0_2 : Int) (l0_3 : List (S86)) : Option (ByteArray × (List (S53)) × Int × (List (S59)) × Int) := (ergolaw13_A_Atom.f k a0_0 l0_1).bind fun bt182 => (if (Go.bits .and .i64 a0_2 15) ≥ 1 then (ergolaw13_R_Rule.j0 k (Go.bits .and .i64 a0_2 15) (decide ((Go.bits .and .i64 a0_2 15) ≤ 4)) a0_0 l0_1 a0_2 l0_3 bt182.1 bt182.2 0 0) else (ergolaw13_R_Rule.j0 k (Go.bits .and .i64 a0_2 15) false a0_0 l0_1 a0_2 l0_3 bt182.1 bt182.2 0 0))
def ergolaw13_R_Rule.T11 : Bool × List (List Nat × List Nat) := (true, [([], []), ([0], [0]), ([], []), ([2], [2]), ([3], [3]), ([1, 4, 3], [1, 4]), ([0, 1, 2, 3, 4, 5], []), ([6, 5, 5, 0, 1, 2, 3, 4, 5], [5, 6])])
def ergolaw13_R_Rule.B11 : List Nat := [0, 1, 0, 4, 12, 31, 63, 127]
theorem ergolaw13_R_Rule.tab11 : rtab .any (opsOf Tryd.f11 11) = ergolaw13_R_Rule.T11 := by kernel_rfl
theorem ergolaw13_R_Rule.bits11 : waitsOk ergolaw13_R_Rule.T11.2 ergolaw13_R_Rule.B11 = true := by kernel_rfl
set_option maxHeartbeats 8000000 in
set_option maxRecDepth 100000 in
theorem ergolaw13_R_Rule.calls (k : Nat) (a0_0 : Int) (A0_1 : Option Addr) (c0_1 : Nat) (l0_1 : List (S81)) (a0_2 : Int) (A0_3 : Option Addr) (c0_3 : Nat) (l0_3 : List (S86)) (r1 : ByteArray) (r2 : List (S53)) (r3 : Int) (r4 : List (S59)) (r5 : Int) (w : World) (hr0_1 : Kd.C k81 w A0_1 l0_1.length l0_1) (hc0_1 : l0_1.length ≤ c0_1) (hr0_3 : Kd.C k86 w A0_3 l0_3.length l0_3) (hc0_3 : l0_3.length ≤ c0_3) (h : ergolaw13_R_Rule.f k a0_0 l0_1 a0_2 l0_3 = some (r1, r2, r3, r4, r5)) :
  Calls Tryd.prog 11 #[.agg #[.int .i64 a0_0, .slice A0_1 l0_1.length c0_1, .int .i64 a0_2, .slice A0_3 l0_3.length c0_3]] w fun e w' => ∃ v1_ v3_ : Value, e = .returned (.agg #[.string r1, v1_, .int .i64 r3, v3_, .int .i64 r5]) ∧ Kd.R k53 53 w' w.heap.size (fun k_ => (w.heap.size ≤ k_)) v1_ r2 ∧ Kd.N k59 59 w' w.heap.size (fun k_ => (w.heap.size ≤ k_) ∧ some k_ ≠ (v1_ : Value).ownBlock) v3_ r4 ∧ Below w.heap.size w w' := by
 have hu36 := Tryd.underlying36
 have hu43 := Tryd.underlying43
 have hu33 := Tryd.underlying33
 have hu53 := Tryd.underlying53
 have hu86 := Tryd.underlying86
 have HR0_1 := aK_ hr0_1
 have HC0_1 := aK_ hc0_1
 clear hr0_1 hc0_1
 have HR0_3 := aK_ hr0_3
 have HC0_3 := aK_ hc0_3
 clear hr0_3 hc0_3
 have HB := aK_ (Below.refl w.heap.size w)
 have H : ((ergolaw13_A_Atom.f k a0_0 l0_1).bind fun bt182 => (if (Go.bits .and .i64 a0_2 15) ≥ 1 then (ergolaw13_R_Rule.j0 k (Go.bits .and .i64 a0_2 15) (decide ((Go.bits .and .i64 a0_2 15) ≤ 4)) a0_0 l0_1 a0_2 l0_3 bt182.1 bt182.2 0 0) else (ergolaw13_R_Rule.j0 k (Go.bits .and .i64 a0_2 15) false a0_0 l0_1 a0_2 l0_3 bt182.1 bt182.2 0 0))) = some (r1, r2, r3, r4, r5) := h
 clear h
 replace H := Option.bind_eq_some_iff.mp H
 obtain ⟨⟨t182, t183⟩, A20, H⟩ := H
 replace H : (if (Go.bits .and .i64 a0_2 15) ≥ 1 then (ergolaw13_R_Rule.j0 k (Go.bits .and .i64 a0_2 15) (decide ((Go.bits .and .i64 a0_2 15) ≤ 4)) a0_0 l0_1 a0_2 l0_3 t182 t183 0 0) else (ergolaw13_R_Rule.j0 k (Go.bits .and .i64 a0_2 15) false a0_0 l0_1 a0_2 l0_3 t182 t183 0 0)) = some (r1, r2, r3, r4, r5) := H
 have A2 := aK_ A20
 clear A20
 have HC3 := aK_ H
 clear H
 go_enter Tryd.func11, Tryd.ntmps11
 go_upto_region 3 with (first | ((with_reducible refine gate_dst (N := 1) rfl ?_); refine box_event ?hg (N := 1) ?hd (cs := #[.int .i64 a0_0, .slice A0_1 l0_1.length c0_1, .int .i64 a0_2, .slice A0_3 l0_3.length c0_3]) (t := 36) ?hr ?_; (case hd => rfl); (case hg => rfl); (case hr => first | (go_simp; done) | (go_simp; rfl)); intro gb180 hg w4 hbox hb; have n0_ := aK_ (lT_ (by repeat (first | (with_reducible first | exact HB.out | apply lA_ | apply pD | apply lD_) | exact HB.out)) hb); have n1_ := aK_ (hbox); have n2_ := aK_ ((by rw [hg]; exact (lZ_ (by repeat (first | (with_reducible first | exact HB.out | apply lA_ | apply pD | apply lD_) | exact HB.out))) : w.heap.size ≤ gb180)); have n3_ := aK_ ((by rw [hg]; exact (lZ_ (by repeat (first | (with_reducible first | exact HB.out | apply lA_ | apply pD | apply lD_) | exact HB.out))) : w.heap.size ≤ gb180)); clear HB; have HB := n0_; have BK180 := n1_; have GW180 := n2_; have GE180 := n3_; clear n0_ n1_ n2_ n3_; clear hb hbox hg) | ((with_reducible refine gate_dst (N := 2) rfl ?_); refine box_event ?hg (N := 2) ?hd (cs := #[.string (⟨#[]⟩ : ByteArray), .slice none 0 0, .int .i64 0, .slice none 0 0, .int .i64 0]) (t := 43) ?hr ?_; (case hd => rfl); (case hg => rfl); (case hr => first | (go_simp; done) | (go_simp; rfl)); intro gb181 hg w5 hbox hb; have n0_ := aK_ (bB (by (with_reducible repeat (first | refine bDN ?_ _ | refine bD ?_ | refine bA ?_ _)); exact BK180.out) hb); have n1_ := aK_ (lT_ (by repeat (first | (with_reducible first | exact HB.out | apply lA_ | apply pD | apply lD_ | refine lS_ ?_ GE180.out) | exact HB.out)) hb); have n2_ := aK_ (hbox); have n3_ := aK_ ((by rw [hg]; exact (lZ_ (by repeat (first | (with_reducible first | exact HB.out | apply lA_ | apply pD | apply lD_ | refine lS_ ?_ GE180.out) | exact HB.out))) : w.heap.size ≤ gb181)); have n4_ := aK_ ((by rw [hg]; exact (lZ_ (by repeat (first | (with_reducible first | exact HB.out | apply lA_ | apply pD | apply lD_ | refine lS_ ?_ GE180.out) | exact HB.out))) : w.heap.size ≤ gb181)); have n5_ := aK_ ((by rw [hg]; exact Nat.ne_of_lt (blk_lt (g := gb180) (o := .cells #[.int .i64 a0_0, .slice A0_1 l0_1.length c0_1, .int .i64 a0_2, .slice A0_3 l0_3.length c0_3] 36 (0, 0)) (by (with_reducible repeat (first | refine bDN ?_ _ | refine bD ?_ | refine bA ?_ _)); exact BK180.out)) : gb180 ≠ gb181)); have n6_ := aK_ ((by rw [hg]; exact Nat.ne_of_gt (blk_lt (g := gb180) (o := .cells #[.int .i64 a0_0, .slice A0_1 l0_1.length c0_1, .int .i64 a0_2, .slice A0_3 l0_3.length c0_3] 36 (0, 0)) (by (with_reducible repeat (first | refine bDN ?_ _ | refine bD ?_ | refine bA ?_ _)); exact BK180.out)) : gb181 ≠ gb180)); clear BK180; clear HB; have BK180 := n0_; have HB := n1_; have BK181 := n2_; have GW181 := n3_; have GE181 := n4_; have NB180_181 := n5_; have NB181_180 := n6_; clear n0_ n1_ n2_ n3_ n4_ n5_ n6_; clear hb hbox hg; have hnb6 := NB180_181.out; have hnc6 := NB181_180.out; have hcz7_0 : w5.cell? ⟨gb180, 0, none⟩ = some (.int .i64 a0_0) := (bC BK180.out 0).trans rfl; have hcz7_1 : w5.cell? ⟨gb180, 1, none⟩ = some (.slice A0_1 l0_1.length c0_1) := (bC BK180.out 1).trans rfl; have hcz7_2 : w5.cell? ⟨gb180, 2, none⟩ = some (.int .i64 a0_2) := (bC BK180.out 2).trans rfl; have hcz7_3 : w5.cell? ⟨gb180, 3, none⟩ = some (.slice A0_3 l0_3.length c0_3) := (bC BK180.out 3).trans rfl; have hfz7_0 := bF BK180.out 0; have hfz7_1 := bF BK180.out 1; have hfz7_2 := bF BK180.out 2; have hfz7_3 := bF BK180.out 3) | ((with_reducible refine gate_callee (f := 31) rfl ?_); refine goesL_ (some 10) rfl rfl Tryd.func31 (by kernel_rfl) rfl #[.agg #[.int .i64 a0_0, .slice A0_1 l0_1.length c0_1]] rfl (by (try simp only [List.map_toArray, List.map_cons, List.map_nil]); first | done | rfl | (simp only [List.length_drop, List.length_take]; rfl)) ?_; (with_reducible refine (ergolaw13_A_Atom.calls k a0_0 _ _ l0_1 t182 t183 _ ?side1 ?side2 A2.out).mono ?_); (case side1 => repeat (first | exact (Kd.C_below HR0_1.out HB.out) | (with_reducible refine Kd.C_alloc ?_ _) | (with_reducible refine Kd.C_drewN ?_ _) | (with_reducible refine Kd.C_drew ?_))); (case side2 => exact HC0_1.out); rintro e w8 ⟨v184, rfl, ho0, hb⟩; refine ⟨_, rfl, ?_⟩; have n0_ := aK_ (Kd.R_lower (Kd.R_newM (M := fun k_ => (w.heap.size ≤ k_)) ho0 (lZ_ (by repeat (first | (with_reducible first | exact HB.out | apply lA_ | apply pD | apply lD_ | refine lS_ ?_ GE180.out | refine lS_ ?_ GE181.out) | exact HB.out))) (fun k_ h_ => h_)) (lZ_ (by repeat (first | (with_reducible first | exact HB.out | apply lA_ | apply pD | apply lD_ | refine lS_ ?_ GE180.out | refine lS_ ?_ GE181.out) | exact HB.out)))); have n1_ := aK_ (bB (by (with_reducible repeat (first | refine bDN ?_ _ | refine bD ?_ | refine bA ?_ _)); exact BK180.out) hb); have n2_ := aK_ (bB (by (with_reducible repeat (first | refine bDN ?_ _ | refine bD ?_ | refine bA ?_ _)); exact BK181.out) hb); have n3_ := aK_ (lT_ (by repeat (first | (with_reducible first | exact HB.out | apply lA_ | apply pD | apply lD_ | refine lS_ ?_ GE180.out | refine lS_ ?_ GE181.out) | exact HB.out)) hb); clear BK180; clear BK181; clear HB; have HO185 := n0_; have BK180 := n1_; have BK181 := n2_; have HB := n3_; clear n0_ n1_ n2_ n3_; (try clear hb); (try clear hb2); (try clear hk); (try clear hi); (try clear ho0); obtain ⟨Ao9, co9, eo9⟩ := Kd.R_slice HO185.out; subst eo9) | ((with_reducible refine gate_dst (N := 3) rfl ?_); refine box_event ?hg (N := 3) ?hd (cs := #[.string (⟨#[]⟩ : ByteArray), .slice none 0 0, .int .i64 0, .slice none 0 0, .int .i64 0]) (t := 43) ?hr ?_; (case hd => rfl); (case hg => rfl); (case hr => first | (go_simp; done) | (go_simp; rfl)); intro gb186 hg w10 hbox hb; have n0_ := aK_ (Kd.R_below (by (with_reducible repeat (first | apply Kd.R_alloc | apply Kd.R_drewN | apply Kd.R_drew)); exact HO185.out) hb); have n1_ := aK_ (bB (by (with_reducible repeat (first | refine bDN ?_ _ | refine bD ?_ | refine bA ?_ _)); exact BK180.out) hb); have n2_ := aK_ (bB (by (with_reducible repeat (first | refine bDN ?_ _ | refine bD ?_ | refine bA ?_ _)); exact BK181.out) hb); have n3_ := aK_ (lT_ (by repeat (first | (with_reducible first | exact HB.out | apply lA_ | apply pD | apply lD_ | refine lS_ ?_ GE180.out | refine lS_ ?_ GE181.out) | exact HB.out)) hb); have n4_ := aK_ (hbox); have n5_ := aK_ ((by rw [hg]; exact (lZ_ (by repeat (first | (with_reducible first | exact HB.out | apply lA_ | apply pD | apply lD_ | refine lS_ ?_ GE180.out | refine lS_ ?_ GE181.out) | exact HB.out))) : w.heap.size ≤ gb186)); have n6_ := aK_ ((by rw [hg]; exact (lZ_ (by repeat (first | (with_reducible first | exact HB.out | apply lA_ | apply pD | apply lD_ | refine lS_ ?_ GE180.out | refine lS_ ?_ GE181.out) | exact HB.out))) : w.heap.size ≤ gb186)); have n7_ := aK_ ((by rw [hg]; exact Nat.ne_of_lt (blk_lt (g := gb180) (o := .cells #[.int .i64 a0_0, .slice A0_1 l0_1.length c0_1, .int .i64 a0_2, .slice A0_3 l0_3.length c0_3] 36 (0, 0)) (by (with_reducible repeat (first | refine bDN ?_ _ | refine bD ?_ | refine bA ?_ _)); exact BK180.out)) : gb180 ≠ gb186)); have n8_ := aK_ ((by rw [hg]; exact Nat.ne_of_gt (blk_lt (g := gb180) (o := .cells #[.int .i64 a0_0, .slice A0_1 l0_1.length c0_1, .int .i64 a0_2, .slice A0_3 l0_3.length c0_3] 36 (0, 0)) (by (with_reducible repeat (first | refine bDN ?_ _ | refine bD ?_ | refine bA ?_ _)); exact BK180.out)) : gb186 ≠ gb180)); have n9_ := aK_ ((by rw [hg]; exact Nat.ne_of_lt (blk_lt (g := gb181) (o := .cells #[.string (⟨#[]⟩ : ByteArray), .slice none 0 0, .int .i64 0, .slice none 0 0, .int .i64 0] 43 (0, 0)) (by (with_reducible repeat (first | refine bDN ?_ _ | refine bD ?_ | refine bA ?_ _)); exact BK181.out)) : gb181 ≠ gb186)); have n10_ := aK_ ((by rw [hg]; exact Nat.ne_of_gt (blk_lt (g := gb181) (o := .cells #[.string (⟨#[]⟩ : ByteArray), .slice none 0 0, .int .i64 0, .slice none 0 0, .int .i64 0] 43 (0, 0)) (by (with_reducible repeat (first | refine bDN ?_ _ | refine bD ?_ | refine bA ?_ _)); exact BK181.out)) : gb186 ≠ gb181)); clear HO185; clear BK180; clear BK181; clear HB; have HO185 := n0_; have BK180 := n1_; have BK181 := n2_; have HB := n3_; have BK186 := n4_; have GW186 := n5_; have GE186 := n6_; have NB180_186 := n7_; have NB186_180 := n8_; have NB181_186 := n9_; have NB186_181 := n10_; clear n0_ n1_ n2_ n3_ n4_ n5_ n6_ n7_ n8_ n9_ n10_; clear hb hbox hg; have hnb11 := NB186_180.out; have hnc11 := NB180_186.out; have hnb12 := NB186_181.out; have hnc12 := NB181_186.out; have hcz13_0 : w10.cell? ⟨gb186, 0, none⟩ = some (.string (⟨#[]⟩ : ByteArray)) := (bC BK186.out 0).trans rfl; have hcz13_1 : w10.cell? ⟨gb186, 1, none⟩ = some (.slice none 0 0) := (bC BK186.out 1).trans rfl; have hcz13_2 : w10.cell? ⟨gb186, 2, none⟩ = some (.int .i64 0) := (bC BK186.out 2).trans rfl; have hcz13_3 : w10.cell? ⟨gb186, 3, none⟩ = some (.slice none 0 0) := (bC BK186.out 3).trans rfl; have hcz13_4 : w10.cell? ⟨gb186, 4, none⟩ = some (.int .i64 0) := (bC BK186.out 4).trans rfl; have hfz13_0 := bF BK186.out 0; have hfz13_1 := bF BK186.out 1; have hfz13_2 := bF BK186.out 2; have hfz13_3 := bF BK186.out 3; have hfz13_4 := bF BK186.out 4; have hcz14_0 : w10.cell? ⟨gb180, 0, none⟩ = some (.int .i64 a0_0) := (bC BK180.out 0).trans rfl; have hcz14_1 : w10.cell? ⟨gb180, 1, none⟩ = some (.slice A0_1 l0_1.length c0_1) := (bC BK180.out 1).trans rfl; have hcz14_2 : w10.cell? ⟨gb180, 2, none⟩ = some (.int .i64 a0_2) := (bC BK180.out 2).trans rfl; have hcz14_3 : w10.cell? ⟨gb180, 3, none⟩ = some (.slice A0_3 l0_3.length c0_3) := (bC BK180.out 3).trans rfl; have hfz14_0 := bF BK180.out 0; have hfz14_1 := bF BK180.out 1; have hfz14_2 := bF BK180.out 2; have hfz14_3 := bF BK180.out 3))
 (try simp only [Act.put, sA_, sZ_, sS_])
 go_cut [20] (fun v20 wc => ∃ (kq : Nat) (x20_2 : Bool), v20 = .bool x20_2 ∧ Aside0 (ergolaw13_R_Rule.j0 kq (Go.bits .and .i64 a0_2 15) x20_2 a0_0 l0_1 a0_2 l0_3 t182 t183 0 0 = some (r1, r2, r3, r4, r5)) ∧ Aside0 (kq ≤ k) ∧ Aside0 (Kd.R k53 53 wc w.heap.size (fun k_ => (w.heap.size ≤ k_)) (.slice Ao9 t183.length co9) t183) ∧ Aside0 (wc.heap[gb180]? = some (.cells #[.int .i64 a0_0, (.slice A0_1 l0_1.length c0_1), .int .i64 a0_2, (.slice A0_3 l0_3.length c0_3)] 36 (0, 0))) ∧ Aside0 (wc.heap[gb181]? = some (.cells #[.string (⟨#[]⟩ : ByteArray), (.slice none 0 0), .int .i64 0, (.slice none 0 0), .int .i64 0] 43 (0, 0))) ∧ Aside0 (wc.heap[gb186]? = some (.cells #[.string t182, (.slice Ao9 t183.length co9), .int .i64 0, (.slice none 0 0), .int .i64 0] 43 (0, 0))) ∧ Aside0 (Below w.heap.size w wc))
 case first =>
  have H := HC3.out
  clear HC3
  by_cases c15 : (Go.bits .and .i64 a0_2 15) ≥ 1
  ·rw [if_pos c15] at H
   have c15b0 : decide (1 ≤ (Go.bits .and .i64 a0_2 15)) = true := decide_eq_true c15
   clear c15
   (first | rw [c15b0] | (simp only [i64_w, i32_w]; rw [c15b0]) | skip)
   have H' := aK_ H
   clear H
   go_wp2
   go_meet
   case rel => exact ⟨_, (decide ((Go.bits .and .i64 a0_2 15) ≤ 4)), (by first | rfl | (simp; done) | (simp [*]; done)), H', ⟨by first | omega | exact Nat.le_refl _⟩, ⟨by (with_reducible repeat (first | apply Kd.R_alloc | apply Kd.R_drewN | apply Kd.R_drew)); exact Kd.R_mono (Kd.R_far (p := ⟨gb186, 4, none⟩) (Kd.R_far (p := ⟨gb186, 3, none⟩) (Kd.R_far (p := ⟨gb186, 2, none⟩) (Kd.R_far (p := ⟨gb186, 1, none⟩) (Kd.R_far (p := ⟨gb186, 0, none⟩) (Kd.R_types HO185.out BK186.out (by decide)) (fun _ hk => hk.2) (.string t182)) (fun _ hk => hk.2) (.slice Ao9 t183.length co9)) (fun _ hk => hk.2) (.int .i64 0)) (fun _ hk => hk.2) (.slice none 0 0)) (fun _ hk => hk.2) (.int .i64 0)) (fun _ hk => hk.1.1)⟩, ⟨by (with_reducible repeat (first | refine bDN ?_ _ | refine bD ?_ | refine bA ?_ _)); refine blk_far ?_ NB180_186.out _; (with_reducible repeat (first | refine bDN ?_ _ | refine bD ?_ | refine bA ?_ _)); refine blk_far ?_ NB180_186.out _; (with_reducible repeat (first | refine bDN ?_ _ | refine bD ?_ | refine bA ?_ _)); refine blk_far ?_ NB180_186.out _; (with_reducible repeat (first | refine bDN ?_ _ | refine bD ?_ | refine bA ?_ _)); refine blk_far ?_ NB180_186.out _; (with_reducible repeat (first | refine bDN ?_ _ | refine bD ?_ | refine bA ?_ _)); refine blk_far ?_ NB180_186.out _; (with_reducible repeat (first | refine bDN ?_ _ | refine bD ?_ | refine bA ?_ _)); exact BK180.out⟩, ⟨by (with_reducible repeat (first | refine bDN ?_ _ | refine bD ?_ | refine bA ?_ _)); refine blk_far ?_ NB181_186.out _; (with_reducible repeat (first | refine bDN ?_ _ | refine bD ?_ | refine bA ?_ _)); refine blk_far ?_ NB181_186.out _; (with_reducible repeat (first | refine bDN ?_ _ | refine bD ?_ | refine bA ?_ _)); refine blk_far ?_ NB181_186.out _; (with_reducible repeat (first | refine bDN ?_ _ | refine bD ?_ | refine bA ?_ _)); refine blk_far ?_ NB181_186.out _; (with_reducible repeat (first | refine bDN ?_ _ | refine bD ?_ | refine bA ?_ _)); refine blk_far ?_ NB181_186.out _; (with_reducible repeat (first | refine bDN ?_ _ | refine bD ?_ | refine bA ?_ _)); exact BK181.out⟩, ⟨(by apply eC_; (with_reducible repeat (first | refine bDN ?_ _ | refine bD ?_ | refine bA ?_ _)); apply b2_; (with_reducible repeat (first | refine bDN ?_ _ | refine bD ?_ | refine bA ?_ _)); apply b2_; (with_reducible repeat (first | refine bDN ?_ _ | refine bD ?_ | refine bA ?_ _)); apply b2_; (with_reducible repeat (first | refine bDN ?_ _ | refine bD ?_ | refine bA ?_ _)); apply b2_; (with_reducible repeat (first | refine bDN ?_ _ | refine bD ?_ | refine bA ?_ _)); apply b2_; (with_reducible repeat (first | refine bDN ?_ _ | refine bD ?_ | refine bA ?_ _)); exact BK186.out; kernel_rfl)⟩, ⟨by repeat (first | (with_reducible first | exact HB.out | apply lA_ | apply pD | apply lD_ | refine lS_ ?_ GE180.out | refine lS_ ?_ GE181.out | refine lS_ ?_ GE186.out) | exact HB.out)⟩⟩
  ·rw [if_neg c15] at H
   have c15b0 : decide (1 ≤ (Go.bits .and .i64 a0_2 15)) = false := decide_eq_false c15
   clear c15
   (first | rw [c15b0] | (simp only [i64_w, i32_w]; rw [c15b0]) | skip)
   have H' := aK_ H
   clear H
   go_wp2
   go_meet
   case rel => exact ⟨_, (false), (by first | rfl | (simp; done) | (simp [*]; done)), H', ⟨by first | omega | exact Nat.le_refl _⟩, ⟨by (with_reducible repeat (first | apply Kd.R_alloc | apply Kd.R_drewN | apply Kd.R_drew)); exact Kd.R_mono (Kd.R_far (p := ⟨gb186, 4, none⟩) (Kd.R_far (p := ⟨gb186, 3, none⟩) (Kd.R_far (p := ⟨gb186, 2, none⟩) (Kd.R_far (p := ⟨gb186, 1, none⟩) (Kd.R_far (p := ⟨gb186, 0, none⟩) (Kd.R_types HO185.out BK186.out (by decide)) (fun _ hk => hk.2) (.string t182)) (fun _ hk => hk.2) (.slice Ao9 t183.length co9)) (fun _ hk => hk.2) (.int .i64 0)) (fun _ hk => hk.2) (.slice none 0 0)) (fun _ hk => hk.2) (.int .i64 0)) (fun _ hk => hk.1.1)⟩, ⟨by (with_reducible repeat (first | refine bDN ?_ _ | refine bD ?_ | refine bA ?_ _)); refine blk_far ?_ NB180_186.out _; (with_reducible repeat (first | refine bDN ?_ _ | refine bD ?_ | refine bA ?_ _)); refine blk_far ?_ NB180_186.out _; (with_reducible repeat (first | refine bDN ?_ _ | refine bD ?_ | refine bA ?_ _)); refine blk_far ?_ NB180_186.out _; (with_reducible repeat (first | refine bDN ?_ _ | refine bD ?_ | refine bA ?_ _)); refine blk_far ?_ NB180_186.out _; (with_reducible repeat (first | refine bDN ?_ _ | refine bD ?_ | refine bA ?_ _)); refine blk_far ?_ NB180_186.out _; (with_reducible repeat (first | refine bDN ?_ _ | refine bD ?_ | refine bA ?_ _)); exact BK180.out⟩, ⟨by (with_reducible repeat (first | refine bDN ?_ _ | refine bD ?_ | refine bA ?_ _)); refine blk_far ?_ NB181_186.out _; (with_reducible repeat (first | refine bDN ?_ _ | refine bD ?_ | refine bA ?_ _)); refine blk_far ?_ NB181_186.out _; (with_reducible repeat (first | refine bDN ?_ _ | refine bD ?_ | refine bA ?_ _)); refine blk_far ?_ NB181_186.out _; (with_reducible repeat (first | refine bDN ?_ _ | refine bD ?_ | refine bA ?_ _)); refine blk_far ?_ NB181_186.out _; (with_reducible repeat (first | refine bDN ?_ _ | refine bD ?_ | refine bA ?_ _)); refine blk_far ?_ NB181_186.out _; (with_reducible repeat (first | refine bDN ?_ _ | refine bD ?_ | refine bA ?_ _)); exact BK181.out⟩, ⟨(by apply eC_; (with_reducible repeat (first | refine bDN ?_ _ | refine bD ?_ | refine bA ?_ _)); apply b2_; (with_reducible repeat (first | refine bDN ?_ _ | refine bD ?_ | refine bA ?_ _)); apply b2_; (with_reducible repeat (first | refine bDN ?_ _ | refine bD ?_ | refine bA ?_ _)); apply b2_; (with_reducible repeat (first | refine bDN ?_ _ | refine bD ?_ | refine bA ?_ _)); apply b2_; (with_reducible repeat (first | refine bDN ?_ _ | refine bD ?_ | refine bA ?_ _)); apply b2_; (with_reducible repeat (first | refine bDN ?_ _ | refine bD ?_ | refine bA ?_ _)); exact BK186.out; kernel_rfl)⟩, ⟨by repeat (first | (with_reducible first | exact HB.out | apply lA_ | apply pD | apply lD_ | refine lS_ ?_ GE180.out | refine lS_ ?_ GE181.out | refine lS_ ?_ GE186.out) | exact HB.out)⟩⟩
 case rest =>
  clear HC3
  try clear c1
  try clear p2
  try clear c3
  try clear c6
  try clear c11
  try clear c12
  try clear c15
  try clear c15b0
  try clear hcz13_0
  try clear hcz13_1
  try clear hcz13_2
  try clear hcz13_3
  try clear hcz13_4
  try clear hcz14_0
  try clear hcz14_1
  try clear hcz14_2
  try clear hcz14_3
  try clear hcz7_0
  try clear hcz7_1
  try clear hcz7_2
  try clear hcz7_3
  try clear hfz13_0
  try clear hfz13_1
  try clear hfz13_2
  try clear hfz13_3
  try clear hfz13_4
  try clear hfz14_0
  try clear hfz14_1
  try clear hfz14_2
  try clear hfz14_3
  try clear hfz7_0
  try clear hfz7_1
  try clear hfz7_2
  try clear hfz7_3
  obtain ⟨kq, x20_2, rfl, HA, HJ2, HO_187001, BK180, BK181, BK186, HB⟩ := hcut
  cases kq with
  | zero => exact absurd HA.out (by simp [ergolaw13_R_Rule.j0])
  | succ kj2 =>
   have H := HA.out
   clear HA
   simp only [ergolaw13_R_Rule.j0] at H
   have HC16 := aK_ H
   clear H
   go_upto_if 20 with (fail)
   go_cut [] (fun wc => ∃ (kq : Nat) (x187001_15 : List (S53)) (x187002_15 : Int) (u187001 : Value), Aside0 (ergolaw13_R_Rule.j1 kq a0_0 l0_1 a0_2 l0_3 t182 x187001_15 x187002_15 0 = some (r1, r2, r3, r4, r5)) ∧ Aside0 (kq ≤ kj2) ∧ Aside0 (Kd.R k53 53 wc w.heap.size (fun k_ => (w.heap.size ≤ k_)) u187001 x187001_15) ∧ Aside0 (wc.heap[gb180]? = some (.cells #[.int .i64 a0_0, (.slice A0_1 l0_1.length c0_1), .int .i64 a0_2, (.slice A0_3 l0_3.length c0_3)] 36 (0, 0))) ∧ Aside0 (wc.heap[gb181]? = some (.cells #[.string (⟨#[]⟩ : ByteArray), (.slice none 0 0), .int .i64 0, (.slice none 0 0), .int .i64 0] 43 (0, 0))) ∧ Aside0 (wc.heap[gb186]? = some (.cells #[.string t182, u187001, .int .i64 x187002_15, (.slice none 0 0), .int .i64 0] 43 (0, 0))) ∧ Aside0 (Below w.heap.size w wc))
   case first =>
    have H := HC16.out
    clear HC16
    by_cases c17 : x20_2 = true
    ·subst c17
     have H1 : (if 0 ≤ (wrap64 ((t183.length : Int) - 1)) then (if (wrap64 ((t183.length : Int) - 1)) < (t183.length : Int) then (if ((rd_T53 t183 (wrap64 ((t183.length : Int) - 1))).f0) = 0 then (ergolaw13_R_Rule.j1 kj2 a0_0 l0_1 a0_2 l0_3 t182 t183 (Go.bits .and .i64 a0_2 15) 0) else (ergolaw13_R_Rule.j1 kj2 a0_0 l0_1 a0_2 l0_3 t182 (t183.set ((wrap64 ((t183.length : Int) - 1)) : Int).toNat (⟨0, (⟨#[88]⟩ : ByteArray), 0⟩ : S53)) (Go.bits .and .i64 a0_2 15) 0)) else (none)) else (none)) = some (r1, r2, r3, r4, r5) := by rw [if_pos rfl] at H; exact H
     clear H
     have H := H1
     clear H1
     obtain ⟨ji18, hji18⟩ : ∃ j_ : Int, (wrap64 ((t183.length : Int) - 1)) = j_ := ⟨_, rfl⟩
     replace H : (if 0 ≤ (ji18) then (if (ji18) < (t183.length : Int) then (if ((rd_T53 t183 (ji18)).f0) = 0 then (ergolaw13_R_Rule.j1 kj2 a0_0 l0_1 a0_2 l0_3 t182 t183 (Go.bits .and .i64 a0_2 15) 0) else (ergolaw13_R_Rule.j1 kj2 a0_0 l0_1 a0_2 l0_3 t182 (t183.set ((ji18) : Int).toNat (⟨0, (⟨#[88]⟩ : ByteArray), 0⟩ : S53)) (Go.bits .and .i64 a0_2 15) 0)) else (none)) else (none)) = some (r1, r2, r3, r4, r5) := by first | (rw [hji18] at H; exact H) | (simp only [hji18] at H ⊢; exact H)
     have hji18w : (IntKind.i64.wrap ((t183.length : Int) - 1)) = ji18 := (i64_w _).trans hji18
     by_cases c19 : 0 ≤ (ji18)
     ·rw [if_pos c19] at H
      have c19b0 : decide (0 ≤ (ji18)) = true := decide_eq_true c19
      clear c19
      (first | rw [c19b0] | (simp only [i64_w, i32_w]; rw [c19b0]) | skip)
      by_cases c20 : (ji18) < (t183.length : Int)
      ·rw [if_pos c20] at H
       have c20b0 : decide ((ji18) < (t183.length : Int)) = true := decide_eq_true c20
       clear c20
       by_cases c21 : ((rd_T53 t183 (ji18)).f0) = 0
       ·rw [if_pos c21] at H
        have c21b0 : (((rd_T53 t183 (ji18)).f0) == 0) = true := beq_iff_eq.mpr c21
        have c21b1 : (((rd_T53 t183 (ji18)).f0) != 0) = false := bne_eq_false_iff_eq.mpr c21
        clear c21
        have H' := aK_ H
        clear H
        have hnb22 := NB186_180.out
        have hnc22 := NB180_186.out
        have hnb23 := NB186_181.out
        have hnc23 := NB181_186.out
        have hcz24_0 : wc.cell? ⟨gb186, 0, none⟩ = some (.string t182) := (bC BK186.out 0).trans rfl
        have hcz24_1 : wc.cell? ⟨gb186, 1, none⟩ = some (.slice Ao9 t183.length co9) := (bC BK186.out 1).trans rfl
        have hcz24_2 : wc.cell? ⟨gb186, 2, none⟩ = some (.int .i64 0) := (bC BK186.out 2).trans rfl
        have hcz24_3 : wc.cell? ⟨gb186, 3, none⟩ = some (.slice none 0 0) := (bC BK186.out 3).trans rfl
        have hcz24_4 : wc.cell? ⟨gb186, 4, none⟩ = some (.int .i64 0) := (bC BK186.out 4).trans rfl
        have hfz24_0 := bF BK186.out 0
        have hfz24_1 := bF BK186.out 1
        have hfz24_2 := bF BK186.out 2
        have hfz24_3 := bF BK186.out 3
        have hfz24_4 := bF BK186.out 4
        have p187 : 0 ≤ ((ji18) : Int) := of_decide_eq_true (by first | (with_reducible assumption) | assumption)
        have q187 : (ji18) < (t183.length : Int) := of_decide_eq_true (by first | (with_reducible assumption) | assumption)
        obtain ⟨ad187, e187, hx187_0, hx187_1, hx187_2⟩ := at_T53 (Kd.R_reads' HO_187001.out).2.2 (ji18) p187 q187
        cases e187
        have hn187_0 : ad187.block ≠ gb186 := Kd.own_blk (Kd.R_ne HO_187001.out BK186.out (by decide))
        replace hx187_0 := (cF_ (p := ⟨gb186, 2, none⟩) (by first | (rw [aB_]; exact hn187_0) | (show (Addr.add _ _).block ≠ _; rw [aB_]; exact hn187_0) | exact hn187_0) (.int .i64 (Go.bits .and .i64 a0_2 15))).trans hx187_0
        replace hx187_1 := (cF_ (p := ⟨gb186, 2, none⟩) (by first | (rw [aB_]; exact hn187_0) | (show (Addr.add _ _).block ≠ _; rw [aB_]; exact hn187_0) | exact hn187_0) (.int .i64 (Go.bits .and .i64 a0_2 15))).trans hx187_1
        replace hx187_2 := (cF_ (p := ⟨gb186, 2, none⟩) (by first | (rw [aB_]; exact hn187_0) | (show (Addr.add _ _).block ≠ _; rw [aB_]; exact hn187_0) | exact hn187_0) (.int .i64 (Go.bits .and .i64 a0_2 15))).trans hx187_2
        clear hn187_0
        replace p187 := eq_true p187
        replace q187 := eq_true q187
        go_wp2
        go_meet
        case rel => exact ⟨_, (t183), ((Go.bits .and .i64 a0_2 15)), (.slice (some ad187) t183.length co9), H', ⟨by have := HJ2.out; first | omega | exact Nat.le_refl _⟩, ⟨by (with_reducible repeat (first | apply Kd.R_alloc | apply Kd.R_drewN | apply Kd.R_drew)); exact Kd.R_mono (Kd.R_far (p := ⟨gb186, 2, none⟩) (Kd.R_types HO_187001.out BK186.out (by decide)) (fun _ hk => hk.2) (.int .i64 (Go.bits .and .i64 a0_2 15))) (fun _ hk => hk.1)⟩, ⟨by (with_reducible repeat (first | refine bDN ?_ _ | refine bD ?_ | refine bA ?_ _)); refine blk_far ?_ NB180_186.out _; (with_reducible repeat (first | refine bDN ?_ _ | refine bD ?_ | refine bA ?_ _)); exact BK180.out⟩, ⟨by (with_reducible repeat (first | refine bDN ?_ _ | refine bD ?_ | refine bA ?_ _)); refine blk_far ?_ NB181_186.out _; (with_reducible repeat (first | refine bDN ?_ _ | refine bD ?_ | refine bA ?_ _)); exact BK181.out⟩, ⟨(by apply eC_; (with_reducible repeat (first | refine bDN ?_ _ | refine bD ?_ | refine bA ?_ _)); apply b2_; (with_reducible repeat (first | refine bDN ?_ _ | refine bD ?_ | refine bA ?_ _)); exact BK186.out; kernel_rfl)⟩, ⟨by repeat (first | (with_reducible first | exact HB.out | apply lA_ | apply pD | apply lD_ | refine lS_ ?_ GE180.out | refine lS_ ?_ GE181.out | refine lS_ ?_ GE186.out) | exact HB.out)⟩⟩
       ·rw [if_neg c21] at H
        have c21b0 : (((rd_T53 t183 (ji18)).f0) == 0) = false := beq_eq_false_iff_ne.mpr c21
        have c21b1 : (((rd_T53 t183 (ji18)).f0) != 0) = true := bne_iff_ne.mpr c21
        obtain ⟨y188, hy188⟩ : ∃ y_ : List (S53), y_ = (t183.set ((ji18) : Int).toNat (⟨0, (⟨#[88]⟩ : ByteArray), 0⟩ : S53)) := ⟨_, rfl⟩
        replace H : (ergolaw13_R_Rule.j1 kj2 a0_0 l0_1 a0_2 l0_3 t182 y188 (Go.bits .and .i64 a0_2 15) 0) = some (r1, r2, r3, r4, r5) := by first | (rw [hy188]; with_reducible exact H) | (have H2_ := (Option.bind_some _ _).symm.trans H; rw [hy188]; with_reducible exact H2_) | (have H2_ := (Option.bind_some _ _).symm.trans H; with_reducible exact H2_) | with_reducible exact H | (rw [hy188]; exact H) | exact H
        have Ny188 := aK_ hy188
        clear hy188
        have H' := aK_ H
        clear H
        have hnb26 := NB186_180.out
        have hnc26 := NB180_186.out
        have hnb27 := NB186_181.out
        have hnc27 := NB181_186.out
        have hcz28_0 : wc.cell? ⟨gb186, 0, none⟩ = some (.string t182) := (bC BK186.out 0).trans rfl
        have hcz28_1 : wc.cell? ⟨gb186, 1, none⟩ = some (.slice Ao9 t183.length co9) := (bC BK186.out 1).trans rfl
        have hcz28_2 : wc.cell? ⟨gb186, 2, none⟩ = some (.int .i64 0) := (bC BK186.out 2).trans rfl
        have hcz28_3 : wc.cell? ⟨gb186, 3, none⟩ = some (.slice none 0 0) := (bC BK186.out 3).trans rfl
        have hcz28_4 : wc.cell? ⟨gb186, 4, none⟩ = some (.int .i64 0) := (bC BK186.out 4).trans rfl
        have hfz28_0 := bF BK186.out 0
        have hfz28_1 := bF BK186.out 1
        have hfz28_2 := bF BK186.out 2
        have hfz28_3 := bF BK186.out 3
        have hfz28_4 := bF BK186.out 4
        go_wp2_with (first | ((with_reducible refine gate_store (t := 40) (p := 22) rfl ?_); refine store_event (t := 40) (p := 22) (v := ?vo_w29) (w1 := (wc.setCell ⟨gb186, 2, none⟩ (.int .i64 (Go.bits .and .i64 a0_2 15)))) ?hg ?ho ?hn ?hr ?_; (case ho => rfl); (case hg => rfl); (case hn => rfl); (case hr => first | (go_simp; done) | (go_simp; rfl)); intro w29 hw; have n0_ : Aside0 (Kd.R k53 53 w29 w.heap.size (fun k_ => (w.heap.size ≤ k_)) (.slice Ao9 t183.length co9) t183) := ⟨(by rw [hw]; exact (by (with_reducible repeat (first | apply Kd.R_alloc | apply Kd.R_drewN | apply Kd.R_drew)); exact Kd.R_mono (Kd.R_far (p := ⟨gb186, 2, none⟩) (Kd.R_types HO_187001.out BK186.out (by decide)) (fun _ hk => hk.2) (.int .i64 (Go.bits .and .i64 a0_2 15))) (fun _ hk => hk.1)))⟩; have n1_ : Aside0 (w29.heap[gb180]? = some (.cells #[.int .i64 a0_0, .slice A0_1 l0_1.length c0_1, .int .i64 a0_2, .slice A0_3 l0_3.length c0_3] 36 (0, 0))) := ⟨(by rw [hw]; exact (by (with_reducible repeat (first | refine bDN ?_ _ | refine bD ?_ | refine bA ?_ _)); refine blk_far ?_ NB180_186.out _; (with_reducible repeat (first | refine bDN ?_ _ | refine bD ?_ | refine bA ?_ _)); exact BK180.out))⟩; have n2_ : Aside0 (w29.heap[gb181]? = some (.cells #[.string (⟨#[]⟩ : ByteArray), .slice none 0 0, .int .i64 0, .slice none 0 0, .int .i64 0] 43 (0, 0))) := ⟨(by rw [hw]; exact (by (with_reducible repeat (first | refine bDN ?_ _ | refine bD ?_ | refine bA ?_ _)); refine blk_far ?_ NB181_186.out _; (with_reducible repeat (first | refine bDN ?_ _ | refine bD ?_ | refine bA ?_ _)); exact BK181.out))⟩; have n3_ : Aside0 (w29.heap[gb186]? = some (.cells #[.string t182, .slice Ao9 t183.length co9, .int .i64 (Go.bits .and .i64 a0_2 15), .slice none 0 0, .int .i64 0] 43 (0, 0))) := ⟨(by rw [hw]; exact ((by apply eC_; (with_reducible repeat (first | refine bDN ?_ _ | refine bD ?_ | refine bA ?_ _)); apply b2_; (with_reducible repeat (first | refine bDN ?_ _ | refine bD ?_ | refine bA ?_ _)); exact BK186.out; kernel_rfl)))⟩; have n4_ : Aside0 (Below w.heap.size w w29) := ⟨(by rw [hw]; exact (by repeat (first | (with_reducible first | exact HB.out | apply lA_ | apply pD | apply lD_ | refine lS_ ?_ GE180.out | refine lS_ ?_ GE181.out | refine lS_ ?_ GE186.out) | exact HB.out)))⟩; clear hw; clear HO_187001; clear BK180; clear BK181; clear BK186; clear HB; have HO_187001 := n0_; have BK180 := n1_; have BK181 := n2_; have BK186 := n3_; have HB := n4_; clear n0_ n1_ n2_ n3_ n4_; have hcz30_0 : w29.cell? ⟨gb186, 0, none⟩ = some (.string t182) := (bC BK186.out 0).trans rfl; have hcz30_1 : w29.cell? ⟨gb186, 1, none⟩ = some (.slice Ao9 t183.length co9) := (bC BK186.out 1).trans rfl; have hcz30_2 : w29.cell? ⟨gb186, 2, none⟩ = some (.int .i64 (Go.bits .and .i64 a0_2 15)) := (bC BK186.out 2).trans rfl; have hcz30_3 : w29.cell? ⟨gb186, 3, none⟩ = some (.slice none 0 0) := (bC BK186.out 3).trans rfl; have hcz30_4 : w29.cell? ⟨gb186, 4, none⟩ = some (.int .i64 0) := (bC BK186.out 4).trans rfl; have hfz30_0 := bF BK186.out 0; have hfz30_1 := bF BK186.out 1; have hfz30_2 := bF BK186.out 2; have hfz30_3 := bF BK186.out 3; have hfz30_4 := bF BK186.out 4; have p187 : 0 ≤ ((ji18) : Int) := of_decide_eq_true (by first | (with_reducible assumption) | assumption); have q187 : (ji18) < (t183.length : Int) := of_decide_eq_true (by first | (with_reducible assumption) | assumption); obtain ⟨ad187, e187, hx187_0, hx187_1, hx187_2⟩ := at_T53 (Kd.R_reads' HO_187001.out).2.2 (ji18) p187 q187; cases e187; replace p187 := eq_true p187; replace q187 := eq_true q187; have p25 : 0 ≤ ((ji18) : Int) := of_decide_eq_true (by first | (with_reducible assumption) | assumption); have q25 : ((ji18) : Int) < ((t183.length : Int) : Int) := of_decide_eq_true (by first | (with_reducible assumption) | assumption); obtain ⟨go25, co25, eo25, gb25, gl25, cl25, HG25⟩ := Kd.R_form HO_187001.out (by omega); (first | cases eo25 | (injection eo25 with ea_ en_ ec_; (first | subst ea_ | (injection ea_ with ea_; subst ea_)); subst ec_; clear en_)); have GB25 := aK_ gb25; have GG25 := aK_ HG25; clear gb25 gl25 HG25; (first | simp only [add_plain] at hx187_0 | skip); (first | simp only [add_plain] at hx187_1 | skip); (first | simp only [add_plain] at hx187_2 | skip); obtain ⟨ce25, hcl25, hM25, hcc25, hfr25⟩ := Kd.R_elem HO_187001.out z53 ((ji18) : Int) p25 q25; obtain rfl := k53_openM hM25; have hx25_0 : w29.cell? ⟨go25, ((ji18) : Int).toNat * 3, none⟩ = some (.int .i64 ((rd_T53 t183 (ji18)).f0)) := hcc25 0 _ rfl; have hx25_1 : w29.cell? ⟨go25, ((ji18) : Int).toNat * 3 + 1, none⟩ = some (.string ((rd_T53 t183 (ji18)).f1)) := hcc25 1 _ rfl; have hx25_2 : w29.cell? ⟨go25, ((ji18) : Int).toNat * 3 + 2, none⟩ = some (.int .i64 ((rd_T53 t183 (ji18)).f2)) := hcc25 2 _ rfl; have hf25_0 : w29.frozen? ⟨go25, ((ji18) : Int).toNat * 3, none⟩ = false := hfr25 0; have hf25_1 : w29.frozen? ⟨go25, ((ji18) : Int).toNat * 3 + 1, none⟩ = false := hfr25 1; have hf25_2 : w29.frozen? ⟨go25, ((ji18) : Int).toNat * 3 + 2, none⟩ = false := hfr25 2; clear hcl25 hcc25 hfr25 hM25; replace p25 := eq_true p25; replace q25 := eq_true q25; have HX31 := aK_ (show Kd.R k53 53 w29 w.heap.size (fun k_ => (w.heap.size ≤ k_)) (.slice (some ⟨go25, 0, none⟩) t183.length co9) t183 from (by (with_reducible repeat (first | apply Kd.R_alloc | apply Kd.R_drewN | apply Kd.R_drew)); exact HO_187001.out)); obtain ⟨ce31, hcl31, hM31, hcc31, hfr31⟩ := Kd.R_elem HX31.out z53 ((ji18) : Int) (of_decide_eq_true (by first | (with_reducible assumption) | assumption)) (by have h_ : ((ji18) : Int) < ((t183.length : Int) : Int) := of_decide_eq_true (by first | (with_reducible assumption) | assumption); first | exact h_ | (have e_ := (Kd.R_reads' HO_187001.out).1; omega) | simpa using h_); obtain rfl := k53_openM hM31; have HP31 := Kd.R_seg HX31.out ((ji18) : Int) (of_decide_eq_true (by first | (with_reducible assumption) | assumption)) (by have h_ : ((ji18) : Int) < ((t183.length : Int) : Int) := of_decide_eq_true (by first | (with_reducible assumption) | assumption); first | exact h_ | (have e_ := (Kd.R_reads' HO_187001.out).1; omega) | simpa using h_) (seg := [.int .i64 0, .string (⟨#[88]⟩ : ByteArray), .int .i64 0]) (j := 0) hcl31 hcc31 (show 3 ≤ 3 from by decide) (x' := (⟨0, (⟨#[88]⟩ : ByteArray), 0⟩ : S53)) (k53_mkM _ _ _ (⟨0, (⟨#[88]⟩ : ByteArray), 0⟩ : S53) ) (fun _ hk => hk); have hx31_0 := hcc31 0 _ rfl; (try simp only [show (k53).sz = 3 from rfl, Nat.mul_one, Nat.add_zero] at hx31_0); have hf31_0 := hfr31 0; (try simp only [show (k53).sz = 3 from rfl, Nat.mul_one, Nat.add_zero] at hf31_0); have hx31_1 := hcc31 1 _ rfl; (try simp only [show (k53).sz = 3 from rfl, Nat.mul_one, Nat.add_zero] at hx31_1); have hf31_1 := hfr31 1; (try simp only [show (k53).sz = 3 from rfl, Nat.mul_one, Nat.add_zero] at hf31_1); have hx31_2 := hcc31 2 _ rfl; (try simp only [show (k53).sz = 3 from rfl, Nat.mul_one, Nat.add_zero] at hx31_2); have hf31_2 := hfr31 2; (try simp only [show (k53).sz = 3 from rfl, Nat.mul_one, Nat.add_zero] at hf31_2); clear hcl31 hcc31 hfr31 hM31) | ((with_reducible refine gate_store (t := 53) (p := 41) rfl ?_); refine store_event (t := 53) (p := 41) (v := ?vo_w32) (w1 := (((w29.setCell ⟨go25, ((ji18) : Int).toNat * 3, none⟩ (.int .i64 0)).setCell ⟨go25, ((ji18) : Int).toNat * 3 + 1, none⟩ (.string (⟨#[88]⟩ : ByteArray))).setCell ⟨go25, ((ji18) : Int).toNat * 3 + 2, none⟩ (.int .i64 0))) ?hg ?ho ?hn ?hr ?_; (case ho => rfl); (case hg => rfl); (case hn => rfl); (case hr => first | (go_simp; done) | (go_simp; rfl)); intro w32 hw; have hg : w29.grownBy w32 (some go25) := (by rw [hw]; exact HP31.2); have hp_ : Kd.R k53 53 w32 w.heap.size (fun k_ => (w.heap.size ≤ k_)) (.slice (some ⟨go25, 0, none⟩) t183.length co9) y188 := (by rw [hw, Ny188.out]; exact HP31.1); clear HP31; have n0_ := aK_ (hp_); have n1_ := aK_ (bG_ (g := gb180) (o := .cells #[.int .i64 a0_0, .slice A0_1 l0_1.length c0_1, .int .i64 a0_2, .slice A0_3 l0_3.length c0_3] 36 (0, 0)) (by (with_reducible repeat (first | refine bDN ?_ _ | refine bD ?_ | refine bA ?_ _)); exact BK180.out) hg (Kd.R_ne HO_187001.out BK180.out (by decide))); have n2_ := aK_ (bG_ (g := gb181) (o := .cells #[.string (⟨#[]⟩ : ByteArray), .slice none 0 0, .int .i64 0, .slice none 0 0, .int .i64 0] 43 (0, 0)) (by (with_reducible repeat (first | refine bDN ?_ _ | refine bD ?_ | refine bA ?_ _)); exact BK181.out) hg (Kd.R_ne HO_187001.out BK181.out (by decide))); have n3_ := aK_ (bG_ (g := gb186) (o := .cells #[.string t182, .slice (some ⟨go25, 0, none⟩) t183.length co9, .int .i64 (Go.bits .and .i64 a0_2 15), .slice none 0 0, .int .i64 0] 43 (0, 0)) (by (with_reducible repeat (first | refine bDN ?_ _ | refine bD ?_ | refine bA ?_ _)); exact BK186.out) hg (Kd.R_ne HO_187001.out BK186.out (by decide))); have n4_ := aK_ ((by rw [hw]; exact lS_ (lS_ (lS_ (HB.out) GB25.out) GB25.out) GB25.out : Below w.heap.size w w32)); clear HO_187001; clear BK180; clear BK181; clear BK186; clear HB; have HO_187001 := n0_; have BK180 := n1_; have BK181 := n2_; have BK186 := n3_; have HB := n4_; clear n0_ n1_ n2_ n3_ n4_; clear hg hw hp_))
        go_meet
        case rel => exact ⟨_, (y188), ((Go.bits .and .i64 a0_2 15)), (.slice (some ⟨go25, 0, none⟩) t183.length co9), H', ⟨by have := HJ2.out; first | omega | exact Nat.le_refl _⟩, ⟨by (with_reducible repeat (first | apply Kd.R_alloc | apply Kd.R_drewN | apply Kd.R_drew)); exact HO_187001.out⟩, ⟨by (with_reducible repeat (first | refine bDN ?_ _ | refine bD ?_ | refine bA ?_ _)); exact BK180.out⟩, ⟨by (with_reducible repeat (first | refine bDN ?_ _ | refine bD ?_ | refine bA ?_ _)); exact BK181.out⟩, ⟨by (with_reducible repeat (first | refine bDN ?_ _ | refine bD ?_ | refine bA ?_ _)); exact BK186.out⟩, ⟨by repeat (first | (with_reducible first | exact HB.out | apply lA_ | apply pD | apply lD_ | refine lS_ ?_ GE180.out | refine lS_ ?_ GE181.out | refine lS_ ?_ GE186.out) | exact HB.out)⟩⟩
      ·rw [if_neg c20] at H
       exact absurd H (by simp)
     ·rw [if_neg c19] at H
      exact absurd H (by simp)
    ·replace c17 := Bool.eq_false_iff.mpr c17
     subst c17
     have H1 : (ergolaw13_R_Rule.j1 kj2 a0_0 l0_1 a0_2 l0_3 t182 t183 0 0) = some (r1, r2, r3, r4, r5) := by rw [if_neg (show ¬ (false = true) by decide)] at H; exact H
     clear H
     have H := H1
     clear H1
     have H' := aK_ H
     clear H
     go_wp2
     go_meet
     case rel => exact ⟨_, (t183), (0), (.slice Ao9 t183.length co9), H', ⟨by have := HJ2.out; first | omega | exact Nat.le_refl _⟩, ⟨by (with_reducible repeat (first | apply Kd.R_alloc | apply Kd.R_drewN | apply Kd.R_drew)); exact HO_187001.out⟩, ⟨by (with_reducible repeat (first | refine bDN ?_ _ | refine bD ?_ | refine bA ?_ _)); exact BK180.out⟩, ⟨by (with_reducible repeat (first | refine bDN ?_ _ | refine bD ?_ | refine bA ?_ _)); exact BK181.out⟩, ⟨by (with_reducible repeat (first | refine bDN ?_ _ | refine bD ?_ | refine bA ?_ _)); exact BK186.out⟩, ⟨by repeat (first | (with_reducible first | exact HB.out | apply lA_ | apply pD | apply lD_ | refine lS_ ?_ GE180.out | refine lS_ ?_ GE181.out | refine lS_ ?_ GE186.out) | exact HB.out)⟩⟩
   case rest =>
    clear HC16
    try clear c1
    try clear p1
    try clear q1
    try clear hx1
    try clear c2
    try clear p2
    try clear q2
    try clear hx2
    try clear hf2
    try clear c3
    try clear hx3
    try clear hf3
    try clear c6
    try clear p6
    try clear c11
    try clear c12
    try clear c15
    try clear c15b0
    try clear c17
    try clear p18
    try clear q18
    try clear hx18
    try clear c19
    try clear c19b0
    try clear c20
    try clear c20b0
    try clear c21
    try clear c21b0
    try clear c21b1
    try clear c22
    try clear c23
    try clear c25
    try clear p25
    try clear q25
    try clear hx25
    try clear hf25
    try clear c26
    try clear c27
    try clear c31
    try clear hx31
    try clear hf31
    try clear hcz13_0
    try clear hcz13_1
    try clear hcz13_2
    try clear hcz13_3
    try clear hcz13_4
    try clear hcz14_0
    try clear hcz14_1
    try clear hcz14_2
    try clear hcz14_3
    try clear hcz24_0
    try clear hcz24_1
    try clear hcz24_2
    try clear hcz24_3
    try clear hcz24_4
    try clear hcz28_0
    try clear hcz28_1
    try clear hcz28_2
    try clear hcz28_3
    try clear hcz28_4
    try clear hcz30_0
    try clear hcz30_1
    try clear hcz30_2
    try clear hcz30_3
    try clear hcz30_4
    try clear hcz7_0
    try clear hcz7_1
    try clear hcz7_2
    try clear hcz7_3
    try clear hfz13_0
    try clear hfz13_1
    try clear hfz13_2
    try clear hfz13_3
    try clear hfz13_4
    try clear hfz14_0
    try clear hfz14_1
    try clear hfz14_2
    try clear hfz14_3
    try clear hfz24_0
    try clear hfz24_1
    try clear hfz24_2
    try clear hfz24_3
    try clear hfz24_4
    try clear hfz28_0
    try clear hfz28_1
    try clear hfz28_2
    try clear hfz28_3
    try clear hfz28_4
    try clear hfz30_0
    try clear hfz30_1
    try clear hfz30_2
    try clear hfz30_3
    try clear hfz30_4
    try clear hfz7_0
    try clear hfz7_1
    try clear hfz7_2
    try clear hfz7_3
    try clear hx187_0
    try clear hx187_1
    try clear hx187_2
    try clear hx25_0
    try clear hx25_1
    try clear hx25_2
    try clear hx31_0
    try clear hx31_1
    try clear hx31_2
    try clear p187
    try clear p2
    try clear p25
    try clear q187
    try clear q25
    obtain ⟨kq, x187001_15, x187002_15, u187001, HA, HJ15, HO_187001, BK180, BK181, BK186, HB⟩ := hcut
    cases kq with
    | zero => exact absurd HA.out (by simp [ergolaw13_R_Rule.j1])
    | succ kj15 =>
     have H := HA.out
     clear HA
     simp only [ergolaw13_R_Rule.j1] at H
     have H' := aK_ H
     clear H
     have hnb33 := NB180_181.out
     have hnc33 := NB181_180.out
     have hnb34 := NB180_186.out
     have hnc34 := NB186_180.out
     have hcz35_0 : wc.cell? ⟨gb180, 0, none⟩ = some (.int .i64 a0_0) := (bC BK180.out 0).trans rfl
     have hcz35_1 : wc.cell? ⟨gb180, 1, none⟩ = some (.slice A0_1 l0_1.length c0_1) := (bC BK180.out 1).trans rfl
     have hcz35_2 : wc.cell? ⟨gb180, 2, none⟩ = some (.int .i64 a0_2) := (bC BK180.out 2).trans rfl
     have hcz35_3 : wc.cell? ⟨gb180, 3, none⟩ = some (.slice A0_3 l0_3.length c0_3) := (bC BK180.out 3).trans rfl
     have hfz35_0 := bF BK180.out 0
     have hfz35_1 := bF BK180.out 1
     have hfz35_2 := bF BK180.out 2
     have hfz35_3 := bF BK180.out 3
     go_wp2
     go_loopg [45] kj15 (fun kq v45 w' => ∃ (x45_3 : Int) (x187003_3 : List (S59)) (u187003 : Value), v45 = .int .i64 x45_3 ∧ Aside0 (ergolaw13_R_Rule.l0 kq l0_3 (l0_3.length : Int) x45_3 t182 x187001_15 x187002_15 x187003_3 0 = some (r1, r2, r3, r4, r5)) ∧ Aside0 (kq ≤ kj15) ∧ Aside0 (Kd.R k53 53 w' w.heap.size (fun k_ => (w.heap.size ≤ k_)) u187001 x187001_15) ∧ Aside0 (Kd.N k59 59 w' w.heap.size (fun k_ => (w.heap.size ≤ k_) ∧ some k_ ≠ (u187001 : Value).ownBlock ∧ k_ ≠ gb180 ∧ k_ ≠ gb181 ∧ k_ ≠ gb186) u187003 x187003_3) ∧ Aside0 (w'.heap[gb180]? = some (.cells #[.int .i64 a0_0, (.slice A0_1 l0_1.length c0_1), .int .i64 a0_2, (.slice A0_3 l0_3.length c0_3)] 36 (0, 0))) ∧ Aside0 (w'.heap[gb181]? = some (.cells #[.string (⟨#[]⟩ : ByteArray), (.slice none 0 0), .int .i64 0, (.slice none 0 0), .int .i64 0] 43 (0, 0))) ∧ Aside0 (w'.heap[gb186]? = some (.cells #[.string t182, u187001, .int .i64 x187002_15, u187003, .int .i64 0] 43 (0, 0))) ∧ Aside0 (Below w.heap.size w w'))
     case atStart => exact ⟨(0), (([] : List (S59))), (.slice none 0 0), (by first | rfl | (simp; done) | (simp [*]; done)), H', ⟨Nat.le_refl _⟩, ⟨by (with_reducible repeat (first | apply Kd.R_alloc | apply Kd.R_drewN | apply Kd.R_drew)); exact HO_187001.out⟩, ⟨by first | exact Kd.R_nil _ _ _ _ _ | exact Kd.N_nil _ _ _ _ _ | exact Kd.V_nil _ _ _ _ _ | exact Kd.Q_nil _ _ _ _ _ | exact Kd.S_nil _ _ _ _ _⟩, ⟨by (with_reducible repeat (first | refine bDN ?_ _ | refine bD ?_ | refine bA ?_ _)); exact BK180.out⟩, ⟨by (with_reducible repeat (first | refine bDN ?_ _ | refine bD ?_ | refine bA ?_ _)); exact BK181.out⟩, ⟨by (with_reducible repeat (first | refine bDN ?_ _ | refine bD ?_ | refine bA ?_ _)); exact BK186.out⟩, ⟨by repeat (first | (with_reducible first | exact HB.out | apply lA_ | apply pD | apply lD_ | refine lS_ ?_ GE180.out | refine lS_ ?_ GE181.out | refine lS_ ?_ GE186.out) | exact HB.out)⟩⟩
     case round =>
      clear H'
      try clear c1
      try clear p1
      try clear q1
      try clear hx1
      try clear c2
      try clear p2
      try clear q2
      try clear hx2
      try clear hf2
      try clear c3
      try clear hx3
      try clear hf3
      try clear c6
      try clear p6
      try clear c11
      try clear c12
      try clear c15
      try clear c15b0
      try clear c17
      try clear p18
      try clear q18
      try clear hx18
      try clear c19
      try clear c19b0
      try clear c20
      try clear c20b0
      try clear c21
      try clear c21b0
      try clear c21b1
      try clear c22
      try clear c23
      try clear c25
      try clear p25
      try clear q25
      try clear hx25
      try clear hf25
      try clear c26
      try clear c27
      try clear c31
      try clear hx31
      try clear hf31
      try clear c33
      try clear c34
      try clear hcz13_0
      try clear hcz13_1
      try clear hcz13_2
      try clear hcz13_3
      try clear hcz13_4
      try clear hcz14_0
      try clear hcz14_1
      try clear hcz14_2
      try clear hcz14_3
      try clear hcz24_0
      try clear hcz24_1
      try clear hcz24_2
      try clear hcz24_3
      try clear hcz24_4
      try clear hcz28_0
      try clear hcz28_1
      try clear hcz28_2
      try clear hcz28_3
      try clear hcz28_4
      try clear hcz30_0
      try clear hcz30_1
      try clear hcz30_2
      try clear hcz30_3
      try clear hcz30_4
      try clear hcz35_0
      try clear hcz35_1
      try clear hcz35_2
      try clear hcz35_3
      try clear hcz7_0
      try clear hcz7_1
      try clear hcz7_2
      try clear hcz7_3
      try clear hfz13_0
      try clear hfz13_1
      try clear hfz13_2
      try clear hfz13_3
      try clear hfz13_4
      try clear hfz14_0
      try clear hfz14_1
      try clear hfz14_2
      try clear hfz14_3
      try clear hfz24_0
      try clear hfz24_1
      try clear hfz24_2
      try clear hfz24_3
      try clear hfz24_4
      try clear hfz28_0
      try clear hfz28_1
      try clear hfz28_2
      try clear hfz28_3
      try clear hfz28_4
      try clear hfz30_0
      try clear hfz30_1
      try clear hfz30_2
      try clear hfz30_3
      try clear hfz30_4
      try clear hfz35_0
      try clear hfz35_1
      try clear hfz35_2
      try clear hfz35_3
      try clear hfz7_0
      try clear hfz7_1
      try clear hfz7_2
      try clear hfz7_3
      try clear hx187_0
      try clear hx187_1
      try clear hx187_2
      try clear hx25_0
      try clear hx25_1
      try clear hx25_2
      try clear hx31_0
      try clear hx31_1
      try clear hx31_2
      try clear p1
      try clear p18
      try clear p187
      try clear p2
      try clear p25
      try clear p6
      try clear q1
      try clear q18
      try clear q187
      try clear q2
      try clear q25
      obtain ⟨x45_3, x187003_3, u187003, rfl, HA, HK3, HO_187001, HO_187003, BK180, BK181, BK186, HB⟩ := hrel
      cases gk with
      | zero => exact absurd HA.out (by simp [ergolaw13_R_Rule.l0])
      | succ k3 =>
       have H := HA.out
       clear HA
       simp only [ergolaw13_R_Rule.l0] at H
       by_cases c36 : x45_3 < (l0_3.length : Int)
       ·rw [if_pos c36] at H
        have c36b0 : decide (x45_3 < (l0_3.length : Int)) = true := decide_eq_true c36
        clear c36
        by_cases c37 : 0 ≤ x45_3
        ·rw [if_pos c37] at H
         have c37b0 : decide (0 ≤ x45_3) = true := decide_eq_true c37
         clear c37
         by_cases c38 : x45_3 < (l0_3.length : Int)
         ·rw [if_pos c38] at H
          have c38b0 : decide (x45_3 < (l0_3.length : Int)) = true := decide_eq_true c38
          clear c38
          replace H := Option.bind_eq_some_iff.mp H
          obtain ⟨⟨t191, t192, t193, t196, t197, t198, t199, t200, t201, t202, t203, t204, t205, t206, t207, t208⟩, A390, H⟩ := H
          replace H : (if x187003_3.length < 703687441776 then (ergolaw13_R_Rule.l0 k3 l0_3 (l0_3.length : Int) (wrap64 (x45_3 + 1)) t182 x187001_15 x187002_15 (x187003_3 ++ [(⟨t191, (⟨t192, t193⟩ : S39), t196, (⟨t197, t198, t199⟩ : S53), (⟨t200, t201, t202⟩ : S53), t203, (⟨(⟨t204, t205, t206⟩ : S53), t207, t208⟩ : S57)⟩ : S59)]) 0) else (none)) = some (r1, r2, r3, r4, r5) := H
          have A39 := aK_ A390
          clear A390
          by_cases c40 : x187003_3.length < 703687441776
          ·rw [if_pos c40] at H
           have LMc40 := aK_ c40
           clear c40
           obtain ⟨y211, hy211⟩ : ∃ y_ : List (S59), y_ = (x187003_3 ++ [(⟨t191, (⟨t192, t193⟩ : S39), t196, (⟨t197, t198, t199⟩ : S53), (⟨t200, t201, t202⟩ : S53), t203, (⟨(⟨t204, t205, t206⟩ : S53), t207, t208⟩ : S57)⟩ : S59)]) := ⟨_, rfl⟩
           replace H : (ergolaw13_R_Rule.l0 k3 l0_3 (l0_3.length : Int) (wrap64 (x45_3 + 1)) t182 x187001_15 x187002_15 y211 0) = some (r1, r2, r3, r4, r5) := by first | (rw [hy211]; with_reducible exact H) | (have H2_ := (Option.bind_some _ _).symm.trans H; rw [hy211]; with_reducible exact H2_) | (have H2_ := (Option.bind_some _ _).symm.trans H; with_reducible exact H2_) | with_reducible exact H | (rw [hy211]; exact H) | exact H
           have Ny211 := aK_ hy211
           clear hy211
           have H' := aK_ H
           clear H
           have p189 : 0 ≤ (x45_3 : Int) := of_decide_eq_true (by first | (with_reducible assumption) | assumption)
           have q189 : x45_3 < (l0_3.length : Int) := of_decide_eq_true (by first | (with_reducible assumption) | assumption)
           obtain ⟨ad189, A189_3, c189_3, A189_14, c189_14, e189, hx189_0, hx189_1, hx189_2, hx189_3, hx189_4, hx189_5, hx189_6, hx189_7, hx189_8, hx189_9, hx189_10, hx189_11, hx189_12, hx189_13, hx189_14, hl189_3, hi189_3, hl189_14, hi189_14⟩ := at_T86 HR0_3.out x45_3 p189 q189
           cases e189
           replace hx189_0 := (HB.out.cell (wb_ w _ hx189_0)).trans hx189_0
           replace hx189_1 := (HB.out.cell (wb_ w _ hx189_1)).trans hx189_1
           replace hx189_2 := (HB.out.cell (wb_ w _ hx189_2)).trans hx189_2
           replace hx189_3 := (HB.out.cell (wb_ w _ hx189_3)).trans hx189_3
           replace hx189_4 := (HB.out.cell (wb_ w _ hx189_4)).trans hx189_4
           replace hx189_5 := (HB.out.cell (wb_ w _ hx189_5)).trans hx189_5
           replace hx189_6 := (HB.out.cell (wb_ w _ hx189_6)).trans hx189_6
           replace hx189_7 := (HB.out.cell (wb_ w _ hx189_7)).trans hx189_7
           replace hx189_8 := (HB.out.cell (wb_ w _ hx189_8)).trans hx189_8
           replace hx189_9 := (HB.out.cell (wb_ w _ hx189_9)).trans hx189_9
           replace hx189_10 := (HB.out.cell (wb_ w _ hx189_10)).trans hx189_10
           replace hx189_11 := (HB.out.cell (wb_ w _ hx189_11)).trans hx189_11
           replace hx189_12 := (HB.out.cell (wb_ w _ hx189_12)).trans hx189_12
           replace hx189_13 := (HB.out.cell (wb_ w _ hx189_13)).trans hx189_13
           replace hx189_14 := (HB.out.cell (wb_ w _ hx189_14)).trans hx189_14
           have HR189_3 := aK_ hi189_3
           have HC189_3 := aK_ hl189_3
           clear hi189_3 hl189_3
           have HR189_14 := aK_ hi189_14
           have HC189_14 := aK_ hl189_14
           clear hi189_14 hl189_14
           replace p189 := eq_true p189
           replace q189 := eq_true q189
           try go_wp2_with (first | ((with_reducible refine gate_dst (N := 7) rfl ?_); refine box_event ?hg (N := 7) ?hd (cs := #[.int .i64 0, .int .i64 0, .int .i64 0, .slice none 0 0, .int .i64 0, .int .i64 0, .int .i64 0, .int .i64 0, .int .i64 0, .int .i64 0, .int .i64 0, .int .i64 0, .int .i64 0, .int .i64 0, .slice none 0 0]) (t := 86) ?hr ?_; (case hd => rfl); (case hg => rfl); (case hr => first | (go_simp; done) | (go_simp; rfl)); intro gb190 hg w41 hbox hb; have n0_ := aK_ (Kd.R_below (by (with_reducible repeat (first | apply Kd.R_alloc | apply Kd.R_drewN | apply Kd.R_drew)); exact HO_187001.out) hb); have n1_ := aK_ (Kd.N_below (Kd.N_elderB (by (with_reducible repeat (first | apply Kd.N_alloc | apply Kd.N_drewN | apply Kd.N_drew)); exact HO_187003.out) gb190 (Nat.le_of_eq hg.symm)) hb); have n2_ := aK_ (bB (by (with_reducible repeat (first | refine bDN ?_ _ | refine bD ?_ | refine bA ?_ _)); exact BK180.out) hb); have n3_ := aK_ (bB (by (with_reducible repeat (first | refine bDN ?_ _ | refine bD ?_ | refine bA ?_ _)); exact BK181.out) hb); have n4_ := aK_ (bB (by (with_reducible repeat (first | refine bDN ?_ _ | refine bD ?_ | refine bA ?_ _)); exact BK186.out) hb); have n5_ := aK_ (lT_ (by repeat (first | (with_reducible first | exact HB.out | apply lA_ | apply pD | apply lD_ | refine lS_ ?_ GE180.out | refine lS_ ?_ GE181.out | refine lS_ ?_ GE186.out) | exact HB.out)) hb); have n6_ := aK_ (hbox); have n7_ := aK_ ((by rw [hg]; exact (lZ_ (by repeat (first | (with_reducible first | exact HB.out | apply lA_ | apply pD | apply lD_ | refine lS_ ?_ GE180.out | refine lS_ ?_ GE181.out | refine lS_ ?_ GE186.out) | exact HB.out))) : w.heap.size ≤ gb190)); have n8_ := aK_ ((by rw [hg]; exact (lZ_ (by repeat (first | (with_reducible first | exact HB.out | apply lA_ | apply pD | apply lD_ | refine lS_ ?_ GE180.out | refine lS_ ?_ GE181.out | refine lS_ ?_ GE186.out) | exact HB.out))) : w.heap.size ≤ gb190)); have n9_ := aK_ ((by rw [hg]; exact Nat.ne_of_lt (blk_lt (g := gb180) (o := .cells #[.int .i64 a0_0, .slice A0_1 l0_1.length c0_1, .int .i64 a0_2, .slice (some ad189) l0_3.length c0_3] 36 (0, 0)) (by (with_reducible repeat (first | refine bDN ?_ _ | refine bD ?_ | refine bA ?_ _)); exact BK180.out)) : gb180 ≠ gb190)); have n10_ := aK_ ((by rw [hg]; exact Nat.ne_of_gt (blk_lt (g := gb180) (o := .cells #[.int .i64 a0_0, .slice A0_1 l0_1.length c0_1, .int .i64 a0_2, .slice (some ad189) l0_3.length c0_3] 36 (0, 0)) (by (with_reducible repeat (first | refine bDN ?_ _ | refine bD ?_ | refine bA ?_ _)); exact BK180.out)) : gb190 ≠ gb180)); have n11_ := aK_ ((by rw [hg]; exact Nat.ne_of_lt (blk_lt (g := gb181) (o := .cells #[.string (⟨#[]⟩ : ByteArray), .slice none 0 0, .int .i64 0, .slice none 0 0, .int .i64 0] 43 (0, 0)) (by (with_reducible repeat (first | refine bDN ?_ _ | refine bD ?_ | refine bA ?_ _)); exact BK181.out)) : gb181 ≠ gb190)); have n12_ := aK_ ((by rw [hg]; exact Nat.ne_of_gt (blk_lt (g := gb181) (o := .cells #[.string (⟨#[]⟩ : ByteArray), .slice none 0 0, .int .i64 0, .slice none 0 0, .int .i64 0] 43 (0, 0)) (by (with_reducible repeat (first | refine bDN ?_ _ | refine bD ?_ | refine bA ?_ _)); exact BK181.out)) : gb190 ≠ gb181)); have n13_ := aK_ ((by rw [hg]; exact Nat.ne_of_lt (blk_lt (g := gb186) (o := .cells #[.string t182, u187001, .int .i64 x187002_15, u187003, .int .i64 0] 43 (0, 0)) (by (with_reducible repeat (first | refine bDN ?_ _ | refine bD ?_ | refine bA ?_ _)); exact BK186.out)) : gb186 ≠ gb190)); have n14_ := aK_ ((by rw [hg]; exact Nat.ne_of_gt (blk_lt (g := gb186) (o := .cells #[.string t182, u187001, .int .i64 x187002_15, u187003, .int .i64 0] 43 (0, 0)) (by (with_reducible repeat (first | refine bDN ?_ _ | refine bD ?_ | refine bA ?_ _)); exact BK186.out)) : gb190 ≠ gb186)); clear HO_187001; clear HO_187003; clear BK180; clear BK181; clear BK186; clear HB; have HO_187001 := n0_; have HO_187003 := n1_; have BK180 := n2_; have BK181 := n3_; have BK186 := n4_; have HB := n5_; have BK190 := n6_; have GW190 := n7_; have GE190 := n8_; have NB180_190 := n9_; have NB190_180 := n10_; have NB181_190 := n11_; have NB190_181 := n12_; have NB186_190 := n13_; have NB190_186 := n14_; clear n0_ n1_ n2_ n3_ n4_ n5_ n6_ n7_ n8_ n9_ n10_ n11_ n12_ n13_ n14_; clear hb hbox hg; have hnb42 := NB190_180.out; have hnc42 := NB180_190.out; have hnb43 := NB190_181.out; have hnc43 := NB181_190.out; have hnb44 := NB190_186.out; have hnc44 := NB186_190.out; have hcz45_0 : w41.cell? ⟨gb190, 0, none⟩ = some (.int .i64 0) := (bC BK190.out 0).trans rfl; have hcz45_1 : w41.cell? ⟨gb190, 1, none⟩ = some (.int .i64 0) := (bC BK190.out 1).trans rfl; have hcz45_2 : w41.cell? ⟨gb190, 2, none⟩ = some (.int .i64 0) := (bC BK190.out 2).trans rfl; have hcz45_3 : w41.cell? ⟨gb190, 3, none⟩ = some (.slice none 0 0) := (bC BK190.out 3).trans rfl; have hcz45_4 : w41.cell? ⟨gb190, 4, none⟩ = some (.int .i64 0) := (bC BK190.out 4).trans rfl; have hcz45_5 : w41.cell? ⟨gb190, 5, none⟩ = some (.int .i64 0) := (bC BK190.out 5).trans rfl; have hcz45_6 : w41.cell? ⟨gb190, 6, none⟩ = some (.int .i64 0) := (bC BK190.out 6).trans rfl; have hcz45_7 : w41.cell? ⟨gb190, 7, none⟩ = some (.int .i64 0) := (bC BK190.out 7).trans rfl; have hcz45_8 : w41.cell? ⟨gb190, 8, none⟩ = some (.int .i64 0) := (bC BK190.out 8).trans rfl; have hcz45_9 : w41.cell? ⟨gb190, 9, none⟩ = some (.int .i64 0) := (bC BK190.out 9).trans rfl; have hcz45_10 : w41.cell? ⟨gb190, 10, none⟩ = some (.int .i64 0) := (bC BK190.out 10).trans rfl; have hcz45_11 : w41.cell? ⟨gb190, 11, none⟩ = some (.int .i64 0) := (bC BK190.out 11).trans rfl; have hcz45_12 : w41.cell? ⟨gb190, 12, none⟩ = some (.int .i64 0) := (bC BK190.out 12).trans rfl; have hcz45_13 : w41.cell? ⟨gb190, 13, none⟩ = some (.int .i64 0) := (bC BK190.out 13).trans rfl; have hcz45_14 : w41.cell? ⟨gb190, 14, none⟩ = some (.slice none 0 0) := (bC BK190.out 14).trans rfl; have hfz45_0 := bF BK190.out 0; have hfz45_1 := bF BK190.out 1; have hfz45_2 := bF BK190.out 2; have hfz45_3 := bF BK190.out 3; have hfz45_4 := bF BK190.out 4; have hfz45_5 := bF BK190.out 5; have hfz45_6 := bF BK190.out 6; have hfz45_7 := bF BK190.out 7; have hfz45_8 := bF BK190.out 8; have hfz45_9 := bF BK190.out 9; have hfz45_10 := bF BK190.out 10; have hfz45_11 := bF BK190.out 11; have hfz45_12 := bF BK190.out 12; have hfz45_13 := bF BK190.out 13; have hfz45_14 := bF BK190.out 14))
           have n0_ : Aside0 (Kd.R k53 53 (((((((((((((((w41.setCell ⟨gb190, 0, none⟩ (.int .i64 ((rd_T86 l0_3 x45_3).f0))).setCell ⟨gb190, 1, none⟩ (.int .i64 ((rd_T86 l0_3 x45_3).f1))).setCell ⟨gb190, 2, none⟩ (.int .i64 ((rd_T86 l0_3 x45_3).f2.f0))).setCell ⟨gb190, 3, none⟩ (.slice A189_3 ((rd_T86 l0_3 x45_3).f2.f1).length c189_3)).setCell ⟨gb190, 4, none⟩ (.int .i64 ((rd_T86 l0_3 x45_3).f3.f0))).setCell ⟨gb190, 5, none⟩ (.int .i64 ((rd_T86 l0_3 x45_3).f3.f1))).setCell ⟨gb190, 6, none⟩ (.int .i64 ((rd_T86 l0_3 x45_3).f3.f2))).setCell ⟨gb190, 7, none⟩ (.int .i64 ((rd_T86 l0_3 x45_3).f4.f0))).setCell ⟨gb190, 8, none⟩ (.int .i64 ((rd_T86 l0_3 x45_3).f4.f1))).setCell ⟨gb190, 9, none⟩ (.int .i64 ((rd_T86 l0_3 x45_3).f4.f2))).setCell ⟨gb190, 10, none⟩ (.int .i64 ((rd_T86 l0_3 x45_3).f5.f0.f0))).setCell ⟨gb190, 11, none⟩ (.int .i64 ((rd_T86 l0_3 x45_3).f5.f0.f1))).setCell ⟨gb190, 12, none⟩ (.int .i64 ((rd_T86 l0_3 x45_3).f5.f0.f2))).setCell ⟨gb190, 13, none⟩ (.int .i64 ((rd_T86 l0_3 x45_3).f5.f1))).setCell ⟨gb190, 14, none⟩ (.slice A189_14 ((rd_T86 l0_3 x45_3).f5.f2).length c189_14)) w.heap.size (fun k_ => (w.heap.size ≤ k_)) u187001 x187001_15) := ⟨by (with_reducible repeat (first | apply Kd.R_alloc | apply Kd.R_drewN | apply Kd.R_drew)); exact Kd.R_mono (Kd.R_far (p := ⟨gb190, 14, none⟩) (Kd.R_far (p := ⟨gb190, 13, none⟩) (Kd.R_far (p := ⟨gb190, 12, none⟩) (Kd.R_far (p := ⟨gb190, 11, none⟩) (Kd.R_far (p := ⟨gb190, 10, none⟩) (Kd.R_far (p := ⟨gb190, 9, none⟩) (Kd.R_far (p := ⟨gb190, 8, none⟩) (Kd.R_far (p := ⟨gb190, 7, none⟩) (Kd.R_far (p := ⟨gb190, 6, none⟩) (Kd.R_far (p := ⟨gb190, 5, none⟩) (Kd.R_far (p := ⟨gb190, 4, none⟩) (Kd.R_far (p := ⟨gb190, 3, none⟩) (Kd.R_far (p := ⟨gb190, 2, none⟩) (Kd.R_far (p := ⟨gb190, 1, none⟩) (Kd.R_far (p := ⟨gb190, 0, none⟩) (Kd.R_types HO_187001.out BK190.out (by decide)) (fun _ hk => hk.2) (.int .i64 ((rd_T86 l0_3 x45_3).f0))) (fun _ hk => hk.2) (.int .i64 ((rd_T86 l0_3 x45_3).f1))) (fun _ hk => hk.2) (.int .i64 ((rd_T86 l0_3 x45_3).f2.f0))) (fun _ hk => hk.2) (.slice A189_3 ((rd_T86 l0_3 x45_3).f2.f1).length c189_3)) (fun _ hk => hk.2) (.int .i64 ((rd_T86 l0_3 x45_3).f3.f0))) (fun _ hk => hk.2) (.int .i64 ((rd_T86 l0_3 x45_3).f3.f1))) (fun _ hk => hk.2) (.int .i64 ((rd_T86 l0_3 x45_3).f3.f2))) (fun _ hk => hk.2) (.int .i64 ((rd_T86 l0_3 x45_3).f4.f0))) (fun _ hk => hk.2) (.int .i64 ((rd_T86 l0_3 x45_3).f4.f1))) (fun _ hk => hk.2) (.int .i64 ((rd_T86 l0_3 x45_3).f4.f2))) (fun _ hk => hk.2) (.int .i64 ((rd_T86 l0_3 x45_3).f5.f0.f0))) (fun _ hk => hk.2) (.int .i64 ((rd_T86 l0_3 x45_3).f5.f0.f1))) (fun _ hk => hk.2) (.int .i64 ((rd_T86 l0_3 x45_3).f5.f0.f2))) (fun _ hk => hk.2) (.int .i64 ((rd_T86 l0_3 x45_3).f5.f1))) (fun _ hk => hk.2) (.slice A189_14 ((rd_T86 l0_3 x45_3).f5.f2).length c189_14)) (fun _ hk => hk.1)⟩
           have n1_ : Aside0 (Kd.N k59 59 (((((((((((((((w41.setCell ⟨gb190, 0, none⟩ (.int .i64 ((rd_T86 l0_3 x45_3).f0))).setCell ⟨gb190, 1, none⟩ (.int .i64 ((rd_T86 l0_3 x45_3).f1))).setCell ⟨gb190, 2, none⟩ (.int .i64 ((rd_T86 l0_3 x45_3).f2.f0))).setCell ⟨gb190, 3, none⟩ (.slice A189_3 ((rd_T86 l0_3 x45_3).f2.f1).length c189_3)).setCell ⟨gb190, 4, none⟩ (.int .i64 ((rd_T86 l0_3 x45_3).f3.f0))).setCell ⟨gb190, 5, none⟩ (.int .i64 ((rd_T86 l0_3 x45_3).f3.f1))).setCell ⟨gb190, 6, none⟩ (.int .i64 ((rd_T86 l0_3 x45_3).f3.f2))).setCell ⟨gb190, 7, none⟩ (.int .i64 ((rd_T86 l0_3 x45_3).f4.f0))).setCell ⟨gb190, 8, none⟩ (.int .i64 ((rd_T86 l0_3 x45_3).f4.f1))).setCell ⟨gb190, 9, none⟩ (.int .i64 ((rd_T86 l0_3 x45_3).f4.f2))).setCell ⟨gb190, 10, none⟩ (.int .i64 ((rd_T86 l0_3 x45_3).f5.f0.f0))).setCell ⟨gb190, 11, none⟩ (.int .i64 ((rd_T86 l0_3 x45_3).f5.f0.f1))).setCell ⟨gb190, 12, none⟩ (.int .i64 ((rd_T86 l0_3 x45_3).f5.f0.f2))).setCell ⟨gb190, 13, none⟩ (.int .i64 ((rd_T86 l0_3 x45_3).f5.f1))).setCell ⟨gb190, 14, none⟩ (.slice A189_14 ((rd_T86 l0_3 x45_3).f5.f2).length c189_14)) w.heap.size (fun k_ => (w.heap.size ≤ k_) ∧ some k_ ≠ (u187001 : Value).ownBlock ∧ k_ ≠ gb180 ∧ k_ ≠ gb181 ∧ k_ ≠ gb186 ∧ k_ ≠ gb190) u187003 x187003_3) := ⟨by (with_reducible repeat (first | apply Kd.N_alloc | apply Kd.N_drewN | apply Kd.N_drew)); exact Kd.N_mono (Kd.N_far (p := ⟨gb190, 14, none⟩) (Kd.N_far (p := ⟨gb190, 13, none⟩) (Kd.N_far (p := ⟨gb190, 12, none⟩) (Kd.N_far (p := ⟨gb190, 11, none⟩) (Kd.N_far (p := ⟨gb190, 10, none⟩) (Kd.N_far (p := ⟨gb190, 9, none⟩) (Kd.N_far (p := ⟨gb190, 8, none⟩) (Kd.N_far (p := ⟨gb190, 7, none⟩) (Kd.N_far (p := ⟨gb190, 6, none⟩) (Kd.N_far (p := ⟨gb190, 5, none⟩) (Kd.N_far (p := ⟨gb190, 4, none⟩) (Kd.N_far (p := ⟨gb190, 3, none⟩) (Kd.N_far (p := ⟨gb190, 2, none⟩) (Kd.N_far (p := ⟨gb190, 1, none⟩) (Kd.N_far (p := ⟨gb190, 0, none⟩) (Kd.N_mono HO_187003.out (fun k_ hk => (⟨hk, hk.2⟩ : _ ∧ k_ ≠ gb190))) (fun _ hk => hk.2) (.int .i64 ((rd_T86 l0_3 x45_3).f0))) (fun _ hk => hk.2) (.int .i64 ((rd_T86 l0_3 x45_3).f1))) (fun _ hk => hk.2) (.int .i64 ((rd_T86 l0_3 x45_3).f2.f0))) (fun _ hk => hk.2) (.slice A189_3 ((rd_T86 l0_3 x45_3).f2.f1).length c189_3)) (fun _ hk => hk.2) (.int .i64 ((rd_T86 l0_3 x45_3).f3.f0))) (fun _ hk => hk.2) (.int .i64 ((rd_T86 l0_3 x45_3).f3.f1))) (fun _ hk => hk.2) (.int .i64 ((rd_T86 l0_3 x45_3).f3.f2))) (fun _ hk => hk.2) (.int .i64 ((rd_T86 l0_3 x45_3).f4.f0))) (fun _ hk => hk.2) (.int .i64 ((rd_T86 l0_3 x45_3).f4.f1))) (fun _ hk => hk.2) (.int .i64 ((rd_T86 l0_3 x45_3).f4.f2))) (fun _ hk => hk.2) (.int .i64 ((rd_T86 l0_3 x45_3).f5.f0.f0))) (fun _ hk => hk.2) (.int .i64 ((rd_T86 l0_3 x45_3).f5.f0.f1))) (fun _ hk => hk.2) (.int .i64 ((rd_T86 l0_3 x45_3).f5.f0.f2))) (fun _ hk => hk.2) (.int .i64 ((rd_T86 l0_3 x45_3).f5.f1))) (fun _ hk => hk.2) (.slice A189_14 ((rd_T86 l0_3 x45_3).f5.f2).length c189_14)) (fun _ hk => ⟨hk.1.1.1, ⟨hk.1.1.2.1, ⟨hk.1.1.2.2.1, ⟨hk.1.1.2.2.2.1, ⟨hk.1.1.2.2.2.2, hk.1.2⟩⟩⟩⟩⟩)⟩
           have n2_ : Aside0 ((((((((((((((((w41.setCell ⟨gb190, 0, none⟩ (.int .i64 ((rd_T86 l0_3 x45_3).f0))).setCell ⟨gb190, 1, none⟩ (.int .i64 ((rd_T86 l0_3 x45_3).f1))).setCell ⟨gb190, 2, none⟩ (.int .i64 ((rd_T86 l0_3 x45_3).f2.f0))).setCell ⟨gb190, 3, none⟩ (.slice A189_3 ((rd_T86 l0_3 x45_3).f2.f1).length c189_3)).setCell ⟨gb190, 4, none⟩ (.int .i64 ((rd_T86 l0_3 x45_3).f3.f0))).setCell ⟨gb190, 5, none⟩ (.int .i64 ((rd_T86 l0_3 x45_3).f3.f1))).setCell ⟨gb190, 6, none⟩ (.int .i64 ((rd_T86 l0_3 x45_3).f3.f2))).setCell ⟨gb190, 7, none⟩ (.int .i64 ((rd_T86 l0_3 x45_3).f4.f0))).setCell ⟨gb190, 8, none⟩ (.int .i64 ((rd_T86 l0_3 x45_3).f4.f1))).setCell ⟨gb190, 9, none⟩ (.int .i64 ((rd_T86 l0_3 x45_3).f4.f2))).setCell ⟨gb190, 10, none⟩ (.int .i64 ((rd_T86 l0_3 x45_3).f5.f0.f0))).setCell ⟨gb190, 11, none⟩ (.int .i64 ((rd_T86 l0_3 x45_3).f5.f0.f1))).setCell ⟨gb190, 12, none⟩ (.int .i64 ((rd_T86 l0_3 x45_3).f5.f0.f2))).setCell ⟨gb190, 13, none⟩ (.int .i64 ((rd_T86 l0_3 x45_3).f5.f1))).setCell ⟨gb190, 14, none⟩ (.slice A189_14 ((rd_T86 l0_3 x45_3).f5.f2).length c189_14)).heap[gb180]? = some (.cells #[.int .i64 a0_0, .slice A0_1 l0_1.length c0_1, .int .i64 a0_2, .slice (some ad189) l0_3.length c0_3] 36 (0, 0))) := ⟨by (with_reducible repeat (first | refine bDN ?_ _ | refine bD ?_ | refine bA ?_ _)); refine blk_far ?_ NB180_190.out _; (with_reducible repeat (first | refine bDN ?_ _ | refine bD ?_ | refine bA ?_ _)); refine blk_far ?_ NB180_190.out _; (with_reducible repeat (first | refine bDN ?_ _ | refine bD ?_ | refine bA ?_ _)); refine blk_far ?_ NB180_190.out _; (with_reducible repeat (first | refine bDN ?_ _ | refine bD ?_ | refine bA ?_ _)); refine blk_far ?_ NB180_190.out _; (with_reducible repeat (first | refine bDN ?_ _ | refine bD ?_ | refine bA ?_ _)); refine blk_far ?_ NB180_190.out _; (with_reducible repeat (first | refine bDN ?_ _ | refine bD ?_ | refine bA ?_ _)); refine blk_far ?_ NB180_190.out _; (with_reducible repeat (first | refine bDN ?_ _ | refine bD ?_ | refine bA ?_ _)); refine blk_far ?_ NB180_190.out _; (with_reducible repeat (first | refine bDN ?_ _ | refine bD ?_ | refine bA ?_ _)); refine blk_far ?_ NB180_190.out _; (with_reducible repeat (first | refine bDN ?_ _ | refine bD ?_ | refine bA ?_ _)); refine blk_far ?_ NB180_190.out _; (with_reducible repeat (first | refine bDN ?_ _ | refine bD ?_ | refine bA ?_ _)); refine blk_far ?_ NB180_190.out _; (with_reducible repeat (first | refine bDN ?_ _ | refine bD ?_ | refine bA ?_ _)); refine blk_far ?_ NB180_190.out _; (with_reducible repeat (first | refine bDN ?_ _ | refine bD ?_ | refine bA ?_ _)); refine blk_far ?_ NB180_190.out _; (with_reducible repeat (first | refine bDN ?_ _ | refine bD ?_ | refine bA ?_ _)); refine blk_far ?_ NB180_190.out _; (with_reducible repeat (first | refine bDN ?_ _ | refine bD ?_ | refine bA ?_ _)); refine blk_far ?_ NB180_190.out _; (with_reducible repeat (first | refine bDN ?_ _ | refine bD ?_ | refine bA ?_ _)); refine blk_far ?_ NB180_190.out _; (with_reducible repeat (first | refine bDN ?_ _ | refine bD ?_ | refine bA ?_ _)); exact BK180.out⟩
           have n3_ : Aside0 ((((((((((((((((w41.setCell ⟨gb190, 0, none⟩ (.int .i64 ((rd_T86 l0_3 x45_3).f0))).setCell ⟨gb190, 1, none⟩ (.int .i64 ((rd_T86 l0_3 x45_3).f1))).setCell ⟨gb190, 2, none⟩ (.int .i64 ((rd_T86 l0_3 x45_3).f2.f0))).setCell ⟨gb190, 3, none⟩ (.slice A189_3 ((rd_T86 l0_3 x45_3).f2.f1).length c189_3)).setCell ⟨gb190, 4, none⟩ (.int .i64 ((rd_T86 l0_3 x45_3).f3.f0))).setCell ⟨gb190, 5, none⟩ (.int .i64 ((rd_T86 l0_3 x45_3).f3.f1))).setCell ⟨gb190, 6, none⟩ (.int .i64 ((rd_T86 l0_3 x45_3).f3.f2))).setCell ⟨gb190, 7, none⟩ (.int .i64 ((rd_T86 l0_3 x45_3).f4.f0))).setCell ⟨gb190, 8, none⟩ (.int .i64 ((rd_T86 l0_3 x45_3).f4.f1))).setCell ⟨gb190, 9, none⟩ (.int .i64 ((rd_T86 l0_3 x45_3).f4.f2))).setCell ⟨gb190, 10, none⟩ (.int .i64 ((rd_T86 l0_3 x45_3).f5.f0.f0))).setCell ⟨gb190, 11, none⟩ (.int .i64 ((rd_T86 l0_3 x45_3).f5.f0.f1))).setCell ⟨gb190, 12, none⟩ (.int .i64 ((rd_T86 l0_3 x45_3).f5.f0.f2))).setCell ⟨gb190, 13, none⟩ (.int .i64 ((rd_T86 l0_3 x45_3).f5.f1))).setCell ⟨gb190, 14, none⟩ (.slice A189_14 ((rd_T86 l0_3 x45_3).f5.f2).length c189_14)).heap[gb181]? = some (.cells #[.string (⟨#[]⟩ : ByteArray), .slice none 0 0, .int .i64 0, .slice none 0 0, .int .i64 0] 43 (0, 0))) := ⟨by (with_reducible repeat (first | refine bDN ?_ _ | refine bD ?_ | refine bA ?_ _)); refine blk_far ?_ NB181_190.out _; (with_reducible repeat (first | refine bDN ?_ _ | refine bD ?_ | refine bA ?_ _)); refine blk_far ?_ NB181_190.out _; (with_reducible repeat (first | refine bDN ?_ _ | refine bD ?_ | refine bA ?_ _)); refine blk_far ?_ NB181_190.out _; (with_reducible repeat (first | refine bDN ?_ _ | refine bD ?_ | refine bA ?_ _)); refine blk_far ?_ NB181_190.out _; (with_reducible repeat (first | refine bDN ?_ _ | refine bD ?_ | refine bA ?_ _)); refine blk_far ?_ NB181_190.out _; (with_reducible repeat (first | refine bDN ?_ _ | refine bD ?_ | refine bA ?_ _)); refine blk_far ?_ NB181_190.out _; (with_reducible repeat (first | refine bDN ?_ _ | refine bD ?_ | refine bA ?_ _)); refine blk_far ?_ NB181_190.out _; (with_reducible repeat (first | refine bDN ?_ _ | refine bD ?_ | refine bA ?_ _)); refine blk_far ?_ NB181_190.out _; (with_reducible repeat (first | refine bDN ?_ _ | refine bD ?_ | refine bA ?_ _)); refine blk_far ?_ NB181_190.out _; (with_reducible repeat (first | refine bDN ?_ _ | refine bD ?_ | refine bA ?_ _)); refine blk_far ?_ NB181_190.out _; (with_reducible repeat (first | refine bDN ?_ _ | refine bD ?_ | refine bA ?_ _)); refine blk_far ?_ NB181_190.out _; (with_reducible repeat (first | refine bDN ?_ _ | refine bD ?_ | refine bA ?_ _)); refine blk_far ?_ NB181_190.out _; (with_reducible repeat (first | refine bDN ?_ _ | refine bD ?_ | refine bA ?_ _)); refine blk_far ?_ NB181_190.out _; (with_reducible repeat (first | refine bDN ?_ _ | refine bD ?_ | refine bA ?_ _)); refine blk_far ?_ NB181_190.out _; (with_reducible repeat (first | refine bDN ?_ _ | refine bD ?_ | refine bA ?_ _)); refine blk_far ?_ NB181_190.out _; (with_reducible repeat (first | refine bDN ?_ _ | refine bD ?_ | refine bA ?_ _)); exact BK181.out⟩
           have n4_ : Aside0 ((((((((((((((((w41.setCell ⟨gb190, 0, none⟩ (.int .i64 ((rd_T86 l0_3 x45_3).f0))).setCell ⟨gb190, 1, none⟩ (.int .i64 ((rd_T86 l0_3 x45_3).f1))).setCell ⟨gb190, 2, none⟩ (.int .i64 ((rd_T86 l0_3 x45_3).f2.f0))).setCell ⟨gb190, 3, none⟩ (.slice A189_3 ((rd_T86 l0_3 x45_3).f2.f1).length c189_3)).setCell ⟨gb190, 4, none⟩ (.int .i64 ((rd_T86 l0_3 x45_3).f3.f0))).setCell ⟨gb190, 5, none⟩ (.int .i64 ((rd_T86 l0_3 x45_3).f3.f1))).setCell ⟨gb190, 6, none⟩ (.int .i64 ((rd_T86 l0_3 x45_3).f3.f2))).setCell ⟨gb190, 7, none⟩ (.int .i64 ((rd_T86 l0_3 x45_3).f4.f0))).setCell ⟨gb190, 8, none⟩ (.int .i64 ((rd_T86 l0_3 x45_3).f4.f1))).setCell ⟨gb190, 9, none⟩ (.int .i64 ((rd_T86 l0_3 x45_3).f4.f2))).setCell ⟨gb190, 10, none⟩ (.int .i64 ((rd_T86 l0_3 x45_3).f5.f0.f0))).setCell ⟨gb190, 11, none⟩ (.int .i64 ((rd_T86 l0_3 x45_3).f5.f0.f1))).setCell ⟨gb190, 12, none⟩ (.int .i64 ((rd_T86 l0_3 x45_3).f5.f0.f2))).setCell ⟨gb190, 13, none⟩ (.int .i64 ((rd_T86 l0_3 x45_3).f5.f1))).setCell ⟨gb190, 14, none⟩ (.slice A189_14 ((rd_T86 l0_3 x45_3).f5.f2).length c189_14)).heap[gb186]? = some (.cells #[.string t182, u187001, .int .i64 x187002_15, u187003, .int .i64 0] 43 (0, 0))) := ⟨by (with_reducible repeat (first | refine bDN ?_ _ | refine bD ?_ | refine bA ?_ _)); refine blk_far ?_ NB186_190.out _; (with_reducible repeat (first | refine bDN ?_ _ | refine bD ?_ | refine bA ?_ _)); refine blk_far ?_ NB186_190.out _; (with_reducible repeat (first | refine bDN ?_ _ | refine bD ?_ | refine bA ?_ _)); refine blk_far ?_ NB186_190.out _; (with_reducible repeat (first | refine bDN ?_ _ | refine bD ?_ | refine bA ?_ _)); refine blk_far ?_ NB186_190.out _; (with_reducible repeat (first | refine bDN ?_ _ | refine bD ?_ | refine bA ?_ _)); refine blk_far ?_ NB186_190.out _; (with_reducible repeat (first | refine bDN ?_ _ | refine bD ?_ | refine bA ?_ _)); refine blk_far ?_ NB186_190.out _; (with_reducible repeat (first | refine bDN ?_ _ | refine bD ?_ | refine bA ?_ _)); refine blk_far ?_ NB186_190.out _; (with_reducible repeat (first | refine bDN ?_ _ | refine bD ?_ | refine bA ?_ _)); refine blk_far ?_ NB186_190.out _; (with_reducible repeat (first | refine bDN ?_ _ | refine bD ?_ | refine bA ?_ _)); refine blk_far ?_ NB186_190.out _; (with_reducible repeat (first | refine bDN ?_ _ | refine bD ?_ | refine bA ?_ _)); refine blk_far ?_ NB186_190.out _; (with_reducible repeat (first | refine bDN ?_ _ | refine bD ?_ | refine bA ?_ _)); refine blk_far ?_ NB186_190.out _; (with_reducible repeat (first | refine bDN ?_ _ | refine bD ?_ | refine bA ?_ _)); refine blk_far ?_ NB186_190.out _; (with_reducible repeat (first | refine bDN ?_ _ | refine bD ?_ | refine bA ?_ _)); refine blk_far ?_ NB186_190.out _; (with_reducible repeat (first | refine bDN ?_ _ | refine bD ?_ | refine bA ?_ _)); refine blk_far ?_ NB186_190.out _; (with_reducible repeat (first | refine bDN ?_ _ | refine bD ?_ | refine bA ?_ _)); refine blk_far ?_ NB186_190.out _; (with_reducible repeat (first | refine bDN ?_ _ | refine bD ?_ | refine bA ?_ _)); exact BK186.out⟩
           have n5_ : Aside0 ((((((((((((((((w41.setCell ⟨gb190, 0, none⟩ (.int .i64 ((rd_T86 l0_3 x45_3).f0))).setCell ⟨gb190, 1, none⟩ (.int .i64 ((rd_T86 l0_3 x45_3).f1))).setCell ⟨gb190, 2, none⟩ (.int .i64 ((rd_T86 l0_3 x45_3).f2.f0))).setCell ⟨gb190, 3, none⟩ (.slice A189_3 ((rd_T86 l0_3 x45_3).f2.f1).length c189_3)).setCell ⟨gb190, 4, none⟩ (.int .i64 ((rd_T86 l0_3 x45_3).f3.f0))).setCell ⟨gb190, 5, none⟩ (.int .i64 ((rd_T86 l0_3 x45_3).f3.f1))).setCell ⟨gb190, 6, none⟩ (.int .i64 ((rd_T86 l0_3 x45_3).f3.f2))).setCell ⟨gb190, 7, none⟩ (.int .i64 ((rd_T86 l0_3 x45_3).f4.f0))).setCell ⟨gb190, 8, none⟩ (.int .i64 ((rd_T86 l0_3 x45_3).f4.f1))).setCell ⟨gb190, 9, none⟩ (.int .i64 ((rd_T86 l0_3 x45_3).f4.f2))).setCell ⟨gb190, 10, none⟩ (.int .i64 ((rd_T86 l0_3 x45_3).f5.f0.f0))).setCell ⟨gb190, 11, none⟩ (.int .i64 ((rd_T86 l0_3 x45_3).f5.f0.f1))).setCell ⟨gb190, 12, none⟩ (.int .i64 ((rd_T86 l0_3 x45_3).f5.f0.f2))).setCell ⟨gb190, 13, none⟩ (.int .i64 ((rd_T86 l0_3 x45_3).f5.f1))).setCell ⟨gb190, 14, none⟩ (.slice A189_14 ((rd_T86 l0_3 x45_3).f5.f2).length c189_14)).heap[gb190]? = some (.cells #[.int .i64 ((rd_T86 l0_3 x45_3).f0), .int .i64 ((rd_T86 l0_3 x45_3).f1), .int .i64 ((rd_T86 l0_3 x45_3).f2.f0), .slice A189_3 ((rd_T86 l0_3 x45_3).f2.f1).length c189_3, .int .i64 ((rd_T86 l0_3 x45_3).f3.f0), .int .i64 ((rd_T86 l0_3 x45_3).f3.f1), .int .i64 ((rd_T86 l0_3 x45_3).f3.f2), .int .i64 ((rd_T86 l0_3 x45_3).f4.f0), .int .i64 ((rd_T86 l0_3 x45_3).f4.f1), .int .i64 ((rd_T86 l0_3 x45_3).f4.f2), .int .i64 ((rd_T86 l0_3 x45_3).f5.f0.f0), .int .i64 ((rd_T86 l0_3 x45_3).f5.f0.f1), .int .i64 ((rd_T86 l0_3 x45_3).f5.f0.f2), .int .i64 ((rd_T86 l0_3 x45_3).f5.f1), .slice A189_14 ((rd_T86 l0_3 x45_3).f5.f2).length c189_14] 86 (0, 0))) := ⟨(by apply eC_; (with_reducible repeat (first | refine bDN ?_ _ | refine bD ?_ | refine bA ?_ _)); apply b2_; (with_reducible repeat (first | refine bDN ?_ _ | refine bD ?_ | refine bA ?_ _)); apply b2_; (with_reducible repeat (first | refine bDN ?_ _ | refine bD ?_ | refine bA ?_ _)); apply b2_; (with_reducible repeat (first | refine bDN ?_ _ | refine bD ?_ | refine bA ?_ _)); apply b2_; (with_reducible repeat (first | refine bDN ?_ _ | refine bD ?_ | refine bA ?_ _)); apply b2_; (with_reducible repeat (first | refine bDN ?_ _ | refine bD ?_ | refine bA ?_ _)); apply b2_; (with_reducible repeat (first | refine bDN ?_ _ | refine bD ?_ | refine bA ?_ _)); apply b2_; (with_reducible repeat (first | refine bDN ?_ _ | refine bD ?_ | refine bA ?_ _)); apply b2_; (with_reducible repeat (first | refine bDN ?_ _ | refine bD ?_ | refine bA ?_ _)); apply b2_; (with_reducible repeat (first | refine bDN ?_ _ | refine bD ?_ | refine bA ?_ _)); apply b2_; (with_reducible repeat (first | refine bDN ?_ _ | refine bD ?_ | refine bA ?_ _)); apply b2_; (with_reducible repeat (first | refine bDN ?_ _ | refine bD ?_ | refine bA ?_ _)); apply b2_; (with_reducible repeat (first | refine bDN ?_ _ | refine bD ?_ | refine bA ?_ _)); apply b2_; (with_reducible repeat (first | refine bDN ?_ _ | refine bD ?_ | refine bA ?_ _)); apply b2_; (with_reducible repeat (first | refine bDN ?_ _ | refine bD ?_ | refine bA ?_ _)); apply b2_; (with_reducible repeat (first | refine bDN ?_ _ | refine bD ?_ | refine bA ?_ _)); exact BK190.out; kernel_rfl)⟩
           have n6_ : Aside0 (Below w.heap.size w (((((((((((((((w41.setCell ⟨gb190, 0, none⟩ (.int .i64 ((rd_T86 l0_3 x45_3).f0))).setCell ⟨gb190, 1, none⟩ (.int .i64 ((rd_T86 l0_3 x45_3).f1))).setCell ⟨gb190, 2, none⟩ (.int .i64 ((rd_T86 l0_3 x45_3).f2.f0))).setCell ⟨gb190, 3, none⟩ (.slice A189_3 ((rd_T86 l0_3 x45_3).f2.f1).length c189_3)).setCell ⟨gb190, 4, none⟩ (.int .i64 ((rd_T86 l0_3 x45_3).f3.f0))).setCell ⟨gb190, 5, none⟩ (.int .i64 ((rd_T86 l0_3 x45_3).f3.f1))).setCell ⟨gb190, 6, none⟩ (.int .i64 ((rd_T86 l0_3 x45_3).f3.f2))).setCell ⟨gb190, 7, none⟩ (.int .i64 ((rd_T86 l0_3 x45_3).f4.f0))).setCell ⟨gb190, 8, none⟩ (.int .i64 ((rd_T86 l0_3 x45_3).f4.f1))).setCell ⟨gb190, 9, none⟩ (.int .i64 ((rd_T86 l0_3 x45_3).f4.f2))).setCell ⟨gb190, 10, none⟩ (.int .i64 ((rd_T86 l0_3 x45_3).f5.f0.f0))).setCell ⟨gb190, 11, none⟩ (.int .i64 ((rd_T86 l0_3 x45_3).f5.f0.f1))).setCell ⟨gb190, 12, none⟩ (.int .i64 ((rd_T86 l0_3 x45_3).f5.f0.f2))).setCell ⟨gb190, 13, none⟩ (.int .i64 ((rd_T86 l0_3 x45_3).f5.f1))).setCell ⟨gb190, 14, none⟩ (.slice A189_14 ((rd_T86 l0_3 x45_3).f5.f2).length c189_14))) := ⟨by repeat (first | (with_reducible first | exact HB.out | apply lA_ | apply pD | apply lD_ | refine lS_ ?_ GE180.out | refine lS_ ?_ GE181.out | refine lS_ ?_ GE186.out | refine lS_ ?_ GE190.out) | exact HB.out)⟩
           (try clear HO_187001)
           (try clear HO_187003)
           (try clear BK180)
           (try clear BK181)
           (try clear BK186)
           (try clear BK190)
           (try clear HB)
           generalize (((((((((((((((w41.setCell ⟨gb190, 0, none⟩ (.int .i64 ((rd_T86 l0_3 x45_3).f0))).setCell ⟨gb190, 1, none⟩ (.int .i64 ((rd_T86 l0_3 x45_3).f1))).setCell ⟨gb190, 2, none⟩ (.int .i64 ((rd_T86 l0_3 x45_3).f2.f0))).setCell ⟨gb190, 3, none⟩ (.slice A189_3 ((rd_T86 l0_3 x45_3).f2.f1).length c189_3)).setCell ⟨gb190, 4, none⟩ (.int .i64 ((rd_T86 l0_3 x45_3).f3.f0))).setCell ⟨gb190, 5, none⟩ (.int .i64 ((rd_T86 l0_3 x45_3).f3.f1))).setCell ⟨gb190, 6, none⟩ (.int .i64 ((rd_T86 l0_3 x45_3).f3.f2))).setCell ⟨gb190, 7, none⟩ (.int .i64 ((rd_T86 l0_3 x45_3).f4.f0))).setCell ⟨gb190, 8, none⟩ (.int .i64 ((rd_T86 l0_3 x45_3).f4.f1))).setCell ⟨gb190, 9, none⟩ (.int .i64 ((rd_T86 l0_3 x45_3).f4.f2))).setCell ⟨gb190, 10, none⟩ (.int .i64 ((rd_T86 l0_3 x45_3).f5.f0.f0))).setCell ⟨gb190, 11, none⟩ (.int .i64 ((rd_T86 l0_3 x45_3).f5.f0.f1))).setCell ⟨gb190, 12, none⟩ (.int .i64 ((rd_T86 l0_3 x45_3).f5.f0.f2))).setCell ⟨gb190, 13, none⟩ (.int .i64 ((rd_T86 l0_3 x45_3).f5.f1))).setCell ⟨gb190, 14, none⟩ (.slice A189_14 ((rd_T86 l0_3 x45_3).f5.f2).length c189_14)) = w46 at n0_ n1_ n2_ n3_ n4_ n5_ n6_ ⊢
           have HO_187001 := n0_
           have HO_187003 := n1_
           have BK180 := n2_
           have BK181 := n3_
           have BK186 := n4_
           have BK190 := n5_
           have HB := n6_
           clear n0_ n1_ n2_ n3_ n4_ n5_ n6_
           have n0_ := aK_ (Kd.R_drew HO_187001.out)
           have n1_ := aK_ (Kd.N_drew HO_187003.out)
           have n2_ := aK_ (bD BK180.out)
           have n3_ := aK_ (bD BK181.out)
           have n4_ := aK_ (bD BK186.out)
           have n5_ := aK_ (bD BK190.out)
           have n6_ := aK_ (lD_ HB.out)
           clear HO_187001
           clear HO_187003
           clear BK180
           clear BK181
           clear BK186
           clear BK190
           clear HB
           have HO_187001 := n0_
           have HO_187003 := n1_
           have BK180 := n2_
           have BK181 := n3_
           have BK186 := n4_
           have BK190 := n5_
           have HB := n6_
           clear n0_ n1_ n2_ n3_ n4_ n5_ n6_
           refine start_ (n := 8) (S := fun w' => w'.cell? ⟨gb186, 0, none⟩ = some (.string t182) ∧ w'.cell? ⟨gb186, 1, none⟩ = some (u187001) ∧ w'.cell? ⟨gb186, 2, none⟩ = some (.int .i64 x187002_15) ∧ w'.cell? ⟨gb186, 3, none⟩ = some (u187003) ∧ w'.cell? ⟨gb186, 4, none⟩ = some (.int .i64 0) ∧ w'.cell? ⟨gb190, 0, none⟩ = some (.int .i64 ((rd_T86 l0_3 x45_3).f0)) ∧ w'.cell? ⟨gb190, 1, none⟩ = some (.int .i64 ((rd_T86 l0_3 x45_3).f1)) ∧ w'.cell? ⟨gb190, 2, none⟩ = some (.int .i64 ((rd_T86 l0_3 x45_3).f2.f0)) ∧ w'.cell? ⟨gb190, 3, none⟩ = some (.slice A189_3 ((rd_T86 l0_3 x45_3).f2.f1).length c189_3) ∧ w'.cell? ⟨gb190, 4, none⟩ = some (.int .i64 ((rd_T86 l0_3 x45_3).f3.f0)) ∧ w'.cell? ⟨gb190, 5, none⟩ = some (.int .i64 ((rd_T86 l0_3 x45_3).f3.f1)) ∧ w'.cell? ⟨gb190, 6, none⟩ = some (.int .i64 ((rd_T86 l0_3 x45_3).f3.f2)) ∧ w'.cell? ⟨gb190, 7, none⟩ = some (.int .i64 ((rd_T86 l0_3 x45_3).f4.f0)) ∧ w'.cell? ⟨gb190, 8, none⟩ = some (.int .i64 ((rd_T86 l0_3 x45_3).f4.f1)) ∧ w'.cell? ⟨gb190, 9, none⟩ = some (.int .i64 ((rd_T86 l0_3 x45_3).f4.f2)) ∧ w'.cell? ⟨gb190, 10, none⟩ = some (.int .i64 ((rd_T86 l0_3 x45_3).f5.f0.f0)) ∧ w'.cell? ⟨gb190, 11, none⟩ = some (.int .i64 ((rd_T86 l0_3 x45_3).f5.f0.f1)) ∧ w'.cell? ⟨gb190, 12, none⟩ = some (.int .i64 ((rd_T86 l0_3 x45_3).f5.f0.f2)) ∧ w'.cell? ⟨gb190, 13, none⟩ = some (.int .i64 ((rd_T86 l0_3 x45_3).f5.f1)) ∧ w'.cell? ⟨gb190, 14, none⟩ = some (.slice A189_14 ((rd_T86 l0_3 x45_3).f5.f2).length c189_14)) (ds := [7]) #[false, false, false, false, false, false, false, false] (by kernel_rfl) rfl rfl ⟨(bC BK186.out 0).trans rfl, (bC BK186.out 1).trans rfl, (bC BK186.out 2).trans rfl, (bC BK186.out 3).trans rfl, (bC BK186.out 4).trans rfl, (bC BK190.out 0).trans rfl, (bC BK190.out 1).trans rfl, (bC BK190.out 2).trans rfl, (bC BK190.out 3).trans rfl, (bC BK190.out 4).trans rfl, (bC BK190.out 5).trans rfl, (bC BK190.out 6).trans rfl, (bC BK190.out 7).trans rfl, (bC BK190.out 8).trans rfl, (bC BK190.out 9).trans rfl, (bC BK190.out 10).trans rfl, (bC BK190.out 11).trans rfl, (bC BK190.out 12).trans rfl, (bC BK190.out 13).trans rfl, (bC BK190.out 14).trans rfl⟩ (fun hHeld => ?_); refine with_tabW ergolaw13_R_Rule.tab11 ergolaw13_R_Rule.bits11 (fun HT_ HW_ => ?_)
           generalize w46.drew = w47 at HO_187001 HO_187003 BK180 BK181 BK186 BK190 HB hHeld ⊢
           refine pure_ (i := 0) (N := some 49) (v := ?_) (a' := ?_) #[true, false, false, false, false, false, false, false] rfl rfl (any_of HT_.out (by kernel_rfl)) (fun _ _ _ h => h) (Or.inl ⟨by rfl, ?_⟩) ?_ ?_
           rotate_left
           ·intro w'
            go_simp
            with_reducible rfl
           rotate_left
           ·simp only [Act.put, sA_, sZ_, sS_, i64_w, i32_w]
            rfl
           refine take_ (i := 1) (N := some 50) (v := ?_) (a' := ?_) #[true, true, false, false, false, false, false, false] rfl rfl (take_ofW HT_.out HW_.out (by kernel_rfl)) (fun _ _ _ h => h) (Or.inl ⟨by rfl, ?_⟩) hHeld ?_ ?_
           rotate_left
           ·rintro w' ⟨s0, s1, s2, s3, s4, s5, s6, s7, s8, s9, s10, s11, s12, s13, s14, s15, s16, s17, s18, s19⟩
            go_simp
            with_reducible rfl
           rotate_left
           ·simp only [Act.put, sA_, sZ_, sS_, i64_w, i32_w]
            rfl
           refine take_ (i := 2) (N := some 51) (v := ?_) (a' := ?_) #[true, true, true, false, false, false, false, false] rfl rfl (take_ofW HT_.out HW_.out (by kernel_rfl)) (fun _ _ _ h => h) (Or.inl ⟨by rfl, ?_⟩) hHeld ?_ ?_
           rotate_left
           ·rintro w' ⟨s0, s1, s2, s3, s4, s5, s6, s7, s8, s9, s10, s11, s12, s13, s14, s15, s16, s17, s18, s19⟩
            go_simp
            with_reducible rfl
           rotate_left
           ·simp only [Act.put, sA_, sZ_, sS_, i64_w, i32_w]
            rfl
           refine one_ (i := 3) (N := some 52) #[true, true, true, true, false, false, false, false] rfl rfl (one_of HT_.out (by kernel_rfl)) (by decide) (fun K hK => ?_)
           refine goes_ Tryd.func32 (by kernel_rfl) rfl #[.agg #[.int .i64 ((rd_T86 l0_3 x45_3).f0), .int .i64 ((rd_T86 l0_3 x45_3).f1), .int .i64 ((rd_T86 l0_3 x45_3).f2.f0), .slice A189_3 ((rd_T86 l0_3 x45_3).f2.f1).length c189_3, .int .i64 ((rd_T86 l0_3 x45_3).f3.f0), .int .i64 ((rd_T86 l0_3 x45_3).f3.f1), .int .i64 ((rd_T86 l0_3 x45_3).f3.f2), .int .i64 ((rd_T86 l0_3 x45_3).f4.f0), .int .i64 ((rd_T86 l0_3 x45_3).f4.f1), .int .i64 ((rd_T86 l0_3 x45_3).f4.f2), .int .i64 ((rd_T86 l0_3 x45_3).f5.f0.f0), .int .i64 ((rd_T86 l0_3 x45_3).f5.f0.f1), .int .i64 ((rd_T86 l0_3 x45_3).f5.f0.f2), .int .i64 ((rd_T86 l0_3 x45_3).f5.f1), .slice A189_14 ((rd_T86 l0_3 x45_3).f5.f2).length c189_14]] (by rfl) rfl rfl (by (try simp only [List.map_toArray, List.map_cons, List.map_nil]); first | done | rfl | (simp only [List.length_drop, List.length_take]; rfl)) ?_
           with_reducible refine (ergolaw13_P_Part.calls k3 ((rd_T86 l0_3 x45_3).f0) ((rd_T86 l0_3 x45_3).f1) ((rd_T86 l0_3 x45_3).f2.f0) _ _ ((rd_T86 l0_3 x45_3).f2.f1) ((rd_T86 l0_3 x45_3).f3.f0) ((rd_T86 l0_3 x45_3).f3.f1) ((rd_T86 l0_3 x45_3).f3.f2) ((rd_T86 l0_3 x45_3).f4.f0) ((rd_T86 l0_3 x45_3).f4.f1) ((rd_T86 l0_3 x45_3).f4.f2) ((rd_T86 l0_3 x45_3).f5.f0.f0) ((rd_T86 l0_3 x45_3).f5.f0.f1) ((rd_T86 l0_3 x45_3).f5.f0.f2) ((rd_T86 l0_3 x45_3).f5.f1) _ _ ((rd_T86 l0_3 x45_3).f5.f2) t191 t192 t193 t196 t197 t198 t199 t200 t201 t202 t203 t204 t205 t206 t207 t208 _ ?side1 ?side2 ?side3 ?side4 A39.out).mono ?_
           (case side1 => repeat (first | exact (Kd.C_below HR189_3.out HB.out) | (with_reducible refine Kd.C_alloc ?_ _) | (with_reducible refine Kd.C_drewN ?_ _) | (with_reducible refine Kd.C_drew ?_)))
           (case side2 => exact HC189_3.out)
           (case side3 => repeat (first | exact (Kd.C_below HR189_14.out HB.out) | (with_reducible refine Kd.C_alloc ?_ _) | (with_reducible refine Kd.C_drewN ?_ _) | (with_reducible refine Kd.C_drew ?_)))
           (case side4 => exact HC189_14.out)
           rintro e w48 ⟨v194, v209, rfl, ho0, ho1, hb⟩
           refine ⟨_, rfl, ?_⟩
           have n0_ := aK_ (Kd.R_elder' (by (with_reducible repeat (first | apply Kd.R_alloc | apply Kd.R_drewN | apply Kd.R_drew)); exact HO_187001.out) (Kd.R_base ho0) hb)
           have n1_ := aK_ (Kd.N_mono (Kd.N_told (Kd.N_told (Kd.N_old (by (with_reducible repeat (first | apply Kd.N_alloc | apply Kd.N_drewN | apply Kd.N_drew)); exact HO_187003.out) hb) (Kd.R_base ho0)) (Kd.N_base ho1)) (fun _ h_ => h_.1))
           have n2_ := aK_ (Kd.R_lower (Kd.R_new' (Kd.R_newM (M := fun k_ => (w.heap.size ≤ k_)) (Kd.R_mono (ok' := fun k_ => True) ho0 (fun _ hk_ => trivial)) (lZ_ (by repeat (first | (with_reducible first | exact HB.out | apply lA_ | apply pD | apply lD_ | refine lS_ ?_ GE180.out | refine lS_ ?_ GE181.out | refine lS_ ?_ GE186.out | refine lS_ ?_ GE190.out) | exact HB.out))) (fun k_ h_ => h_)) (Kd.R_lt (by (with_reducible repeat (first | apply Kd.R_alloc | apply Kd.R_drewN | apply Kd.R_drew)); exact HO_187001.out))) (lZ_ (by repeat (first | (with_reducible first | exact HB.out | apply lA_ | apply pD | apply lD_ | refine lS_ ?_ GE180.out | refine lS_ ?_ GE181.out | refine lS_ ?_ GE186.out | refine lS_ ?_ GE190.out) | exact HB.out))))
           have n3_ := aK_ (Kd.N_lower (Kd.N_mono (ok' := fun k_ => (w.heap.size ≤ k_) ∧ some k_ ≠ (v194 : Value).ownBlock ∧ some k_ ≠ (u187001 : Value).ownBlock ∧ some k_ ≠ (u187003 : Value).ownBlock ∧ k_ ≠ gb180 ∧ k_ ≠ gb181 ∧ k_ ≠ gb186 ∧ k_ ≠ gb190) ho1 (fun k_ hk_ => ⟨(Nat.le_trans (lZ_ (by repeat (first | (with_reducible first | exact HB.out | apply lA_ | apply pD | apply lD_ | refine lS_ ?_ GE180.out | refine lS_ ?_ GE181.out | refine lS_ ?_ GE186.out | refine lS_ ?_ GE190.out) | exact HB.out))) hk_.1), hk_.2, (Kd.fresh' (Kd.R_lt (by (with_reducible repeat (first | apply Kd.R_alloc | apply Kd.R_drewN | apply Kd.R_drew)); exact HO_187001.out)) k_ hk_.1), (Kd.fresh' (Kd.N_lt (by (with_reducible repeat (first | apply Kd.N_alloc | apply Kd.N_drewN | apply Kd.N_drew)); exact HO_187003.out)) k_ hk_.1), (Kd.freshB (g := gb180) (o := .cells #[.int .i64 a0_0, .slice A0_1 l0_1.length c0_1, .int .i64 a0_2, .slice (some ad189) l0_3.length c0_3] 36 (0, 0)) (by (with_reducible repeat (first | refine bDN ?_ _ | refine bD ?_ | refine bA ?_ _)); exact BK180.out) k_ hk_.1), (Kd.freshB (g := gb181) (o := .cells #[.string (⟨#[]⟩ : ByteArray), .slice none 0 0, .int .i64 0, .slice none 0 0, .int .i64 0] 43 (0, 0)) (by (with_reducible repeat (first | refine bDN ?_ _ | refine bD ?_ | refine bA ?_ _)); exact BK181.out) k_ hk_.1), (Kd.freshB (g := gb186) (o := .cells #[.string t182, u187001, .int .i64 x187002_15, u187003, .int .i64 0] 43 (0, 0)) (by (with_reducible repeat (first | refine bDN ?_ _ | refine bD ?_ | refine bA ?_ _)); exact BK186.out) k_ hk_.1), (Kd.freshB (g := gb190) (o := .cells #[.int .i64 ((rd_T86 l0_3 x45_3).f0), .int .i64 ((rd_T86 l0_3 x45_3).f1), .int .i64 ((rd_T86 l0_3 x45_3).f2.f0), .slice A189_3 ((rd_T86 l0_3 x45_3).f2.f1).length c189_3, .int .i64 ((rd_T86 l0_3 x45_3).f3.f0), .int .i64 ((rd_T86 l0_3 x45_3).f3.f1), .int .i64 ((rd_T86 l0_3 x45_3).f3.f2), .int .i64 ((rd_T86 l0_3 x45_3).f4.f0), .int .i64 ((rd_T86 l0_3 x45_3).f4.f1), .int .i64 ((rd_T86 l0_3 x45_3).f4.f2), .int .i64 ((rd_T86 l0_3 x45_3).f5.f0.f0), .int .i64 ((rd_T86 l0_3 x45_3).f5.f0.f1), .int .i64 ((rd_T86 l0_3 x45_3).f5.f0.f2), .int .i64 ((rd_T86 l0_3 x45_3).f5.f1), .slice A189_14 ((rd_T86 l0_3 x45_3).f5.f2).length c189_14] 86 (0, 0)) (by (with_reducible repeat (first | refine bDN ?_ _ | refine bD ?_ | refine bA ?_ _)); exact BK190.out) k_ hk_.1)⟩)) (lZ_ (by repeat (first | (with_reducible first | exact HB.out | apply lA_ | apply pD | apply lD_ | refine lS_ ?_ GE180.out | refine lS_ ?_ GE181.out | refine lS_ ?_ GE186.out | refine lS_ ?_ GE190.out) | exact HB.out))))
           have n4_ := aK_ (bB (by (with_reducible repeat (first | refine bDN ?_ _ | refine bD ?_ | refine bA ?_ _)); exact BK180.out) hb)
           have n5_ := aK_ (bB (by (with_reducible repeat (first | refine bDN ?_ _ | refine bD ?_ | refine bA ?_ _)); exact BK181.out) hb)
           have n6_ := aK_ (bB (by (with_reducible repeat (first | refine bDN ?_ _ | refine bD ?_ | refine bA ?_ _)); exact BK186.out) hb)
           have n7_ := aK_ (bB (by (with_reducible repeat (first | refine bDN ?_ _ | refine bD ?_ | refine bA ?_ _)); exact BK190.out) hb)
           have n8_ := aK_ (lT_ (by repeat (first | (with_reducible first | exact HB.out | apply lA_ | apply pD | apply lD_ | refine lS_ ?_ GE180.out | refine lS_ ?_ GE181.out | refine lS_ ?_ GE186.out | refine lS_ ?_ GE190.out) | exact HB.out)) hb)
           clear HO_187001
           clear HO_187003
           clear BK180
           clear BK181
           clear BK186
           clear BK190
           clear HB
           have HO_187001 := n0_
           have HO_187003 := n1_
           have HO195 := n2_
           have HO210 := n3_
           have BK180 := n4_
           have BK181 := n5_
           have BK186 := n6_
           have BK190 := n7_
           have HB := n8_
           clear n0_ n1_ n2_ n3_ n4_ n5_ n6_ n7_ n8_
           (try clear hb)
           (try clear hb2)
           (try clear hk)
           (try clear hi)
           (try clear ho0)
           (try clear ho1)
           obtain ⟨Ao50, co50, eo50⟩ := Kd.R_slice HO195.out
           (first | subst eo50 | (injection eo50 with f1_ f2_ f3_; have f4_ := f1_.symm; have f5_ := f3_.symm; clear f1_ f2_ f3_; subst f4_; subst f5_))
           obtain ⟨Ao51, co51, eo51⟩ := Kd.N_slice HO210.out
           (first | subst eo51 | (injection eo51 with f1_ f2_ f3_; have f4_ := f1_.symm; have f5_ := f3_.symm; clear f1_ f2_ f3_; subst f4_; subst f5_))
           refine hK.out _ _ ⟨(bC BK186.out 0).trans rfl, (bC BK186.out 1).trans rfl, (bC BK186.out 2).trans rfl, (bC BK186.out 3).trans rfl, (bC BK186.out 4).trans rfl, (bC BK190.out 0).trans rfl, (bC BK190.out 1).trans rfl, (bC BK190.out 2).trans rfl, (bC BK190.out 3).trans rfl, (bC BK190.out 4).trans rfl, (bC BK190.out 5).trans rfl, (bC BK190.out 6).trans rfl, (bC BK190.out 7).trans rfl, (bC BK190.out 8).trans rfl, (bC BK190.out 9).trans rfl, (bC BK190.out 10).trans rfl, (bC BK190.out 11).trans rfl, (bC BK190.out 12).trans rfl, (bC BK190.out 13).trans rfl, (bC BK190.out 14).trans rfl⟩ (fun hHeld => ?_)
           clear hK K
           refine norm_ (a' := ?_) ?_ ?_
           rotate_left
           ·show Act.put _ (some 52) _ = _
            simp only [Act.put, sA_, sZ_, sS_, i64_w, i32_w]
            rfl
           refine one_ (i := 4) (N := some 53) #[true, true, true, true, true, false, false, false] rfl rfl (one_of HT_.out (by kernel_rfl)) (by decide) (fun K hK => ?_)
           refine value_ (w1 := ?_) (v := ?_) (by rfl) rfl ?_ ?_
           rotate_left 2
           ·go_simp
            constructor
            ·rfl
            ·rfl
           refine hK.out _ _ ⟨(bC (bA BK186.out _) 0).trans rfl, (bC (bA BK186.out _) 1).trans rfl, (bC (bA BK186.out _) 2).trans rfl, (bC (bA BK186.out _) 3).trans rfl, (bC (bA BK186.out _) 4).trans rfl, (bC (bA BK190.out _) 0).trans rfl, (bC (bA BK190.out _) 1).trans rfl, (bC (bA BK190.out _) 2).trans rfl, (bC (bA BK190.out _) 3).trans rfl, (bC (bA BK190.out _) 4).trans rfl, (bC (bA BK190.out _) 5).trans rfl, (bC (bA BK190.out _) 6).trans rfl, (bC (bA BK190.out _) 7).trans rfl, (bC (bA BK190.out _) 8).trans rfl, (bC (bA BK190.out _) 9).trans rfl, (bC (bA BK190.out _) 10).trans rfl, (bC (bA BK190.out _) 11).trans rfl, (bC (bA BK190.out _) 12).trans rfl, (bC (bA BK190.out _) 13).trans rfl, (bC (bA BK190.out _) 14).trans rfl⟩ (fun hHeld => ?_)
           clear hK K
           refine norm_ (a' := ?_) ?_ ?_
           rotate_left
           ·show Act.put _ (some 53) _ = _
            simp only [Act.put, sA_, sZ_, sS_, i64_w, i32_w]
            rfl
           refine one_ (i := 5) (N := some 54) #[true, true, true, true, true, true, false, false] rfl rfl (one_of HT_.out (by kernel_rfl)) (by decide) (fun K hK => ?_)
           refine Kd.N_append_step k59 (w0 := w) w.heap.size (by rfl) (.tmp 50) (.tmp 53) 41 59 (.agg #[(.int .i64 0), (.string ⟨#[]⟩), (.slice none 0 0), (.int .i64 0), (.int .i64 0), (.string ⟨#[]⟩), (.int .i64 0), (.int .i64 0), (.string ⟨#[]⟩), (.int .i64 0), (.string ⟨#[]⟩), (.int .i64 0), (.string ⟨#[]⟩), (.int .i64 0), (.int .i64 0), (.slice none 0 0)]) 200 rfl Tryd.underlying41 info59 rfl (by decide) (by omega) u187003 x187003_3 (⟨t191, (⟨t192, t193⟩ : S39), t196, (⟨t197, t198, t199⟩ : S53), (⟨t200, t201, t202⟩ : S53), t203, (⟨(⟨t204, t205, t206⟩ : S53), t207, t208⟩ : S57)⟩ : S59) [.int .i64 t191, .string t192, .slice Ao50 t193.length co50, .int .i64 t196, .int .i64 t197, .string t198, .int .i64 t199, .int .i64 t200, .string t201, .int .i64 t202, .string t203, .int .i64 t204, .string t205, .int .i64 t206, .int .i64 t207, .slice Ao51 t208.length co51] (fun k_ => (w.heap.size ≤ k_) ∧ some k_ ≠ (u187001 : Value).ownBlock ∧ k_ ≠ gb180 ∧ k_ ≠ gb181 ∧ k_ ≠ gb186 ∧ k_ ≠ gb190) (fun k_ => ((fun k_ => (w.heap.size ≤ k_) ∧ some k_ ≠ (u187001 : Value).ownBlock ∧ k_ ≠ gb180 ∧ k_ ≠ gb181 ∧ k_ ≠ gb186 ∧ k_ ≠ gb190)) k_ ∧ some k_ ≠ (u187003 : Value).ownBlock) rfl rfl ?aP (fun _ hk => hk) ?aF ?aO ?aB ?aS ?aL ?_
           (case aP => exact (k59_mkF _ _ (⟨t191, (⟨t192, t193⟩ : S39), t196, (⟨t197, t198, t199⟩ : S53), (⟨t200, t201, t202⟩ : S53), t203, (⟨(⟨t204, t205, t206⟩ : S53), t207, t208⟩ : S57)⟩ : S59) (Kd.R_reads' (Kd.R_mono (ok' := (fun k_ => ((fun k_ => (w.heap.size ≤ k_) ∧ some k_ ≠ (u187001 : Value).ownBlock ∧ k_ ≠ gb180 ∧ k_ ≠ gb181 ∧ k_ ≠ gb186 ∧ k_ ≠ gb190)) k_ ∧ some k_ ≠ (u187003 : Value).ownBlock)) (Kd.R_types (Kd.R_types (Kd.R_types (Kd.R_types (Kd.R_apart' (HO195.out) (Kd.N_typed HO_187003.out) (by decide)) BK180.out (by decide)) BK181.out (by decide)) BK186.out (by decide)) BK190.out (by decide)) (fun k_ hk => ⟨⟨hk.1.1.1.1.1.1.1, ⟨hk.1.1.1.1.1.2, ⟨hk.1.1.1.2, ⟨hk.1.1.2, ⟨hk.1.2, hk.2⟩⟩⟩⟩⟩, hk.1.1.1.1.2⟩))).2.1 (Kd.R_F (Kd.R_mono (ok' := (fun k_ => ((fun k_ => (w.heap.size ≤ k_) ∧ some k_ ≠ (u187001 : Value).ownBlock ∧ k_ ≠ gb180 ∧ k_ ≠ gb181 ∧ k_ ≠ gb186 ∧ k_ ≠ gb190)) k_ ∧ some k_ ≠ (u187003 : Value).ownBlock)) (Kd.R_types (Kd.R_types (Kd.R_types (Kd.R_types (Kd.R_apart' (HO195.out) (Kd.N_typed HO_187003.out) (by decide)) BK180.out (by decide)) BK181.out (by decide)) BK186.out (by decide)) BK190.out (by decide)) (fun k_ hk => ⟨⟨hk.1.1.1.1.1.1.1, ⟨hk.1.1.1.1.1.2, ⟨hk.1.1.1.2, ⟨hk.1.1.2, ⟨hk.1.2, hk.2⟩⟩⟩⟩⟩, hk.1.1.1.1.2⟩))) (Kd.N_reads' (Kd.N_mono (ok' := (fun k_ => ((fun k_ => (w.heap.size ≤ k_) ∧ some k_ ≠ (u187001 : Value).ownBlock ∧ k_ ≠ gb180 ∧ k_ ≠ gb181 ∧ k_ ≠ gb186 ∧ k_ ≠ gb190)) k_ ∧ some k_ ≠ (u187003 : Value).ownBlock)) (HO210.out) (fun k_ hk => ⟨⟨hk.1, ⟨hk.2.2.1, ⟨hk.2.2.2.2.1, ⟨hk.2.2.2.2.2.1, ⟨hk.2.2.2.2.2.2.1, hk.2.2.2.2.2.2.2⟩⟩⟩⟩⟩, hk.2.2.2.1⟩))).2.1 (Kd.N_F (Kd.N_mono (ok' := (fun k_ => ((fun k_ => (w.heap.size ≤ k_) ∧ some k_ ≠ (u187001 : Value).ownBlock ∧ k_ ≠ gb180 ∧ k_ ≠ gb181 ∧ k_ ≠ gb186 ∧ k_ ≠ gb190)) k_ ∧ some k_ ≠ (u187003 : Value).ownBlock)) (HO210.out) (fun k_ hk => ⟨⟨hk.1, ⟨hk.2.2.1, ⟨hk.2.2.2.2.1, ⟨hk.2.2.2.2.2.1, ⟨hk.2.2.2.2.2.2.1, hk.2.2.2.2.2.2.2⟩⟩⟩⟩⟩, hk.2.2.2.1⟩)))))
           (case aB => exact (by repeat (first | (with_reducible first | exact HB.out | apply lA_ | apply pD | apply lD_ | refine lS_ ?_ GE180.out | refine lS_ ?_ GE181.out | refine lS_ ?_ GE186.out | refine lS_ ?_ GE190.out) | exact HB.out)))
           (case aF => exact (fun k_ hk => ⟨(Nat.le_trans (lZ_ (by repeat (first | (with_reducible first | exact HB.out | apply lA_ | apply pD | apply lD_ | refine lS_ ?_ GE180.out | refine lS_ ?_ GE181.out | refine lS_ ?_ GE186.out | refine lS_ ?_ GE190.out) | exact HB.out))) hk), Kd.fresh' (Kd.R_lt (by (with_reducible repeat (first | apply Kd.R_alloc | apply Kd.R_drewN | apply Kd.R_drew)); exact HO_187001.out)) k_ hk, Kd.freshB (g := gb180) (o := .cells #[.int .i64 a0_0, .slice A0_1 l0_1.length c0_1, .int .i64 a0_2, .slice (some ad189) l0_3.length c0_3] 36 (0, 0)) (by (with_reducible repeat (first | refine bDN ?_ _ | refine bD ?_ | refine bA ?_ _)); exact BK180.out) k_ hk, Kd.freshB (g := gb181) (o := .cells #[.string (⟨#[]⟩ : ByteArray), .slice none 0 0, .int .i64 0, .slice none 0 0, .int .i64 0] 43 (0, 0)) (by (with_reducible repeat (first | refine bDN ?_ _ | refine bD ?_ | refine bA ?_ _)); exact BK181.out) k_ hk, Kd.freshB (g := gb186) (o := .cells #[.string t182, u187001, .int .i64 x187002_15, u187003, .int .i64 0] 43 (0, 0)) (by (with_reducible repeat (first | refine bDN ?_ _ | refine bD ?_ | refine bA ?_ _)); exact BK186.out) k_ hk, Kd.freshB (g := gb190) (o := .cells #[.int .i64 ((rd_T86 l0_3 x45_3).f0), .int .i64 ((rd_T86 l0_3 x45_3).f1), .int .i64 ((rd_T86 l0_3 x45_3).f2.f0), .slice A189_3 ((rd_T86 l0_3 x45_3).f2.f1).length c189_3, .int .i64 ((rd_T86 l0_3 x45_3).f3.f0), .int .i64 ((rd_T86 l0_3 x45_3).f3.f1), .int .i64 ((rd_T86 l0_3 x45_3).f3.f2), .int .i64 ((rd_T86 l0_3 x45_3).f4.f0), .int .i64 ((rd_T86 l0_3 x45_3).f4.f1), .int .i64 ((rd_T86 l0_3 x45_3).f4.f2), .int .i64 ((rd_T86 l0_3 x45_3).f5.f0.f0), .int .i64 ((rd_T86 l0_3 x45_3).f5.f0.f1), .int .i64 ((rd_T86 l0_3 x45_3).f5.f0.f2), .int .i64 ((rd_T86 l0_3 x45_3).f5.f1), .slice A189_14 ((rd_T86 l0_3 x45_3).f5.f2).length c189_14] 86 (0, 0)) (by (with_reducible repeat (first | refine bDN ?_ _ | refine bD ?_ | refine bA ?_ _)); exact BK190.out) k_ hk⟩))
           (case aO => exact (by (with_reducible repeat (first | apply Kd.N_alloc | apply Kd.N_drewN | apply Kd.N_drew)); exact Kd.N_mono HO_187003.out (fun _ hk => ⟨hk.1.1.1, ⟨hk.1.1.2.1, ⟨hk.1.1.2.2.1, ⟨hk.1.1.2.2.2.1, ⟨hk.1.1.2.2.2.2.1, hk.1.1.2.2.2.2.2⟩⟩⟩⟩⟩)))
           (case aS => exact (lZ_ (by repeat (first | (with_reducible first | exact HB.out | apply lA_ | apply pD | apply lD_ | refine lS_ ?_ GE180.out | refine lS_ ?_ GE181.out | refine lS_ ?_ GE186.out | refine lS_ ?_ GE190.out) | exact HB.out))))
           (case aL => have := LMc40.out; omega)
           intro v212 w49 ho hb hg hat
           rw [← Ny211.out] at ho
           have n0_ := aK_ (Kd.R_over' (by (with_reducible repeat (first | apply Kd.R_alloc | apply Kd.R_drewN | apply Kd.R_drew)); exact HO_187001.out) (Kd.N_typed (by (with_reducible repeat (first | apply Kd.N_alloc | apply Kd.N_drewN | apply Kd.N_drew)); exact HO_187003.out)) (by decide) hg)
           have n1_ := aK_ (bG_ (g := gb180) (o := .cells #[.int .i64 a0_0, .slice A0_1 l0_1.length c0_1, .int .i64 a0_2, .slice (some ad189) l0_3.length c0_3] 36 (0, 0)) (by (with_reducible repeat (first | refine bDN ?_ _ | refine bD ?_ | refine bA ?_ _)); exact BK180.out) hg (Kd.N_ne HO_187003.out BK180.out (by decide)))
           have n2_ := aK_ (bG_ (g := gb181) (o := .cells #[.string (⟨#[]⟩ : ByteArray), .slice none 0 0, .int .i64 0, .slice none 0 0, .int .i64 0] 43 (0, 0)) (by (with_reducible repeat (first | refine bDN ?_ _ | refine bD ?_ | refine bA ?_ _)); exact BK181.out) hg (Kd.N_ne HO_187003.out BK181.out (by decide)))
           have n3_ := aK_ (bG_ (g := gb186) (o := .cells #[.string t182, u187001, .int .i64 x187002_15, u187003, .int .i64 0] 43 (0, 0)) (by (with_reducible repeat (first | refine bDN ?_ _ | refine bD ?_ | refine bA ?_ _)); exact BK186.out) hg (Kd.N_ne HO_187003.out BK186.out (by decide)))
           have n4_ := aK_ (bG_ (g := gb190) (o := .cells #[.int .i64 ((rd_T86 l0_3 x45_3).f0), .int .i64 ((rd_T86 l0_3 x45_3).f1), .int .i64 ((rd_T86 l0_3 x45_3).f2.f0), .slice A189_3 ((rd_T86 l0_3 x45_3).f2.f1).length c189_3, .int .i64 ((rd_T86 l0_3 x45_3).f3.f0), .int .i64 ((rd_T86 l0_3 x45_3).f3.f1), .int .i64 ((rd_T86 l0_3 x45_3).f3.f2), .int .i64 ((rd_T86 l0_3 x45_3).f4.f0), .int .i64 ((rd_T86 l0_3 x45_3).f4.f1), .int .i64 ((rd_T86 l0_3 x45_3).f4.f2), .int .i64 ((rd_T86 l0_3 x45_3).f5.f0.f0), .int .i64 ((rd_T86 l0_3 x45_3).f5.f0.f1), .int .i64 ((rd_T86 l0_3 x45_3).f5.f0.f2), .int .i64 ((rd_T86 l0_3 x45_3).f5.f1), .slice A189_14 ((rd_T86 l0_3 x45_3).f5.f2).length c189_14] 86 (0, 0)) (by (with_reducible repeat (first | refine bDN ?_ _ | refine bD ?_ | refine bA ?_ _)); exact BK190.out) hg (Kd.N_ne HO_187003.out BK190.out (by decide)))
           have n5_ := aK_ (hb)
           have n6_ := aK_ (ho)
           clear HO_187001
           clear BK180
           clear BK181
           clear BK186
           clear BK190
           clear HB
           clear HO_187003
           clear HO195
           clear HO210
           have HO_187001 := n0_
           have BK180 := n1_
           have BK181 := n2_
           have BK186 := n3_
           have BK190 := n4_
           have HB := n5_
           have HO213 := n6_
           clear n0_ n1_ n2_ n3_ n4_ n5_ n6_
           clear ho hb hg hat
           obtain ⟨Ao52, co52, eo52⟩ := Kd.N_slice HO213.out
           (first | subst eo52 | (injection eo52 with f1_ f2_ f3_; have f4_ := f1_.symm; have f5_ := f3_.symm; clear f1_ f2_ f3_; subst f4_; subst f5_))
           refine hK.out _ _ ⟨(bC BK186.out 0).trans rfl, (bC BK186.out 1).trans rfl, (bC BK186.out 2).trans rfl, (bC BK186.out 3).trans rfl, (bC BK186.out 4).trans rfl, (bC BK190.out 0).trans rfl, (bC BK190.out 1).trans rfl, (bC BK190.out 2).trans rfl, (bC BK190.out 3).trans rfl, (bC BK190.out 4).trans rfl, (bC BK190.out 5).trans rfl, (bC BK190.out 6).trans rfl, (bC BK190.out 7).trans rfl, (bC BK190.out 8).trans rfl, (bC BK190.out 9).trans rfl, (bC BK190.out 10).trans rfl, (bC BK190.out 11).trans rfl, (bC BK190.out 12).trans rfl, (bC BK190.out 13).trans rfl, (bC BK190.out 14).trans rfl⟩ (fun hHeld => ?_)
           clear hK K
           refine norm_ (a' := ?_) ?_ ?_
           rotate_left
           ·show Act.put _ (some 54) _ = _
            simp only [Act.put, sA_, sZ_, sS_, i64_w, i32_w]
            rfl
           refine pure_ (i := 6) (N := some 55) (v := ?_) (a' := ?_) #[true, true, true, true, true, true, true, false] rfl rfl (any_of HT_.out (by kernel_rfl)) (fun _ _ _ h => h) (Or.inl ⟨by rfl, ?_⟩) ?_ ?_
           rotate_left
           ·intro w'
            go_simp
            with_reducible rfl
           rotate_left
           ·simp only [Act.put, sA_, sZ_, sS_, i64_w, i32_w]
            rfl
           refine last_ (i := 7) (N := none) #[true, true, true, true, true, true, true, true] rfl rfl (one_of HT_.out (by kernel_rfl)) (by decide) (fun K hK => ?_)
           have hs53 : w49.cell? ⟨gb186, 3, none⟩ = some (u187003) := (bC BK186.out 3).trans rfl
           have hfs53 := bF BK186.out 3
           have hns53_0 := NB180_186.out
           have hns53_1 := NB181_186.out
           have hns53_3 := NB190_186.out
           have hms53_0 := NB186_180.out
           have hms53_1 := NB186_181.out
           have hms53_3 := NB186_190.out
           refine skip_ (w1 := ?_) (by rfl) rfl ?_ ?_
           rotate_left
           ·go_simp
            rfl
           refine hK.out _ _ ?_
           clear hK K
           refine done_ (done_of HT_.out (by kernel_rfl)) ?_
           try go_wp2
           go_roundg k3
           case measure => have := HJ2.out; have := HJ15.out; have := HK3.out; omega
           case rel => exact ⟨(wrap64 (x45_3 + 1)), (y211), (.slice Ao52 y211.length co52), (by first | rfl | (simp; done) | (simp [*]; done)), H', ⟨by have := HJ2.out; have := HJ15.out; have := HK3.out; omega⟩, ⟨by (with_reducible repeat (first | apply Kd.R_alloc | apply Kd.R_drewN | apply Kd.R_drew)); exact Kd.R_mono (Kd.R_far (p := ⟨gb186, 3, none⟩) (Kd.R_types HO_187001.out BK186.out (by decide)) (fun _ hk => hk.2) (.slice Ao52 y211.length co52)) (fun _ hk => hk.1.1)⟩, ⟨by (with_reducible repeat (first | apply Kd.N_alloc | apply Kd.N_drewN | apply Kd.N_drew)); exact Kd.N_mono (Kd.N_far (p := ⟨gb186, 3, none⟩) (Kd.N_mono HO213.out (fun k_ hk => (⟨hk, hk.2.2.2.2.1⟩ : _ ∧ k_ ≠ gb186))) (fun _ hk => hk.2) (.slice Ao52 y211.length co52)) (fun _ hk => ⟨hk.1.1, ⟨hk.1.2.1, ⟨hk.1.2.2.1, ⟨hk.1.2.2.2.1, hk.1.2.2.2.2.1⟩⟩⟩⟩)⟩, ⟨by (with_reducible repeat (first | refine bDN ?_ _ | refine bD ?_ | refine bA ?_ _)); refine blk_far ?_ NB180_186.out _; (with_reducible repeat (first | refine bDN ?_ _ | refine bD ?_ | refine bA ?_ _)); exact BK180.out⟩, ⟨by (with_reducible repeat (first | refine bDN ?_ _ | refine bD ?_ | refine bA ?_ _)); refine blk_far ?_ NB181_186.out _; (with_reducible repeat (first | refine bDN ?_ _ | refine bD ?_ | refine bA ?_ _)); exact BK181.out⟩, ⟨(by apply eC_; (with_reducible repeat (first | refine bDN ?_ _ | refine bD ?_ | refine bA ?_ _)); apply b2_; (with_reducible repeat (first | refine bDN ?_ _ | refine bD ?_ | refine bA ?_ _)); exact BK186.out; kernel_rfl)⟩, ⟨by repeat (first | (with_reducible first | exact HB.out | apply lA_ | apply pD | apply lD_ | refine lS_ ?_ GE180.out | refine lS_ ?_ GE181.out | refine lS_ ?_ GE186.out | refine lS_ ?_ GE190.out) | exact HB.out)⟩⟩
          ·rw [if_neg c40] at H
           exact absurd H (by simp)
         ·rw [if_neg c38] at H
          exact absurd H (by simp)
        ·rw [if_neg c37] at H
         exact absurd H (by simp)
       ·rw [if_neg c36] at H
        have c36b0 : decide (x45_3 < (l0_3.length : Int)) = false := decide_eq_false c36
        clear c36
        simp only [Option.some.injEq, Prod.mk.injEq] at H
        obtain ⟨rfl, rfl, rfl, rfl, rfl⟩ := H
        have hnb54 := NB186_180.out
        have hnc54 := NB180_186.out
        have hnb55 := NB186_181.out
        have hnc55 := NB181_186.out
        have hcz56_0 : wr.cell? ⟨gb186, 0, none⟩ = some (.string t182) := (bC BK186.out 0).trans rfl
        have hcz56_1 : wr.cell? ⟨gb186, 1, none⟩ = some (u187001) := (bC BK186.out 1).trans rfl
        have hcz56_2 : wr.cell? ⟨gb186, 2, none⟩ = some (.int .i64 x187002_15) := (bC BK186.out 2).trans rfl
        have hcz56_3 : wr.cell? ⟨gb186, 3, none⟩ = some (u187003) := (bC BK186.out 3).trans rfl
        have hcz56_4 : wr.cell? ⟨gb186, 4, none⟩ = some (.int .i64 0) := (bC BK186.out 4).trans rfl
        have hfz56_0 := bF BK186.out 0
        have hfz56_1 := bF BK186.out 1
        have hfz56_2 := bF BK186.out 2
        have hfz56_3 := bF BK186.out 3
        have hfz56_4 := bF BK186.out 4
        have hnb57 := NB181_180.out
        have hnc57 := NB180_181.out
        have hcz58_0 : wr.cell? ⟨gb181, 0, none⟩ = some (.string (⟨#[]⟩ : ByteArray)) := (bC BK181.out 0).trans rfl
        have hcz58_1 : wr.cell? ⟨gb181, 1, none⟩ = some (.slice none 0 0) := (bC BK181.out 1).trans rfl
        have hcz58_2 : wr.cell? ⟨gb181, 2, none⟩ = some (.int .i64 0) := (bC BK181.out 2).trans rfl
        have hcz58_3 : wr.cell? ⟨gb181, 3, none⟩ = some (.slice none 0 0) := (bC BK181.out 3).trans rfl
        have hcz58_4 : wr.cell? ⟨gb181, 4, none⟩ = some (.int .i64 0) := (bC BK181.out 4).trans rfl
        have hfz58_0 := bF BK181.out 0
        have hfz58_1 := bF BK181.out 1
        have hfz58_2 := bF BK181.out 2
        have hfz58_3 := bF BK181.out 3
        have hfz58_4 := bF BK181.out 4
        obtain ⟨Ao59, co59, eo59⟩ := Kd.R_slice HO_187001.out
        subst eo59
        obtain ⟨Ao60, co60, eo60⟩ := Kd.N_slice HO_187003.out
        subst eo60
        go_wp2
        refine bodyPost_ret (results_cell_row rfl _ _ gb181 43 #[.string t182, .slice Ao59 x187001_15.length co59, .int .i64 x187002_15, .slice Ao60 x187003_3.length co60, .int .i64 0] (0, 0) _ rfl ((by apply eC_; (with_reducible repeat (first | refine bDN ?_ _ | refine bD ?_ | refine bA ?_ _)); apply b2_; (with_reducible repeat (first | refine bDN ?_ _ | refine bD ?_ | refine bA ?_ _)); apply b2_; (with_reducible repeat (first | refine bDN ?_ _ | refine bD ?_ | refine bA ?_ _)); apply b2_; (with_reducible repeat (first | refine bDN ?_ _ | refine bD ?_ | refine bA ?_ _)); apply b2_; (with_reducible repeat (first | refine bDN ?_ _ | refine bD ?_ | refine bA ?_ _)); apply b2_; (with_reducible repeat (first | refine bDN ?_ _ | refine bD ?_ | refine bA ?_ _)); exact BK181.out; kernel_rfl)) Tryd.underlying43 rfl (by kernel_rfl)) rfl ?_
        exact ⟨_, _, by first | rfl | (simp [errW_none, errW_some] <;> rfl) | (simp [*, errW_none, errW_some] <;> rfl), by (with_reducible repeat (first | apply Kd.R_alloc | apply Kd.R_drewN | apply Kd.R_drew)); exact Kd.R_mono (Kd.R_far (p := ⟨gb181, 4, none⟩) (Kd.R_far (p := ⟨gb181, 3, none⟩) (Kd.R_far (p := ⟨gb181, 2, none⟩) (Kd.R_far (p := ⟨gb181, 1, none⟩) (Kd.R_far (p := ⟨gb181, 0, none⟩) (Kd.R_types HO_187001.out BK181.out (by decide)) (fun _ hk => hk.2) (.string t182)) (fun _ hk => hk.2) (.slice Ao59 x187001_15.length co59)) (fun _ hk => hk.2) (.int .i64 x187002_15)) (fun _ hk => hk.2) (.slice Ao60 x187003_3.length co60)) (fun _ hk => hk.2) (.int .i64 0)) (fun _ hk => hk.1), by (with_reducible repeat (first | apply Kd.N_alloc | apply Kd.N_drewN | apply Kd.N_drew)); exact Kd.N_mono (Kd.N_far (p := ⟨gb181, 4, none⟩) (Kd.N_far (p := ⟨gb181, 3, none⟩) (Kd.N_far (p := ⟨gb181, 2, none⟩) (Kd.N_far (p := ⟨gb181, 1, none⟩) (Kd.N_far (p := ⟨gb181, 0, none⟩) (Kd.N_mono HO_187003.out (fun k_ hk => (⟨hk, hk.2.2.2.1⟩ : _ ∧ k_ ≠ gb181))) (fun _ hk => hk.2) (.string t182)) (fun _ hk => hk.2) (.slice Ao59 x187001_15.length co59)) (fun _ hk => hk.2) (.int .i64 x187002_15)) (fun _ hk => hk.2) (.slice Ao60 x187003_3.length co60)) (fun _ hk => hk.2) (.int .i64 0)) (fun _ hk => ⟨hk.1.1, hk.1.2.1⟩), by repeat (first | (with_reducible first | exact HB.out | apply lA_ | apply pD | apply lD_ | refine lS_ ?_ GE180.out | refine lS_ ?_ GE181.out | refine lS_ ?_ GE186.out) | exact HB.out)⟩
end Go.Proofs.YtdbpboipiceifaaDoorPSP
