import Derived.Test.YtdbpboipiceifaaDoorZ1PSPx0
import Derived.Test.YtdbpboipiceifaaDoorZ1PSPx1
namespace Go.Proofs.YtdbpboipiceifaaDoorPSP
open Go.RowKit Go.Proofs.YtdbpboipiceifaaDoorW.PrintWords Go.Proofs.YtdbpboipiceifaaDoorW.PrintLast Go.Proofs.YtdbpboipiceifaaDoorW.PrintMore
attribute [local go_sem] max2_int min2_int max_two min_two max_three min_three max_four min_four   -- for this text's walks alone
set_option linter.unusedVariables false
set_option linter.unusedSimpArgs false
def ergolaw13_A_Atom.l0 : Nat → List (S81) → Int → Int → ByteArray → List (S53) → Option (ByteArray × (List (S53)))
 | 0, _, _, _, _, _ => none
 | k + 1, x11, x12, x13, x117000, x117001 => if x13 < x12 then (if 0 ≤ x13 then (if x13 < (x11.length : Int) then ((ergolaw13_T_Term.f ((rd_T81 x11 x13).f0) ((rd_T81 x11 x13).f1) ((rd_T81 x11 x13).f2)).bind fun bt119 => (if x117001.length < 4398046511104 then (ergolaw13_A_Atom.l0 k x11 x12 (wrap64 (x13 + 1)) x117000 (x117001 ++ [(⟨bt119.1, bt119.2.1, bt119.2.2⟩ : S53)])) else (none))) else (none)) else (none)) else (if (x117001.length : Int) = 0 then (some (x117000, (([(⟨0, (⟨#[88]⟩ : ByteArray), 0⟩ : S53)] : List (S53))))) else (some (x117000, x117001)))
def ergolaw13_A_Atom.f (k : Nat) (a0_0 : Int) (l0_1 : List (S81)) : Option (ByteArray × (List (S53))) := (ergolaw13_Pred.f a0_0).bind fun t115 => (ergolaw13_A_Atom.l0 k l0_1 (l0_1.length : Int) 0 t115 ([] : List (S53)))
def ergolaw13_A_Atom.T5 : Bool × List (List Nat × List Nat) := (true, [([], []), ([0], [0]), ([], []), ([2], [2]), ([3], [3]), ([1, 4, 3], [1, 4]), ([0, 1, 2, 3, 4, 5], []), ([6, 5, 5, 0, 1, 2, 3, 4, 5], [5, 6])])
def ergolaw13_A_Atom.B5 : List Nat := [0, 1, 0, 4, 12, 31, 63, 127]
theorem ergolaw13_A_Atom.tab5 : rtab .any (opsOf Tryd.f31 5) = ergolaw13_A_Atom.T5 := by kernel_rfl
theorem ergolaw13_A_Atom.bits5 : waitsOk ergolaw13_A_Atom.T5.2 ergolaw13_A_Atom.B5 = true := by kernel_rfl
set_option maxHeartbeats 8000000 in
set_option maxRecDepth 100000 in
theorem ergolaw13_A_Atom.calls (k : Nat) (a0_0 : Int) (A0_1 : Option Addr) (c0_1 : Nat) (l0_1 : List (S81)) (r1 : ByteArray) (r2 : List (S53)) (w : World) (hr0_1 : Kd.C k81 w A0_1 l0_1.length l0_1) (hc0_1 : l0_1.length ≤ c0_1) (h : ergolaw13_A_Atom.f k a0_0 l0_1 = some (r1, r2)) :
  Calls Tryd.prog 31 #[.agg #[.int .i64 a0_0, .slice A0_1 l0_1.length c0_1]] w fun e w' => ∃ v1_ : Value, e = .returned (.agg #[.string r1, v1_]) ∧ Kd.R k53 53 w' w.heap.size (fun _ => True) v1_ r2 ∧ Below w.heap.size w w' := by
 have hu33 := Tryd.underlying33
 have hu39 := Tryd.underlying39
 have hu81 := Tryd.underlying81
 have hu53 := Tryd.underlying53
 have HR0_1 := aK_ hr0_1
 have HC0_1 := aK_ hc0_1
 clear hr0_1 hc0_1
 have HB := aK_ (Below.refl w.heap.size w)
 have H : ((ergolaw13_Pred.f a0_0).bind fun t115 => (ergolaw13_A_Atom.l0 k l0_1 (l0_1.length : Int) 0 t115 ([] : List (S53)))) = some (r1, r2) := h
 clear h
 replace H := Option.bind_eq_some_iff.mp H
 obtain ⟨t115, A20, H⟩ := H
 replace H : (ergolaw13_A_Atom.l0 k l0_1 (l0_1.length : Int) 0 t115 ([] : List (S53))) = some (r1, r2) := H
 have A2 := aK_ A20
 clear A20
 have H' := aK_ H
 clear H
 go_enter Tryd.func31, Tryd.ntmps31
 go_wp2_with (first | ((with_reducible refine gate_dst (N := 1) rfl ?_); refine box_event ?hg (N := 1) ?hd (cs := #[.int .i64 a0_0, .slice A0_1 l0_1.length c0_1]) (t := 33) ?hr ?_; (case hd => rfl); (case hg => rfl); (case hr => first | (go_simp; done) | (go_simp; rfl)); intro gb113 hg w3 hbox hb; have n0_ := aK_ (lT_ (by repeat (first | (with_reducible first | exact HB.out | apply lA_ | apply pD | apply lD_) | exact HB.out)) hb); have n1_ := aK_ (hbox); have n2_ := aK_ ((by rw [hg]; exact (lZ_ (by repeat (first | (with_reducible first | exact HB.out | apply lA_ | apply pD | apply lD_) | exact HB.out))) : w.heap.size ≤ gb113)); have n3_ := aK_ ((by rw [hg]; exact (lZ_ (by repeat (first | (with_reducible first | exact HB.out | apply lA_ | apply pD | apply lD_) | exact HB.out))) : w.heap.size ≤ gb113)); clear HB; have HB := n0_; have BK113 := n1_; have GW113 := n2_; have GE113 := n3_; clear n0_ n1_ n2_ n3_; clear hb hbox hg) | ((with_reducible refine gate_dst (N := 2) rfl ?_); refine box_event ?hg (N := 2) ?hd (cs := #[.string (⟨#[]⟩ : ByteArray), .slice none 0 0]) (t := 39) ?hr ?_; (case hd => rfl); (case hg => rfl); (case hr => first | (go_simp; done) | (go_simp; rfl)); intro gb114 hg w4 hbox hb; have n0_ := aK_ (bB (by (with_reducible repeat (first | refine bDN ?_ _ | refine bD ?_ | refine bA ?_ _)); exact BK113.out) hb); have n1_ := aK_ (lT_ (by repeat (first | (with_reducible first | exact HB.out | apply lA_ | apply pD | apply lD_ | refine lS_ ?_ GE113.out) | exact HB.out)) hb); have n2_ := aK_ (hbox); have n3_ := aK_ ((by rw [hg]; exact (lZ_ (by repeat (first | (with_reducible first | exact HB.out | apply lA_ | apply pD | apply lD_ | refine lS_ ?_ GE113.out) | exact HB.out))) : w.heap.size ≤ gb114)); have n4_ := aK_ ((by rw [hg]; exact (lZ_ (by repeat (first | (with_reducible first | exact HB.out | apply lA_ | apply pD | apply lD_ | refine lS_ ?_ GE113.out) | exact HB.out))) : w.heap.size ≤ gb114)); have n5_ := aK_ ((by rw [hg]; exact Nat.ne_of_lt (blk_lt (g := gb113) (o := .cells #[.int .i64 a0_0, .slice A0_1 l0_1.length c0_1] 33 (0, 0)) (by (with_reducible repeat (first | refine bDN ?_ _ | refine bD ?_ | refine bA ?_ _)); exact BK113.out)) : gb113 ≠ gb114)); have n6_ := aK_ ((by rw [hg]; exact Nat.ne_of_gt (blk_lt (g := gb113) (o := .cells #[.int .i64 a0_0, .slice A0_1 l0_1.length c0_1] 33 (0, 0)) (by (with_reducible repeat (first | refine bDN ?_ _ | refine bD ?_ | refine bA ?_ _)); exact BK113.out)) : gb114 ≠ gb113)); clear BK113; clear HB; have BK113 := n0_; have HB := n1_; have BK114 := n2_; have GW114 := n3_; have GE114 := n4_; have NB113_114 := n5_; have NB114_113 := n6_; clear n0_ n1_ n2_ n3_ n4_ n5_ n6_; clear hb hbox hg; have hnb5 := NB113_114.out; have hnc5 := NB114_113.out; have hcz6_0 : w4.cell? ⟨gb113, 0, none⟩ = some (.int .i64 a0_0) := (bC BK113.out 0).trans rfl; have hcz6_1 : w4.cell? ⟨gb113, 1, none⟩ = some (.slice A0_1 l0_1.length c0_1) := (bC BK113.out 1).trans rfl; have hfz6_0 := bF BK113.out 0; have hfz6_1 := bF BK113.out 1) | ((with_reducible refine gate_callee (f := 26) rfl ?_); refine goesL_ (some 8) rfl rfl Tryd.func26 (by kernel_rfl) rfl #[.int .i64 a0_0] rfl (by (try simp only [List.map_toArray, List.map_cons, List.map_nil]); first | done | rfl | (simp only [List.length_drop, List.length_take]; rfl)) ?_; (with_reducible refine (ergolaw13_Pred.calls a0_0 t115 _ A2.out).mono ?_); rintro e w7 ⟨rfl, hb⟩; refine ⟨_, rfl, ?_⟩; have n0_ := aK_ (bB (by (with_reducible repeat (first | refine bDN ?_ _ | refine bD ?_ | refine bA ?_ _)); exact BK113.out) hb); have n1_ := aK_ (bB (by (with_reducible repeat (first | refine bDN ?_ _ | refine bD ?_ | refine bA ?_ _)); exact BK114.out) hb); have n2_ := aK_ (lT_ (by repeat (first | (with_reducible first | exact HB.out | apply lA_ | apply pD | apply lD_ | refine lS_ ?_ GE113.out | refine lS_ ?_ GE114.out) | exact HB.out)) hb); clear BK113; clear BK114; clear HB; have BK113 := n0_; have BK114 := n1_; have HB := n2_; clear n0_ n1_ n2_; (try clear hb); (try clear hb2); (try clear hk); (try clear hi)) | ((with_reducible refine gate_dst (N := 3) rfl ?_); refine box_event ?hg (N := 3) ?hd (cs := #[.string (⟨#[]⟩ : ByteArray), .slice none 0 0]) (t := 39) ?hr ?_; (case hd => rfl); (case hg => rfl); (case hr => first | (go_simp; done) | (go_simp; rfl)); intro gb116 hg w8 hbox hb; have n0_ := aK_ (bB (by (with_reducible repeat (first | refine bDN ?_ _ | refine bD ?_ | refine bA ?_ _)); exact BK113.out) hb); have n1_ := aK_ (bB (by (with_reducible repeat (first | refine bDN ?_ _ | refine bD ?_ | refine bA ?_ _)); exact BK114.out) hb); have n2_ := aK_ (lT_ (by repeat (first | (with_reducible first | exact HB.out | apply lA_ | apply pD | apply lD_ | refine lS_ ?_ GE113.out | refine lS_ ?_ GE114.out) | exact HB.out)) hb); have n3_ := aK_ (hbox); have n4_ := aK_ ((by rw [hg]; exact (lZ_ (by repeat (first | (with_reducible first | exact HB.out | apply lA_ | apply pD | apply lD_ | refine lS_ ?_ GE113.out | refine lS_ ?_ GE114.out) | exact HB.out))) : w.heap.size ≤ gb116)); have n5_ := aK_ ((by rw [hg]; exact (lZ_ (by repeat (first | (with_reducible first | exact HB.out | apply lA_ | apply pD | apply lD_ | refine lS_ ?_ GE113.out | refine lS_ ?_ GE114.out) | exact HB.out))) : w.heap.size ≤ gb116)); have n6_ := aK_ ((by rw [hg]; exact Nat.ne_of_lt (blk_lt (g := gb113) (o := .cells #[.int .i64 a0_0, .slice A0_1 l0_1.length c0_1] 33 (0, 0)) (by (with_reducible repeat (first | refine bDN ?_ _ | refine bD ?_ | refine bA ?_ _)); exact BK113.out)) : gb113 ≠ gb116)); have n7_ := aK_ ((by rw [hg]; exact Nat.ne_of_gt (blk_lt (g := gb113) (o := .cells #[.int .i64 a0_0, .slice A0_1 l0_1.length c0_1] 33 (0, 0)) (by (with_reducible repeat (first | refine bDN ?_ _ | refine bD ?_ | refine bA ?_ _)); exact BK113.out)) : gb116 ≠ gb113)); have n8_ := aK_ ((by rw [hg]; exact Nat.ne_of_lt (blk_lt (g := gb114) (o := .cells #[.string (⟨#[]⟩ : ByteArray), .slice none 0 0] 39 (0, 0)) (by (with_reducible repeat (first | refine bDN ?_ _ | refine bD ?_ | refine bA ?_ _)); exact BK114.out)) : gb114 ≠ gb116)); have n9_ := aK_ ((by rw [hg]; exact Nat.ne_of_gt (blk_lt (g := gb114) (o := .cells #[.string (⟨#[]⟩ : ByteArray), .slice none 0 0] 39 (0, 0)) (by (with_reducible repeat (first | refine bDN ?_ _ | refine bD ?_ | refine bA ?_ _)); exact BK114.out)) : gb116 ≠ gb114)); clear BK113; clear BK114; clear HB; have BK113 := n0_; have BK114 := n1_; have HB := n2_; have BK116 := n3_; have GW116 := n4_; have GE116 := n5_; have NB113_116 := n6_; have NB116_113 := n7_; have NB114_116 := n8_; have NB116_114 := n9_; clear n0_ n1_ n2_ n3_ n4_ n5_ n6_ n7_ n8_ n9_; clear hb hbox hg; have hnb9 := NB116_113.out; have hnc9 := NB113_116.out; have hnb10 := NB116_114.out; have hnc10 := NB114_116.out; have hcz11_0 : w8.cell? ⟨gb116, 0, none⟩ = some (.string (⟨#[]⟩ : ByteArray)) := (bC BK116.out 0).trans rfl; have hcz11_1 : w8.cell? ⟨gb116, 1, none⟩ = some (.slice none 0 0) := (bC BK116.out 1).trans rfl; have hfz11_0 := bF BK116.out 0; have hfz11_1 := bF BK116.out 1; have hcz12_0 : w8.cell? ⟨gb113, 0, none⟩ = some (.int .i64 a0_0) := (bC BK113.out 0).trans rfl; have hcz12_1 : w8.cell? ⟨gb113, 1, none⟩ = some (.slice A0_1 l0_1.length c0_1) := (bC BK113.out 1).trans rfl; have hfz12_0 := bF BK113.out 0; have hfz12_1 := bF BK113.out 1))
 go_loopg [13] k (fun kq v13 w' => ∃ (x13_1 : Int) (x117001_1 : List (S53)) (u117001 : Value), v13 = .int .i64 x13_1 ∧ Aside0 (ergolaw13_A_Atom.l0 kq l0_1 (l0_1.length : Int) x13_1 t115 x117001_1 = some (r1, r2)) ∧ Aside0 (kq ≤ k) ∧ Aside0 (Kd.R k53 53 w' w.heap.size (fun _ => True) u117001 x117001_1) ∧ Aside0 (w'.heap[gb113]? = some (.cells #[.int .i64 a0_0, (.slice A0_1 l0_1.length c0_1)] 33 (0, 0))) ∧ Aside0 (w'.heap[gb114]? = some (.cells #[.string (⟨#[]⟩ : ByteArray), (.slice none 0 0)] 39 (0, 0))) ∧ Aside0 (w'.heap[gb116]? = some (.cells #[.string t115, u117001] 39 (0, 0))) ∧ Aside0 (Below w.heap.size w w'))
 case atStart => exact ⟨(0), (([] : List (S53))), (.slice none 0 0), (by first | rfl | (simp; done) | (simp [*]; done)), H', ⟨Nat.le_refl _⟩, ⟨by first | exact Kd.R_nil _ _ _ _ _ | exact Kd.N_nil _ _ _ _ _ | exact Kd.V_nil _ _ _ _ _ | exact Kd.Q_nil _ _ _ _ _ | exact Kd.S_nil _ _ _ _ _⟩, ⟨by (with_reducible repeat (first | refine bDN ?_ _ | refine bD ?_ | refine bA ?_ _)); refine blk_far ?_ NB113_116.out _; (with_reducible repeat (first | refine bDN ?_ _ | refine bD ?_ | refine bA ?_ _)); refine blk_far ?_ NB113_116.out _; (with_reducible repeat (first | refine bDN ?_ _ | refine bD ?_ | refine bA ?_ _)); exact BK113.out⟩, ⟨by (with_reducible repeat (first | refine bDN ?_ _ | refine bD ?_ | refine bA ?_ _)); refine blk_far ?_ NB114_116.out _; (with_reducible repeat (first | refine bDN ?_ _ | refine bD ?_ | refine bA ?_ _)); refine blk_far ?_ NB114_116.out _; (with_reducible repeat (first | refine bDN ?_ _ | refine bD ?_ | refine bA ?_ _)); exact BK114.out⟩, ⟨(by apply eC_; (with_reducible repeat (first | refine bDN ?_ _ | refine bD ?_ | refine bA ?_ _)); apply b2_; (with_reducible repeat (first | refine bDN ?_ _ | refine bD ?_ | refine bA ?_ _)); apply b2_; (with_reducible repeat (first | refine bDN ?_ _ | refine bD ?_ | refine bA ?_ _)); exact BK116.out; kernel_rfl)⟩, ⟨by repeat (first | (with_reducible first | exact HB.out | apply lA_ | apply pD | apply lD_ | refine lS_ ?_ GE113.out | refine lS_ ?_ GE114.out | refine lS_ ?_ GE116.out) | exact HB.out)⟩⟩
 case round =>
  clear H'
  try clear c1
  try clear c2
  try clear p2
  try clear c3
  try clear c5
  try clear c9
  try clear c10
  try clear hcz11_0
  try clear hcz11_1
  try clear hcz12_0
  try clear hcz12_1
  try clear hcz6_0
  try clear hcz6_1
  try clear hfz11_0
  try clear hfz11_1
  try clear hfz12_0
  try clear hfz12_1
  try clear hfz6_0
  try clear hfz6_1
  obtain ⟨x13_1, x117001_1, u117001, rfl, HA, HK1, HO_117001, BK113, BK114, BK116, HB⟩ := hrel
  cases gk with
  | zero => exact absurd HA.out (by simp [ergolaw13_A_Atom.l0])
  | succ k1 =>
   have H := HA.out
   clear HA
   simp only [ergolaw13_A_Atom.l0] at H
   by_cases c13 : x13_1 < (l0_1.length : Int)
   ·rw [if_pos c13] at H
    have c13b0 : decide (x13_1 < (l0_1.length : Int)) = true := decide_eq_true c13
    clear c13
    by_cases c14 : 0 ≤ x13_1
    ·rw [if_pos c14] at H
     have c14b0 : decide (0 ≤ x13_1) = true := decide_eq_true c14
     clear c14
     by_cases c15 : x13_1 < (l0_1.length : Int)
     ·rw [if_pos c15] at H
      have c15b0 : decide (x13_1 < (l0_1.length : Int)) = true := decide_eq_true c15
      clear c15
      replace H := Option.bind_eq_some_iff.mp H
      obtain ⟨⟨t119, t120, t121⟩, A160, H⟩ := H
      replace H : (if x117001_1.length < 4398046511104 then (ergolaw13_A_Atom.l0 k1 l0_1 (l0_1.length : Int) (wrap64 (x13_1 + 1)) t115 (x117001_1 ++ [(⟨t119, t120, t121⟩ : S53)])) else (none)) = some (r1, r2) := H
      have A16 := aK_ A160
      clear A160
      by_cases c17 : x117001_1.length < 4398046511104
      ·rw [if_pos c17] at H
       have LMc17 := aK_ c17
       clear c17
       obtain ⟨y122, hy122⟩ : ∃ y_ : List (S53), y_ = (x117001_1 ++ [(⟨t119, t120, t121⟩ : S53)]) := ⟨_, rfl⟩
       replace H : (ergolaw13_A_Atom.l0 k1 l0_1 (l0_1.length : Int) (wrap64 (x13_1 + 1)) t115 y122) = some (r1, r2) := by first | (rw [hy122]; with_reducible exact H) | (have H2_ := (Option.bind_some _ _).symm.trans H; rw [hy122]; with_reducible exact H2_) | (have H2_ := (Option.bind_some _ _).symm.trans H; with_reducible exact H2_) | with_reducible exact H | (rw [hy122]; exact H) | exact H
       have Ny122 := aK_ hy122
       clear hy122
       have H' := aK_ H
       clear H
       have p117 : 0 ≤ (x13_1 : Int) := of_decide_eq_true (by first | (with_reducible assumption) | assumption)
       have q117 : x13_1 < (l0_1.length : Int) := of_decide_eq_true (by first | (with_reducible assumption) | assumption)
       obtain ⟨ad117, e117, hx117_0, hx117_1, hx117_2⟩ := at_T81 HR0_1.out x13_1 p117 q117
       cases e117
       replace hx117_0 := (HB.out.cell (wb_ w _ hx117_0)).trans hx117_0
       replace hx117_1 := (HB.out.cell (wb_ w _ hx117_1)).trans hx117_1
       replace hx117_2 := (HB.out.cell (wb_ w _ hx117_2)).trans hx117_2
       replace p117 := eq_true p117
       replace q117 := eq_true q117
       try go_wp2_with (first | ((with_reducible refine gate_dst (N := 5) rfl ?_); refine box_event ?hg (N := 5) ?hd (cs := #[.int .i64 0, .int .i64 0, .int .i64 0]) (t := 81) ?hr ?_; (case hd => rfl); (case hg => rfl); (case hr => first | (go_simp; done) | (go_simp; rfl)); intro gb118 hg w18 hbox hb; have n0_ := aK_ (Kd.R_below (by (with_reducible repeat (first | apply Kd.R_alloc | apply Kd.R_drewN | apply Kd.R_drew)); exact HO_117001.out) hb); have n1_ := aK_ (bB (by (with_reducible repeat (first | refine bDN ?_ _ | refine bD ?_ | refine bA ?_ _)); exact BK113.out) hb); have n2_ := aK_ (bB (by (with_reducible repeat (first | refine bDN ?_ _ | refine bD ?_ | refine bA ?_ _)); exact BK114.out) hb); have n3_ := aK_ (bB (by (with_reducible repeat (first | refine bDN ?_ _ | refine bD ?_ | refine bA ?_ _)); exact BK116.out) hb); have n4_ := aK_ (lT_ (by repeat (first | (with_reducible first | exact HB.out | apply lA_ | apply pD | apply lD_ | refine lS_ ?_ GE113.out | refine lS_ ?_ GE114.out | refine lS_ ?_ GE116.out) | exact HB.out)) hb); have n5_ := aK_ (hbox); have n6_ := aK_ ((by rw [hg]; exact (lZ_ (by repeat (first | (with_reducible first | exact HB.out | apply lA_ | apply pD | apply lD_ | refine lS_ ?_ GE113.out | refine lS_ ?_ GE114.out | refine lS_ ?_ GE116.out) | exact HB.out))) : w.heap.size ≤ gb118)); have n7_ := aK_ ((by rw [hg]; exact (lZ_ (by repeat (first | (with_reducible first | exact HB.out | apply lA_ | apply pD | apply lD_ | refine lS_ ?_ GE113.out | refine lS_ ?_ GE114.out | refine lS_ ?_ GE116.out) | exact HB.out))) : w.heap.size ≤ gb118)); have n8_ := aK_ ((by rw [hg]; exact Nat.ne_of_lt (blk_lt (g := gb113) (o := .cells #[.int .i64 a0_0, .slice (some ad117) l0_1.length c0_1] 33 (0, 0)) (by (with_reducible repeat (first | refine bDN ?_ _ | refine bD ?_ | refine bA ?_ _)); exact BK113.out)) : gb113 ≠ gb118)); have n9_ := aK_ ((by rw [hg]; exact Nat.ne_of_gt (blk_lt (g := gb113) (o := .cells #[.int .i64 a0_0, .slice (some ad117) l0_1.length c0_1] 33 (0, 0)) (by (with_reducible repeat (first | refine bDN ?_ _ | refine bD ?_ | refine bA ?_ _)); exact BK113.out)) : gb118 ≠ gb113)); have n10_ := aK_ ((by rw [hg]; exact Nat.ne_of_lt (blk_lt (g := gb114) (o := .cells #[.string (⟨#[]⟩ : ByteArray), .slice none 0 0] 39 (0, 0)) (by (with_reducible repeat (first | refine bDN ?_ _ | refine bD ?_ | refine bA ?_ _)); exact BK114.out)) : gb114 ≠ gb118)); have n11_ := aK_ ((by rw [hg]; exact Nat.ne_of_gt (blk_lt (g := gb114) (o := .cells #[.string (⟨#[]⟩ : ByteArray), .slice none 0 0] 39 (0, 0)) (by (with_reducible repeat (first | refine bDN ?_ _ | refine bD ?_ | refine bA ?_ _)); exact BK114.out)) : gb118 ≠ gb114)); have n12_ := aK_ ((by rw [hg]; exact Nat.ne_of_lt (blk_lt (g := gb116) (o := .cells #[.string t115, u117001] 39 (0, 0)) (by (with_reducible repeat (first | refine bDN ?_ _ | refine bD ?_ | refine bA ?_ _)); exact BK116.out)) : gb116 ≠ gb118)); have n13_ := aK_ ((by rw [hg]; exact Nat.ne_of_gt (blk_lt (g := gb116) (o := .cells #[.string t115, u117001] 39 (0, 0)) (by (with_reducible repeat (first | refine bDN ?_ _ | refine bD ?_ | refine bA ?_ _)); exact BK116.out)) : gb118 ≠ gb116)); clear HO_117001; clear BK113; clear BK114; clear BK116; clear HB; have HO_117001 := n0_; have BK113 := n1_; have BK114 := n2_; have BK116 := n3_; have HB := n4_; have BK118 := n5_; have GW118 := n6_; have GE118 := n7_; have NB113_118 := n8_; have NB118_113 := n9_; have NB114_118 := n10_; have NB118_114 := n11_; have NB116_118 := n12_; have NB118_116 := n13_; clear n0_ n1_ n2_ n3_ n4_ n5_ n6_ n7_ n8_ n9_ n10_ n11_ n12_ n13_; clear hb hbox hg; have hnb19 := NB118_113.out; have hnc19 := NB113_118.out; have hnb20 := NB118_114.out; have hnc20 := NB114_118.out; have hnb21 := NB118_116.out; have hnc21 := NB116_118.out; have hcz22_0 : w18.cell? ⟨gb118, 0, none⟩ = some (.int .i64 0) := (bC BK118.out 0).trans rfl; have hcz22_1 : w18.cell? ⟨gb118, 1, none⟩ = some (.int .i64 0) := (bC BK118.out 1).trans rfl; have hcz22_2 : w18.cell? ⟨gb118, 2, none⟩ = some (.int .i64 0) := (bC BK118.out 2).trans rfl; have hfz22_0 := bF BK118.out 0; have hfz22_1 := bF BK118.out 1; have hfz22_2 := bF BK118.out 2))
       have n0_ : Aside0 (Kd.R k53 53 (((w18.setCell ⟨gb118, 0, none⟩ (.int .i64 ((rd_T81 l0_1 x13_1).f0))).setCell ⟨gb118, 1, none⟩ (.int .i64 ((rd_T81 l0_1 x13_1).f1))).setCell ⟨gb118, 2, none⟩ (.int .i64 ((rd_T81 l0_1 x13_1).f2))) w.heap.size (fun _ => True) u117001 x117001_1) := ⟨by (with_reducible repeat (first | apply Kd.R_alloc | apply Kd.R_drewN | apply Kd.R_drew)); exact Kd.R_mono (Kd.R_far (p := ⟨gb118, 2, none⟩) (Kd.R_far (p := ⟨gb118, 1, none⟩) (Kd.R_far (p := ⟨gb118, 0, none⟩) (Kd.R_types HO_117001.out BK118.out (by decide)) (fun _ hk => hk.2) (.int .i64 ((rd_T81 l0_1 x13_1).f0))) (fun _ hk => hk.2) (.int .i64 ((rd_T81 l0_1 x13_1).f1))) (fun _ hk => hk.2) (.int .i64 ((rd_T81 l0_1 x13_1).f2))) (fun _ hk => trivial)⟩
       have n1_ : Aside0 ((((w18.setCell ⟨gb118, 0, none⟩ (.int .i64 ((rd_T81 l0_1 x13_1).f0))).setCell ⟨gb118, 1, none⟩ (.int .i64 ((rd_T81 l0_1 x13_1).f1))).setCell ⟨gb118, 2, none⟩ (.int .i64 ((rd_T81 l0_1 x13_1).f2))).heap[gb113]? = some (.cells #[.int .i64 a0_0, .slice (some ad117) l0_1.length c0_1] 33 (0, 0))) := ⟨by (with_reducible repeat (first | refine bDN ?_ _ | refine bD ?_ | refine bA ?_ _)); refine blk_far ?_ NB113_118.out _; (with_reducible repeat (first | refine bDN ?_ _ | refine bD ?_ | refine bA ?_ _)); refine blk_far ?_ NB113_118.out _; (with_reducible repeat (first | refine bDN ?_ _ | refine bD ?_ | refine bA ?_ _)); refine blk_far ?_ NB113_118.out _; (with_reducible repeat (first | refine bDN ?_ _ | refine bD ?_ | refine bA ?_ _)); exact BK113.out⟩
       have n2_ : Aside0 ((((w18.setCell ⟨gb118, 0, none⟩ (.int .i64 ((rd_T81 l0_1 x13_1).f0))).setCell ⟨gb118, 1, none⟩ (.int .i64 ((rd_T81 l0_1 x13_1).f1))).setCell ⟨gb118, 2, none⟩ (.int .i64 ((rd_T81 l0_1 x13_1).f2))).heap[gb114]? = some (.cells #[.string (⟨#[]⟩ : ByteArray), .slice none 0 0] 39 (0, 0))) := ⟨by (with_reducible repeat (first | refine bDN ?_ _ | refine bD ?_ | refine bA ?_ _)); refine blk_far ?_ NB114_118.out _; (with_reducible repeat (first | refine bDN ?_ _ | refine bD ?_ | refine bA ?_ _)); refine blk_far ?_ NB114_118.out _; (with_reducible repeat (first | refine bDN ?_ _ | refine bD ?_ | refine bA ?_ _)); refine blk_far ?_ NB114_118.out _; (with_reducible repeat (first | refine bDN ?_ _ | refine bD ?_ | refine bA ?_ _)); exact BK114.out⟩
       have n3_ : Aside0 ((((w18.setCell ⟨gb118, 0, none⟩ (.int .i64 ((rd_T81 l0_1 x13_1).f0))).setCell ⟨gb118, 1, none⟩ (.int .i64 ((rd_T81 l0_1 x13_1).f1))).setCell ⟨gb118, 2, none⟩ (.int .i64 ((rd_T81 l0_1 x13_1).f2))).heap[gb116]? = some (.cells #[.string t115, u117001] 39 (0, 0))) := ⟨by (with_reducible repeat (first | refine bDN ?_ _ | refine bD ?_ | refine bA ?_ _)); refine blk_far ?_ NB116_118.out _; (with_reducible repeat (first | refine bDN ?_ _ | refine bD ?_ | refine bA ?_ _)); refine blk_far ?_ NB116_118.out _; (with_reducible repeat (first | refine bDN ?_ _ | refine bD ?_ | refine bA ?_ _)); refine blk_far ?_ NB116_118.out _; (with_reducible repeat (first | refine bDN ?_ _ | refine bD ?_ | refine bA ?_ _)); exact BK116.out⟩
       have n4_ : Aside0 ((((w18.setCell ⟨gb118, 0, none⟩ (.int .i64 ((rd_T81 l0_1 x13_1).f0))).setCell ⟨gb118, 1, none⟩ (.int .i64 ((rd_T81 l0_1 x13_1).f1))).setCell ⟨gb118, 2, none⟩ (.int .i64 ((rd_T81 l0_1 x13_1).f2))).heap[gb118]? = some (.cells #[.int .i64 ((rd_T81 l0_1 x13_1).f0), .int .i64 ((rd_T81 l0_1 x13_1).f1), .int .i64 ((rd_T81 l0_1 x13_1).f2)] 81 (0, 0))) := ⟨(by apply eC_; (with_reducible repeat (first | refine bDN ?_ _ | refine bD ?_ | refine bA ?_ _)); apply b2_; (with_reducible repeat (first | refine bDN ?_ _ | refine bD ?_ | refine bA ?_ _)); apply b2_; (with_reducible repeat (first | refine bDN ?_ _ | refine bD ?_ | refine bA ?_ _)); apply b2_; (with_reducible repeat (first | refine bDN ?_ _ | refine bD ?_ | refine bA ?_ _)); exact BK118.out; kernel_rfl)⟩
       have n5_ : Aside0 (Below w.heap.size w (((w18.setCell ⟨gb118, 0, none⟩ (.int .i64 ((rd_T81 l0_1 x13_1).f0))).setCell ⟨gb118, 1, none⟩ (.int .i64 ((rd_T81 l0_1 x13_1).f1))).setCell ⟨gb118, 2, none⟩ (.int .i64 ((rd_T81 l0_1 x13_1).f2)))) := ⟨by repeat (first | (with_reducible first | exact HB.out | apply lA_ | apply pD | apply lD_ | refine lS_ ?_ GE113.out | refine lS_ ?_ GE114.out | refine lS_ ?_ GE116.out | refine lS_ ?_ GE118.out) | exact HB.out)⟩
       (try clear HO_117001)
       (try clear BK113)
       (try clear BK114)
       (try clear BK116)
       (try clear BK118)
       (try clear HB)
       generalize (((w18.setCell ⟨gb118, 0, none⟩ (.int .i64 ((rd_T81 l0_1 x13_1).f0))).setCell ⟨gb118, 1, none⟩ (.int .i64 ((rd_T81 l0_1 x13_1).f1))).setCell ⟨gb118, 2, none⟩ (.int .i64 ((rd_T81 l0_1 x13_1).f2))) = w23 at n0_ n1_ n2_ n3_ n4_ n5_ ⊢
       have HO_117001 := n0_
       have BK113 := n1_
       have BK114 := n2_
       have BK116 := n3_
       have BK118 := n4_
       have HB := n5_
       clear n0_ n1_ n2_ n3_ n4_ n5_
       have n0_ := aK_ (Kd.R_drew HO_117001.out)
       have n1_ := aK_ (bD BK113.out)
       have n2_ := aK_ (bD BK114.out)
       have n3_ := aK_ (bD BK116.out)
       have n4_ := aK_ (bD BK118.out)
       have n5_ := aK_ (lD_ HB.out)
       clear HO_117001
       clear BK113
       clear BK114
       clear BK116
       clear BK118
       clear HB
       have HO_117001 := n0_
       have BK113 := n1_
       have BK114 := n2_
       have BK116 := n3_
       have BK118 := n4_
       have HB := n5_
       clear n0_ n1_ n2_ n3_ n4_ n5_
       refine start_ (n := 8) (S := fun w' => w'.cell? ⟨gb116, 0, none⟩ = some (.string t115) ∧ w'.cell? ⟨gb116, 1, none⟩ = some (u117001) ∧ w'.cell? ⟨gb118, 0, none⟩ = some (.int .i64 ((rd_T81 l0_1 x13_1).f0)) ∧ w'.cell? ⟨gb118, 1, none⟩ = some (.int .i64 ((rd_T81 l0_1 x13_1).f1)) ∧ w'.cell? ⟨gb118, 2, none⟩ = some (.int .i64 ((rd_T81 l0_1 x13_1).f2))) (ds := [7]) #[false, false, false, false, false, false, false, false] (by kernel_rfl) rfl rfl ⟨(bC BK116.out 0).trans rfl, (bC BK116.out 1).trans rfl, (bC BK118.out 0).trans rfl, (bC BK118.out 1).trans rfl, (bC BK118.out 2).trans rfl⟩ (fun hHeld => ?_); refine with_tabW ergolaw13_A_Atom.tab5 ergolaw13_A_Atom.bits5 (fun HT_ HW_ => ?_)
       generalize w23.drew = w24 at HO_117001 BK113 BK114 BK116 BK118 HB hHeld ⊢
       refine pure_ (i := 0) (N := some 17) (v := ?_) (a' := ?_) #[true, false, false, false, false, false, false, false] rfl rfl (any_of HT_.out (by kernel_rfl)) (fun _ _ _ h => h) (Or.inl ⟨by rfl, ?_⟩) ?_ ?_
       rotate_left
       ·intro w'
        go_simp
        with_reducible rfl
       rotate_left
       ·simp only [Act.put, sA_, sZ_, sS_, i64_w, i32_w]
        rfl
       refine take_ (i := 1) (N := some 18) (v := ?_) (a' := ?_) #[true, true, false, false, false, false, false, false] rfl rfl (take_ofW HT_.out HW_.out (by kernel_rfl)) (fun _ _ _ h => h) (Or.inl ⟨by rfl, ?_⟩) hHeld ?_ ?_
       rotate_left
       ·rintro w' ⟨s0, s1, s2, s3, s4⟩
        go_simp
        with_reducible rfl
       rotate_left
       ·simp only [Act.put, sA_, sZ_, sS_, i64_w, i32_w]
        rfl
       refine take_ (i := 2) (N := some 19) (v := ?_) (a' := ?_) #[true, true, true, false, false, false, false, false] rfl rfl (take_ofW HT_.out HW_.out (by kernel_rfl)) (fun _ _ _ h => h) (Or.inl ⟨by rfl, ?_⟩) hHeld ?_ ?_
       rotate_left
       ·rintro w' ⟨s0, s1, s2, s3, s4⟩
        go_simp
        with_reducible rfl
       rotate_left
       ·simp only [Act.put, sA_, sZ_, sS_, i64_w, i32_w]
        rfl
       refine one_ (i := 3) (N := some 20) #[true, true, true, true, false, false, false, false] rfl rfl (one_of HT_.out (by kernel_rfl)) (by decide) (fun K hK => ?_)
       refine goes_ Tryd.func52 (by kernel_rfl) rfl #[.agg #[.int .i64 ((rd_T81 l0_1 x13_1).f0), .int .i64 ((rd_T81 l0_1 x13_1).f1), .int .i64 ((rd_T81 l0_1 x13_1).f2)]] (by rfl) rfl rfl (by (try simp only [List.map_toArray, List.map_cons, List.map_nil]); first | done | rfl | (simp only [List.length_drop, List.length_take]; rfl)) ?_
       with_reducible refine (ergolaw13_T_Term.calls ((rd_T81 l0_1 x13_1).f0) ((rd_T81 l0_1 x13_1).f1) ((rd_T81 l0_1 x13_1).f2) t119 t120 t121 _ A16.out).mono ?_
       rintro e w25 ⟨rfl, hb⟩
       refine ⟨_, rfl, ?_⟩
       have n0_ := aK_ (Kd.R_below (by (with_reducible repeat (first | apply Kd.R_alloc | apply Kd.R_drewN | apply Kd.R_drew)); exact HO_117001.out) hb)
       have n1_ := aK_ (bB (by (with_reducible repeat (first | refine bDN ?_ _ | refine bD ?_ | refine bA ?_ _)); exact BK113.out) hb)
       have n2_ := aK_ (bB (by (with_reducible repeat (first | refine bDN ?_ _ | refine bD ?_ | refine bA ?_ _)); exact BK114.out) hb)
       have n3_ := aK_ (bB (by (with_reducible repeat (first | refine bDN ?_ _ | refine bD ?_ | refine bA ?_ _)); exact BK116.out) hb)
       have n4_ := aK_ (bB (by (with_reducible repeat (first | refine bDN ?_ _ | refine bD ?_ | refine bA ?_ _)); exact BK118.out) hb)
       have n5_ := aK_ (lT_ (by repeat (first | (with_reducible first | exact HB.out | apply lA_ | apply pD | apply lD_ | refine lS_ ?_ GE113.out | refine lS_ ?_ GE114.out | refine lS_ ?_ GE116.out | refine lS_ ?_ GE118.out) | exact HB.out)) hb)
       clear HO_117001
       clear BK113
       clear BK114
       clear BK116
       clear BK118
       clear HB
       have HO_117001 := n0_
       have BK113 := n1_
       have BK114 := n2_
       have BK116 := n3_
       have BK118 := n4_
       have HB := n5_
       clear n0_ n1_ n2_ n3_ n4_ n5_
       (try clear hb)
       (try clear hb2)
       (try clear hk)
       (try clear hi)
       refine hK.out _ _ ⟨(bC BK116.out 0).trans rfl, (bC BK116.out 1).trans rfl, (bC BK118.out 0).trans rfl, (bC BK118.out 1).trans rfl, (bC BK118.out 2).trans rfl⟩ (fun hHeld => ?_)
       clear hK K
       refine norm_ (a' := ?_) ?_ ?_
       rotate_left
       ·show Act.put _ (some 20) _ = _
        simp only [Act.put, sA_, sZ_, sS_, i64_w, i32_w]
        rfl
       refine one_ (i := 4) (N := some 21) #[true, true, true, true, true, false, false, false] rfl rfl (one_of HT_.out (by kernel_rfl)) (by decide) (fun K hK => ?_)
       refine value_ (w1 := ?_) (v := ?_) (by rfl) rfl ?_ ?_
       rotate_left 2
       ·go_simp
        constructor
        ·rfl
        ·rfl
       refine hK.out _ _ ⟨(bC (bA BK116.out _) 0).trans rfl, (bC (bA BK116.out _) 1).trans rfl, (bC (bA BK118.out _) 0).trans rfl, (bC (bA BK118.out _) 1).trans rfl, (bC (bA BK118.out _) 2).trans rfl⟩ (fun hHeld => ?_)
       clear hK K
       refine norm_ (a' := ?_) ?_ ?_
       rotate_left
       ·show Act.put _ (some 21) _ = _
        simp only [Act.put, sA_, sZ_, sS_, i64_w, i32_w]
        rfl
       refine one_ (i := 5) (N := some 22) #[true, true, true, true, true, true, false, false] rfl rfl (one_of HT_.out (by kernel_rfl)) (by decide) (fun K hK => ?_)
       refine Kd.Ras k53 (w0 := w) w.heap.size (by rfl) (.tmp 18) (.tmp 21) 37 53 (.agg #[(.int .i64 0), (.string ⟨#[]⟩), (.int .i64 0)]) 32 rfl Tryd.underlying37 info53 rfl (by decide) (by omega) u117001 x117001_1 (⟨t119, t120, t121⟩ : S53) [.int .i64 t119, .string t120, .int .i64 t121] (fun _ => True) (fun _ => False) rfl rfl ?aP (fun _ hk => hk.elim) ?aF ?aO ?aB ?aS ?aL ?_
       (case aP => exact k53_mkM _ _ _ (⟨t119, t120, t121⟩ : S53))
       (case aB => exact (by repeat (first | (with_reducible first | exact HB.out | apply lA_ | apply pD | apply lD_ | refine lS_ ?_ GE113.out | refine lS_ ?_ GE114.out | refine lS_ ?_ GE116.out | refine lS_ ?_ GE118.out) | exact HB.out)))
       (case aF => exact (fun _ _ => trivial))
       (case aO => exact (by (with_reducible repeat (first | apply Kd.R_alloc | apply Kd.R_drewN | apply Kd.R_drew)); exact HO_117001.out))
       (case aS => exact (lZ_ (by repeat (first | (with_reducible first | exact HB.out | apply lA_ | apply pD | apply lD_ | refine lS_ ?_ GE113.out | refine lS_ ?_ GE114.out | refine lS_ ?_ GE116.out | refine lS_ ?_ GE118.out) | exact HB.out))))
       (case aL => have := LMc17.out; omega)
       intro v123 w26 ho hb hg hat
       rw [← Ny122.out] at ho
       have n0_ := aK_ (bG_ (g := gb113) (o := .cells #[.int .i64 a0_0, .slice (some ad117) l0_1.length c0_1] 33 (0, 0)) (by (with_reducible repeat (first | refine bDN ?_ _ | refine bD ?_ | refine bA ?_ _)); exact BK113.out) hg (Kd.R_ne HO_117001.out BK113.out (by decide)))
       have n1_ := aK_ (bG_ (g := gb114) (o := .cells #[.string (⟨#[]⟩ : ByteArray), .slice none 0 0] 39 (0, 0)) (by (with_reducible repeat (first | refine bDN ?_ _ | refine bD ?_ | refine bA ?_ _)); exact BK114.out) hg (Kd.R_ne HO_117001.out BK114.out (by decide)))
       have n2_ := aK_ (bG_ (g := gb116) (o := .cells #[.string t115, u117001] 39 (0, 0)) (by (with_reducible repeat (first | refine bDN ?_ _ | refine bD ?_ | refine bA ?_ _)); exact BK116.out) hg (Kd.R_ne HO_117001.out BK116.out (by decide)))
       have n3_ := aK_ (bG_ (g := gb118) (o := .cells #[.int .i64 ((rd_T81 l0_1 x13_1).f0), .int .i64 ((rd_T81 l0_1 x13_1).f1), .int .i64 ((rd_T81 l0_1 x13_1).f2)] 81 (0, 0)) (by (with_reducible repeat (first | refine bDN ?_ _ | refine bD ?_ | refine bA ?_ _)); exact BK118.out) hg (Kd.R_ne HO_117001.out BK118.out (by decide)))
       have n4_ := aK_ (hb)
       have n5_ := aK_ (ho)
       clear BK113
       clear BK114
       clear BK116
       clear BK118
       clear HB
       clear HO_117001
       have BK113 := n0_
       have BK114 := n1_
       have BK116 := n2_
       have BK118 := n3_
       have HB := n4_
       have HO124 := n5_
       clear n0_ n1_ n2_ n3_ n4_ n5_
       clear ho hb hg hat
       obtain ⟨Ao27, co27, eo27⟩ := Kd.R_slice HO124.out
       (first | subst eo27 | (injection eo27 with f1_ f2_ f3_; have f4_ := f1_.symm; have f5_ := f3_.symm; clear f1_ f2_ f3_; subst f4_; subst f5_))
       refine hK.out _ _ ⟨(bC BK116.out 0).trans rfl, (bC BK116.out 1).trans rfl, (bC BK118.out 0).trans rfl, (bC BK118.out 1).trans rfl, (bC BK118.out 2).trans rfl⟩ (fun hHeld => ?_)
       clear hK K
       refine norm_ (a' := ?_) ?_ ?_
       rotate_left
       ·show Act.put _ (some 22) _ = _
        simp only [Act.put, sA_, sZ_, sS_, i64_w, i32_w]
        rfl
       refine pure_ (i := 6) (N := some 23) (v := ?_) (a' := ?_) #[true, true, true, true, true, true, true, false] rfl rfl (any_of HT_.out (by kernel_rfl)) (fun _ _ _ h => h) (Or.inl ⟨by rfl, ?_⟩) ?_ ?_
       rotate_left
       ·intro w'
        go_simp
        with_reducible rfl
       rotate_left
       ·simp only [Act.put, sA_, sZ_, sS_, i64_w, i32_w]
        rfl
       refine last_ (i := 7) (N := none) #[true, true, true, true, true, true, true, true] rfl rfl (one_of HT_.out (by kernel_rfl)) (by decide) (fun K hK => ?_)
       have hs28 : w26.cell? ⟨gb116, 1, none⟩ = some (u117001) := (bC BK116.out 1).trans rfl
       have hfs28 := bF BK116.out 1
       have hns28_0 := NB113_116.out
       have hns28_1 := NB114_116.out
       have hns28_3 := NB118_116.out
       have hms28_0 := NB116_113.out
       have hms28_1 := NB116_114.out
       have hms28_3 := NB116_118.out
       refine skip_ (w1 := ?_) (by rfl) rfl ?_ ?_
       rotate_left
       ·go_simp
        rfl
       refine hK.out _ _ ?_
       clear hK K
       refine done_ (done_of HT_.out (by kernel_rfl)) ?_
       try go_wp2
       go_roundg k1
       case measure => have := HK1.out; omega
       case rel => exact ⟨(wrap64 (x13_1 + 1)), (y122), (.slice Ao27 y122.length co27), (by first | rfl | (simp; done) | (simp [*]; done)), H', ⟨by have := HK1.out; omega⟩, ⟨by (with_reducible repeat (first | apply Kd.R_alloc | apply Kd.R_drewN | apply Kd.R_drew)); exact Kd.R_mono (Kd.R_far (p := ⟨gb116, 1, none⟩) (Kd.R_types HO124.out BK116.out (by decide)) (fun _ hk => hk.2) (.slice Ao27 y122.length co27)) (fun _ hk => trivial)⟩, ⟨by (with_reducible repeat (first | refine bDN ?_ _ | refine bD ?_ | refine bA ?_ _)); refine blk_far ?_ NB113_116.out _; (with_reducible repeat (first | refine bDN ?_ _ | refine bD ?_ | refine bA ?_ _)); exact BK113.out⟩, ⟨by (with_reducible repeat (first | refine bDN ?_ _ | refine bD ?_ | refine bA ?_ _)); refine blk_far ?_ NB114_116.out _; (with_reducible repeat (first | refine bDN ?_ _ | refine bD ?_ | refine bA ?_ _)); exact BK114.out⟩, ⟨(by apply eC_; (with_reducible repeat (first | refine bDN ?_ _ | refine bD ?_ | refine bA ?_ _)); apply b2_; (with_reducible repeat (first | refine bDN ?_ _ | refine bD ?_ | refine bA ?_ _)); exact BK116.out; kernel_rfl)⟩, ⟨by repeat (first | (with_reducible first | exact HB.out | apply lA_ | apply pD | apply lD_ | refine lS_ ?_ GE113.out | refine lS_ ?_ GE114.out | refine lS_ ?_ GE116.out | refine lS_ ?_ GE118.out) | exact HB.out)⟩⟩
      ·rw [if_neg c17] at H
       exact absurd H (by simp)
     ·rw [if_neg c15] at H
      exact absurd H (by simp)
    ·rw [if_neg c14] at H
     exact absurd H (by simp)
   ·rw [if_neg c13] at H
    have c13b0 : decide (x13_1 < (l0_1.length : Int)) = false := decide_eq_false c13
    clear c13
    by_cases c29 : (x117001_1.length : Int) = 0
    ·rw [if_pos c29] at H
     have c29b0 : ((x117001_1.length : Int) == 0) = true := beq_iff_eq.mpr c29
     have c29b1 : ((x117001_1.length : Int) != 0) = false := bne_eq_false_iff_eq.mpr c29
     clear c29
     obtain ⟨y125, hy125⟩ : ∃ y_ : List (S53), y_ = (([(⟨0, (⟨#[88]⟩ : ByteArray), 0⟩ : S53)] : List (S53))) := ⟨_, rfl⟩
     replace H : (some (t115, y125)) = some (r1, r2) := by first | (rw [hy125]; with_reducible exact H) | (have H2_ := (Option.bind_some _ _).symm.trans H; rw [hy125]; with_reducible exact H2_) | (have H2_ := (Option.bind_some _ _).symm.trans H; with_reducible exact H2_) | with_reducible exact H | (rw [hy125]; exact H) | exact H
     have Ny125 := aK_ hy125
     clear hy125
     simp only [Option.some.injEq, Prod.mk.injEq] at H
     obtain ⟨rfl, rfl⟩ := H
     have hnb30 := NB116_113.out
     have hnc30 := NB113_116.out
     have hnb31 := NB116_114.out
     have hnc31 := NB114_116.out
     have hcz32_0 : wr.cell? ⟨gb116, 0, none⟩ = some (.string t115) := (bC BK116.out 0).trans rfl
     have hcz32_1 : wr.cell? ⟨gb116, 1, none⟩ = some (u117001) := (bC BK116.out 1).trans rfl
     have hfz32_0 := bF BK116.out 0
     have hfz32_1 := bF BK116.out 1
     obtain ⟨Ao33, co33, eo33⟩ := Kd.R_slice HO_117001.out
     subst eo33
     go_wp2_with (first | ((with_reducible refine gate_dst (N := 30) rfl ?_); refine Kd.R_lit k53 _ 53 ?hg (N := 30) ?hd (xs := ([(⟨0, (⟨#[88]⟩ : ByteArray), 0⟩ : S53)] : List (S53))) (inner := [.int .i64 0, .string (⟨#[88]⟩ : ByteArray), .int .i64 0]) (ok := fun _ => True) (okp := fun _ => True) ?hr ?hp (fun _ hk => hk) trivial (Below.refl _ _) (Nat.le_refl _) (by simp) ?_; (case hd => rfl); (case hg => rfl); (case hr => first | (go_simp; done) | (go_simp; rfl)); (case hp => exact (Reps.c3 (show Kd.M k53 _ _ _ (⟨0, (⟨#[88]⟩ : ByteArray), 0⟩ : S53) [.int .i64 0, .string (⟨#[88]⟩ : ByteArray), .int .i64 0] from (k53_mkM _ _ _ (⟨0, (⟨#[88]⟩ : ByteArray), 0⟩ : S53) )) (Reps.none _ _))); intro v126 w34 ho35 hb hg_ hnew_; clear hg_ hnew_; (first | rw [← Ny125.out] at ho35 | (simp only [Int.reduceToNat] at ho35; rw [← Ny125.out] at ho35)); have n0_ := aK_ (Kd.R_elder' (by (with_reducible repeat (first | apply Kd.R_alloc | apply Kd.R_drewN | apply Kd.R_drew)); exact HO_117001.out) (Kd.R_base ho35) hb); have n1_ := aK_ (Kd.R_lower (Kd.R_new' ho35 (Kd.R_lt (by (with_reducible repeat (first | apply Kd.R_alloc | apply Kd.R_drewN | apply Kd.R_drew)); exact HO_117001.out))) (lZ_ (by repeat (first | (with_reducible first | exact HB.out | apply lA_ | apply pD | apply lD_ | refine lS_ ?_ GE113.out | refine lS_ ?_ GE114.out | refine lS_ ?_ GE116.out) | exact HB.out)))); have n2_ := aK_ (bB (by (with_reducible repeat (first | refine bDN ?_ _ | refine bD ?_ | refine bA ?_ _)); exact BK113.out) hb); have n3_ := aK_ (bB (by (with_reducible repeat (first | refine bDN ?_ _ | refine bD ?_ | refine bA ?_ _)); exact BK114.out) hb); have n4_ := aK_ (bB (by (with_reducible repeat (first | refine bDN ?_ _ | refine bD ?_ | refine bA ?_ _)); exact BK116.out) hb); have n5_ := aK_ (lT_ (by repeat (first | (with_reducible first | exact HB.out | apply lA_ | apply pD | apply lD_ | refine lS_ ?_ GE113.out | refine lS_ ?_ GE114.out | refine lS_ ?_ GE116.out) | exact HB.out)) hb); clear HO_117001; clear BK113; clear BK114; clear BK116; clear HB; have HO_117001 := n0_; have HO127 := n1_; have BK113 := n2_; have BK114 := n3_; have BK116 := n4_; have HB := n5_; clear n0_ n1_ n2_ n3_ n4_ n5_; clear hb ho35; obtain ⟨Ao36, co36, eo36⟩ := Kd.R_slice HO127.out; subst eo36; have hcz37_0 : w34.cell? ⟨gb116, 0, none⟩ = some (.string t115) := (bC BK116.out 0).trans rfl; have hcz37_1 : w34.cell? ⟨gb116, 1, none⟩ = some (.slice Ao33 x117001_1.length co33) := (bC BK116.out 1).trans rfl; have hfz37_0 := bF BK116.out 0; have hfz37_1 := bF BK116.out 1; have hnb38 := NB114_113.out; have hnc38 := NB113_114.out; have hcz39_0 : w34.cell? ⟨gb114, 0, none⟩ = some (.string (⟨#[]⟩ : ByteArray)) := (bC BK114.out 0).trans rfl; have hcz39_1 : w34.cell? ⟨gb114, 1, none⟩ = some (.slice none 0 0) := (bC BK114.out 1).trans rfl; have hfz39_0 := bF BK114.out 0; have hfz39_1 := bF BK114.out 1))
     refine bodyPost_ret (results_cell_row rfl _ _ gb114 39 #[.string t115, .slice Ao36 y125.length co36] (0, 0) _ rfl (by (with_reducible repeat (first | refine bDN ?_ _ | refine bD ?_ | refine bA ?_ _)); refine blk_put (cs := #[.string t115, .slice none 0 0]) ?_ 1 _ rfl; (with_reducible repeat (first | refine bDN ?_ _ | refine bD ?_ | refine bA ?_ _)); refine blk_put (cs := #[.string (⟨#[]⟩ : ByteArray), .slice none 0 0]) ?_ 0 _ rfl; (with_reducible repeat (first | refine bDN ?_ _ | refine bD ?_ | refine bA ?_ _)); refine blk_far ?_ NB114_116.out _; (with_reducible repeat (first | refine bDN ?_ _ | refine bD ?_ | refine bA ?_ _)); exact BK114.out) Tryd.underlying39 rfl (by kernel_rfl)) rfl ?_
     exact ⟨_, by first | rfl | (simp [errW_none, errW_some] <;> rfl) | (simp [*, errW_none, errW_some] <;> rfl), by (with_reducible repeat (first | apply Kd.R_alloc | apply Kd.R_drewN | apply Kd.R_drew)); exact Kd.R_mono (Kd.R_far (p := ⟨gb114, 1, none⟩) (Kd.R_far (p := ⟨gb114, 0, none⟩) (Kd.R_far (p := ⟨gb116, 1, none⟩) (Kd.R_types (Kd.R_types HO127.out BK116.out (by decide)) BK114.out (by decide)) (fun _ hk => hk.1.2) (.slice Ao36 y125.length co36)) (fun _ hk => hk.2) (.string t115)) (fun _ hk => hk.2) (.slice Ao36 y125.length co36)) (fun _ hk => trivial), by repeat (first | (with_reducible first | exact HB.out | apply lA_ | apply pD | apply lD_ | refine lS_ ?_ GE113.out | refine lS_ ?_ GE114.out | refine lS_ ?_ GE116.out) | exact HB.out)⟩
    ·rw [if_neg c29] at H
     have c29b0 : ((x117001_1.length : Int) == 0) = false := beq_eq_false_iff_ne.mpr c29
     have c29b1 : ((x117001_1.length : Int) != 0) = true := bne_iff_ne.mpr c29
     have c29b2 : ¬ (x117001_1 = []) := fun h_ => c29 (by rw [h_]; rfl)
     simp only [Option.some.injEq, Prod.mk.injEq] at H
     obtain ⟨rfl, rfl⟩ := H
     have hnb40 := NB116_113.out
     have hnc40 := NB113_116.out
     have hnb41 := NB116_114.out
     have hnc41 := NB114_116.out
     have hcz42_0 : wr.cell? ⟨gb116, 0, none⟩ = some (.string t115) := (bC BK116.out 0).trans rfl
     have hcz42_1 : wr.cell? ⟨gb116, 1, none⟩ = some (u117001) := (bC BK116.out 1).trans rfl
     have hfz42_0 := bF BK116.out 0
     have hfz42_1 := bF BK116.out 1
     obtain ⟨Ao43, co43, eo43⟩ := Kd.R_slice HO_117001.out
     subst eo43
     have hnb44 := NB114_113.out
     have hnc44 := NB113_114.out
     have hcz45_0 : wr.cell? ⟨gb114, 0, none⟩ = some (.string (⟨#[]⟩ : ByteArray)) := (bC BK114.out 0).trans rfl
     have hcz45_1 : wr.cell? ⟨gb114, 1, none⟩ = some (.slice none 0 0) := (bC BK114.out 1).trans rfl
     have hfz45_0 := bF BK114.out 0
     have hfz45_1 := bF BK114.out 1
     go_wp2
     refine bodyPost_ret (results_cell_row rfl _ _ gb114 39 #[.string t115, .slice Ao43 x117001_1.length co43] (0, 0) _ rfl ((by apply eC_; (with_reducible repeat (first | refine bDN ?_ _ | refine bD ?_ | refine bA ?_ _)); apply b2_; (with_reducible repeat (first | refine bDN ?_ _ | refine bD ?_ | refine bA ?_ _)); apply b2_; (with_reducible repeat (first | refine bDN ?_ _ | refine bD ?_ | refine bA ?_ _)); exact BK114.out; kernel_rfl)) Tryd.underlying39 rfl (by kernel_rfl)) rfl ?_
     exact ⟨_, by first | rfl | (simp [errW_none, errW_some] <;> rfl) | (simp [*, errW_none, errW_some] <;> rfl), by (with_reducible repeat (first | apply Kd.R_alloc | apply Kd.R_drewN | apply Kd.R_drew)); exact Kd.R_mono (Kd.R_far (p := ⟨gb114, 1, none⟩) (Kd.R_far (p := ⟨gb114, 0, none⟩) (Kd.R_types HO_117001.out BK114.out (by decide)) (fun _ hk => hk.2) (.string t115)) (fun _ hk => hk.2) (.slice Ao43 x117001_1.length co43)) (fun _ hk => trivial), by repeat (first | (with_reducible first | exact HB.out | apply lA_ | apply pD | apply lD_ | refine lS_ ?_ GE113.out | refine lS_ ?_ GE114.out | refine lS_ ?_ GE116.out) | exact HB.out)⟩
def ergolaw13_E_Expr.f : Nat → Int → Int → Int → Int → List (S84) → Option (Int × ByteArray × Int × Int × (List (S57)))
 | 0, _, _, _, _, _ => none
 | k + 1, a0_0, a0_1, a0_2, a0_3, l0_4 => if (l0_4.length : Int) < 2 then ((ergolaw13_T_Term.f (wrap64 (Int.tmod (IntKind.u64.wrap (a0_0)) 3)) a0_1 a0_2).bind fun bt131 => (some (bt131.1, bt131.2.1, bt131.2.2, 0, ([] : List (S57))))) else (if 0 < (l0_4.length : Int) then ((ergolaw13_E_Expr.f k ((rd_T84 l0_4 0).f0.f0) ((rd_T84 l0_4 0).f0.f1) ((rd_T84 l0_4 0).f0.f2) ((rd_T84 l0_4 0).f1) ((rd_T84 l0_4 0).f2)).bind fun bt135 => (if 1 < (l0_4.length : Int) then ((ergolaw13_E_Expr.f k ((rd_T84 l0_4 1).f0.f0) ((rd_T84 l0_4 1).f0.f1) ((rd_T84 l0_4 1).f0.f2) ((rd_T84 l0_4 1).f1) ((rd_T84 l0_4 1).f2)).bind fun bt143 => (some (0, (⟨#[]⟩ : ByteArray), 0, wrap64 (Int.tmod (IntKind.u64.wrap (a0_3)) 5), (([(⟨(⟨bt135.1, bt135.2.1, bt135.2.2.1⟩ : S53), bt135.2.2.2.1, bt135.2.2.2.2⟩ : S57), (⟨(⟨bt143.1, bt143.2.1, bt143.2.2.1⟩ : S53), bt143.2.2.2.1, bt143.2.2.2.2⟩ : S57)] : List (S57)))))) else (none))) else (none))
def ergolaw13_E_Expr.T5 : Bool × List (List Nat × List Nat) := (true, [([], []), ([0], [0]), ([1], [1]), ([2], [2]), ([3], [3]), ([], []), ([5], [5]), ([6], [6]), ([7], [7]), ([8], [8]), ([], []), ([10], [10]), ([11], [11]), ([12], [12]), ([13, 9], [13]), ([9, 14], [9, 14]), ([4, 15], [4, 15]), ([16, 14, 0, 1, 2, 3, 4, 5, 6, 7, 8, 9, 10, 11, 12, 13, 14, 15, 16], [16])])
def ergolaw13_E_Expr.B5 : List Nat := [0, 1, 3, 7, 15, 0, 32, 96, 224, 480, 0, 1024, 3072, 7168, 16352, 32736, 65535, 131071]
theorem ergolaw13_E_Expr.tab5 : rtab .any (opsOf Tryd.f53 5) = ergolaw13_E_Expr.T5 := by kernel_rfl
theorem ergolaw13_E_Expr.bits5 : waitsOk ergolaw13_E_Expr.T5.2 ergolaw13_E_Expr.B5 = true := by kernel_rfl
set_option maxHeartbeats 8000000 in
set_option maxRecDepth 100000 in
theorem ergolaw13_E_Expr.calls (k : Nat) : ∀ (a0_0 : Int) (a0_1 : Int) (a0_2 : Int) (a0_3 : Int) (A0_4 : Option Addr) (c0_4 : Nat) (l0_4 : List (S84)) (r1 : Int) (r2 : ByteArray) (r3 : Int) (r4 : Int) (r5 : List (S57)) (w : World) (hr0_4 : Kd.C k84 w A0_4 l0_4.length l0_4) (hc0_4 : l0_4.length ≤ c0_4) (h : ergolaw13_E_Expr.f k a0_0 a0_1 a0_2 a0_3 l0_4 = some (r1, r2, r3, r4, r5)),
  Calls Tryd.prog 53 #[.agg #[.int .i64 a0_0, .int .i64 a0_1, .int .i64 a0_2, .int .i64 a0_3, .slice A0_4 l0_4.length c0_4]] w fun e w' => ∃ v4_ : Value, e = .returned (.agg #[.int .i64 r1, .string r2, .int .i64 r3, .int .i64 r4, v4_]) ∧ Kd.N k57 57 w' w.heap.size (fun k_ => (w.heap.size ≤ k_)) v4_ r5 ∧ Below w.heap.size w w' := by
 induction k using Nat.strongRecOn with
 | _ k ih =>
 intro a0_0 a0_1 a0_2 a0_3 A0_4 c0_4 l0_4 r1 r2 r3 r4 r5 w hr0_4 hc0_4 h
 cases k with
 | zero => exact absurd h (by simp [ergolaw13_E_Expr.f])
 | succ k =>
 simp only [ergolaw13_E_Expr.f] at h
 have hu84 := Tryd.underlying84
 have hu57 := Tryd.underlying57
 have hu81 := Tryd.underlying81
 have HR0_4 := aK_ hr0_4
 have HC0_4 := aK_ hc0_4
 clear hr0_4 hc0_4
 have HB := aK_ (Below.refl w.heap.size w)
 have H : (if (l0_4.length : Int) < 2 then ((ergolaw13_T_Term.f (wrap64 (Int.tmod (IntKind.u64.wrap (a0_0)) 3)) a0_1 a0_2).bind fun bt131 => (some (bt131.1, bt131.2.1, bt131.2.2, 0, ([] : List (S57))))) else (if 0 < (l0_4.length : Int) then ((ergolaw13_E_Expr.f k ((rd_T84 l0_4 0).f0.f0) ((rd_T84 l0_4 0).f0.f1) ((rd_T84 l0_4 0).f0.f2) ((rd_T84 l0_4 0).f1) ((rd_T84 l0_4 0).f2)).bind fun bt135 => (if 1 < (l0_4.length : Int) then ((ergolaw13_E_Expr.f k ((rd_T84 l0_4 1).f0.f0) ((rd_T84 l0_4 1).f0.f1) ((rd_T84 l0_4 1).f0.f2) ((rd_T84 l0_4 1).f1) ((rd_T84 l0_4 1).f2)).bind fun bt143 => (some (0, (⟨#[]⟩ : ByteArray), 0, wrap64 (Int.tmod (IntKind.u64.wrap (a0_3)) 5), (([(⟨(⟨bt135.1, bt135.2.1, bt135.2.2.1⟩ : S53), bt135.2.2.2.1, bt135.2.2.2.2⟩ : S57), (⟨(⟨bt143.1, bt143.2.1, bt143.2.2.1⟩ : S53), bt143.2.2.2.1, bt143.2.2.2.2⟩ : S57)] : List (S57)))))) else (none))) else (none))) = some (r1, r2, r3, r4, r5) := h
 clear h
 by_cases c2 : (l0_4.length : Int) < 2
 ·rw [if_pos c2] at H
  have c2b0 : decide ((l0_4.length : Int) < 2) = true := decide_eq_true c2
  have c2b1 : decide (l0_4.length < 2) = true := decide_eq_true (by omega)
  clear c2
  replace H := Option.bind_eq_some_iff.mp H
  obtain ⟨⟨t131, t132, t133⟩, A30, H⟩ := H
  replace H : (some (t131, t132, t133, 0, ([] : List (S57)))) = some (r1, r2, r3, r4, r5) := H
  have A3 := aK_ A30
  clear A30
  simp only [Option.some.injEq, Prod.mk.injEq] at H
  obtain ⟨rfl, rfl, rfl, rfl, rfl⟩ := H
  go_enter Tryd.func53, Tryd.ntmps53
  go_wp2_with (first | ((with_reducible refine gate_dst (N := 1) rfl ?_); refine box_event ?hg (N := 1) ?hd (cs := #[.int .i64 a0_0, .int .i64 a0_1, .int .i64 a0_2, .int .i64 a0_3, .slice A0_4 l0_4.length c0_4]) (t := 84) ?hr ?_; (case hd => rfl); (case hg => rfl); (case hr => first | (go_simp; done) | (go_simp; rfl)); intro gb128 hg w4 hbox hb; have n0_ := aK_ (lT_ (by repeat (first | (with_reducible first | exact HB.out | apply lA_ | apply pD | apply lD_) | exact HB.out)) hb); have n1_ := aK_ (hbox); have n2_ := aK_ ((by rw [hg]; exact (lZ_ (by repeat (first | (with_reducible first | exact HB.out | apply lA_ | apply pD | apply lD_) | exact HB.out))) : w.heap.size ≤ gb128)); have n3_ := aK_ ((by rw [hg]; exact (lZ_ (by repeat (first | (with_reducible first | exact HB.out | apply lA_ | apply pD | apply lD_) | exact HB.out))) : w.heap.size ≤ gb128)); clear HB; have HB := n0_; have BK128 := n1_; have GW128 := n2_; have GE128 := n3_; clear n0_ n1_ n2_ n3_; clear hb hbox hg) | ((with_reducible refine gate_dst (N := 2) rfl ?_); refine box_event ?hg (N := 2) ?hd (cs := #[.int .i64 0, .string (⟨#[]⟩ : ByteArray), .int .i64 0, .int .i64 0, .slice none 0 0]) (t := 57) ?hr ?_; (case hd => rfl); (case hg => rfl); (case hr => first | (go_simp; done) | (go_simp; rfl)); intro gb129 hg w5 hbox hb; have n0_ := aK_ (bB (by (with_reducible repeat (first | refine bDN ?_ _ | refine bD ?_ | refine bA ?_ _)); exact BK128.out) hb); have n1_ := aK_ (lT_ (by repeat (first | (with_reducible first | exact HB.out | apply lA_ | apply pD | apply lD_ | refine lS_ ?_ GE128.out) | exact HB.out)) hb); have n2_ := aK_ (hbox); have n3_ := aK_ ((by rw [hg]; exact (lZ_ (by repeat (first | (with_reducible first | exact HB.out | apply lA_ | apply pD | apply lD_ | refine lS_ ?_ GE128.out) | exact HB.out))) : w.heap.size ≤ gb129)); have n4_ := aK_ ((by rw [hg]; exact (lZ_ (by repeat (first | (with_reducible first | exact HB.out | apply lA_ | apply pD | apply lD_ | refine lS_ ?_ GE128.out) | exact HB.out))) : w.heap.size ≤ gb129)); have n5_ := aK_ ((by rw [hg]; exact Nat.ne_of_lt (blk_lt (g := gb128) (o := .cells #[.int .i64 a0_0, .int .i64 a0_1, .int .i64 a0_2, .int .i64 a0_3, .slice A0_4 l0_4.length c0_4] 84 (0, 0)) (by (with_reducible repeat (first | refine bDN ?_ _ | refine bD ?_ | refine bA ?_ _)); exact BK128.out)) : gb128 ≠ gb129)); have n6_ := aK_ ((by rw [hg]; exact Nat.ne_of_gt (blk_lt (g := gb128) (o := .cells #[.int .i64 a0_0, .int .i64 a0_1, .int .i64 a0_2, .int .i64 a0_3, .slice A0_4 l0_4.length c0_4] 84 (0, 0)) (by (with_reducible repeat (first | refine bDN ?_ _ | refine bD ?_ | refine bA ?_ _)); exact BK128.out)) : gb129 ≠ gb128)); clear BK128; clear HB; have BK128 := n0_; have HB := n1_; have BK129 := n2_; have GW129 := n3_; have GE129 := n4_; have NB128_129 := n5_; have NB129_128 := n6_; clear n0_ n1_ n2_ n3_ n4_ n5_ n6_; clear hb hbox hg; have hnb6 := NB128_129.out; have hnc6 := NB129_128.out; have hcz7_0 : w5.cell? ⟨gb128, 0, none⟩ = some (.int .i64 a0_0) := (bC BK128.out 0).trans rfl; have hcz7_1 : w5.cell? ⟨gb128, 1, none⟩ = some (.int .i64 a0_1) := (bC BK128.out 1).trans rfl; have hcz7_2 : w5.cell? ⟨gb128, 2, none⟩ = some (.int .i64 a0_2) := (bC BK128.out 2).trans rfl; have hcz7_3 : w5.cell? ⟨gb128, 3, none⟩ = some (.int .i64 a0_3) := (bC BK128.out 3).trans rfl; have hcz7_4 : w5.cell? ⟨gb128, 4, none⟩ = some (.slice A0_4 l0_4.length c0_4) := (bC BK128.out 4).trans rfl; have hfz7_0 := bF BK128.out 0; have hfz7_1 := bF BK128.out 1; have hfz7_2 := bF BK128.out 2; have hfz7_3 := bF BK128.out 3; have hfz7_4 := bF BK128.out 4) | ((with_reducible refine gate_dst (N := 3) rfl ?_); refine box_event ?hg (N := 3) ?hd (cs := #[.int .i64 0, .int .i64 0, .int .i64 0]) (t := 81) ?hr ?_; (case hd => rfl); (case hg => rfl); (case hr => first | (go_simp; done) | (go_simp; rfl)); intro gb130 hg w8 hbox hb; have n0_ := aK_ (bB (by (with_reducible repeat (first | refine bDN ?_ _ | refine bD ?_ | refine bA ?_ _)); exact BK128.out) hb); have n1_ := aK_ (bB (by (with_reducible repeat (first | refine bDN ?_ _ | refine bD ?_ | refine bA ?_ _)); exact BK129.out) hb); have n2_ := aK_ (lT_ (by repeat (first | (with_reducible first | exact HB.out | apply lA_ | apply pD | apply lD_ | refine lS_ ?_ GE128.out | refine lS_ ?_ GE129.out) | exact HB.out)) hb); have n3_ := aK_ (hbox); have n4_ := aK_ ((by rw [hg]; exact (lZ_ (by repeat (first | (with_reducible first | exact HB.out | apply lA_ | apply pD | apply lD_ | refine lS_ ?_ GE128.out | refine lS_ ?_ GE129.out) | exact HB.out))) : w.heap.size ≤ gb130)); have n5_ := aK_ ((by rw [hg]; exact (lZ_ (by repeat (first | (with_reducible first | exact HB.out | apply lA_ | apply pD | apply lD_ | refine lS_ ?_ GE128.out | refine lS_ ?_ GE129.out) | exact HB.out))) : w.heap.size ≤ gb130)); have n6_ := aK_ ((by rw [hg]; exact Nat.ne_of_lt (blk_lt (g := gb128) (o := .cells #[.int .i64 a0_0, .int .i64 a0_1, .int .i64 a0_2, .int .i64 a0_3, .slice A0_4 l0_4.length c0_4] 84 (0, 0)) (by (with_reducible repeat (first | refine bDN ?_ _ | refine bD ?_ | refine bA ?_ _)); exact BK128.out)) : gb128 ≠ gb130)); have n7_ := aK_ ((by rw [hg]; exact Nat.ne_of_gt (blk_lt (g := gb128) (o := .cells #[.int .i64 a0_0, .int .i64 a0_1, .int .i64 a0_2, .int .i64 a0_3, .slice A0_4 l0_4.length c0_4] 84 (0, 0)) (by (with_reducible repeat (first | refine bDN ?_ _ | refine bD ?_ | refine bA ?_ _)); exact BK128.out)) : gb130 ≠ gb128)); have n8_ := aK_ ((by rw [hg]; exact Nat.ne_of_lt (blk_lt (g := gb129) (o := .cells #[.int .i64 0, .string (⟨#[]⟩ : ByteArray), .int .i64 0, .int .i64 0, .slice none 0 0] 57 (0, 0)) (by (with_reducible repeat (first | refine bDN ?_ _ | refine bD ?_ | refine bA ?_ _)); exact BK129.out)) : gb129 ≠ gb130)); have n9_ := aK_ ((by rw [hg]; exact Nat.ne_of_gt (blk_lt (g := gb129) (o := .cells #[.int .i64 0, .string (⟨#[]⟩ : ByteArray), .int .i64 0, .int .i64 0, .slice none 0 0] 57 (0, 0)) (by (with_reducible repeat (first | refine bDN ?_ _ | refine bD ?_ | refine bA ?_ _)); exact BK129.out)) : gb130 ≠ gb129)); clear BK128; clear BK129; clear HB; have BK128 := n0_; have BK129 := n1_; have HB := n2_; have BK130 := n3_; have GW130 := n4_; have GE130 := n5_; have NB128_130 := n6_; have NB130_128 := n7_; have NB129_130 := n8_; have NB130_129 := n9_; clear n0_ n1_ n2_ n3_ n4_ n5_ n6_ n7_ n8_ n9_; clear hb hbox hg; have hnb9 := NB130_128.out; have hnc9 := NB128_130.out; have hnb10 := NB130_129.out; have hnc10 := NB129_130.out; have hcz11_0 : w8.cell? ⟨gb130, 0, none⟩ = some (.int .i64 0) := (bC BK130.out 0).trans rfl; have hcz11_1 : w8.cell? ⟨gb130, 1, none⟩ = some (.int .i64 0) := (bC BK130.out 1).trans rfl; have hcz11_2 : w8.cell? ⟨gb130, 2, none⟩ = some (.int .i64 0) := (bC BK130.out 2).trans rfl; have hfz11_0 := bF BK130.out 0; have hfz11_1 := bF BK130.out 1; have hfz11_2 := bF BK130.out 2) | ((with_reducible refine gate_callee (f := 52) rfl ?_); refine goesL_ (some 17) rfl rfl Tryd.func52 (by kernel_rfl) rfl #[.agg #[.int .i64 (wrap64 (Int.tmod (IntKind.u64.wrap (a0_0)) 3)), .int .i64 a0_1, .int .i64 a0_2]] rfl (by (try simp only [List.map_toArray, List.map_cons, List.map_nil]); first | done | rfl | (simp only [List.length_drop, List.length_take]; rfl)) ?_; (with_reducible refine (ergolaw13_T_Term.calls (wrap64 (Int.tmod (IntKind.u64.wrap (a0_0)) 3)) a0_1 a0_2 t131 t132 t133 _ A3.out).mono ?_); rintro e w12 ⟨rfl, hb⟩; refine ⟨_, rfl, ?_⟩; have n0_ := aK_ (bB (g := gb128) (o := .cells #[.int .i64 a0_0, .int .i64 a0_1, .int .i64 a0_2, .int .i64 a0_3, .slice A0_4 l0_4.length c0_4] 84 (0, 0)) (by (with_reducible repeat (first | refine bDN ?_ _ | refine bD ?_ | refine bA ?_ _)); refine blk_far ?_ NB128_130.out _; (with_reducible repeat (first | refine bDN ?_ _ | refine bD ?_ | refine bA ?_ _)); refine blk_far ?_ NB128_130.out _; (with_reducible repeat (first | refine bDN ?_ _ | refine bD ?_ | refine bA ?_ _)); refine blk_far ?_ NB128_130.out _; (with_reducible repeat (first | refine bDN ?_ _ | refine bD ?_ | refine bA ?_ _)); refine blk_far ?_ NB128_130.out _; (with_reducible repeat (first | refine bDN ?_ _ | refine bD ?_ | refine bA ?_ _)); exact BK128.out) hb); have n1_ := aK_ (bB (g := gb129) (o := .cells #[.int .i64 0, .string (⟨#[]⟩ : ByteArray), .int .i64 0, .int .i64 0, .slice none 0 0] 57 (0, 0)) (by (with_reducible repeat (first | refine bDN ?_ _ | refine bD ?_ | refine bA ?_ _)); refine blk_far ?_ NB129_130.out _; (with_reducible repeat (first | refine bDN ?_ _ | refine bD ?_ | refine bA ?_ _)); refine blk_far ?_ NB129_130.out _; (with_reducible repeat (first | refine bDN ?_ _ | refine bD ?_ | refine bA ?_ _)); refine blk_far ?_ NB129_130.out _; (with_reducible repeat (first | refine bDN ?_ _ | refine bD ?_ | refine bA ?_ _)); refine blk_far ?_ NB129_130.out _; (with_reducible repeat (first | refine bDN ?_ _ | refine bD ?_ | refine bA ?_ _)); exact BK129.out) hb); have n2_ := aK_ (bB (g := gb130) (o := .cells #[.int .i64 (wrap64 (Int.tmod (IntKind.u64.wrap (a0_0)) 3)), .int .i64 a0_1, .int .i64 a0_2] 81 (0, 0)) ((by apply eC_; (with_reducible repeat (first | refine bDN ?_ _ | refine bD ?_ | refine bA ?_ _)); apply b2_; (with_reducible repeat (first | refine bDN ?_ _ | refine bD ?_ | refine bA ?_ _)); apply b2_; (with_reducible repeat (first | refine bDN ?_ _ | refine bD ?_ | refine bA ?_ _)); apply b2_; (with_reducible repeat (first | refine bDN ?_ _ | refine bD ?_ | refine bA ?_ _)); apply b2_; (with_reducible repeat (first | refine bDN ?_ _ | refine bD ?_ | refine bA ?_ _)); exact BK130.out; kernel_rfl)) hb); have n3_ := aK_ (lT_ (by repeat (first | (with_reducible first | exact HB.out | apply lA_ | apply pD | apply lD_ | refine lS_ ?_ GE128.out | refine lS_ ?_ GE129.out | refine lS_ ?_ GE130.out) | exact HB.out)) hb); clear BK128; clear BK129; clear BK130; clear HB; have BK128 := n0_; have BK129 := n1_; have BK130 := n2_; have HB := n3_; clear n0_ n1_ n2_ n3_; (try clear hb); (try clear hb2); (try clear hk); (try clear hi); have hcz13_0 : w12.cell? ⟨gb129, 0, none⟩ = some (.int .i64 0) := (bC BK129.out 0).trans rfl; have hcz13_1 : w12.cell? ⟨gb129, 1, none⟩ = some (.string (⟨#[]⟩ : ByteArray)) := (bC BK129.out 1).trans rfl; have hcz13_2 : w12.cell? ⟨gb129, 2, none⟩ = some (.int .i64 0) := (bC BK129.out 2).trans rfl; have hcz13_3 : w12.cell? ⟨gb129, 3, none⟩ = some (.int .i64 0) := (bC BK129.out 3).trans rfl; have hcz13_4 : w12.cell? ⟨gb129, 4, none⟩ = some (.slice none 0 0) := (bC BK129.out 4).trans rfl; have hfz13_0 := bF BK129.out 0; have hfz13_1 := bF BK129.out 1; have hfz13_2 := bF BK129.out 2; have hfz13_3 := bF BK129.out 3; have hfz13_4 := bF BK129.out 4))
  refine bodyPost_ret (results_cell_row rfl _ _ gb129 57 #[.int .i64 t131, .string t132, .int .i64 t133, .int .i64 0, .slice none 0 0] (0, 0) _ rfl ((by apply eC_; (with_reducible repeat (first | refine bDN ?_ _ | refine bD ?_ | refine bA ?_ _)); apply b2_; (with_reducible repeat (first | refine bDN ?_ _ | refine bD ?_ | refine bA ?_ _)); apply b2_; (with_reducible repeat (first | refine bDN ?_ _ | refine bD ?_ | refine bA ?_ _)); apply b2_; (with_reducible repeat (first | refine bDN ?_ _ | refine bD ?_ | refine bA ?_ _)); apply b2_; (with_reducible repeat (first | refine bDN ?_ _ | refine bD ?_ | refine bA ?_ _)); apply b2_; (with_reducible repeat (first | refine bDN ?_ _ | refine bD ?_ | refine bA ?_ _)); exact BK129.out; kernel_rfl)) Tryd.underlying57 rfl (by kernel_rfl)) rfl ?_
  exact ⟨_, by first | rfl | (simp [errW_none, errW_some] <;> rfl) | (simp [*, errW_none, errW_some] <;> rfl), by first | exact Kd.R_nil _ _ _ _ _ | exact Kd.N_nil _ _ _ _ _ | exact Kd.V_nil _ _ _ _ _ | exact Kd.Q_nil _ _ _ _ _ | exact Kd.S_nil _ _ _ _ _, by repeat (first | (with_reducible first | exact HB.out | apply lA_ | apply pD | apply lD_ | refine lS_ ?_ GE128.out | refine lS_ ?_ GE129.out | refine lS_ ?_ GE130.out) | exact HB.out)⟩
 ·rw [if_neg c2] at H
  have c2b0 : decide ((l0_4.length : Int) < 2) = false := decide_eq_false c2
  have c2b1 : decide (l0_4.length < 2) = false := decide_eq_false (by omega)
  clear c2
  by_cases c14 : 0 < (l0_4.length : Int)
  ·rw [if_pos c14] at H
   have c14b0 : decide (0 < (l0_4.length : Int)) = true := decide_eq_true c14
   have c14b1 : decide (0 < l0_4.length) = true := decide_eq_true (by omega)
   clear c14
   replace H := Option.bind_eq_some_iff.mp H
   obtain ⟨⟨t135, t136, t137, t138, t139⟩, A150, H⟩ := H
   replace H : (if 1 < (l0_4.length : Int) then ((ergolaw13_E_Expr.f k ((rd_T84 l0_4 1).f0.f0) ((rd_T84 l0_4 1).f0.f1) ((rd_T84 l0_4 1).f0.f2) ((rd_T84 l0_4 1).f1) ((rd_T84 l0_4 1).f2)).bind fun bt143 => (some (0, (⟨#[]⟩ : ByteArray), 0, wrap64 (Int.tmod (IntKind.u64.wrap (a0_3)) 5), (([(⟨(⟨t135, t136, t137⟩ : S53), t138, t139⟩ : S57), (⟨(⟨bt143.1, bt143.2.1, bt143.2.2.1⟩ : S53), bt143.2.2.2.1, bt143.2.2.2.2⟩ : S57)] : List (S57)))))) else (none)) = some (r1, r2, r3, r4, r5) := H
   have A15 := aK_ A150
   clear A150
   by_cases c16 : 1 < (l0_4.length : Int)
   ·rw [if_pos c16] at H
    have c16b0 : decide (1 < (l0_4.length : Int)) = true := decide_eq_true c16
    have c16b1 : decide (1 < l0_4.length) = true := decide_eq_true (by omega)
    clear c16
    replace H := Option.bind_eq_some_iff.mp H
    obtain ⟨⟨t143, t144, t145, t146, t147⟩, A170, H⟩ := H
    replace H : (some (0, (⟨#[]⟩ : ByteArray), 0, wrap64 (Int.tmod (IntKind.u64.wrap (a0_3)) 5), (([(⟨(⟨t135, t136, t137⟩ : S53), t138, t139⟩ : S57), (⟨(⟨t143, t144, t145⟩ : S53), t146, t147⟩ : S57)] : List (S57))))) = some (r1, r2, r3, r4, r5) := H
    have A17 := aK_ A170
    clear A170
    obtain ⟨y150, hy150⟩ : ∃ y_ : List (S57), y_ = (([(⟨(⟨t135, t136, t137⟩ : S53), t138, t139⟩ : S57), (⟨(⟨t143, t144, t145⟩ : S53), t146, t147⟩ : S57)] : List (S57))) := ⟨_, rfl⟩
    replace H : (some (0, (⟨#[]⟩ : ByteArray), 0, wrap64 (Int.tmod (IntKind.u64.wrap (a0_3)) 5), y150)) = some (r1, r2, r3, r4, r5) := by first | (rw [hy150]; with_reducible exact H) | (have H2_ := (Option.bind_some _ _).symm.trans H; rw [hy150]; with_reducible exact H2_) | (have H2_ := (Option.bind_some _ _).symm.trans H; with_reducible exact H2_) | with_reducible exact H | (rw [hy150]; exact H) | exact H
    have Ny150 := aK_ hy150
    clear hy150
    simp only [Option.some.injEq, Prod.mk.injEq] at H
    obtain ⟨rfl, rfl, rfl, rfl, rfl⟩ := H
    go_enter Tryd.func53, Tryd.ntmps53
    try go_wp2_with (first | ((with_reducible refine gate_dst (N := 1) rfl ?_); refine box_event ?hg (N := 1) ?hd (cs := #[.int .i64 a0_0, .int .i64 a0_1, .int .i64 a0_2, .int .i64 a0_3, .slice A0_4 l0_4.length c0_4]) (t := 84) ?hr ?_; (case hd => rfl); (case hg => rfl); (case hr => first | (go_simp; done) | (go_simp; rfl)); intro gb128 hg w18 hbox hb; have n0_ := aK_ (lT_ (by repeat (first | (with_reducible first | exact HB.out | apply lA_ | apply pD | apply lD_) | exact HB.out)) hb); have n1_ := aK_ (hbox); have n2_ := aK_ ((by rw [hg]; exact (lZ_ (by repeat (first | (with_reducible first | exact HB.out | apply lA_ | apply pD | apply lD_) | exact HB.out))) : w.heap.size ≤ gb128)); have n3_ := aK_ ((by rw [hg]; exact (lZ_ (by repeat (first | (with_reducible first | exact HB.out | apply lA_ | apply pD | apply lD_) | exact HB.out))) : w.heap.size ≤ gb128)); clear HB; have HB := n0_; have BK128 := n1_; have GW128 := n2_; have GE128 := n3_; clear n0_ n1_ n2_ n3_; clear hb hbox hg) | ((with_reducible refine gate_dst (N := 2) rfl ?_); refine box_event ?hg (N := 2) ?hd (cs := #[.int .i64 0, .string (⟨#[]⟩ : ByteArray), .int .i64 0, .int .i64 0, .slice none 0 0]) (t := 57) ?hr ?_; (case hd => rfl); (case hg => rfl); (case hr => first | (go_simp; done) | (go_simp; rfl)); intro gb129 hg w19 hbox hb; have n0_ := aK_ (bB (by (with_reducible repeat (first | refine bDN ?_ _ | refine bD ?_ | refine bA ?_ _)); exact BK128.out) hb); have n1_ := aK_ (lT_ (by repeat (first | (with_reducible first | exact HB.out | apply lA_ | apply pD | apply lD_ | refine lS_ ?_ GE128.out) | exact HB.out)) hb); have n2_ := aK_ (hbox); have n3_ := aK_ ((by rw [hg]; exact (lZ_ (by repeat (first | (with_reducible first | exact HB.out | apply lA_ | apply pD | apply lD_ | refine lS_ ?_ GE128.out) | exact HB.out))) : w.heap.size ≤ gb129)); have n4_ := aK_ ((by rw [hg]; exact (lZ_ (by repeat (first | (with_reducible first | exact HB.out | apply lA_ | apply pD | apply lD_ | refine lS_ ?_ GE128.out) | exact HB.out))) : w.heap.size ≤ gb129)); have n5_ := aK_ ((by rw [hg]; exact Nat.ne_of_lt (blk_lt (g := gb128) (o := .cells #[.int .i64 a0_0, .int .i64 a0_1, .int .i64 a0_2, .int .i64 a0_3, .slice A0_4 l0_4.length c0_4] 84 (0, 0)) (by (with_reducible repeat (first | refine bDN ?_ _ | refine bD ?_ | refine bA ?_ _)); exact BK128.out)) : gb128 ≠ gb129)); have n6_ := aK_ ((by rw [hg]; exact Nat.ne_of_gt (blk_lt (g := gb128) (o := .cells #[.int .i64 a0_0, .int .i64 a0_1, .int .i64 a0_2, .int .i64 a0_3, .slice A0_4 l0_4.length c0_4] 84 (0, 0)) (by (with_reducible repeat (first | refine bDN ?_ _ | refine bD ?_ | refine bA ?_ _)); exact BK128.out)) : gb129 ≠ gb128)); clear BK128; clear HB; have BK128 := n0_; have HB := n1_; have BK129 := n2_; have GW129 := n3_; have GE129 := n4_; have NB128_129 := n5_; have NB129_128 := n6_; clear n0_ n1_ n2_ n3_ n4_ n5_ n6_; clear hb hbox hg; have hnb20 := NB128_129.out; have hnc20 := NB129_128.out; have hcz21_0 : w19.cell? ⟨gb128, 0, none⟩ = some (.int .i64 a0_0) := (bC BK128.out 0).trans rfl; have hcz21_1 : w19.cell? ⟨gb128, 1, none⟩ = some (.int .i64 a0_1) := (bC BK128.out 1).trans rfl; have hcz21_2 : w19.cell? ⟨gb128, 2, none⟩ = some (.int .i64 a0_2) := (bC BK128.out 2).trans rfl; have hcz21_3 : w19.cell? ⟨gb128, 3, none⟩ = some (.int .i64 a0_3) := (bC BK128.out 3).trans rfl; have hcz21_4 : w19.cell? ⟨gb128, 4, none⟩ = some (.slice A0_4 l0_4.length c0_4) := (bC BK128.out 4).trans rfl; have hfz21_0 := bF BK128.out 0; have hfz21_1 := bF BK128.out 1; have hfz21_2 := bF BK128.out 2; have hfz21_3 := bF BK128.out 3; have hfz21_4 := bF BK128.out 4))
    have n0_ := aK_ (bD BK128.out)
    have n1_ := aK_ (bD BK129.out)
    have n2_ := aK_ (lD_ HB.out)
    clear BK128
    clear BK129
    clear HB
    have BK128 := n0_
    have BK129 := n1_
    have HB := n2_
    clear n0_ n1_ n2_
    have p134 : 0 ≤ (0 : Int) := (by omega)
    have q134 : 0 < (l0_4.length : Int) := of_decide_eq_true (by first | (with_reducible assumption) | assumption)
    obtain ⟨ad134, A134_4, c134_4, e134, hx134_0, hx134_1, hx134_2, hx134_3, hx134_4, hl134_4, hi134_4⟩ := at_T84 HR0_4.out 0 p134 q134
    have hw134_4 := hx134_4
    (try rw [show ((0 : Int)).toNat = 0 from rfl] at hw134_4)
    (try rw [show 0 * 5 = 0 from rfl] at hw134_4)
    (try rw [Addr.add_zero'] at hw134_4)
    have hw134_3 := hx134_3
    (try rw [show ((0 : Int)).toNat = 0 from rfl] at hw134_3)
    (try rw [show 0 * 5 = 0 from rfl] at hw134_3)
    (try rw [Addr.add_zero'] at hw134_3)
    have hw134_2 := hx134_2
    (try rw [show ((0 : Int)).toNat = 0 from rfl] at hw134_2)
    (try rw [show 0 * 5 = 0 from rfl] at hw134_2)
    (try rw [Addr.add_zero'] at hw134_2)
    have hw134_1 := hx134_1
    (try rw [show ((0 : Int)).toNat = 0 from rfl] at hw134_1)
    (try rw [show 0 * 5 = 0 from rfl] at hw134_1)
    (try rw [Addr.add_zero'] at hw134_1)
    have hw134_0 := hx134_0
    (try rw [show ((0 : Int)).toNat = 0 from rfl] at hw134_0)
    (try rw [show 0 * 5 = 0 from rfl] at hw134_0)
    (try rw [Addr.add_zero'] at hw134_0)
    cases e134
    have qi134 : (0 < l0_4.length) = True := eq_true (by omega)
    (try rw [show ((0 : Int)).toNat = 0 from rfl] at hx134_0)
    (try rw [show 0 * 5 = 0 from rfl] at hx134_0)
    (try rw [Addr.add_zero'] at hx134_0)
    (try rw [show ((0 : Int)).toNat = 0 from rfl] at hx134_1)
    (try rw [show 0 * 5 = 0 from rfl] at hx134_1)
    (try rw [Addr.add_zero'] at hx134_1)
    (try rw [show ((0 : Int)).toNat = 0 from rfl] at hx134_2)
    (try rw [show 0 * 5 = 0 from rfl] at hx134_2)
    (try rw [Addr.add_zero'] at hx134_2)
    (try rw [show ((0 : Int)).toNat = 0 from rfl] at hx134_3)
    (try rw [show 0 * 5 = 0 from rfl] at hx134_3)
    (try rw [Addr.add_zero'] at hx134_3)
    (try rw [show ((0 : Int)).toNat = 0 from rfl] at hx134_4)
    (try rw [show 0 * 5 = 0 from rfl] at hx134_4)
    (try rw [Addr.add_zero'] at hx134_4)
    replace hx134_0 := (HB.out.cell (wb_ w _ hx134_0)).trans hx134_0
    replace hx134_1 := (HB.out.cell (wb_ w _ hx134_1)).trans hx134_1
    replace hx134_2 := (HB.out.cell (wb_ w _ hx134_2)).trans hx134_2
    replace hx134_3 := (HB.out.cell (wb_ w _ hx134_3)).trans hx134_3
    replace hx134_4 := (HB.out.cell (wb_ w _ hx134_4)).trans hx134_4
    have HR134_4 := aK_ hi134_4
    have HC134_4 := aK_ hl134_4
    clear hi134_4 hl134_4
    replace p134 := eq_true p134
    replace q134 := eq_true q134
    have p142 : 0 ≤ (1 : Int) := (by omega)
    have q142 : 1 < (l0_4.length : Int) := of_decide_eq_true (by first | (with_reducible assumption) | assumption)
    obtain ⟨ad142, A142_4, c142_4, e142, hx142_0, hx142_1, hx142_2, hx142_3, hx142_4, hl142_4, hi142_4⟩ := at_T84 HR0_4.out 1 p142 q142
    have hw142_4 := hx142_4
    (try rw [show ((1 : Int)).toNat = 1 from rfl] at hw142_4)
    (try rw [show 1 * 5 = 5 from rfl] at hw142_4)
    (try simp only [Nat.reduceMul, Nat.reduceEqDiff, Go.Addr.add, ↓reduceIte] at hw142_4)
    have hw142_3 := hx142_3
    (try rw [show ((1 : Int)).toNat = 1 from rfl] at hw142_3)
    (try rw [show 1 * 5 = 5 from rfl] at hw142_3)
    (try simp only [Nat.reduceMul, Nat.reduceEqDiff, Go.Addr.add, ↓reduceIte] at hw142_3)
    have hw142_2 := hx142_2
    (try rw [show ((1 : Int)).toNat = 1 from rfl] at hw142_2)
    (try rw [show 1 * 5 = 5 from rfl] at hw142_2)
    (try simp only [Nat.reduceMul, Nat.reduceEqDiff, Go.Addr.add, ↓reduceIte] at hw142_2)
    have hw142_1 := hx142_1
    (try rw [show ((1 : Int)).toNat = 1 from rfl] at hw142_1)
    (try rw [show 1 * 5 = 5 from rfl] at hw142_1)
    (try simp only [Nat.reduceMul, Nat.reduceEqDiff, Go.Addr.add, ↓reduceIte] at hw142_1)
    have hw142_0 := hx142_0
    (try rw [show ((1 : Int)).toNat = 1 from rfl] at hw142_0)
    (try rw [show 1 * 5 = 5 from rfl] at hw142_0)
    (try simp only [Nat.reduceMul, Nat.reduceEqDiff, Go.Addr.add, ↓reduceIte] at hw142_0)
    obtain rfl : ad134 = ad142 := (by injection e142)
    (try simp only [show (1 : Int).toNat = 1 from rfl, Nat.reduceMul, Nat.reduceEqDiff, Go.Addr.add, ↓reduceIte] at hx142_0)
    (try simp only [show (1 : Int).toNat = 1 from rfl, Nat.reduceMul, Nat.reduceEqDiff, Go.Addr.add, ↓reduceIte] at hx142_1)
    (try simp only [show (1 : Int).toNat = 1 from rfl, Nat.reduceMul, Nat.reduceEqDiff, Go.Addr.add, ↓reduceIte] at hx142_2)
    (try simp only [show (1 : Int).toNat = 1 from rfl, Nat.reduceMul, Nat.reduceEqDiff, Go.Addr.add, ↓reduceIte] at hx142_3)
    (try simp only [show (1 : Int).toNat = 1 from rfl, Nat.reduceMul, Nat.reduceEqDiff, Go.Addr.add, ↓reduceIte] at hx142_4)
    have qi142 : (1 < l0_4.length) = True := eq_true (by omega)
    (try rw [show ((1 : Int)).toNat = 1 from rfl] at hx142_0)
    (try rw [show 1 * 5 = 5 from rfl] at hx142_0)
    (try rw [show ((1 : Int)).toNat = 1 from rfl] at hx142_1)
    (try rw [show 1 * 5 = 5 from rfl] at hx142_1)
    (try rw [show ((1 : Int)).toNat = 1 from rfl] at hx142_2)
    (try rw [show 1 * 5 = 5 from rfl] at hx142_2)
    (try rw [show ((1 : Int)).toNat = 1 from rfl] at hx142_3)
    (try rw [show 1 * 5 = 5 from rfl] at hx142_3)
    (try rw [show ((1 : Int)).toNat = 1 from rfl] at hx142_4)
    (try rw [show 1 * 5 = 5 from rfl] at hx142_4)
    replace hx142_0 := (HB.out.cell (wb_ w _ hx142_0)).trans hx142_0
    replace hx142_1 := (HB.out.cell (wb_ w _ hx142_1)).trans hx142_1
    replace hx142_2 := (HB.out.cell (wb_ w _ hx142_2)).trans hx142_2
    replace hx142_3 := (HB.out.cell (wb_ w _ hx142_3)).trans hx142_3
    replace hx142_4 := (HB.out.cell (wb_ w _ hx142_4)).trans hx142_4
    have HR142_4 := aK_ hi142_4
    have HC142_4 := aK_ hl142_4
    clear hi142_4 hl142_4
    replace p142 := eq_true p142
    replace q142 := eq_true q142
    refine start_ (n := 18) (S := fun w' => w'.cell? ⟨gb128, 0, none⟩ = some (.int .i64 a0_0) ∧ w'.cell? ⟨gb128, 1, none⟩ = some (.int .i64 a0_1) ∧ w'.cell? ⟨gb128, 2, none⟩ = some (.int .i64 a0_2) ∧ w'.cell? ⟨gb128, 3, none⟩ = some (.int .i64 a0_3) ∧ w'.cell? ⟨gb128, 4, none⟩ = some (.slice (some ad134) l0_4.length c0_4) ∧ w'.cell? ad134 = some (.int .i64 ((rd_T84 l0_4 0).f0.f0)) ∧ w'.cell? ⟨ad134.block, ad134.off + 1, none⟩ = some (.int .i64 ((rd_T84 l0_4 0).f0.f1)) ∧ w'.cell? ⟨ad134.block, ad134.off + 2, none⟩ = some (.int .i64 ((rd_T84 l0_4 0).f0.f2)) ∧ w'.cell? ⟨ad134.block, ad134.off + 3, none⟩ = some (.int .i64 ((rd_T84 l0_4 0).f1)) ∧ w'.cell? ⟨ad134.block, ad134.off + 4, none⟩ = some (.slice A134_4 ((rd_T84 l0_4 0).f2).length c134_4) ∧ w'.cell? ⟨ad134.block, ad134.off + 5, none⟩ = some (.int .i64 ((rd_T84 l0_4 1).f0.f0)) ∧ w'.cell? ⟨ad134.block, ad134.off + 5 + 1, none⟩ = some (.int .i64 ((rd_T84 l0_4 1).f0.f1)) ∧ w'.cell? ⟨ad134.block, ad134.off + 5 + 2, none⟩ = some (.int .i64 ((rd_T84 l0_4 1).f0.f2)) ∧ w'.cell? ⟨ad134.block, ad134.off + 5 + 3, none⟩ = some (.int .i64 ((rd_T84 l0_4 1).f1)) ∧ w'.cell? ⟨ad134.block, ad134.off + 5 + 4, none⟩ = some (.slice A142_4 ((rd_T84 l0_4 1).f2).length c142_4)) (ds := []) #[false, false, false, false, false, false, false, false, false, false, false, false, false, false, false, false, false, false] (by kernel_rfl) rfl rfl ⟨(bC BK128.out 0).trans rfl, (bC BK128.out 1).trans rfl, (bC BK128.out 2).trans rfl, (bC BK128.out 3).trans rfl, (bC BK128.out 4).trans rfl, ((HB.out.cell (wb_ w _ hw134_0)).trans hw134_0), ((HB.out.cell (wb_ w _ hw134_1)).trans hw134_1), ((HB.out.cell (wb_ w _ hw134_2)).trans hw134_2), ((HB.out.cell (wb_ w _ hw134_3)).trans hw134_3), ((HB.out.cell (wb_ w _ hw134_4)).trans hw134_4), ((HB.out.cell (wb_ w _ hw142_0)).trans hw142_0), ((HB.out.cell (wb_ w _ hw142_1)).trans hw142_1), ((HB.out.cell (wb_ w _ hw142_2)).trans hw142_2), ((HB.out.cell (wb_ w _ hw142_3)).trans hw142_3), ((HB.out.cell (wb_ w _ hw142_4)).trans hw142_4)⟩ (fun hHeld => ?_); refine with_tabW ergolaw13_E_Expr.tab5 ergolaw13_E_Expr.bits5 (fun HT_ HW_ => ?_)
    generalize w19.drew = w22 at BK128 BK129 HB HR134_4 HR142_4 hx134_0 hx134_1 hx134_2 hx134_3 hx134_4 hx142_0 hx142_1 hx142_2 hx142_3 hx142_4 hHeld ⊢
    refine pure_ (i := 0) (N := some 19) (v := ?_) (a' := ?_) #[true, false, false, false, false, false, false, false, false, false, false, false, false, false, false, false, false, false] rfl rfl (any_of HT_.out (by kernel_rfl)) (fun _ _ _ h => h) (Or.inl ⟨by rfl, ?_⟩) ?_ ?_
    rotate_left
    ·intro w'
     go_simp
     with_reducible rfl
    rotate_left
    ·simp only [Act.put, sA_, sZ_, sS_, i64_w, i32_w]
     rfl
    refine pure_ (i := 5) (N := some 24) (v := ?_) (a' := ?_) #[true, false, false, false, false, true, false, false, false, false, false, false, false, false, false, false, false, false] rfl rfl (any_of HT_.out (by kernel_rfl)) (fun _ _ _ h => h) (Or.inl ⟨by rfl, ?_⟩) ?_ ?_
    rotate_left
    ·intro w'
     go_simp
     with_reducible rfl
    rotate_left
    ·simp only [Act.put, sA_, sZ_, sS_, i64_w, i32_w]
     rfl
    refine pure_ (i := 10) (N := some 29) (v := ?_) (a' := ?_) #[true, false, false, false, false, true, false, false, false, false, true, false, false, false, false, false, false, false] rfl rfl (any_of HT_.out (by kernel_rfl)) (fun _ _ _ h => h) (Or.inl ⟨by rfl, ?_⟩) ?_ ?_
    rotate_left
    ·intro w'
     go_simp
     with_reducible rfl
    rotate_left
    ·simp only [Act.put, sA_, sZ_, sS_, i64_w, i32_w]
     rfl
    refine take_ (i := 1) (N := some 20) (v := ?_) (a' := ?_) #[true, true, false, false, false, true, false, false, false, false, true, false, false, false, false, false, false, false] rfl rfl (take_ofW HT_.out HW_.out (by kernel_rfl)) (fun _ _ _ h => h) (Or.inl ⟨by rfl, ?_⟩) hHeld ?_ ?_
    rotate_left
    ·rintro w' ⟨s0, s1, s2, s3, s4, s5, s6, s7, s8, s9, s10, s11, s12, s13, s14⟩
     go_simp
     with_reducible rfl
    rotate_left
    ·simp only [Act.put, sA_, sZ_, sS_, i64_w, i32_w]
     rfl
    refine pure_ (i := 2) (N := some 21) (v := ?_) (a' := ?_) #[true, true, true, false, false, true, false, false, false, false, true, false, false, false, false, false, false, false] rfl rfl (any_of HT_.out (by kernel_rfl)) (fun _ _ _ h => h) (Or.inl ⟨by rfl, ?_⟩) ?_ ?_
    rotate_left
    ·intro w'
     go_simp
     with_reducible rfl
    rotate_left
    ·simp only [Act.put, sA_, sZ_, sS_, i64_w, i32_w]
     rfl
    refine pure_ (i := 3) (N := some 22) (v := ?_) (a' := ?_) #[true, true, true, true, false, true, false, false, false, false, true, false, false, false, false, false, false, false] rfl rfl (any_of HT_.out (by kernel_rfl)) (fun _ _ _ h => h) (Or.inl ⟨by rfl, ?_⟩) ?_ ?_
    rotate_left
    ·intro w'
     go_simp
     with_reducible rfl
    rotate_left
    ·simp only [Act.put, sA_, sZ_, sS_, i64_w, i32_w]
     rfl
    refine pure_ (i := 4) (N := some 23) (v := ?_) (a' := ?_) #[true, true, true, true, true, true, false, false, false, false, true, false, false, false, false, false, false, false] rfl rfl (any_of HT_.out (by kernel_rfl)) (fun _ _ _ h => h) (Or.inl ⟨by rfl, ?_⟩) ?_ ?_
    rotate_left
    ·intro w'
     go_simp
     with_reducible rfl
    rotate_left
    ·simp only [Act.put, sA_, sZ_, sS_, i64_w, i32_w]
     rfl
    refine take_ (i := 6) (N := some 25) (v := ?_) (a' := ?_) #[true, true, true, true, true, true, true, false, false, false, true, false, false, false, false, false, false, false] rfl rfl (take_ofW HT_.out HW_.out (by kernel_rfl)) (fun _ _ _ h => h) (Or.inl ⟨by rfl, ?_⟩) hHeld ?_ ?_
    rotate_left
    ·rintro w' ⟨s0, s1, s2, s3, s4, s5, s6, s7, s8, s9, s10, s11, s12, s13, s14⟩
     go_simp
     with_reducible rfl
    rotate_left
    ·simp only [Act.put, sA_, sZ_, sS_, i64_w, i32_w]
     rfl
    refine pure_ (i := 7) (N := some 26) (v := ?_) (a' := ?_) #[true, true, true, true, true, true, true, true, false, false, true, false, false, false, false, false, false, false] rfl rfl (any_of HT_.out (by kernel_rfl)) (fun _ _ _ h => h) (Or.inl ⟨by rfl, ?_⟩) ?_ ?_
    rotate_left
    ·intro w'
     go_simp
     with_reducible rfl
    rotate_left
    ·simp only [Act.put, sA_, sZ_, sS_, i64_w, i32_w]
     rfl
    refine take_ (i := 8) (N := some 27) (v := ?_) (a' := ?_) #[true, true, true, true, true, true, true, true, true, false, true, false, false, false, false, false, false, false] rfl rfl (take_ofW HT_.out HW_.out (by kernel_rfl)) (fun _ _ _ h => h) (Or.inl ⟨by rfl, ?_⟩) hHeld ?_ ?_
    rotate_left
    ·rintro w' ⟨s0, s1, s2, s3, s4, s5, s6, s7, s8, s9, s10, s11, s12, s13, s14⟩
     go_simp
     with_reducible rfl
    rotate_left
    ·simp only [Act.put, sA_, sZ_, sS_, i64_w, i32_w]
     rfl
    refine take_ (i := 11) (N := some 30) (v := ?_) (a' := ?_) #[true, true, true, true, true, true, true, true, true, false, true, true, false, false, false, false, false, false] rfl rfl (take_ofW HT_.out HW_.out (by kernel_rfl)) (fun _ _ _ h => h) (Or.inl ⟨by rfl, ?_⟩) hHeld ?_ ?_
    rotate_left
    ·rintro w' ⟨s0, s1, s2, s3, s4, s5, s6, s7, s8, s9, s10, s11, s12, s13, s14⟩
     go_simp
     with_reducible rfl
    rotate_left
    ·simp only [Act.put, sA_, sZ_, sS_, i64_w, i32_w]
     rfl
    refine pure_ (i := 12) (N := some 31) (v := ?_) (a' := ?_) #[true, true, true, true, true, true, true, true, true, false, true, true, true, false, false, false, false, false] rfl rfl (any_of HT_.out (by kernel_rfl)) (fun _ _ _ h => h) (Or.inl ⟨by rfl, ?_⟩) ?_ ?_
    rotate_left
    ·intro w'
     go_simp
     with_reducible rfl
    rotate_left
    ·simp only [Act.put, sA_, sZ_, sS_, i64_w, i32_w]
     rfl
    refine take_ (i := 13) (N := some 32) (v := ?_) (a' := ?_) #[true, true, true, true, true, true, true, true, true, false, true, true, true, true, false, false, false, false] rfl rfl (take_ofW HT_.out HW_.out (by kernel_rfl)) (fun _ _ _ h => h) (Or.inl ⟨by rfl, ?_⟩) hHeld ?_ ?_
    rotate_left
    ·rintro w' ⟨s0, s1, s2, s3, s4, s5, s6, s7, s8, s9, s10, s11, s12, s13, s14⟩
     go_simp
     with_reducible rfl
    rotate_left
    ·simp only [Act.put, sA_, sZ_, sS_, i64_w, i32_w]
     rfl
    refine one_ (i := 9) (N := some 28) #[true, true, true, true, true, true, true, true, true, true, true, true, true, true, false, false, false, false] rfl rfl (one_of HT_.out (by kernel_rfl)) (by decide) (fun K hK => ?_)
    refine goes_ Tryd.func53 (by kernel_rfl) rfl #[.agg #[.int .i64 ((rd_T84 l0_4 0).f0.f0), .int .i64 ((rd_T84 l0_4 0).f0.f1), .int .i64 ((rd_T84 l0_4 0).f0.f2), .int .i64 ((rd_T84 l0_4 0).f1), .slice A134_4 ((rd_T84 l0_4 0).f2).length c134_4]] (by rfl) rfl rfl (by (try simp only [List.map_toArray, List.map_cons, List.map_nil]); first | done | rfl | (simp only [List.length_drop, List.length_take]; rfl)) ?_
    with_reducible refine (ih k (by omega) ((rd_T84 l0_4 0).f0.f0) ((rd_T84 l0_4 0).f0.f1) ((rd_T84 l0_4 0).f0.f2) ((rd_T84 l0_4 0).f1) _ _ ((rd_T84 l0_4 0).f2) t135 t136 t137 t138 t139 _ ?side1 ?side2 A15.out).mono ?_
    (case side1 => repeat (first | exact (Kd.C_below HR134_4.out HB.out) | (with_reducible refine Kd.C_alloc ?_ _) | (with_reducible refine Kd.C_drewN ?_ _) | (with_reducible refine Kd.C_drew ?_)))
    (case side2 => exact HC134_4.out)
    rintro e w23 ⟨v140, rfl, ho0, hb⟩
    refine ⟨_, rfl, ?_⟩
    have n0_ := aK_ (Kd.N_lower (Kd.N_mono (ok' := fun k_ => (w.heap.size ≤ k_) ∧ k_ ≠ gb128 ∧ k_ ≠ gb129) ho0 (fun k_ hk_ => ⟨(Nat.le_trans (lZ_ (by repeat (first | (with_reducible first | exact HB.out | apply lA_ | apply pD | apply lD_ | refine lS_ ?_ GE128.out | refine lS_ ?_ GE129.out) | exact HB.out))) hk_), (Kd.freshB (g := gb128) (o := .cells #[.int .i64 a0_0, .int .i64 a0_1, .int .i64 a0_2, .int .i64 a0_3, .slice (some ad134) l0_4.length c0_4] 84 (0, 0)) (by (with_reducible repeat (first | refine bDN ?_ _ | refine bD ?_ | refine bA ?_ _)); exact BK128.out) k_ hk_), (Kd.freshB (g := gb129) (o := .cells #[.int .i64 0, .string (⟨#[]⟩ : ByteArray), .int .i64 0, .int .i64 0, .slice none 0 0] 57 (0, 0)) (by (with_reducible repeat (first | refine bDN ?_ _ | refine bD ?_ | refine bA ?_ _)); exact BK129.out) k_ hk_)⟩)) (lZ_ (by repeat (first | (with_reducible first | exact HB.out | apply lA_ | apply pD | apply lD_ | refine lS_ ?_ GE128.out | refine lS_ ?_ GE129.out) | exact HB.out))))
    have n1_ := aK_ (bB (by (with_reducible repeat (first | refine bDN ?_ _ | refine bD ?_ | refine bA ?_ _)); exact BK128.out) hb)
    have n2_ := aK_ (bB (by (with_reducible repeat (first | refine bDN ?_ _ | refine bD ?_ | refine bA ?_ _)); exact BK129.out) hb)
    have n3_ := aK_ (lT_ (by repeat (first | (with_reducible first | exact HB.out | apply lA_ | apply pD | apply lD_ | refine lS_ ?_ GE128.out | refine lS_ ?_ GE129.out) | exact HB.out)) hb)
    clear BK128
    clear BK129
    clear HB
    have HO141 := n0_
    have BK128 := n1_
    have BK129 := n2_
    have HB := n3_
    clear n0_ n1_ n2_ n3_
    (try clear hb)
    (try clear hb2)
    (try clear hk)
    (try clear hi)
    (try clear ho0)
    refine hK.out _ _ ⟨(bC BK128.out 0).trans rfl, (bC BK128.out 1).trans rfl, (bC BK128.out 2).trans rfl, (bC BK128.out 3).trans rfl, (bC BK128.out 4).trans rfl, ((HB.out.cell (wb_ w _ hw134_0)).trans hw134_0), ((HB.out.cell (wb_ w _ hw134_1)).trans hw134_1), ((HB.out.cell (wb_ w _ hw134_2)).trans hw134_2), ((HB.out.cell (wb_ w _ hw134_3)).trans hw134_3), ((HB.out.cell (wb_ w _ hw134_4)).trans hw134_4), ((HB.out.cell (wb_ w _ hw142_0)).trans hw142_0), ((HB.out.cell (wb_ w _ hw142_1)).trans hw142_1), ((HB.out.cell (wb_ w _ hw142_2)).trans hw142_2), ((HB.out.cell (wb_ w _ hw142_3)).trans hw142_3), ((HB.out.cell (wb_ w _ hw142_4)).trans hw142_4)⟩ (fun hHeld => ?_)
    clear hK K
    refine norm_ (a' := ?_) ?_ ?_
    rotate_left
    ·show Act.put _ (some 28) _ = _
     simp only [Act.put, sA_, sZ_, sS_, i64_w, i32_w]
     rfl
    refine one_ (i := 14) (N := some 33) #[true, true, true, true, true, true, true, true, true, true, true, true, true, true, true, false, false, false] rfl rfl (one_of HT_.out (by kernel_rfl)) (by decide) (fun K hK => ?_)
    refine goes_ Tryd.func53 (by kernel_rfl) rfl #[.agg #[.int .i64 ((rd_T84 l0_4 1).f0.f0), .int .i64 ((rd_T84 l0_4 1).f0.f1), .int .i64 ((rd_T84 l0_4 1).f0.f2), .int .i64 ((rd_T84 l0_4 1).f1), .slice A142_4 ((rd_T84 l0_4 1).f2).length c142_4]] (by rfl) rfl rfl (by (try simp only [List.map_toArray, List.map_cons, List.map_nil]); first | done | rfl | (simp only [List.length_drop, List.length_take]; rfl)) ?_
    with_reducible refine (ih k (by omega) ((rd_T84 l0_4 1).f0.f0) ((rd_T84 l0_4 1).f0.f1) ((rd_T84 l0_4 1).f0.f2) ((rd_T84 l0_4 1).f1) _ _ ((rd_T84 l0_4 1).f2) t143 t144 t145 t146 t147 _ ?side1 ?side2 A17.out).mono ?_
    (case side1 => repeat (first | exact (Kd.C_below HR142_4.out HB.out) | (with_reducible refine Kd.C_alloc ?_ _) | (with_reducible refine Kd.C_drewN ?_ _) | (with_reducible refine Kd.C_drew ?_)))
    (case side2 => exact HC142_4.out)
    rintro e w24 ⟨v148, rfl, ho0, hb⟩
    refine ⟨_, rfl, ?_⟩
    have n0_ := aK_ (Kd.N_elder' (by (with_reducible repeat (first | apply Kd.N_alloc | apply Kd.N_drewN | apply Kd.N_drew)); exact HO141.out) (Kd.N_base ho0) hb)
    have n1_ := aK_ (Kd.N_lower (Kd.N_mono (ok' := fun k_ => (w.heap.size ≤ k_) ∧ some k_ ≠ (v140 : Value).ownBlock ∧ k_ ≠ gb128 ∧ k_ ≠ gb129) ho0 (fun k_ hk_ => ⟨(Nat.le_trans (lZ_ (by repeat (first | (with_reducible first | exact HB.out | apply lA_ | apply pD | apply lD_ | refine lS_ ?_ GE128.out | refine lS_ ?_ GE129.out) | exact HB.out))) hk_), (Kd.fresh' (Kd.N_lt (by (with_reducible repeat (first | apply Kd.N_alloc | apply Kd.N_drewN | apply Kd.N_drew)); exact HO141.out)) k_ hk_), (Kd.freshB (g := gb128) (o := .cells #[.int .i64 a0_0, .int .i64 a0_1, .int .i64 a0_2, .int .i64 a0_3, .slice (some ad134) l0_4.length c0_4] 84 (0, 0)) (by (with_reducible repeat (first | refine bDN ?_ _ | refine bD ?_ | refine bA ?_ _)); exact BK128.out) k_ hk_), (Kd.freshB (g := gb129) (o := .cells #[.int .i64 0, .string (⟨#[]⟩ : ByteArray), .int .i64 0, .int .i64 0, .slice none 0 0] 57 (0, 0)) (by (with_reducible repeat (first | refine bDN ?_ _ | refine bD ?_ | refine bA ?_ _)); exact BK129.out) k_ hk_)⟩)) (lZ_ (by repeat (first | (with_reducible first | exact HB.out | apply lA_ | apply pD | apply lD_ | refine lS_ ?_ GE128.out | refine lS_ ?_ GE129.out) | exact HB.out))))
    have n2_ := aK_ (bB (by (with_reducible repeat (first | refine bDN ?_ _ | refine bD ?_ | refine bA ?_ _)); exact BK128.out) hb)
    have n3_ := aK_ (bB (by (with_reducible repeat (first | refine bDN ?_ _ | refine bD ?_ | refine bA ?_ _)); exact BK129.out) hb)
    have n4_ := aK_ (lT_ (by repeat (first | (with_reducible first | exact HB.out | apply lA_ | apply pD | apply lD_ | refine lS_ ?_ GE128.out | refine lS_ ?_ GE129.out) | exact HB.out)) hb)
    clear HO141
    clear BK128
    clear BK129
    clear HB
    have HO141 := n0_
    have HO149 := n1_
    have BK128 := n2_
    have BK129 := n3_
    have HB := n4_
    clear n0_ n1_ n2_ n3_ n4_
    (try clear hb)
    (try clear hb2)
    (try clear hk)
    (try clear hi)
    (try clear ho0)
    obtain ⟨Ao25, co25, eo25⟩ := Kd.N_slice HO141.out
    (first | subst eo25 | (injection eo25 with f1_ f2_ f3_; have f4_ := f1_.symm; have f5_ := f3_.symm; clear f1_ f2_ f3_; subst f4_; subst f5_))
    obtain ⟨Ao26, co26, eo26⟩ := Kd.N_slice HO149.out
    (first | subst eo26 | (injection eo26 with f1_ f2_ f3_; have f4_ := f1_.symm; have f5_ := f3_.symm; clear f1_ f2_ f3_; subst f4_; subst f5_))
    refine hK.out _ _ ⟨(bC BK128.out 0).trans rfl, (bC BK128.out 1).trans rfl, (bC BK128.out 2).trans rfl, (bC BK128.out 3).trans rfl, (bC BK128.out 4).trans rfl, ((HB.out.cell (wb_ w _ hw134_0)).trans hw134_0), ((HB.out.cell (wb_ w _ hw134_1)).trans hw134_1), ((HB.out.cell (wb_ w _ hw134_2)).trans hw134_2), ((HB.out.cell (wb_ w _ hw134_3)).trans hw134_3), ((HB.out.cell (wb_ w _ hw134_4)).trans hw134_4), ((HB.out.cell (wb_ w _ hw142_0)).trans hw142_0), ((HB.out.cell (wb_ w _ hw142_1)).trans hw142_1), ((HB.out.cell (wb_ w _ hw142_2)).trans hw142_2), ((HB.out.cell (wb_ w _ hw142_3)).trans hw142_3), ((HB.out.cell (wb_ w _ hw142_4)).trans hw142_4)⟩ (fun hHeld => ?_)
    clear hK K
    refine norm_ (a' := ?_) ?_ ?_
    rotate_left
    ·show Act.put _ (some 33) _ = _
     simp only [Act.put, sA_, sZ_, sS_, i64_w, i32_w]
     rfl
    refine one_ (i := 15) (N := some 34) #[true, true, true, true, true, true, true, true, true, true, true, true, true, true, true, true, false, false] rfl rfl (one_of HT_.out (by kernel_rfl)) (by decide) (fun K hK => ?_)
    refine Kd.N_lit_step k57 _ 57 ?hg (N' := 34) ?hd (xs := ([(⟨(⟨t135, t136, t137⟩ : S53), t138, t139⟩ : S57), (⟨(⟨t143, t144, t145⟩ : S53), t146, t147⟩ : S57)] : List (S57))) (inner := [.int .i64 t135, .string t136, .int .i64 t137, .int .i64 t138, .slice Ao25 t139.length co25, .int .i64 t143, .string t144, .int .i64 t145, .int .i64 t146, .slice Ao26 t147.length co26]) (ok := (fun k_ => (w.heap.size ≤ k_) ∧ k_ ≠ gb128 ∧ k_ ≠ gb129)) (okp := (fun k_ => (w.heap.size ≤ k_) ∧ k_ ≠ gb128 ∧ k_ ≠ gb129)) ?hr ?hp (fun _ hk => hk) ((show ∀ k_, w24.heap.size ≤ k_ → (fun k_ => (w.heap.size ≤ k_) ∧ k_ ≠ gb128 ∧ k_ ≠ gb129) k_ from fun k_ hk => ⟨(Nat.le_trans (lZ_ (by repeat (first | (with_reducible first | exact HB.out | apply lA_ | apply pD | apply lD_ | refine lS_ ?_ GE128.out | refine lS_ ?_ GE129.out) | exact HB.out))) hk), Kd.freshB (g := gb128) (o := .cells #[.int .i64 a0_0, .int .i64 a0_1, .int .i64 a0_2, .int .i64 a0_3, .slice (some ad134) l0_4.length c0_4] 84 (0, 0)) (by (with_reducible repeat (first | refine bDN ?_ _ | refine bD ?_ | refine bA ?_ _)); exact BK128.out) k_ hk, Kd.freshB (g := gb129) (o := .cells #[.int .i64 0, .string (⟨#[]⟩ : ByteArray), .int .i64 0, .int .i64 0, .slice none 0 0] 57 (0, 0)) (by (with_reducible repeat (first | refine bDN ?_ _ | refine bD ?_ | refine bA ?_ _)); exact BK129.out) k_ hk⟩) _ (Nat.le_refl _)) (Below.refl _ _) (Nat.le_refl _) (by simp) ?_; (case hd => rfl); (case hg => rfl); (case hr => first | (go_simp; done) | (go_simp; rfl)); (case hp => exact (Reps.c5 (show Kd.FK k57 _ _ (⟨(⟨t135, t136, t137⟩ : S53), t138, t139⟩ : S57) [.int .i64 t135, .string t136, .int .i64 t137, .int .i64 t138, .slice Ao25 t139.length co25] from (k57_mkF _ _ (⟨(⟨t135, t136, t137⟩ : S53), t138, t139⟩ : S57) (Kd.N_reads' (Kd.N_mono (ok' := (fun k_ => (w.heap.size ≤ k_) ∧ k_ ≠ gb128 ∧ k_ ≠ gb129)) (HO141.out) (fun k_ hk => ⟨hk.1.1, ⟨hk.1.2.1, hk.1.2.2⟩⟩))).2.1 (Kd.N_F (Kd.N_mono (ok' := (fun k_ => (w.heap.size ≤ k_) ∧ k_ ≠ gb128 ∧ k_ ≠ gb129)) (HO141.out) (fun k_ hk => ⟨hk.1.1, ⟨hk.1.2.1, hk.1.2.2⟩⟩))))) (Reps.c5 (show Kd.FK k57 _ _ (⟨(⟨t143, t144, t145⟩ : S53), t146, t147⟩ : S57) [.int .i64 t143, .string t144, .int .i64 t145, .int .i64 t146, .slice Ao26 t147.length co26] from (k57_mkF _ _ (⟨(⟨t143, t144, t145⟩ : S53), t146, t147⟩ : S57) (Kd.N_reads' (Kd.N_mono (ok' := (fun k_ => (w.heap.size ≤ k_) ∧ k_ ≠ gb128 ∧ k_ ≠ gb129)) (HO149.out) (fun k_ hk => ⟨hk.1, ⟨hk.2.2.1, hk.2.2.2⟩⟩))).2.1 (Kd.N_F (Kd.N_mono (ok' := (fun k_ => (w.heap.size ≤ k_) ∧ k_ ≠ gb128 ∧ k_ ≠ gb129)) (HO149.out) (fun k_ hk => ⟨hk.1, ⟨hk.2.2.1, hk.2.2.2⟩⟩))))) (Reps.none _ _))))
    intro v151 w27 ho28 hb hg_ hnew_
    clear hg_ hnew_
    (first | rw [← Ny150.out] at ho28 | (simp only [Int.reduceToNat] at ho28; rw [← Ny150.out] at ho28))
    have n0_ := aK_ (Kd.N_lower ho28 (lZ_ (by repeat (first | (with_reducible first | exact HB.out | apply lA_ | apply pD | apply lD_ | refine lS_ ?_ GE128.out | refine lS_ ?_ GE129.out) | exact HB.out))))
    have n1_ := aK_ (bB (by (with_reducible repeat (first | refine bDN ?_ _ | refine bD ?_ | refine bA ?_ _)); exact BK128.out) hb)
    have n2_ := aK_ (bB (by (with_reducible repeat (first | refine bDN ?_ _ | refine bD ?_ | refine bA ?_ _)); exact BK129.out) hb)
    have n3_ := aK_ (lT_ (by repeat (first | (with_reducible first | exact HB.out | apply lA_ | apply pD | apply lD_ | refine lS_ ?_ GE128.out | refine lS_ ?_ GE129.out) | exact HB.out)) hb)
    clear BK128
    clear BK129
    clear HB
    clear HO141
    clear HO149
    have HO152 := n0_
    have BK128 := n1_
    have BK129 := n2_
    have HB := n3_
    clear n0_ n1_ n2_ n3_
    clear hb ho28
    obtain ⟨Ao29, co29, eo29⟩ := Kd.N_slice HO152.out
    (first | subst eo29 | (injection eo29 with f1_ f2_ f3_; have f4_ := f1_.symm; have f5_ := f3_.symm; clear f1_ f2_ f3_; subst f4_; subst f5_))
    refine hK.out _ _ ⟨(bC BK128.out 0).trans rfl, (bC BK128.out 1).trans rfl, (bC BK128.out 2).trans rfl, (bC BK128.out 3).trans rfl, (bC BK128.out 4).trans rfl, ((HB.out.cell (wb_ w _ hw134_0)).trans hw134_0), ((HB.out.cell (wb_ w _ hw134_1)).trans hw134_1), ((HB.out.cell (wb_ w _ hw134_2)).trans hw134_2), ((HB.out.cell (wb_ w _ hw134_3)).trans hw134_3), ((HB.out.cell (wb_ w _ hw134_4)).trans hw134_4), ((HB.out.cell (wb_ w _ hw142_0)).trans hw142_0), ((HB.out.cell (wb_ w _ hw142_1)).trans hw142_1), ((HB.out.cell (wb_ w _ hw142_2)).trans hw142_2), ((HB.out.cell (wb_ w _ hw142_3)).trans hw142_3), ((HB.out.cell (wb_ w _ hw142_4)).trans hw142_4)⟩ (fun hHeld => ?_)
    clear hK K
    refine norm_ (a' := ?_) ?_ ?_
    rotate_left
    ·show Act.put _ (some 34) _ = _
     simp only [Act.put, sA_, sZ_, sS_, i64_w, i32_w]
     rfl
    refine pure_ (i := 16) (N := some 35) (v := ?_) (a' := ?_) #[true, true, true, true, true, true, true, true, true, true, true, true, true, true, true, true, true, false] rfl rfl (any_of HT_.out (by kernel_rfl)) (fun _ _ _ h => h) (Or.inl ⟨by rfl, ?_⟩) ?_ ?_
    rotate_left
    ·intro w'
     go_simp
     with_reducible rfl
    rotate_left
    ·simp only [Act.put, sA_, sZ_, sS_, i64_w, i32_w]
     rfl
    refine one_ (i := 17) (N := none) #[true, true, true, true, true, true, true, true, true, true, true, true, true, true, true, true, true, true] rfl rfl (one_of HT_.out (by kernel_rfl)) (by decide) (fun K hK => ?_)
    have hs30 : w27.cell? ⟨gb129, 0, none⟩ = some (.int .i64 0) := (bC BK129.out 0).trans rfl
    have hfs30 := bF BK129.out 0
    have hns30_0 := NB128_129.out
    have hms30_0 := NB129_128.out
    have hs31 : w27.cell? ⟨gb129, 1, none⟩ = some (.string (⟨#[]⟩ : ByteArray)) := (bC BK129.out 1).trans rfl
    have hfs31 := bF BK129.out 1
    have hns31_0 := NB128_129.out
    have hms31_0 := NB129_128.out
    have hs32 : w27.cell? ⟨gb129, 2, none⟩ = some (.int .i64 0) := (bC BK129.out 2).trans rfl
    have hfs32 := bF BK129.out 2
    have hns32_0 := NB128_129.out
    have hms32_0 := NB129_128.out
    have hs33 : w27.cell? ⟨gb129, 3, none⟩ = some (.int .i64 0) := (bC BK129.out 3).trans rfl
    have hfs33 := bF BK129.out 3
    have hns33_0 := NB128_129.out
    have hms33_0 := NB129_128.out
    have hs34 : w27.cell? ⟨gb129, 4, none⟩ = some (.slice none 0 0) := (bC BK129.out 4).trans rfl
    have hfs34 := bF BK129.out 4
    have hns34_0 := NB128_129.out
    have hms34_0 := NB129_128.out
    refine skip_ (w1 := ?_) (by rfl) rfl ?_ ?_
    rotate_left
    ·go_simp
     rfl
    refine hK.out _ _ ⟨(cX_ NB128_129.out ((cX_ NB128_129.out ((cX_ NB128_129.out ((cX_ NB128_129.out ((cX_ NB128_129.out (hHeld.1)))))))))), (cX_ NB128_129.out ((cX_ NB128_129.out ((cX_ NB128_129.out ((cX_ NB128_129.out ((cX_ NB128_129.out (hHeld.2.1)))))))))), (cX_ NB128_129.out ((cX_ NB128_129.out ((cX_ NB128_129.out ((cX_ NB128_129.out ((cX_ NB128_129.out (hHeld.2.2.1)))))))))), (cX_ NB128_129.out ((cX_ NB128_129.out ((cX_ NB128_129.out ((cX_ NB128_129.out ((cX_ NB128_129.out (hHeld.2.2.2.1)))))))))), (cX_ NB128_129.out ((cX_ NB128_129.out ((cX_ NB128_129.out ((cX_ NB128_129.out ((cX_ NB128_129.out (hHeld.2.2.2.2.1)))))))))), ((cF_ (p := ⟨gb129, _, none⟩) (by first | exact Nat.ne_of_lt (Nat.lt_of_lt_of_le (by have := wb_ _ _ hw134_0; first | rwa [aB_] at this | exact this) GW129.out) | (rw [aB_]; exact Nat.ne_of_lt (Nat.lt_of_lt_of_le (by have := wb_ _ _ hw134_0; first | rwa [aB_] at this | exact this) GW129.out)) | (show (Addr.add _ _).block ≠ _; rw [aB_]; exact Nat.ne_of_lt (Nat.lt_of_lt_of_le (by have := wb_ _ _ hw134_0; first | rwa [aB_] at this | exact this) GW129.out)) | (dsimp only; exact Nat.ne_of_lt (Nat.lt_of_lt_of_le (by have := wb_ _ _ hw134_0; first | rwa [aB_] at this | exact this) GW129.out))) _).trans (((cF_ (p := ⟨gb129, _, none⟩) (by first | exact Nat.ne_of_lt (Nat.lt_of_lt_of_le (by have := wb_ _ _ hw134_0; first | rwa [aB_] at this | exact this) GW129.out) | (rw [aB_]; exact Nat.ne_of_lt (Nat.lt_of_lt_of_le (by have := wb_ _ _ hw134_0; first | rwa [aB_] at this | exact this) GW129.out)) | (show (Addr.add _ _).block ≠ _; rw [aB_]; exact Nat.ne_of_lt (Nat.lt_of_lt_of_le (by have := wb_ _ _ hw134_0; first | rwa [aB_] at this | exact this) GW129.out)) | (dsimp only; exact Nat.ne_of_lt (Nat.lt_of_lt_of_le (by have := wb_ _ _ hw134_0; first | rwa [aB_] at this | exact this) GW129.out))) _).trans (((cF_ (p := ⟨gb129, _, none⟩) (by first | exact Nat.ne_of_lt (Nat.lt_of_lt_of_le (by have := wb_ _ _ hw134_0; first | rwa [aB_] at this | exact this) GW129.out) | (rw [aB_]; exact Nat.ne_of_lt (Nat.lt_of_lt_of_le (by have := wb_ _ _ hw134_0; first | rwa [aB_] at this | exact this) GW129.out)) | (show (Addr.add _ _).block ≠ _; rw [aB_]; exact Nat.ne_of_lt (Nat.lt_of_lt_of_le (by have := wb_ _ _ hw134_0; first | rwa [aB_] at this | exact this) GW129.out)) | (dsimp only; exact Nat.ne_of_lt (Nat.lt_of_lt_of_le (by have := wb_ _ _ hw134_0; first | rwa [aB_] at this | exact this) GW129.out))) _).trans (((cF_ (p := ⟨gb129, _, none⟩) (by first | exact Nat.ne_of_lt (Nat.lt_of_lt_of_le (by have := wb_ _ _ hw134_0; first | rwa [aB_] at this | exact this) GW129.out) | (rw [aB_]; exact Nat.ne_of_lt (Nat.lt_of_lt_of_le (by have := wb_ _ _ hw134_0; first | rwa [aB_] at this | exact this) GW129.out)) | (show (Addr.add _ _).block ≠ _; rw [aB_]; exact Nat.ne_of_lt (Nat.lt_of_lt_of_le (by have := wb_ _ _ hw134_0; first | rwa [aB_] at this | exact this) GW129.out)) | (dsimp only; exact Nat.ne_of_lt (Nat.lt_of_lt_of_le (by have := wb_ _ _ hw134_0; first | rwa [aB_] at this | exact this) GW129.out))) _).trans (((cF_ (p := ⟨gb129, _, none⟩) (by first | exact Nat.ne_of_lt (Nat.lt_of_lt_of_le (by have := wb_ _ _ hw134_0; first | rwa [aB_] at this | exact this) GW129.out) | (rw [aB_]; exact Nat.ne_of_lt (Nat.lt_of_lt_of_le (by have := wb_ _ _ hw134_0; first | rwa [aB_] at this | exact this) GW129.out)) | (show (Addr.add _ _).block ≠ _; rw [aB_]; exact Nat.ne_of_lt (Nat.lt_of_lt_of_le (by have := wb_ _ _ hw134_0; first | rwa [aB_] at this | exact this) GW129.out)) | (dsimp only; exact Nat.ne_of_lt (Nat.lt_of_lt_of_le (by have := wb_ _ _ hw134_0; first | rwa [aB_] at this | exact this) GW129.out))) _).trans (hHeld.2.2.2.2.2.1)))))))))), ((cF_ (p := ⟨gb129, _, none⟩) (by first | exact Nat.ne_of_lt (Nat.lt_of_lt_of_le (by have := wb_ _ _ hw134_1; first | rwa [aB_] at this | exact this) GW129.out) | (rw [aB_]; exact Nat.ne_of_lt (Nat.lt_of_lt_of_le (by have := wb_ _ _ hw134_1; first | rwa [aB_] at this | exact this) GW129.out)) | (show (Addr.add _ _).block ≠ _; rw [aB_]; exact Nat.ne_of_lt (Nat.lt_of_lt_of_le (by have := wb_ _ _ hw134_1; first | rwa [aB_] at this | exact this) GW129.out)) | (dsimp only; exact Nat.ne_of_lt (Nat.lt_of_lt_of_le (by have := wb_ _ _ hw134_1; first | rwa [aB_] at this | exact this) GW129.out))) _).trans (((cF_ (p := ⟨gb129, _, none⟩) (by first | exact Nat.ne_of_lt (Nat.lt_of_lt_of_le (by have := wb_ _ _ hw134_1; first | rwa [aB_] at this | exact this) GW129.out) | (rw [aB_]; exact Nat.ne_of_lt (Nat.lt_of_lt_of_le (by have := wb_ _ _ hw134_1; first | rwa [aB_] at this | exact this) GW129.out)) | (show (Addr.add _ _).block ≠ _; rw [aB_]; exact Nat.ne_of_lt (Nat.lt_of_lt_of_le (by have := wb_ _ _ hw134_1; first | rwa [aB_] at this | exact this) GW129.out)) | (dsimp only; exact Nat.ne_of_lt (Nat.lt_of_lt_of_le (by have := wb_ _ _ hw134_1; first | rwa [aB_] at this | exact this) GW129.out))) _).trans (((cF_ (p := ⟨gb129, _, none⟩) (by first | exact Nat.ne_of_lt (Nat.lt_of_lt_of_le (by have := wb_ _ _ hw134_1; first | rwa [aB_] at this | exact this) GW129.out) | (rw [aB_]; exact Nat.ne_of_lt (Nat.lt_of_lt_of_le (by have := wb_ _ _ hw134_1; first | rwa [aB_] at this | exact this) GW129.out)) | (show (Addr.add _ _).block ≠ _; rw [aB_]; exact Nat.ne_of_lt (Nat.lt_of_lt_of_le (by have := wb_ _ _ hw134_1; first | rwa [aB_] at this | exact this) GW129.out)) | (dsimp only; exact Nat.ne_of_lt (Nat.lt_of_lt_of_le (by have := wb_ _ _ hw134_1; first | rwa [aB_] at this | exact this) GW129.out))) _).trans (((cF_ (p := ⟨gb129, _, none⟩) (by first | exact Nat.ne_of_lt (Nat.lt_of_lt_of_le (by have := wb_ _ _ hw134_1; first | rwa [aB_] at this | exact this) GW129.out) | (rw [aB_]; exact Nat.ne_of_lt (Nat.lt_of_lt_of_le (by have := wb_ _ _ hw134_1; first | rwa [aB_] at this | exact this) GW129.out)) | (show (Addr.add _ _).block ≠ _; rw [aB_]; exact Nat.ne_of_lt (Nat.lt_of_lt_of_le (by have := wb_ _ _ hw134_1; first | rwa [aB_] at this | exact this) GW129.out)) | (dsimp only; exact Nat.ne_of_lt (Nat.lt_of_lt_of_le (by have := wb_ _ _ hw134_1; first | rwa [aB_] at this | exact this) GW129.out))) _).trans (((cF_ (p := ⟨gb129, _, none⟩) (by first | exact Nat.ne_of_lt (Nat.lt_of_lt_of_le (by have := wb_ _ _ hw134_1; first | rwa [aB_] at this | exact this) GW129.out) | (rw [aB_]; exact Nat.ne_of_lt (Nat.lt_of_lt_of_le (by have := wb_ _ _ hw134_1; first | rwa [aB_] at this | exact this) GW129.out)) | (show (Addr.add _ _).block ≠ _; rw [aB_]; exact Nat.ne_of_lt (Nat.lt_of_lt_of_le (by have := wb_ _ _ hw134_1; first | rwa [aB_] at this | exact this) GW129.out)) | (dsimp only; exact Nat.ne_of_lt (Nat.lt_of_lt_of_le (by have := wb_ _ _ hw134_1; first | rwa [aB_] at this | exact this) GW129.out))) _).trans (hHeld.2.2.2.2.2.2.1)))))))))), ((cF_ (p := ⟨gb129, _, none⟩) (by first | exact Nat.ne_of_lt (Nat.lt_of_lt_of_le (by have := wb_ _ _ hw134_2; first | rwa [aB_] at this | exact this) GW129.out) | (rw [aB_]; exact Nat.ne_of_lt (Nat.lt_of_lt_of_le (by have := wb_ _ _ hw134_2; first | rwa [aB_] at this | exact this) GW129.out)) | (show (Addr.add _ _).block ≠ _; rw [aB_]; exact Nat.ne_of_lt (Nat.lt_of_lt_of_le (by have := wb_ _ _ hw134_2; first | rwa [aB_] at this | exact this) GW129.out)) | (dsimp only; exact Nat.ne_of_lt (Nat.lt_of_lt_of_le (by have := wb_ _ _ hw134_2; first | rwa [aB_] at this | exact this) GW129.out))) _).trans (((cF_ (p := ⟨gb129, _, none⟩) (by first | exact Nat.ne_of_lt (Nat.lt_of_lt_of_le (by have := wb_ _ _ hw134_2; first | rwa [aB_] at this | exact this) GW129.out) | (rw [aB_]; exact Nat.ne_of_lt (Nat.lt_of_lt_of_le (by have := wb_ _ _ hw134_2; first | rwa [aB_] at this | exact this) GW129.out)) | (show (Addr.add _ _).block ≠ _; rw [aB_]; exact Nat.ne_of_lt (Nat.lt_of_lt_of_le (by have := wb_ _ _ hw134_2; first | rwa [aB_] at this | exact this) GW129.out)) | (dsimp only; exact Nat.ne_of_lt (Nat.lt_of_lt_of_le (by have := wb_ _ _ hw134_2; first | rwa [aB_] at this | exact this) GW129.out))) _).trans (((cF_ (p := ⟨gb129, _, none⟩) (by first | exact Nat.ne_of_lt (Nat.lt_of_lt_of_le (by have := wb_ _ _ hw134_2; first | rwa [aB_] at this | exact this) GW129.out) | (rw [aB_]; exact Nat.ne_of_lt (Nat.lt_of_lt_of_le (by have := wb_ _ _ hw134_2; first | rwa [aB_] at this | exact this) GW129.out)) | (show (Addr.add _ _).block ≠ _; rw [aB_]; exact Nat.ne_of_lt (Nat.lt_of_lt_of_le (by have := wb_ _ _ hw134_2; first | rwa [aB_] at this | exact this) GW129.out)) | (dsimp only; exact Nat.ne_of_lt (Nat.lt_of_lt_of_le (by have := wb_ _ _ hw134_2; first | rwa [aB_] at this | exact this) GW129.out))) _).trans (((cF_ (p := ⟨gb129, _, none⟩) (by first | exact Nat.ne_of_lt (Nat.lt_of_lt_of_le (by have := wb_ _ _ hw134_2; first | rwa [aB_] at this | exact this) GW129.out) | (rw [aB_]; exact Nat.ne_of_lt (Nat.lt_of_lt_of_le (by have := wb_ _ _ hw134_2; first | rwa [aB_] at this | exact this) GW129.out)) | (show (Addr.add _ _).block ≠ _; rw [aB_]; exact Nat.ne_of_lt (Nat.lt_of_lt_of_le (by have := wb_ _ _ hw134_2; first | rwa [aB_] at this | exact this) GW129.out)) | (dsimp only; exact Nat.ne_of_lt (Nat.lt_of_lt_of_le (by have := wb_ _ _ hw134_2; first | rwa [aB_] at this | exact this) GW129.out))) _).trans (((cF_ (p := ⟨gb129, _, none⟩) (by first | exact Nat.ne_of_lt (Nat.lt_of_lt_of_le (by have := wb_ _ _ hw134_2; first | rwa [aB_] at this | exact this) GW129.out) | (rw [aB_]; exact Nat.ne_of_lt (Nat.lt_of_lt_of_le (by have := wb_ _ _ hw134_2; first | rwa [aB_] at this | exact this) GW129.out)) | (show (Addr.add _ _).block ≠ _; rw [aB_]; exact Nat.ne_of_lt (Nat.lt_of_lt_of_le (by have := wb_ _ _ hw134_2; first | rwa [aB_] at this | exact this) GW129.out)) | (dsimp only; exact Nat.ne_of_lt (Nat.lt_of_lt_of_le (by have := wb_ _ _ hw134_2; first | rwa [aB_] at this | exact this) GW129.out))) _).trans (hHeld.2.2.2.2.2.2.2.1)))))))))), ((cF_ (p := ⟨gb129, _, none⟩) (by first | exact Nat.ne_of_lt (Nat.lt_of_lt_of_le (by have := wb_ _ _ hw134_3; first | rwa [aB_] at this | exact this) GW129.out) | (rw [aB_]; exact Nat.ne_of_lt (Nat.lt_of_lt_of_le (by have := wb_ _ _ hw134_3; first | rwa [aB_] at this | exact this) GW129.out)) | (show (Addr.add _ _).block ≠ _; rw [aB_]; exact Nat.ne_of_lt (Nat.lt_of_lt_of_le (by have := wb_ _ _ hw134_3; first | rwa [aB_] at this | exact this) GW129.out)) | (dsimp only; exact Nat.ne_of_lt (Nat.lt_of_lt_of_le (by have := wb_ _ _ hw134_3; first | rwa [aB_] at this | exact this) GW129.out))) _).trans (((cF_ (p := ⟨gb129, _, none⟩) (by first | exact Nat.ne_of_lt (Nat.lt_of_lt_of_le (by have := wb_ _ _ hw134_3; first | rwa [aB_] at this | exact this) GW129.out) | (rw [aB_]; exact Nat.ne_of_lt (Nat.lt_of_lt_of_le (by have := wb_ _ _ hw134_3; first | rwa [aB_] at this | exact this) GW129.out)) | (show (Addr.add _ _).block ≠ _; rw [aB_]; exact Nat.ne_of_lt (Nat.lt_of_lt_of_le (by have := wb_ _ _ hw134_3; first | rwa [aB_] at this | exact this) GW129.out)) | (dsimp only; exact Nat.ne_of_lt (Nat.lt_of_lt_of_le (by have := wb_ _ _ hw134_3; first | rwa [aB_] at this | exact this) GW129.out))) _).trans (((cF_ (p := ⟨gb129, _, none⟩) (by first | exact Nat.ne_of_lt (Nat.lt_of_lt_of_le (by have := wb_ _ _ hw134_3; first | rwa [aB_] at this | exact this) GW129.out) | (rw [aB_]; exact Nat.ne_of_lt (Nat.lt_of_lt_of_le (by have := wb_ _ _ hw134_3; first | rwa [aB_] at this | exact this) GW129.out)) | (show (Addr.add _ _).block ≠ _; rw [aB_]; exact Nat.ne_of_lt (Nat.lt_of_lt_of_le (by have := wb_ _ _ hw134_3; first | rwa [aB_] at this | exact this) GW129.out)) | (dsimp only; exact Nat.ne_of_lt (Nat.lt_of_lt_of_le (by have := wb_ _ _ hw134_3; first | rwa [aB_] at this | exact this) GW129.out))) _).trans (((cF_ (p := ⟨gb129, _, none⟩) (by first | exact Nat.ne_of_lt (Nat.lt_of_lt_of_le (by have := wb_ _ _ hw134_3; first | rwa [aB_] at this | exact this) GW129.out) | (rw [aB_]; exact Nat.ne_of_lt (Nat.lt_of_lt_of_le (by have := wb_ _ _ hw134_3; first | rwa [aB_] at this | exact this) GW129.out)) | (show (Addr.add _ _).block ≠ _; rw [aB_]; exact Nat.ne_of_lt (Nat.lt_of_lt_of_le (by have := wb_ _ _ hw134_3; first | rwa [aB_] at this | exact this) GW129.out)) | (dsimp only; exact Nat.ne_of_lt (Nat.lt_of_lt_of_le (by have := wb_ _ _ hw134_3; first | rwa [aB_] at this | exact this) GW129.out))) _).trans (((cF_ (p := ⟨gb129, _, none⟩) (by first | exact Nat.ne_of_lt (Nat.lt_of_lt_of_le (by have := wb_ _ _ hw134_3; first | rwa [aB_] at this | exact this) GW129.out) | (rw [aB_]; exact Nat.ne_of_lt (Nat.lt_of_lt_of_le (by have := wb_ _ _ hw134_3; first | rwa [aB_] at this | exact this) GW129.out)) | (show (Addr.add _ _).block ≠ _; rw [aB_]; exact Nat.ne_of_lt (Nat.lt_of_lt_of_le (by have := wb_ _ _ hw134_3; first | rwa [aB_] at this | exact this) GW129.out)) | (dsimp only; exact Nat.ne_of_lt (Nat.lt_of_lt_of_le (by have := wb_ _ _ hw134_3; first | rwa [aB_] at this | exact this) GW129.out))) _).trans (hHeld.2.2.2.2.2.2.2.2.1)))))))))), ((cF_ (p := ⟨gb129, _, none⟩) (by first | exact Nat.ne_of_lt (Nat.lt_of_lt_of_le (by have := wb_ _ _ hw134_4; first | rwa [aB_] at this | exact this) GW129.out) | (rw [aB_]; exact Nat.ne_of_lt (Nat.lt_of_lt_of_le (by have := wb_ _ _ hw134_4; first | rwa [aB_] at this | exact this) GW129.out)) | (show (Addr.add _ _).block ≠ _; rw [aB_]; exact Nat.ne_of_lt (Nat.lt_of_lt_of_le (by have := wb_ _ _ hw134_4; first | rwa [aB_] at this | exact this) GW129.out)) | (dsimp only; exact Nat.ne_of_lt (Nat.lt_of_lt_of_le (by have := wb_ _ _ hw134_4; first | rwa [aB_] at this | exact this) GW129.out))) _).trans (((cF_ (p := ⟨gb129, _, none⟩) (by first | exact Nat.ne_of_lt (Nat.lt_of_lt_of_le (by have := wb_ _ _ hw134_4; first | rwa [aB_] at this | exact this) GW129.out) | (rw [aB_]; exact Nat.ne_of_lt (Nat.lt_of_lt_of_le (by have := wb_ _ _ hw134_4; first | rwa [aB_] at this | exact this) GW129.out)) | (show (Addr.add _ _).block ≠ _; rw [aB_]; exact Nat.ne_of_lt (Nat.lt_of_lt_of_le (by have := wb_ _ _ hw134_4; first | rwa [aB_] at this | exact this) GW129.out)) | (dsimp only; exact Nat.ne_of_lt (Nat.lt_of_lt_of_le (by have := wb_ _ _ hw134_4; first | rwa [aB_] at this | exact this) GW129.out))) _).trans (((cF_ (p := ⟨gb129, _, none⟩) (by first | exact Nat.ne_of_lt (Nat.lt_of_lt_of_le (by have := wb_ _ _ hw134_4; first | rwa [aB_] at this | exact this) GW129.out) | (rw [aB_]; exact Nat.ne_of_lt (Nat.lt_of_lt_of_le (by have := wb_ _ _ hw134_4; first | rwa [aB_] at this | exact this) GW129.out)) | (show (Addr.add _ _).block ≠ _; rw [aB_]; exact Nat.ne_of_lt (Nat.lt_of_lt_of_le (by have := wb_ _ _ hw134_4; first | rwa [aB_] at this | exact this) GW129.out)) | (dsimp only; exact Nat.ne_of_lt (Nat.lt_of_lt_of_le (by have := wb_ _ _ hw134_4; first | rwa [aB_] at this | exact this) GW129.out))) _).trans (((cF_ (p := ⟨gb129, _, none⟩) (by first | exact Nat.ne_of_lt (Nat.lt_of_lt_of_le (by have := wb_ _ _ hw134_4; first | rwa [aB_] at this | exact this) GW129.out) | (rw [aB_]; exact Nat.ne_of_lt (Nat.lt_of_lt_of_le (by have := wb_ _ _ hw134_4; first | rwa [aB_] at this | exact this) GW129.out)) | (show (Addr.add _ _).block ≠ _; rw [aB_]; exact Nat.ne_of_lt (Nat.lt_of_lt_of_le (by have := wb_ _ _ hw134_4; first | rwa [aB_] at this | exact this) GW129.out)) | (dsimp only; exact Nat.ne_of_lt (Nat.lt_of_lt_of_le (by have := wb_ _ _ hw134_4; first | rwa [aB_] at this | exact this) GW129.out))) _).trans (((cF_ (p := ⟨gb129, _, none⟩) (by first | exact Nat.ne_of_lt (Nat.lt_of_lt_of_le (by have := wb_ _ _ hw134_4; first | rwa [aB_] at this | exact this) GW129.out) | (rw [aB_]; exact Nat.ne_of_lt (Nat.lt_of_lt_of_le (by have := wb_ _ _ hw134_4; first | rwa [aB_] at this | exact this) GW129.out)) | (show (Addr.add _ _).block ≠ _; rw [aB_]; exact Nat.ne_of_lt (Nat.lt_of_lt_of_le (by have := wb_ _ _ hw134_4; first | rwa [aB_] at this | exact this) GW129.out)) | (dsimp only; exact Nat.ne_of_lt (Nat.lt_of_lt_of_le (by have := wb_ _ _ hw134_4; first | rwa [aB_] at this | exact this) GW129.out))) _).trans (hHeld.2.2.2.2.2.2.2.2.2.1)))))))))), ((cF_ (p := ⟨gb129, _, none⟩) (by first | exact Nat.ne_of_lt (Nat.lt_of_lt_of_le (by have := wb_ _ _ hw142_0; first | rwa [aB_] at this | exact this) GW129.out) | (rw [aB_]; exact Nat.ne_of_lt (Nat.lt_of_lt_of_le (by have := wb_ _ _ hw142_0; first | rwa [aB_] at this | exact this) GW129.out)) | (show (Addr.add _ _).block ≠ _; rw [aB_]; exact Nat.ne_of_lt (Nat.lt_of_lt_of_le (by have := wb_ _ _ hw142_0; first | rwa [aB_] at this | exact this) GW129.out)) | (dsimp only; exact Nat.ne_of_lt (Nat.lt_of_lt_of_le (by have := wb_ _ _ hw142_0; first | rwa [aB_] at this | exact this) GW129.out))) _).trans (((cF_ (p := ⟨gb129, _, none⟩) (by first | exact Nat.ne_of_lt (Nat.lt_of_lt_of_le (by have := wb_ _ _ hw142_0; first | rwa [aB_] at this | exact this) GW129.out) | (rw [aB_]; exact Nat.ne_of_lt (Nat.lt_of_lt_of_le (by have := wb_ _ _ hw142_0; first | rwa [aB_] at this | exact this) GW129.out)) | (show (Addr.add _ _).block ≠ _; rw [aB_]; exact Nat.ne_of_lt (Nat.lt_of_lt_of_le (by have := wb_ _ _ hw142_0; first | rwa [aB_] at this | exact this) GW129.out)) | (dsimp only; exact Nat.ne_of_lt (Nat.lt_of_lt_of_le (by have := wb_ _ _ hw142_0; first | rwa [aB_] at this | exact this) GW129.out))) _).trans (((cF_ (p := ⟨gb129, _, none⟩) (by first | exact Nat.ne_of_lt (Nat.lt_of_lt_of_le (by have := wb_ _ _ hw142_0; first | rwa [aB_] at this | exact this) GW129.out) | (rw [aB_]; exact Nat.ne_of_lt (Nat.lt_of_lt_of_le (by have := wb_ _ _ hw142_0; first | rwa [aB_] at this | exact this) GW129.out)) | (show (Addr.add _ _).block ≠ _; rw [aB_]; exact Nat.ne_of_lt (Nat.lt_of_lt_of_le (by have := wb_ _ _ hw142_0; first | rwa [aB_] at this | exact this) GW129.out)) | (dsimp only; exact Nat.ne_of_lt (Nat.lt_of_lt_of_le (by have := wb_ _ _ hw142_0; first | rwa [aB_] at this | exact this) GW129.out))) _).trans (((cF_ (p := ⟨gb129, _, none⟩) (by first | exact Nat.ne_of_lt (Nat.lt_of_lt_of_le (by have := wb_ _ _ hw142_0; first | rwa [aB_] at this | exact this) GW129.out) | (rw [aB_]; exact Nat.ne_of_lt (Nat.lt_of_lt_of_le (by have := wb_ _ _ hw142_0; first | rwa [aB_] at this | exact this) GW129.out)) | (show (Addr.add _ _).block ≠ _; rw [aB_]; exact Nat.ne_of_lt (Nat.lt_of_lt_of_le (by have := wb_ _ _ hw142_0; first | rwa [aB_] at this | exact this) GW129.out)) | (dsimp only; exact Nat.ne_of_lt (Nat.lt_of_lt_of_le (by have := wb_ _ _ hw142_0; first | rwa [aB_] at this | exact this) GW129.out))) _).trans (((cF_ (p := ⟨gb129, _, none⟩) (by first | exact Nat.ne_of_lt (Nat.lt_of_lt_of_le (by have := wb_ _ _ hw142_0; first | rwa [aB_] at this | exact this) GW129.out) | (rw [aB_]; exact Nat.ne_of_lt (Nat.lt_of_lt_of_le (by have := wb_ _ _ hw142_0; first | rwa [aB_] at this | exact this) GW129.out)) | (show (Addr.add _ _).block ≠ _; rw [aB_]; exact Nat.ne_of_lt (Nat.lt_of_lt_of_le (by have := wb_ _ _ hw142_0; first | rwa [aB_] at this | exact this) GW129.out)) | (dsimp only; exact Nat.ne_of_lt (Nat.lt_of_lt_of_le (by have := wb_ _ _ hw142_0; first | rwa [aB_] at this | exact this) GW129.out))) _).trans (hHeld.2.2.2.2.2.2.2.2.2.2.1)))))))))), ((cF_ (p := ⟨gb129, _, none⟩) (by first | exact Nat.ne_of_lt (Nat.lt_of_lt_of_le (by have := wb_ _ _ hw142_1; first | rwa [aB_] at this | exact this) GW129.out) | (rw [aB_]; exact Nat.ne_of_lt (Nat.lt_of_lt_of_le (by have := wb_ _ _ hw142_1; first | rwa [aB_] at this | exact this) GW129.out)) | (show (Addr.add _ _).block ≠ _; rw [aB_]; exact Nat.ne_of_lt (Nat.lt_of_lt_of_le (by have := wb_ _ _ hw142_1; first | rwa [aB_] at this | exact this) GW129.out)) | (dsimp only; exact Nat.ne_of_lt (Nat.lt_of_lt_of_le (by have := wb_ _ _ hw142_1; first | rwa [aB_] at this | exact this) GW129.out))) _).trans (((cF_ (p := ⟨gb129, _, none⟩) (by first | exact Nat.ne_of_lt (Nat.lt_of_lt_of_le (by have := wb_ _ _ hw142_1; first | rwa [aB_] at this | exact this) GW129.out) | (rw [aB_]; exact Nat.ne_of_lt (Nat.lt_of_lt_of_le (by have := wb_ _ _ hw142_1; first | rwa [aB_] at this | exact this) GW129.out)) | (show (Addr.add _ _).block ≠ _; rw [aB_]; exact Nat.ne_of_lt (Nat.lt_of_lt_of_le (by have := wb_ _ _ hw142_1; first | rwa [aB_] at this | exact this) GW129.out)) | (dsimp only; exact Nat.ne_of_lt (Nat.lt_of_lt_of_le (by have := wb_ _ _ hw142_1; first | rwa [aB_] at this | exact this) GW129.out))) _).trans (((cF_ (p := ⟨gb129, _, none⟩) (by first | exact Nat.ne_of_lt (Nat.lt_of_lt_of_le (by have := wb_ _ _ hw142_1; first | rwa [aB_] at this | exact this) GW129.out) | (rw [aB_]; exact Nat.ne_of_lt (Nat.lt_of_lt_of_le (by have := wb_ _ _ hw142_1; first | rwa [aB_] at this | exact this) GW129.out)) | (show (Addr.add _ _).block ≠ _; rw [aB_]; exact Nat.ne_of_lt (Nat.lt_of_lt_of_le (by have := wb_ _ _ hw142_1; first | rwa [aB_] at this | exact this) GW129.out)) | (dsimp only; exact Nat.ne_of_lt (Nat.lt_of_lt_of_le (by have := wb_ _ _ hw142_1; first | rwa [aB_] at this | exact this) GW129.out))) _).trans (((cF_ (p := ⟨gb129, _, none⟩) (by first | exact Nat.ne_of_lt (Nat.lt_of_lt_of_le (by have := wb_ _ _ hw142_1; first | rwa [aB_] at this | exact this) GW129.out) | (rw [aB_]; exact Nat.ne_of_lt (Nat.lt_of_lt_of_le (by have := wb_ _ _ hw142_1; first | rwa [aB_] at this | exact this) GW129.out)) | (show (Addr.add _ _).block ≠ _; rw [aB_]; exact Nat.ne_of_lt (Nat.lt_of_lt_of_le (by have := wb_ _ _ hw142_1; first | rwa [aB_] at this | exact this) GW129.out)) | (dsimp only; exact Nat.ne_of_lt (Nat.lt_of_lt_of_le (by have := wb_ _ _ hw142_1; first | rwa [aB_] at this | exact this) GW129.out))) _).trans (((cF_ (p := ⟨gb129, _, none⟩) (by first | exact Nat.ne_of_lt (Nat.lt_of_lt_of_le (by have := wb_ _ _ hw142_1; first | rwa [aB_] at this | exact this) GW129.out) | (rw [aB_]; exact Nat.ne_of_lt (Nat.lt_of_lt_of_le (by have := wb_ _ _ hw142_1; first | rwa [aB_] at this | exact this) GW129.out)) | (show (Addr.add _ _).block ≠ _; rw [aB_]; exact Nat.ne_of_lt (Nat.lt_of_lt_of_le (by have := wb_ _ _ hw142_1; first | rwa [aB_] at this | exact this) GW129.out)) | (dsimp only; exact Nat.ne_of_lt (Nat.lt_of_lt_of_le (by have := wb_ _ _ hw142_1; first | rwa [aB_] at this | exact this) GW129.out))) _).trans (hHeld.2.2.2.2.2.2.2.2.2.2.2.1)))))))))), ((cF_ (p := ⟨gb129, _, none⟩) (by first | exact Nat.ne_of_lt (Nat.lt_of_lt_of_le (by have := wb_ _ _ hw142_2; first | rwa [aB_] at this | exact this) GW129.out) | (rw [aB_]; exact Nat.ne_of_lt (Nat.lt_of_lt_of_le (by have := wb_ _ _ hw142_2; first | rwa [aB_] at this | exact this) GW129.out)) | (show (Addr.add _ _).block ≠ _; rw [aB_]; exact Nat.ne_of_lt (Nat.lt_of_lt_of_le (by have := wb_ _ _ hw142_2; first | rwa [aB_] at this | exact this) GW129.out)) | (dsimp only; exact Nat.ne_of_lt (Nat.lt_of_lt_of_le (by have := wb_ _ _ hw142_2; first | rwa [aB_] at this | exact this) GW129.out))) _).trans (((cF_ (p := ⟨gb129, _, none⟩) (by first | exact Nat.ne_of_lt (Nat.lt_of_lt_of_le (by have := wb_ _ _ hw142_2; first | rwa [aB_] at this | exact this) GW129.out) | (rw [aB_]; exact Nat.ne_of_lt (Nat.lt_of_lt_of_le (by have := wb_ _ _ hw142_2; first | rwa [aB_] at this | exact this) GW129.out)) | (show (Addr.add _ _).block ≠ _; rw [aB_]; exact Nat.ne_of_lt (Nat.lt_of_lt_of_le (by have := wb_ _ _ hw142_2; first | rwa [aB_] at this | exact this) GW129.out)) | (dsimp only; exact Nat.ne_of_lt (Nat.lt_of_lt_of_le (by have := wb_ _ _ hw142_2; first | rwa [aB_] at this | exact this) GW129.out))) _).trans (((cF_ (p := ⟨gb129, _, none⟩) (by first | exact Nat.ne_of_lt (Nat.lt_of_lt_of_le (by have := wb_ _ _ hw142_2; first | rwa [aB_] at this | exact this) GW129.out) | (rw [aB_]; exact Nat.ne_of_lt (Nat.lt_of_lt_of_le (by have := wb_ _ _ hw142_2; first | rwa [aB_] at this | exact this) GW129.out)) | (show (Addr.add _ _).block ≠ _; rw [aB_]; exact Nat.ne_of_lt (Nat.lt_of_lt_of_le (by have := wb_ _ _ hw142_2; first | rwa [aB_] at this | exact this) GW129.out)) | (dsimp only; exact Nat.ne_of_lt (Nat.lt_of_lt_of_le (by have := wb_ _ _ hw142_2; first | rwa [aB_] at this | exact this) GW129.out))) _).trans (((cF_ (p := ⟨gb129, _, none⟩) (by first | exact Nat.ne_of_lt (Nat.lt_of_lt_of_le (by have := wb_ _ _ hw142_2; first | rwa [aB_] at this | exact this) GW129.out) | (rw [aB_]; exact Nat.ne_of_lt (Nat.lt_of_lt_of_le (by have := wb_ _ _ hw142_2; first | rwa [aB_] at this | exact this) GW129.out)) | (show (Addr.add _ _).block ≠ _; rw [aB_]; exact Nat.ne_of_lt (Nat.lt_of_lt_of_le (by have := wb_ _ _ hw142_2; first | rwa [aB_] at this | exact this) GW129.out)) | (dsimp only; exact Nat.ne_of_lt (Nat.lt_of_lt_of_le (by have := wb_ _ _ hw142_2; first | rwa [aB_] at this | exact this) GW129.out))) _).trans (((cF_ (p := ⟨gb129, _, none⟩) (by first | exact Nat.ne_of_lt (Nat.lt_of_lt_of_le (by have := wb_ _ _ hw142_2; first | rwa [aB_] at this | exact this) GW129.out) | (rw [aB_]; exact Nat.ne_of_lt (Nat.lt_of_lt_of_le (by have := wb_ _ _ hw142_2; first | rwa [aB_] at this | exact this) GW129.out)) | (show (Addr.add _ _).block ≠ _; rw [aB_]; exact Nat.ne_of_lt (Nat.lt_of_lt_of_le (by have := wb_ _ _ hw142_2; first | rwa [aB_] at this | exact this) GW129.out)) | (dsimp only; exact Nat.ne_of_lt (Nat.lt_of_lt_of_le (by have := wb_ _ _ hw142_2; first | rwa [aB_] at this | exact this) GW129.out))) _).trans (hHeld.2.2.2.2.2.2.2.2.2.2.2.2.1)))))))))), ((cF_ (p := ⟨gb129, _, none⟩) (by first | exact Nat.ne_of_lt (Nat.lt_of_lt_of_le (by have := wb_ _ _ hw142_3; first | rwa [aB_] at this | exact this) GW129.out) | (rw [aB_]; exact Nat.ne_of_lt (Nat.lt_of_lt_of_le (by have := wb_ _ _ hw142_3; first | rwa [aB_] at this | exact this) GW129.out)) | (show (Addr.add _ _).block ≠ _; rw [aB_]; exact Nat.ne_of_lt (Nat.lt_of_lt_of_le (by have := wb_ _ _ hw142_3; first | rwa [aB_] at this | exact this) GW129.out)) | (dsimp only; exact Nat.ne_of_lt (Nat.lt_of_lt_of_le (by have := wb_ _ _ hw142_3; first | rwa [aB_] at this | exact this) GW129.out))) _).trans (((cF_ (p := ⟨gb129, _, none⟩) (by first | exact Nat.ne_of_lt (Nat.lt_of_lt_of_le (by have := wb_ _ _ hw142_3; first | rwa [aB_] at this | exact this) GW129.out) | (rw [aB_]; exact Nat.ne_of_lt (Nat.lt_of_lt_of_le (by have := wb_ _ _ hw142_3; first | rwa [aB_] at this | exact this) GW129.out)) | (show (Addr.add _ _).block ≠ _; rw [aB_]; exact Nat.ne_of_lt (Nat.lt_of_lt_of_le (by have := wb_ _ _ hw142_3; first | rwa [aB_] at this | exact this) GW129.out)) | (dsimp only; exact Nat.ne_of_lt (Nat.lt_of_lt_of_le (by have := wb_ _ _ hw142_3; first | rwa [aB_] at this | exact this) GW129.out))) _).trans (((cF_ (p := ⟨gb129, _, none⟩) (by first | exact Nat.ne_of_lt (Nat.lt_of_lt_of_le (by have := wb_ _ _ hw142_3; first | rwa [aB_] at this | exact this) GW129.out) | (rw [aB_]; exact Nat.ne_of_lt (Nat.lt_of_lt_of_le (by have := wb_ _ _ hw142_3; first | rwa [aB_] at this | exact this) GW129.out)) | (show (Addr.add _ _).block ≠ _; rw [aB_]; exact Nat.ne_of_lt (Nat.lt_of_lt_of_le (by have := wb_ _ _ hw142_3; first | rwa [aB_] at this | exact this) GW129.out)) | (dsimp only; exact Nat.ne_of_lt (Nat.lt_of_lt_of_le (by have := wb_ _ _ hw142_3; first | rwa [aB_] at this | exact this) GW129.out))) _).trans (((cF_ (p := ⟨gb129, _, none⟩) (by first | exact Nat.ne_of_lt (Nat.lt_of_lt_of_le (by have := wb_ _ _ hw142_3; first | rwa [aB_] at this | exact this) GW129.out) | (rw [aB_]; exact Nat.ne_of_lt (Nat.lt_of_lt_of_le (by have := wb_ _ _ hw142_3; first | rwa [aB_] at this | exact this) GW129.out)) | (show (Addr.add _ _).block ≠ _; rw [aB_]; exact Nat.ne_of_lt (Nat.lt_of_lt_of_le (by have := wb_ _ _ hw142_3; first | rwa [aB_] at this | exact this) GW129.out)) | (dsimp only; exact Nat.ne_of_lt (Nat.lt_of_lt_of_le (by have := wb_ _ _ hw142_3; first | rwa [aB_] at this | exact this) GW129.out))) _).trans (((cF_ (p := ⟨gb129, _, none⟩) (by first | exact Nat.ne_of_lt (Nat.lt_of_lt_of_le (by have := wb_ _ _ hw142_3; first | rwa [aB_] at this | exact this) GW129.out) | (rw [aB_]; exact Nat.ne_of_lt (Nat.lt_of_lt_of_le (by have := wb_ _ _ hw142_3; first | rwa [aB_] at this | exact this) GW129.out)) | (show (Addr.add _ _).block ≠ _; rw [aB_]; exact Nat.ne_of_lt (Nat.lt_of_lt_of_le (by have := wb_ _ _ hw142_3; first | rwa [aB_] at this | exact this) GW129.out)) | (dsimp only; exact Nat.ne_of_lt (Nat.lt_of_lt_of_le (by have := wb_ _ _ hw142_3; first | rwa [aB_] at this | exact this) GW129.out))) _).trans (hHeld.2.2.2.2.2.2.2.2.2.2.2.2.2.1)))))))))), ((cF_ (p := ⟨gb129, _, none⟩) (by first | exact Nat.ne_of_lt (Nat.lt_of_lt_of_le (by have := wb_ _ _ hw142_4; first | rwa [aB_] at this | exact this) GW129.out) | (rw [aB_]; exact Nat.ne_of_lt (Nat.lt_of_lt_of_le (by have := wb_ _ _ hw142_4; first | rwa [aB_] at this | exact this) GW129.out)) | (show (Addr.add _ _).block ≠ _; rw [aB_]; exact Nat.ne_of_lt (Nat.lt_of_lt_of_le (by have := wb_ _ _ hw142_4; first | rwa [aB_] at this | exact this) GW129.out)) | (dsimp only; exact Nat.ne_of_lt (Nat.lt_of_lt_of_le (by have := wb_ _ _ hw142_4; first | rwa [aB_] at this | exact this) GW129.out))) _).trans (((cF_ (p := ⟨gb129, _, none⟩) (by first | exact Nat.ne_of_lt (Nat.lt_of_lt_of_le (by have := wb_ _ _ hw142_4; first | rwa [aB_] at this | exact this) GW129.out) | (rw [aB_]; exact Nat.ne_of_lt (Nat.lt_of_lt_of_le (by have := wb_ _ _ hw142_4; first | rwa [aB_] at this | exact this) GW129.out)) | (show (Addr.add _ _).block ≠ _; rw [aB_]; exact Nat.ne_of_lt (Nat.lt_of_lt_of_le (by have := wb_ _ _ hw142_4; first | rwa [aB_] at this | exact this) GW129.out)) | (dsimp only; exact Nat.ne_of_lt (Nat.lt_of_lt_of_le (by have := wb_ _ _ hw142_4; first | rwa [aB_] at this | exact this) GW129.out))) _).trans (((cF_ (p := ⟨gb129, _, none⟩) (by first | exact Nat.ne_of_lt (Nat.lt_of_lt_of_le (by have := wb_ _ _ hw142_4; first | rwa [aB_] at this | exact this) GW129.out) | (rw [aB_]; exact Nat.ne_of_lt (Nat.lt_of_lt_of_le (by have := wb_ _ _ hw142_4; first | rwa [aB_] at this | exact this) GW129.out)) | (show (Addr.add _ _).block ≠ _; rw [aB_]; exact Nat.ne_of_lt (Nat.lt_of_lt_of_le (by have := wb_ _ _ hw142_4; first | rwa [aB_] at this | exact this) GW129.out)) | (dsimp only; exact Nat.ne_of_lt (Nat.lt_of_lt_of_le (by have := wb_ _ _ hw142_4; first | rwa [aB_] at this | exact this) GW129.out))) _).trans (((cF_ (p := ⟨gb129, _, none⟩) (by first | exact Nat.ne_of_lt (Nat.lt_of_lt_of_le (by have := wb_ _ _ hw142_4; first | rwa [aB_] at this | exact this) GW129.out) | (rw [aB_]; exact Nat.ne_of_lt (Nat.lt_of_lt_of_le (by have := wb_ _ _ hw142_4; first | rwa [aB_] at this | exact this) GW129.out)) | (show (Addr.add _ _).block ≠ _; rw [aB_]; exact Nat.ne_of_lt (Nat.lt_of_lt_of_le (by have := wb_ _ _ hw142_4; first | rwa [aB_] at this | exact this) GW129.out)) | (dsimp only; exact Nat.ne_of_lt (Nat.lt_of_lt_of_le (by have := wb_ _ _ hw142_4; first | rwa [aB_] at this | exact this) GW129.out))) _).trans (((cF_ (p := ⟨gb129, _, none⟩) (by first | exact Nat.ne_of_lt (Nat.lt_of_lt_of_le (by have := wb_ _ _ hw142_4; first | rwa [aB_] at this | exact this) GW129.out) | (rw [aB_]; exact Nat.ne_of_lt (Nat.lt_of_lt_of_le (by have := wb_ _ _ hw142_4; first | rwa [aB_] at this | exact this) GW129.out)) | (show (Addr.add _ _).block ≠ _; rw [aB_]; exact Nat.ne_of_lt (Nat.lt_of_lt_of_le (by have := wb_ _ _ hw142_4; first | rwa [aB_] at this | exact this) GW129.out)) | (dsimp only; exact Nat.ne_of_lt (Nat.lt_of_lt_of_le (by have := wb_ _ _ hw142_4; first | rwa [aB_] at this | exact this) GW129.out))) _).trans (hHeld.2.2.2.2.2.2.2.2.2.2.2.2.2.2))))))))))⟩ (fun hHeld => ?_)
    clear hK K
    refine done_ (done_of HT_.out (by kernel_rfl)) ?_
    try go_wp2
    refine bodyPost_ret (results_cell_row rfl _ _ gb129 57 #[.int .i64 0, .string (⟨#[]⟩ : ByteArray), .int .i64 0, .int .i64 (wrap64 (Int.tmod (IntKind.u64.wrap (a0_3)) 5)), .slice Ao29 y150.length co29] (0, 0) _ rfl ((by apply eC_; (with_reducible repeat (first | refine bDN ?_ _ | refine bD ?_ | refine bA ?_ _)); apply b2_; (with_reducible repeat (first | refine bDN ?_ _ | refine bD ?_ | refine bA ?_ _)); apply b2_; (with_reducible repeat (first | refine bDN ?_ _ | refine bD ?_ | refine bA ?_ _)); apply b2_; (with_reducible repeat (first | refine bDN ?_ _ | refine bD ?_ | refine bA ?_ _)); apply b2_; (with_reducible repeat (first | refine bDN ?_ _ | refine bD ?_ | refine bA ?_ _)); apply b2_; (with_reducible repeat (first | refine bDN ?_ _ | refine bD ?_ | refine bA ?_ _)); exact BK129.out; kernel_rfl)) Tryd.underlying57 rfl (by kernel_rfl)) rfl ?_
    exact ⟨_, by first | rfl | (simp [errW_none, errW_some] <;> rfl) | (simp [*, errW_none, errW_some] <;> rfl), by (with_reducible repeat (first | apply Kd.N_alloc | apply Kd.N_drewN | apply Kd.N_drew)); exact Kd.N_mono (Kd.N_far (p := ⟨gb129, 4, none⟩) (Kd.N_far (p := ⟨gb129, 3, none⟩) (Kd.N_far (p := ⟨gb129, 2, none⟩) (Kd.N_far (p := ⟨gb129, 1, none⟩) (Kd.N_far (p := ⟨gb129, 0, none⟩) (Kd.N_mono HO152.out (fun k_ hk => (⟨hk, hk.2.2⟩ : _ ∧ k_ ≠ gb129))) (fun _ hk => hk.2) (.int .i64 0)) (fun _ hk => hk.2) (.string (⟨#[]⟩ : ByteArray))) (fun _ hk => hk.2) (.int .i64 0)) (fun _ hk => hk.2) (.int .i64 (wrap64 (Int.tmod (IntKind.u64.wrap (a0_3)) 5)))) (fun _ hk => hk.2) (.slice Ao29 y150.length co29)) (fun _ hk => hk.1.1), by repeat (first | (with_reducible first | exact HB.out | apply lA_ | apply pD | apply lD_ | refine lS_ ?_ GE128.out | refine lS_ ?_ GE129.out) | exact HB.out)⟩
   ·rw [if_neg c16] at H
    exact absurd H (by simp)
  ·rw [if_neg c14] at H
   exact absurd H (by simp)
end Go.Proofs.YtdbpboipiceifaaDoorPSP
