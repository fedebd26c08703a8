import Derived.Test.YtjlnpdpkobpkiaaZ2PSQx0
import Derived.Test.YtjlnpdpkobpkiaaZ2PSPx2
import Derived.Test.YtjlnpdpkobpkiaaZ2PSPx4
namespace Go.Proofs.YtjlnpdpkobpkiaaPSP
open Go.RowKit Go.Proofs.YtjlnpdpkobpkiaaW.PrintWords Go.Proofs.YtjlnpdpkobpkiaaW.PrintLast Go.Proofs.YtjlnpdpkobpkiaaW.PrintMore
attribute [local go_sem] max2_int min2_int max_two min_two max_three min_three max_four min_four   -- for this text's walks alone
set_option linter.unusedVariables false
set_option linter.unusedSimpArgs false
def ergolaw13_Pred.f (a0 : Int) : Option (ByteArray) := (some (([(⟨#[112]⟩ : ByteArray), (⟨#[113]⟩ : ByteArray), (⟨#[114]⟩ : ByteArray), (⟨#[101, 100, 103, 101]⟩ : ByteArray), (⟨#[112, 97, 116, 104]⟩ : ByteArray), (⟨#[115]⟩ : ByteArray)] : List ByteArray) : List ByteArray)).bind fun y235 => (if 0 ≤ (wrap64 (Int.tmod (IntKind.u64.wrap (a0)) 6)) then (if (wrap64 (Int.tmod (IntKind.u64.wrap (a0)) 6)) < (y235.length : Int) then (some (rdOf ByteArray.empty y235 (wrap64 (Int.tmod (IntKind.u64.wrap (a0)) 6)))) else (none)) else (none))
set_option maxHeartbeats 8000000 in
set_option maxRecDepth 100000 in
theorem ergolaw13_Pred.calls (a0 : Int) (r : ByteArray) (w : World) (h : ergolaw13_Pred.f a0 = some r) :
  Calls Try.prog 59 #[.int .i64 a0] w fun e w' => e = .returned (.string r) ∧ Below w.heap.size w w' := by
 have HB := aK_ (Below.refl w.heap.size w)
 have H : ((some (([(⟨#[112]⟩ : ByteArray), (⟨#[113]⟩ : ByteArray), (⟨#[114]⟩ : ByteArray), (⟨#[101, 100, 103, 101]⟩ : ByteArray), (⟨#[112, 97, 116, 104]⟩ : ByteArray), (⟨#[115]⟩ : ByteArray)] : List ByteArray) : List ByteArray)).bind fun y235 => (if 0 ≤ (wrap64 (Int.tmod (IntKind.u64.wrap (a0)) 6)) then (if (wrap64 (Int.tmod (IntKind.u64.wrap (a0)) 6)) < (y235.length : Int) then (some (rdOf ByteArray.empty y235 (wrap64 (Int.tmod (IntKind.u64.wrap (a0)) 6)))) else (none)) else (none))) = some r := h
 clear h
 obtain ⟨y235, hy235⟩ : ∃ y_ : List ByteArray, y_ = (([(⟨#[112]⟩ : ByteArray), (⟨#[113]⟩ : ByteArray), (⟨#[114]⟩ : ByteArray), (⟨#[101, 100, 103, 101]⟩ : ByteArray), (⟨#[112, 97, 116, 104]⟩ : ByteArray), (⟨#[115]⟩ : ByteArray)] : List ByteArray)) := ⟨_, rfl⟩
 replace H : (if 0 ≤ (wrap64 (Int.tmod (IntKind.u64.wrap (a0)) 6)) then (if (wrap64 (Int.tmod (IntKind.u64.wrap (a0)) 6)) < (y235.length : Int) then (some (rdOf ByteArray.empty y235 (wrap64 (Int.tmod (IntKind.u64.wrap (a0)) 6)))) else (none)) else (none)) = some r := by first | (rw [hy235]; with_reducible exact H) | (have H2_ := (Option.bind_some _ _).symm.trans H; rw [hy235]; with_reducible exact H2_) | (have H2_ := (Option.bind_some _ _).symm.trans H; with_reducible exact H2_) | with_reducible exact H | (rw [hy235]; exact H) | exact H
 have Ny235 := aK_ hy235
 clear hy235
 obtain ⟨ji2, hji2⟩ : ∃ j_ : Int, (wrap64 (Int.tmod (IntKind.u64.wrap (a0)) 6)) = j_ := ⟨_, rfl⟩
 replace H : (if 0 ≤ (ji2) then (if (ji2) < (y235.length : Int) then (some (rdOf ByteArray.empty y235 (ji2))) else (none)) else (none)) = some r := by first | (rw [hji2] at H; exact H) | (simp only [hji2] at H ⊢; exact H)
 have hji2w : (IntKind.i64.wrap (Int.tmod (IntKind.u64.wrap (a0)) 6)) = ji2 := (i64_w _).trans hji2
 by_cases c3 : 0 ≤ (ji2)
 ·rw [if_pos c3] at H
  have c3b0 : decide (0 ≤ (ji2)) = true := decide_eq_true c3
  clear c3
  by_cases c4 : (ji2) < (y235.length : Int)
  ·rw [if_pos c4] at H
   have c4b0 : decide ((ji2) < (y235.length : Int)) = true := decide_eq_true c4
   clear c4
   obtain rfl := Option.some.inj H
   go_enter Try.func59, Try.ntmps59
   go_wp2_with (first | ((with_reducible refine gate_dst (N := 3) rfl ?_); refine Kd.R_lit Kd.string _ 9 ?hg (N := 3) ?hd (xs := ([(⟨#[112]⟩ : ByteArray), (⟨#[113]⟩ : ByteArray), (⟨#[114]⟩ : ByteArray), (⟨#[101, 100, 103, 101]⟩ : ByteArray), (⟨#[112, 97, 116, 104]⟩ : ByteArray), (⟨#[115]⟩ : ByteArray)] : List ByteArray)) (inner := [.string (⟨#[112]⟩ : ByteArray), .string (⟨#[113]⟩ : ByteArray), .string (⟨#[114]⟩ : ByteArray), .string (⟨#[101, 100, 103, 101]⟩ : ByteArray), .string (⟨#[112, 97, 116, 104]⟩ : ByteArray), .string (⟨#[115]⟩ : ByteArray)]) (ok := fun _ => True) (okp := fun _ => True) ?hr ?hp (fun _ hk => hk) trivial (Below.refl _ _) (Nat.le_refl _) (by simp) ?_; (case hd => rfl); (case hg => rfl); (case hr => first | (go_simp; done) | (go_simp; rfl)); (case hp => exact (Reps.one (show Kd.M Kd.string _ _ _ (⟨#[112]⟩ : ByteArray) [.string (⟨#[112]⟩ : ByteArray)] from rfl) (Reps.one (show Kd.M Kd.string _ _ _ (⟨#[113]⟩ : ByteArray) [.string (⟨#[113]⟩ : ByteArray)] from rfl) (Reps.one (show Kd.M Kd.string _ _ _ (⟨#[114]⟩ : ByteArray) [.string (⟨#[114]⟩ : ByteArray)] from rfl) (Reps.one (show Kd.M Kd.string _ _ _ (⟨#[101, 100, 103, 101]⟩ : ByteArray) [.string (⟨#[101, 100, 103, 101]⟩ : ByteArray)] from rfl) (Reps.one (show Kd.M Kd.string _ _ _ (⟨#[112, 97, 116, 104]⟩ : ByteArray) [.string (⟨#[112, 97, 116, 104]⟩ : ByteArray)] from rfl) (Reps.one (show Kd.M Kd.string _ _ _ (⟨#[115]⟩ : ByteArray) [.string (⟨#[115]⟩ : ByteArray)] from rfl) (Reps.none _ _)))))))); intro v236 w5 ho6 hb hg_ hnew_; clear hg_ hnew_; (first | rw [← Ny235.out] at ho6 | (simp only [Int.reduceToNat] at ho6; rw [← Ny235.out] at ho6)); have n0_ := aK_ (Kd.R_lower ho6 (lZ_ (lB0_ HB.out))); have n1_ := aK_ (lT_ (lB0_ HB.out) hb); clear HB; have HO237 := n0_; have HB := n1_; clear n0_ n1_; clear hb ho6; obtain ⟨Ao7, co7, eo7⟩ := Kd.R_slice HO237.out; subst eo7; have p238 : 0 ≤ ((ji2) : Int) := of_decide_eq_true (by first | (with_reducible assumption) | assumption); have q238 : (ji2) < (y235.length : Int) := of_decide_eq_true (by first | (with_reducible assumption) | assumption); obtain ⟨ad238, e238, hx238_0⟩ := Kd.at_string (Kd.R_reads' HO237.out).2.2 (ji2) p238 q238; cases e238; replace p238 := eq_true p238; replace q238 := eq_true q238))
   go_ret
   exact ⟨by first | rfl | (simp [errW_none, errW_some] <;> rfl) | (simp only [← hji2]; first | rfl | (simp [errW_none, errW_some] <;> rfl)) | (simp [*, errW_none, errW_some] <;> rfl), (lB0_ HB.out)⟩
  ·rw [if_neg c4] at H
   exact absurd H (by simp)
 ·rw [if_neg c3] at H
  exact absurd H (by simp)
def ergolaw13_A_Atom.l0 : Nat → List (S71) → Int → Int → ByteArray → List (S61) → Option (ByteArray × (List (S61)))
 | 0, _, _, _, _, _ => none
 | k + 1, x11, x12, x13, x243000, x243001 => if x13 < x12 then (if 0 ≤ x13 then (if x13 < (x11.length : Int) then ((ergolaw13_T_Term.f ((rd_T71 x11 x13).f0) ((rd_T71 x11 x13).f1) ((rd_T71 x11 x13).f2)).bind fun bt245 => (if x243001.length < 4398046511104 then (ergolaw13_A_Atom.l0 k x11 x12 (wrap64 (x13 + 1)) x243000 (x243001 ++ [(⟨bt245.1, bt245.2.1, bt245.2.2⟩ : S61)])) else (none))) else (none)) else (none)) else (if (x243001.length : Int) = 0 then (some (x243000, (([(⟨0, (⟨#[88]⟩ : ByteArray), 0⟩ : S61)] : List (S61))))) else (some (x243000, x243001)))
def ergolaw13_A_Atom.f (k : Nat) (a0_0 : Int) (l0_1 : List (S71)) : Option (ByteArray × (List (S61))) := (ergolaw13_Pred.f a0_0).bind fun t241 => (ergolaw13_A_Atom.l0 k l0_1 (l0_1.length : Int) 0 t241 ([] : List (S61)))
def ergolaw13_A_Atom.T5 : Bool × List (List Nat × List Nat) := (true, [([], []), ([0], [0]), ([], []), ([2], [2]), ([3], [3]), ([1, 4, 3], [1, 4]), ([0, 1, 2, 3, 4, 5], []), ([6, 5, 5, 0, 1, 2, 3, 4, 5], [5, 6])])
def ergolaw13_A_Atom.B5 : List Nat := [0, 1, 0, 4, 12, 31, 63, 127]
theorem ergolaw13_A_Atom.tab5 : rtab .any (opsOf Try.f39 5) = ergolaw13_A_Atom.T5 := by kernel_rfl
theorem ergolaw13_A_Atom.bits5 : waitsOk ergolaw13_A_Atom.T5.2 ergolaw13_A_Atom.B5 = true := by kernel_rfl
set_option maxHeartbeats 8000000 in
set_option maxRecDepth 100000 in
theorem ergolaw13_A_Atom.calls (k : Nat) (a0_0 : Int) (A0_1 : Option Addr) (c0_1 : Nat) (l0_1 : List (S71)) (r1 : ByteArray) (r2 : List (S61)) (w : World) (hr0_1 : Kd.C k71 w A0_1 l0_1.length l0_1) (hc0_1 : l0_1.length ≤ c0_1) (h : ergolaw13_A_Atom.f k a0_0 l0_1 = some (r1, r2)) :
  Calls Try.prog 39 #[.agg #[.int .i64 a0_0, .slice A0_1 l0_1.length c0_1]] w fun e w' => ∃ v1_ : Value, e = .returned (.agg #[.string r1, v1_]) ∧ Kd.R k61 61 w' w.heap.size (fun _ => True) v1_ r2 ∧ Below w.heap.size w w' := by
 have hu43 := Try.underlying43
 have hu34 := Try.underlying34
 have hu71 := Try.underlying71
 have hu61 := Try.underlying61
 have HR0_1 := aK_ hr0_1
 have HC0_1 := aK_ hc0_1
 clear hr0_1 hc0_1
 have HB := aK_ (Below.refl w.heap.size w)
 have H : ((ergolaw13_Pred.f a0_0).bind fun t241 => (ergolaw13_A_Atom.l0 k l0_1 (l0_1.length : Int) 0 t241 ([] : List (S61)))) = some (r1, r2) := h
 clear h
 replace H := Option.bind_eq_some_iff.mp H
 obtain ⟨t241, A20, H⟩ := H
 replace H : (ergolaw13_A_Atom.l0 k l0_1 (l0_1.length : Int) 0 t241 ([] : List (S61))) = some (r1, r2) := H
 have A2 := aK_ A20
 clear A20
 have H' := aK_ H
 clear H
 go_enter Try.func39, Try.ntmps39
 go_wp2_with (first | ((with_reducible refine gate_dst (N := 1) rfl ?_); refine box_event ?hg (N := 1) ?hd (cs := #[.int .i64 a0_0, .slice A0_1 l0_1.length c0_1]) (t := 43) ?hr ?_; (case hd => rfl); (case hg => rfl); (case hr => first | (go_simp; done) | (go_simp; rfl)); intro gb239 hg w3 hbox hb; have n0_ := aK_ (lT_ (lB0_ HB.out) hb); have n1_ := aK_ (hbox); have n2_ := aK_ ((by rw [hg]; exact (lZ_ (lB0_ HB.out)) : w.heap.size ≤ gb239)); have n3_ := aK_ ((by rw [hg]; exact (lZ_ (lB0_ HB.out)) : w.heap.size ≤ gb239)); clear HB; have HB := n0_; have BK239 := n1_; have GW239 := n2_; have GE239 := n3_; clear n0_ n1_ n2_ n3_; clear hb hbox hg) | ((with_reducible refine gate_dst (N := 2) rfl ?_); refine box_event ?hg (N := 2) ?hd (cs := #[.string (⟨#[]⟩ : ByteArray), .slice none 0 0]) (t := 34) ?hr ?_; (case hd => rfl); (case hg => rfl); (case hr => first | (go_simp; done) | (go_simp; rfl)); intro gb240 hg w4 hbox hb; have n0_ := aK_ (bB (bK_ BK239.out) hb); have n1_ := aK_ (lT_ (lB1_ HB.out GE239.out) hb); have n2_ := aK_ (hbox); have n3_ := aK_ ((by rw [hg]; exact (lZ_ (lB1_ HB.out GE239.out)) : w.heap.size ≤ gb240)); have n4_ := aK_ ((by rw [hg]; exact (lZ_ (lB1_ HB.out GE239.out)) : w.heap.size ≤ gb240)); have n5_ := aK_ ((by rw [hg]; exact Nat.ne_of_lt (blk_lt (g := gb239) (o := .cells #[.int .i64 a0_0, .slice A0_1 l0_1.length c0_1] 43 (0, 0)) (bK_ BK239.out)) : gb239 ≠ gb240)); have n6_ := aK_ ((by rw [hg]; exact Nat.ne_of_gt (blk_lt (g := gb239) (o := .cells #[.int .i64 a0_0, .slice A0_1 l0_1.length c0_1] 43 (0, 0)) (bK_ BK239.out)) : gb240 ≠ gb239)); clear BK239; clear HB; have BK239 := n0_; have HB := n1_; have BK240 := n2_; have GW240 := n3_; have GE240 := n4_; have NB239_240 := n5_; have NB240_239 := n6_; clear n0_ n1_ n2_ n3_ n4_ n5_ n6_; clear hb hbox hg; have hnb5 := NB239_240.out; have hnc5 := NB240_239.out; have hcz6_0 : w4.cell? ⟨gb239, 0, none⟩ = some (.int .i64 a0_0) := (bC BK239.out 0).trans rfl; have hcz6_1 : w4.cell? ⟨gb239, 1, none⟩ = some (.slice A0_1 l0_1.length c0_1) := (bC BK239.out 1).trans rfl; have hfz6_0 := bF BK239.out 0; have hfz6_1 := bF BK239.out 1) | ((with_reducible refine gate_callee (f := 59) rfl ?_); refine goesL_ (some 8) rfl rfl Try.func59 (by kernel_rfl) rfl #[.int .i64 a0_0] rfl (by (try simp only [List.map_toArray, List.map_cons, List.map_nil]); first | done | rfl | (simp only [List.length_drop, List.length_take]; rfl)) ?_; (with_reducible refine (ergolaw13_Pred.calls a0_0 t241 _ A2.out).mono ?_); rintro e w7 ⟨rfl, hb⟩; refine ⟨_, rfl, ?_⟩; have n0_ := aK_ (bB (bK_ BK239.out) hb); have n1_ := aK_ (bB (bK_ BK240.out) hb); have n2_ := aK_ (lT_ (lB2_ HB.out GE239.out GE240.out) hb); clear BK239; clear BK240; clear HB; have BK239 := n0_; have BK240 := n1_; have HB := n2_; clear n0_ n1_ n2_; (try clear hb); (try clear hb2); (try clear hk); (try clear hi)) | ((with_reducible refine gate_dst (N := 3) rfl ?_); refine box_event ?hg (N := 3) ?hd (cs := #[.string (⟨#[]⟩ : ByteArray), .slice none 0 0]) (t := 34) ?hr ?_; (case hd => rfl); (case hg => rfl); (case hr => first | (go_simp; done) | (go_simp; rfl)); intro gb242 hg w8 hbox hb; have n0_ := aK_ (bB (bK_ BK239.out) hb); have n1_ := aK_ (bB (bK_ BK240.out) hb); have n2_ := aK_ (lT_ (lB2_ HB.out GE239.out GE240.out) hb); have n3_ := aK_ (hbox); have n4_ := aK_ ((by rw [hg]; exact (lZ_ (lB2_ HB.out GE239.out GE240.out)) : w.heap.size ≤ gb242)); have n5_ := aK_ ((by rw [hg]; exact (lZ_ (lB2_ HB.out GE239.out GE240.out)) : w.heap.size ≤ gb242)); have n6_ := aK_ ((by rw [hg]; exact Nat.ne_of_lt (blk_lt (g := gb239) (o := .cells #[.int .i64 a0_0, .slice A0_1 l0_1.length c0_1] 43 (0, 0)) (bK_ BK239.out)) : gb239 ≠ gb242)); have n7_ := aK_ ((by rw [hg]; exact Nat.ne_of_gt (blk_lt (g := gb239) (o := .cells #[.int .i64 a0_0, .slice A0_1 l0_1.length c0_1] 43 (0, 0)) (bK_ BK239.out)) : gb242 ≠ gb239)); have n8_ := aK_ ((by rw [hg]; exact Nat.ne_of_lt (blk_lt (g := gb240) (o := .cells #[.string (⟨#[]⟩ : ByteArray), .slice none 0 0] 34 (0, 0)) (bK_ BK240.out)) : gb240 ≠ gb242)); have n9_ := aK_ ((by rw [hg]; exact Nat.ne_of_gt (blk_lt (g := gb240) (o := .cells #[.string (⟨#[]⟩ : ByteArray), .slice none 0 0] 34 (0, 0)) (bK_ BK240.out)) : gb242 ≠ gb240)); clear BK239; clear BK240; clear HB; have BK239 := n0_; have BK240 := n1_; have HB := n2_; have BK242 := n3_; have GW242 := n4_; have GE242 := n5_; have NB239_242 := n6_; have NB242_239 := n7_; have NB240_242 := n8_; have NB242_240 := n9_; clear n0_ n1_ n2_ n3_ n4_ n5_ n6_ n7_ n8_ n9_; clear hb hbox hg; have hnb9 := NB242_239.out; have hnc9 := NB239_242.out; have hnb10 := NB242_240.out; have hnc10 := NB240_242.out; have hcz11_0 : w8.cell? ⟨gb242, 0, none⟩ = some (.string (⟨#[]⟩ : ByteArray)) := (bC BK242.out 0).trans rfl; have hcz11_1 : w8.cell? ⟨gb242, 1, none⟩ = some (.slice none 0 0) := (bC BK242.out 1).trans rfl; have hfz11_0 := bF BK242.out 0; have hfz11_1 := bF BK242.out 1; have hcz12_0 : w8.cell? ⟨gb239, 0, none⟩ = some (.int .i64 a0_0) := (bC BK239.out 0).trans rfl; have hcz12_1 : w8.cell? ⟨gb239, 1, none⟩ = some (.slice A0_1 l0_1.length c0_1) := (bC BK239.out 1).trans rfl; have hfz12_0 := bF BK239.out 0; have hfz12_1 := bF BK239.out 1))
 go_loopg [13] k (fun kq v13 w' => ∃ (x13_1 : Int) (x243001_1 : List (S61)) (u243001 : Value), v13 = .int .i64 x13_1 ∧ Aside0 (ergolaw13_A_Atom.l0 kq l0_1 (l0_1.length : Int) x13_1 t241 x243001_1 = some (r1, r2)) ∧ Aside0 (kq ≤ k) ∧ Aside0 (Kd.R k61 61 w' w.heap.size (fun _ => True) u243001 x243001_1) ∧ Aside0 (w'.heap[gb239]? = some (.cells #[.int .i64 a0_0, (.slice A0_1 l0_1.length c0_1)] 43 (0, 0))) ∧ Aside0 (w'.heap[gb240]? = some (.cells #[.string (⟨#[]⟩ : ByteArray), (.slice none 0 0)] 34 (0, 0))) ∧ Aside0 (w'.heap[gb242]? = some (.cells #[.string t241, u243001] 34 (0, 0))) ∧ Aside0 (Below w.heap.size w w'))
 case atStart => exact ⟨(0), (([] : List (S61))), (.slice none 0 0), (by first | rfl | (simp; done) | (simp [*]; done)), H', ⟨Nat.le_refl _⟩, ⟨by first | exact Kd.R_nil _ _ _ _ _ | exact Kd.N_nil _ _ _ _ _ | exact Kd.V_nil _ _ _ _ _ | exact Kd.Q_nil _ _ _ _ _ | exact Kd.S_nil _ _ _ _ _⟩, ⟨by (with_reducible repeat (first | refine bDN ?_ _ | refine bD ?_ | refine bA ?_ _)); refine blk_far ?_ NB239_242.out _; (with_reducible repeat (first | refine bDN ?_ _ | refine bD ?_ | refine bA ?_ _)); refine blk_far ?_ NB239_242.out _; (with_reducible repeat (first | refine bDN ?_ _ | refine bD ?_ | refine bA ?_ _)); exact BK239.out⟩, ⟨by (with_reducible repeat (first | refine bDN ?_ _ | refine bD ?_ | refine bA ?_ _)); refine blk_far ?_ NB240_242.out _; (with_reducible repeat (first | refine bDN ?_ _ | refine bD ?_ | refine bA ?_ _)); refine blk_far ?_ NB240_242.out _; (with_reducible repeat (first | refine bDN ?_ _ | refine bD ?_ | refine bA ?_ _)); exact BK240.out⟩, ⟨(by apply eC_; (with_reducible repeat (first | refine bDN ?_ _ | refine bD ?_ | refine bA ?_ _)); apply b2_; (with_reducible repeat (first | refine bDN ?_ _ | refine bD ?_ | refine bA ?_ _)); apply b2_; (with_reducible repeat (first | refine bDN ?_ _ | refine bD ?_ | refine bA ?_ _)); exact BK242.out; kernel_rfl)⟩, ⟨(lB3_ HB.out GE239.out GE240.out GE242.out)⟩⟩
 case round =>
  clear H'
  try clear c1
  try clear p2
  try clear c3
  try clear c5
  try clear c9
  try clear c10
  try clear hcz11_0
  try clear hcz11_1
  try clear hcz12_0
  try clear hcz12_1
  try clear hcz6_0
  try clear hcz6_1
  try clear hfz11_0
  try clear hfz11_1
  try clear hfz12_0
  try clear hfz12_1
  try clear hfz6_0
  try clear hfz6_1
  obtain ⟨x13_1, x243001_1, u243001, rfl, HA, HK1, HO_243001, BK239, BK240, BK242, HB⟩ := hrel
  cases gk with
  | zero => exact absurd HA.out (by simp [ergolaw13_A_Atom.l0])
  | succ k1 =>
   have H := HA.out
   clear HA
   simp only [ergolaw13_A_Atom.l0] at H
   by_cases c13 : x13_1 < (l0_1.length : Int)
   ·rw [if_pos c13] at H
    have c13b0 : decide (x13_1 < (l0_1.length : Int)) = true := decide_eq_true c13
    clear c13
    by_cases c14 : 0 ≤ x13_1
    ·rw [if_pos c14] at H
     have c14b0 : decide (0 ≤ x13_1) = true := decide_eq_true c14
     clear c14
     by_cases c15 : x13_1 < (l0_1.length : Int)
     ·rw [if_pos c15] at H
      have c15b0 : decide (x13_1 < (l0_1.length : Int)) = true := decide_eq_true c15
      clear c15
      replace H := Option.bind_eq_some_iff.mp H
      obtain ⟨⟨t245, t246, t247⟩, A160, H⟩ := H
      replace H : (if x243001_1.length < 4398046511104 then (ergolaw13_A_Atom.l0 k1 l0_1 (l0_1.length : Int) (wrap64 (x13_1 + 1)) t241 (x243001_1 ++ [(⟨t245, t246, t247⟩ : S61)])) else (none)) = some (r1, r2) := H
      have A16 := aK_ A160
      clear A160
      by_cases c17 : x243001_1.length < 4398046511104
      ·rw [if_pos c17] at H
       have LMc17 := aK_ c17
       clear c17
       obtain ⟨y248, hy248⟩ : ∃ y_ : List (S61), y_ = (x243001_1 ++ [(⟨t245, t246, t247⟩ : S61)]) := ⟨_, rfl⟩
       replace H : (ergolaw13_A_Atom.l0 k1 l0_1 (l0_1.length : Int) (wrap64 (x13_1 + 1)) t241 y248) = some (r1, r2) := by first | (rw [hy248]; with_reducible exact H) | (have H2_ := (Option.bind_some _ _).symm.trans H; rw [hy248]; with_reducible exact H2_) | (have H2_ := (Option.bind_some _ _).symm.trans H; with_reducible exact H2_) | with_reducible exact H | (rw [hy248]; exact H) | exact H
       have Ny248 := aK_ hy248
       clear hy248
       have H' := aK_ H
       clear H
       have p243 : 0 ≤ (x13_1 : Int) := of_decide_eq_true (by first | (with_reducible assumption) | assumption)
       have q243 : x13_1 < (l0_1.length : Int) := of_decide_eq_true (by first | (with_reducible assumption) | assumption)
       obtain ⟨ad243, e243, hx243_0, hx243_1, hx243_2⟩ := at_T71 HR0_1.out x13_1 p243 q243
       cases e243
       replace hx243_0 := (HB.out.cell (wb_ w _ hx243_0)).trans hx243_0
       replace hx243_1 := (HB.out.cell (wb_ w _ hx243_1)).trans hx243_1
       replace hx243_2 := (HB.out.cell (wb_ w _ hx243_2)).trans hx243_2
       replace p243 := eq_true p243
       replace q243 := eq_true q243
       try go_wp2_with (first | ((with_reducible refine gate_dst (N := 5) rfl ?_); refine box_event ?hg (N := 5) ?hd (cs := #[.int .i64 0, .int .i64 0, .int .i64 0]) (t := 71) ?hr ?_; (case hd => rfl); (case hg => rfl); (case hr => first | (go_simp; done) | (go_simp; rfl)); intro gb244 hg w18 hbox hb; have n0_ := aK_ (Kd.R_below (rK_ HO_243001.out) hb); have n1_ := aK_ (bB (bK_ BK239.out) hb); have n2_ := aK_ (bB (bK_ BK240.out) hb); have n3_ := aK_ (bB (bK_ BK242.out) hb); have n4_ := aK_ (lT_ (lB3_ HB.out GE239.out GE240.out GE242.out) hb); have n5_ := aK_ (hbox); have n6_ := aK_ ((by rw [hg]; exact (lZ_ (lB3_ HB.out GE239.out GE240.out GE242.out)) : w.heap.size ≤ gb244)); have n7_ := aK_ ((by rw [hg]; exact (lZ_ (lB3_ HB.out GE239.out GE240.out GE242.out)) : w.heap.size ≤ gb244)); have n8_ := aK_ ((by rw [hg]; exact Nat.ne_of_lt (blk_lt (g := gb239) (o := .cells #[.int .i64 a0_0, .slice (some ad243) l0_1.length c0_1] 43 (0, 0)) (bK_ BK239.out)) : gb239 ≠ gb244)); have n9_ := aK_ ((by rw [hg]; exact Nat.ne_of_gt (blk_lt (g := gb239) (o := .cells #[.int .i64 a0_0, .slice (some ad243) l0_1.length c0_1] 43 (0, 0)) (bK_ BK239.out)) : gb244 ≠ gb239)); have n10_ := aK_ ((by rw [hg]; exact Nat.ne_of_lt (blk_lt (g := gb240) (o := .cells #[.string (⟨#[]⟩ : ByteArray), .slice none 0 0] 34 (0, 0)) (bK_ BK240.out)) : gb240 ≠ gb244)); have n11_ := aK_ ((by rw [hg]; exact Nat.ne_of_gt (blk_lt (g := gb240) (o := .cells #[.string (⟨#[]⟩ : ByteArray), .slice none 0 0] 34 (0, 0)) (bK_ BK240.out)) : gb244 ≠ gb240)); have n12_ := aK_ ((by rw [hg]; exact Nat.ne_of_lt (blk_lt (g := gb242) (o := .cells #[.string t241, u243001] 34 (0, 0)) (bK_ BK242.out)) : gb242 ≠ gb244)); have n13_ := aK_ ((by rw [hg]; exact Nat.ne_of_gt (blk_lt (g := gb242) (o := .cells #[.string t241, u243001] 34 (0, 0)) (bK_ BK242.out)) : gb244 ≠ gb242)); clear HO_243001; clear BK239; clear BK240; clear BK242; clear HB; have HO_243001 := n0_; have BK239 := n1_; have BK240 := n2_; have BK242 := n3_; have HB := n4_; have BK244 := n5_; have GW244 := n6_; have GE244 := n7_; have NB239_244 := n8_; have NB244_239 := n9_; have NB240_244 := n10_; have NB244_240 := n11_; have NB242_244 := n12_; have NB244_242 := n13_; clear n0_ n1_ n2_ n3_ n4_ n5_ n6_ n7_ n8_ n9_ n10_ n11_ n12_ n13_; clear hb hbox hg; have hnb19 := NB244_239.out; have hnc19 := NB239_244.out; have hnb20 := NB244_240.out; have hnc20 := NB240_244.out; have hnb21 := NB244_242.out; have hnc21 := NB242_244.out; obtain ⟨⟨hcz22_0, hcz22_1, hcz22_2⟩, hfz22_0, hfz22_1, hfz22_2⟩ := c3_ BK244.out))
       have n0_ : Aside0 (Kd.R k61 61 (((w18.setCell ⟨gb244, 0, none⟩ (.int .i64 ((rd_T71 l0_1 x13_1).f0))).setCell ⟨gb244, 1, none⟩ (.int .i64 ((rd_T71 l0_1 x13_1).f1))).setCell ⟨gb244, 2, none⟩ (.int .i64 ((rd_T71 l0_1 x13_1).f2))) w.heap.size (fun _ => True) u243001 x243001_1) := ⟨by (with_reducible repeat (first | apply Kd.R_alloc | apply Kd.R_drewN | apply Kd.R_drew)); exact Kd.R_mono (Kd.R_far (p := ⟨gb244, 2, none⟩) (Kd.R_far (p := ⟨gb244, 1, none⟩) (Kd.R_far (p := ⟨gb244, 0, none⟩) (Kd.R_types HO_243001.out BK244.out (by decide)) (fun _ hk => hk.2) (.int .i64 ((rd_T71 l0_1 x13_1).f0))) (fun _ hk => hk.2) (.int .i64 ((rd_T71 l0_1 x13_1).f1))) (fun _ hk => hk.2) (.int .i64 ((rd_T71 l0_1 x13_1).f2))) (fun _ hk => trivial)⟩
       have n1_ : Aside0 ((((w18.setCell ⟨gb244, 0, none⟩ (.int .i64 ((rd_T71 l0_1 x13_1).f0))).setCell ⟨gb244, 1, none⟩ (.int .i64 ((rd_T71 l0_1 x13_1).f1))).setCell ⟨gb244, 2, none⟩ (.int .i64 ((rd_T71 l0_1 x13_1).f2))).heap[gb239]? = some (.cells #[.int .i64 a0_0, .slice (some ad243) l0_1.length c0_1] 43 (0, 0))) := ⟨by (with_reducible repeat (first | refine bDN ?_ _ | refine bD ?_ | refine bA ?_ _)); refine blk_far ?_ NB239_244.out _; (with_reducible repeat (first | refine bDN ?_ _ | refine bD ?_ | refine bA ?_ _)); refine blk_far ?_ NB239_244.out _; (with_reducible repeat (first | refine bDN ?_ _ | refine bD ?_ | refine bA ?_ _)); refine blk_far ?_ NB239_244.out _; (with_reducible repeat (first | refine bDN ?_ _ | refine bD ?_ | refine bA ?_ _)); exact BK239.out⟩
       have n2_ : Aside0 ((((w18.setCell ⟨gb244, 0, none⟩ (.int .i64 ((rd_T71 l0_1 x13_1).f0))).setCell ⟨gb244, 1, none⟩ (.int .i64 ((rd_T71 l0_1 x13_1).f1))).setCell ⟨gb244, 2, none⟩ (.int .i64 ((rd_T71 l0_1 x13_1).f2))).heap[gb240]? = some (.cells #[.string (⟨#[]⟩ : ByteArray), .slice none 0 0] 34 (0, 0))) := ⟨by (with_reducible repeat (first | refine bDN ?_ _ | refine bD ?_ | refine bA ?_ _)); refine blk_far ?_ NB240_244.out _; (with_reducible repeat (first | refine bDN ?_ _ | refine bD ?_ | refine bA ?_ _)); refine blk_far ?_ NB240_244.out _; (with_reducible repeat (first | refine bDN ?_ _ | refine bD ?_ | refine bA ?_ _)); refine blk_far ?_ NB240_244.out _; (with_reducible repeat (first | refine bDN ?_ _ | refine bD ?_ | refine bA ?_ _)); exact BK240.out⟩
       have n3_ : Aside0 ((((w18.setCell ⟨gb244, 0, none⟩ (.int .i64 ((rd_T71 l0_1 x13_1).f0))).setCell ⟨gb244, 1, none⟩ (.int .i64 ((rd_T71 l0_1 x13_1).f1))).setCell ⟨gb244, 2, none⟩ (.int .i64 ((rd_T71 l0_1 x13_1).f2))).heap[gb242]? = some (.cells #[.string t241, u243001] 34 (0, 0))) := ⟨by (with_reducible repeat (first | refine bDN ?_ _ | refine bD ?_ | refine bA ?_ _)); refine blk_far ?_ NB242_244.out _; (with_reducible repeat (first | refine bDN ?_ _ | refine bD ?_ | refine bA ?_ _)); refine blk_far ?_ NB242_244.out _; (with_reducible repeat (first | refine bDN ?_ _ | refine bD ?_ | refine bA ?_ _)); refine blk_far ?_ NB242_244.out _; (with_reducible repeat (first | refine bDN ?_ _ | refine bD ?_ | refine bA ?_ _)); exact BK242.out⟩
       have n4_ : Aside0 ((((w18.setCell ⟨gb244, 0, none⟩ (.int .i64 ((rd_T71 l0_1 x13_1).f0))).setCell ⟨gb244, 1, none⟩ (.int .i64 ((rd_T71 l0_1 x13_1).f1))).setCell ⟨gb244, 2, none⟩ (.int .i64 ((rd_T71 l0_1 x13_1).f2))).heap[gb244]? = some (.cells #[.int .i64 ((rd_T71 l0_1 x13_1).f0), .int .i64 ((rd_T71 l0_1 x13_1).f1), .int .i64 ((rd_T71 l0_1 x13_1).f2)] 71 (0, 0))) := ⟨(by apply eC_; (with_reducible repeat (first | refine bDN ?_ _ | refine bD ?_ | refine bA ?_ _)); apply b2_; (with_reducible repeat (first | refine bDN ?_ _ | refine bD ?_ | refine bA ?_ _)); apply b2_; (with_reducible repeat (first | refine bDN ?_ _ | refine bD ?_ | refine bA ?_ _)); apply b2_; (with_reducible repeat (first | refine bDN ?_ _ | refine bD ?_ | refine bA ?_ _)); exact BK244.out; kernel_rfl)⟩
       have n5_ : Aside0 (Below w.heap.size w (((w18.setCell ⟨gb244, 0, none⟩ (.int .i64 ((rd_T71 l0_1 x13_1).f0))).setCell ⟨gb244, 1, none⟩ (.int .i64 ((rd_T71 l0_1 x13_1).f1))).setCell ⟨gb244, 2, none⟩ (.int .i64 ((rd_T71 l0_1 x13_1).f2)))) := ⟨(lB4_ HB.out GE239.out GE240.out GE242.out GE244.out)⟩
       (try clear HO_243001)
       (try clear BK239)
       (try clear BK240)
       (try clear BK242)
       (try clear BK244)
       (try clear HB)
       generalize (((w18.setCell ⟨gb244, 0, none⟩ (.int .i64 ((rd_T71 l0_1 x13_1).f0))).setCell ⟨gb244, 1, none⟩ (.int .i64 ((rd_T71 l0_1 x13_1).f1))).setCell ⟨gb244, 2, none⟩ (.int .i64 ((rd_T71 l0_1 x13_1).f2))) = w23 at n0_ n1_ n2_ n3_ n4_ n5_ ⊢
       have HO_243001 := n0_
       have BK239 := n1_
       have BK240 := n2_
       have BK242 := n3_
       have BK244 := n4_
       have HB := n5_
       clear n0_ n1_ n2_ n3_ n4_ n5_
       have n0_ := aK_ (Kd.R_drew HO_243001.out)
       have n1_ := aK_ (bD BK239.out)
       have n2_ := aK_ (bD BK240.out)
       have n3_ := aK_ (bD BK242.out)
       have n4_ := aK_ (bD BK244.out)
       have n5_ := aK_ (lD_ HB.out)
       clear HO_243001
       clear BK239
       clear BK240
       clear BK242
       clear BK244
       clear HB
       have HO_243001 := n0_
       have BK239 := n1_
       have BK240 := n2_
       have BK242 := n3_
       have BK244 := n4_
       have HB := n5_
       clear n0_ n1_ n2_ n3_ n4_ n5_
       refine start_ (n := 8) (S := fun w' => w'.cell? ⟨gb242, 0, none⟩ = some (.string t241) ∧ w'.cell? ⟨gb242, 1, none⟩ = some (u243001) ∧ w'.cell? ⟨gb244, 0, none⟩ = some (.int .i64 ((rd_T71 l0_1 x13_1).f0)) ∧ w'.cell? ⟨gb244, 1, none⟩ = some (.int .i64 ((rd_T71 l0_1 x13_1).f1)) ∧ w'.cell? ⟨gb244, 2, none⟩ = some (.int .i64 ((rd_T71 l0_1 x13_1).f2))) (ds := [7]) #[false, false, false, false, false, false, false, false] (by kernel_rfl) rfl rfl ⟨(bC BK242.out 0).trans rfl, (bC BK242.out 1).trans rfl, (bC BK244.out 0).trans rfl, (bC BK244.out 1).trans rfl, (bC BK244.out 2).trans rfl⟩ (fun hHeld => ?_); refine with_tabW ergolaw13_A_Atom.tab5 ergolaw13_A_Atom.bits5 (fun HT_ HW_ => ?_)
       generalize w23.drew = w24 at HO_243001 BK239 BK240 BK242 BK244 HB hHeld ⊢
       refine pure_ (i := 0) (N := some 17) (v := ?_) (a' := ?_) #[true, false, false, false, false, false, false, false] rfl rfl (any_of HT_.out (by kernel_rfl)) (fun _ _ _ h => h) (Or.inl ⟨by rfl, ?_⟩) ?_ ?_
       rotate_left
       ·intro w'
        go_simp
        with_reducible rfl
       rotate_left
       ·simp only [Act.put, sA_, sZ_, sS_, i64_w, i32_w]
        rfl
       refine take_ (i := 1) (N := some 18) (v := ?_) (a' := ?_) #[true, true, false, false, false, false, false, false] rfl rfl (take_ofW HT_.out HW_.out (by kernel_rfl)) (fun _ _ _ h => h) (Or.inl ⟨by rfl, ?_⟩) hHeld ?_ ?_
       rotate_left
       ·rintro w' ⟨s0, s1, s2, s3, s4⟩
        go_simp
        with_reducible rfl
       rotate_left
       ·simp only [Act.put, sA_, sZ_, sS_, i64_w, i32_w]
        rfl
       refine take_ (i := 2) (N := some 19) (v := ?_) (a' := ?_) #[true, true, true, false, false, false, false, false] rfl rfl (take_ofW HT_.out HW_.out (by kernel_rfl)) (fun _ _ _ h => h) (Or.inl ⟨by rfl, ?_⟩) hHeld ?_ ?_
       rotate_left
       ·rintro w' ⟨s0, s1, s2, s3, s4⟩
        go_simp
        with_reducible rfl
       rotate_left
       ·simp only [Act.put, sA_, sZ_, sS_, i64_w, i32_w]
        rfl
       refine one_ (i := 3) (N := some 20) #[true, true, true, true, false, false, false, false] rfl rfl (one_of HT_.out (by kernel_rfl)) (by decide) (fun K hK => ?_)
       refine goes_ Try.func60 (by kernel_rfl) rfl #[.agg #[.int .i64 ((rd_T71 l0_1 x13_1).f0), .int .i64 ((rd_T71 l0_1 x13_1).f1), .int .i64 ((rd_T71 l0_1 x13_1).f2)]] (by rfl) rfl rfl (by (try simp only [List.map_toArray, List.map_cons, List.map_nil]); first | done | rfl | (simp only [List.length_drop, List.length_take]; rfl)) ?_
       with_reducible refine (ergolaw13_T_Term.calls ((rd_T71 l0_1 x13_1).f0) ((rd_T71 l0_1 x13_1).f1) ((rd_T71 l0_1 x13_1).f2) t245 t246 t247 _ A16.out).mono ?_
       rintro e w25 ⟨rfl, hb⟩
       refine ⟨_, rfl, ?_⟩
       have n0_ := aK_ (Kd.R_below (rK_ HO_243001.out) hb)
       have n1_ := aK_ (bB (bK_ BK239.out) hb)
       have n2_ := aK_ (bB (bK_ BK240.out) hb)
       have n3_ := aK_ (bB (bK_ BK242.out) hb)
       have n4_ := aK_ (bB (bK_ BK244.out) hb)
       have n5_ := aK_ (lT_ (lB4_ HB.out GE239.out GE240.out GE242.out GE244.out) hb)
       clear HO_243001
       clear BK239
       clear BK240
       clear BK242
       clear BK244
       clear HB
       have HO_243001 := n0_
       have BK239 := n1_
       have BK240 := n2_
       have BK242 := n3_
       have BK244 := n4_
       have HB := n5_
       clear n0_ n1_ n2_ n3_ n4_ n5_
       (try clear hb)
       (try clear hb2)
       (try clear hk)
       (try clear hi)
       refine hK.out _ _ ⟨(bC BK242.out 0).trans rfl, (bC BK242.out 1).trans rfl, (bC BK244.out 0).trans rfl, (bC BK244.out 1).trans rfl, (bC BK244.out 2).trans rfl⟩ (fun hHeld => ?_)
       clear hK K
       refine norm_ (a' := ?_) ?_ ?_
       rotate_left
       ·show Act.put _ (some 20) _ = _
        simp only [Act.put, sA_, sZ_, sS_, i64_w, i32_w]
        rfl
       refine one_ (i := 4) (N := some 21) #[true, true, true, true, true, false, false, false] rfl rfl (one_of HT_.out (by kernel_rfl)) (by decide) (fun K hK => ?_)
       refine value_ (w1 := ?_) (v := ?_) (by rfl) rfl ?_ ?_
       rotate_left 2
       ·go_simp
        constructor
        ·rfl
        ·rfl
       refine hK.out _ _ ⟨(bC (bA BK242.out _) 0).trans rfl, (bC (bA BK242.out _) 1).trans rfl, (bC (bA BK244.out _) 0).trans rfl, (bC (bA BK244.out _) 1).trans rfl, (bC (bA BK244.out _) 2).trans rfl⟩ (fun hHeld => ?_)
       clear hK K
       refine norm_ (a' := ?_) ?_ ?_
       rotate_left
       ·show Act.put _ (some 21) _ = _
        simp only [Act.put, sA_, sZ_, sS_, i64_w, i32_w]
        rfl
       refine one_ (i := 5) (N := some 22) #[true, true, true, true, true, true, false, false] rfl rfl (one_of HT_.out (by kernel_rfl)) (by decide) (fun K hK => ?_)
       refine Kd.Ras k61 (w0 := w) w.heap.size (by rfl) (.tmp 18) (.tmp 21) 32 61 (.agg #[(.int .i64 0), (.string ⟨#[]⟩), (.int .i64 0)]) 32 rfl Try.underlying32 info61 rfl (by decide) (by omega) u243001 x243001_1 (⟨t245, t246, t247⟩ : S61) [.int .i64 t245, .string t246, .int .i64 t247] (fun _ => True) (fun _ => False) rfl rfl ?aP (fun _ hk => hk.elim) ?aF ?aO ?aB ?aS ?aL ?_
       (case aP => exact k61_mkM _ _ _ (⟨t245, t246, t247⟩ : S61))
       (case aB => exact (lB4_ HB.out GE239.out GE240.out GE242.out GE244.out))
       (case aF => exact (fun _ _ => trivial))
       (case aO => exact (rK_ HO_243001.out))
       (case aS => exact (lZ_ (lB4_ HB.out GE239.out GE240.out GE242.out GE244.out)))
       (case aL => have := LMc17.out; omega)
       intro v249 w26 ho hb hg hat
       rw [← Ny248.out] at ho
       have n0_ := aK_ (bG_ (g := gb239) (o := .cells #[.int .i64 a0_0, .slice (some ad243) l0_1.length c0_1] 43 (0, 0)) (bK_ BK239.out) hg (Kd.R_ne HO_243001.out BK239.out (by decide)))
       have n1_ := aK_ (bG_ (g := gb240) (o := .cells #[.string (⟨#[]⟩ : ByteArray), .slice none 0 0] 34 (0, 0)) (bK_ BK240.out) hg (Kd.R_ne HO_243001.out BK240.out (by decide)))
       have n2_ := aK_ (bG_ (g := gb242) (o := .cells #[.string t241, u243001] 34 (0, 0)) (bK_ BK242.out) hg (Kd.R_ne HO_243001.out BK242.out (by decide)))
       have n3_ := aK_ (bG_ (g := gb244) (o := .cells #[.int .i64 ((rd_T71 l0_1 x13_1).f0), .int .i64 ((rd_T71 l0_1 x13_1).f1), .int .i64 ((rd_T71 l0_1 x13_1).f2)] 71 (0, 0)) (bK_ BK244.out) hg (Kd.R_ne HO_243001.out BK244.out (by decide)))
       have n4_ := aK_ (hb)
       have n5_ := aK_ (ho)
       clear BK239
       clear BK240
       clear BK242
       clear BK244
       clear HB
       clear HO_243001
       have BK239 := n0_
       have BK240 := n1_
       have BK242 := n2_
       have BK244 := n3_
       have HB := n4_
       have HO250 := n5_
       clear n0_ n1_ n2_ n3_ n4_ n5_
       clear ho hb hg hat
       obtain ⟨Ao27, co27, eo27⟩ := Kd.R_slice HO250.out
       (first | subst eo27 | (injection eo27 with f1_ f2_ f3_; have f4_ := f1_.symm; have f5_ := f3_.symm; clear f1_ f2_ f3_; subst f4_; subst f5_))
       refine hK.out _ _ ⟨(bC BK242.out 0).trans rfl, (bC BK242.out 1).trans rfl, (bC BK244.out 0).trans rfl, (bC BK244.out 1).trans rfl, (bC BK244.out 2).trans rfl⟩ (fun hHeld => ?_)
       clear hK K
       refine norm_ (a' := ?_) ?_ ?_
       rotate_left
       ·show Act.put _ (some 22) _ = _
        simp only [Act.put, sA_, sZ_, sS_, i64_w, i32_w]
        rfl
       refine pure_ (i := 6) (N := some 23) (v := ?_) (a' := ?_) #[true, true, true, true, true, true, true, false] rfl rfl (any_of HT_.out (by kernel_rfl)) (fun _ _ _ h => h) (Or.inl ⟨by rfl, ?_⟩) ?_ ?_
       rotate_left
       ·intro w'
        go_simp
        with_reducible rfl
       rotate_left
       ·simp only [Act.put, sA_, sZ_, sS_, i64_w, i32_w]
        rfl
       refine last_ (i := 7) (N := none) #[true, true, true, true, true, true, true, true] rfl rfl (one_of HT_.out (by kernel_rfl)) (by decide) (fun K hK => ?_)
       have hs28 : w26.cell? ⟨gb242, 1, none⟩ = some (u243001) := (bC BK242.out 1).trans rfl
       have hfs28 := bF BK242.out 1
       have hns28_0 := NB239_242.out
       have hns28_1 := NB240_242.out
       have hns28_3 := NB244_242.out
       have hms28_0 := NB242_239.out
       have hms28_1 := NB242_240.out
       have hms28_3 := NB242_244.out
       refine skip_ (w1 := ?_) (by rfl) rfl ?_ ?_
       rotate_left
       ·go_simp
        rfl
       refine hK.out _ _ ?_
       clear hK K
       refine done_ (done_of HT_.out (by kernel_rfl)) ?_
       try go_wp2
       go_roundg k1
       case measure => have := HK1.out; omega
       case rel => exact ⟨(wrap64 (x13_1 + 1)), (y248), (.slice Ao27 y248.length co27), (by first | rfl | (simp; done) | (simp [*]; done)), H', ⟨by have := HK1.out; omega⟩, ⟨by (with_reducible repeat (first | apply Kd.R_alloc | apply Kd.R_drewN | apply Kd.R_drew)); exact Kd.R_mono (Kd.R_far (p := ⟨gb242, 1, none⟩) (Kd.R_types HO250.out BK242.out (by decide)) (fun _ hk => hk.2) (.slice Ao27 y248.length co27)) (fun _ hk => trivial)⟩, ⟨by (with_reducible repeat (first | refine bDN ?_ _ | refine bD ?_ | refine bA ?_ _)); refine blk_far ?_ NB239_242.out _; (with_reducible repeat (first | refine bDN ?_ _ | refine bD ?_ | refine bA ?_ _)); exact BK239.out⟩, ⟨by (with_reducible repeat (first | refine bDN ?_ _ | refine bD ?_ | refine bA ?_ _)); refine blk_far ?_ NB240_242.out _; (with_reducible repeat (first | refine bDN ?_ _ | refine bD ?_ | refine bA ?_ _)); exact BK240.out⟩, ⟨(by apply eC_; (with_reducible repeat (first | refine bDN ?_ _ | refine bD ?_ | refine bA ?_ _)); apply b2_; (with_reducible repeat (first | refine bDN ?_ _ | refine bD ?_ | refine bA ?_ _)); exact BK242.out; kernel_rfl)⟩, ⟨(lB4_ HB.out GE239.out GE240.out GE242.out GE244.out)⟩⟩
      ·rw [if_neg c17] at H
       exact absurd H (by simp)
     ·rw [if_neg c15] at H
      exact absurd H (by simp)
    ·rw [if_neg c14] at H
     exact absurd H (by simp)
   ·rw [if_neg c13] at H
    have c13b0 : decide (x13_1 < (l0_1.length : Int)) = false := decide_eq_false c13
    clear c13
    by_cases c29 : (x243001_1.length : Int) = 0
    ·rw [if_pos c29] at H
     have c29b0 : ((x243001_1.length : Int) == 0) = true := beq_iff_eq.mpr c29
     have c29b1 : ((x243001_1.length : Int) != 0) = false := bne_eq_false_iff_eq.mpr c29
     clear c29
     obtain ⟨y251, hy251⟩ : ∃ y_ : List (S61), y_ = (([(⟨0, (⟨#[88]⟩ : ByteArray), 0⟩ : S61)] : List (S61))) := ⟨_, rfl⟩
     replace H : (some (t241, y251)) = some (r1, r2) := by first | (rw [hy251]; with_reducible exact H) | (have H2_ := (Option.bind_some _ _).symm.trans H; rw [hy251]; with_reducible exact H2_) | (have H2_ := (Option.bind_some _ _).symm.trans H; with_reducible exact H2_) | with_reducible exact H | (rw [hy251]; exact H) | exact H
     have Ny251 := aK_ hy251
     clear hy251
     simp only [Option.some.injEq, Prod.mk.injEq] at H
     obtain ⟨rfl, rfl⟩ := H
     have hnb30 := NB242_239.out
     have hnc30 := NB239_242.out
     have hnb31 := NB242_240.out
     have hnc31 := NB240_242.out
     have hcz32_0 : wr.cell? ⟨gb242, 0, none⟩ = some (.string t241) := (bC BK242.out 0).trans rfl
     have hcz32_1 : wr.cell? ⟨gb242, 1, none⟩ = some (u243001) := (bC BK242.out 1).trans rfl
     have hfz32_0 := bF BK242.out 0
     have hfz32_1 := bF BK242.out 1
     obtain ⟨Ao33, co33, eo33⟩ := Kd.R_slice HO_243001.out
     subst eo33
     go_wp2_with (first | ((with_reducible refine gate_dst (N := 30) rfl ?_); refine Kd.R_lit k61 _ 61 ?hg (N := 30) ?hd (xs := ([(⟨0, (⟨#[88]⟩ : ByteArray), 0⟩ : S61)] : List (S61))) (inner := [.int .i64 0, .string (⟨#[88]⟩ : ByteArray), .int .i64 0]) (ok := fun _ => True) (okp := fun _ => True) ?hr ?hp (fun _ hk => hk) trivial (Below.refl _ _) (Nat.le_refl _) (by simp) ?_; (case hd => rfl); (case hg => rfl); (case hr => first | (go_simp; done) | (go_simp; rfl)); (case hp => exact (Reps.c3 (show Kd.M k61 _ _ _ (⟨0, (⟨#[88]⟩ : ByteArray), 0⟩ : S61) [.int .i64 0, .string (⟨#[88]⟩ : ByteArray), .int .i64 0] from (k61_mkM _ _ _ (⟨0, (⟨#[88]⟩ : ByteArray), 0⟩ : S61) )) (Reps.none _ _))); intro v252 w34 ho35 hb hg_ hnew_; clear hg_ hnew_; (first | rw [← Ny251.out] at ho35 | (simp only [Int.reduceToNat] at ho35; rw [← Ny251.out] at ho35)); have n0_ := aK_ (Kd.R_elder' (rK_ HO_243001.out) (Kd.R_base ho35) hb); have n1_ := aK_ (Kd.R_lower (Kd.R_new' ho35 (Kd.R_lt (rK_ HO_243001.out))) (lZ_ (lB3_ HB.out GE239.out GE240.out GE242.out))); have n2_ := aK_ (bB (bK_ BK239.out) hb); have n3_ := aK_ (bB (bK_ BK240.out) hb); have n4_ := aK_ (bB (bK_ BK242.out) hb); have n5_ := aK_ (lT_ (lB3_ HB.out GE239.out GE240.out GE242.out) hb); clear HO_243001; clear BK239; clear BK240; clear BK242; clear HB; have HO_243001 := n0_; have HO253 := n1_; have BK239 := n2_; have BK240 := n3_; have BK242 := n4_; have HB := n5_; clear n0_ n1_ n2_ n3_ n4_ n5_; clear hb ho35; obtain ⟨Ao36, co36, eo36⟩ := Kd.R_slice HO253.out; subst eo36; have hcz37_0 : w34.cell? ⟨gb242, 0, none⟩ = some (.string t241) := (bC BK242.out 0).trans rfl; have hcz37_1 : w34.cell? ⟨gb242, 1, none⟩ = some (.slice Ao33 x243001_1.length co33) := (bC BK242.out 1).trans rfl; have hfz37_0 := bF BK242.out 0; have hfz37_1 := bF BK242.out 1; have hnb38 := NB240_239.out; have hnc38 := NB239_240.out; have hcz39_0 : w34.cell? ⟨gb240, 0, none⟩ = some (.string (⟨#[]⟩ : ByteArray)) := (bC BK240.out 0).trans rfl; have hcz39_1 : w34.cell? ⟨gb240, 1, none⟩ = some (.slice none 0 0) := (bC BK240.out 1).trans rfl; have hfz39_0 := bF BK240.out 0; have hfz39_1 := bF BK240.out 1))
     refine bodyPost_ret (results_cell_row rfl _ _ gb240 34 #[.string t241, .slice Ao36 y251.length co36] (0, 0) _ rfl (by (with_reducible repeat (first | refine bDN ?_ _ | refine bD ?_ | refine bA ?_ _)); refine blk_put (cs := #[.string t241, .slice none 0 0]) ?_ 1 _ rfl; (with_reducible repeat (first | refine bDN ?_ _ | refine bD ?_ | refine bA ?_ _)); refine blk_put (cs := #[.string (⟨#[]⟩ : ByteArray), .slice none 0 0]) ?_ 0 _ rfl; (with_reducible repeat (first | refine bDN ?_ _ | refine bD ?_ | refine bA ?_ _)); refine blk_far ?_ NB240_242.out _; (with_reducible repeat (first | refine bDN ?_ _ | refine bD ?_ | refine bA ?_ _)); exact BK240.out) Try.underlying34 rfl (by kernel_rfl)) rfl ?_
     exact ⟨_, by first | rfl | (simp [errW_none, errW_some] <;> rfl) | (simp [*, errW_none, errW_some] <;> rfl), by (with_reducible repeat (first | apply Kd.R_alloc | apply Kd.R_drewN | apply Kd.R_drew)); exact Kd.R_mono (Kd.R_far (p := ⟨gb240, 1, none⟩) (Kd.R_far (p := ⟨gb240, 0, none⟩) (Kd.R_far (p := ⟨gb242, 1, none⟩) (Kd.R_types (Kd.R_types HO253.out BK242.out (by decide)) BK240.out (by decide)) (fun _ hk => hk.1.2) (.slice Ao36 y251.length co36)) (fun _ hk => hk.2) (.string t241)) (fun _ hk => hk.2) (.slice Ao36 y251.length co36)) (fun _ hk => trivial), (lB3_ HB.out GE239.out GE240.out GE242.out)⟩
    ·rw [if_neg c29] at H
     have c29b0 : ((x243001_1.length : Int) == 0) = false := beq_eq_false_iff_ne.mpr c29
     have c29b1 : ((x243001_1.length : Int) != 0) = true := bne_iff_ne.mpr c29
     have c29b2 : ¬ (x243001_1 = []) := fun h_ => c29 (by rw [h_]; rfl)
     simp only [Option.some.injEq, Prod.mk.injEq] at H
     obtain ⟨rfl, rfl⟩ := H
     have hnb40 := NB242_239.out
     have hnc40 := NB239_242.out
     have hnb41 := NB242_240.out
     have hnc41 := NB240_242.out
     have hcz42_0 : wr.cell? ⟨gb242, 0, none⟩ = some (.string t241) := (bC BK242.out 0).trans rfl
     have hcz42_1 : wr.cell? ⟨gb242, 1, none⟩ = some (u243001) := (bC BK242.out 1).trans rfl
     have hfz42_0 := bF BK242.out 0
     have hfz42_1 := bF BK242.out 1
     obtain ⟨Ao43, co43, eo43⟩ := Kd.R_slice HO_243001.out
     subst eo43
     have hnb44 := NB240_239.out
     have hnc44 := NB239_240.out
     have hcz45_0 : wr.cell? ⟨gb240, 0, none⟩ = some (.string (⟨#[]⟩ : ByteArray)) := (bC BK240.out 0).trans rfl
     have hcz45_1 : wr.cell? ⟨gb240, 1, none⟩ = some (.slice none 0 0) := (bC BK240.out 1).trans rfl
     have hfz45_0 := bF BK240.out 0
     have hfz45_1 := bF BK240.out 1
     go_wp2
     refine bodyPost_ret (results_cell_row rfl _ _ gb240 34 #[.string t241, .slice Ao43 x243001_1.length co43] (0, 0) _ rfl ((by apply eC_; (with_reducible repeat (first | refine bDN ?_ _ | refine bD ?_ | refine bA ?_ _)); apply b2_; (with_reducible repeat (first | refine bDN ?_ _ | refine bD ?_ | refine bA ?_ _)); apply b2_; (with_reducible repeat (first | refine bDN ?_ _ | refine bD ?_ | refine bA ?_ _)); exact BK240.out; kernel_rfl)) Try.underlying34 rfl (by kernel_rfl)) rfl ?_
     exact ⟨_, by first | rfl | (simp [errW_none, errW_some] <;> rfl) | (simp [*, errW_none, errW_some] <;> rfl), by (with_reducible repeat (first | apply Kd.R_alloc | apply Kd.R_drewN | apply Kd.R_drew)); exact Kd.R_mono (Kd.R_far (p := ⟨gb240, 1, none⟩) (Kd.R_far (p := ⟨gb240, 0, none⟩) (Kd.R_types HO_243001.out BK240.out (by decide)) (fun _ hk => hk.2) (.string t241)) (fun _ hk => hk.2) (.slice Ao43 x243001_1.length co43)) (fun _ hk => trivial), (lB3_ HB.out GE239.out GE240.out GE242.out)⟩
def ergolaw13_E_Expr.f : Nat → Int → Int → Int → Int → List (S74) → Option (Int × ByteArray × Int × Int × (List (S65)))
 | 0, _, _, _, _, _ => none
 | k + 1, a0_0, a0_1, a0_2, a0_3, l0_4 => if (l0_4.length : Int) < 2 then ((ergolaw13_T_Term.f (wrap64 (Int.tmod (IntKind.u64.wrap (a0_0)) 3)) a0_1 a0_2).bind fun bt257 => (some (bt257.1, bt257.2.1, bt257.2.2, 0, ([] : List (S65))))) else (if 0 < (l0_4.length : Int) then ((ergolaw13_E_Expr.f k ((rd_T74 l0_4 0).f0.f0) ((rd_T74 l0_4 0).f0.f1) ((rd_T74 l0_4 0).f0.f2) ((rd_T74 l0_4 0).f1) ((rd_T74 l0_4 0).f2)).bind fun bt261 => (if 1 < (l0_4.length : Int) then ((ergolaw13_E_Expr.f k ((rd_T74 l0_4 1).f0.f0) ((rd_T74 l0_4 1).f0.f1) ((rd_T74 l0_4 1).f0.f2) ((rd_T74 l0_4 1).f1) ((rd_T74 l0_4 1).f2)).bind fun bt269 => (some (0, (⟨#[]⟩ : ByteArray), 0, wrap64 (Int.tmod (IntKind.u64.wrap (a0_3)) 5), (([(⟨(⟨bt261.1, bt261.2.1, bt261.2.2.1⟩ : S61), bt261.2.2.2.1, bt261.2.2.2.2⟩ : S65), (⟨(⟨bt269.1, bt269.2.1, bt269.2.2.1⟩ : S61), bt269.2.2.2.1, bt269.2.2.2.2⟩ : S65)] : List (S65)))))) else (none))) else (none))
def ergolaw13_E_Expr.T5 : Bool × List (List Nat × List Nat) := (true, [([], []), ([0], [0]), ([1], [1]), ([2], [2]), ([3], [3]), ([], []), ([5], [5]), ([6], [6]), ([7], [7]), ([8], [8]), ([], []), ([10], [10]), ([11], [11]), ([12], [12]), ([13, 9], [13]), ([9, 14], [9, 14]), ([4, 15], [4, 15]), ([16, 14, 0, 1, 2, 3, 4, 5, 6, 7, 8, 9, 10, 11, 12, 13, 14, 15, 16], [16])])
def ergolaw13_E_Expr.B5 : List Nat := [0, 1, 3, 7, 15, 0, 32, 96, 224, 480, 0, 1024, 3072, 7168, 16352, 32736, 65535, 131071]
theorem ergolaw13_E_Expr.tab5 : rtab .any (opsOf Try.f61 5) = ergolaw13_E_Expr.T5 := by kernel_rfl
theorem ergolaw13_E_Expr.bits5 : waitsOk ergolaw13_E_Expr.T5.2 ergolaw13_E_Expr.B5 = true := by kernel_rfl
set_option maxHeartbeats 8000000 in
set_option maxRecDepth 100000 in
theorem ergolaw13_E_Expr.calls (k : Nat) : ∀ (a0_0 : Int) (a0_1 : Int) (a0_2 : Int) (a0_3 : Int) (A0_4 : Option Addr) (c0_4 : Nat) (l0_4 : List (S74)) (r1 : Int) (r2 : ByteArray) (r3 : Int) (r4 : Int) (r5 : List (S65)) (w : World) (hr0_4 : Kd.C k74 w A0_4 l0_4.length l0_4) (hc0_4 : l0_4.length ≤ c0_4) (h : ergolaw13_E_Expr.f k a0_0 a0_1 a0_2 a0_3 l0_4 = some (r1, r2, r3, r4, r5)),
  Calls Try.prog 61 #[.agg #[.int .i64 a0_0, .int .i64 a0_1, .int .i64 a0_2, .int .i64 a0_3, .slice A0_4 l0_4.length c0_4]] w fun e w' => ∃ v4_ : Value, e = .returned (.agg #[.int .i64 r1, .string r2, .int .i64 r3, .int .i64 r4, v4_]) ∧ Kd.N k65 65 w' w.heap.size (fun k_ => (w.heap.size ≤ k_)) v4_ r5 ∧ Below w.heap.size w w' := by
 induction k using Nat.strongRecOn with
 | _ k ih =>
 intro a0_0 a0_1 a0_2 a0_3 A0_4 c0_4 l0_4 r1 r2 r3 r4 r5 w hr0_4 hc0_4 h
 cases k with
 | zero => exact absurd h (by simp [ergolaw13_E_Expr.f])
 | succ k =>
 simp only [ergolaw13_E_Expr.f] at h
 have hu74 := Try.underlying74
 have hu65 := Try.underlying65
 have hu71 := Try.underlying71
 have HR0_4 := aK_ hr0_4
 have HC0_4 := aK_ hc0_4
 clear hr0_4 hc0_4
 have HB := aK_ (Below.refl w.heap.size w)
 have H : (if (l0_4.length : Int) < 2 then ((ergolaw13_T_Term.f (wrap64 (Int.tmod (IntKind.u64.wrap (a0_0)) 3)) a0_1 a0_2).bind fun bt257 => (some (bt257.1, bt257.2.1, bt257.2.2, 0, ([] : List (S65))))) else (if 0 < (l0_4.length : Int) then ((ergolaw13_E_Expr.f k ((rd_T74 l0_4 0).f0.f0) ((rd_T74 l0_4 0).f0.f1) ((rd_T74 l0_4 0).f0.f2) ((rd_T74 l0_4 0).f1) ((rd_T74 l0_4 0).f2)).bind fun bt261 => (if 1 < (l0_4.length : Int) then ((ergolaw13_E_Expr.f k ((rd_T74 l0_4 1).f0.f0) ((rd_T74 l0_4 1).f0.f1) ((rd_T74 l0_4 1).f0.f2) ((rd_T74 l0_4 1).f1) ((rd_T74 l0_4 1).f2)).bind fun bt269 => (some (0, (⟨#[]⟩ : ByteArray), 0, wrap64 (Int.tmod (IntKind.u64.wrap (a0_3)) 5), (([(⟨(⟨bt261.1, bt261.2.1, bt261.2.2.1⟩ : S61), bt261.2.2.2.1, bt261.2.2.2.2⟩ : S65), (⟨(⟨bt269.1, bt269.2.1, bt269.2.2.1⟩ : S61), bt269.2.2.2.1, bt269.2.2.2.2⟩ : S65)] : List (S65)))))) else (none))) else (none))) = some (r1, r2, r3, r4, r5) := h
 clear h
 by_cases c2 : (l0_4.length : Int) < 2
 ·rw [if_pos c2] at H
  have c2b0 : decide ((l0_4.length : Int) < 2) = true := decide_eq_true c2
  have c2b1 : decide (l0_4.length < 2) = true := decide_eq_true (by omega)
  clear c2
  replace H := Option.bind_eq_some_iff.mp H
  obtain ⟨⟨t257, t258, t259⟩, A30, H⟩ := H
  replace H : (some (t257, t258, t259, 0, ([] : List (S65)))) = some (r1, r2, r3, r4, r5) := H
  have A3 := aK_ A30
  clear A30
  simp only [Option.some.injEq, Prod.mk.injEq] at H
  obtain ⟨rfl, rfl, rfl, rfl, rfl⟩ := H
  go_enter Try.func61, Try.ntmps61
  go_wp2_with (first | ((with_reducible refine gate_dst (N := 1) rfl ?_); refine box_event ?hg (N := 1) ?hd (cs := #[.int .i64 a0_0, .int .i64 a0_1, .int .i64 a0_2, .int .i64 a0_3, .slice A0_4 l0_4.length c0_4]) (t := 74) ?hr ?_; (case hd => rfl); (case hg => rfl); (case hr => first | (go_simp; done) | (go_simp; rfl)); intro gb254 hg w4 hbox hb; have n0_ := aK_ (lT_ (lB0_ HB.out) hb); have n1_ := aK_ (hbox); have n2_ := aK_ ((by rw [hg]; exact (lZ_ (lB0_ HB.out)) : w.heap.size ≤ gb254)); have n3_ := aK_ ((by rw [hg]; exact (lZ_ (lB0_ HB.out)) : w.heap.size ≤ gb254)); clear HB; have HB := n0_; have BK254 := n1_; have GW254 := n2_; have GE254 := n3_; clear n0_ n1_ n2_ n3_; clear hb hbox hg) | ((with_reducible refine gate_dst (N := 2) rfl ?_); refine box_event ?hg (N := 2) ?hd (cs := #[.int .i64 0, .string (⟨#[]⟩ : ByteArray), .int .i64 0, .int .i64 0, .slice none 0 0]) (t := 65) ?hr ?_; (case hd => rfl); (case hg => rfl); (case hr => first | (go_simp; done) | (go_simp; rfl)); intro gb255 hg w5 hbox hb; have n0_ := aK_ (bB (bK_ BK254.out) hb); have n1_ := aK_ (lT_ (lB1_ HB.out GE254.out) hb); have n2_ := aK_ (hbox); have n3_ := aK_ ((by rw [hg]; exact (lZ_ (lB1_ HB.out GE254.out)) : w.heap.size ≤ gb255)); have n4_ := aK_ ((by rw [hg]; exact (lZ_ (lB1_ HB.out GE254.out)) : w.heap.size ≤ gb255)); have n5_ := aK_ ((by rw [hg]; exact Nat.ne_of_lt (blk_lt (g := gb254) (o := .cells #[.int .i64 a0_0, .int .i64 a0_1, .int .i64 a0_2, .int .i64 a0_3, .slice A0_4 l0_4.length c0_4] 74 (0, 0)) (bK_ BK254.out)) : gb254 ≠ gb255)); have n6_ := aK_ ((by rw [hg]; exact Nat.ne_of_gt (blk_lt (g := gb254) (o := .cells #[.int .i64 a0_0, .int .i64 a0_1, .int .i64 a0_2, .int .i64 a0_3, .slice A0_4 l0_4.length c0_4] 74 (0, 0)) (bK_ BK254.out)) : gb255 ≠ gb254)); clear BK254; clear HB; have BK254 := n0_; have HB := n1_; have BK255 := n2_; have GW255 := n3_; have GE255 := n4_; have NB254_255 := n5_; have NB255_254 := n6_; clear n0_ n1_ n2_ n3_ n4_ n5_ n6_; clear hb hbox hg; have hnb6 := NB254_255.out; have hnc6 := NB255_254.out; obtain ⟨⟨hcz7_0, hcz7_1, hcz7_2, hcz7_3, hcz7_4⟩, hfz7_0, hfz7_1, hfz7_2, hfz7_3, hfz7_4⟩ := c5_ BK254.out) | ((with_reducible refine gate_dst (N := 3) rfl ?_); refine box_event ?hg (N := 3) ?hd (cs := #[.int .i64 0, .int .i64 0, .int .i64 0]) (t := 71) ?hr ?_; (case hd => rfl); (case hg => rfl); (case hr => first | (go_simp; done) | (go_simp; rfl)); intro gb256 hg w8 hbox hb; have n0_ := aK_ (bB (bK_ BK254.out) hb); have n1_ := aK_ (bB (bK_ BK255.out) hb); have n2_ := aK_ (lT_ (lB2_ HB.out GE254.out GE255.out) hb); have n3_ := aK_ (hbox); have n4_ := aK_ ((by rw [hg]; exact (lZ_ (lB2_ HB.out GE254.out GE255.out)) : w.heap.size ≤ gb256)); have n5_ := aK_ ((by rw [hg]; exact (lZ_ (lB2_ HB.out GE254.out GE255.out)) : w.heap.size ≤ gb256)); have n6_ := aK_ ((by rw [hg]; exact Nat.ne_of_lt (blk_lt (g := gb254) (o := .cells #[.int .i64 a0_0, .int .i64 a0_1, .int .i64 a0_2, .int .i64 a0_3, .slice A0_4 l0_4.length c0_4] 74 (0, 0)) (bK_ BK254.out)) : gb254 ≠ gb256)); have n7_ := aK_ ((by rw [hg]; exact Nat.ne_of_gt (blk_lt (g := gb254) (o := .cells #[.int .i64 a0_0, .int .i64 a0_1, .int .i64 a0_2, .int .i64 a0_3, .slice A0_4 l0_4.length c0_4] 74 (0, 0)) (bK_ BK254.out)) : gb256 ≠ gb254)); have n8_ := aK_ ((by rw [hg]; exact Nat.ne_of_lt (blk_lt (g := gb255) (o := .cells #[.int .i64 0, .string (⟨#[]⟩ : ByteArray), .int .i64 0, .int .i64 0, .slice none 0 0] 65 (0, 0)) (bK_ BK255.out)) : gb255 ≠ gb256)); have n9_ := aK_ ((by rw [hg]; exact Nat.ne_of_gt (blk_lt (g := gb255) (o := .cells #[.int .i64 0, .string (⟨#[]⟩ : ByteArray), .int .i64 0, .int .i64 0, .slice none 0 0] 65 (0, 0)) (bK_ BK255.out)) : gb256 ≠ gb255)); clear BK254; clear BK255; clear HB; have BK254 := n0_; have BK255 := n1_; have HB := n2_; have BK256 := n3_; have GW256 := n4_; have GE256 := n5_; have NB254_256 := n6_; have NB256_254 := n7_; have NB255_256 := n8_; have NB256_255 := n9_; clear n0_ n1_ n2_ n3_ n4_ n5_ n6_ n7_ n8_ n9_; clear hb hbox hg; have hnb9 := NB256_254.out; have hnc9 := NB254_256.out; have hnb10 := NB256_255.out; have hnc10 := NB255_256.out; obtain ⟨⟨hcz11_0, hcz11_1, hcz11_2⟩, hfz11_0, hfz11_1, hfz11_2⟩ := c3_ BK256.out) | ((with_reducible refine gate_callee (f := 60) rfl ?_); refine goesL_ (some 17) rfl rfl Try.func60 (by kernel_rfl) rfl #[.agg #[.int .i64 (wrap64 (Int.tmod (IntKind.u64.wrap (a0_0)) 3)), .int .i64 a0_1, .int .i64 a0_2]] rfl (by (try simp only [List.map_toArray, List.map_cons, List.map_nil]); first | done | rfl | (simp only [List.length_drop, List.length_take]; rfl)) ?_; (with_reducible refine (ergolaw13_T_Term.calls (wrap64 (Int.tmod (IntKind.u64.wrap (a0_0)) 3)) a0_1 a0_2 t257 t258 t259 _ A3.out).mono ?_); rintro e w12 ⟨rfl, hb⟩; refine ⟨_, rfl, ?_⟩; have n0_ := aK_ (bB (g := gb254) (o := .cells #[.int .i64 a0_0, .int .i64 a0_1, .int .i64 a0_2, .int .i64 a0_3, .slice A0_4 l0_4.length c0_4] 74 (0, 0)) (by (with_reducible repeat (first | refine bDN ?_ _ | refine bD ?_ | refine bA ?_ _)); refine blk_far ?_ NB254_256.out _; (with_reducible repeat (first | refine bDN ?_ _ | refine bD ?_ | refine bA ?_ _)); refine blk_far ?_ NB254_256.out _; (with_reducible repeat (first | refine bDN ?_ _ | refine bD ?_ | refine bA ?_ _)); refine blk_far ?_ NB254_256.out _; (with_reducible repeat (first | refine bDN ?_ _ | refine bD ?_ | refine bA ?_ _)); refine blk_far ?_ NB254_256.out _; (with_reducible repeat (first | refine bDN ?_ _ | refine bD ?_ | refine bA ?_ _)); exact BK254.out) hb); have n1_ := aK_ (bB (g := gb255) (o := .cells #[.int .i64 0, .string (⟨#[]⟩ : ByteArray), .int .i64 0, .int .i64 0, .slice none 0 0] 65 (0, 0)) (by (with_reducible repeat (first | refine bDN ?_ _ | refine bD ?_ | refine bA ?_ _)); refine blk_far ?_ NB255_256.out _; (with_reducible repeat (first | refine bDN ?_ _ | refine bD ?_ | refine bA ?_ _)); refine blk_far ?_ NB255_256.out _; (with_reducible repeat (first | refine bDN ?_ _ | refine bD ?_ | refine bA ?_ _)); refine blk_far ?_ NB255_256.out _; (with_reducible repeat (first | refine bDN ?_ _ | refine bD ?_ | refine bA ?_ _)); refine blk_far ?_ NB255_256.out _; (with_reducible repeat (first | refine bDN ?_ _ | refine bD ?_ | refine bA ?_ _)); exact BK255.out) hb); have n2_ := aK_ (bB (g := gb256) (o := .cells #[.int .i64 (wrap64 (Int.tmod (IntKind.u64.wrap (a0_0)) 3)), .int .i64 a0_1, .int .i64 a0_2] 71 (0, 0)) ((by apply eC_; (with_reducible repeat (first | refine bDN ?_ _ | refine bD ?_ | refine bA ?_ _)); apply b2_; (with_reducible repeat (first | refine bDN ?_ _ | refine bD ?_ | refine bA ?_ _)); apply b2_; (with_reducible repeat (first | refine bDN ?_ _ | refine bD ?_ | refine bA ?_ _)); apply b2_; (with_reducible repeat (first | refine bDN ?_ _ | refine bD ?_ | refine bA ?_ _)); apply b2_; (with_reducible repeat (first | refine bDN ?_ _ | refine bD ?_ | refine bA ?_ _)); exact BK256.out; kernel_rfl)) hb); have n3_ := aK_ (lT_ (lB3_ HB.out GE254.out GE255.out GE256.out) hb); clear BK254; clear BK255; clear BK256; clear HB; have BK254 := n0_; have BK255 := n1_; have BK256 := n2_; have HB := n3_; clear n0_ n1_ n2_ n3_; (try clear hb); (try clear hb2); (try clear hk); (try clear hi); obtain ⟨⟨hcz13_0, hcz13_1, hcz13_2, hcz13_3, hcz13_4⟩, hfz13_0, hfz13_1, hfz13_2, hfz13_3, hfz13_4⟩ := c5_ BK255.out))
  refine bodyPost_ret (results_cell_row rfl _ _ gb255 65 #[.int .i64 t257, .string t258, .int .i64 t259, .int .i64 0, .slice none 0 0] (0, 0) _ rfl ((by apply eC_; (with_reducible repeat (first | refine bDN ?_ _ | refine bD ?_ | refine bA ?_ _)); apply b2_; (with_reducible repeat (first | refine bDN ?_ _ | refine bD ?_ | refine bA ?_ _)); apply b2_; (with_reducible repeat (first | refine bDN ?_ _ | refine bD ?_ | refine bA ?_ _)); apply b2_; (with_reducible repeat (first | refine bDN ?_ _ | refine bD ?_ | refine bA ?_ _)); apply b2_; (with_reducible repeat (first | refine bDN ?_ _ | refine bD ?_ | refine bA ?_ _)); apply b2_; (with_reducible repeat (first | refine bDN ?_ _ | refine bD ?_ | refine bA ?_ _)); exact BK255.out; kernel_rfl)) Try.underlying65 rfl (by kernel_rfl)) rfl ?_
  exact ⟨_, by first | rfl | (simp [errW_none, errW_some] <;> rfl) | (simp [*, errW_none, errW_some] <;> rfl), by first | exact Kd.R_nil _ _ _ _ _ | exact Kd.N_nil _ _ _ _ _ | exact Kd.V_nil _ _ _ _ _ | exact Kd.Q_nil _ _ _ _ _ | exact Kd.S_nil _ _ _ _ _, (lB3_ HB.out GE254.out GE255.out GE256.out)⟩
 ·rw [if_neg c2] at H
  have c2b0 : decide ((l0_4.length : Int) < 2) = false := decide_eq_false c2
  have c2b1 : decide (l0_4.length < 2) = false := decide_eq_false (by omega)
  clear c2
  by_cases c14 : 0 < (l0_4.length : Int)
  ·rw [if_pos c14] at H
   have c14b0 : decide (0 < (l0_4.length : Int)) = true := decide_eq_true c14
   have c14b1 : decide (0 < l0_4.length) = true := decide_eq_true (by omega)
   clear c14
   replace H := Option.bind_eq_some_iff.mp H
   obtain ⟨⟨t261, t262, t263, t264, t265⟩, A150, H⟩ := H
   replace H : (if 1 < (l0_4.length : Int) then ((ergolaw13_E_Expr.f k ((rd_T74 l0_4 1).f0.f0) ((rd_T74 l0_4 1).f0.f1) ((rd_T74 l0_4 1).f0.f2) ((rd_T74 l0_4 1).f1) ((rd_T74 l0_4 1).f2)).bind fun bt269 => (some (0, (⟨#[]⟩ : ByteArray), 0, wrap64 (Int.tmod (IntKind.u64.wrap (a0_3)) 5), (([(⟨(⟨t261, t262, t263⟩ : S61), t264, t265⟩ : S65), (⟨(⟨bt269.1, bt269.2.1, bt269.2.2.1⟩ : S61), bt269.2.2.2.1, bt269.2.2.2.2⟩ : S65)] : List (S65)))))) else (none)) = some (r1, r2, r3, r4, r5) := H
   have A15 := aK_ A150
   clear A150
   by_cases c16 : 1 < (l0_4.length : Int)
   ·rw [if_pos c16] at H
    have c16b0 : decide (1 < (l0_4.length : Int)) = true := decide_eq_true c16
    have c16b1 : decide (1 < l0_4.length) = true := decide_eq_true (by omega)
    clear c16
    replace H := Option.bind_eq_some_iff.mp H
    obtain ⟨⟨t269, t270, t271, t272, t273⟩, A170, H⟩ := H
    replace H : (some (0, (⟨#[]⟩ : ByteArray), 0, wrap64 (Int.tmod (IntKind.u64.wrap (a0_3)) 5), (([(⟨(⟨t261, t262, t263⟩ : S61), t264, t265⟩ : S65), (⟨(⟨t269, t270, t271⟩ : S61), t272, t273⟩ : S65)] : List (S65))))) = some (r1, r2, r3, r4, r5) := H
    have A17 := aK_ A170
    clear A170
    obtain ⟨y276, hy276⟩ : ∃ y_ : List (S65), y_ = (([(⟨(⟨t261, t262, t263⟩ : S61), t264, t265⟩ : S65), (⟨(⟨t269, t270, t271⟩ : S61), t272, t273⟩ : S65)] : List (S65))) := ⟨_, rfl⟩
    replace H : (some (0, (⟨#[]⟩ : ByteArray), 0, wrap64 (Int.tmod (IntKind.u64.wrap (a0_3)) 5), y276)) = some (r1, r2, r3, r4, r5) := by first | (rw [hy276]; with_reducible exact H) | (have H2_ := (Option.bind_some _ _).symm.trans H; rw [hy276]; with_reducible exact H2_) | (have H2_ := (Option.bind_some _ _).symm.trans H; with_reducible exact H2_) | with_reducible exact H | (rw [hy276]; exact H) | exact H
    have Ny276 := aK_ hy276
    clear hy276
    simp only [Option.some.injEq, Prod.mk.injEq] at H
    obtain ⟨rfl, rfl, rfl, rfl, rfl⟩ := H
    go_enter Try.func61, Try.ntmps61
    try go_wp2_with (first | ((with_reducible refine gate_dst (N := 1) rfl ?_); refine box_event ?hg (N := 1) ?hd (cs := #[.int .i64 a0_0, .int .i64 a0_1, .int .i64 a0_2, .int .i64 a0_3, .slice A0_4 l0_4.length c0_4]) (t := 74) ?hr ?_; (case hd => rfl); (case hg => rfl); (case hr => first | (go_simp; done) | (go_simp; rfl)); intro gb254 hg w18 hbox hb; have n0_ := aK_ (lT_ (lB0_ HB.out) hb); have n1_ := aK_ (hbox); have n2_ := aK_ ((by rw [hg]; exact (lZ_ (lB0_ HB.out)) : w.heap.size ≤ gb254)); have n3_ := aK_ ((by rw [hg]; exact (lZ_ (lB0_ HB.out)) : w.heap.size ≤ gb254)); clear HB; have HB := n0_; have BK254 := n1_; have GW254 := n2_; have GE254 := n3_; clear n0_ n1_ n2_ n3_; clear hb hbox hg) | ((with_reducible refine gate_dst (N := 2) rfl ?_); refine box_event ?hg (N := 2) ?hd (cs := #[.int .i64 0, .string (⟨#[]⟩ : ByteArray), .int .i64 0, .int .i64 0, .slice none 0 0]) (t := 65) ?hr ?_; (case hd => rfl); (case hg => rfl); (case hr => first | (go_simp; done) | (go_simp; rfl)); intro gb255 hg w19 hbox hb; have n0_ := aK_ (bB (bK_ BK254.out) hb); have n1_ := aK_ (lT_ (lB1_ HB.out GE254.out) hb); have n2_ := aK_ (hbox); have n3_ := aK_ ((by rw [hg]; exact (lZ_ (lB1_ HB.out GE254.out)) : w.heap.size ≤ gb255)); have n4_ := aK_ ((by rw [hg]; exact (lZ_ (lB1_ HB.out GE254.out)) : w.heap.size ≤ gb255)); have n5_ := aK_ ((by rw [hg]; exact Nat.ne_of_lt (blk_lt (g := gb254) (o := .cells #[.int .i64 a0_0, .int .i64 a0_1, .int .i64 a0_2, .int .i64 a0_3, .slice A0_4 l0_4.length c0_4] 74 (0, 0)) (bK_ BK254.out)) : gb254 ≠ gb255)); have n6_ := aK_ ((by rw [hg]; exact Nat.ne_of_gt (blk_lt (g := gb254) (o := .cells #[.int .i64 a0_0, .int .i64 a0_1, .int .i64 a0_2, .int .i64 a0_3, .slice A0_4 l0_4.length c0_4] 74 (0, 0)) (bK_ BK254.out)) : gb255 ≠ gb254)); clear BK254; clear HB; have BK254 := n0_; have HB := n1_; have BK255 := n2_; have GW255 := n3_; have GE255 := n4_; have NB254_255 := n5_; have NB255_254 := n6_; clear n0_ n1_ n2_ n3_ n4_ n5_ n6_; clear hb hbox hg; have hnb20 := NB254_255.out; have hnc20 := NB255_254.out; obtain ⟨⟨hcz21_0, hcz21_1, hcz21_2, hcz21_3, hcz21_4⟩, hfz21_0, hfz21_1, hfz21_2, hfz21_3, hfz21_4⟩ := c5_ BK254.out))
    have n0_ := aK_ (bD BK254.out)
    have n1_ := aK_ (bD BK255.out)
    have n2_ := aK_ (lD_ HB.out)
    clear BK254
    clear BK255
    clear HB
    have BK254 := n0_
    have BK255 := n1_
    have HB := n2_
    clear n0_ n1_ n2_
    have p260 : 0 ≤ (0 : Int) := (by omega)
    have q260 : 0 < (l0_4.length : Int) := of_decide_eq_true (by first | (with_reducible assumption) | assumption)
    obtain ⟨ad260, A260_4, c260_4, e260, hx260_0, hx260_1, hx260_2, hx260_3, hx260_4, hl260_4, hi260_4⟩ := at_T74 HR0_4.out 0 p260 q260
    have hw260_4 := hx260_4
    (try rw [show ((0 : Int)).toNat = 0 from rfl] at hw260_4)
    (try rw [show 0 * 5 = 0 from rfl] at hw260_4)
    (try rw [Addr.add_zero'] at hw260_4)
    have hw260_3 := hx260_3
    (try rw [show ((0 : Int)).toNat = 0 from rfl] at hw260_3)
    (try rw [show 0 * 5 = 0 from rfl] at hw260_3)
    (try rw [Addr.add_zero'] at hw260_3)
    have hw260_2 := hx260_2
    (try rw [show ((0 : Int)).toNat = 0 from rfl] at hw260_2)
    (try rw [show 0 * 5 = 0 from rfl] at hw260_2)
    (try rw [Addr.add_zero'] at hw260_2)
    have hw260_1 := hx260_1
    (try rw [show ((0 : Int)).toNat = 0 from rfl] at hw260_1)
    (try rw [show 0 * 5 = 0 from rfl] at hw260_1)
    (try rw [Addr.add_zero'] at hw260_1)
    have hw260_0 := hx260_0
    (try rw [show ((0 : Int)).toNat = 0 from rfl] at hw260_0)
    (try rw [show 0 * 5 = 0 from rfl] at hw260_0)
    (try rw [Addr.add_zero'] at hw260_0)
    cases e260
    have qi260 : (0 < l0_4.length) = True := eq_true (by omega)
    (try rw [show ((0 : Int)).toNat = 0 from rfl] at hx260_0)
    (try rw [show 0 * 5 = 0 from rfl] at hx260_0)
    (try rw [Addr.add_zero'] at hx260_0)
    (try rw [show ((0 : Int)).toNat = 0 from rfl] at hx260_1)
    (try rw [show 0 * 5 = 0 from rfl] at hx260_1)
    (try rw [Addr.add_zero'] at hx260_1)
    (try rw [show ((0 : Int)).toNat = 0 from rfl] at hx260_2)
    (try rw [show 0 * 5 = 0 from rfl] at hx260_2)
    (try rw [Addr.add_zero'] at hx260_2)
    (try rw [show ((0 : Int)).toNat = 0 from rfl] at hx260_3)
    (try rw [show 0 * 5 = 0 from rfl] at hx260_3)
    (try rw [Addr.add_zero'] at hx260_3)
    (try rw [show ((0 : Int)).toNat = 0 from rfl] at hx260_4)
    (try rw [show 0 * 5 = 0 from rfl] at hx260_4)
    (try rw [Addr.add_zero'] at hx260_4)
    replace hx260_0 := (HB.out.cell (wb_ w _ hx260_0)).trans hx260_0
    replace hx260_1 := (HB.out.cell (wb_ w _ hx260_1)).trans hx260_1
    replace hx260_2 := (HB.out.cell (wb_ w _ hx260_2)).trans hx260_2
    replace hx260_3 := (HB.out.cell (wb_ w _ hx260_3)).trans hx260_3
    replace hx260_4 := (HB.out.cell (wb_ w _ hx260_4)).trans hx260_4
    have HR260_4 := aK_ hi260_4
    have HC260_4 := aK_ hl260_4
    clear hi260_4 hl260_4
    replace p260 := eq_true p260
    replace q260 := eq_true q260
    have p268 : 0 ≤ (1 : Int) := (by omega)
    have q268 : 1 < (l0_4.length : Int) := of_decide_eq_true (by first | (with_reducible assumption) | assumption)
    obtain ⟨ad268, A268_4, c268_4, e268, hx268_0, hx268_1, hx268_2, hx268_3, hx268_4, hl268_4, hi268_4⟩ := at_T74 HR0_4.out 1 p268 q268
    have hw268_4 := hx268_4
    (try rw [show ((1 : Int)).toNat = 1 from rfl] at hw268_4)
    (try rw [show 1 * 5 = 5 from rfl] at hw268_4)
    (try simp only [Nat.reduceMul, Nat.reduceEqDiff, Go.Addr.add, ↓reduceIte] at hw268_4)
    have hw268_3 := hx268_3
    (try rw [show ((1 : Int)).toNat = 1 from rfl] at hw268_3)
    (try rw [show 1 * 5 = 5 from rfl] at hw268_3)
    (try simp only [Nat.reduceMul, Nat.reduceEqDiff, Go.Addr.add, ↓reduceIte] at hw268_3)
    have hw268_2 := hx268_2
    (try rw [show ((1 : Int)).toNat = 1 from rfl] at hw268_2)
    (try rw [show 1 * 5 = 5 from rfl] at hw268_2)
    (try simp only [Nat.reduceMul, Nat.reduceEqDiff, Go.Addr.add, ↓reduceIte] at hw268_2)
    have hw268_1 := hx268_1
    (try rw [show ((1 : Int)).toNat = 1 from rfl] at hw268_1)
    (try rw [show 1 * 5 = 5 from rfl] at hw268_1)
    (try simp only [Nat.reduceMul, Nat.reduceEqDiff, Go.Addr.add, ↓reduceIte] at hw268_1)
    have hw268_0 := hx268_0
    (try rw [show ((1 : Int)).toNat = 1 from rfl] at hw268_0)
    (try rw [show 1 * 5 = 5 from rfl] at hw268_0)
    (try simp only [Nat.reduceMul, Nat.reduceEqDiff, Go.Addr.add, ↓reduceIte] at hw268_0)
    obtain rfl : ad260 = ad268 := (by injection e268)
    (try simp only [show (1 : Int).toNat = 1 from rfl, Nat.reduceMul, Nat.reduceEqDiff, Go.Addr.add, ↓reduceIte] at hx268_0)
    (try simp only [show (1 : Int).toNat = 1 from rfl, Nat.reduceMul, Nat.reduceEqDiff, Go.Addr.add, ↓reduceIte] at hx268_1)
    (try simp only [show (1 : Int).toNat = 1 from rfl, Nat.reduceMul, Nat.reduceEqDiff, Go.Addr.add, ↓reduceIte] at hx268_2)
    (try simp only [show (1 : Int).toNat = 1 from rfl, Nat.reduceMul, Nat.reduceEqDiff, Go.Addr.add, ↓reduceIte] at hx268_3)
    (try simp only [show (1 : Int).toNat = 1 from rfl, Nat.reduceMul, Nat.reduceEqDiff, Go.Addr.add, ↓reduceIte] at hx268_4)
    have qi268 : (1 < l0_4.length) = True := eq_true (by omega)
    (try rw [show ((1 : Int)).toNat = 1 from rfl] at hx268_0)
    (try rw [show 1 * 5 = 5 from rfl] at hx268_0)
    (try rw [show ((1 : Int)).toNat = 1 from rfl] at hx268_1)
    (try rw [show 1 * 5 = 5 from rfl] at hx268_1)
    (try rw [show ((1 : Int)).toNat = 1 from rfl] at hx268_2)
    (try rw [show 1 * 5 = 5 from rfl] at hx268_2)
    (try rw [show ((1 : Int)).toNat = 1 from rfl] at hx268_3)
    (try rw [show 1 * 5 = 5 from rfl] at hx268_3)
    (try rw [show ((1 : Int)).toNat = 1 from rfl] at hx268_4)
    (try rw [show 1 * 5 = 5 from rfl] at hx268_4)
    replace hx268_0 := (HB.out.cell (wb_ w _ hx268_0)).trans hx268_0
    replace hx268_1 := (HB.out.cell (wb_ w _ hx268_1)).trans hx268_1
    replace hx268_2 := (HB.out.cell (wb_ w _ hx268_2)).trans hx268_2
    replace hx268_3 := (HB.out.cell (wb_ w _ hx268_3)).trans hx268_3
    replace hx268_4 := (HB.out.cell (wb_ w _ hx268_4)).trans hx268_4
    have HR268_4 := aK_ hi268_4
    have HC268_4 := aK_ hl268_4
    clear hi268_4 hl268_4
    replace p268 := eq_true p268
    replace q268 := eq_true q268
    refine start_ (n := 18) (S := fun w' => w'.cell? ⟨gb254, 0, none⟩ = some (.int .i64 a0_0) ∧ w'.cell? ⟨gb254, 1, none⟩ = some (.int .i64 a0_1) ∧ w'.cell? ⟨gb254, 2, none⟩ = some (.int .i64 a0_2) ∧ w'.cell? ⟨gb254, 3, none⟩ = some (.int .i64 a0_3) ∧ w'.cell? ⟨gb254, 4, none⟩ = some (.slice (some ad260) l0_4.length c0_4) ∧ w'.cell? ad260 = some (.int .i64 ((rd_T74 l0_4 0).f0.f0)) ∧ w'.cell? ⟨ad260.block, ad260.off + 1, none⟩ = some (.int .i64 ((rd_T74 l0_4 0).f0.f1)) ∧ w'.cell? ⟨ad260.block, ad260.off + 2, none⟩ = some (.int .i64 ((rd_T74 l0_4 0).f0.f2)) ∧ w'.cell? ⟨ad260.block, ad260.off + 3, none⟩ = some (.int .i64 ((rd_T74 l0_4 0).f1)) ∧ w'.cell? ⟨ad260.block, ad260.off + 4, none⟩ = some (.slice A260_4 ((rd_T74 l0_4 0).f2).length c260_4) ∧ w'.cell? ⟨ad260.block, ad260.off + 5, none⟩ = some (.int .i64 ((rd_T74 l0_4 1).f0.f0)) ∧ w'.cell? ⟨ad260.block, ad260.off + 5 + 1, none⟩ = some (.int .i64 ((rd_T74 l0_4 1).f0.f1)) ∧ w'.cell? ⟨ad260.block, ad260.off + 5 + 2, none⟩ = some (.int .i64 ((rd_T74 l0_4 1).f0.f2)) ∧ w'.cell? ⟨ad260.block, ad260.off + 5 + 3, none⟩ = some (.int .i64 ((rd_T74 l0_4 1).f1)) ∧ w'.cell? ⟨ad260.block, ad260.off + 5 + 4, none⟩ = some (.slice A268_4 ((rd_T74 l0_4 1).f2).length c268_4)) (ds := []) #[false, false, false, false, false, false, false, false, false, false, false, false, false, false, false, false, false, false] (by kernel_rfl) rfl rfl ⟨(bC BK254.out 0).trans rfl, (bC BK254.out 1).trans rfl, (bC BK254.out 2).trans rfl, (bC BK254.out 3).trans rfl, (bC BK254.out 4).trans rfl, ((HB.out.cell (wb_ w _ hw260_0)).trans hw260_0), ((HB.out.cell (wb_ w _ hw260_1)).trans hw260_1), ((HB.out.cell (wb_ w _ hw260_2)).trans hw260_2), ((HB.out.cell (wb_ w _ hw260_3)).trans hw260_3), ((HB.out.cell (wb_ w _ hw260_4)).trans hw260_4), ((HB.out.cell (wb_ w _ hw268_0)).trans hw268_0), ((HB.out.cell (wb_ w _ hw268_1)).trans hw268_1), ((HB.out.cell (wb_ w _ hw268_2)).trans hw268_2), ((HB.out.cell (wb_ w _ hw268_3)).trans hw268_3), ((HB.out.cell (wb_ w _ hw268_4)).trans hw268_4)⟩ (fun hHeld => ?_); refine with_tabW ergolaw13_E_Expr.tab5 ergolaw13_E_Expr.bits5 (fun HT_ HW_ => ?_)
    generalize w19.drew = w22 at BK254 BK255 HB HR260_4 HR268_4 hx260_0 hx260_1 hx260_2 hx260_3 hx260_4 hx268_0 hx268_1 hx268_2 hx268_3 hx268_4 hHeld ⊢
    refine pure_ (i := 0) (N := some 19) (v := ?_) (a' := ?_) #[true, false, false, false, false, false, false, false, false, false, false, false, false, false, false, false, false, false] rfl rfl (any_of HT_.out (by kernel_rfl)) (fun _ _ _ h => h) (Or.inl ⟨by rfl, ?_⟩) ?_ ?_
    rotate_left
    ·intro w'
     go_simp
     with_reducible rfl
    rotate_left
    ·simp only [Act.put, sA_, sZ_, sS_, i64_w, i32_w]
     rfl
    refine pure_ (i := 5) (N := some 24) (v := ?_) (a' := ?_) #[true, false, false, false, false, true, false, false, false, false, false, false, false, false, false, false, false, false] rfl rfl (any_of HT_.out (by kernel_rfl)) (fun _ _ _ h => h) (Or.inl ⟨by rfl, ?_⟩) ?_ ?_
    rotate_left
    ·intro w'
     go_simp
     with_reducible rfl
    rotate_left
    ·simp only [Act.put, sA_, sZ_, sS_, i64_w, i32_w]
     rfl
    refine pure_ (i := 10) (N := some 29) (v := ?_) (a' := ?_) #[true, false, false, false, false, true, false, false, false, false, true, false, false, false, false, false, false, false] rfl rfl (any_of HT_.out (by kernel_rfl)) (fun _ _ _ h => h) (Or.inl ⟨by rfl, ?_⟩) ?_ ?_
    rotate_left
    ·intro w'
     go_simp
     with_reducible rfl
    rotate_left
    ·simp only [Act.put, sA_, sZ_, sS_, i64_w, i32_w]
     rfl
    refine take_ (i := 1) (N := some 20) (v := ?_) (a' := ?_) #[true, true, false, false, false, true, false, false, false, false, true, false, false, false, false, false, false, false] rfl rfl (take_ofW HT_.out HW_.out (by kernel_rfl)) (fun _ _ _ h => h) (Or.inl ⟨by rfl, ?_⟩) hHeld ?_ ?_
    rotate_left
    ·rintro w' ⟨s0, s1, s2, s3, s4, s5, s6, s7, s8, s9, s10, s11, s12, s13, s14⟩
     go_simp
     with_reducible rfl
    rotate_left
    ·simp only [Act.put, sA_, sZ_, sS_, i64_w, i32_w]
     rfl
    refine pure_ (i := 2) (N := some 21) (v := ?_) (a' := ?_) #[true, true, true, false, false, true, false, false, false, false, true, false, false, false, false, false, false, false] rfl rfl (any_of HT_.out (by kernel_rfl)) (fun _ _ _ h => h) (Or.inl ⟨by rfl, ?_⟩) ?_ ?_
    rotate_left
    ·intro w'
     go_simp
     with_reducible rfl
    rotate_left
    ·simp only [Act.put, sA_, sZ_, sS_, i64_w, i32_w]
     rfl
    refine pure_ (i := 3) (N := some 22) (v := ?_) (a' := ?_) #[true, true, true, true, false, true, false, false, false, false, true, false, false, false, false, false, false, false] rfl rfl (any_of HT_.out (by kernel_rfl)) (fun _ _ _ h => h) (Or.inl ⟨by rfl, ?_⟩) ?_ ?_
    rotate_left
    ·intro w'
     go_simp
     with_reducible rfl
    rotate_left
    ·simp only [Act.put, sA_, sZ_, sS_, i64_w, i32_w]
     rfl
    refine pure_ (i := 4) (N := some 23) (v := ?_) (a' := ?_) #[true, true, true, true, true, true, false, false, false, false, true, false, false, false, false, false, false, false] rfl rfl (any_of HT_.out (by kernel_rfl)) (fun _ _ _ h => h) (Or.inl ⟨by rfl, ?_⟩) ?_ ?_
    rotate_left
    ·intro w'
     go_simp
     with_reducible rfl
    rotate_left
    ·simp only [Act.put, sA_, sZ_, sS_, i64_w, i32_w]
     rfl
    refine take_ (i := 6) (N := some 25) (v := ?_) (a' := ?_) #[true, true, true, true, true, true, true, false, false, false, true, false, false, false, false, false, false, false] rfl rfl (take_ofW HT_.out HW_.out (by kernel_rfl)) (fun _ _ _ h => h) (Or.inl ⟨by rfl, ?_⟩) hHeld ?_ ?_
    rotate_left
    ·rintro w' ⟨s0, s1, s2, s3, s4, s5, s6, s7, s8, s9, s10, s11, s12, s13, s14⟩
     go_simp
     with_reducible rfl
    rotate_left
    ·simp only [Act.put, sA_, sZ_, sS_, i64_w, i32_w]
     rfl
    refine pure_ (i := 7) (N := some 26) (v := ?_) (a' := ?_) #[true, true, true, true, true, true, true, true, false, false, true, false, false, false, false, false, false, false] rfl rfl (any_of HT_.out (by kernel_rfl)) (fun _ _ _ h => h) (Or.inl ⟨by rfl, ?_⟩) ?_ ?_
    rotate_left
    ·intro w'
     go_simp
     with_reducible rfl
    rotate_left
    ·simp only [Act.put, sA_, sZ_, sS_, i64_w, i32_w]
     rfl
    refine take_ (i := 8) (N := some 27) (v := ?_) (a' := ?_) #[true, true, true, true, true, true, true, true, true, false, true, false, false, false, false, false, false, false] rfl rfl (take_ofW HT_.out HW_.out (by kernel_rfl)) (fun _ _ _ h => h) (Or.inl ⟨by rfl, ?_⟩) hHeld ?_ ?_
    rotate_left
    ·rintro w' ⟨s0, s1, s2, s3, s4, s5, s6, s7, s8, s9, s10, s11, s12, s13, s14⟩
     go_simp
     with_reducible rfl
    rotate_left
    ·simp only [Act.put, sA_, sZ_, sS_, i64_w, i32_w]
     rfl
    refine take_ (i := 11) (N := some 30) (v := ?_) (a' := ?_) #[true, true, true, true, true, true, true, true, true, false, true, true, false, false, false, false, false, false] rfl rfl (take_ofW HT_.out HW_.out (by kernel_rfl)) (fun _ _ _ h => h) (Or.inl ⟨by rfl, ?_⟩) hHeld ?_ ?_
    rotate_left
    ·rintro w' ⟨s0, s1, s2, s3, s4, s5, s6, s7, s8, s9, s10, s11, s12, s13, s14⟩
     go_simp
     with_reducible rfl
    rotate_left
    ·simp only [Act.put, sA_, sZ_, sS_, i64_w, i32_w]
     rfl
    refine pure_ (i := 12) (N := some 31) (v := ?_) (a' := ?_) #[true, true, true, true, true, true, true, true, true, false, true, true, true, false, false, false, false, false] rfl rfl (any_of HT_.out (by kernel_rfl)) (fun _ _ _ h => h) (Or.inl ⟨by rfl, ?_⟩) ?_ ?_
    rotate_left
    ·intro w'
     go_simp
     with_reducible rfl
    rotate_left
    ·simp only [Act.put, sA_, sZ_, sS_, i64_w, i32_w]
     rfl
    refine take_ (i := 13) (N := some 32) (v := ?_) (a' := ?_) #[true, true, true, true, true, true, true, true, true, false, true, true, true, true, false, false, false, false] rfl rfl (take_ofW HT_.out HW_.out (by kernel_rfl)) (fun _ _ _ h => h) (Or.inl ⟨by rfl, ?_⟩) hHeld ?_ ?_
    rotate_left
    ·rintro w' ⟨s0, s1, s2, s3, s4, s5, s6, s7, s8, s9, s10, s11, s12, s13, s14⟩
     go_simp
     with_reducible rfl
    rotate_left
    ·simp only [Act.put, sA_, sZ_, sS_, i64_w, i32_w]
     rfl
    refine one_ (i := 9) (N := some 28) #[true, true, true, true, true, true, true, true, true, true, true, true, true, true, false, false, false, false] rfl rfl (one_of HT_.out (by kernel_rfl)) (by decide) (fun K hK => ?_)
    refine goes_ Try.func61 (by kernel_rfl) rfl #[.agg #[.int .i64 ((rd_T74 l0_4 0).f0.f0), .int .i64 ((rd_T74 l0_4 0).f0.f1), .int .i64 ((rd_T74 l0_4 0).f0.f2), .int .i64 ((rd_T74 l0_4 0).f1), .slice A260_4 ((rd_T74 l0_4 0).f2).length c260_4]] (by rfl) rfl rfl (by (try simp only [List.map_toArray, List.map_cons, List.map_nil]); first | done | rfl | (simp only [List.length_drop, List.length_take]; rfl)) ?_
    with_reducible refine (ih k (by omega) ((rd_T74 l0_4 0).f0.f0) ((rd_T74 l0_4 0).f0.f1) ((rd_T74 l0_4 0).f0.f2) ((rd_T74 l0_4 0).f1) _ _ ((rd_T74 l0_4 0).f2) t261 t262 t263 t264 t265 _ ?side1 ?side2 A15.out).mono ?_
    (case side1 => repeat (first | exact (Kd.C_below HR260_4.out HB.out) | (with_reducible refine Kd.C_alloc ?_ _) | (with_reducible refine Kd.C_drewN ?_ _) | (with_reducible refine Kd.C_drew ?_)))
    (case side2 => exact HC260_4.out)
    rintro e w23 ⟨v266, rfl, ho0, hb⟩
    refine ⟨_, rfl, ?_⟩
    have n0_ := aK_ (Kd.N_lower (Kd.N_mono (ok' := fun k_ => (w.heap.size ≤ k_) ∧ k_ ≠ gb254 ∧ k_ ≠ gb255) ho0 (fun k_ hk_ => ⟨(Nat.le_trans (lZ_ (lB2_ HB.out GE254.out GE255.out)) hk_), (Kd.freshB (g := gb254) (o := .cells #[.int .i64 a0_0, .int .i64 a0_1, .int .i64 a0_2, .int .i64 a0_3, .slice (some ad260) l0_4.length c0_4] 74 (0, 0)) (bK_ BK254.out) k_ hk_), (Kd.freshB (g := gb255) (o := .cells #[.int .i64 0, .string (⟨#[]⟩ : ByteArray), .int .i64 0, .int .i64 0, .slice none 0 0] 65 (0, 0)) (bK_ BK255.out) k_ hk_)⟩)) (lZ_ (lB2_ HB.out GE254.out GE255.out)))
    have n1_ := aK_ (bB (bK_ BK254.out) hb)
    have n2_ := aK_ (bB (bK_ BK255.out) hb)
    have n3_ := aK_ (lT_ (lB2_ HB.out GE254.out GE255.out) hb)
    clear BK254
    clear BK255
    clear HB
    have HO267 := n0_
    have BK254 := n1_
    have BK255 := n2_
    have HB := n3_
    clear n0_ n1_ n2_ n3_
    (try clear hb)
    (try clear hb2)
    (try clear hk)
    (try clear hi)
    (try clear ho0)
    refine hK.out _ _ ⟨(bC BK254.out 0).trans rfl, (bC BK254.out 1).trans rfl, (bC BK254.out 2).trans rfl, (bC BK254.out 3).trans rfl, (bC BK254.out 4).trans rfl, ((HB.out.cell (wb_ w _ hw260_0)).trans hw260_0), ((HB.out.cell (wb_ w _ hw260_1)).trans hw260_1), ((HB.out.cell (wb_ w _ hw260_2)).trans hw260_2), ((HB.out.cell (wb_ w _ hw260_3)).trans hw260_3), ((HB.out.cell (wb_ w _ hw260_4)).trans hw260_4), ((HB.out.cell (wb_ w _ hw268_0)).trans hw268_0), ((HB.out.cell (wb_ w _ hw268_1)).trans hw268_1), ((HB.out.cell (wb_ w _ hw268_2)).trans hw268_2), ((HB.out.cell (wb_ w _ hw268_3)).trans hw268_3), ((HB.out.cell (wb_ w _ hw268_4)).trans hw268_4)⟩ (fun hHeld => ?_)
    clear hK K
    refine norm_ (a' := ?_) ?_ ?_
    rotate_left
    ·show Act.put _ (some 28) _ = _
     simp only [Act.put, sA_, sZ_, sS_, i64_w, i32_w]
     rfl
    refine one_ (i := 14) (N := some 33) #[true, true, true, true, true, true, true, true, true, true, true, true, true, true, true, false, false, false] rfl rfl (one_of HT_.out (by kernel_rfl)) (by decide) (fun K hK => ?_)
    refine goes_ Try.func61 (by kernel_rfl) rfl #[.agg #[.int .i64 ((rd_T74 l0_4 1).f0.f0), .int .i64 ((rd_T74 l0_4 1).f0.f1), .int .i64 ((rd_T74 l0_4 1).f0.f2), .int .i64 ((rd_T74 l0_4 1).f1), .slice A268_4 ((rd_T74 l0_4 1).f2).length c268_4]] (by rfl) rfl rfl (by (try simp only [List.map_toArray, List.map_cons, List.map_nil]); first | done | rfl | (simp only [List.length_drop, List.length_take]; rfl)) ?_
    with_reducible refine (ih k (by omega) ((rd_T74 l0_4 1).f0.f0) ((rd_T74 l0_4 1).f0.f1) ((rd_T74 l0_4 1).f0.f2) ((rd_T74 l0_4 1).f1) _ _ ((rd_T74 l0_4 1).f2) t269 t270 t271 t272 t273 _ ?side1 ?side2 A17.out).mono ?_
    (case side1 => repeat (first | exact (Kd.C_below HR268_4.out HB.out) | (with_reducible refine Kd.C_alloc ?_ _) | (with_reducible refine Kd.C_drewN ?_ _) | (with_reducible refine Kd.C_drew ?_)))
    (case side2 => exact HC268_4.out)
    rintro e w24 ⟨v274, rfl, ho0, hb⟩
    refine ⟨_, rfl, ?_⟩
    have n0_ := aK_ (Kd.N_elder' (nK_ HO267.out) (Kd.N_base ho0) hb)
    have n1_ := aK_ (Kd.N_lower (Kd.N_mono (ok' := fun k_ => (w.heap.size ≤ k_) ∧ some k_ ≠ (v266 : Value).ownBlock ∧ k_ ≠ gb254 ∧ k_ ≠ gb255) ho0 (fun k_ hk_ => ⟨(Nat.le_trans (lZ_ (lB2_ HB.out GE254.out GE255.out)) hk_), (Kd.fresh' (Kd.N_lt (nK_ HO267.out)) k_ hk_), (Kd.freshB (g := gb254) (o := .cells #[.int .i64 a0_0, .int .i64 a0_1, .int .i64 a0_2, .int .i64 a0_3, .slice (some ad260) l0_4.length c0_4] 74 (0, 0)) (bK_ BK254.out) k_ hk_), (Kd.freshB (g := gb255) (o := .cells #[.int .i64 0, .string (⟨#[]⟩ : ByteArray), .int .i64 0, .int .i64 0, .slice none 0 0] 65 (0, 0)) (bK_ BK255.out) k_ hk_)⟩)) (lZ_ (lB2_ HB.out GE254.out GE255.out)))
    have n2_ := aK_ (bB (bK_ BK254.out) hb)
    have n3_ := aK_ (bB (bK_ BK255.out) hb)
    have n4_ := aK_ (lT_ (lB2_ HB.out GE254.out GE255.out) hb)
    clear HO267
    clear BK254
    clear BK255
    clear HB
    have HO267 := n0_
    have HO275 := n1_
    have BK254 := n2_
    have BK255 := n3_
    have HB := n4_
    clear n0_ n1_ n2_ n3_ n4_
    (try clear hb)
    (try clear hb2)
    (try clear hk)
    (try clear hi)
    (try clear ho0)
    obtain ⟨Ao25, co25, eo25⟩ := Kd.N_slice HO267.out
    (first | subst eo25 | (injection eo25 with f1_ f2_ f3_; have f4_ := f1_.symm; have f5_ := f3_.symm; clear f1_ f2_ f3_; subst f4_; subst f5_))
    obtain ⟨Ao26, co26, eo26⟩ := Kd.N_slice HO275.out
    (first | subst eo26 | (injection eo26 with f1_ f2_ f3_; have f4_ := f1_.symm; have f5_ := f3_.symm; clear f1_ f2_ f3_; subst f4_; subst f5_))
    refine hK.out _ _ ⟨(bC BK254.out 0).trans rfl, (bC BK254.out 1).trans rfl, (bC BK254.out 2).trans rfl, (bC BK254.out 3).trans rfl, (bC BK254.out 4).trans rfl, ((HB.out.cell (wb_ w _ hw260_0)).trans hw260_0), ((HB.out.cell (wb_ w _ hw260_1)).trans hw260_1), ((HB.out.cell (wb_ w _ hw260_2)).trans hw260_2), ((HB.out.cell (wb_ w _ hw260_3)).trans hw260_3), ((HB.out.cell (wb_ w _ hw260_4)).trans hw260_4), ((HB.out.cell (wb_ w _ hw268_0)).trans hw268_0), ((HB.out.cell (wb_ w _ hw268_1)).trans hw268_1), ((HB.out.cell (wb_ w _ hw268_2)).trans hw268_2), ((HB.out.cell (wb_ w _ hw268_3)).trans hw268_3), ((HB.out.cell (wb_ w _ hw268_4)).trans hw268_4)⟩ (fun hHeld => ?_)
    clear hK K
    refine norm_ (a' := ?_) ?_ ?_
    rotate_left
    ·show Act.put _ (some 33) _ = _
     simp only [Act.put, sA_, sZ_, sS_, i64_w, i32_w]
     rfl
    refine one_ (i := 15) (N := some 34) #[true, true, true, true, true, true, true, true, true, true, true, true, true, true, true, true, false, false] rfl rfl (one_of HT_.out (by kernel_rfl)) (by decide) (fun K hK => ?_)
    refine Kd.N_lit_step k65 _ 65 ?hg (N' := 34) ?hd (xs := ([(⟨(⟨t261, t262, t263⟩ : S61), t264, t265⟩ : S65), (⟨(⟨t269, t270, t271⟩ : S61), t272, t273⟩ : S65)] : List (S65))) (inner := [.int .i64 t261, .string t262, .int .i64 t263, .int .i64 t264, .slice Ao25 t265.length co25, .int .i64 t269, .string t270, .int .i64 t271, .int .i64 t272, .slice Ao26 t273.length co26]) (ok := (fun k_ => (w.heap.size ≤ k_) ∧ k_ ≠ gb254 ∧ k_ ≠ gb255)) (okp := (fun k_ => (w.heap.size ≤ k_) ∧ k_ ≠ gb254 ∧ k_ ≠ gb255)) ?hr ?hp (fun _ hk => hk) ((show ∀ k_, w24.heap.size ≤ k_ → (fun k_ => (w.heap.size ≤ k_) ∧ k_ ≠ gb254 ∧ k_ ≠ gb255) k_ from fun k_ hk => ⟨(Nat.le_trans (lZ_ (lB2_ HB.out GE254.out GE255.out)) hk), Kd.freshB (g := gb254) (o := .cells #[.int .i64 a0_0, .int .i64 a0_1, .int .i64 a0_2, .int .i64 a0_3, .slice (some ad260) l0_4.length c0_4] 74 (0, 0)) (bK_ BK254.out) k_ hk, Kd.freshB (g := gb255) (o := .cells #[.int .i64 0, .string (⟨#[]⟩ : ByteArray), .int .i64 0, .int .i64 0, .slice none 0 0] 65 (0, 0)) (bK_ BK255.out) k_ hk⟩) _ (Nat.le_refl _)) (Below.refl _ _) (Nat.le_refl _) (by simp) ?_; (case hd => rfl); (case hg => rfl); (case hr => first | (go_simp; done) | (go_simp; rfl)); (case hp => exact (Reps.c5 (show Kd.FK k65 _ _ (⟨(⟨t261, t262, t263⟩ : S61), t264, t265⟩ : S65) [.int .i64 t261, .string t262, .int .i64 t263, .int .i64 t264, .slice Ao25 t265.length co25] from (k65_mkF _ _ (⟨(⟨t261, t262, t263⟩ : S61), t264, t265⟩ : S65) (Kd.N_reads' (Kd.N_mono (ok' := (fun k_ => (w.heap.size ≤ k_) ∧ k_ ≠ gb254 ∧ k_ ≠ gb255)) (HO267.out) (fun k_ hk => ⟨hk.1.1, ⟨hk.1.2.1, hk.1.2.2⟩⟩))).2.1 (Kd.N_F (Kd.N_mono (ok' := (fun k_ => (w.heap.size ≤ k_) ∧ k_ ≠ gb254 ∧ k_ ≠ gb255)) (HO267.out) (fun k_ hk => ⟨hk.1.1, ⟨hk.1.2.1, hk.1.2.2⟩⟩))))) (Reps.c5 (show Kd.FK k65 _ _ (⟨(⟨t269, t270, t271⟩ : S61), t272, t273⟩ : S65) [.int .i64 t269, .string t270, .int .i64 t271, .int .i64 t272, .slice Ao26 t273.length co26] from (k65_mkF _ _ (⟨(⟨t269, t270, t271⟩ : S61), t272, t273⟩ : S65) (Kd.N_reads' (Kd.N_mono (ok' := (fun k_ => (w.heap.size ≤ k_) ∧ k_ ≠ gb254 ∧ k_ ≠ gb255)) (HO275.out) (fun k_ hk => ⟨hk.1, ⟨hk.2.2.1, hk.2.2.2⟩⟩))).2.1 (Kd.N_F (Kd.N_mono (ok' := (fun k_ => (w.heap.size ≤ k_) ∧ k_ ≠ gb254 ∧ k_ ≠ gb255)) (HO275.out) (fun k_ hk => ⟨hk.1, ⟨hk.2.2.1, hk.2.2.2⟩⟩))))) (Reps.none _ _))))
    intro v277 w27 ho28 hb hg_ hnew_
    clear hg_ hnew_
    (first | rw [← Ny276.out] at ho28 | (simp only [Int.reduceToNat] at ho28; rw [← Ny276.out] at ho28))
    have n0_ := aK_ (Kd.N_lower ho28 (lZ_ (lB2_ HB.out GE254.out GE255.out)))
    have n1_ := aK_ (bB (bK_ BK254.out) hb)
    have n2_ := aK_ (bB (bK_ BK255.out) hb)
    have n3_ := aK_ (lT_ (lB2_ HB.out GE254.out GE255.out) hb)
    clear BK254
    clear BK255
    clear HB
    clear HO267
    clear HO275
    have HO278 := n0_
    have BK254 := n1_
    have BK255 := n2_
    have HB := n3_
    clear n0_ n1_ n2_ n3_
    clear hb ho28
    obtain ⟨Ao29, co29, eo29⟩ := Kd.N_slice HO278.out
    (first | subst eo29 | (injection eo29 with f1_ f2_ f3_; have f4_ := f1_.symm; have f5_ := f3_.symm; clear f1_ f2_ f3_; subst f4_; subst f5_))
    refine hK.out _ _ ⟨(bC BK254.out 0).trans rfl, (bC BK254.out 1).trans rfl, (bC BK254.out 2).trans rfl, (bC BK254.out 3).trans rfl, (bC BK254.out 4).trans rfl, ((HB.out.cell (wb_ w _ hw260_0)).trans hw260_0), ((HB.out.cell (wb_ w _ hw260_1)).trans hw260_1), ((HB.out.cell (wb_ w _ hw260_2)).trans hw260_2), ((HB.out.cell (wb_ w _ hw260_3)).trans hw260_3), ((HB.out.cell (wb_ w _ hw260_4)).trans hw260_4), ((HB.out.cell (wb_ w _ hw268_0)).trans hw268_0), ((HB.out.cell (wb_ w _ hw268_1)).trans hw268_1), ((HB.out.cell (wb_ w _ hw268_2)).trans hw268_2), ((HB.out.cell (wb_ w _ hw268_3)).trans hw268_3), ((HB.out.cell (wb_ w _ hw268_4)).trans hw268_4)⟩ (fun hHeld => ?_)
    clear hK K
    refine norm_ (a' := ?_) ?_ ?_
    rotate_left
    ·show Act.put _ (some 34) _ = _
     simp only [Act.put, sA_, sZ_, sS_, i64_w, i32_w]
     rfl
    refine pure_ (i := 16) (N := some 35) (v := ?_) (a' := ?_) #[true, true, true, true, true, true, true, true, true, true, true, true, true, true, true, true, true, false] rfl rfl (any_of HT_.out (by kernel_rfl)) (fun _ _ _ h => h) (Or.inl ⟨by rfl, ?_⟩) ?_ ?_
    rotate_left
    ·intro w'
     go_simp
     with_reducible rfl
    rotate_left
    ·simp only [Act.put, sA_, sZ_, sS_, i64_w, i32_w]
     rfl
    refine one_ (i := 17) (N := none) #[true, true, true, true, true, true, true, true, true, true, true, true, true, true, true, true, true, true] rfl rfl (one_of HT_.out (by kernel_rfl)) (by decide) (fun K hK => ?_)
    have hs30 : w27.cell? ⟨gb255, 0, none⟩ = some (.int .i64 0) := (bC BK255.out 0).trans rfl
    have hfs30 := bF BK255.out 0
    have hns30_0 := NB254_255.out
    have hms30_0 := NB255_254.out
    have hs31 : w27.cell? ⟨gb255, 1, none⟩ = some (.string (⟨#[]⟩ : ByteArray)) := (bC BK255.out 1).trans rfl
    have hfs31 := bF BK255.out 1
    have hns31_0 := NB254_255.out
    have hms31_0 := NB255_254.out
    have hs32 : w27.cell? ⟨gb255, 2, none⟩ = some (.int .i64 0) := (bC BK255.out 2).trans rfl
    have hfs32 := bF BK255.out 2
    have hns32_0 := NB254_255.out
    have hms32_0 := NB255_254.out
    have hs33 : w27.cell? ⟨gb255, 3, none⟩ = some (.int .i64 0) := (bC BK255.out 3).trans rfl
    have hfs33 := bF BK255.out 3
    have hns33_0 := NB254_255.out
    have hms33_0 := NB255_254.out
    have hs34 : w27.cell? ⟨gb255, 4, none⟩ = some (.slice none 0 0) := (bC BK255.out 4).trans rfl
    have hfs34 := bF BK255.out 4
    have hns34_0 := NB254_255.out
    have hms34_0 := NB255_254.out
    refine skip_ (w1 := ?_) (by rfl) rfl ?_ ?_
    rotate_left
    ·go_simp
     rfl
    refine hK.out _ _ ⟨(q5_ NB254_255.out (hHeld.1)), (q5_ NB254_255.out (hHeld.2.1)), (q5_ NB254_255.out (hHeld.2.2.1)), (q5_ NB254_255.out (hHeld.2.2.2.1)), (q5_ NB254_255.out (hHeld.2.2.2.2.1)), (q5_ (g := gb255) (by first | exact fB_ hw260_0 GW255.out | exact fC_ hw260_0 GW255.out | exact fD_ hw260_0 GW255.out) (hHeld.2.2.2.2.2.1)), (q5_ (g := gb255) (by first | exact fB_ hw260_1 GW255.out | exact fC_ hw260_1 GW255.out | exact fD_ hw260_1 GW255.out) (hHeld.2.2.2.2.2.2.1)), (q5_ (g := gb255) (by first | exact fB_ hw260_2 GW255.out | exact fC_ hw260_2 GW255.out | exact fD_ hw260_2 GW255.out) (hHeld.2.2.2.2.2.2.2.1)), (q5_ (g := gb255) (by first | exact fB_ hw260_3 GW255.out | exact fC_ hw260_3 GW255.out | exact fD_ hw260_3 GW255.out) (hHeld.2.2.2.2.2.2.2.2.1)), (q5_ (g := gb255) (by first | exact fB_ hw260_4 GW255.out | exact fC_ hw260_4 GW255.out | exact fD_ hw260_4 GW255.out) (hHeld.2.2.2.2.2.2.2.2.2.1)), (q5_ (g := gb255) (by first | exact fB_ hw268_0 GW255.out | exact fC_ hw268_0 GW255.out | exact fD_ hw268_0 GW255.out) (hHeld.2.2.2.2.2.2.2.2.2.2.1)), (q5_ (g := gb255) (by first | exact fB_ hw268_1 GW255.out | exact fC_ hw268_1 GW255.out | exact fD_ hw268_1 GW255.out) (hHeld.2.2.2.2.2.2.2.2.2.2.2.1)), (q5_ (g := gb255) (by first | exact fB_ hw268_2 GW255.out | exact fC_ hw268_2 GW255.out | exact fD_ hw268_2 GW255.out) (hHeld.2.2.2.2.2.2.2.2.2.2.2.2.1)), (q5_ (g := gb255) (by first | exact fB_ hw268_3 GW255.out | exact fC_ hw268_3 GW255.out | exact fD_ hw268_3 GW255.out) (hHeld.2.2.2.2.2.2.2.2.2.2.2.2.2.1)), (q5_ (g := gb255) (by first | exact fB_ hw268_4 GW255.out | exact fC_ hw268_4 GW255.out | exact fD_ hw268_4 GW255.out) (hHeld.2.2.2.2.2.2.2.2.2.2.2.2.2.2))⟩ (fun hHeld => ?_)
    clear hK K
    refine done_ (done_of HT_.out (by kernel_rfl)) ?_
    try go_wp2
    refine bodyPost_ret (results_cell_row rfl _ _ gb255 65 #[.int .i64 0, .string (⟨#[]⟩ : ByteArray), .int .i64 0, .int .i64 (wrap64 (Int.tmod (IntKind.u64.wrap (a0_3)) 5)), .slice Ao29 y276.length co29] (0, 0) _ rfl ((by apply eC_; (with_reducible repeat (first | refine bDN ?_ _ | refine bD ?_ | refine bA ?_ _)); apply b2_; (with_reducible repeat (first | refine bDN ?_ _ | refine bD ?_ | refine bA ?_ _)); apply b2_; (with_reducible repeat (first | refine bDN ?_ _ | refine bD ?_ | refine bA ?_ _)); apply b2_; (with_reducible repeat (first | refine bDN ?_ _ | refine bD ?_ | refine bA ?_ _)); apply b2_; (with_reducible repeat (first | refine bDN ?_ _ | refine bD ?_ | refine bA ?_ _)); apply b2_; (with_reducible repeat (first | refine bDN ?_ _ | refine bD ?_ | refine bA ?_ _)); exact BK255.out; kernel_rfl)) Try.underlying65 rfl (by kernel_rfl)) rfl ?_
    exact ⟨_, by first | rfl | (simp [errW_none, errW_some] <;> rfl) | (simp [*, errW_none, errW_some] <;> rfl), by (with_reducible repeat (first | apply Kd.N_alloc | apply Kd.N_drewN | apply Kd.N_drew)); exact Kd.N_mono (Kd.N_far (p := ⟨gb255, 4, none⟩) (Kd.N_far (p := ⟨gb255, 3, none⟩) (Kd.N_far (p := ⟨gb255, 2, none⟩) (Kd.N_far (p := ⟨gb255, 1, none⟩) (Kd.N_far (p := ⟨gb255, 0, none⟩) (Kd.N_mono HO278.out (fun k_ hk => (⟨hk, hk.2.2⟩ : _ ∧ k_ ≠ gb255))) (fun _ hk => hk.2) (.int .i64 0)) (fun _ hk => hk.2) (.string (⟨#[]⟩ : ByteArray))) (fun _ hk => hk.2) (.int .i64 0)) (fun _ hk => hk.2) (.int .i64 (wrap64 (Int.tmod (IntKind.u64.wrap (a0_3)) 5)))) (fun _ hk => hk.2) (.slice Ao29 y276.length co29)) (fun _ hk => hk.1.1), (lB2_ HB.out GE254.out GE255.out)⟩
   ·rw [if_neg c16] at H
    exact absurd H (by simp)
  ·rw [if_neg c14] at H
   exact absurd H (by simp)
end Go.Proofs.YtjlnpdpkobpkiaaPSP
