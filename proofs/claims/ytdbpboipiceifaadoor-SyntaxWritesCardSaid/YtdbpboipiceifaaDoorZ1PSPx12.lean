import Derived.Test.YtdbpboipiceifaaDoorZ1PSPx0
import Derived.Test.YtdbpboipiceifaaDoorZ1PSPx8
namespace Go.Proofs.YtdbpboipiceifaaDoorPSP
open Go.RowKit Go.Proofs.YtdbpboipiceifaaDoorW.PrintWords Go.Proofs.YtdbpboipiceifaaDoorW.PrintLast Go.Proofs.YtdbpboipiceifaaDoorW.PrintMore
attribute [local go_sem] max2_int min2_int max_two min_two max_three min_three max_four min_four   -- for this text's walks alone
set_option linter.unusedVariables false
set_option linter.unusedSimpArgs false
def syntax_Term_String.f (k : Nat) (a0_0 : Int) (a0_1 : ByteArray) (a0_2 : Int) : Option (ByteArray) := if a0_0 = 1 then ((strconv_FormatInt.f a0_2 10).bind fun t378 => (some t378)) else (if a0_0 = 0 then (some a0_1) else ((lex_Plain.f k a0_1).bind fun t379 => (if t379 = true then (some a0_1) else ((lex_Quote.f a0_1).bind fun t380 => (some t380)))))
theorem syntax_Term_String.mono : ∀ a0 a1 a2 k, LeO (syntax_Term_String.f k a0 a1 a2) (syntax_Term_String.f (k + 1) a0 a1 a2) := by
 intro a0 a1 a2 k
 unfold syntax_Term_String.f
 repeat' first
   | (with_reducible exact lex_Plain.mono _ _)
   | (with_reducible exact LeO.refl _)
   | (with_reducible exact LeO.none _)
   | (with_reducible refine LeO.ite ?_ ?_)
   | (with_reducible refine LeO.bind ?_ (fun _ => ?_))
   | exact lex_Plain.mono _ _
   | exact LeO.none _
   | refine LeO.ite ?_ ?_
   | refine LeO.bind ?_ (fun _ => ?_)
set_option maxHeartbeats 8000000 in
set_option maxRecDepth 100000 in
theorem syntax_Term_String.calls (k : Nat) (a0_0 : Int) (a0_1 : ByteArray) (a0_2 : Int) (r : ByteArray) (w : World) (h : syntax_Term_String.f k a0_0 a0_1 a0_2 = some r) (hG : Go.Proofs.YtdbpboipiceifaaDoor.TabT w) :
  Calls Tryd.prog 44 #[.agg #[.int .i64 a0_0, .string a0_1, .int .i64 a0_2]] w fun e w' => e = .returned (.string r) ∧ Below w.heap.size w w' := by
 have hu53 := Tryd.underlying53
 have HB := aK_ (Below.refl w.heap.size w)
 have H : (if a0_0 = 1 then ((strconv_FormatInt.f a0_2 10).bind fun t378 => (some t378)) else (if a0_0 = 0 then (some a0_1) else ((lex_Plain.f k a0_1).bind fun t379 => (if t379 = true then (some a0_1) else ((lex_Quote.f a0_1).bind fun t380 => (some t380)))))) = some r := h
 clear h
 by_cases c2 : a0_0 = 1
 ·rw [if_pos c2] at H
  have c2b0 : (a0_0 == 1) = true := beq_iff_eq.mpr c2
  have c2b1 : (a0_0 != 1) = false := bne_eq_false_iff_eq.mpr c2
  clear c2
  replace H := Option.bind_eq_some_iff.mp H
  obtain ⟨t378, A30, H⟩ := H
  replace H : (some t378) = some r := H
  have A3 := aK_ A30
  clear A30
  obtain rfl := Option.some.inj H
  go_enter Tryd.func44, Tryd.ntmps44
  go_wp2_with (first | ((with_reducible refine gate_dst (N := 1) rfl ?_); refine box_event ?hg (N := 1) ?hd (cs := #[.int .i64 a0_0, .string a0_1, .int .i64 a0_2]) (t := 53) ?hr ?_; (case hd => rfl); (case hg => rfl); (case hr => first | (go_simp; done) | (go_simp; rfl)); intro gb377 hg w4 hbox hb; have n0_ := aK_ (lT_ (by repeat (first | (with_reducible first | exact HB.out | apply lA_ | apply pD | apply lD_) | exact HB.out)) hb); have n1_ := aK_ (hbox); have n2_ := aK_ ((by rw [hg]; exact (lZ_ (by repeat (first | (with_reducible first | exact HB.out | apply lA_ | apply pD | apply lD_) | exact HB.out))) : w.heap.size ≤ gb377)); have n3_ := aK_ ((by rw [hg]; exact (lZ_ (by repeat (first | (with_reducible first | exact HB.out | apply lA_ | apply pD | apply lD_) | exact HB.out))) : w.heap.size ≤ gb377)); clear HB; have HB := n0_; have BK377 := n1_; have GW377 := n2_; have GE377 := n3_; clear n0_ n1_ n2_ n3_; clear hb hbox hg; have hcz5_0 : w4.cell? ⟨gb377, 0, none⟩ = some (.int .i64 a0_0) := (bC BK377.out 0).trans rfl; have hcz5_1 : w4.cell? ⟨gb377, 1, none⟩ = some (.string a0_1) := (bC BK377.out 1).trans rfl; have hcz5_2 : w4.cell? ⟨gb377, 2, none⟩ = some (.int .i64 a0_2) := (bC BK377.out 2).trans rfl; have hfz5_0 := bF BK377.out 0; have hfz5_1 := bF BK377.out 1; have hfz5_2 := bF BK377.out 2) | ((with_reducible refine gate_callee (f := 67) rfl ?_); refine goesL_ (some 9) rfl rfl Tryd.func67 (by kernel_rfl) rfl #[.int .i64 a0_2, .int .i64 10] rfl (by (try simp only [List.map_toArray, List.map_cons, List.map_nil]); first | done | rfl | (simp only [List.length_drop, List.length_take]; rfl)) ?_; (with_reducible refine (strconv_FormatInt.calls a0_2 10 t378 _ A3.out ?hGl).mono ?_); (case hGl => exact tab_below hG (by repeat (first | (with_reducible first | exact HB.out | apply lA_ | apply pD | apply lD_ | refine lS_ ?_ GE377.out) | exact HB.out))); rintro e w6 ⟨rfl, hb⟩; refine ⟨_, rfl, ?_⟩; have n0_ := aK_ (bB (by (with_reducible repeat (first | refine bDN ?_ _ | refine bD ?_ | refine bA ?_ _)); exact BK377.out) hb); have n1_ := aK_ (lT_ (by repeat (first | (with_reducible first | exact HB.out | apply lA_ | apply pD | apply lD_ | refine lS_ ?_ GE377.out) | exact HB.out)) hb); clear BK377; clear HB; have BK377 := n0_; have HB := n1_; clear n0_ n1_; (try clear hb); (try clear hb2); (try clear hk); (try clear hi)))
  go_ret
  exact ⟨by first | rfl | (simp [errW_none, errW_some] <;> rfl) | (simp [*, errW_none, errW_some] <;> rfl), by repeat (first | (with_reducible first | exact HB.out | apply lA_ | apply pD | apply lD_ | refine lS_ ?_ GE377.out) | exact HB.out)⟩
 ·rw [if_neg c2] at H
  have c2b0 : (a0_0 == 1) = false := beq_eq_false_iff_ne.mpr c2
  have c2b1 : (a0_0 != 1) = true := bne_iff_ne.mpr c2
  by_cases c7 : a0_0 = 0
  ·rw [if_pos c7] at H
   have c7b0 : (a0_0 == 0) = true := beq_iff_eq.mpr c7
   have c7b1 : (a0_0 != 0) = false := bne_eq_false_iff_eq.mpr c7
   clear c7
   obtain rfl := Option.some.inj H
   go_enter Tryd.func44, Tryd.ntmps44
   go_wp2_with (first | ((with_reducible refine gate_dst (N := 1) rfl ?_); refine box_event ?hg (N := 1) ?hd (cs := #[.int .i64 a0_0, .string a0_1, .int .i64 a0_2]) (t := 53) ?hr ?_; (case hd => rfl); (case hg => rfl); (case hr => first | (go_simp; done) | (go_simp; rfl)); intro gb377 hg w8 hbox hb; have n0_ := aK_ (lT_ (by repeat (first | (with_reducible first | exact HB.out | apply lA_ | apply pD | apply lD_) | exact HB.out)) hb); have n1_ := aK_ (hbox); have n2_ := aK_ ((by rw [hg]; exact (lZ_ (by repeat (first | (with_reducible first | exact HB.out | apply lA_ | apply pD | apply lD_) | exact HB.out))) : w.heap.size ≤ gb377)); have n3_ := aK_ ((by rw [hg]; exact (lZ_ (by repeat (first | (with_reducible first | exact HB.out | apply lA_ | apply pD | apply lD_) | exact HB.out))) : w.heap.size ≤ gb377)); clear HB; have HB := n0_; have BK377 := n1_; have GW377 := n2_; have GE377 := n3_; clear n0_ n1_ n2_ n3_; clear hb hbox hg; have hcz9_0 : w8.cell? ⟨gb377, 0, none⟩ = some (.int .i64 a0_0) := (bC BK377.out 0).trans rfl; have hcz9_1 : w8.cell? ⟨gb377, 1, none⟩ = some (.string a0_1) := (bC BK377.out 1).trans rfl; have hcz9_2 : w8.cell? ⟨gb377, 2, none⟩ = some (.int .i64 a0_2) := (bC BK377.out 2).trans rfl; have hfz9_0 := bF BK377.out 0; have hfz9_1 := bF BK377.out 1; have hfz9_2 := bF BK377.out 2))
   go_ret
   exact ⟨by first | rfl | (simp [errW_none, errW_some] <;> rfl) | (simp [*, errW_none, errW_some] <;> rfl), by repeat (first | (with_reducible first | exact HB.out | apply lA_ | apply pD | apply lD_ | refine lS_ ?_ GE377.out) | exact HB.out)⟩
  ·rw [if_neg c7] at H
   have c7b0 : (a0_0 == 0) = false := beq_eq_false_iff_ne.mpr c7
   have c7b1 : (a0_0 != 0) = true := bne_iff_ne.mpr c7
   replace H := Option.bind_eq_some_iff.mp H
   obtain ⟨t379, A100, H⟩ := H
   replace H : (if t379 = true then (some a0_1) else ((lex_Quote.f a0_1).bind fun t380 => (some t380))) = some r := H
   have A10 := aK_ A100
   clear A100
   by_cases c11 : t379 = true
   ·subst c11
    have H1 : (some a0_1) = some r := by rw [if_pos rfl] at H; exact H
    clear H
    have H := H1
    clear H1
    obtain rfl := Option.some.inj H
    go_enter Tryd.func44, Tryd.ntmps44
    go_wp2_with (first | ((with_reducible refine gate_dst (N := 1) rfl ?_); refine box_event ?hg (N := 1) ?hd (cs := #[.int .i64 a0_0, .string a0_1, .int .i64 a0_2]) (t := 53) ?hr ?_; (case hd => rfl); (case hg => rfl); (case hr => first | (go_simp; done) | (go_simp; rfl)); intro gb377 hg w12 hbox hb; have n0_ := aK_ (lT_ (by repeat (first | (with_reducible first | exact HB.out | apply lA_ | apply pD | apply lD_) | exact HB.out)) hb); have n1_ := aK_ (hbox); have n2_ := aK_ ((by rw [hg]; exact (lZ_ (by repeat (first | (with_reducible first | exact HB.out | apply lA_ | apply pD | apply lD_) | exact HB.out))) : w.heap.size ≤ gb377)); have n3_ := aK_ ((by rw [hg]; exact (lZ_ (by repeat (first | (with_reducible first | exact HB.out | apply lA_ | apply pD | apply lD_) | exact HB.out))) : w.heap.size ≤ gb377)); clear HB; have HB := n0_; have BK377 := n1_; have GW377 := n2_; have GE377 := n3_; clear n0_ n1_ n2_ n3_; clear hb hbox hg; have hcz13_0 : w12.cell? ⟨gb377, 0, none⟩ = some (.int .i64 a0_0) := (bC BK377.out 0).trans rfl; have hcz13_1 : w12.cell? ⟨gb377, 1, none⟩ = some (.string a0_1) := (bC BK377.out 1).trans rfl; have hcz13_2 : w12.cell? ⟨gb377, 2, none⟩ = some (.int .i64 a0_2) := (bC BK377.out 2).trans rfl; have hfz13_0 := bF BK377.out 0; have hfz13_1 := bF BK377.out 1; have hfz13_2 := bF BK377.out 2) | (go_at_call 68; (with_reducible refine (lex_Plain.calls k a0_1 true _ A10.out).mono ?_); rintro e w' ⟨rfl, ⟨nd, rfl⟩⟩))
    go_ret
    exact ⟨by first | rfl | (simp [errW_none, errW_some] <;> rfl) | (simp [*, errW_none, errW_some] <;> rfl), by repeat (first | (with_reducible first | exact HB.out | apply lA_ | apply pD | apply lD_ | refine lS_ ?_ GE377.out) | exact HB.out)⟩
   ·replace c11 := Bool.eq_false_iff.mpr c11
    subst c11
    have H1 : ((lex_Quote.f a0_1).bind fun t380 => (some t380)) = some r := by rw [if_neg (show ¬ (false = true) by decide)] at H; exact H
    clear H
    have H := H1
    clear H1
    replace H := Option.bind_eq_some_iff.mp H
    obtain ⟨t380, A140, H⟩ := H
    replace H : (some t380) = some r := H
    have A14 := aK_ A140
    clear A140
    obtain rfl := Option.some.inj H
    go_enter Tryd.func44, Tryd.ntmps44
    go_wp2_with (first | ((with_reducible refine gate_dst (N := 1) rfl ?_); refine box_event ?hg (N := 1) ?hd (cs := #[.int .i64 a0_0, .string a0_1, .int .i64 a0_2]) (t := 53) ?hr ?_; (case hd => rfl); (case hg => rfl); (case hr => first | (go_simp; done) | (go_simp; rfl)); intro gb377 hg w15 hbox hb; have n0_ := aK_ (lT_ (by repeat (first | (with_reducible first | exact HB.out | apply lA_ | apply pD | apply lD_) | exact HB.out)) hb); have n1_ := aK_ (hbox); have n2_ := aK_ ((by rw [hg]; exact (lZ_ (by repeat (first | (with_reducible first | exact HB.out | apply lA_ | apply pD | apply lD_) | exact HB.out))) : w.heap.size ≤ gb377)); have n3_ := aK_ ((by rw [hg]; exact (lZ_ (by repeat (first | (with_reducible first | exact HB.out | apply lA_ | apply pD | apply lD_) | exact HB.out))) : w.heap.size ≤ gb377)); clear HB; have HB := n0_; have BK377 := n1_; have GW377 := n2_; have GE377 := n3_; clear n0_ n1_ n2_ n3_; clear hb hbox hg; have hcz16_0 : w15.cell? ⟨gb377, 0, none⟩ = some (.int .i64 a0_0) := (bC BK377.out 0).trans rfl; have hcz16_1 : w15.cell? ⟨gb377, 1, none⟩ = some (.string a0_1) := (bC BK377.out 1).trans rfl; have hcz16_2 : w15.cell? ⟨gb377, 2, none⟩ = some (.int .i64 a0_2) := (bC BK377.out 2).trans rfl; have hfz16_0 := bF BK377.out 0; have hfz16_1 := bF BK377.out 1; have hfz16_2 := bF BK377.out 2) | (go_at_call 68; (with_reducible refine (lex_Plain.calls k a0_1 false _ A10.out).mono ?_); rintro e w' ⟨rfl, ⟨nd, rfl⟩⟩) | ((with_reducible refine gate_callee (f := 69) rfl ?_); refine goesL_ (some 23) rfl rfl Tryd.func69 (by kernel_rfl) rfl #[.string a0_1] rfl (by (try simp only [List.map_toArray, List.map_cons, List.map_nil]); first | done | rfl | (simp only [List.length_drop, List.length_take]; rfl)) ?_; (with_reducible refine (lex_Quote.calls a0_1 t380 _ A14.out).mono ?_); rintro e w17 ⟨rfl, hb⟩; refine ⟨_, rfl, ?_⟩; have n0_ := aK_ (bB (by (with_reducible repeat (first | refine bDN ?_ _ | refine bD ?_ | refine bA ?_ _)); exact BK377.out) hb); have n1_ := aK_ (lT_ (by repeat (first | (with_reducible first | exact HB.out | apply lA_ | apply pD | apply lD_ | refine lS_ ?_ GE377.out) | exact HB.out)) hb); clear BK377; clear HB; have BK377 := n0_; have HB := n1_; clear n0_ n1_; (try clear hb); (try clear hb2); (try clear hk); (try clear hi)))
    go_ret
    exact ⟨by first | rfl | (simp [errW_none, errW_some] <;> rfl) | (simp [*, errW_none, errW_some] <;> rfl), by repeat (first | (with_reducible first | exact HB.out | apply lA_ | apply pD | apply lD_ | refine lS_ ?_ GE377.out) | exact HB.out)⟩
def syntax_Atom_String.l0 : Nat → List ByteArray → List (S53) → Int → Int → ByteArray → List (S53) → Option (ByteArray)
 | 0, _, _, _, _, _, _ => none
 | k + 1, x3, x7, x8, x9, x382000, x382001 => if x9 < x8 then (if 0 ≤ x9 then (if x9 < (x7.length : Int) then ((syntax_Term_String.f k ((rd_T53 x7 x9).f0) ((rd_T53 x7 x9).f1) ((rd_T53 x7 x9).f2)).bind fun t384 => (if x3.length < 8796093022208 then (syntax_Atom_String.l0 k (x3 ++ [t384]) x7 x8 (wrap64 (x9 + 1)) x382000 x382001) else (none))) else (none)) else (none)) else (if x382000.size + 1 ≤ 9223372036854775807 then ((strings_Join.f x3 (⟨#[44]⟩ : ByteArray)).bind fun t388 => (if (x382000 ++ (⟨#[40]⟩ : ByteArray)).size + t388.size ≤ 9223372036854775807 then (if ((x382000 ++ (⟨#[40]⟩ : ByteArray)) ++ t388).size + 1 ≤ 9223372036854775807 then (some (((x382000 ++ (⟨#[40]⟩ : ByteArray)) ++ t388) ++ (⟨#[41]⟩ : ByteArray))) else (none)) else (none))) else (none))
def syntax_Atom_String.f (k : Nat) (a0_0 : ByteArray) (l0_1 : List (S53)) : Option (ByteArray) := syntax_Atom_String.l0 k ([] : List ByteArray) l0_1 (l0_1.length : Int) 0 a0_0 l0_1
def syntax_Atom_String.T7 : Bool × List (List Nat × List Nat) := (true, [([], []), ([0], [0]), ([1], [1]), ([], []), ([3], [3]), ([2, 4], [2, 4]), ([5], [5]), ([6, 4, 0, 1, 2, 3, 4, 5, 6], [6])])
def syntax_Atom_String.B7 : List Nat := [0, 1, 3, 0, 8, 31, 63, 127]
theorem syntax_Atom_String.tab7 : rtab .any (opsOf Tryd.f43 7) = syntax_Atom_String.T7 := by kernel_rfl
theorem syntax_Atom_String.bits7 : waitsOk syntax_Atom_String.T7.2 syntax_Atom_String.B7 = true := by kernel_rfl
set_option maxHeartbeats 8000000 in
set_option maxRecDepth 100000 in
theorem syntax_Atom_String.calls (k : Nat) (a0_0 : ByteArray) (A0_1 : Option Addr) (c0_1 : Nat) (l0_1 : List (S53)) (r : ByteArray) (w : World) (hr0_1 : Kd.C k53 w A0_1 l0_1.length l0_1) (hc0_1 : l0_1.length ≤ c0_1) (h : syntax_Atom_String.f k a0_0 l0_1 = some r) (hG : Go.Proofs.YtdbpboipiceifaaDoor.TabT w) :
  Calls Tryd.prog 43 #[.agg #[.string a0_0, .slice A0_1 l0_1.length c0_1]] w fun e w' => e = .returned (.string r) ∧ Below w.heap.size w w' := by
 have hu39 := Tryd.underlying39
 have hu53 := Tryd.underlying53
 have HR0_1 := aK_ hr0_1
 have HC0_1 := aK_ hc0_1
 clear hr0_1 hc0_1
 have HB := aK_ (Below.refl w.heap.size w)
 have H : (syntax_Atom_String.l0 k ([] : List ByteArray) l0_1 (l0_1.length : Int) 0 a0_0 l0_1) = some r := h
 clear h
 have H' := aK_ H
 clear H
 go_enter Tryd.func43, Tryd.ntmps43
 go_wp2_with (first | ((with_reducible refine gate_dst (N := 1) rfl ?_); refine box_event ?hg (N := 1) ?hd (cs := #[.string a0_0, .slice A0_1 l0_1.length c0_1]) (t := 39) ?hr ?_; (case hd => rfl); (case hg => rfl); (case hr => first | (go_simp; done) | (go_simp; rfl)); intro gb381 hg w2 hbox hb; have n0_ := aK_ (lT_ (by repeat (first | (with_reducible first | exact HB.out | apply lA_ | apply pD | apply lD_) | exact HB.out)) hb); have n1_ := aK_ (hbox); have n2_ := aK_ ((by rw [hg]; exact (lZ_ (by repeat (first | (with_reducible first | exact HB.out | apply lA_ | apply pD | apply lD_) | exact HB.out))) : w.heap.size ≤ gb381)); have n3_ := aK_ ((by rw [hg]; exact (lZ_ (by repeat (first | (with_reducible first | exact HB.out | apply lA_ | apply pD | apply lD_) | exact HB.out))) : w.heap.size ≤ gb381)); clear HB; have HB := n0_; have BK381 := n1_; have GW381 := n2_; have GE381 := n3_; clear n0_ n1_ n2_ n3_; clear hb hbox hg; have hcz3_0 : w2.cell? ⟨gb381, 0, none⟩ = some (.string a0_0) := (bC BK381.out 0).trans rfl; have hcz3_1 : w2.cell? ⟨gb381, 1, none⟩ = some (.slice A0_1 l0_1.length c0_1) := (bC BK381.out 1).trans rfl; have hfz3_0 := bF BK381.out 0; have hfz3_1 := bF BK381.out 1))
 go_loopg [3, 9] k (fun kq v3 v9 w' => ∃ (x3_1 : List ByteArray) (x9_1 : Int), v9 = .int .i64 x9_1 ∧ Aside0 (syntax_Atom_String.l0 kq x3_1 l0_1 (l0_1.length : Int) x9_1 a0_0 l0_1 = some r) ∧ Aside0 (kq ≤ k) ∧ Aside0 (Kd.R Kd.string 9 w' w.heap.size (fun _ => True) v3 x3_1) ∧ Aside0 (w'.heap[gb381]? = some (.cells #[.string a0_0, (.slice A0_1 l0_1.length c0_1)] 39 (0, 0))) ∧ Aside0 (Below w.heap.size w w'))
 case atStart => exact ⟨(([] : List ByteArray)), (0), (by first | rfl | (simp; done) | (simp [*]; done)), H', ⟨Nat.le_refl _⟩, ⟨by first | exact Kd.R_nil _ _ _ _ _ | exact Kd.N_nil _ _ _ _ _ | exact Kd.V_nil _ _ _ _ _ | exact Kd.Q_nil _ _ _ _ _ | exact Kd.S_nil _ _ _ _ _⟩, ⟨by (with_reducible repeat (first | refine bDN ?_ _ | refine bD ?_ | refine bA ?_ _)); exact BK381.out⟩, ⟨by repeat (first | (with_reducible first | exact HB.out | apply lA_ | apply pD | apply lD_ | refine lS_ ?_ GE381.out) | exact HB.out)⟩⟩
 case round =>
  clear H'
  try clear p2
  try clear hcz3_0
  try clear hcz3_1
  try clear hfz3_0
  try clear hfz3_1
  obtain ⟨x3_1, x9_1, rfl, HA, HK1, HO_3, BK381, HB⟩ := hrel
  cases gk with
  | zero => exact absurd HA.out (by simp [syntax_Atom_String.l0])
  | succ k1 =>
   have H := HA.out
   clear HA
   simp only [syntax_Atom_String.l0] at H
   by_cases c4 : x9_1 < (l0_1.length : Int)
   ·rw [if_pos c4] at H
    have c4b0 : decide (x9_1 < (l0_1.length : Int)) = true := decide_eq_true c4
    clear c4
    by_cases c5 : 0 ≤ x9_1
    ·rw [if_pos c5] at H
     have c5b0 : decide (0 ≤ x9_1) = true := decide_eq_true c5
     clear c5
     by_cases c6 : x9_1 < (l0_1.length : Int)
     ·rw [if_pos c6] at H
      have c6b0 : decide (x9_1 < (l0_1.length : Int)) = true := decide_eq_true c6
      clear c6
      replace H := Option.bind_eq_some_iff.mp H
      obtain ⟨t384, A70, H⟩ := H
      replace H : (if x3_1.length < 8796093022208 then (syntax_Atom_String.l0 k1 (x3_1 ++ [t384]) l0_1 (l0_1.length : Int) (wrap64 (x9_1 + 1)) a0_0 l0_1) else (none)) = some r := H
      have A7 := aK_ A70
      clear A70
      by_cases c8 : x3_1.length < 8796093022208
      ·rw [if_pos c8] at H
       have LMc8 := aK_ c8
       clear c8
       obtain ⟨y385, hy385⟩ : ∃ y_ : List ByteArray, y_ = (x3_1 ++ [t384]) := ⟨_, rfl⟩
       replace H : (syntax_Atom_String.l0 k1 y385 l0_1 (l0_1.length : Int) (wrap64 (x9_1 + 1)) a0_0 l0_1) = some r := by first | (rw [hy385]; with_reducible exact H) | (have H2_ := (Option.bind_some _ _).symm.trans H; rw [hy385]; with_reducible exact H2_) | (have H2_ := (Option.bind_some _ _).symm.trans H; with_reducible exact H2_) | with_reducible exact H | (rw [hy385]; exact H) | exact H
       have Ny385 := aK_ hy385
       clear hy385
       have H' := aK_ H
       clear H
       have p382 : 0 ≤ (x9_1 : Int) := of_decide_eq_true (by first | (with_reducible assumption) | assumption)
       have q382 : x9_1 < (l0_1.length : Int) := of_decide_eq_true (by first | (with_reducible assumption) | assumption)
       obtain ⟨ad382, e382, hx382_0, hx382_1, hx382_2⟩ := at_T53 HR0_1.out x9_1 p382 q382
       cases e382
       replace hx382_0 := (HB.out.cell (wb_ w _ hx382_0)).trans hx382_0
       replace hx382_1 := (HB.out.cell (wb_ w _ hx382_1)).trans hx382_1
       replace hx382_2 := (HB.out.cell (wb_ w _ hx382_2)).trans hx382_2
       replace p382 := eq_true p382
       replace q382 := eq_true q382
       go_wp2_with (first | ((with_reducible refine gate_dst (N := 5) rfl ?_); refine box_event ?hg (N := 5) ?hd (cs := #[.int .i64 0, .string (⟨#[]⟩ : ByteArray), .int .i64 0]) (t := 53) ?hr ?_; (case hd => rfl); (case hg => rfl); (case hr => first | (go_simp; done) | (go_simp; rfl)); intro gb383 hg w9 hbox hb; have n0_ := aK_ (Kd.R_below (by (with_reducible repeat (first | apply Kd.R_alloc | apply Kd.R_drewN | apply Kd.R_drew)); exact HO_3.out) hb); have n1_ := aK_ (bB (by (with_reducible repeat (first | refine bDN ?_ _ | refine bD ?_ | refine bA ?_ _)); exact BK381.out) hb); have n2_ := aK_ (lT_ (by repeat (first | (with_reducible first | exact HB.out | apply lA_ | apply pD | apply lD_ | refine lS_ ?_ GE381.out) | exact HB.out)) hb); have n3_ := aK_ (hbox); have n4_ := aK_ ((by rw [hg]; exact (lZ_ (by repeat (first | (with_reducible first | exact HB.out | apply lA_ | apply pD | apply lD_ | refine lS_ ?_ GE381.out) | exact HB.out))) : w.heap.size ≤ gb383)); have n5_ := aK_ ((by rw [hg]; exact (lZ_ (by repeat (first | (with_reducible first | exact HB.out | apply lA_ | apply pD | apply lD_ | refine lS_ ?_ GE381.out) | exact HB.out))) : w.heap.size ≤ gb383)); have n6_ := aK_ ((by rw [hg]; exact Nat.ne_of_lt (blk_lt (g := gb381) (o := .cells #[.string a0_0, .slice (some ad382) l0_1.length c0_1] 39 (0, 0)) (by (with_reducible repeat (first | refine bDN ?_ _ | refine bD ?_ | refine bA ?_ _)); exact BK381.out)) : gb381 ≠ gb383)); have n7_ := aK_ ((by rw [hg]; exact Nat.ne_of_gt (blk_lt (g := gb381) (o := .cells #[.string a0_0, .slice (some ad382) l0_1.length c0_1] 39 (0, 0)) (by (with_reducible repeat (first | refine bDN ?_ _ | refine bD ?_ | refine bA ?_ _)); exact BK381.out)) : gb383 ≠ gb381)); clear HO_3; clear BK381; clear HB; have HO_3 := n0_; have BK381 := n1_; have HB := n2_; have BK383 := n3_; have GW383 := n4_; have GE383 := n5_; have NB381_383 := n6_; have NB383_381 := n7_; clear n0_ n1_ n2_ n3_ n4_ n5_ n6_ n7_; clear hb hbox hg; have hnb10 := NB383_381.out; have hnc10 := NB381_383.out; have hcz11_0 : w9.cell? ⟨gb383, 0, none⟩ = some (.int .i64 0) := (bC BK383.out 0).trans rfl; have hcz11_1 : w9.cell? ⟨gb383, 1, none⟩ = some (.string (⟨#[]⟩ : ByteArray)) := (bC BK383.out 1).trans rfl; have hcz11_2 : w9.cell? ⟨gb383, 2, none⟩ = some (.int .i64 0) := (bC BK383.out 2).trans rfl; have hfz11_0 := bF BK383.out 0; have hfz11_1 := bF BK383.out 1; have hfz11_2 := bF BK383.out 2) | ((with_reducible refine gate_callee (f := 44) rfl ?_); refine goesL_ (some 15) rfl rfl Tryd.func44 (by kernel_rfl) rfl #[.agg #[.int .i64 ((rd_T53 l0_1 x9_1).f0), .string ((rd_T53 l0_1 x9_1).f1), .int .i64 ((rd_T53 l0_1 x9_1).f2)]] rfl (by (try simp only [List.map_toArray, List.map_cons, List.map_nil]); first | done | rfl | (simp only [List.length_drop, List.length_take]; rfl)) ?_; (with_reducible refine (syntax_Term_String.calls k1 ((rd_T53 l0_1 x9_1).f0) ((rd_T53 l0_1 x9_1).f1) ((rd_T53 l0_1 x9_1).f2) t384 _ A7.out ?hGl).mono ?_); (case hGl => exact tab_below hG (by repeat (first | (with_reducible first | exact HB.out | apply lA_ | apply pD | apply lD_ | refine lS_ ?_ GE381.out | refine lS_ ?_ GE383.out) | exact HB.out))); rintro e w12 ⟨rfl, hb⟩; refine ⟨_, rfl, ?_⟩; have n0_ := aK_ (Kd.R_below (by (with_reducible repeat (first | apply Kd.R_alloc | apply Kd.R_drewN | apply Kd.R_drew)); exact (Kd.R_mono (Kd.R_far (p := ⟨gb383, 2, none⟩) (Kd.R_far (p := ⟨gb383, 1, none⟩) (Kd.R_far (p := ⟨gb383, 0, none⟩) (Kd.R_types HO_3.out BK383.out (by decide)) (fun _ hk => hk.2) (.int .i64 ((rd_T53 l0_1 x9_1).f0))) (fun _ hk => hk.2) (.string ((rd_T53 l0_1 x9_1).f1))) (fun _ hk => hk.2) (.int .i64 ((rd_T53 l0_1 x9_1).f2))) (fun _ h_ => h_.1))) hb); have n1_ := aK_ (bB (g := gb381) (o := .cells #[.string a0_0, .slice (some ad382) l0_1.length c0_1] 39 (0, 0)) (by (with_reducible repeat (first | refine bDN ?_ _ | refine bD ?_ | refine bA ?_ _)); refine blk_far ?_ NB381_383.out _; (with_reducible repeat (first | refine bDN ?_ _ | refine bD ?_ | refine bA ?_ _)); refine blk_far ?_ NB381_383.out _; (with_reducible repeat (first | refine bDN ?_ _ | refine bD ?_ | refine bA ?_ _)); refine blk_far ?_ NB381_383.out _; (with_reducible repeat (first | refine bDN ?_ _ | refine bD ?_ | refine bA ?_ _)); exact BK381.out) hb); have n2_ := aK_ (bB (g := gb383) (o := .cells #[.int .i64 ((rd_T53 l0_1 x9_1).f0), .string ((rd_T53 l0_1 x9_1).f1), .int .i64 ((rd_T53 l0_1 x9_1).f2)] 53 (0, 0)) ((by apply eC_; (with_reducible repeat (first | refine bDN ?_ _ | refine bD ?_ | refine bA ?_ _)); apply b2_; (with_reducible repeat (first | refine bDN ?_ _ | refine bD ?_ | refine bA ?_ _)); apply b2_; (with_reducible repeat (first | refine bDN ?_ _ | refine bD ?_ | refine bA ?_ _)); apply b2_; (with_reducible repeat (first | refine bDN ?_ _ | refine bD ?_ | refine bA ?_ _)); exact BK383.out; kernel_rfl)) hb); have n3_ := aK_ (lT_ (by repeat (first | (with_reducible first | exact HB.out | apply lA_ | apply pD | apply lD_ | refine lS_ ?_ GE381.out | refine lS_ ?_ GE383.out) | exact HB.out)) hb); clear HO_3; clear BK381; clear BK383; clear HB; have HO_3 := n0_; have BK381 := n1_; have BK383 := n2_; have HB := n3_; clear n0_ n1_ n2_ n3_; (try clear hb); (try clear hb2); (try clear hk); (try clear hi)) | ((with_reducible refine gate_builtin (b := .append) (xs := #[.tmp 13, .tmp 16]) rfl ?_); at_builtin; refine Kd.R_append Kd.string (w0 := w) w.heap.size rfl (.tmp 13) (.tmp 16) 45 9 (.string ⟨#[]⟩) 16 rfl Tryd.underlying45 info9 rfl (by decide) (by omega) u3 x3_1 t384 [.string t384] (fun _ => True) (fun _ => False) rfl rfl ?aP (fun _ hk => hk.elim) ?aF ?aO ?aB ?aS ?aL ?_; (case aP => exact rfl); (case aB => exact (by repeat (first | (with_reducible first | exact HB.out | apply lA_ | apply pD | apply lD_ | refine lS_ ?_ GE381.out | refine lS_ ?_ GE383.out) | exact HB.out))); (case aF => exact (fun _ _ => trivial)); (case aO => exact (by (with_reducible repeat (first | apply Kd.R_alloc | apply Kd.R_drewN | apply Kd.R_drew)); exact HO_3.out)); (case aS => exact (lZ_ (by repeat (first | (with_reducible first | exact HB.out | apply lA_ | apply pD | apply lD_ | refine lS_ ?_ GE381.out | refine lS_ ?_ GE383.out) | exact HB.out)))); (case aL => have := LMc8.out; omega); intro v386 w13 ho hb hg hat; rw [← Ny385.out] at ho; have n0_ := aK_ (bG_ (g := gb381) (o := .cells #[.string a0_0, .slice (some ad382) l0_1.length c0_1] 39 (0, 0)) (by (with_reducible repeat (first | refine bDN ?_ _ | refine bD ?_ | refine bA ?_ _)); exact BK381.out) hg (Kd.R_ne HO_3.out BK381.out (by decide))); have n1_ := aK_ (bG_ (g := gb383) (o := .cells #[.int .i64 ((rd_T53 l0_1 x9_1).f0), .string ((rd_T53 l0_1 x9_1).f1), .int .i64 ((rd_T53 l0_1 x9_1).f2)] 53 (0, 0)) (by (with_reducible repeat (first | refine bDN ?_ _ | refine bD ?_ | refine bA ?_ _)); exact BK383.out) hg (Kd.R_ne HO_3.out BK383.out (by decide))); have n2_ := aK_ (hb); have n3_ := aK_ (ho); clear BK381; clear BK383; clear HB; clear HO_3; have BK381 := n0_; have BK383 := n1_; have HB := n2_; have HO387 := n3_; clear n0_ n1_ n2_ n3_; clear ho hb hg hat))
       go_roundg k1
       case measure => have := HK1.out; omega
       case rel => exact ⟨(y385), (wrap64 (x9_1 + 1)), (by first | rfl | (simp; done) | (simp [*]; done)), H', ⟨by have := HK1.out; omega⟩, ⟨by (with_reducible repeat (first | apply Kd.R_alloc | apply Kd.R_drewN | apply Kd.R_drew)); exact HO387.out⟩, ⟨by (with_reducible repeat (first | refine bDN ?_ _ | refine bD ?_ | refine bA ?_ _)); exact BK381.out⟩, ⟨by repeat (first | (with_reducible first | exact HB.out | apply lA_ | apply pD | apply lD_ | refine lS_ ?_ GE381.out | refine lS_ ?_ GE383.out) | exact HB.out)⟩⟩
      ·rw [if_neg c8] at H
       exact absurd H (by simp)
     ·rw [if_neg c6] at H
      exact absurd H (by simp)
    ·rw [if_neg c5] at H
     exact absurd H (by simp)
   ·rw [if_neg c4] at H
    have c4b0 : decide (x9_1 < (l0_1.length : Int)) = false := decide_eq_false c4
    clear c4
    by_cases c14 : a0_0.size + 1 ≤ 9223372036854775807
    ·rw [if_pos c14] at H
     have c14b0 := eq_true c14
     have c14b1 : decide (a0_0.size + 1 ≤ 9223372036854775807) = true := decide_eq_true c14
     try have c14b2 : (9223372036854775807 < a0_0.size + 1) = False := eq_false (Nat.not_lt.2 c14)
     replace H := Option.bind_eq_some_iff.mp H
     obtain ⟨t388, A150, H⟩ := H
     replace H : (if (a0_0 ++ (⟨#[40]⟩ : ByteArray)).size + t388.size ≤ 9223372036854775807 then (if ((a0_0 ++ (⟨#[40]⟩ : ByteArray)) ++ t388).size + 1 ≤ 9223372036854775807 then (some (((a0_0 ++ (⟨#[40]⟩ : ByteArray)) ++ t388) ++ (⟨#[41]⟩ : ByteArray))) else (none)) else (none)) = some r := H
     have A15 := aK_ A150
     clear A150
     by_cases c16 : (a0_0 ++ (⟨#[40]⟩ : ByteArray)).size + t388.size ≤ 9223372036854775807
     ·rw [if_pos c16] at H
      have c16b0 := eq_true c16
      have c16b1 : decide ((a0_0 ++ (⟨#[40]⟩ : ByteArray)).size + t388.size ≤ 9223372036854775807) = true := decide_eq_true c16
      try have c16b2 : (9223372036854775807 < (a0_0 ++ (⟨#[40]⟩ : ByteArray)).size + t388.size) = False := eq_false (Nat.not_lt.2 c16)
      try have c16b4 : (9223372036854775807 < a0_0.size + 1 + t388.size) = False := eq_false (Nat.not_lt.2 (by have h9 := c16; simp only [ByteArray.size_append] at h9; exact h9))
      by_cases c17 : ((a0_0 ++ (⟨#[40]⟩ : ByteArray)) ++ t388).size + 1 ≤ 9223372036854775807
      ·rw [if_pos c17] at H
       have c17b0 := eq_true c17
       have c17b1 : decide (((a0_0 ++ (⟨#[40]⟩ : ByteArray)) ++ t388).size + 1 ≤ 9223372036854775807) = true := decide_eq_true c17
       try have c17b2 : (9223372036854775807 < ((a0_0 ++ (⟨#[40]⟩ : ByteArray)) ++ t388).size + 1) = False := eq_false (Nat.not_lt.2 c17)
       try have c17b4 : (9223372036854775807 < a0_0.size + 1 + t388.size + 1) = False := eq_false (Nat.not_lt.2 (by have h9 := c17; simp only [ByteArray.size_append] at h9; exact h9))
       obtain rfl := Option.some.inj H
       try go_wp2
       have n0_ := aK_ (Kd.R_drew HO_3.out)
       have n1_ := aK_ (bD BK381.out)
       have n2_ := aK_ (lD_ HB.out)
       clear HO_3
       clear BK381
       clear HB
       have HO_3 := n0_
       have BK381 := n1_
       have HB := n2_
       clear n0_ n1_ n2_
       obtain ⟨Ao19, co19, eo19⟩ := Kd.R_slice HO_3.out
       (first | subst eo19 | (injection eo19 with f1_ f2_ f3_; have f4_ := f1_.symm; have f5_ := f3_.symm; clear f1_ f2_ f3_; subst f4_; subst f5_))
       refine start_ (n := 8) (S := fun w' => w'.cell? ⟨gb381, 0, none⟩ = some (.string a0_0) ∧ w'.cell? ⟨gb381, 1, none⟩ = some (.slice A0_1 l0_1.length c0_1)) (ds := []) #[false, false, false, false, false, false, false, false] (by kernel_rfl) rfl rfl ⟨(bC BK381.out 0).trans rfl, (bC BK381.out 1).trans rfl⟩ (fun hHeld => ?_); refine with_tabW syntax_Atom_String.tab7 syntax_Atom_String.bits7 (fun HT_ HW_ => ?_)
       generalize wr.drew = w18 at HO_3 BK381 HB hHeld ⊢
       refine pure_ (i := 0) (N := some 19) (v := ?_) (a' := ?_) #[true, false, false, false, false, false, false, false] rfl rfl (any_of HT_.out (by kernel_rfl)) (fun _ _ _ h => h) (Or.inl ⟨by rfl, ?_⟩) ?_ ?_
       rotate_left
       ·intro w'
        go_simp
        with_reducible rfl
       rotate_left
       ·simp only [Act.put, sA_, sZ_, sS_, i64_w, i32_w]
        rfl
       refine pure_ (i := 3) (N := some 22) (v := ?_) (a' := ?_) #[true, false, false, true, false, false, false, false] rfl rfl (any_of HT_.out (by kernel_rfl)) (fun _ _ _ h => h) (Or.inl ⟨by rfl, ?_⟩) ?_ ?_
       rotate_left
       ·intro w'
        go_simp
        with_reducible rfl
       rotate_left
       ·simp only [Act.put, sA_, sZ_, sS_, i64_w, i32_w]
        rfl
       refine take_ (i := 1) (N := some 20) (v := ?_) (a' := ?_) #[true, true, false, true, false, false, false, false] rfl rfl (take_ofW HT_.out HW_.out (by kernel_rfl)) (fun _ _ _ h => h) (Or.inl ⟨by rfl, ?_⟩) hHeld ?_ ?_
       rotate_left
       ·rintro w' ⟨s0, s1⟩
        go_simp
        with_reducible rfl
       rotate_left
       ·simp only [Act.put, sA_, sZ_, sS_, i64_w, i32_w]
        rfl
       refine pure_ (i := 2) (N := some 21) (v := ?_) (a' := ?_) #[true, true, true, true, false, false, false, false] rfl rfl (any_of HT_.out (by kernel_rfl)) (fun _ _ _ h => h) (Or.inl ⟨by rfl, ?_⟩) ?_ ?_
       rotate_left
       ·intro w'
        go_simp
        with_reducible rfl
       rotate_left
       ·simp only [Act.put, sA_, sZ_, sS_, i64_w, i32_w]
        rfl
       refine one_ (i := 4) (N := some 23) #[true, true, true, true, true, false, false, false] rfl rfl (one_of HT_.out (by kernel_rfl)) (by decide) (fun K hK => ?_)
       refine goes_ Tryd.func46 (by kernel_rfl) rfl #[.slice Ao19 x3_1.length co19, .string (⟨#[44]⟩ : ByteArray)] (by rfl) rfl rfl (by (try simp only [List.map_toArray, List.map_cons, List.map_nil]); first | done | rfl | (simp only [List.length_drop, List.length_take]; rfl)) ?_
       with_reducible refine (strings_Join.calls _ _ x3_1 (⟨#[44]⟩ : ByteArray) t388 _ ?side1 ?side2 A15.out).mono ?_
       (case side1 => repeat (first | exact (Kd.R_reads' HO_3.out).2.2 | (with_reducible refine Kd.C_alloc ?_ _) | (with_reducible refine Kd.C_drewN ?_ _) | (with_reducible refine Kd.C_drew ?_)))
       (case side2 => exact (Kd.R_reads' HO_3.out).2.1)
       rintro e w20 ⟨rfl, hb⟩
       refine ⟨_, rfl, ?_⟩
       have n0_ := aK_ (Kd.R_below (by (with_reducible repeat (first | apply Kd.R_alloc | apply Kd.R_drewN | apply Kd.R_drew)); exact HO_3.out) hb)
       have n1_ := aK_ (bB (by (with_reducible repeat (first | refine bDN ?_ _ | refine bD ?_ | refine bA ?_ _)); exact BK381.out) hb)
       have n2_ := aK_ (lT_ (by repeat (first | (with_reducible first | exact HB.out | apply lA_ | apply pD | apply lD_ | refine lS_ ?_ GE381.out) | exact HB.out)) hb)
       clear HO_3
       clear BK381
       clear HB
       have HO_3 := n0_
       have BK381 := n1_
       have HB := n2_
       clear n0_ n1_ n2_
       (try clear hb)
       (try clear hb2)
       (try clear hk)
       (try clear hi)
       refine hK.out _ _ ⟨(bC BK381.out 0).trans rfl, (bC BK381.out 1).trans rfl⟩ (fun hHeld => ?_)
       clear hK K
       refine norm_ (a' := ?_) ?_ ?_
       rotate_left
       ·show Act.put _ (some 23) _ = _
        simp only [Act.put, sA_, sZ_, sS_, i64_w, i32_w]
        rfl
       refine pure_ (i := 5) (N := some 24) (v := ?_) (a' := ?_) #[true, true, true, true, true, true, false, false] rfl rfl (any_of HT_.out (by kernel_rfl)) (fun _ _ _ h => h) (Or.inl ⟨by rfl, ?_⟩) ?_ ?_
       rotate_left
       ·intro w'
        go_simp
        with_reducible rfl
       rotate_left
       ·simp only [Act.put, sA_, sZ_, sS_, i64_w, i32_w]
        rfl
       refine pure_ (i := 6) (N := some 25) (v := ?_) (a' := ?_) #[true, true, true, true, true, true, true, false] rfl rfl (any_of HT_.out (by kernel_rfl)) (fun _ _ _ h => h) (Or.inl ⟨by rfl, ?_⟩) ?_ ?_
       rotate_left
       ·intro w'
        go_simp
        with_reducible rfl
       rotate_left
       ·simp only [Act.put, sA_, sZ_, sS_, i64_w, i32_w]
        rfl
       refine pure_ (i := 7) (N := some 2) (v := ?_) (a' := ?_) #[true, true, true, true, true, true, true, true] rfl rfl (any_of HT_.out (by kernel_rfl)) (fun _ _ _ h => h) (Or.inl ⟨by rfl, ?_⟩) ?_ ?_
       rotate_left
       ·intro w'
        go_simp
        with_reducible rfl
       rotate_left
       ·simp only [Act.put, sA_, sZ_, sS_, i64_w, i32_w]
        rfl
       refine done_ (done_of HT_.out (by kernel_rfl)) ?_
       try go_wp2
       go_ret
       exact ⟨by first | rfl | (simp [errW_none, errW_some] <;> rfl) | (simp [*, errW_none, errW_some] <;> rfl), by repeat (first | (with_reducible first | exact HB.out | apply lA_ | apply pD | apply lD_ | refine lS_ ?_ GE381.out) | exact HB.out)⟩
      ·rw [if_neg c17] at H
       exact absurd H (by simp)
     ·rw [if_neg c16] at H
      exact absurd H (by simp)
    ·rw [if_neg c14] at H
     exact absurd H (by simp)
def syntax_level.f (a0 : Int) : Option (Int) := if a0 = 0 then (some 0) else (if a0 = 1 then (some 0) else (some 1))
set_option maxHeartbeats 8000000 in
set_option maxRecDepth 100000 in
theorem syntax_level.calls (a0 : Int) (r : Int) (w : World) (h : syntax_level.f a0 = some r) :
  Calls Tryd.prog 108 #[.int .i64 a0] w fun e w' => e = .returned (.int .i64 r) ∧ Drawn0 w w' := by
 have H : (if a0 = 0 then (some 0) else (if a0 = 1 then (some 0) else (some 1))) = some r := h
 clear h
 by_cases c2 : a0 = 0
 ·rw [if_pos c2] at H
  have c2b0 : (a0 == 0) = true := beq_iff_eq.mpr c2
  have c2b1 : (a0 != 0) = false := bne_eq_false_iff_eq.mpr c2
  clear c2
  obtain rfl := Option.some.inj H
  go_enter Tryd.func108, Tryd.ntmps108
  go_wp2
  go_ret
  exact ⟨by first | rfl | (simp; done) | (simp [*]; done), by repeat (first | exact Drawn0.refl _ | apply Drawn0.step)⟩
 ·rw [if_neg c2] at H
  have c2b0 : (a0 == 0) = false := beq_eq_false_iff_ne.mpr c2
  have c2b1 : (a0 != 0) = true := bne_iff_ne.mpr c2
  by_cases c3 : a0 = 1
  ·rw [if_pos c3] at H
   have c3b0 : (a0 == 1) = true := beq_iff_eq.mpr c3
   have c3b1 : (a0 != 1) = false := bne_eq_false_iff_eq.mpr c3
   clear c3
   obtain rfl := Option.some.inj H
   go_enter Tryd.func108, Tryd.ntmps108
   go_wp2
   go_ret
   exact ⟨by first | rfl | (simp; done) | (simp [*]; done), by repeat (first | exact Drawn0.refl _ | apply Drawn0.step)⟩
  ·rw [if_neg c3] at H
   have c3b0 : (a0 == 1) = false := beq_eq_false_iff_ne.mpr c3
   have c3b1 : (a0 != 1) = true := bne_iff_ne.mpr c3
   obtain rfl := Option.some.inj H
   go_enter Tryd.func108, Tryd.ntmps108
   go_wp2
   go_ret
   exact ⟨by first | rfl | (simp; done) | (simp [*]; done), by repeat (first | exact Drawn0.refl _ | apply Drawn0.step)⟩
end Go.Proofs.YtdbpboipiceifaaDoorPSP
