import Derived.Test.YtjlnpdpkobpkiaaZ2Evw
import Derived.Test.YtjlnpdpkobpkiaaZ2OpS
import Derived.Test.YtjlnpdpkobpkiaaZ2Lib
import Derived.ProofKit
import Derived.OpenShut
import Derived.ShutString
import Derived.ChangeOld
import Derived.SizedLaws
import Derived.SliceStrings
import Derived.ChangeSlices
set_option linter.unusedVariables false
namespace Go.Proofs.Ytjlnpdpkobpkiaa
open Go Go.Deep Go.ChangeShapes Go.WideShapes Go.RowKit Go.Proofs.YtjlnpdpkobpkiaaPSP Go.Proofs.YtjlnpdpkobpkiaaW.PrintWords
theorem opensR {n : Nat} : OpensAt Try.prog n 46 k46.K Mk.RlN := Mk.opensR
abbrev zeroR : Value := .agg #[.int .i64 0, .slice none 0 0, .int .i64 0, .slice none 0 0]
theorem SafeEach_row {w : World} {r : Mk.RlM} {c0 : Array Value} (R0 : k46.K w r c0.toList) (o0 : Mk.RlN r) : Calls Try.prog 4 #[.agg c0] w (fun e w' => e = .returned (.bool true) ∧ Below w.heap.size w w') := by
 obtain ⟨A1, c1, A3, c3, h, l1, g1, l3, g3⟩ := k46_open R0
 obtain rfl : c0 = _ := by rw [← Array.toArray_toList (xs := c0), h]
 exact Each_any r.f0.f0 r.f1 r.f0.f1 r.f2 o0 g1 l1 g3 l3
end Go.Proofs.Ytjlnpdpkobpkiaa
/- SafeEach: in the order that safe.Order tells each part is done once and has known what it needs; for any rule that is made. -/
namespace Go.Proofs.Ytjlnpdpkobpkiaa.lawSafeEach
open Go.ChangeShapes Go.WideShapes Go.ChangeAt Go.RowKit
open Go.ChangeMaps (open_string shut_string)
set_option linter.unusedVariables false
theorem own : ownKnob Try.prog.godebug = none := by kernel_rfl
theorem laidOut : laidOutB Try.prog = true := by kernel_rfl
set_option maxRecDepth 100000 in
theorem lifted (os : Os) (started : os.Started) (H : Type) (enc : TypeId × Value → H) :
  ReturnsInHanded {} Try.checked os 4 .any (Rows.safeEachSpec.pre6 enc Try.prog Try.f4 Rows.safeEachRow.domain false) (Rows.safeEachSpec.post enc Try.prog Try.f4 false true false false) := by
 refine returnsInHanded_of_change_sized (C := Try.checked) own started (by kernel_rfl) Try.func4
  (ChangeSpec.witness6 (enc := enc) (C := Try.checked) false ⟨#[], #[zeroR], []⟩ 8 (by kernel_rfl) (by kernel_rfl) (by kernel_rfl) (by kernel_rfl)) ?_
 intro W base args ds gs before hval0 hW hcnd hsz0 _
 have hsz : (DataW.weightsEach Try.prog (Try.f4.params.toList ++ Rows.safeEachSpec.plain.varTypes Try.prog) (ds ++ gs)).all (· ≤ reachBytes) = true := hsz0
 have hval : ∀ (j : Nat) t v, Try.f4.params[j]? = some t → args[j]? = some v → Value.okWide Try.prog W .any base t v := hval0
 have hW' := hW
 obtain ⟨p, q, hA0, hV, rfl, hfz, hnd⟩ := hW
 have hA : DataW.TrodAll enc Try.prog W 0 (fun _ => true) true Try.f4.params.toList args.toList ds p := hA0
 rw [Try.params4] at hA hval hsz
 obtain ⟨v0, vs0, d0, ds0, p0, q0, hargs, rfl, rfl, h0, r0⟩ := trodAll_cons hA
 obtain ⟨rfl, rfl, rfl⟩ := trodAll_nil r0
 obtain rfl : args = #[v0] := by cases args; simp_all
 obtain ⟨rfl, rfl⟩ := trodVars_none hV
 obtain ⟨cs0, rfl, _⟩ := okWide_struct Try.underlying46 (hval 0 46 v0 rfl rfl)
 have k0 := h0
 have lt0 : ∀ x ∈ p0, x.block < W.heap.size := by obtain ⟨m, hm⟩ := k0; exact DataW.trod_lt m _ _ _ hm
 obtain ⟨fuel0, hf0⟩ := h0
 obtain ⟨x0, R0, o0⟩ := opensR (Nat.le_refl _) hf0
 clear hA0 hval0 hsz0 hsz
 refine (SafeEach_row R0 o0).mono fun e W' ⟨he, bel⟩ => ?_
 subst he
 exact ⟨_, rfl, _, _, _, [], _, [], hW', trodAll_mk1 (shut_bool Try.underlying4 _), (trodAll_cons_mk (Below.trod laidOut (by kernel_rfl) (of_decide_eq_true (by kernel_rfl)) k0 bel lt0) trodAll_mk0), rfl, bel.frame _, fun h => by cases h⟩
theorem over : Rows.safeEachRow.holds Try.pinned (OpenSpec.ofChange Rows.safeEachSpec) :=
 OpenClaim.holds_of_wide 4 Try.f4 rfl rfl rfl rfl rfl rfl rfl ⟨rfl, rfl, rfl, rfl, rfl⟩ rfl rfl rfl rfl rfl (by kernel_rfl) Try.func4 (by kernel_rfl)
  (of_decide_eq_true (by kernel_rfl)) (by unfold Func.isWrapper; first | (rw [if_pos (by decide +kernel)]; kernel_rfl) | (rw [if_neg (by decide +kernel)]; exact ⟨rfl, rfl⟩))
  (fun os started H enc _ => lifted os started H enc)
theorem proved : Rows.SafeEachSaid := over
end Go.Proofs.Ytjlnpdpkobpkiaa.lawSafeEach
