import Derived.Test.YtdbpboipiceifaaDoorZ1LexU
set_option linter.unusedVariables false
set_option linter.unusedSimpArgs false
namespace Go.Proofs.YtdbpboipiceifaaDoor
open Go.RowKit
theorem OutPost.shape {w w' : World} {b : Nat} {s : ByteArray} {o : Out} {e : Ending} (h : OutPost w b s o e w') : ∃ k t n a err, e = .returned (.tuple #[tokV k t n a, err]) := by
  cases o with
  | tok k t n p r => exact ⟨_, _, _, _, _, h.1⟩
  | bad tag p => obtain ⟨f, what, he, _⟩ := h; exact ⟨_, _, _, _, _, he⟩
theorem OutPost.fr {w w' : World} {b : Nat} {s : ByteArray} {o : Out} {e : Ending} (h : OutPost w b s o e w') : Fr (fun i => i = b) w w' := by
  cases o with
  | tok k t n p r => exact h.2.choose_spec.2.2.2
  | bad tag p => obtain ⟨f, what, he, hlf, hA, hF⟩ := h; exact hF
end Go.Proofs.YtdbpboipiceifaaDoor
