import Derived.Test.YtdbpboipiceifaaDoorZ1LexU
set_option linter.unusedVariables false
set_option linter.unusedSimpArgs false
namespace Go.Proofs.YtdbpboipiceifaaDoor
open Go.RowKit
theorem OutPost.shape {w w' : World} {b : Nat} {s : ByteArray} {o : Out} {e : Ending} (h : OutPost w b s o e w') : ∃ k t n a err, e = .returned (.tuple #[tokV k t n a, err]) := by
  cases o with
  | tok k t n p r => exact ⟨_, _, _, _, _, h.1⟩
  | bad tag p => obtain ⟨f, what, he, _⟩ := h; exact ⟨_, _, _, _, _, he⟩
theorem OutPost.up {w wa w1 w2 : World} {b : Nat} {s : ByteArray} {o : Out} {e : Ending} (h : OutPost wa b s o e w1) (hf : Fr (fun i => i = b) w wa) (hsz : w.heap.size < wa.heap.size) (hb : b < w.heap.size)
    (h2 : Fr (fun i => i = w.heap.size) w1 w2) : OutPost w b s o e w2 := by
  cases o with
  | tok k t n p r =>
    obtain ⟨he, j, hj, hr, hR, hF⟩ := h
    exact ⟨he, j, hj, hr, hR.keep h2 (show ¬ b = _ by omega), (hf.trans hF (fun _ _ h => h)).trans h2 (fun i hi h => by omega)⟩
  | bad tag p =>
    obtain ⟨f, what, he, hlf, hA, hF⟩ := h
    exact ⟨f, what, he, by omega, hA.keep h2 (show ¬ f = _ by omega), (hf.trans hF (fun _ _ h => h)).trans h2 (fun i hi h => by omega)⟩
theorem OutPost.fr {w w' : World} {b : Nat} {s : ByteArray} {o : Out} {e : Ending} (h : OutPost w b s o e w') : Fr (fun i => i = b) w w' := by
  cases o with
  | tok k t n p r => exact h.2.choose_spec.2.2.2
  | bad tag p => obtain ⟨f, what, he, hlf, hA, hF⟩ := h; exact hF
end Go.Proofs.YtdbpboipiceifaaDoor
