import Derived.Test.YtbcmkkphbkpapaaDoorZ1LexH
set_option linter.unusedVariables false
set_option linter.unusedSimpArgs false
namespace Go.Proofs.YtbcmkkphbkpapaaDoor
open Go.RowKit
theorem TksAt.keep {F : Nat → Prop} {w w' : World} {g sz : Nat} {ts : List Tk} (h : TksAt w g sz ts) (hf : Fr F w w') (hg : ¬ F g) : TksAt w' g sz ts := by
  intro i t ht
  obtain ⟨h0, h1, h2, h3⟩ := h i t ht
  exact ⟨hf.cell h0 hg, hf.cell h1 hg, hf.cell h2 hg, hf.cell h3 hg⟩
end Go.Proofs.YtbcmkkphbkpapaaDoor
