import Derived.Test.YtdbpboipiceifaaDoorZ1LexC
import Derived.Test.YtdbpboipiceifaaDoorZ1Build
set_option linter.unusedVariables false
set_option linter.unusedSimpArgs false
namespace Go.Proofs.YtdbpboipiceifaaDoor
open Go.RowKit
theorem IsB.keep {F : Nat → Prop} {w w' : World} {B b : Nat} {bs : List Value} (h : IsB B b bs w) (hf : Fr F w w') (hF : ∀ i, F i → i < B) : IsB B b bs w' := by
  have key : ∀ p, Lib.BuilderAt 96 5 B b p bs w → Lib.BuilderAt 96 5 B b p bs w' := by
    rintro p ⟨hB, v, hb, hown, hne⟩
    refine ⟨hB, v, (hf.block b (blk_lt hb) (fun f => by have := hF b f; omega)).trans hb, hf.own hown (fun g hg f => ?_), hne⟩
    have := hF g f
    have := (own_lt hown g hg).2
    omega
  rcases h with h | h
  · exact .inl (key _ h)
  · exact .inr (key _ h)
theorem IsB.fresh {w : World} {b B : Nat} (hB : B ≤ b) (h : w.heap[b]? = some (.cells #[.pointer none, .slice none 0 0] 96 (0, 0))) : IsB B b [] w :=
  .inl ⟨hB, _, h, own_nil w B _ _, by simp [Value.ownBlock]⟩
end Go.Proofs.YtdbpboipiceifaaDoor
