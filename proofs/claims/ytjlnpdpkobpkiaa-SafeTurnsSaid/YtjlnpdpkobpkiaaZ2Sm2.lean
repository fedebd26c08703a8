import Derived.Test.YtjlnpdpkobpkiaaZ2Prv
import Derived.Test.YtjlnpdpkobpkiaaZ2PSPx2
import Derived.Test.YtjlnpdpkobpkiaaZ2Pr15a
import Derived.Test.YtjlnpdpkobpkiaaZ2W1
import Derived.Test.YtjlnpdpkobpkiaaZ2Rq16
set_option linter.unusedVariables false
set_option linter.unusedSimpArgs false
namespace Go.Proofs.YtjlnpdpkobpkiaaPSP
open Go.RowKit Go.Extern.Stop Go.Stop Go.Extern Go.Proofs.YtjlnpdpkobpkiaaW.PrintWords Go.Proofs.Ytjlnpdpkobpkiaa
attribute [local go_sem high] eqA61
structure SrOk (w : World) (a b : Obj) (wr : World) : Prop where
 ka : wr.heap[w.heap.size]? = some a
 kb : wr.heap[w.heap.size + 1]? = some b
 be : Below w.heap.size w wr
theorem SrOk.step {w wr w' : World} {a b : Obj} (h : SrOk w a b wr) (hb : Below wr.heap.size wr w') : SrOk w a b w' :=
 ⟨bB h.ka hb, bB h.kb hb, lT_ h.be hb⟩
end Go.Proofs.YtjlnpdpkobpkiaaPSP
set_option linter.unusedVariables false
set_option linter.unusedSimpArgs false
namespace Go.Proofs.YtjlnpdpkobpkiaaPSP
open Go.RowKit Go.Extern.Stop Go.Stop Go.Extern Go.Proofs.YtjlnpdpkobpkiaaW.PrintWords Go.Proofs.Ytjlnpdpkobpkiaa
def zR : Rl := ⟨zA, 0, [], 0⟩
structure SmOk (w : World) (a b : Nat) (oa ob : Obj) (wr : World) : Prop where
 ka : wr.heap[a]? = some oa
 kb : wr.heap[b]? = some ob
 be : Below w.heap.size w wr
theorem SmOk.step {w wr w' : World} {a b : Nat} {oa ob : Obj} (h : SmOk w a b oa ob wr) (hb : Below wr.heap.size wr w') : SmOk w a b oa ob w' := ⟨bB h.ka hb, bB h.kb hb, lT_ h.be hb⟩
end Go.Proofs.YtjlnpdpkobpkiaaPSP
