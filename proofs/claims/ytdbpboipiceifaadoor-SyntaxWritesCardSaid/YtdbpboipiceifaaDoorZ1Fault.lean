import Derived.Test.YtdbpboipiceifaaDoorZ1As
set_option linter.unusedVariables false
set_option linter.unusedSimpArgs false
namespace Go.Proofs.YtdbpboipiceifaaDoor
open Go.RowKit
def FaultAt (w : World) (b : Nat) (tag at_ : Int) (what : ByteArray) (err : Value) : Prop := w.heap[b]? = some (.cells #[.int .i64 tag, .int .i64 at_, .string what, err] 122 (0, 0))
abbrev faultV (b : Nat) : Value := .iface 118 (.pointer (some ⟨b, 0, none⟩))
theorem ErrT.below {w w' : World} (h : ErrT w) (hb : Below w.heap.size w w') : ErrT w' := (hb.cell h.lt).trans h
theorem FaultAt.below {w w' : World} {b : Nat} {tag at_ : Int} {what : ByteArray} {err : Value} (h : FaultAt w b tag at_ what err) (hb : Below w.heap.size w w') : FaultAt w' b tag at_ what err := (hb.block b (blk_lt h)).trans h
def RetB (w : World) (v : Value) (e : Ending) (w' : World) : Prop := e = .returned v ∧ Below w.heap.size w w'
end Go.Proofs.YtdbpboipiceifaaDoor
