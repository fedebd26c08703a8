import Derived.Test.YtbcmkkphbkpapaaDoorAs
set_option linter.unusedVariables false
set_option linter.unusedSimpArgs false
namespace Go.Proofs.YtbcmkkphbkpapaaDoor
open Go.RowKit

/-- A fault: its tag, place, word, and what it is for. -/
def FaultAt (w : World) (b : Nat) (tag at_ : Int) (what : ByteArray) (err : Value) : Prop := w.heap[b]? = some (.cells #[.int .i64 tag, .int .i64 at_, .string what, err] 99 (0, 0))
abbrev faultV (b : Nat) : Value := .iface 95 (.pointer (some ⟨b, 0, none⟩))
theorem ErrT.below {w w' : World} (h : ErrT w) (hb : Below w.heap.size w w') : ErrT w' := (hb.cell h.lt).trans h
theorem FaultAt.below {w w' : World} {b : Nat} {tag at_ : Int} {what : ByteArray} {err : Value} (h : FaultAt w b tag at_ what err) (hb : Below w.heap.size w w') : FaultAt w' b tag at_ what err := (hb.block b (blk_lt h)).trans h

def RetB (w : World) (v : Value) (e : Ending) (w' : World) : Prop := e = .returned v ∧ Below w.heap.size w w'

def NewPost (w : World) (tag at_ : Int) (what : ByteArray) (e : Ending) (w' : World) : Prop := ∃ b, e = .returned (faultV b) ∧ FaultAt w' b tag at_ what .nilIface ∧ w.heap.size ≤ b ∧ Below w.heap.size w w'
theorem FNew_any (tag at_ : Int) (what : ByteArray) (w : World) :
    Calls Tryd.prog 61 #[.int .i64 tag, .int .i64 at_, .string what] w (NewPost w tag at_ what) := by
  go_enter Tryd.func61, Tryd.ntmps61
  go_wp2
  go_ret
  exact ⟨w.heap.size, rfl, heap_alloc_new w _, Nat.le_refl _, (Below.refl _ _).alloc (Nat.le_refl _) _⟩

theorem Of_fault {w : World} {b : Nat} {tag at_ : Int} {what : ByteArray} {err : Value} (hg : ErrT w) (h : FaultAt w b tag at_ what err) :
    Calls Tryd.prog 13 #[faultV b] w (RetB w (.int .i64 tag)) := by
  have b1 : Below w.heap.size w (w.alloc (.cells #[.pointer none] 95)) := (Below.refl _ _).alloc (Nat.le_refl _) _
  have hlt := blk_lt h
  have HA := hid (as_fault (e := ⟨b, 0, none⟩) (hg.below b1) (heap_alloc_new w (.cells #[.pointer none] 95)))
  have HF := hid (h.below b1)
  have HB := hid b1
  clear hg h b1
  go_enter Tryd.func13, Tryd.ntmps13
  go_wp2_with fail
  refine HA.out.mono ?_
  rintro e w' ⟨rfl, hF, hc, hf⟩
  have hb' := (hF.block b (by simp; omega) (by omega)).trans HF.out
  have c0 := cell_blk hb' 0
  simp at c0
  have HFr := hid hF
  clear hF hf hb'
  go_wp2
  go_ret
  exact ⟨rfl, HB.out.trans (HFr.out.below (by simp) (fun i hi => by omega))⟩

theorem At_fault {w : World} {b : Nat} {tag at_ : Int} {what : ByteArray} {err : Value} (hg : ErrT w) (h : FaultAt w b tag at_ what err) :
    Calls Tryd.prog 14 #[faultV b] w (RetB w (.int .i64 at_)) := by
  have b1 : Below w.heap.size w (w.alloc (.cells #[.pointer none] 95)) := (Below.refl _ _).alloc (Nat.le_refl _) _
  have hlt := blk_lt h
  have HA := hid (as_fault (e := ⟨b, 0, none⟩) (hg.below b1) (heap_alloc_new w (.cells #[.pointer none] 95)))
  have HF := hid (h.below b1)
  have HB := hid b1
  clear hg h b1
  go_enter Tryd.func14, Tryd.ntmps14
  go_wp2_with fail
  refine HA.out.mono ?_
  rintro e w' ⟨rfl, hF, hc, hf⟩
  have hb' := (hF.block b (by simp; omega) (by omega)).trans HF.out
  have c0 := cell_blk hb' 1
  simp at c0
  have HFr := hid hF
  clear hF hf hb'
  go_wp2
  go_ret
  exact ⟨rfl, HB.out.trans (HFr.out.below (by simp) (fun i hi => by omega))⟩

end Go.Proofs.YtbcmkkphbkpapaaDoor
