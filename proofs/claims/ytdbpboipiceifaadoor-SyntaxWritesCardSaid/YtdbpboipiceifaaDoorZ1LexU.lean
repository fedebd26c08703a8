import Derived.Test.YtdbpboipiceifaaDoorZ1LexT
set_option linter.unusedVariables false
set_option linter.unusedSimpArgs false
namespace Go.Proofs.YtdbpboipiceifaaDoor
open Go.RowKit
theorem byte_ne {c x : UInt8} (h : ¬ c = x) : ((c.toNat : Int) == (x.toNat : Int)) = false := by
  have : ¬ c.toNat = x.toNat := fun e => h (UInt8.toNat_inj.1 e)
  simpa using (show ¬ (c.toNat : Int) = (x.toNat : Int) by omega)
theorem byte_eq {c x : UInt8} (h : c = x) : ((c.toNat : Int) == (x.toNat : Int)) = true := by subst h; simp
structure TW (w wr : World) (b : Nat) (s : ByteArray) (j : Nat) (out : List UInt8) : Prop where
  rdr : RdrAt wr b s j
  fr : Fr (fun i => i = b) w wr
  res : ResAt wr w.heap.size
  bld : IsB (w.heap.size + 1) (w.heap.size + 1) (Lib.byteCells out) wr
  sz : w.heap.size + 1 < wr.heap.size
  lt : b < w.heap.size
theorem TW.drewN {w wr : World} {b j : Nat} {s : ByteArray} {out : List UInt8} (h : TW w wr b s j out) (n : Nat) : TW w (wr.drewN n) b s j out :=
  ⟨h.rdr, h.fr.drewN n, h.res, h.bld, h.sz, h.lt⟩
theorem TW.set {w wr : World} {b j : Nat} {s : ByteArray} {out : List UInt8} (h : TW w wr b s j out) (j' : Nat) : TW w (wr.setCell ⟨b, 1, none⟩ (.int .i64 (j' : Int))) b s j' out := by
  have hlt := h.lt
  have F : Fr (fun i => i = b) wr (wr.setCell ⟨b, 1, none⟩ (.int .i64 (j' : Int))) := Fr.setCell wr (⟨b, 1, none⟩ : Addr) _
  exact ⟨h.rdr.set j', h.fr.trans F (fun _ _ h => h), h.res.keep (F := fun i => i = b) F (show ¬ w.heap.size = b by omega), h.bld.keep F (fun i hi => by omega), by have := h.sz; simpa [World.setCell] using this, h.lt⟩
theorem TW.write {w wr w1 : World} {b j : Nat} {s : ByteArray} {out : List UInt8} {c : UInt8} {v : Value} {e : Ending} (h : TW w wr b s j out) (hp : BldPost (w.heap.size + 1) (w.heap.size + 1) (Lib.byteCells out ++ [.int .u8 (c.toNat : Int)]) v wr e w1) :
    e = .returned v ∧ TW w w1 b s j (out ++ [c]) := by
  obtain ⟨he, hb, hbel⟩ := hp
  have hlt := h.lt
  have F : Fr (fun i => w.heap.size + 1 ≤ i) wr w1 := Fr.of_below hbel hbel.size
  refine ⟨he, h.rdr.keep F (show ¬ _ ≤ b by omega), h.fr.trans F (fun i hi h => by omega), h.res.keep (F := fun i => w.heap.size + 1 ≤ i) F (by omega), ?_, by have := h.sz; have := F.size; omega, h.lt⟩
  rw [Lib.byteCells_append]
  exact hb
theorem byteCells_len (l : List UInt8) : (Lib.byteCells l).length = l.length := by simp [Lib.byteCells]
end Go.Proofs.YtdbpboipiceifaaDoor
