import Derived.Test.YtbcmkkphbkpapaaDoorAs2
import Derived.Test.YtbcmkkphbkpapaaDoorFault
import Derived.Test.YtbcmkkphbkpapaaDoorShelf
import Derived.Test.YtbcmkkphbkpapaaDoorTagW
set_option linter.unusedVariables false
set_option linter.unusedSimpArgs false
namespace Go.Proofs.YtbcmkkphbkpapaaDoor
open Go.RowKit Go.Extern.Stop Go.Stop Go.Extern

theorem quietB {w w' : World} (h : Below w.heap.size w w') : Fr (fun _ => False) w w' := (Fr.of_below h h.size).mono (fun i hi h => by omega)
theorem FaultAt.stay {F : Nat → Prop} {w w' : World} {b : Nat} {tag at_ : Int} {what : ByteArray} {err : Value} (h : FaultAt w b tag at_ what err) (hf : Fr F w w') (hb : ¬ F b) : FaultAt w' b tag at_ what err := (hf.block b (blk_lt h) hb).trans h
theorem FaultAt.cells {w : World} {b : Nat} {tag at_ : Int} {what : ByteArray} {err : Value} (h : FaultAt w b tag at_ what err) : w.cell? ⟨b, 0, none⟩ = some (.int .i64 tag) ∧ w.cell? ⟨b, 1, none⟩ = some (.int .i64 at_) ∧ w.cell? ⟨b, 2, none⟩ = some (.string what) ∧ w.cell? ⟨b, 3, none⟩ = some err :=
  ⟨by rw [cell_blk h]; rfl, by rw [cell_blk h]; rfl, by rw [cell_blk h]; rfl, by rw [cell_blk h]; rfl⟩

/-! Wrap. -/
def WrapPost (w : World) (tag at_ : Int) (what : ByteArray) (v : Value) (e : Ending) (w' : World) : Prop := ∃ b, e = .returned (faultV b) ∧ FaultAt w' b tag at_ what v ∧ w.heap.size ≤ b ∧ Below w.heap.size w w'
theorem Wrap_fault {w : World} {b : Nat} {tag at0 : Int} {what0 : ByteArray} {err : Value} (hE : ErrT w) (h : FaultAt w b tag at0 what0 err) (at_ : Int) (what : ByteArray) :
    Calls Tryd.prog 37 #[faultV b, .int .i64 at_, .string what] w (WrapPost w tag at_ what (faultV b)) := by
  have HO := hid (Of_fault hE h)
  clear hE h
  go_enter Tryd.func37, Tryd.ntmps37
  go_wp2_with fail
  refine HO.out.mono ?_
  rintro e w1 ⟨rfl, hb1⟩
  have HB := hid hb1
  clear hb1
  go_wp2
  go_ret
  exact ⟨w1.heap.size, rfl, heap_alloc_new w1 _, HB.out.size, HB.out.alloc HB.out.size _⟩
theorem Wrap_nil (at_ : Int) (what : ByteArray) (w : World) : Calls Tryd.prog 37 #[.nilIface, .int .i64 at_, .string what] w (RetB w .nilIface) := by
  go_enter Tryd.func37, Tryd.ntmps37
  go_wp2
  go_ret
  exact ⟨rfl, Below.refl _ _⟩

/-! A chain of faults. -/
structure Flt where
  tag : Int
  place : Int
  what : ByteArray
def ErrIs (w : World) : Value → List Flt → Prop
  | v, [] => v = .nilIface
  | v, f :: fs => ∃ b v', v = faultV b ∧ FaultAt w b f.tag f.place f.what v' ∧ ErrIs w v' fs
theorem ErrIs.quiet {w w' : World} (hf : Fr (fun _ => False) w w') : ∀ {fs : List Flt} {v : Value}, ErrIs w v fs → ErrIs w' v fs
  | [], v, h => h
  | f :: fs, v, ⟨b, v', e, h, h'⟩ => ⟨b, v', e, h.stay hf (fun h => h), ErrIs.quiet hf h'⟩
theorem ErrIs.below {w w' : World} {v : Value} {fs : List Flt} (h : ErrIs w v fs) (hb : Below w.heap.size w w') : ErrIs w' v fs := h.quiet (quietB hb)
theorem Fr.elim {w w' : World} (h : Fr (fun _ => False) w w') {B : Nat} (hB : B ≤ w.heap.size) : Below B w w' := h.below hB (fun i hi => hi.elim)

/-- A fresh variable, new or one of the call's own. -/
theorem Fr.own_below {B b : Nat} {w w' : World} (h : Fr (fun i => i = b) w w') (hb : B ≤ b) (hB : B ≤ w.heap.size) : Below B w w' := h.below hB (fun i hi => by omega)

theorem FaultAt.ne_var {w : World} {b c : Nat} {tag at_ : Int} {what : ByteArray} {err old : Value} (h : FaultAt w b tag at_ what err) (hc : w.heap[c]? = some (.cells #[old] 95 (0, 0))) : b ≠ c := by
  rintro rfl
  rw [FaultAt, hc] at h
  injection h with h
  injection h with _ h
  exact absurd h (by decide)
theorem ErrIs.var {w w' : World} {c : Nat} {old : Value} (hc : w.heap[c]? = some (.cells #[old] 95 (0, 0))) (hf : Fr (fun i => i = c) w w') : ∀ {fs : List Flt} {v : Value}, ErrIs w v fs → ErrIs w' v fs
  | [], v, h => h
  | f :: fs, v, ⟨b, v', e, h, h'⟩ => ⟨b, v', e, h.stay hf (h.ne_var hc), ErrIs.var hc hf h'⟩
theorem AsHit.block {w w' : World} {b : Nat} {x old : Value} {e : Ending} (hb : w.heap[b]? = some (.cells #[old] 95 (0, 0))) (h : AsHit w b x e w') : w'.heap.size > b := by
  have := h.2.1.size
  have := blk_lt hb
  omega

/-! At, Of: of a tag, of nothing. -/
theorem Of_nil (w : World) : Calls Tryd.prog 13 #[.nilIface] w (RetB w (.int .i64 0)) := by
  go_enter Tryd.func13, Tryd.ntmps13
  go_wp2_with fail
  refine (as_nil _ _).mono ?_
  rintro e w' ⟨rfl, rfl⟩
  go_wp2_with fail
  refine (as_nil _ _).mono ?_
  rintro e w' ⟨rfl, rfl⟩
  go_wp2
  go_ret
  exact ⟨rfl, ((Below.refl _ _).alloc (Nat.le_refl _) _).alloc (by simp) _⟩
theorem At_nil (w : World) : Calls Tryd.prog 14 #[.nilIface] w (RetB w (.int .i64 (-1))) := by
  go_enter Tryd.func14, Tryd.ntmps14
  go_wp2_with fail
  refine (as_nil _ _).mono ?_
  rintro e w' ⟨rfl, rfl⟩
  go_wp2
  go_ret
  exact ⟨rfl, (Below.refl _ _).alloc (Nat.le_refl _) _⟩

/-! Depth. -/
def DepthIn (w wr : World) (fs : List Flt) (n : Nat) (v : Value) (c : Nat) : Prop := Below w.heap.size w wr ∧ w.heap.size ≤ c ∧ (∃ old, wr.heap[c]? = some (.cells #[old] 95 (0, 0))) ∧ ErrIs wr v fs
set_option maxHeartbeats 4000000 in
set_option maxRecDepth 100000 in
theorem Depth_any {w : World} {v : Value} {fs : List Flt} (hE : ErrT w) (h : ErrIs w v fs) (hn : fs.length ≤ 4611686018427387904) :
    Calls Tryd.prog 41 #[v] w (RetB w (.int .i64 (fs.length : Int))) := by
  have HE := hid hE
  have b1 : Below w.heap.size w (w.alloc (.cells #[.pointer none] 95)) := (Below.refl _ _).alloc (Nat.le_refl _) _
  have H0 : Hid (DepthIn w (w.alloc (.cells #[.pointer none] 95)) fs 0 v w.heap.size) := ⟨b1, Nat.le_refl _, ⟨_, heap_alloc_new w _⟩, h.below b1⟩
  clear hE h b1
  go_enter Tryd.func41, Tryd.ntmps41
  go_wp2_with fail
  go_loopg [0, 3, 4] fs.length (fun g t0 t3 t4 wr => ∃ (gs : List Flt) (n c : Nat), t3 = .int .i64 (n : Int) ∧ t4 = .pointer (some ⟨c, 0, none⟩) ∧ n + gs.length = fs.length ∧ gs.length ≤ g ∧ Hid (DepthIn w wr gs n t0 c))
  case atStart => exact ⟨fs, 0, w.heap.size, rfl, rfl, by omega, by omega, H0⟩
  case round =>
    obtain ⟨gs, n, c, rfl, rfl, hlen, hg, H⟩ := hrel
    obtain ⟨wo, rfl⟩ : ∃ x : World, x = wr := ⟨_, rfl⟩
    obtain ⟨hB, hc, ⟨old, hold⟩, hI⟩ := H.out
    cases gs with
    | nil =>
      obtain rfl : u0 = .nilIface := hI
      have hlen' : n = fs.length := by simpa using hlen
      have HB := hid hB
      clear hold hB H
      go_wp2_with fail
      refine (as_nil _ _).mono ?_
      rintro e w' ⟨rfl, rfl⟩
      go_wp2
      go_ret
      exact ⟨by rw [← hlen']; rfl, HB.out⟩
    | cons f gs =>
      obtain ⟨b, v', rfl, hF, hI'⟩ := hI
      have HA := hid (as_fault (e := ⟨b, 0, none⟩) (HE.out.below hB) hold)
      have HF := hid hF
      have HI := hid hI'
      have HO := hid hold
      have HB := hid hB
      have hlt : c < wo.heap.size := blk_lt hold
      have hlen' : n + 1 + gs.length = fs.length := by simp at hlen; omega
      have hg' : gs.length < gk := by simp at hg; omega
      clear hold hI' hB H hF hlen hg
      go_wp2_with fail
      refine HA.out.mono ?_
      rintro e w1 ⟨rfl, hFr, c0, f0⟩
      have HI1 := hid (HI.out.var HO.out hFr)
      have HF1 := hid (HF.out.stay hFr (HF.out.ne_var HO.out))
      have HB1 := hid (HB.out.trans (hFr.own_below hc HB.out.size))
      have c3 := HF1.out.cells.2.2.2
      have hblt : b < w1.heap.size := blk_lt HF1.out
      have hz := hFr.size
      clear hFr
      go_wp2
      go_roundg gs.length
      case measure => exact hg'
      case rel => exact ⟨gs, n + 1, w1.heap.size, rfl, rfl, by omega, Nat.le_refl _, hid ⟨HB1.out.alloc (by omega) _, by omega, ⟨_, heap_alloc_new w1 _⟩, HI1.out.quiet ((Fr.refl _ _).alloc _)⟩⟩
end Go.Proofs.YtbcmkkphbkpapaaDoor
