import Derived.Test.YtbcmkkphbkpapabDoorFault3
import Derived.Test.YtbcmkkphbkpapabDoorHead
import Derived.Test.YtbcmkkphbkpapabDoorOpens
set_option linter.unusedVariables false
set_option linter.unusedSimpArgs false
namespace Go.Proofs.YtbcmkkphbkpapabDoor
open Go.RowKit Go.Extern.Stop Go.Stop Go.Extern

/-! errors.Unwrap. -/
theorem hasUn (v : Value) (xT : TypeId) (w : World) : (Instr.typeAssert (.iface 37 v) xT 95 true).run Tryd.prog w = .ok (.tuple #[.iface 37 v, .bool true]) w := by kernel_rfl
theorem methodUn (a : Addr) (w : World) : (Go.method 293 37 (.pointer (some a)) "Unwrap").run Tryd.prog w = .ok (105, .pointer (some a)) w := by kernel_rfl
theorem nilUn (a : Addr) (w : World) : (nilAhead 293 37 (.pointer (some a)) "Unwrap").run Tryd.prog w = .ok (some false) w := by kernel_rfl
theorem Unwrap_any {w : World} {b : Nat} {tag at_ : Int} {what : ByteArray} {err : Value} (h : FaultAt w b tag at_ what err) :
    Calls Tryd.prog 16 #[faultV b] w (RetB w err) := by
  obtain ⟨_, _, _, c3⟩ := h.cells
  have hu := hasUn
  have mu := methodUn
  have nu := nilUn
  clear h
  go_enter Tryd.func16, Tryd.ntmps16
  go_wp2
  go_ret
  exact ⟨rfl, Below.refl _ _⟩
theorem nilTag (xT : TypeId) (w : World) : (Instr.typeAssert .nilIface xT 24 true).run Tryd.prog w = .ok (.tuple #[.int .i64 0, .bool false]) w := by kernel_rfl
set_option maxRecDepth 100000 in
theorem FIs_nil {w : World} {b : Nat} : Calls Tryd.prog 17 #[.pointer (some ⟨b, 0, none⟩), .nilIface] w (RetB w (.bool false)) := by
  have nt := nilTag
  go_enter Tryd.func17, Tryd.ntmps17
  go_wp2
  go_ret
  exact ⟨rfl, Below.refl _ _⟩

/-! FaultFinds. -/
abbrev Lay := Int × ByteArray
def layCells (l : Lay) : List Value := [.int .i64 l.1, .string l.2]
abbrev Rlay : World → Lay → List Value → Prop := RPair (fun _ (x : Int) cs => cs = [.int .i64 x]) (fun _ (x : ByteArray) cs => cs = [.string x])
def laysAt (w : World) (v : Value) (L : List Lay) : Prop := RSlice Rlay 2 w L [v]
def layFlt (tag : Int) (l : Lay) : Flt := ⟨tag, l.1, l.2⟩
def chainL (tag : Int) (L : List Lay) (k : Nat) : List Flt := ((L.take k).reverse.map (layFlt tag)) ++ [⟨tag, 0, ⟨#[105, 110, 109, 111, 115, 116]⟩⟩]
theorem chain_succ (tag : Int) (L : List Lay) (k : Nat) (l : Lay) (h : L[k]? = some l) : chainL tag L (k + 1) = layFlt tag l :: chainL tag L k := by
  unfold chainL
  rw [List.take_add_one, h]
  simp
theorem chain_ne (tag : Int) (L : List Lay) (k : Nat) : ∃ f fs, chainL tag L k = f :: fs ∧ f.tag = tag := by
  unfold chainL
  cases h : (L.take k).reverse with
  | nil => exact ⟨_, _, rfl, rfl⟩
  | cons a l => exact ⟨_, _, rfl, rfl⟩
theorem lays_cells {w : World} {A : Option Addr} {n c : Nat} {L : List Lay} (h : laysAt w (.slice A n c) L) {i : Nat} {l : Lay} (hl : L[i]? = some l) :
    ∃ b off, A = some ⟨b, off, none⟩ ∧ w.cell? ⟨b, off + i * 2, none⟩ = some (.int .i64 l.1) ∧ w.cell? ⟨b, off + i * 2 + 1, none⟩ = some (.string l.2) := by
  obtain ⟨A', c', e, _, hrow⟩ := h
  injection e with e _
  injection e with e1 e2 e3
  subst e1
  have hi := (List.getElem?_eq_some_iff.1 hl).1
  obtain ⟨b, off, rfl, hc2⟩ := hrow.addr (by omega) (by decide)
  obtain ⟨cs, _, ⟨c0, c1, rfl, h0, h1⟩, hcell⟩ := hc2 i l hl
  subst h0 h1
  have k0 := hcell 0 _ rfl
  have k1 := hcell 1 _ rfl
  exact ⟨b, off, rfl, k0, k1⟩
set_option maxHeartbeats 8000000 in
set_option maxRecDepth 100000 in
theorem finds_short {w : World} {tag : Int} {A : Option Addr} {n c : Nat} {L : List Lay} (hE : ErrT w) (hL : laysAt w (.slice A n c) L) (hn : n = L.length) (h20 : n ≤ 20) (h1 : -9223372036854775808 ≤ tag) (h2 : tag ≤ 9223372036854775807) :
    Calls Tryd.prog 4 #[.int .i64 tag, .slice A n c] w (RetB w (.bool true)) := by
  have HE := hid hE
  have HL := hid hL
  have HN := hid hn
  have hln : L.length ≤ n := by omega
  have hnl : n ≤ L.length := by omega
  have h20' : ¬ 20 < (n : Int) := by omega
  clear hE hL hn
  go_enter Tryd.func4, Tryd.ntmps4
  go_wp2_with fail
  refine (head01_any HE.out).mono ?_
  rintro e w1 ⟨rfl, hb1⟩
  have HB1 := hid hb1
  clear hb1
  go_wp2_with fail
  refine (FNew_any tag 0 _ _).mono ?_
  rintro e w2 ⟨b0, rfl, hF, hl0, hb2⟩
  have HB2 := hid (HB1.out.trans (hb2.mono HB1.out.size))
  have HI : Hid (ErrIs w2 (faultV b0) (chainL tag L 0)) := ⟨b0, _, rfl, hF, rfl⟩
  clear hF hb2
  go_wp2_with fail
  go_loopg [5, 20] n (fun g t5 t20 wr => ∃ i : Nat, t20 = .int .i64 (i : Int) ∧ i ≤ n ∧ n - i ≤ g ∧ Hid (ErrIs wr t5 (chainL tag L i) ∧ Below w.heap.size w wr))
  case atStart => exact ⟨0, rfl, by omega, by omega, hid ⟨HI.out, HB2.out⟩⟩
  case round =>
    obtain ⟨i, rfl, hi, hg, H⟩ := hrel
    obtain ⟨wo, rfl⟩ : ∃ x : World, x = wr := ⟨_, rfl⟩
    by_cases hlt : i < n
    · obtain ⟨l, hl⟩ : ∃ l, L[i]? = some l := ⟨_, List.getElem?_eq_getElem (by omega)⟩
      obtain ⟨bl, off, rfl, k0, k1⟩ := lays_cells HL.out hl
      have k0' := (H.out.2.cell (World.block_lt_of_cell? w _ k0)).trans k0
      have k1' := (H.out.2.cell (World.block_lt_of_cell? w _ k1)).trans k1
      have Hl := hid hl
      obtain ⟨hI, hB⟩ := H.out
      obtain ⟨lat, lwh⟩ := l
      simp only at k0' k1'
      have hlt' : (i : Int) < (n : Int) := by omega
      have HB := hid hB
      have HI2 := hid hI
      clear k0 k1 hl hI hB
      by_cases h60 : 60 < lwh.size
      · have h60' : 60 < (lwh.size : Int) := by omega
        go_wp2
        go_ret
        exact ⟨rfl, HB.out.alloc HB.out.size _⟩
      · have h60' : ¬ 60 < (lwh.size : Int) := by omega
        obtain ⟨f, fs, hch, hft⟩ := chain_ne tag L i
        have hI := HI2.out
        rw [hch] at hI
        obtain ⟨b', v', rfl, hF, hI'⟩ := hI
        rw [hft] at hF
        have b3 : Below w.heap.size w (wo.alloc (.cells #[.int .i64 lat, .string lwh] 30)) := HB.out.alloc HB.out.size _
        have f3 : Fr (fun _ => False) wo (wo.alloc (.cells #[.int .i64 lat, .string lwh] 30)) := (Fr.refl _ _).alloc _
        have HW := hid (Wrap_fault (HE.out.below b3) (hF.stay f3 (fun h => h)) lat lwh)
        have HB3 := hid b3
        have HI3 := hid (HI2.out.quiet f3)
        clear hch hF hI' b3 f3 hft
        go_wp2_with fail
        refine HW.out.mono ?_
        rintro e w4 ⟨b4, rfl, hF4, hl4, hb4⟩
        have HI4 : Hid (ErrIs w4 (faultV b4) (chainL tag L (i + 1))) := by
          show ErrIs _ _ _
          rw [chain_succ tag L i _ Hl.out]
          exact ⟨b4, _, rfl, hF4, HI3.out.below hb4⟩
        have HB4 := hid (HB3.out.trans (hb4.mono HB3.out.size))
        clear hF4 hb4
        go_wp2
        go_roundg (n - (i + 1))
        case measure => omega
        case rel => exact ⟨i + 1, rfl, by omega, Nat.le_refl _, hid ⟨HI4.out, HB4.out⟩⟩
    · have hie : i = n := by omega
      subst hie
      clear HI HB2 HB1
      go_wp2_with fail
      go_loopg [5, 8] i (fun g t5 t8 wr => ∃ k : Nat, t8 = .int .i64 ((k : Int) - 1) ∧ k ≤ i ∧ k ≤ g ∧ Hid (ErrIs wr t5 (chainL tag L k) ∧ Below w.heap.size w wr))
      case atStart => exact ⟨i, rfl, Nat.le_refl _, Nat.le_refl _, H⟩
      case round =>
        clear H
        obtain ⟨k, rfl, hk, hgk, H⟩ := hrel
        obtain ⟨wp, rfl⟩ : ∃ x : World, x = wr := ⟨_, rfl⟩
        cases k with
        | succ k =>
          obtain ⟨l, hl⟩ : ∃ l, L[k]? = some l := ⟨_, List.getElem?_eq_getElem (by omega)⟩
          obtain ⟨bl, off, rfl, k0, k1⟩ := lays_cells HL.out hl
          have k0' := (H.out.2.cell (World.block_lt_of_cell? w _ k0)).trans k0
          have k1' := (H.out.2.cell (World.block_lt_of_cell? w _ k1)).trans k1
          obtain ⟨hI, hB⟩ := H.out
          rw [chain_succ tag L k _ hl] at hI
          obtain ⟨lat, lwh⟩ := l
          simp only at k0' k1'
          obtain ⟨b', v', rfl, hF, hI'⟩ := hI
          have b3 : Below w.heap.size w (wp.alloc (.cells #[.pointer none] 37)) := hB.alloc hB.size _
          have f3 : Fr (fun _ => False) wp (wp.alloc (.cells #[.pointer none] 37)) := (Fr.refl _ _).alloc _
          have HA := hid (as_fault (e := ⟨b', 0, none⟩) (HE.out.below b3) (heap_alloc_new wp (.cells #[.pointer none] 37)))
          have HF := hid (hF.stay f3 (fun h => h))
          have HI := hid (hI'.quiet f3)
          have HB := hid b3
          have hblt : b' < wp.heap.size := blk_lt hF
          have HB0 : w.heap.size ≤ wp.heap.size := hB.size
          clear hl hI' hB hF b3 f3 k0 k1
          have hlk : bl < wp.heap.size := World.block_lt_of_cell? wp _ k0'
          obtain ⟨W0, hW0⟩ : ∃ W0, W0 = wp.alloc (.cells #[.pointer none] 37) := ⟨_, rfl⟩
          have hz0 : W0.heap.size = wp.heap.size + 1 := by rw [hW0]; simp
          have fw : Fr (fun _ => False) wp W0 := by rw [hW0]; exact (Fr.refl _ _).alloc _
          rw [← hW0] at HA HF HI HB
          have d0 := fw.cell k0' (fun h => h)
          have d1 := fw.cell k1' (fun h => h)
          obtain ⟨q0, q1, q2, _⟩ := HF.out.cells
          have F0 : Fr (fun i => i = wp.heap.size) W0 W0.drew := (Fr.refl _ _).drew
          have HA' : Hid (Calls Tryd.prog 15 #[.iface 37 (.pointer (some ⟨b', 0, none⟩)), .iface 39 (.pointer (some ⟨wp.heap.size, 0, none⟩))] W0.drew (AsHit W0.drew wp.heap.size (.pointer (some ⟨b', 0, none⟩)))) := by
            show Calls _ _ _ _ _
            exact as_fault (e := ⟨b', 0, none⟩) (HE.out.below (HB.out.trans ((Fr.refl (fun _ => False) W0).drew.elim (Nat.le_refl _) |>.mono HB.out.size))) (by show W0.heap[wp.heap.size]? = _; rw [hW0]; exact heap_alloc_new wp _)
          have hb1 : ¬ bl = wp.heap.size := by omega
          have hb2 : ¬ b' = wp.heap.size := by omega
          have e8 : ((k + 1 : Nat) : Int) - 1 = (k : Int) := by omega
          have hk0 : (0 : Int) ≤ (k : Int) := by omega
          have hkn : (k : Int) < (i : Int) := by omega
          rw [e8]
          clear e8 k0' k1' fw hz0
          subst hW0
          go_wp2_with fail
          refine wp_region_head _ _ _ _ (faultV b') (.iface 39 (.pointer (some ⟨wp.heap.size, 0, none⟩))) _ _ (by kernel_rfl) (by kernel_rfl) (by kernel_rfl) (by kernel_rfl) (by kernel_rfl) (by kernel_rfl) (by kernel_rfl) rfl rfl (by decide) rfl rfl rfl (fun W => by go_simp) (fun W => by go_simp) (fun W => by go_simp) (fun W => by go_simp) ?_
          go_simp
          go_at_call 15
          refine HA'.out.mono ?_
          rintro e w5 ⟨rfl, hFr, c0, f0⟩
          have F1 : Fr (fun i => i = wp.heap.size) (wp.alloc (.cells #[.pointer none] 37)) w5 := F0.trans hFr (fun _ _ h => h)
          have g0 := F1.cell d0 hb1
          have g1 := F1.cell d1 hb1
          have g2 := F1.cell q0 hb2
          have g3 := F1.cell q1 hb2
          have g4 := F1.cell q2 hb2
          simp only [layFlt] at g2 g3 g4
          have HF1 := hid F1
          clear d0 d1 q0 q1 q2 hFr F0 F1
          refine ⟨fun w' => ∃ n, w' = w5.drewN n, ⟨0, rfl⟩, ?_⟩
          repeat (any_goals (first | go_big_quiet_step (fail) | quiet_step (fail)))
          refine wpQuiet_nil ?_
          rintro _ ⟨nq, rfl⟩
          have HF5 := hid (HF.out.stay (HF1.out.drewN nq) hb2)
          have HI5 := hid (HI.out.var (heap_alloc_new wp _) (HF1.out.drewN nq))
          have HB5 := hid (HB.out.trans ((HF1.out.drewN nq).own_below HB0 HB.out.size))
          clear HF HI HB HA HA' g0 g1 g2 g3 g4 c0 f0 HF1
          go_wp2_with fail
          refine (Unwrap_any HF5.out).mono ?_
          rintro e w6 ⟨rfl, hb6⟩
          have HI6 := hid (HI5.out.below hb6)
          have HB6 := hid (HB5.out.trans (hb6.mono HB5.out.size))
          clear hb6
          go_wp2
          go_roundg k
          case measure => omega
          case rel => exact ⟨k, rfl, by omega, Nat.le_refl _, hid ⟨HI6.out, HB6.out⟩⟩
        | zero =>
          obtain ⟨hI, hB⟩ := H.out
          obtain ⟨b', v', rfl, hF, hv⟩ := hI
          obtain rfl : v' = .nilIface := hv
          have HF := hid hF
          have HB := hid hB
          have hblt : b' < wp.heap.size := blk_lt hF
          have f3 : Fr (fun _ => False) wp (wp.alloc (.cells #[.pointer none] 37)) := (Fr.refl _ _).alloc _
          have HA := hid (as_fault (e := ⟨b', 0, none⟩) (HE.out.below (hB.alloc hB.size _)) (heap_alloc_new wp (.cells #[.pointer none] 37)))
          have HF3 := hid (hF.stay f3 (fun h => h))
          have hb2 : ¬ b' = wp.heap.size := by omega
          clear hF hB f3 H
          go_wp2_with fail
          refine HA.out.mono ?_
          rintro e w5 ⟨rfl, hFr, c0, f0⟩
          have HF5 := hid (HF3.out.stay hFr hb2)
          have HB5 := hid (HB.out.alloc HB.out.size (.cells #[.pointer none] 37) |>.trans (hFr.own_below HB.out.size (HB.out.alloc HB.out.size _).size))
          obtain ⟨_, _, c2, _⟩ := HF5.out.cells
          have hw5 : wp.heap.size < w5.heap.size := by have := hFr.size; simp at this; omega
          clear hFr f0
          go_wp2_with fail
          refine (Unwrap_any HF5.out).mono ?_
          rintro e w6 ⟨rfl, hb6⟩
          have c0' := (hb6.cell (p := ⟨wp.heap.size, 0, none⟩) hw5).trans c0
          have HF6 := hid (HF5.out.below hb6)
          have HB6 := hid (HB5.out.trans (hb6.mono HB5.out.size))
          have hw6 : wp.heap.size < w6.heap.size := by have := hb6.size; omega
          clear hb6 c0 c2
          go_wp2_with fail
          refine (FIs_any HF6.out).mono ?_
          rintro e w7 ⟨rfl, hb7⟩
          have c0'' := (hb7.cell (p := ⟨wp.heap.size, 0, none⟩) hw6).trans c0'
          have HB7 := hid (HB6.out.trans (hb7.mono HB6.out.size))
          clear hb7 c0'
          go_wp2_with fail
          refine FIs_nil.mono ?_
          rintro e w8 ⟨rfl, hb8⟩
          have HB8 := hid (HB7.out.trans (hb8.mono HB7.out.size))
          clear hb8
          go_wp2
          go_ret
          exact ⟨ret_bool (by simp), HB8.out⟩

set_option maxRecDepth 100000 in
theorem finds_long {w : World} {tag : Int} {A : Option Addr} {n c : Nat} (hE : ErrT w) (h20 : 20 < n) :
    Calls Tryd.prog 4 #[.int .i64 tag, .slice A n c] w (RetB w (.bool true)) := by
  have HE := hid hE
  have h20' : 20 < (n : Int) := by omega
  clear hE
  go_enter Tryd.func4, Tryd.ntmps4
  go_wp2_with fail
  refine (head01_any HE.out).mono ?_
  rintro e w1 ⟨rfl, hb1⟩
  have HB1 := hid hb1
  clear hb1
  go_wp2
  go_ret
  exact ⟨rfl, HB1.out⟩
theorem FaultFinds_any {w : World} {tag : Int} {A : Option Addr} {n c : Nat} {L : List Lay} (hE : ErrT w) (h1 : -9223372036854775808 ≤ tag) (h2 : tag ≤ 9223372036854775807) (hR : RSlice Rlay 2 w L [.slice A n c]) :
    Calls Tryd.prog 4 #[.int .i64 tag, .slice A n c] w (RetB w (.bool true)) := by
  by_cases h : 20 < n
  · exact finds_long hE h
  · have hn : n = L.length := by
      obtain ⟨A', c', e, _⟩ := hR
      injection e with e _
      injection e with _ e _
    exact finds_short hE hR hn (by omega) h1 h2
theorem opens_lays {n : Nat} : OpensAt Tryd.prog n 22 (RSlice Rlay 2) (fun _ => True) := by
  refine OpensAt.imp (OpensAt.le (opens_slice (sz := 2) (n := n + 1) Tryd.underlying22 (by kernel_rfl) (opens_struct (n := n) (sz := 2) Tryd.underlying30 (by kernel_rfl) (.cons (s0 := 1) rfl (by kernel_rfl) (opens_int (k := .i64) Tryd.underlying3) (.one (sz := 1) rfl (by kernel_rfl) (opens_string Tryd.underlying9))))) (by omega)) id (fun _ _ _ h _ => h) (fun _ _ => trivial)
end Go.Proofs.YtbcmkkphbkpapabDoor
