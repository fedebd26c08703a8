import Derived.Test.YtdbpboipiceifaaDoorZ1Decl
import Derived.Test.YtdbpboipiceifaaDoorZ1PSPx15
import Derived.Test.YtdbpboipiceifaaDoorZ1Opens
set_option linter.unusedVariables false
set_option linter.unusedSimpArgs false
namespace Go.Proofs.YtdbpboipiceifaaDoorPSP
open Go.RowKit Go.Extern.Stop Go.Stop Go.Extern Go.Proofs.YtdbpboipiceifaaDoorW.PrintWords Go.Proofs.YtdbpboipiceifaaDoor
structure S92 where
  f0 : ByteArray
  f1 : Bool
  f2 : Int
def k92 : Kd S92 := Kd.iso (Kd.pair Kd.string (Kd.pair Kd.bool (Kd.int .i64))) (fun x : S92 => (x.f0, x.f1, x.f2))
theorem k92_open {w : World} {x : S92} {cs : List Value} (h : k92.K w x cs) : cs = [.string x.f0, .bool x.f1, .int .i64 x.f2] := by
  obtain ⟨_, _, rfl, rfl, ⟨_, _, rfl, rfl, rfl⟩⟩ := h
  rfl
structure R43 where
  f0 : S39
  f1 : Int
  f2 : List S59
  f3 : Int
def kr43 : Kd R43 := Kd.iso (Kd.pair k39 (Kd.pair (Kd.int .i64) (Kd.pair (Kd.slice 59 k59) (Kd.int .i64)))) (fun x : R43 => (x.f0, x.f1, x.f2, x.f3))
theorem kr43_open {w : World} {x : R43} {cs : List Value} (h : kr43.K w x cs) : ∃ A c A' c', cs = [.string x.f0.f0, .slice A x.f0.f1.length c, .int .i64 x.f1, .slice A' x.f2.length c', .int .i64 x.f3] ∧ x.f0.f1.length ≤ c ∧ Kd.C k53 w A x.f0.f1.length x.f0.f1 ∧ x.f2.length ≤ c' ∧ Kd.C k59 w A' x.f2.length x.f2 := by
  obtain ⟨_, _, rfl, ⟨_, _, rfl, rfl, ⟨A, c, rfl, hl, hr⟩⟩, ⟨_, _, rfl, rfl, ⟨_, _, rfl, ⟨A', c', rfl, hl', hr'⟩, rfl⟩⟩⟩ := h
  exact ⟨A, c, A', c', rfl, hl, hr, hl', hr'⟩
def declsL : List S92 → List UInt8
  | [] => []
  | d :: ds => declL (toL d.f0) d.f1 ++ [10] ++ declsL ds
theorem declsL_take (ds : List S92) (i : Nat) (h : i < ds.length) : declsL (ds.take (i + 1)) = declsL (ds.take i) ++ (declL (toL ds[i].f0) ds[i].f1 ++ [10]) := by
  induction ds generalizing i with
  | nil => simp at h
  | cons d ds ih =>
    cases i with
    | zero => simp [declsL]
    | succ i =>
      have := ih i (by simpa using h)
      simp only [List.take_succ_cons, declsL, List.getElem_cons_succ]
      rw [this]
      simp
theorem declL_len (p : List UInt8) (m : Bool) : (declL p m).length = p.length + 6 := by cases m <;> simp [declL]
theorem declsL_len (ds : List S92) (h : ∀ d ∈ ds, (toL d.f0).length ≤ 1000) : (declsL ds).length ≤ 1007 * ds.length := by
  induction ds with
  | nil => simp [declsL]
  | cons d ds ih =>
    have h1 := ih (fun x hx => h x (List.mem_cons_of_mem _ hx))
    have h2 := h d List.mem_cons_self
    have h3 := declL_len (toL d.f0) d.f1
    simp only [declsL, List.length_append, List.length_cons, List.length_nil]
    omega
def rulesL (rS : R43 → List UInt8) : List R43 → List UInt8
  | [] => []
  | r :: rs => rS r ++ [10] ++ rulesL rS rs
theorem rulesL_take (rS : R43 → List UInt8) (rs : List R43) (i : Nat) (h : i < rs.length) : rulesL rS (rs.take (i + 1)) = rulesL rS (rs.take i) ++ (rS rs[i] ++ [10]) := by
  induction rs generalizing i with
  | nil => simp at h
  | cons d ds ih =>
    cases i with
    | zero => simp [rulesL]
    | succ i =>
      have := ih i (by simpa using h)
      simp only [List.take_succ_cons, rulesL, List.getElem_cons_succ]
      rw [this]
      simp
theorem rulesL_len (rS : R43 → List UInt8) (rs : List R43) (h : ∀ r ∈ rs, (rS r).length ≤ 1000000) : (rulesL rS rs).length ≤ 1000001 * rs.length := by
  induction rs with
  | nil => simp [rulesL]
  | cons d ds ih =>
    have h1 := ih (fun x hx => h x (List.mem_cons_of_mem _ hx))
    have h2 := h d List.mem_cons_self
    simp only [rulesL, List.length_append, List.length_cons, List.length_nil]
    omega
theorem _root_.Go.Proofs.YtdbpboipiceifaaDoor.QW.quiet {w wr w1 : World} {out : List UInt8} (h : QW w wr out) (hf : Fr (fun _ => False) wr w1) : QW w w1 out := by
  have hb : Below wr.heap.size wr w1 := hf.below (Nat.le_refl _) (fun _ f => f.elim)
  have hz := h.sz
  have hs := hb.size
  exact ⟨h.fr.trans (hb.mono h.fr.size), h.bld.keep hf (fun _ f => f.elim), by omega⟩
set_option maxHeartbeats 8000000 in
set_option maxRecDepth 100000 in
theorem PrS_any {w : World} (hG : TabT w) {b : Nat} {D R : Option Addr} {cD cR : Nat} (ds : List S92) (rs : List R43) (hb : w.heap[b]? = some (.cells #[.slice D ds.length cD, .slice R rs.length cR] 77))
    (kD : Kd.C k92 w D ds.length ds) (kR : Kd.C kr43 w R rs.length rs) (hd : ∀ d ∈ ds, (toL d.f0).length ≤ 1000) (rS : R43 → List UInt8)
    (hr : ∀ r ∈ rs, (rS r).length ≤ 1000000 ∧ syntax_Rule_String.f 3000 r.f0.f0 r.f0.f1 r.f1 r.f2 r.f3 = some (bytesL (rS r))) (h1 : ds.length ≤ 100) (h2 : rs.length ≤ 100) :
    Calls Tryd.prog 10 #[.pointer (some ⟨b, 0, none⟩)] w (RetB w (.string (bytesOf (declsL ds ++ rulesL rS rs)))) := by
  have HG := hid hG
  have HD := hid kD
  have HR := hid kR
  have Hd := hid hd
  have Hr := hid hr
  have hbl : b < w.heap.size := Go.Proofs.YtdbpboipiceifaaDoor.blk_lt hb
  have hd1 : w.cell? ⟨b, 0, none⟩ = some (.slice D ds.length cD) := (bC hb 0).trans rfl
  have hr1 : w.cell? ⟨b, 1, none⟩ = some (.slice R rs.length cR) := (bC hb 1).trans rfl
  clear hG kD kR hd hr hb
  have Q0 : Hid (QW w (w.alloc (.cells #[.pointer none, .slice none 0 0] 96)) (declsL (ds.take 0))) := ⟨(Below.refl _ _).alloc (Nat.le_refl _) _, IsB.fresh (Nat.le_refl _) (heap_alloc_new w _), by simp⟩
  go_enter Tryd.func10, Tryd.ntmps10
  go_wp2_with fail
  go_loopg [13] ds.length (fun g t13 wr => ∃ i : Nat, t13 = .int .i64 (i : Int) ∧ i ≤ ds.length ∧ ds.length - i ≤ g ∧ Hid (QW w wr (declsL (ds.take i))))
  case atStart => exact ⟨0, rfl, by omega, by omega, Q0⟩
  case round =>
    obtain ⟨i, rfl, hi, hg, H⟩ := hrel
    obtain ⟨wo, rfl⟩ : ∃ x : World, x = wr := ⟨_, rfl⟩
    have hlen := declsL_len (ds.take i) (fun d hd => Hd.out d (List.mem_of_mem_take hd))
    have hlen2 : (ds.take i).length ≤ i := List.length_take_le _ _
    by_cases hlt : i < ds.length
    · have hlt' : (i : Int) < (ds.length : Int) := by omega
      obtain ⟨bl, off, rfl, hc⟩ := Kd.C_addr HD.out (by omega) (by decide)
      obtain ⟨cs, _, hK, hcell⟩ := hc i _ (List.getElem?_eq_getElem hlt)
      obtain rfl := k92_open hK
      have k0 := hcell 0 _ rfl
      have k1 := hcell 1 _ rfl
      have k2 := hcell 2 _ rfl
      have e3 : k92.sz = 3 := rfl
      rw [e3] at k0 k1 k2
      have k0' : wo.cell? ⟨bl, off + i * 3, none⟩ = some (.string ds[i].f0) := (H.out.fr.cell (World.block_lt_of_cell? w _ k0)).trans k0
      have k1' : wo.cell? ⟨bl, off + i * 3 + 1, none⟩ = some (.bool ds[i].f1) := (H.out.fr.cell (World.block_lt_of_cell? w _ k1)).trans k1
      have k2' : wo.cell? ⟨bl, off + i * 3 + 2, none⟩ = some (.int .i64 ds[i].f2) := (H.out.fr.cell (World.block_lt_of_cell? w _ k2)).trans k2
      have hp := Hd.out ds[i] (List.getElem_mem hlt)
      have HT := hid (declsL_take ds i hlt)
      obtain ⟨x, hx⟩ : ∃ x, x = ds[i] := ⟨_, rfl⟩
      rw [← hx] at k0' k1' k2' hp HT
      obtain ⟨p, m, n⟩ := x
      simp only at k0' k1' k2' hp HT
      obtain ⟨y, hy⟩ : ∃ y, y = bytesL (declL (toL p) m) := ⟨_, rfl⟩
      have hdl := declL_len (toL p) m
      have hys : y.size = (declL (toL p) m).length := by subst hy; rfl
      have HM : Hid (Lib.strCells (y ++ (⟨#[10]⟩ : ByteArray)) = Lib.byteCells (declL (toL p) m ++ [10])) := hid (by subst hy; unfold Lib.strCells; rw [ByteArray.data_append, Array.toList_append]; rfl)
      have HY : Hid (∀ W, Calls Tryd.prog 29 #[.agg #[.string p, .bool m, .int .i64 n]] W (RetB W (.string y))) := hid (by subst hy; exact fun W => Decl_any (toL p) hp m n W)
      have g1 : (9223372036854775807 < y.size + 1) = False := eq_false (by omega)
      have hz : (declsL (ds.take i)).length + (y.size + 1) ≤ 140737488355328 := by omega
      have Q1 := hid (H.out.quiet ((Fr.refl (fun _ => False) wo).alloc (.cells #[.string p, .bool m, .int .i64 n] 92)))
      clear hy hys hdl hp hx k0 k1 k2 hc hcell hK hlen hlen2
      go_wp2_with fail
      refine (HY.out _).mono ?_
      rintro e w4 ⟨rfl, hb4⟩
      have Q2 := hid (Q1.out.quiet (Fr.quiet hb4))
      clear hb4
      go_wp2_with fail
      refine (WriteString_any _ _ (Lib.byteCells (declsL (ds.take i))) _ _ Q2.out.bld (by rw [byteCells_len, ByteArray.size_append]; exact hz) (Nat.le_of_lt Q2.out.sz)).mono ?_
      intro e w5 hp
      rw [HM.out] at hp
      obtain ⟨rfl, hQ⟩ := Q2.out.write hp
      rw [← HT.out] at hQ
      have Q3 := hid hQ
      clear hQ hp
      go_wp2
      go_roundg (ds.length - (i + 1))
      case measure => omega
      case rel => exact ⟨i + 1, rfl, by omega, Nat.le_refl _, Q3⟩
    · have hie : i = ds.length := by omega
      subst hie
      have hq := H.out
      rw [List.take_length] at hq
      have HQ : Hid (QW w wo (declsL ds ++ rulesL rS (rs.take 0))) := hid (by simpa [rulesL] using hq)
      have hr2 := (hq.fr.cell (World.block_lt_of_cell? w _ hr1)).trans hr1
      rw [List.take_length] at hlen
      clear hq H
      go_wp2_with fail
      go_loopg [27] rs.length (fun g t27 wr => ∃ j : Nat, t27 = .int .i64 (j : Int) ∧ j ≤ rs.length ∧ rs.length - j ≤ g ∧ Hid (QW w wr (declsL ds ++ rulesL rS (rs.take j))))
      case atStart => exact ⟨0, rfl, by omega, by omega, HQ⟩
      case round =>
        clear HQ hr2 Q0
        obtain ⟨j, rfl, hj, hgj, H⟩ := hrel
        obtain ⟨wp, rfl⟩ : ∃ x : World, x = wr := ⟨_, rfl⟩
        have hlenr := rulesL_len rS (rs.take j) (fun r hr => (Hr.out r (List.mem_of_mem_take hr)).1)
        have hlenr2 : (rs.take j).length ≤ j := List.length_take_le _ _
        by_cases hlt : j < rs.length
        · have hlt' : (j : Int) < (rs.length : Int) := by omega
          obtain ⟨bl, off, rfl, hc⟩ := Kd.C_addr HR.out (by omega) (by decide)
          obtain ⟨cs, _, hK, hcell⟩ := hc j _ (List.getElem?_eq_getElem hlt)
          obtain ⟨A, c, A', c', rfl, la, ra, la', ra'⟩ := kr43_open hK
          have k0 := hcell 0 _ rfl
          have k1 := hcell 1 _ rfl
          have k2 := hcell 2 _ rfl
          have k3 := hcell 3 _ rfl
          have k4 := hcell 4 _ rfl
          have e5 : kr43.sz = 5 := rfl
          rw [e5] at k0 k1 k2 k3 k4
          have k0' : wp.cell? ⟨bl, off + j * 5, none⟩ = some (.string rs[j].f0.f0) := (H.out.fr.cell (World.block_lt_of_cell? w _ k0)).trans k0
          have k1' : wp.cell? ⟨bl, off + j * 5 + 1, none⟩ = some (.slice A rs[j].f0.f1.length c) := (H.out.fr.cell (World.block_lt_of_cell? w _ k1)).trans k1
          have k2' : wp.cell? ⟨bl, off + j * 5 + 2, none⟩ = some (.int .i64 rs[j].f1) := (H.out.fr.cell (World.block_lt_of_cell? w _ k2)).trans k2
          have k3' : wp.cell? ⟨bl, off + j * 5 + 3, none⟩ = some (.slice A' rs[j].f2.length c') := (H.out.fr.cell (World.block_lt_of_cell? w _ k3)).trans k3
          have k4' : wp.cell? ⟨bl, off + j * 5 + 4, none⟩ = some (.int .i64 rs[j].f3) := (H.out.fr.cell (World.block_lt_of_cell? w _ k4)).trans k4
          obtain ⟨hsz, hfs⟩ := Hr.out rs[j] (List.getElem_mem hlt)
          have HT := hid (rulesL_take rS rs j hlt)
          have HRA := hid ra
          have HRB := hid ra'
          obtain ⟨x, hx⟩ : ∃ x, x = rs[j] := ⟨_, rfl⟩
          rw [← hx] at k0' k1' k2' k3' k4' hsz hfs HT HRA HRB la la'
          obtain ⟨y, hy⟩ : ∃ y, y = bytesL (rS x) := ⟨_, rfl⟩
          have hys : y.size = (rS x).length := by subst hy; rfl
          have HM : Hid (Lib.strCells (y ++ (⟨#[10]⟩ : ByteArray)) = Lib.byteCells (rS x ++ [10])) := hid (by subst hy; unfold Lib.strCells; rw [ByteArray.data_append, Array.toList_append]; rfl)
          rw [← hy] at hfs
          have HF := hid hfs
          have g1 : (9223372036854775807 < y.size + 1) = False := eq_false (by omega)
          have hz : (declsL ds ++ rulesL rS (rs.take j)).length + (y.size + 1) ≤ 140737488355328 := by rw [List.length_append]; omega
          obtain ⟨⟨x0, x1⟩, x2, x3, x4⟩ := x
          simp only at k0' k1' k2' k3' k4' HF HRA HRB la la'
          have Q1 := hid (H.out.quiet ((Fr.refl (fun _ => False) wp).alloc (.cells #[.string x0, .slice A x1.length c, .int .i64 x2, .slice A' x3.length c', .int .i64 x4] 43)))
          clear hy hys hx k0 k1 k2 k3 k4 hc hcell hK hlenr hlenr2 ra ra' hfs hsz
          go_wp2_with fail
          refine (syntax_Rule_String.calls 3000 x0 A c x1 x2 A' c' x3 x4 y _ (Kd.C_below HRA.out Q1.out.fr) la (Kd.C_below HRB.out Q1.out.fr) la' HF.out (tab_below HG.out Q1.out.fr)).mono ?_
          rintro e w4 ⟨rfl, hb4⟩
          have Q2 := hid (Q1.out.quiet (Fr.quiet hb4))
          clear hb4
          go_wp2_with fail
          refine (WriteString_any _ _ (Lib.byteCells (declsL ds ++ rulesL rS (rs.take j))) _ _ Q2.out.bld (by rw [byteCells_len, ByteArray.size_append]; exact hz) (Nat.le_of_lt Q2.out.sz)).mono ?_
          intro e w5 hp
          rw [HM.out] at hp
          obtain ⟨rfl, hQ⟩ := Q2.out.write hp
          rw [List.append_assoc, ← HT.out] at hQ
          have Q3 := hid hQ
          clear hQ hp
          go_wp2
          go_roundg (rs.length - (j + 1))
          case measure => omega
          case rel => exact ⟨j + 1, rfl, by omega, Nat.le_refl _, Q3⟩
        · have hje : j = rs.length := by omega
          subst hje
          have hq := H.out
          rw [List.take_length] at hq
          have HQ := hid hq
          clear hq H
          go_wp2_with fail
          refine (Tryd.Builder_String_any w.heap.size w.heap.size _ _ HQ.out.bld (Nat.le_of_lt HQ.out.sz)).mono ?_
          rintro e w2 ⟨rfl, hb2⟩
          go_wp2
          go_ret
          exact ⟨rfl, HQ.out.fr.trans hb2⟩
end Go.Proofs.YtdbpboipiceifaaDoorPSP
