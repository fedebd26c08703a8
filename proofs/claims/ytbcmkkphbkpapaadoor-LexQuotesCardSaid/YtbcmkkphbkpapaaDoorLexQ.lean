import Derived.Test.YtbcmkkphbkpapaaDoorLexP
set_option linter.unusedVariables false
set_option linter.unusedSimpArgs false
namespace Go.Proofs.YtbcmkkphbkpapaaDoor
open Go.RowKit

theorem infoTok : (Tryd.prog.info? 38).map (fun i => (i.zero, i.size, i.bytes)) = some (some (.agg #[.int .i64 0, .string ⟨#[]⟩, .int .u64 0, .int .i64 0]), 4, 40) := by kernel_rfl
def tkCells (n : Nat) (t : Tk) : List Value := [.int .i64 (t.kind : Int), .string (bytesOf t.text), .int .u64 (t.num : Int), .int .i64 ((n - t.start : Nat) : Int)]
def tksCells (n : Nat) (ts : List Tk) : List Value := ts.flatMap (tkCells n)
theorem tksCells_snoc (n : Nat) (ts : List Tk) (t : Tk) : tksCells n (ts ++ [t]) = tksCells n ts ++ tkCells n t := by simp [tksCells, List.flatMap_append]

def AllPost (w : World) (s : ByteArray) (e : Ending) (w' : World) : Prop :=
  Below w.heap.size w w' ∧ match lexAll s.data.toList with
  | .ok ts => ts.length ≤ s.size + 1 ∧ ∃ v, e = .returned (.tuple #[v, .nilIface]) ∧ w'.ownsRow w.heap.size 38 4 v ts.length (tksCells s.size ts)
  | .error (tag, p) => ∃ f what, e = .returned (.tuple #[.slice none 0 0, faultV f]) ∧ FaultAt w' f tag (s.size - p : Nat) what .nilIface

theorem toks_grow {w w1 w2 : World} {s : ByteArray} {j' k n p g cp : Nat} {ts : List Tk} {t : List UInt8} {v : Value} {kk : Int}
    (X : RdrAt w1 w.heap.size s j' ∧ Below w.heap.size w w1 ∧ w1.ownsRow (w.heap.size + 1) 38 4 v ts.length (tksCells s.size ts) ∧ w.heap.size < w1.heap.size) (hkk : kk = (k : Int))
    (hown1 : w2.ownsRow (w.heap.size + 1) 38 4 (.slice (some ⟨g, 0, none⟩) (ts.length + 1) cp) (ts.length + 1) (tksCells s.size ts ++ [.int .i64 kk, .string (bytesOf t), .int .u64 (n : Int), .int .i64 ((s.size - p : Nat) : Int)]))
    (hg1 : (w1.alloc (.cells #[.int .i64 kk, .string (bytesOf t), .int .u64 (n : Int), .int .i64 ((s.size - p : Nat) : Int)] 38)).grownBy w2 v.ownBlock) :
    w2.cell? ⟨w1.heap.size, 0, none⟩ = some (.int .i64 kk) ∧ Hid (RdrAt w2 w.heap.size s j' ∧ Below w.heap.size w w2 ∧ w2.ownsRow (w.heap.size + 1) 38 4 (.slice (some ⟨g, 0, none⟩) (ts.length + 1) cp) (ts ++ [(⟨k, t, n, p⟩ : Tk)]).length (tksCells s.size (ts ++ [(⟨k, t, n, p⟩ : Tk)])) ∧ w.heap.size < w2.heap.size) := by
  subst hkk
  obtain ⟨hR, hB, hown, hsz⟩ := X
  have F1 : Fr (fun i => v.ownBlock = some i) w1 w2 := (((Fr.refl _ _).alloc _)).trans (Fr.grown hg1) (fun i hi h => h)
  have hob : ∀ i, v.ownBlock = some i → w.heap.size + 1 ≤ i ∧ i < w1.heap.size := fun i hi => ⟨(own_lt hown i hi).2, (own_lt hown i hi).1⟩
  refine ⟨?_, hR.keep F1 (fun h => by have := hob _ h; omega), hB.trans (F1.below (by omega) (fun i hi => by have := hob _ hi; omega)), ?_, by have := F1.size; omega⟩
  · have h2 := (Fr.grown hg1).block w1.heap.size (by simp) (fun e => by have := hob _ e; omega)
    rw [heap_alloc_new] at h2
    rw [cell_blk h2]
    rfl
  · rw [tksCells_snoc, List.length_append]
    exact hown1

set_option maxHeartbeats 8000000 in
set_option maxRecDepth 100000 in
theorem All_any {w : World} {s : ByteArray} (hs : s.size ≤ 1073741824) :
    Calls Tryd.prog 12 #[.string s] w (AllPost w s) := by
  have R0 : Hid (RdrAt (w.alloc (.cells #[.string s, .int .i64 0] 92)) w.heap.size s 0) := heap_alloc_new w _
  go_enter Tryd.func12, Tryd.ntmps12
  go_wp2_with fail
  go_loopg [5] (s.size + 1) (fun g v wr => ∃ (j : Nat) (ts : List Tk), j ≤ s.size ∧ s.size + 1 - j ≤ g ∧ ts.length ≤ j ∧ w.heap.size < wr.heap.size ∧ Hid (RdrAt wr w.heap.size s j ∧ Below w.heap.size w wr ∧ wr.ownsRow (w.heap.size + 1) 38 4 v ts.length (tksCells s.size ts) ∧ lexAll s.data.toList = (lexAll (s.data.toList.drop j)).map (fun us => ts ++ us)))
  case atStart =>
    have E0 : lexAll s.data.toList = (lexAll (s.data.toList.drop 0)).map (fun us => [] ++ us) := by
      simp only [List.drop_zero, List.nil_append]
      cases lexAll s.data.toList <;> rfl
    exact ⟨0, [], by omega, by omega, by simp, by simp, hid ⟨R0.out, (Below.refl _ _).alloc (Nat.le_refl _) _, own_nil _ _ _ _, E0⟩⟩
  case round =>
    obtain ⟨j, ts, hj, hg, hts, hsz, H⟩ := hrel
    obtain ⟨wo, rfl⟩ : ∃ x : World, x = wr := ⟨_, rfl⟩
    have HF := hid (next_fine (s.data.toList.drop j))
    have HS := hid (skip_len false (s.data.toList.drop j))
    have HE := H.out.2.2.2
    rw [lexAll_step (s.data.toList.drop j)] at HE
    have HN := hid (next_any H.out.1 hj hs)
    cases ho : nextS (s.data.toList.drop j) with
    | bad tag p =>
      rw [ho] at HE
      have HL : Hid (lexAll s.data.toList = .error (tag, p)) := HE
      have HO := hid ho
      clear HE ho
      go_wp2_with fail
      refine HN.out.mono ?_
      rw [HO.out]
      rintro e w1 ⟨f, what, rfl, hlf, hA, hF⟩
      have HA := hid hA
      have HB : Hid (Below w.heap.size w w1) := H.out.2.1.trans (hF.below (by omega) (fun i hi => by omega))
      have hz := hF.size
      clear hA hF
      go_wp2
      go_ret2
      refine ⟨HB.out.alloc (by omega) _, ?_⟩
      rw [HL.out]
      exact ⟨f, what, rfl, (Lib.alloc_old w1 _ f (blk_lt HA.out)).trans HA.out⟩
    | tok k t n p r =>
      rw [ho] at HE
      have HF2 := HF.out
      rw [ho] at HF2
      have HO := hid ho
      have HF3 := hid HF2
      have HE3 := hid HE
      clear HE ho HF HF2
      have hown := H.out.2.2.1
      have hob : ∀ g, u5.ownBlock = some g → w.heap.size + 1 ≤ g := fun g hg => (own_lt hown g hg).2
      go_wp2_with fail
      refine HN.out.mono ?_
      rw [HO.out]
      rintro e w1 ⟨rfl, j', hj', hr, hR, hF⟩
      have X : Hid (RdrAt w1 w.heap.size s j' ∧ Below w.heap.size w w1 ∧ w1.ownsRow (w.heap.size + 1) 38 4 u5 ts.length (tksCells s.size ts) ∧ w.heap.size < w1.heap.size) :=
        ⟨hR, H.out.2.1.trans (hF.below (by omega) (fun i hi => by omega)), hF.own hown (fun g hg h => by have := hob g hg; omega), by have := hF.size; omega⟩
      clear hown hF hR
      have hsz1 := X.out.2.2.2
      by_cases hk0 : k = 0
      · subst hk0
        have hl : Hid (lexAll s.data.toList = .ok (ts ++ [⟨0, t, n, p⟩])) := by
          show _ = _
          rw [HE3.out, if_pos rfl]
          rfl
        have hz : (w1.alloc (.cells #[.int .i64 0, .string (bytesOf t), .int .u64 (n : Int), .int .i64 ((s.size - p : Nat) : Int)] 38)).heap.size = w1.heap.size + 1 := by simp
        have hown := (X.out.2.2.1).alloc (.cells #[.int .i64 0, .string (bytesOf t), .int .u64 (n : Int), .int .i64 ((s.size - p : Nat) : Int)] 38)
        go_wp2_with (at_builtin; go_must (refine wp_app1 (W := w1.alloc (.cells #[.int .i64 0, .string (bytesOf t), .int .u64 (n : Int), .int .i64 ((s.size - p : Nat) : Int)] 38)) (w.heap.size + 1) rfl _ _ 27 38 _ 4 40 rfl Tryd.underlying27 infoTok rfl (by decide) (by decide) u5 ts.length (tksCells s.size ts) [.int .i64 0, .string (bytesOf t), .int .u64 (n : Int), .int .i64 ((s.size - p : Nat) : Int)] rfl (by rw [hz]; rfl) rfl (by simp [Value.oneCell']) hown (by simp; omega) (by omega) ?_); intro g cp w2 hown1 hg1 hor; have hT := toks_grow (k := 0) X.out rfl hown1 hg1; obtain ⟨d0, X2⟩ := hT; clear hown1 hg1 hor hown)
        go_ret2
        refine ⟨X2.out.2.1, ?_⟩
        rw [hl.out]
        refine ⟨by simp; omega, _, rfl, own_base X2.out.2.2.1 (fun g hg => by have := (own_lt X2.out.2.2.1 g hg).2; omega)⟩
      · have ek : ((k : Int) == 0) = false := by simpa using hk0
        have HK := hid hk0
        clear hk0
        have hz : (w1.alloc (.cells #[.int .i64 (k : Int), .string (bytesOf t), .int .u64 (n : Int), .int .i64 ((s.size - p : Nat) : Int)] 38)).heap.size = w1.heap.size + 1 := by simp
        have hown := (X.out.2.2.1).alloc (.cells #[.int .i64 (k : Int), .string (bytesOf t), .int .u64 (n : Int), .int .i64 ((s.size - p : Nat) : Int)] 38)
        go_wp2_with (at_builtin; go_must (refine wp_app1 (W := w1.alloc (.cells #[.int .i64 (k : Int), .string (bytesOf t), .int .u64 (n : Int), .int .i64 ((s.size - p : Nat) : Int)] 38)) (w.heap.size + 1) rfl _ _ 27 38 _ 4 40 rfl Tryd.underlying27 infoTok rfl (by decide) (by decide) u5 ts.length (tksCells s.size ts) [.int .i64 (k : Int), .string (bytesOf t), .int .u64 (n : Int), .int .i64 ((s.size - p : Nat) : Int)] rfl (by rw [hz]; rfl) rfl (by simp [Value.oneCell']) hown (by simp; omega) (by omega) ?_); intro g cp w2 hown1 hg1 hor; have hT := toks_grow (k := k) X.out rfl hown1 hg1; obtain ⟨d0, X2⟩ := hT; clear hown1 hg1 hor hown)
        have hl : Hid (lexAll s.data.toList = (lexAll (s.data.toList.drop j')).map (fun us => (ts ++ [⟨k, t, n, p⟩]) ++ us)) := by
          show _ = _
          rw [HE3.out, if_neg HK.out, hr]
          cases lexAll r <;> simp [Except.map]
        have hlt : j < j' := by
          rcases HF3.out with h | h
          · exact absurd h.1 HK.out
          · have h1 := h.2.2.2
            have h2 := HS.out
            rw [← hr, drop_len] at h1
            rw [drop_len] at h2
            omega
        have hsz2 := X2.out.2.2.2
        go_roundg (s.size + 1 - j')
        case measure => omega
        case rel => exact ⟨j', ts ++ [⟨k, t, n, p⟩], hj', Nat.le_refl _, by simp; omega, hsz2, hid ⟨X2.out.1, X2.out.2.1, X2.out.2.2.1, hl.out⟩⟩

end Go.Proofs.YtbcmkkphbkpapaaDoor
