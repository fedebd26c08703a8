import Derived.Test.YtbcmkkphbkpapaaDoorLexJ
import Derived.Test.YtbcmkkphbkpapaaDoorLexReads
set_option linter.unusedVariables false
set_option linter.unusedSimpArgs false
namespace Go.Proofs.YtbcmkkphbkpapaaDoor
open Go.RowKit

theorem AllPost.shape {w w' : World} {s : ByteArray} {e : Ending} (h : AllPost w s e w') : ∃ v er, e = .returned (.tuple #[v, er]) ∧ Below w.heap.size w w' := by
  obtain ⟨hb, h⟩ := h
  cases hl : lexAll s.data.toList with
  | ok ts => rw [hl] at h; obtain ⟨_, v, he, _⟩ := h; exact ⟨_, _, he, hb⟩
  | error e0 => obtain ⟨t, p⟩ := e0; rw [hl] at h; obtain ⟨f, wh, he, _⟩ := h; exact ⟨_, _, he, hb⟩
theorem join_data (a b : ByteArray) : (a ++ ⟨#[10]⟩ ++ b).data.toList = a.data.toList ++ 10 :: b.data.toList := by simp
theorem join_size (a b : ByteArray) : (a ++ ⟨#[10]⟩ ++ b).size = a.size + 1 + b.size := by rw [ByteArray.size_append, ByteArray.size_append]; rfl
theorem list_size (a : ByteArray) : a.data.toList.length = a.size := by rw [Array.length_toList]; rfl
theorem TksAt.below {w w' : World} {g sz : Nat} {ts : List Tk} (h : TksAt w g sz ts) (hb : Below w.heap.size w w') : TksAt w' g sz ts := h.keep (Fr.quiet hb) (fun h => h)

set_option maxHeartbeats 8000000 in
set_option maxRecDepth 100000 in
theorem joins_err {w : World} {a b : ByteArray} (ha : a.size ≤ 200) (hb : b.size ≤ 200) {tag p : Nat} (hl : lexAll a.data.toList = .error (tag, p)) :
    Calls Tryd.prog 5 #[.string a, .string b] w (RetB w (.bool true)) := by
  have HL := hid hl
  clear hl
  have ha' : ¬ 200 < (a.size : Int) := by omega
  have hb' : ¬ 200 < (b.size : Int) := by omega
  have hs1 : ¬ a.size + (⟨#[10]⟩ : ByteArray).size > 9223372036854775807 := by show ¬ a.size + 1 > _; omega
  have hs2 : ¬ (a ++ ⟨#[10]⟩).size + b.size > 9223372036854775807 := by rw [ByteArray.size_append]; show ¬ a.size + 1 + b.size > _; omega
  have hsz := join_size a b
  have HA := hid (fun W => All_any (w := W) (s := a ++ ⟨#[10]⟩ ++ b) (by omega))
  clear hsz
  go_enter Tryd.func5, Tryd.ntmps5
  go_wp2_with fail
  refine (head_any _).mono ?_
  rintro e w1 ⟨rfl, hb1⟩
  have HB := hid hb1
  clear hb1
  go_wp2_with fail
  refine (All_any (by omega)).mono ?_
  rintro e w2 ⟨hb2, h⟩
  rw [HL.out] at h
  obtain ⟨f, what, rfl, hf⟩ := h
  have HB2 := hid (HB.out.trans (hb2.mono HB.out.size))
  clear hb2 hf
  go_wp2_with fail
  refine (All_any (by omega)).mono ?_
  intro e w3 h3
  obtain ⟨v3, e3, rfl, hb3⟩ := h3.shape
  have HB3 := hid (HB2.out.trans (hb3.mono HB2.out.size))
  clear hb3 h3
  go_wp2_with fail
  refine (HA.out _).mono ?_
  intro e w4 h4
  obtain ⟨v4, e4, rfl, hb4⟩ := h4.shape
  have HB4 := hid (HB3.out.trans (hb4.mono HB3.out.size))
  clear hb4 h4
  go_wp2
  go_ret
  exact ⟨rfl, HB4.out⟩

set_option maxHeartbeats 8000000 in
set_option maxRecDepth 100000 in
theorem joins_bad {w : World} {a b : ByteArray} (hE : ErrT w) (ha : a.size ≤ 200) (hb : b.size ≤ 200) {ts : List Tk} {tag p : Nat} (hl : lexAll a.data.toList = .ok ts) (hm : lexAll b.data.toList = .error (tag, p)) :
    Calls Tryd.prog 5 #[.string a, .string b] w (RetB w (.bool true)) := by
  have HE := hid hE
  have HL := hid hl
  have HM := hid hm
  have hp : p ≤ b.size := by
    have := lex_fine b.data.toList
    rw [hm, AllFine, list_size] at this
    exact this.2
  have HZ : Hid (lexAll (a ++ ⟨#[10]⟩ ++ b).data.toList = .error (tag, p)) := by
    show _ = _
    rw [join_data, lexAll_join _ _ _ _ rfl hl, hm]
    rfl
  clear hl hm hE
  obtain ⟨q, hq⟩ : ∃ q, q = b.size - p := ⟨_, rfl⟩
  have hsz := join_size a b
  have HQ : Hid ((((a ++ ⟨#[10]⟩ ++ b).size - p : Nat) : Int) = (a.size : Int) + 1 + (q : Int)) := by show _ = _; rw [hsz]; omega
  have HQ2 : Hid (((b.size - p : Nat) : Int) = (q : Int)) := by show _ = _; rw [hq]
  have ha' : ¬ 200 < (a.size : Int) := by omega
  have hb' : ¬ 200 < (b.size : Int) := by omega
  have hq200 : q ≤ 200 := by omega
  have hs1 : ¬ a.size + (⟨#[10]⟩ : ByteArray).size > 9223372036854775807 := by show ¬ a.size + 1 > _; omega
  have hs2 : ¬ (a ++ ⟨#[10]⟩).size + b.size > 9223372036854775807 := by rw [ByteArray.size_append]; show ¬ a.size + 1 + b.size > _; omega
  have HA := hid (fun W => All_any (w := W) (s := a ++ ⟨#[10]⟩ ++ b) (by omega))
  clear hsz hq
  go_enter Tryd.func5, Tryd.ntmps5
  go_wp2_with fail
  refine (head_any _).mono ?_
  rintro e w1 ⟨rfl, hb1⟩
  have HB := hid hb1
  clear hb1
  go_wp2_with fail
  refine (All_any (by omega)).mono ?_
  rintro e w2 ⟨hb2, h⟩
  rw [HL.out] at h
  obtain ⟨_, v2, rfl, hown⟩ := h
  have HB2 := hid (HB.out.trans (hb2.mono HB.out.size))
  clear hb2 hown
  go_wp2_with fail
  refine (All_any (by omega)).mono ?_
  rintro e w3 ⟨hb3, h⟩
  rw [HM.out] at h
  obtain ⟨f, what, rfl, hf⟩ := h
  rw [HQ2.out] at hf
  have HF := hid hf
  have HB3 := hid (HB2.out.trans (hb3.mono HB2.out.size))
  clear hb3 hf
  go_wp2_with fail
  refine (HA.out _).mono ?_
  rintro e w4 ⟨hb4, h⟩
  rw [HZ.out] at h
  obtain ⟨f2, what2, rfl, hf2⟩ := h
  rw [HQ.out] at hf2
  have HG := hid hf2
  have HF := hid (HF.out.below hb4)
  have HB4 := hid (HB3.out.trans (hb4.mono HB3.out.size))
  clear hb4 hf2
  go_wp2_with fail
  refine (Of_fault (HE.out.below HB4.out) HG.out).mono ?_
  rintro e w5 ⟨rfl, hb5⟩
  have HG := hid (HG.out.below hb5)
  have HF := hid (HF.out.below hb5)
  have HB5 := hid (HB4.out.trans (hb5.mono HB4.out.size))
  clear hb5
  go_wp2_with fail
  refine (Of_fault (HE.out.below HB5.out) HF.out).mono ?_
  rintro e w6 ⟨rfl, hb6⟩
  have HG := hid (HG.out.below hb6)
  have HF := hid (HF.out.below hb6)
  have HB6 := hid (HB5.out.trans (hb6.mono HB5.out.size))
  clear hb6
  go_wp2_with fail
  refine (At_fault (HE.out.below HB6.out) HG.out).mono ?_
  rintro e w7 ⟨rfl, hb7⟩
  have HF := hid (HF.out.below hb7)
  have HB7 := hid (HB6.out.trans (hb7.mono HB6.out.size))
  clear hb7
  go_wp2_with fail
  refine (At_fault (HE.out.below HB7.out) HF.out).mono ?_
  rintro e w8 ⟨rfl, hb8⟩
  have HB8 := hid (HB7.out.trans (hb8.mono HB7.out.size))
  clear hb8
  go_wp2
  go_ret
  exact ⟨ret_bool (by simp), HB8.out⟩

/-- The joined tokens, one by one. -/
theorem zs_left {n : Nat} {ts vs : List Tk} {i : Nat} {t : Tk} (ht : ts[i]? = some t) (hi : i + 1 < ts.length) : (ts.dropLast.map (Tk.up n) ++ vs)[i]? = some (t.up n) := by
  rw [List.getElem?_append_left (by simp; omega), List.getElem?_map, List.getElem?_dropLast, if_pos (by omega), ht]
  rfl
theorem zs_right {n : Nat} {ts vs : List Tk} {j : Nat} {t : Tk} (ht : vs[j]? = some t) : (ts.dropLast.map (Tk.up n) ++ vs)[ts.length - 1 + j]? = some t := by
  rw [List.getElem?_append_right (by simp), ← ht]
  congr 1
  simp
set_option maxHeartbeats 8000000 in
set_option maxRecDepth 100000 in
theorem joins_ok {w : World} {a b : ByteArray} (ha : a.size ≤ 200) (hb : b.size ≤ 200) {ts vs : List Tk} (hl : lexAll a.data.toList = .ok ts) (hm : lexAll b.data.toList = .ok vs) :
    Calls Tryd.prog 5 #[.string a, .string b] w (RetB w (.bool true)) := by
  have HL := hid hl
  have HM := hid hm
  obtain ⟨zs, hzs⟩ : ∃ zs, zs = ts.dropLast.map (Tk.up (b.size + 1)) ++ vs := ⟨_, rfl⟩
  have HZ : Hid (lexAll (a ++ ⟨#[10]⟩ ++ b).data.toList = .ok zs) := by
    show _ = _
    rw [join_data, lexAll_join _ _ _ _ rfl hl, hm, list_size, hzs]
    rfl
  have hfa := lex_fine a.data.toList
  have hfb := lex_fine b.data.toList
  rw [hl, AllFine, list_size] at hfa
  rw [hm, AllFine, list_size] at hfb
  obtain ⟨⟨us, hus⟩, hla, hfa1, _⟩ := hfa
  obtain ⟨⟨us2, hus2⟩, hlb, hfb1, _⟩ := hfb
  have hna : 0 < ts.length := by rw [hus]; simp
  have hnb : 0 < vs.length := by rw [hus2]; simp
  have hnz : zs.length = ts.length - 1 + vs.length := by rw [hzs]; simp
  have hz0 : zs ≠ [] := by intro h; rw [h] at hnz; simp at hnz; omega
  have ha0 : ts ≠ [] := by intro h; rw [h] at hna; simp at hna
  have hb0 : vs ≠ [] := by intro h; rw [h] at hnb; simp at hnb
  have HZS := hid hzs
  have hsz := join_size a b
  have HSZ := hid hsz
  have HFA := hid hfa1
  have HFB := hid hfb1
  have HNZ := hid hnz
  have hnz1 : zs.length ≤ ts.length - 1 + vs.length := by omega
  have hnz2 : ts.length - 1 + vs.length ≤ zs.length := by omega
  have hz0' := hid hz0
  have ha0' := hid ha0
  have hb0' := hid hb0
  have ha' : ¬ 200 < (a.size : Int) := by omega
  have hb' : ¬ 200 < (b.size : Int) := by omega
  have hs1 : ¬ a.size + (⟨#[10]⟩ : ByteArray).size > 9223372036854775807 := by show ¬ a.size + 1 > _; omega
  have hs2 : ¬ (a ++ ⟨#[10]⟩).size + b.size > 9223372036854775807 := by rw [ByteArray.size_append]; show ¬ a.size + 1 + b.size > _; omega
  have HA := hid (fun W => All_any (w := W) (s := a ++ ⟨#[10]⟩ ++ b) (by omega))
  have hne : ((zs.length : Int) != (ts.length : Int) + (vs.length : Int) - 1) = false := by simp; omega
  clear hsz hl hm hzs hus hus2 hfa1 hfb1 hnz hz0 ha0 hb0
  go_enter Tryd.func5, Tryd.ntmps5
  go_wp2_with fail
  refine (head_any _).mono ?_
  rintro e w1 ⟨rfl, hb1⟩
  have HB := hid hb1
  clear hb1
  go_wp2_with fail
  refine (All_any (by omega)).mono ?_
  rintro e w2 ⟨hb2, h⟩
  rw [HL.out] at h
  obtain ⟨_, v2, rfl, hown⟩ := h
  obtain ⟨g2, cap2, rfl, hcap2, hg2, hG2, hT2⟩ := toks_at hown ha0'.out
  have HT2 := hid hT2
  have HB2 := hid (HB.out.trans (hb2.mono HB.out.size))
  have hgw2 : w.heap.size ≤ g2 := by have := HB.out.size; omega
  clear hb2 hown hT2 hG2
  go_wp2_with fail
  refine (All_any (by omega)).mono ?_
  rintro e w3 ⟨hb3, h⟩
  rw [HM.out] at h
  obtain ⟨_, v3, rfl, hown⟩ := h
  obtain ⟨g3, cap3, rfl, hcap3, hg3, hG3, hT3⟩ := toks_at hown hb0'.out
  have HT2 := hid (HT2.out.below hb3)
  have HT3 := hid hT3
  have HB3 := hid (HB2.out.trans (hb3.mono HB2.out.size))
  have hgw3 : w.heap.size ≤ g3 := by have := HB2.out.size; omega
  have hg2 : g2 < w3.heap.size := by have := hb3.size; omega
  clear hb3 hown hT3 hG3
  go_wp2_with fail
  refine (HA.out _).mono ?_
  rintro e w4 ⟨hb4, h⟩
  rw [HZ.out] at h
  obtain ⟨_, v4, rfl, hown⟩ := h
  obtain ⟨g4, cap4, rfl, hcap4, hg4, hG4, hT4⟩ := toks_at hown hz0'.out
  rw [HSZ.out] at hT4
  have HT2 := hid (HT2.out.below hb4)
  have HT3 := hid (HT3.out.below hb4)
  have HT4 := hid hT4
  have HB4 := hid (HB3.out.trans (hb4.mono HB3.out.size))
  have hgw4 : w.heap.size ≤ g4 := by have := HB3.out.size; omega
  have hg2 : g2 < w4.heap.size := by have := hb4.size; omega
  have hg3 : g3 < w4.heap.size := by have := hb4.size; omega
  clear hb4 hown hT4 hG4
  go_wp2_with fail
  go_loopg [81] zs.length (fun n t81 wr => ∃ i : Nat, t81 = .int .i64 (i : Int) ∧ i ≤ zs.length ∧ zs.length - i ≤ n ∧ g2 < wr.heap.size ∧ g3 < wr.heap.size ∧ g4 < wr.heap.size ∧ Hid (TksAt wr g2 a.size ts ∧ TksAt wr g3 b.size vs ∧ TksAt wr g4 (a.size + 1 + b.size) zs ∧ Below w.heap.size w wr))
  case atStart => exact ⟨0, rfl, by omega, by omega, hg2, hg3, hg4, hid ⟨HT2.out, HT3.out, HT4.out, HB4.out⟩⟩
  case round =>
    clear HT2 HT3 HT4 HB4 hg2 hg3 hg4
    obtain ⟨i, rfl, hi, hgi, hg2, hg3, hg4, H⟩ := hrel
    obtain ⟨wo, rfl⟩ : ∃ x : World, x = wr := ⟨_, rfl⟩
    have hfr : ∀ W : World, Fr (fun _ => False) wo W → g2 < W.heap.size ∧ g3 < W.heap.size ∧ g4 < W.heap.size ∧ Hid (TksAt W g2 a.size ts ∧ TksAt W g3 b.size vs ∧ TksAt W g4 (a.size + 1 + b.size) zs ∧ Below w.heap.size w W) := fun W hW =>
      ⟨by have := hW.size; omega, by have := hW.size; omega, by have := hW.size; omega, H.out.1.keep hW (fun h => h), H.out.2.1.keep hW (fun h => h), H.out.2.2.1.keep hW (fun h => h), H.out.2.2.2.trans (hW.below (by omega) (fun i hi => hi.elim))⟩
    have HFR := hid hfr
    clear hfr
    by_cases hlt : i < zs.length
    · by_cases hx : i + 1 < ts.length
      · obtain ⟨t, ht⟩ : ∃ t, ts[i]? = some t := ⟨_, List.getElem?_eq_getElem (by omega)⟩
        have hz := zs_left (n := b.size + 1) (vs := vs) ht hx
        rw [← HZS.out] at hz
        obtain ⟨a0, a1, a2, a3⟩ := H.out.1 i t ht
        obtain ⟨b0, b1, b2, b3⟩ := H.out.2.2.1 i _ hz
        rw [show a.size + 1 + b.size - (t.up (b.size + 1)).start = a.size - t.start by simp [Tk.up]; omega] at b3
        simp only [Tk.up] at b0 b1 b2
        obtain ⟨q, hq⟩ : ∃ q, q = a.size - t.start := ⟨_, rfl⟩
        rw [← hq] at a3 b3
        have hlt' : (i : Int) < (ts.length : Int) - 1 := by omega
        clear hz ht hq
        go_wp2
        go_roundg (zs.length - (i + 1))
        case measure => omega
        case rel => exact ⟨i + 1, rfl, by omega, Nat.le_refl _, HFR.out _ (by repeat (first | exact Fr.refl _ _ | apply Fr.alloc))⟩
      · obtain ⟨j, hj⟩ : ∃ j, i = ts.length - 1 + j := ⟨i - (ts.length - 1), by omega⟩
        obtain ⟨t, ht⟩ : ∃ t, vs[j]? = some t := ⟨_, List.getElem?_eq_getElem (by omega)⟩
        have hz := zs_right (n := b.size + 1) (ts := ts) ht
        rw [← HZS.out, ← hj] at hz
        have htb := (HFB.out j t ht).2.1
        obtain ⟨a0, a1, a2, a3⟩ := H.out.2.1 j t ht
        obtain ⟨b0, b1, b2, b3⟩ := H.out.2.2.1 i _ hz
        obtain ⟨q, hq⟩ : ∃ q, q = b.size - t.start := ⟨_, rfl⟩
        rw [← hq] at a3
        rw [show ((a.size + 1 + b.size - t.start : Nat) : Int) = (q : Int) + ((a.size : Int) + 1) by omega] at b3
        have hq200 : q ≤ 200 := by omega
        have hlt' : ¬ (i : Int) < (ts.length : Int) - 1 := by omega
        have hjn : j < vs.length := by omega
        have W3 : ((i : Int) - (ts.length : Int) + 1).toNat = j := by omega
        have W4 : (i : Int) - (ts.length : Int) + 1 < (vs.length : Int) := by omega
        have W5 : 0 ≤ (i : Int) - (ts.length : Int) + 1 := by omega
        have hj' : i + 1 = ts.length + j := by omega
        clear hz ht hq hj hj' htb
        go_wp2
        go_roundg (zs.length - (i + 1))
        case measure => omega
        case rel => exact ⟨i + 1, rfl, by omega, Nat.le_refl _, HFR.out _ (by repeat (first | exact Fr.refl _ _ | apply Fr.alloc))⟩
    · have hl' : ¬ (i : Int) < (zs.length : Int) := by omega
      go_wp2
      go_ret
      exact ⟨rfl, H.out.2.2.2⟩

theorem joins_long {w : World} {a b : ByteArray} (h : 200 < a.size ∨ 200 < b.size) : Calls Tryd.prog 5 #[.string a, .string b] w (RetB w (.bool true)) := by
  by_cases ha : 200 < a.size
  · have ha' : 200 < (a.size : Int) := by omega
    clear h
    go_enter Tryd.func5, Tryd.ntmps5
    go_wp2_with fail
    refine (head_any _).mono ?_
    rintro e w1 ⟨rfl, hb1⟩
    have HB := hid hb1
    clear hb1
    go_wp2
    go_ret
    exact ⟨rfl, HB.out⟩
  · have ha' : ¬ 200 < (a.size : Int) := by omega
    have hb' : 200 < (b.size : Int) := by omega
    clear h
    go_enter Tryd.func5, Tryd.ntmps5
    go_wp2_with fail
    refine (head_any _).mono ?_
    rintro e w1 ⟨rfl, hb1⟩
    have HB := hid hb1
    clear hb1
    go_wp2
    go_ret
    exact ⟨rfl, HB.out⟩
theorem LexJoins_any {w : World} {a b : ByteArray} (hE : ErrT w) : Calls Tryd.prog 5 #[.string a, .string b] w (RetB w (.bool true)) := by
  by_cases h : 200 < a.size ∨ 200 < b.size
  · exact joins_long h
  · cases hl : lexAll a.data.toList with
    | error e => obtain ⟨t, p⟩ := e; exact joins_err (by omega) (by omega) hl
    | ok ts =>
      cases hm : lexAll b.data.toList with
      | error e => obtain ⟨t, p⟩ := e; exact joins_bad hE (by omega) (by omega) hl hm
      | ok vs => exact joins_ok (by omega) (by omega) hl hm
end Go.Proofs.YtbcmkkphbkpapaaDoor
