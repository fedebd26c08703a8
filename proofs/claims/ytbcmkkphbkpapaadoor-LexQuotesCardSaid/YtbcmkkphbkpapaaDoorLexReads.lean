import Derived.Test.YtbcmkkphbkpapaaDoorLexH
set_option linter.unusedVariables false
set_option linter.unusedSimpArgs false
namespace Go.Proofs.YtbcmkkphbkpapaaDoor
open Go.RowKit

theorem TksAt.keep {F : Nat → Prop} {w w' : World} {g sz : Nat} {ts : List Tk} (h : TksAt w g sz ts) (hf : Fr F w w') (hg : ¬ F g) : TksAt w' g sz ts := by
  intro i t ht
  obtain ⟨h0, h1, h2, h3⟩ := h i t ht
  exact ⟨hf.cell h0 hg, hf.cell h1 hg, hf.cell h2 hg, hf.cell h3 hg⟩

set_option maxHeartbeats 8000000 in
set_option maxRecDepth 100000 in
theorem LexReads_any {w : World} {s : ByteArray} (hE : ErrT w) : Calls Tryd.prog 4 #[.string s] w (RetB w (.bool true)) := by
  have HE := hid hE
  clear hE
  by_cases h300 : 300 < s.size
  · have h3 : 300 < (s.size : Int) := by omega
    go_enter Tryd.func4, Tryd.ntmps4
    go_wp2_with fail
    refine (head_any _).mono ?_
    rintro e w1 ⟨rfl, hb1⟩
    have HB := hid hb1
    clear hb1
    go_wp2
    go_ret
    exact ⟨rfl, HB.out⟩
  · have h3 : ¬ 300 < (s.size : Int) := by omega
    have hfine := lex_fine s.data.toList
    cases hl : lexAll s.data.toList with
    | error e =>
      obtain ⟨tag, p⟩ := e
      rw [hl] at hfine
      obtain ⟨htag, hp⟩ := hfine
      have hp' : p ≤ s.size := by rw [Array.length_toList] at hp; exact hp
      have HL := hid hl
      clear hl hp
      rcases htag with rfl | rfl
      all_goals
        go_enter Tryd.func4, Tryd.ntmps4
        go_wp2_with fail
        refine (head_any _).mono ?_
        rintro e w1 ⟨rfl, hb1⟩
        have HB := hid hb1
        clear hb1
        go_wp2_with fail
        refine (All_any (by omega)).mono ?_
        rintro e w2 ⟨hb2, h⟩
        rw [HL.out] at h
        obtain ⟨f, what, rfl, hf⟩ := h
        have HB2 := hid (HB.out.trans (hb2.mono HB.out.size))
        have HF := hid hf
        clear hb2 hf
        go_wp2_with fail
        refine (Of_fault (HE.out.below HB2.out) HF.out).mono ?_
        rintro e w3 ⟨rfl, hb3⟩
        have HF3 := hid (HF.out.below hb3)
        have HB3 := hid (HB2.out.trans (hb3.mono HB2.out.size))
        clear hb3
        go_wp2_with fail
        refine (At_fault (HE.out.below HB3.out) HF3.out).mono ?_
        rintro e w4 ⟨rfl, hb4⟩
        have HF4 := hid (HF3.out.below hb4)
        have HB4 := hid (HB3.out.trans (hb4.mono HB3.out.size))
        clear hb4
        go_wp2_with fail
        refine (At_fault (HE.out.below HB4.out) HF4.out).mono ?_
        rintro e w5 ⟨rfl, hb5⟩
        have HB5 := hid (HB4.out.trans (hb5.mono HB4.out.size))
        clear hb5
        have hle : ((s.size - p : Nat) : Int) ≤ (s.size : Int) := by omega
        go_wp2
        go_ret
        exact ⟨rfl, HB5.out⟩
    | ok ts =>
      rw [hl] at hfine
      obtain ⟨⟨us, hus⟩, hlen, hall, hrise⟩ := hfine
      have hne : ts ≠ [] := by rw [hus]; simp
      have hpos : 0 < ts.length := List.length_pos_iff.2 hne
      have hts : ts.length ≤ 301 := by
        have : s.data.toList.length = s.size := by rw [Array.length_toList]; rfl
        omega
      have HLast : Hid (ts[ts.length - 1]? = some ⟨0, [], 0, 0⟩) := by
        show _ = _
        rw [hus]
        simp
      have HAll := hid hall
      have HRise := hid hrise
      have HL := hid hl
      clear hl hus hlen hall hrise
      go_enter Tryd.func4, Tryd.ntmps4
      go_wp2_with fail
      refine (head_any _).mono ?_
      rintro e w1 ⟨rfl, hb1⟩
      have HB := hid hb1
      clear hb1
      go_wp2_with fail
      refine (All_any (by omega)).mono ?_
      rintro e w2 ⟨hb2, h⟩
      rw [HL.out] at h
      obtain ⟨_, v, rfl, hown⟩ := h
      have HB2 := hid (HB.out.trans (hb2.mono HB.out.size))
      obtain ⟨g, cap, rfl, hcap, hg, hBg, hT⟩ := toks_at hown hne
      have hgw : w.heap.size ≤ g := by have := HB.out.size; omega
      have HT := hid hT
      clear hown hT hb2 hBg hne
      go_wp2_with fail
      go_loopg [48] ts.length (fun n t48 wr => ∃ i : Nat, t48 = .int .i64 (i : Int) ∧ i ≤ ts.length ∧ ts.length - i ≤ n ∧ g < wr.heap.size ∧ Hid (TksAt wr g s.size ts ∧ Below w.heap.size w wr))
      case atStart => exact ⟨0, rfl, by omega, by omega, hg, hid ⟨HT.out, HB2.out⟩⟩
      case round =>
        obtain ⟨i, rfl, hi, hgi, hgr, H⟩ := hrel
        obtain ⟨wo, rfl⟩ : ∃ x : World, x = wr := ⟨_, rfl⟩
        by_cases hlt : i < ts.length
        · obtain ⟨t, ht⟩ : ∃ t, ts[i]? = some t := ⟨_, List.getElem?_eq_getElem hlt⟩
          obtain ⟨a0, a1, a2, a3⟩ := H.out.1 i t ht
          obtain ⟨m1, m2, m3⟩ := HAll.out i t ht
          have Ht := hid ht
          clear ht
          have hkb : ¬ (t.kind : Int) < 0 := by omega
          have hkt : ¬ 5 < (t.kind : Int) := by omega
          have hway : ((t.kind : Int) == 0) = true ∧ ((i : Int) == (ts.length : Int) - 1) = true ∨ ((t.kind : Int) == 0) = false ∧ ((i : Int) == (ts.length : Int) - 1) = false := by
            by_cases hl : i + 1 = ts.length
            · have hk0 : t.kind = 0 := m3.2 hl
              exact .inl ⟨by simp [hk0], by simp; omega⟩
            · have hk0 : ¬ t.kind = 0 := fun h => hl (m3.1 h)
              exact .inr ⟨by simp [hk0], by simp; omega⟩
          have hprev : (0 < i ∧ ∃ q : Nat, wo.cell? ⟨g, (i - 1) * 4 + 3, none⟩ = some (.int .i64 (q : Int)) ∧ ¬ ((s.size - t.start : Nat) : Int) ≤ (q : Int)) ∨ i = 0 := by
            by_cases h0 : 0 < i
            · left
              obtain ⟨u, hu⟩ : ∃ u, ts[i - 1]? = some u := ⟨_, List.getElem?_eq_getElem (by omega)⟩
              have h1 := HRise.out (i - 1) u t hu (by rw [show i - 1 + 1 = i by omega]; exact Ht.out)
              have h2 := (HAll.out (i - 1) u hu).2.1
              rw [Array.length_toList] at h2
              have h4 : s.data.size = s.size := rfl
              exact ⟨h0, s.size - u.start, (H.out.1 (i - 1) u hu).2.2.2, by omega⟩
            · exact .inr (by omega)
          clear m3
          have hfr : ∀ o n, Hid (TksAt ((wo.alloc o).drewN n) g s.size ts ∧ Below w.heap.size w ((wo.alloc o).drewN n)) := fun o n =>
            ⟨H.out.1.keep (((Fr.refl (fun _ => False) wo).alloc o).drewN n) (fun h => h), H.out.2.trans ((((Fr.refl (fun _ => False) wo).alloc o).drewN n).below (by omega) (fun i hi => hi.elim))⟩
          rcases hprev with ⟨h0, q, hq, hle⟩ | h0
          · have D1 := hid (show (((s.size - t.start : Nat) : Int) ≤ (q : Int)) = False from eq_false (by omega))
            have D3 := hid (show ((t.kind : Int) < 0) = False from eq_false (by omega))
            have D4 := hid (show ((5 : Int) < (t.kind : Int)) = False from eq_false (by omega))
            rcases hway with ⟨e1, e2⟩ | ⟨e1, e2⟩
            all_goals
              have h0' : 0 < (i : Int) := by omega
              go_wp2_with fail
              have W1 : IntKind.i64.wrap ((i : Int) - 1) = (i : Int) - 1 := IntWalk.i64_in _ (by omega)
              have W2 : (0 : Int) ≤ (i : Int) - 1 := by omega
              have W3 : ((i : Int) - 1).toNat = i - 1 := by omega
              have W4 : (i : Int) - 1 < (ts.length : Int) := by omega
              have W5 : 1 ≤ (i : Int) := by omega
              have D1 := D1.out
              have D3 := D3.out
              have D4 := D4.out
              go_quiet (fail)
              clear W1 W2 W3 D1 D3 D4
              go_wp2
              go_roundg (ts.length - (i + 1))
              case measure => omega
              case rel => exact ⟨i + 1, rfl, by omega, Nat.le_refl _, by simp; omega, hfr _ _⟩
          · have D2 := hid (show ((0 : Int) < (i : Int)) = False from eq_false (by omega))
            have D3 := hid (show ((t.kind : Int) < 0) = False from eq_false (by omega))
            have D4 := hid (show ((5 : Int) < (t.kind : Int)) = False from eq_false (by omega))
            have H0 := hid h0
            clear h0
            rcases hway with ⟨e1, e2⟩ | ⟨e1, e2⟩
            all_goals
              go_wp2_with fail
              have D2 := D2.out
              have D5 : (0 < i) = False := eq_false (by have := H0.out; omega)
              have D3 := D3.out
              have D4 := D4.out
              go_quiet (fail)
              clear D2 D3 D4 D5
              go_wp2
              go_roundg (ts.length - (i + 1))
              case measure => omega
              case rel => exact ⟨i + 1, rfl, by omega, Nat.le_refl _, by simp; omega, hfr _ _⟩
        · have hie : i = ts.length := by omega
          obtain ⟨a0, a1, a2, a3⟩ := H.out.1 (ts.length - 1) _ HLast.out
          subst hie
          go_wp2
          go_ret
          exact ⟨rfl, H.out.2⟩

end Go.Proofs.YtbcmkkphbkpapaaDoor
