import Derived.Test.YtbcmkkphbkpapaaInternHead
set_option linter.unusedVariables false
set_option linter.unusedSimpArgs false
namespace Go.Proofs.Ytbcmkkphbkpapaa
open Go.RowKit Go.Maps

theorem few_facts {ss : List ByteArray} (h : fewB ss = true) : ss.length ≤ 60 ∧ ∀ k, k < ss.length → (ss.getD k ByteArray.empty).size ≤ 60 := by
  unfold fewB at h
  simp only [Bool.and_eq_true, List.all_eq_true, decide_eq_true_eq] at h
  refine ⟨h.2, fun k hk => ?_⟩
  have := h.1 ss[k] (List.getElem_mem _)
  simpa [hk] using this

def FindTo (w : World) (c : Int) (d : Bool) (e : Ending) (w' : World) : Prop := e = .returned (.tuple #[.int .i64 c, .bool d]) ∧ w = w'
def AtTo (w : World) (c : Int) (e : Ending) (w' : World) : Prop := e = .returned (.int .i64 c) ∧ w = w'
theorem find_at {w : World} {F : Nat → Prop} {b : Nat} {ss : List ByteArray} {s : ByteArray} {v : Value} (h : TabE w F b ss) (hs : s.size ≤ maxLen) (hrd : Rd w v ss.length 1 (sv ss)) :
    ∃ c kk d, Hid (Calls Try.prog 14 #[.pointer (some ⟨b, 0, none⟩), .string s] w (FindTo w c d)) ∧ Hid (∀ w', Below w.heap.size w w' → Calls Try.prog 13 #[v, .string s] w' (AtTo w' kk)) ∧
      ((d = true ∧ kk = c ∧ 0 ≤ c) ∨ (d = false ∧ kk = -1 ∧ c = 0)) := by
  have h1 := Find_any h hs
  have h2 : ∀ w', Below w.heap.size w w' → _ := fun w' hb => at_any (s := s) (hrd.below hb)
  unfold FindPost at h1
  unfold AtPost at h2
  by_cases e : s ∈ ss
  · have ha : atI ss s = ((ss.idxOf s : Nat) : Int) := by unfold atI; rw [if_pos e]
    rw [ha] at h2
    rw [if_pos e, decide_eq_true e] at h1
    exact ⟨_, _, _, h1, h2, .inl ⟨rfl, rfl, by omega⟩⟩
  · have ha : atI ss s = -1 := by unfold atI; rw [if_neg e]
    rw [ha] at h2
    rw [if_neg e, decide_eq_false e] at h1
    exact ⟨_, _, _, h1, h2, .inr ⟨rfl, rfl, rfl⟩⟩

theorem ids_early {w : World} {v : Value} {ss : List ByteArray} {other : ByteArray} {id : Int} (hrd : Rd w v ss.length 1 (sv ss)) (h : fewB ss = false ∨ 60 < other.size) :
    Calls Try.prog 4 #[v, .string other, .int .i64 id] w (TruePost w) := by
  cases hf : fewB ss with
  | false =>
    have hfew := few_any (w := w) hrd
    rw [hf] at hfew
    have Hfew := hid hfew
    clear hfew
    go_enter Try.func4, Try.ntmps4
    go_wp2_with fail
    refine head_any.mono ?_
    rintro e w1 ⟨rfl, B1⟩
    have HB1 := hid B1
    have hrd1 := few_any (hrd.below B1)
    rw [hf] at hrd1
    have Hfew := hid hrd1
    clear hrd1 B1
    go_wp2_with fail
    refine Hfew.out.mono ?_
    rintro e w2 ⟨rfl, rfl⟩
    go_wp2
    go_ret
    exact ⟨rfl, HB1.out⟩
  | true =>
    have h60 : 60 < other.size := by simpa [hf] using h
    go_enter Try.func4, Try.ntmps4
    go_wp2_with fail
    refine head_any.mono ?_
    rintro e w1 ⟨rfl, B1⟩
    have HB1 := hid B1
    have hrd1 := few_any (hrd.below B1)
    rw [hf] at hrd1
    have Hfew := hid hrd1
    clear hrd1 B1 h
    go_wp2_with fail
    refine Hfew.out.mono ?_
    rintro e w2 ⟨rfl, rfl⟩
    go_wp2
    go_ret
    exact ⟨rfl, HB1.out⟩

theorem ids_main {w : World} {v : Value} {ss : List ByteArray} {other : ByteArray} {id : Int} (hrd : Rd w v ss.length 1 (sv ss)) (hf : fewB ss = true) (h60 : other.size ≤ 60) :
    Calls Try.prog 4 #[v, .string other, .int .i64 id] w (TruePost w) := by
  have hlen := (few_facts hf).1
  have Hsz := hid (few_facts hf).2
  have h0 := hrd
  obtain ⟨A, c, rfl, hc, hn, hl, hcell0⟩ := hrd
  have Hrd := hid h0
  have Hcell := hid hcell0
  have Hf := hid hf
  clear h0 hl hcell0 hf
  go_enter Try.func4, Try.ntmps4
  go_wp2_with fail
  refine head_any.mono ?_
  rintro e w1 ⟨rfl, B1⟩
  have HB1 := hid B1
  have Hrd1 := hid (Hrd.out.below B1)
  have hrd1 := few_any Hrd1.out
  rw [Hf.out] at hrd1
  have Hfew := hid hrd1
  clear hrd1 B1
  go_wp2_with fail
  refine Hfew.out.mono ?_
  rintro e w2 ⟨rfl, rfl⟩
  go_wp2_with fail
  refine New_any.mono ?_
  rintro e w2 ⟨rfl, T2, B2, S2⟩
  have HB2 := hid (HB1.out.trans (B2.mono HB1.out.size))
  have HT2 := hid T2
  have Hrd2 := hid (Hrd1.out.below B2)
  have hs12 := B2.size
  clear T2 B2 S2
  go_wp2_with fail
  refine (Texts_any Hrd2.out (by omega)).mono ?_
  rintro e w3 ⟨tv, rfl, O3, B3⟩
  obtain ⟨TA, tc, rfl⟩ := own_slice O3
  have HO3 := hid O3
  have HB3 := hid (HB2.out.trans (B3.mono HB2.out.size))
  have HT3 := hid ((HT2.out.mono (G := fun i => w1.heap.size ≤ i ∧ i < w2.heap.size) (fun i hi h => ⟨h, hi⟩)).keep (Fr.of_below B3 B3.size) (fun i hi h => by omega))
  have Hlow := hid (fun g (hg : (Value.slice TA (textsOf ss).length tc).ownBlock = some g) => (own_lt HO3.out g hg).2)
  have hTl := textsOf_length ss
  have hs13 : w1.heap.size ≤ w3.heap.size := Nat.le_trans hs12 B3.size
  clear O3 B3
  go_wp2_with fail
  go_loopw [31] (fun i wr => ∃ k : Nat, k ≤ ss.length ∧ i = .int .i64 k ∧ Hid (TabE wr (fun i => w1.heap.size ≤ i ∧ (Value.slice TA (textsOf ss).length tc).ownBlock ≠ some i) (w1.heap.size + 1) (textsOf (ss.take k)) ∧ wr.ownsRow w2.heap.size 9 1 (.slice TA (textsOf ss).length tc) (textsOf ss).length (sv (textsOf ss)) ∧ Below w.heap.size w wr)) (fun i _ => ss.length - (intOf i).toNat)
  case atStart =>
    refine ⟨0, Nat.zero_le _, rfl, hid ⟨?_, HO3.out, HB3.out⟩⟩
    refine HT3.out.mono (fun i _ h => ⟨h.1, fun e => ?_⟩)
    have := Hlow.out i e
    omega
  case round =>
    obtain ⟨k, hk, rfl, H⟩ := hrel
    have hTk := Nat.le_trans (textsOf_length (ss.take k)) (List.length_take_le _ _)
    by_cases hlt : k < ss.length
    · obtain ⟨b, off, rfl, hcell⟩ := Hcell.out k (by omega)
      have ck := hcell k _ (sv_get hlt)
      have ck' := (H.out.2.2.cell (World.block_lt_of_cell? w _ ck)).trans ck
      obtain ⟨x, hx⟩ : ∃ x, x = ss.getD k ByteArray.empty := ⟨_, rfl⟩
      rw [← hx] at ck'
      have hat := at_texts hlt
      have hTT := textsOf_take hlt
      rw [← hx] at hat hTT
      have Hat := hid hat
      have HTT := hid hTT
      have hxs : x.size ≤ 60 := by rw [hx]; exact Hsz.out k hlt
      clear hx hcell ck hat hTT
      go_wp2_with fail
      refine (ID_to (i := atI (textsOf ss) x) (ss' := textsOf (ss.take (k + 1))) H.out.1 (by unfold maxLen; omega) (by omega) Hat.out.symm HTT.out.symm).mono ?_
      rintro e w4 ⟨rfl, T4, F4⟩
      have HO4 := hid (F4.own H.out.2.1 (fun g hg h => h.2 hg))
      have HB4 := hid (H.out.2.2.trans (F4.below H.out.2.2.size (fun i h => by have := HB1.out.size; omega)))
      have HT4 := hid (T4.mono (G := fun i => w1.heap.size ≤ i ∧ (Value.slice TA (textsOf ss).length tc).ownBlock ≠ some i) (fun i _ h => by
        rcases h with h | h
        · exact h
        · refine ⟨?_, fun e => ?_⟩
          · have h1 := H.out.1
            obtain ⟨_, _, _, h1⟩ := h1
            have h2 := blk_lt h1.blk
            omega
          · have := (own_lt H.out.2.1 i e).1
            omega))
      clear T4 F4
      go_wp2_with fail
      refine (at_any (Rd.own HO4.out (by omega))).mono ?_
      rintro e w5 ⟨rfl, rfl⟩
      go_wp2
      go_roundw
      case rel => exact ⟨k + 1, by omega, by go_num, hid ⟨HT4.out, HO4.out, HB4.out⟩⟩
      case measure => simp [intOf]; omega
    · have hk' : ss.take k = ss := List.take_of_length_le (by omega)
      rw [hk'] at H
      clear hk'
      have HFA := find_at (w := wr) H.out.1 (show other.size ≤ maxLen by unfold maxLen; omega) (Rd.own H.out.2.1 (by omega))
      obtain ⟨c, kk, d, HF, HA, hcase⟩ := HFA
      have hT32 : (textsOf ss).length < 4294967296 := by omega
      rcases hcase with ⟨rfl, rfl, hc0⟩ | ⟨rfl, rfl, rfl⟩
      all_goals
        by_cases hr : 0 ≤ id ∧ id < (textsOf ss).length
        · obtain ⟨hr0, hr1⟩ := hr
          obtain ⟨j, rfl⟩ := Int.eq_ofNat_of_zero_le hr0
          have hj : j < (textsOf ss).length := by omega
          have htx := Text_in H.out.1 hr0 hr1 hT32
          rw [Int.toNat_natCast] at htx
          obtain ⟨g, off, hTA, hcw⟩ := (Rd.own H.out.2.1 (by omega)).cells (j := j) (by omega)
          have hTA' : TA = some ⟨g, off, none⟩ := hTA
          subst hTA'
          have ct := hcw j _ (sv_get hj)
          obtain ⟨y, hy⟩ : ∃ y, y = (textsOf ss).getD j ByteArray.empty := ⟨_, rfl⟩
          rw [← hy] at ct htx
          have Htx := hid htx
          clear hy htx hcw hTA
          go_wp2_with fail
          refine HF.out.mono ?_
          rintro e w4 ⟨rfl, rfl⟩
          go_wp2_with fail
          refine (HA.out _ (Below.refl _ _)).mono ?_
          rintro e w4 ⟨rfl, rfl⟩
          go_wp2_with fail
          refine (Len_any H.out.1).mono ?_
          rintro e w4 ⟨rfl, rfl⟩
          go_wp2_with fail
          refine Htx.out.mono ?_
          rintro e w4 ⟨rfl, rfl⟩
          go_wp2
          go_ret
          exact ⟨rfl, H.out.2.2⟩
        · have hr' : id < 0 ∨ (textsOf ss).length ≤ id := by omega
          have Htx := hid (Text_out H.out.1 hr')
          rcases hr' with hr' | hr'
          all_goals
            clear hr
            go_wp2_with fail
            refine HF.out.mono ?_
            rintro e w4 ⟨rfl, rfl⟩
            go_wp2_with fail
            refine (HA.out _ (Below.refl _ _)).mono ?_
            rintro e w4 ⟨rfl, rfl⟩
            go_wp2_with fail
            refine (Len_any H.out.1).mono ?_
            rintro e w4 ⟨rfl, rfl⟩
            go_wp2_with fail
            refine Htx.out.mono ?_
            rintro e w4 ⟨rfl, rfl⟩
            go_wp2
            go_ret
            exact ⟨rfl, H.out.2.2⟩

theorem ids_walk {w : World} {v : Value} {ss : List ByteArray} {other : ByteArray} {id : Int} (hrd : Rd w v ss.length 1 (sv ss)) (_hb : ss.length * 16 ≤ 140737488351232) (_hs : ∀ s ∈ ss, s.size ≤ maxLen) (_ho : other.size ≤ 140737488351232) (_h1 : -9223372036854775808 ≤ id) (_h2 : id ≤ 9223372036854775807) :
    Calls Try.prog 4 #[v, .string other, .int .i64 id] w (TruePost w) := by
  cases hf : fewB ss with
  | false => exact ids_early hrd (.inl hf)
  | true =>
    by_cases h60 : other.size ≤ 60
    · exact ids_main hrd hf h60
    · exact ids_early hrd (.inr (by omega))

end Go.Proofs.Ytbcmkkphbkpapaa
