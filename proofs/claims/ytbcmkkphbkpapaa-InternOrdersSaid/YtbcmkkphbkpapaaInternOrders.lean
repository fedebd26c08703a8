import Derived.Test.YtbcmkkphbkpapaaInternIDs
set_option linter.unusedVariables false
set_option linter.unusedSimpArgs false
namespace Go.Proofs.Ytbcmkkphbkpapaa
open Go.RowKit Go.Maps

theorem ords_early {w : World} {v : Value} {ss : List ByteArray} {a b : Int} (hrd : Rd w v ss.length 1 (sv ss)) (hf : fewB ss = false) :
    Calls Try.prog 3 #[v, .int .i64 a, .int .i64 b] w (TruePost w) := by
  go_enter Try.func3, Try.ntmps3
  go_wp2_with fail
  refine head_any.mono ?_
  rintro e w1 ⟨rfl, B1⟩
  have HB1 := hid B1
  have hrd1 := few_any (hrd.below B1)
  rw [hf] at hrd1
  have Hfew := hid hrd1
  clear hrd1 B1
  go_wp2_with fail
  refine Hfew.out.mono ?_
  rintro e w2 ⟨rfl, rfl⟩
  go_wp2
  go_ret
  exact ⟨rfl, HB1.out⟩

def CmpTo (w : World) (c : Int) (e : Ending) (w' : World) : Prop := e = .returned (.int .i64 c) ∧ w = w'
/-- Two texts of the table, compared: the three ways. -/
theorem cmp_ways {w3 : World} {F : Nat → Prop} {t : Nat} {ss : List ByteArray} {i j : Nat} {x y : ByteArray} (h : TabE w3 F t ss) (hn : ss.length < 4294967296) (hi : i < ss.length) (hj : j < ss.length) (hx : x = ss.getD i ByteArray.empty) (hy : y = ss.getD j ByteArray.empty) :
    ∃ c, Hid (∀ w, Fr (fun _ => False) w3 w → Calls Try.prog 12 #[.pointer (some ⟨t, 0, none⟩), .int .i64 i, .int .i64 j] w (CmpTo w c)) ∧
      ((c = -1 ∧ Op.bytesLess x.toList y.toList = true ∧ (x.toList == y.toList) = false) ∨ (c = 0 ∧ Op.bytesLess x.toList y.toList = false ∧ (x.toList == y.toList) = true) ∨ (c = 1 ∧ Op.bytesLess x.toList y.toList = false ∧ (x.toList == y.toList) = false)) := by
  have hc : ∀ w, Fr (fun _ => False) w3 w → _ := fun w hw => Compare_any (w := w) (a := i) (b := j) (h.keep hw (fun _ _ f => f)) hn (by omega) (by omega) (by omega) (by omega)
  have e : cmpI ss i j = cmpS x y := by
    unfold cmpI
    rw [if_pos ⟨by omega, by omega⟩, if_pos ⟨by omega, by omega⟩, Int.toNat_natCast, Int.toNat_natCast, hx, hy]
  unfold CmpPost at hc
  rw [e] at hc
  refine ⟨_, hc, ?_⟩
  unfold cmpS
  rw [ByteArray.toList_eq, ByteArray.toList_eq]
  rcases cmp_total x.data.toList y.data.toList with h | h | h
  · exact .inl ⟨h.1, h.2.1, h.2.2.1⟩
  · exact .inr (.inl ⟨h.1, h.2.1, h.2.2.1⟩)
  · exact .inr (.inr ⟨h.1, h.2.1, h.2.2.1⟩)

theorem cmp_back {w3 : World} {F : Nat → Prop} {t : Nat} {ss : List ByteArray} {a b : Int} (h : TabE w3 F t ss) (hn : ss.length < 4294967296) (hab : -9223372036854775808 ≤ a ∧ a ≤ 9223372036854775807 ∧ -9223372036854775808 ≤ b ∧ b ≤ 9223372036854775807) :
    ∃ c, Hid (∀ w, Fr (fun _ => False) w3 w → Calls Try.prog 12 #[.pointer (some ⟨t, 0, none⟩), .int .i64 a, .int .i64 b] w (CmpTo w c)) ∧
      Hid (∀ w, Fr (fun _ => False) w3 w → Calls Try.prog 12 #[.pointer (some ⟨t, 0, none⟩), .int .i64 b, .int .i64 a] w (CmpTo w (-c))) ∧
      ((0 ≤ a ∧ a < ss.length ∧ 0 ≤ b ∧ b < ss.length ∧ -1 ≤ c ∧ c ≤ 1) ∨ (0 ≤ a ∧ a < ss.length ∧ (b < 0 ∨ ss.length ≤ b) ∧ c = 1) ∨ ((a < 0 ∨ ss.length ≤ a) ∧ 0 ≤ b ∧ b < ss.length ∧ c = -1) ∨
        ((a < 0 ∨ ss.length ≤ a) ∧ (b < 0 ∨ ss.length ≤ b) ∧ ((a < b ∧ decide (b < a) = false ∧ c = -1) ∨ (a = b ∧ c = 0) ∨ (b < a ∧ decide (a < b) = false ∧ c = 1)))) := by
  have h1 : ∀ w, Fr (fun _ => False) w3 w → _ := fun w hw => Compare_any (w := w) (a := a) (b := b) (h.keep hw (fun _ _ f => f)) hn (by omega) (by omega) (by omega) (by omega)
  have h2 : ∀ w, Fr (fun _ => False) w3 w → _ := fun w hw => Compare_any (w := w) (a := b) (b := a) (h.keep hw (fun _ _ f => f)) hn (by omega) (by omega) (by omega) (by omega)
  unfold CmpPost at h1 h2
  rw [cmpI_anti] at h2
  refine ⟨_, h1, h2, ?_⟩
  have hr := cmpS_range (ss.getD a.toNat ByteArray.empty) (ss.getD b.toNat ByteArray.empty)
  by_cases ha : inR ss a <;> by_cases hb : inR ss b
  · left
    have e : cmpI ss a b = cmpS (ss.getD a.toNat ByteArray.empty) (ss.getD b.toNat ByteArray.empty) := by unfold cmpI; rw [if_pos ha, if_pos hb]
    rw [e]
    exact ⟨ha.1, ha.2, hb.1, hb.2, by omega, by omega⟩
  · right; left
    exact ⟨ha.1, ha.2, by unfold inR at hb; omega, by unfold cmpI; rw [if_pos ha, if_neg hb]⟩
  · right; right; left
    exact ⟨by unfold inR at ha; omega, hb.1, hb.2, by unfold cmpI; rw [if_neg ha, if_pos hb]⟩
  · right; right; right
    refine ⟨by unfold inR at ha; omega, by unfold inR at hb; omega, ?_⟩
    have e : cmpI ss a b = if a < b then -1 else if a > b then 1 else 0 := by unfold cmpI; rw [if_neg ha, if_neg hb]
    rw [e]
    rcases Int.lt_trichotomy a b with k | k | k
    · exact .inl ⟨k, by simp; omega, if_pos k⟩
    · exact .inr (.inl ⟨k, by rw [if_neg (by omega), if_neg (by omega)]⟩)
    · exact .inr (.inr ⟨k, by simp; omega, by rw [if_neg (by omega), if_pos (by omega)]⟩)

set_option maxHeartbeats 4000000 in
theorem ords_main {w : World} {v : Value} {ss : List ByteArray} {a b : Int} (hrd : Rd w v ss.length 1 (sv ss)) (hf : fewB ss = true) (ha1 : -9223372036854775808 ≤ a) (ha2 : a ≤ 9223372036854775807) (hb1 : -9223372036854775808 ≤ b) (hb2 : b ≤ 9223372036854775807) :
    Calls Try.prog 3 #[v, .int .i64 a, .int .i64 b] w (TruePost w) := by
  have hlen := (few_facts hf).1
  have Hsz := hid (few_facts hf).2
  have h0 := hrd
  obtain ⟨A, c, rfl, hc, hn, hl, hcell0⟩ := hrd
  have Hrd := hid h0
  have Hcell := hid hcell0
  have Hf := hid hf
  have Hab := hid (And.intro ha1 (And.intro ha2 (And.intro hb1 hb2)))
  clear h0 hl hcell0 hf ha1 ha2 hb1 hb2
  go_enter Try.func3, Try.ntmps3
  go_wp2_with fail
  refine head_any.mono ?_
  rintro e w1 ⟨rfl, B1⟩
  have HB1 := hid B1
  have Hrd1 := hid (Hrd.out.below B1)
  have hrd1 := few_any Hrd1.out
  rw [Hf.out] at hrd1
  have Hfew := hid hrd1
  clear hrd1 B1
  go_wp2_with fail
  refine Hfew.out.mono ?_
  rintro e w2 ⟨rfl, rfl⟩
  go_wp2_with fail
  refine New_any.mono ?_
  rintro e w2 ⟨rfl, T2, B2, S2⟩
  have HB2 := hid (HB1.out.trans (B2.mono HB1.out.size))
  have HT2 := hid T2
  have hs12 := B2.size
  clear T2 B2 S2
  go_wp2_with fail
  go_loopw [26] (fun i wr => ∃ k : Nat, k ≤ ss.length ∧ i = .int .i64 k ∧ Hid (TabE wr (fun i => w1.heap.size ≤ i) (w1.heap.size + 1) (textsOf (ss.take k)) ∧ Below w.heap.size w wr ∧ w1.heap.size ≤ wr.heap.size)) (fun i _ => ss.length - (intOf i).toNat)
  case atStart => exact ⟨0, Nat.zero_le _, rfl, hid ⟨HT2.out, HB2.out, hs12⟩⟩
  case round =>
    obtain ⟨k, hk, rfl, H⟩ := hrel
    have hTk := Nat.le_trans (textsOf_length (ss.take k)) (List.length_take_le _ _)
    by_cases hlt : k < ss.length
    · obtain ⟨b', off, rfl, hcell⟩ := Hcell.out k (by omega)
      have ck := hcell k _ (sv_get hlt)
      have ck' := (H.out.2.1.cell (World.block_lt_of_cell? w _ ck)).trans ck
      obtain ⟨x, hx⟩ : ∃ x, x = ss.getD k ByteArray.empty := ⟨_, rfl⟩
      rw [← hx] at ck'
      have hTT := textsOf_take hlt
      rw [← hx] at hTT
      have HTT := hid hTT
      have hxs : x.size ≤ 60 := by rw [hx]; exact Hsz.out k hlt
      clear hx hcell ck hTT
      go_wp2_with fail
      refine (ID_to (i := ((textsOf (ss.take k)).idxOf x : Nat)) (ss' := textsOf (ss.take (k + 1))) H.out.1 (by unfold maxLen; omega) (by omega) rfl HTT.out.symm).mono ?_
      rintro e w4 ⟨rfl, T4, F4⟩
      have HT4 := hid (T4.mono (G := fun i => w1.heap.size ≤ i) (fun i _ h => More.le (fun _ h => h) H.out.2.2 i h))
      have HB4 := hid (H.out.2.1.trans (F4.below H.out.2.1.size (fun i h => by have := HB1.out.size; omega)))
      have hs4 := Nat.le_trans H.out.2.2 F4.size
      clear T4 F4
      go_wp2
      go_roundw
      case rel => exact ⟨k + 1, by omega, by go_num, hid ⟨HT4.out, HB4.out, hs4⟩⟩
      case measure => simp [intOf]; omega
    · have hk' : ss.take k = ss := List.take_of_length_le (by omega)
      rw [hk'] at H
      clear hk'
      obtain ⟨wa, rfl⟩ : ∃ x : World, x = wr := ⟨_, rfl⟩
      go_wp2_with fail
      refine (Texts_any (Hrd.out.below H.out.2.1) (by omega)).mono ?_
      rintro e w3 ⟨tv, rfl, O3, B3⟩
      obtain ⟨TA, tc, rfl⟩ := own_slice O3
      have hTl := textsOf_length ss
      have HT3 := hid ((H.out.1.mono (G := fun i => w1.heap.size ≤ i ∧ i < wa.heap.size) (fun i hi h => ⟨h, hi⟩)).keep (Fr.of_below B3 B3.size) (fun i hi h => by omega))
      have HR3 := hid (Rd.own O3 (by omega))
      have HB3 := hid (H.out.2.1.trans (B3.mono H.out.2.1.size))
      clear O3 B3
      obtain ⟨T, hT⟩ : ∃ T, T = textsOf ss := ⟨_, rfl⟩
      rw [← hT] at HT3 HR3 hTl ⊢
      have HT := hid hT
      clear hT
      by_cases h0 : 0 < T.length
      · go_wp2_with fail
        go_loopw [43] (fun i wq => ∃ k : Nat, k ≤ T.length ∧ i = .int .i64 k ∧ Hid (Fr (fun _ => False) w3 wq)) (fun i _ => T.length - (intOf i).toNat)
        case atStart => exact ⟨0, Nat.zero_le _, rfl, hid (Fr.refl _ _)⟩
        case round =>
          obtain ⟨ki, hki, rfl, HQ⟩ := hrel
          obtain ⟨wo, rfl⟩ : ∃ x : World, x = wr := ⟨_, rfl⟩
          by_cases hlti : ki < T.length
          · obtain ⟨g, off, hTA, hcw⟩ := HR3.out.cells (j := ki) (by omega)
            have hTA' : TA = some ⟨g, off, none⟩ := hTA
            subst hTA'
            have hcx0 := hcw ki _ (sv_get hlti)
            obtain ⟨x, hx⟩ : ∃ x, x = T.getD ki ByteArray.empty := ⟨_, rfl⟩
            rw [← hx] at hcx0
            have Hx := hid hx
            have Hcw := hid hcw
            have Hcx := hid hcx0
            clear hx hcw hTA hcx0
            go_wp2_with fail
            go_loopw [48] (fun i wq => ∃ k : Nat, k ≤ T.length ∧ i = .int .i64 k ∧ Hid (Fr (fun _ => False) w3 wq)) (fun i _ => T.length - (intOf i).toNat)
            case atStart => exact ⟨0, Nat.zero_le _, rfl, HQ⟩
            case round =>
              obtain ⟨kj, hkj, rfl, HP⟩ := hrel
              obtain ⟨wi, rfl⟩ : ∃ x : World, x = wr := ⟨_, rfl⟩
              by_cases hltj : kj < T.length
              · have hcy0 := Hcw.out kj _ (sv_get hltj)
                obtain ⟨y, hy⟩ : ∃ y, y = T.getD kj ByteArray.empty := ⟨_, rfl⟩
                rw [← hy] at hcy0
                have cx := HP.out.cell Hcx.out (fun f => f)
                have cy := HP.out.cell hcy0 (fun f => f)
                obtain ⟨cc, HC, hcase⟩ := cmp_ways (i := ki) (j := kj) HT3.out (show T.length < 4294967296 by omega) hlti hltj Hx.out hy
                clear hy hcy0
                rcases hcase with ⟨rfl, hL, hE⟩ | ⟨rfl, hL, hE⟩ | ⟨rfl, hL, hE⟩
                · go_wp2_with fail
                  go_quiet (fail)
                  go_wp2_with fail
                  go_quiet (fail)
                  go_wp2_with fail
                  refine (HC.out _ (HP.out.drewN _)).mono ?_
                  rintro e w5 ⟨rfl, rfl⟩
                  go_wp2
                  go_roundw
                  case rel => exact ⟨kj + 1, by omega, by go_num, hid (HP.out.drewN _)⟩
                  case measure => simp [intOf]; omega
                · go_wp2_with fail
                  go_quiet (fail)
                  go_wp2_with fail
                  go_quiet (fail)
                  go_wp2_with fail
                  refine (HC.out _ (HP.out.drewN _)).mono ?_
                  rintro e w5 ⟨rfl, rfl⟩
                  go_wp2
                  go_roundw
                  case rel => exact ⟨kj + 1, by omega, by go_num, hid (HP.out.drewN _)⟩
                  case measure => simp [intOf]; omega
                · go_wp2_with fail
                  go_quiet (fail)
                  go_wp2_with fail
                  go_quiet (fail)
                  go_wp2_with fail
                  refine (HC.out _ (HP.out.drewN _)).mono ?_
                  rintro e w5 ⟨rfl, rfl⟩
                  go_wp2
                  go_roundw
                  case rel => exact ⟨kj + 1, by omega, by go_num, hid (HP.out.drewN _)⟩
                  case measure => simp [intOf]; omega
              · have hk' : ¬ kj < T.length := hltj
                go_wp2
                go_roundw
                case rel => exact ⟨ki + 1, by omega, by go_num, HP⟩
                case measure => simp [intOf]; omega
          · obtain ⟨cc, HC1, HC2, hcase⟩ := cmp_back (a := a) (b := b) HT3.out (show T.length < 4294967296 by omega) Hab.out
            rcases hcase with ⟨hx0, hx1, hy0, hy1, hc0, hc1⟩ | ⟨hx0, hx1, hy | hy, rfl⟩ | ⟨hx | hx, hy0, hy1, rfl⟩ | ⟨hx | hx, hy | hy, ⟨hz, hzd, rfl⟩ | ⟨rfl, rfl⟩ | ⟨hz, hzd, rfl⟩⟩
            all_goals try (exfalso; omega)
            all_goals
              go_wp2_with fail
              refine (HC1.out _ HQ.out).mono ?_
              rintro e w5 ⟨rfl, rfl⟩
              go_wp2_with fail
              refine (HC2.out _ HQ.out).mono ?_
              rintro e w5 ⟨rfl, rfl⟩
              go_wp2
              go_ret
              exact ⟨rfl, HB3.out.trans ((HQ.out.below (Nat.le_refl _) (fun _ f => f.elim)).mono HB3.out.size)⟩
      · obtain ⟨cc, HC1, HC2, hcase⟩ := cmp_back (a := a) (b := b) HT3.out (show T.length < 4294967296 by omega) Hab.out
        rcases hcase with ⟨hx0, hx1, hy0, hy1, hc0, hc1⟩ | ⟨hx0, hx1, hy | hy, rfl⟩ | ⟨hx | hx, hy0, hy1, rfl⟩ | ⟨hx | hx, hy | hy, ⟨hz, hzd, rfl⟩ | ⟨rfl, rfl⟩ | ⟨hz, hzd, rfl⟩⟩
        all_goals try (exfalso; omega)
        all_goals
          go_wp2_with fail
          refine (HC1.out _ (Fr.refl _ _)).mono ?_
          rintro e w5 ⟨rfl, rfl⟩
          go_wp2_with fail
          refine (HC2.out _ (Fr.refl _ _)).mono ?_
          rintro e w5 ⟨rfl, rfl⟩
          go_wp2
          go_ret
          exact ⟨rfl, HB3.out.trans (Below.refl _ _)⟩

theorem ords_walk {w : World} {v : Value} {ss : List ByteArray} {a b : Int} (hrd : Rd w v ss.length 1 (sv ss)) (_hb : ss.length * 16 ≤ 140737488351232) (_hs : ∀ s ∈ ss, s.size ≤ maxLen) (ha1 : -9223372036854775808 ≤ a) (ha2 : a ≤ 9223372036854775807) (hb1 : -9223372036854775808 ≤ b) (hb2 : b ≤ 9223372036854775807) :
    Calls Try.prog 3 #[v, .int .i64 a, .int .i64 b] w (TruePost w) := by
  cases hf : fewB ss with
  | false => exact ords_early hrd hf
  | true => exact ords_main hrd hf ha1 ha2 hb1 hb2

end Go.Proofs.Ytbcmkkphbkpapaa
