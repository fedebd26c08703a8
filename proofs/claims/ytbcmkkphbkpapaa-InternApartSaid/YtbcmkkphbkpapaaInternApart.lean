import Derived.Test.YtbcmkkphbkpapaaInternIDs
import Derived.Shelf.SlMaps.Clone
set_option linter.unusedVariables false
set_option linter.unusedSimpArgs false
namespace Go.Proofs.Ytbcmkkphbkpapaa
open Go.RowKit Go.Maps

theorem mclone (b : Nat) (es : Array MapEntry) (clock : Nat) (w : World) (hb : w.heap[b]? = some (.map es clock)) :
    Calls Try.prog 20 #[.map (some b)] w fun e w' => e = .returned (.map (some w.heap.size)) ∧ w' = w.alloc (.map es clock) := by
  have hq := fun w => run_eql_map_nil_sl (P := Try.prog) w 42 _ _ (some b) Try.underlying42
  go_enter Try.func20, Try.ntmps20
  go_wp2
  rw [run_callFunc_extern Try.func22 (by kernel_rfl) (by kernel_rfl) (by kernel_rfl) (e := Extern.MapsClone.clone) (by kernel_rfl), run_maps_clone_sl w 42 hb]
  simp only [Result.andThen]
  rw [Oper.upon_value]
  go_wp2
  rw [run_typeAssert_map_sl _ 42 20 _ _ _ Try.underlying42]
  simp only [Result.andThen]
  rw [Oper.upon_value]
  go_wp2
  go_ret
  exact ⟨rfl, rfl⟩

/-- maps.Clone, slices.Clone of a table's parts, in whatever world of the same blocks. -/
theorem mclone_own {w : World} {m n : Nat} {D : DataW Unit} (h : w.ownsMap Try.prog 9 (plainElem Try.prog 2) m n D) :
    Calls Try.prog 20 #[.map (some m)] w fun e w' => ∃ m', e = .returned (.map (some m')) ∧ w.heap.size ≤ m' ∧ w'.ownsMap Try.prog 9 (plainElem Try.prog 2) m' n D ∧ Fr (fun _ => False) w w' := by
  obtain ⟨es, clock, hb, F, hs, hD⟩ := h
  refine (mclone m es clock w hb).mono ?_
  rintro e w' ⟨rfl, rfl⟩
  exact ⟨_, rfl, Nat.le_refl _, ⟨es, clock, (MapKept.heap_alloc w _).1, F, hs, hD⟩, (Fr.refl _ _).alloc _⟩
theorem sclone_own {w : World} {base n : Nat} {v : Value} {ss : List ByteArray} (h : w.ownsRow base 9 1 v n (sv ss)) (hn : n = ss.length) (hbig : n * 16 ≤ 140737488355328) :
    Calls Try.prog 19 #[v] w fun e w' => ∃ A c, e = .returned (.slice A n c) ∧ w'.ownsRow w.heap.size 9 1 (.slice A n c) n (sv ss) ∧ Fr (fun _ => False) w w' := by
  subst hn
  rcases h.2 with ⟨rfl, hh⟩ | ⟨g, cap, cur, rfl, hb, hh, hc, hm, hcur, hl⟩
  · have e : ss = [] := List.eq_nil_of_length_eq_zero hh
    subst e
    refine (Try.slices_Clone_string_nil 0 0 w).mono ?_
    rintro e w' ⟨rfl, rfl⟩
    exact ⟨none, 0, rfl, own_nil _ _ _ _, Fr.refl _ _⟩
  · refine (Try.slices_Clone_string g 0 ss.length cap ss w (Nat.le_refl _) hbig (fun j hj => ?_)).mono ?_
    · have := h.cells (g := g) rfl j _ (sv_get hj)
      rwa [addr_add] at this
    · rintro e w' ⟨v', rfl, hown, _, hB⟩
      obtain ⟨A, c, rfl⟩ := own_slice hown
      rw [List.take_length] at hown
      exact ⟨A, c, rfl, hown, Fr.of_below hB hB.size |>.mono (fun i hi h => by omega)⟩

def ClonePost (w : World) (ss : List ByteArray) (e : Ending) (w' : World) : Prop :=
  ∃ c, e = .returned (.pointer (some ⟨c, 0, none⟩)) ∧ TabE w' (fun i => w.heap.size ≤ i) c ss ∧ Below w.heap.size w w'
theorem clone_fin {w W : World} {e : Ending} {A : Option Addr} {q m B : Nat} {D : DataW Unit} {ss : List ByteArray} (he : e = .returned (.pointer (some ⟨W.heap.size, 0, none⟩))) (hr : W.ownsRow B 9 1 (.slice A ss.length q) ss.length (sv ss))
    (hm : W.ownsMap Try.prog 9 (plainElem Try.prog 2) m ss.length D) (hm0 : w.heap.size ≤ m) (hf : Fr (fun _ => False) w W) (hB : w.heap.size ≤ B) (hd : DictIs D ss) (hn : ss.Nodup) :
    ClonePost w ss e (W.alloc (.cells #[.slice A ss.length q, .map (some m)] 44)) := by
  refine ⟨_, he, ⟨.slice A ss.length q, m, D, hf.size, hm0, fun g hg => Nat.le_trans hB (own_lt hr g hg).2, heap_alloc_new W _, ?_, hm.alloc _, hd, hn⟩, (hf.alloc _).below (Nat.le_refl _) (fun _ f => f.elim)⟩
  exact own_base (((Fr.refl (fun _ => False) W).alloc _).own hr (fun _ _ f => f)) (fun _ _ => Nat.zero_le _)
theorem Clone_any {w : World} {F : Nat → Prop} {b : Nat} {ss : List ByteArray} (h : TabE w F b ss) (hn : ss.length < 4294967296) :
    Calls Try.prog 17 #[.pointer (some ⟨b, 0, none⟩)] w (ClonePost w ss) := by
  obtain ⟨v, m, D, h⟩ := h
  have c0 := cell_blk h.blk 0
  have c1 := cell_blk h.blk 1
  simp at c0 c1
  obtain ⟨A, cq, rfl⟩ := own_slice h.row
  have HS : Hid (∀ W, Fr (fun _ => False) w W → _) := hid (fun W (hW : Fr (fun _ => False) w W) => sclone_own (hW.own h.row (fun _ _ f => f)) rfl (by omega))
  have HM : Hid (∀ W, Fr (fun _ => False) w W → _) := hid (fun W (hW : Fr (fun _ => False) w W) => mclone_own (hW.map h.mp (fun f => f)))
  have H := hid h
  clear h
  have F0 : Fr (fun _ => False) w w.drew := (Fr.refl _ _).drew
  go_enter Try.func17, Try.ntmps17
  go_wp2_with fail
  go_region_held3 (fun W => W.cell? ⟨b, 0, none⟩ = some (.slice A ss.length cq) ∧ W.cell? ⟨b, 1, none⟩ = some (.map (some m)) ∧ Fr (fun _ => False) w W)
    (first
      | (exact ⟨F0.cell c0 (fun f => f), F0.cell c1 (fun f => f), F0⟩)
      | (exact ⟨F2'.cell c0 (fun f => f), F2'.cell c1 (fun f => f), F2'⟩)
      | (exact ⟨F1'.cell c0 (fun f => f), F1'.cell c1 (fun f => f), F1'⟩)
      | (exact ⟨(F2'.alloc _).cell c0 (fun f => f), (F2'.alloc _).cell c1 (fun f => f), F2'.alloc _⟩)
      | (exact ⟨(F1'.alloc _).cell c0 (fun f => f), (F1'.alloc _).cell c1 (fun f => f), F1'.alloc _⟩))
    (first
      | (go_at_call 19; refine (HS.out _ (by first | exact F0 | exact F2')).mono ?_; rintro e w1 ⟨A1, q1, rfl, O1, F1⟩; have F1' : Fr (fun _ => False) w w1 := by first | exact F0.trans F1 (fun _ _ f => f) | exact F2'.trans F1 (fun _ _ f => f))
      | (go_at_call 20; refine (HM.out _ (by first | exact F0 | exact F1')).mono ?_; rintro e w2 ⟨m2, rfl, L2, O2, F2⟩; have F2' : Fr (fun _ => False) w w2 := by first | exact F0.trans F2 (fun _ _ f => f) | exact F1'.trans F2 (fun _ _ f => f)))
  · go_wp2
    go_ret
    exact clone_fin rfl (F2.own O1 (fun _ _ f => f)) O2 (Nat.le_trans F1'.size L2) F2' (Nat.le_refl _) H.out.dict H.out.nd

theorem addS_nodup {ss : List ByteArray} (h : ss.Nodup) (s : ByteArray) : (addS ss s).Nodup := by
  unfold addS
  split
  · exact h
  · rw [List.nodup_append]
    exact ⟨h, by simp, by intro a ha b hb; simp at hb; subst hb; intro e; subst e; contradiction⟩
theorem textsOf_append (a b : List ByteArray) : textsOf (a ++ b) = b.foldl addS (textsOf a) := by simp [textsOf, List.foldl_append]
theorem foldl_take {T : List ByteArray} {b : List ByteArray} {k : Nat} (h : k < b.length) : (b.take (k + 1)).foldl addS T = addS ((b.take k).foldl addS T) (b.getD k ByteArray.empty) := by
  rw [List.take_succ_eq_append_getElem h, List.foldl_append]
  simp [h]
theorem foldl_length (l acc : List ByteArray) : (l.foldl addS acc).length ≤ acc.length + l.length := by
  induction l generalizing acc with
  | nil => simp
  | cons x l ih => have := ih (addS acc x); have := addS_length acc x; simp only [List.foldl_cons, List.length_cons]; omega

/-- The loop that puts texts into a table: 'for _, x := range list { t.ID(x) }' keeps all but the table's blocks. -/
structure Filled (w wr : World) (F : Nat → Prop) (t : Nat) (T : List ByteArray) : Prop where
  tab : TabE wr (fun i => F i ∨ w.heap.size ≤ i) t T
  fr : Fr F w wr

set_option maxHeartbeats 2000000 in
theorem apart_main {w : World} {v0 v1 : Value} {s0 s1 : List ByteArray} {s : ByteArray} (h0 : Rd w v0 s0.length 1 (sv s0)) (h1 : Rd w v1 s1.length 1 (sv s1)) (hf0 : fewB s0 = true) (hf1 : fewB s1 = true) (hs : s.size ≤ 60) :
    Calls Try.prog 6 #[v0, v1, .string s] w (TruePost w) := by
  have hlen0 := (few_facts hf0).1
  have hlen1 := (few_facts hf1).1
  have Hsz0 := hid (few_facts hf0).2
  have Hsz1 := hid (few_facts hf1).2
  have Hrd0 := hid h0
  have Hrd1 := hid h1
  obtain ⟨A0, c0, rfl, hc0, hn0, hl0, hcell0⟩ := h0
  obtain ⟨A1, c1, rfl, hc1, hn1, hl1, hcell1⟩ := h1
  have Hcell0 := hid hcell0
  have Hcell1 := hid hcell1
  have Hf0 := hid hf0
  have Hf1 := hid hf1
  clear hl0 hl1 hcell0 hcell1 hf0 hf1 hc0 hc1
  go_enter Try.func6, Try.ntmps6
  go_wp2_with fail
  refine head_any.mono ?_
  rintro e w1 ⟨rfl, B1⟩
  have HB1 := hid B1
  have hrd1 := few_any (Hrd0.out.below B1)
  rw [Hf0.out] at hrd1
  have Hfew := hid hrd1
  have hrd2 := few_any (Hrd1.out.below B1)
  rw [Hf1.out] at hrd2
  have Hfew2 := hid hrd2
  clear hrd1 hrd2 B1
  go_wp2_with fail
  refine Hfew.out.mono ?_
  rintro e w2 ⟨rfl, rfl⟩
  go_wp2_with fail
  refine Hfew2.out.mono ?_
  rintro e w2 ⟨rfl, rfl⟩
  go_wp2_with fail
  refine New_any.mono ?_
  rintro e w2 ⟨rfl, T2, B2, S2⟩
  have HB2 := hid (HB1.out.trans (B2.mono HB1.out.size))
  have HT2 := hid T2
  have hs12 := B2.size
  clear T2 B2 S2
  go_wp2_with fail
  go_loopw [40] (fun i wr => ∃ k : Nat, k ≤ s0.length ∧ i = .int .i64 k ∧ Hid (TabE wr (fun i => w1.heap.size ≤ i) (w1.heap.size + 1) (textsOf (s0.take k)) ∧ Below w.heap.size w wr ∧ w1.heap.size ≤ wr.heap.size)) (fun i _ => s0.length - (intOf i).toNat)
  case atStart => exact ⟨0, Nat.zero_le _, rfl, hid ⟨HT2.out, HB2.out, hs12⟩⟩
  case round =>
    obtain ⟨k, hk, rfl, H⟩ := hrel
    have hTk := Nat.le_trans (textsOf_length (s0.take k)) (List.length_take_le _ _)
    by_cases hlt : k < s0.length
    · obtain ⟨b', off, rfl, hcell⟩ := Hcell0.out k (by omega)
      have ck := hcell k _ (sv_get hlt)
      have ck' := (H.out.2.1.cell (World.block_lt_of_cell? w _ ck)).trans ck
      obtain ⟨x, hx⟩ : ∃ x, x = s0.getD k ByteArray.empty := ⟨_, rfl⟩
      rw [← hx] at ck'
      have hTT := textsOf_take hlt
      rw [← hx] at hTT
      have HTT := hid hTT
      have hxs : x.size ≤ 60 := by rw [hx]; exact Hsz0.out k hlt
      clear hx hcell ck hTT
      go_wp2_with fail
      refine (ID_to (i := ((textsOf (s0.take k)).idxOf x : Nat)) (ss' := textsOf (s0.take (k + 1))) H.out.1 (by unfold maxLen; omega) (by omega) rfl HTT.out.symm).mono ?_
      rintro e w4 ⟨rfl, T4, F4⟩
      have HT4 := hid (T4.mono (G := fun i => w1.heap.size ≤ i) (fun i _ h => More.le (fun _ h => h) H.out.2.2 i h))
      have HB4 := hid (H.out.2.1.trans (F4.below H.out.2.1.size (fun i h => by have := HB1.out.size; omega)))
      have hs4 := Nat.le_trans H.out.2.2 F4.size
      clear T4 F4
      go_wp2
      go_roundw
      case rel => exact ⟨k + 1, by omega, by go_num, hid ⟨HT4.out, HB4.out, hs4⟩⟩
      case measure => simp [intOf]; omega
    · have hk' : s0.take k = s0 := List.take_of_length_le (by omega)
      rw [hk'] at H
      clear hk'
      obtain ⟨wa, rfl⟩ : ∃ x : World, x = wr := ⟨_, rfl⟩
      have hTl := textsOf_length s0
      go_wp2_with fail
      refine (Clone_any H.out.1 (by omega)).mono ?_
      rintro e w3 ⟨c, rfl, T3, B3⟩
      have HT3 := hid T3
      have HB3 := hid (H.out.2.1.trans (B3.mono H.out.2.1.size))
      have HTa := hid ((H.out.1.mono (G := fun i => i < wa.heap.size) (fun i hi h => hi)).keep (Fr.of_below B3 B3.size) (fun i hi h => by omega))
      have hs3 := B3.size
      clear T3 B3
      go_wp2_with fail
      go_loopw [52] (fun i wr => ∃ k : Nat, k ≤ s1.length ∧ i = .int .i64 k ∧ Hid (TabE wr (fun i => i < wa.heap.size) (w1.heap.size + 1) (textsOf s0) ∧ TabE wr (fun i => wa.heap.size ≤ i) c ((s1.take k).foldl addS (textsOf s0)) ∧ Below w.heap.size w wr ∧ wa.heap.size ≤ wr.heap.size)) (fun i _ => s1.length - (intOf i).toNat)
      case atStart => exact ⟨0, Nat.zero_le _, rfl, hid ⟨HTa.out, HT3.out, HB3.out, hs3⟩⟩
      case round =>
        obtain ⟨k1, hk1, rfl, J⟩ := hrel
        have hTk1 := Nat.le_trans (foldl_length (s1.take k1) (textsOf s0)) (Nat.add_le_add_left (List.length_take_le _ _) _)
        by_cases hlt1 : k1 < s1.length
        · obtain ⟨b', off, rfl, hcell⟩ := Hcell1.out k1 (by omega)
          have ck := hcell k1 _ (sv_get hlt1)
          have ck' := (J.out.2.2.1.cell (World.block_lt_of_cell? w _ ck)).trans ck
          obtain ⟨x, hx⟩ : ∃ x, x = s1.getD k1 ByteArray.empty := ⟨_, rfl⟩
          rw [← hx] at ck'
          have hTT := foldl_take (T := textsOf s0) hlt1
          rw [← hx] at hTT
          have HTT := hid hTT
          have hxs : x.size ≤ 60 := by rw [hx]; exact Hsz1.out k1 hlt1
          clear hx hcell ck hTT
          go_wp2_with fail
          refine (ID_to (i := (((s1.take k1).foldl addS (textsOf s0)).idxOf x : Nat)) (ss' := (s1.take (k1 + 1)).foldl addS (textsOf s0)) J.out.2.1 (by unfold maxLen; omega) (by omega) rfl HTT.out.symm).mono ?_
          rintro e w4 ⟨rfl, T4, F4⟩
          have HT4 := hid (T4.mono (G := fun i => wa.heap.size ≤ i) (fun i _ h => h.elim id (fun h => Nat.le_trans J.out.2.2.2 h)))
          have HTb := hid (J.out.1.keep F4 (fun i hi h => by omega))
          have HB4 := hid (J.out.2.2.1.trans (F4.below J.out.2.2.1.size (fun i h => by have := H.out.2.1.size; omega)))
          have hs4 := Nat.le_trans J.out.2.2.2 F4.size
          clear T4 F4
          go_wp2
          go_roundw
          case rel => exact ⟨k1 + 1, by omega, by go_num, hid ⟨HTb.out, HT4.out, HB4.out, hs4⟩⟩
          case measure => simp [intOf]; omega
        · have hk1' : s1.take k1 = s1 := List.take_of_length_le (by omega)
          rw [hk1', ← textsOf_append] at J
          clear hk1'
          obtain ⟨wb, rfl⟩ : ∃ x : World, x = wr := ⟨_, rfl⟩
          have hUl := textsOf_length (s0 ++ s1)
          rw [List.length_append] at hUl
          have hpre : textsOf s0 <+: textsOf (s0 ++ s1) := by
            have := textsOf_prefix (s0 ++ s1) s0.length
            rwa [List.take_left] at this
          have hTU := hpre.length_le
          go_wp2_with fail
          refine (Texts_any (Hrd0.out.below J.out.2.2.1) (by omega)).mono ?_
          rintro e w5 ⟨tv, rfl, O5, B5⟩
          obtain ⟨TA, tc, rfl⟩ := own_slice O5
          have HT5 := hid ((J.out.1.mono (G := fun i => i < wb.heap.size) (fun i hi h => hi)).keep (Fr.of_below B5 B5.size) (fun i hi h => by omega))
          have HU5 := hid ((J.out.2.1.mono (G := fun i => i < wb.heap.size) (fun i hi h => hi)).keep (Fr.of_below B5 B5.size) (fun i hi h => by omega))
          have HR5 := hid (Rd.own O5 (by omega))
          have HB5 := hid (J.out.2.2.1.trans (B5.mono J.out.2.2.1.size))
          clear O5 B5
          obtain ⟨T, hT⟩ : ∃ T, T = textsOf s0 := ⟨_, rfl⟩
          obtain ⟨U, hU⟩ : ∃ U, U = textsOf (s0 ++ s1) := ⟨_, rfl⟩
          rw [← hT] at HT5 HR5 hTl hpre hTU ⊢
          rw [← hU] at HU5 hUl hpre hTU
          have HUe := hid hU
          have Hpre := hid hpre
          clear hT hU hpre
          go_wp2_with fail
          go_loop [64] (fun i => ∃ k : Nat, k ≤ T.length ∧ i = .int .i64 k) (fun i => T.length - (intOf i).toNat)
          case atStart => exact ⟨0, Nat.zero_le _, rfl⟩
          case round =>
            obtain ⟨kt, hkt, rfl⟩ := hrel
            by_cases hltt : kt < T.length
            · have hx1 := Text_in (i := kt) HT5.out (by omega) (by omega) (by omega)
              have hx2 := Text_in (i := kt) HU5.out (by omega) (by omega) (by omega)
              rw [Int.toNat_natCast] at hx1 hx2
              have hget : U.getD kt ByteArray.empty = T.getD kt ByteArray.empty := by
                obtain ⟨r, e⟩ := Hpre.out
                rw [← e, List.getD_eq_getElem?_getD, List.getElem?_append_left hltt, ← List.getD_eq_getElem?_getD]
              rw [hget] at hx2
              obtain ⟨g, off, hTA, hcw⟩ := HR5.out.cells (j := kt) (by omega)
              have hTA' : TA = some ⟨g, off, none⟩ := hTA
              subst hTA'
              have ct := hcw kt _ (sv_get hltt)
              obtain ⟨y, hy⟩ : ∃ y, y = T.getD kt ByteArray.empty := ⟨_, rfl⟩
              rw [← hy] at ct hx1 hx2
              have HX1 := hid hx1
              have HX2 := hid hx2
              clear hy hx1 hx2 hcw hTA hget
              go_wp2_with fail
              refine HX1.out.mono ?_
              rintro e w6 ⟨rfl, rfl⟩
              go_wp2_with fail
              refine HX2.out.mono ?_
              rintro e w6 ⟨rfl, rfl⟩
              go_wp2
              go_round
              case rel => exact ⟨kt + 1, by omega, by go_num⟩
              case measure => simp [intOf]; omega
            · have HFA := find_at (s := s) HT5.out (show s.size ≤ maxLen by unfold maxLen; omega) HR5.out
              obtain ⟨cf, kk, d, HF, HA, hcase⟩ := HFA
              have HL1 := hid (Len_any HT5.out)
              have HL2 := hid (Len_any HU5.out)
              have hz5 : w5.heap.size ≤ (w5.alloc (.cells #[] 9)).heap.size := by simp
              have hq0 := Hrd0.out.below HB5.out
              have hq1 := Hrd1.out.below HB5.out
              have HQ0 := hid (hq0.below ((Below.refl _ w5).alloc (Nat.le_refl _) (.cells #[] 9)))
              have HQ1 : ∀ x : World, Hid ((w5.alloc (.cells #[] 9)).grownBy x (some w5.heap.size)) → Rd x (.slice A1 s1.length c1) s1.length 1 (sv s1) := by
                intro x hx
                refine hq1.below ⟨hx.out.os, hx.out.tape, hx.out.output, Nat.le_trans hz5 hx.out.size, fun i hi => ?_⟩
                exact (hx.out.block i (by omega) (by simp; omega)).trans (Below.heap_alloc _ _ _ hi)
              have HHQ1 := hid HQ1
              clear hq0 hq1 HQ1
              rcases hcase with ⟨rfl, rfl, hc0⟩ | ⟨rfl, rfl, rfl⟩
              all_goals
                go_wp2_with fail
                refine HF.out.mono ?_
                rintro e w6 ⟨rfl, rfl⟩
                go_wp2_with fail
                refine HL1.out.mono ?_
                rintro e w6 ⟨rfl, rfl⟩
                go_wp2_with fail
                refine HL2.out.mono ?_
                rintro e w6 ⟨rfl, rfl⟩
                go_wp2_with (first
                  | (at_builtin; refine wp_unguard (by rfl) ?_; refine wp_appN w5.heap.size rfl (.tmp 112) (.tmp 113) 22 9 (.string ByteArray.empty) 1 16 rfl Try.underlying22 info9 rfl (by decide) (by decide) (.slice (some ⟨w5.heap.size, 0, none⟩) 0 0) 0 [] (sv s0) s0.length (.slice A0 s0.length c0) rfl rfl HQ0.out (by simp [Value.oneCell']) (own_lit0 _ _ _ (Nat.le_refl _)) hz5 (by omega) ?_; intro A6 c6 w6 O6 G6 N6; simp only [Nat.zero_add, List.nil_append] at O6; have HO6 := hid O6; have HG6 := hid G6; clear O6 G6 N6)
                  | (at_builtin; refine wp_unguard (by rfl) ?_; refine wp_appN w5.heap.size rfl (.tmp 114) (.tmp 115) 22 9 (.string ByteArray.empty) 1 16 rfl Try.underlying22 info9 rfl (by decide) (by decide) (.slice A6 s0.length c6) s0.length (sv s0) (sv s1) s1.length (.slice A1 s1.length c1) rfl rfl (HHQ1.out _ HG6) (by simp [Value.oneCell']) HO6.out (Nat.le_trans hz5 HG6.out.size) (by omega) ?_; intro A7 c7 w7 O7 G7 N7; have HO7 := hid O7; have HG7 := hid G7; clear O7 G7 N7))
                have hg7 := HG6.out
                have hg8 := HG7.out
                have B7 : Below w5.heap.size w5 w7 := by
                  have b1 : Below w5.heap.size w5 w6 := ((Below.refl _ _).alloc (Nat.le_refl _) _).grown HG6.out hz5 (fun k hk => by simp [Value.ownBlock] at hk; omega)
                  exact b1.grown HG7.out b1.size (fun k hk => (own_lt HO6.out k hk).2)
                have HR7 : Rd w7 (.slice A7 (s0.length + s1.length) c7) (s0 ++ s1).length 1 (sv (s0 ++ s1)) := by
                  have := Rd.own HO7.out (by omega)
                  rw [List.length_append]
                  simpa [sv] using this
                have HB7 := hid B7
                have HT7 := hid (Texts_any HR7 (by rw [List.length_append]; omega))
                clear hg7 hg8 B7 HR7
                refine HT7.out.mono ?_
                rintro e w8 ⟨rv, rfl, O8, B8⟩
                rw [← HUe.out] at O8
                obtain ⟨A8, c8, rfl⟩ := own_slice O8
                have HB8 := hid (HB7.out.trans (B8.mono HB7.out.size))
                clear O8 B8
                go_wp2_with fail
                refine (HA.out _ HB8.out).mono ?_
                rintro e w9 ⟨rfl, rfl⟩
                go_wp2
                go_ret
                exact ⟨rfl, HB5.out.trans (HB8.out.mono HB5.out.size)⟩

theorem apart_early {w : World} {v0 v1 : Value} {s0 s1 : List ByteArray} {s : ByteArray} (h0 : Rd w v0 s0.length 1 (sv s0)) (h1 : Rd w v1 s1.length 1 (sv s1)) (h : fewB s0 = false ∨ fewB s1 = false ∨ 60 < s.size) :
    Calls Try.prog 6 #[v0, v1, .string s] w (TruePost w) := by
  have F0 : ∀ w1, Below w.heap.size w w1 → _ := fun w1 b => few_any (h0.below b)
  have F1 : ∀ w1, Below w.heap.size w w1 → _ := fun w1 b => few_any (h1.below b)
  cases hf0 : fewB s0 with
  | false =>
    rw [hf0] at F0
    have HF0 := hid F0
    clear F0 F1 h
    go_enter Try.func6, Try.ntmps6
    go_wp2_with fail
    refine head_any.mono ?_
    rintro e w1 ⟨rfl, B1⟩
    have HB1 := hid B1
    clear B1
    go_wp2_with fail
    refine (HF0.out _ HB1.out).mono ?_
    rintro e w2 ⟨rfl, rfl⟩
    go_wp2
    go_ret
    exact ⟨rfl, HB1.out⟩
  | true =>
    cases hf1 : fewB s1 with
    | false =>
      rw [hf0] at F0
      rw [hf1] at F1
      have HF0 := hid F0
      have HF1 := hid F1
      clear F0 F1 h
      go_enter Try.func6, Try.ntmps6
      go_wp2_with fail
      refine head_any.mono ?_
      rintro e w1 ⟨rfl, B1⟩
      have HB1 := hid B1
      clear B1
      go_wp2_with fail
      refine (HF0.out _ HB1.out).mono ?_
      rintro e w2 ⟨rfl, rfl⟩
      go_wp2_with fail
      refine (HF1.out _ HB1.out).mono ?_
      rintro e w2 ⟨rfl, rfl⟩
      go_wp2
      go_ret
      exact ⟨rfl, HB1.out⟩
    | true =>
      have h60 : 60 < s.size := by simpa [hf0, hf1] using h
      rw [hf0] at F0
      rw [hf1] at F1
      have HF0 := hid F0
      have HF1 := hid F1
      clear F0 F1 h
      go_enter Try.func6, Try.ntmps6
      go_wp2_with fail
      refine head_any.mono ?_
      rintro e w1 ⟨rfl, B1⟩
      have HB1 := hid B1
      clear B1
      go_wp2_with fail
      refine (HF0.out _ HB1.out).mono ?_
      rintro e w2 ⟨rfl, rfl⟩
      go_wp2_with fail
      refine (HF1.out _ HB1.out).mono ?_
      rintro e w2 ⟨rfl, rfl⟩
      go_wp2
      go_ret
      exact ⟨rfl, HB1.out⟩

theorem apart_walk {w : World} {v0 v1 : Value} {s0 s1 : List ByteArray} {s : ByteArray} (h0 : Rd w v0 s0.length 1 (sv s0)) (_b0 : s0.length * 16 ≤ 140737488351232) (_m0 : ∀ s ∈ s0, s.size ≤ maxLen) (h1 : Rd w v1 s1.length 1 (sv s1)) (_b1 : s1.length * 16 ≤ 140737488351232) (_m1 : ∀ s ∈ s1, s.size ≤ maxLen) (_hs : s.size ≤ 140737488351232) :
    Calls Try.prog 6 #[v0, v1, .string s] w (TruePost w) := by
  cases hf0 : fewB s0 with
  | false => exact apart_early h0 h1 (.inl hf0)
  | true =>
    cases hf1 : fewB s1 with
    | false => exact apart_early h0 h1 (.inr (.inl hf1))
    | true =>
      by_cases hs : s.size ≤ 60
      · exact apart_main h0 h1 hf0 hf1 hs
      · exact apart_early h0 h1 (.inr (.inr (by omega)))

end Go.Proofs.Ytbcmkkphbkpapaa
