import Derived.Test.YtbcmkkphbkpapaaLib
import Derived.Test.YtbcmkkphbkpapaaRows
set_option linter.unusedVariables false
set_option linter.unusedSimpArgs false
namespace Go.Proofs.Ytbcmkkphbkpapaa
open Go.RowKit Go.Maps

abbrev sv (ss : List ByteArray) : List Value := ss.map Value.string
theorem sv_length (ss : List ByteArray) : (sv ss).length = ss.length := by simp

def DictIs (D : DataW Unit) (ss : List ByteArray) : Prop :=
  ∀ s : ByteArray, Maps.has D (.string s.data.toList) = decide (s ∈ ss) ∧ (s ∈ ss → D.atKey (.string s.data.toList) (.lit (.int .i64 0)) = .lit (.int .i64 (ss.idxOf s : Nat)))

theorem bytes_inj {s t : ByteArray} (h : s.data.toList = t.data.toList) : s = t := by
  cases s; cases t; simp only [ByteArray.mk.injEq]; exact Array.toList_inj.1 h

theorem dict_empty : DictIs (.map []) [] := fun s => ⟨by simp [Maps.has], by simp⟩
theorem dict_put {D : DataW Unit} {ss : List ByteArray} (h : DictIs D ss) (hD : Maps.IsMap D) (s : ByteArray) (hs : ¬ s ∈ ss) :
    DictIs (D.put (.string s.data.toList) (.lit (.int .i64 (ss.length : Nat)))) (ss ++ [s]) := by
  intro t
  by_cases e : t = s
  · subst e
    refine ⟨by rw [Maps.has_put_same hD (by trivial)]; simp, fun _ => ?_⟩
    rw [Maps.atKey_put_same hD (by trivial)]
    rw [List.idxOf_append, if_neg hs]; simp
  · have hne : (Lit.string t.data.toList) ≠ .string s.data.toList := fun h => e (bytes_inj (by injection h))
    refine ⟨by rw [Maps.has_put_other hne, (h t).1]; simp [e], fun hm => ?_⟩
    have hm' : t ∈ ss := by simpa [e] using hm
    rw [Maps.atKey_put_other hne, (h t).2 hm', List.idxOf_append, if_pos hm']

/-- The table at block b reads as the unlike texts ss; its blocks are among F. -/
structure Tab (w : World) (F : Nat → Prop) (b : Nat) (v : Value) (m : Nat) (D : DataW Unit) (ss : List ByteArray) : Prop where
  hb : F b
  hm : F m
  hr : ∀ g, v.ownBlock = some g → F g
  blk : w.heap[b]? = some (.cells #[v, .map (some m)] 44 (0, 0))
  row : w.ownsRow 0 9 1 v ss.length (sv ss)
  mp : w.ownsMap Try.prog 9 (plainElem Try.prog 2) m ss.length D
  dict : DictIs D ss
  nd : ss.Nodup
def TabE (w : World) (F : Nat → Prop) (b : Nat) (ss : List ByteArray) : Prop := ∃ v m D, Tab w F b v m D ss
theorem TabE.mono {w : World} {F G : Nat → Prop} {b : Nat} {ss : List ByteArray} (h : TabE w F b ss) (hF : ∀ i, i < w.heap.size → F i → G i) : TabE w G b ss := by
  obtain ⟨v, m, D, h⟩ := h
  exact ⟨v, m, D, hF _ (blk_lt h.blk) h.hb, hF _ h.mp.lt h.hm, fun g hg => hF g (own_lt h.row g hg).1 (h.hr g hg), h.blk, h.row, h.mp, h.dict, h.nd⟩
theorem TabE.keep {w w' : World} {F G : Nat → Prop} {b : Nat} {ss : List ByteArray} (h : TabE w F b ss) (hf : Fr G w w') (hG : ∀ i, F i → ¬ G i) : TabE w' F b ss := by
  obtain ⟨v, m, D, h⟩ := h
  exact ⟨v, m, D, h.hb, h.hm, h.hr, (hf.block b (blk_lt h.blk) (hG _ h.hb)).trans h.blk, hf.own h.row (fun g hg => hG g (h.hr g hg)), hf.map h.mp (hG _ h.hm), h.dict, h.nd⟩
def addS (ss : List ByteArray) (s : ByteArray) : List ByteArray := if s ∈ ss then ss else ss ++ [s]

theorem slaw : Keyed Try.prog 9 := string_keyed Try.underlying9
theorem zero2 (w : World) : (zeroValue 2).run Try.prog w = .ok (.int .i64 0) w := by kernel_rfl
theorem info9 : (Try.prog.info? 9).map (fun i => (i.zero, i.size, i.bytes)) = some (some (.string ByteArray.empty), 1, 16) := by kernel_rfl

def More (w : World) (F : Nat → Prop) : Nat → Prop := fun i => F i ∨ w.heap.size ≤ i
def IDPost (w : World) (F : Nat → Prop) (b : Nat) (ss : List ByteArray) (s : ByteArray) (e : Ending) (w' : World) : Prop :=
  e = .returned (.int .i64 (ss.idxOf s : Nat)) ∧ TabE w' (More w F) b (addS ss s) ∧ Fr F w w'

theorem ID_old {w : World} {F : Nat → Prop} {b : Nat} {ss : List ByteArray} {s : ByteArray} (h : TabE w F b ss) (hs : s.size ≤ maxLen) (hin : s ∈ ss) :
    Calls Try.prog 10 #[.pointer (some ⟨b, 0, none⟩), .string s] w (IDPost w F b ss s) := by
  have H0 := hid h
  obtain ⟨v, m, D, h⟩ := h
  have c0 := cell_blk h.blk 0
  have c1 := cell_blk h.blk 1
  simp at c0 c1
  have hmp := h.mp
  have hd : Maps.has D (.string s.data.toList) = true := by rw [(h.dict s).1]; simpa using hin
  have hat0 := (h.dict s).2 hin
  have Hat := hid hat0
  have Hin := hid hin
  clear h hat0 hin
  go_enter Try.func10, Try.ntmps10
  go_wp2_with (first
    | (at_lookup; refine wpList_lookup_own_ok_int _ rfl _ _ 42 rfl 9 2 .i64 slaw Try.underlying42 Try.underlying2 (zero2 _) m ss.length D rfl hmp _ _ rfl (WideMaps.keyOf_string_mk Try.underlying9 hs) ?_; intro c hat hwc; have Hc := hid hat; clear hat)
    | go_in)
  go_ret
  have hc := Hc.out
  rw [Hat.out] at hc
  simp at hc
  refine ⟨by rw [← hc]; rfl, ?_, Fr.refl _ _⟩
  unfold addS
  rw [if_pos Hin.out]
  exact H0.out.mono (fun i _ h => .inl h)

/-- Behind the append: the world with the field written. -/
structure Mid (w : World) (w1 : World) (F : Nat → Prop) (b g c : Nat) (m : Nat) (D : DataW Unit) (ss : List ByteArray) (s : ByteArray) : Prop where
  hg : More w F g
  blk : w1.heap[b]? = some (.cells #[.slice (some ⟨g, 0, none⟩) (ss.length + 1) c, .map (some m)] 44 (0, 0))
  row : w1.ownsRow 0 9 1 (.slice (some ⟨g, 0, none⟩) (ss.length + 1) c) (ss.length + 1) (sv ss ++ [.string s])
  mp : w1.ownsMap Try.prog 9 (plainElem Try.prog 2) m ss.length D
  fr : Fr F w w1
theorem next1 {w w1 : World} {F : Nat → Prop} {b m g c : Nat} {v : Value} {D : DataW Unit} {ss : List ByteArray} {s : ByteArray} (h : Tab w F b v m D ss) (hown : w1.ownsRow 0 9 1 (.slice (some ⟨g, 0, none⟩) (ss.length + 1) c) (ss.length + 1) (sv ss ++ [.string s]))
    (hg : w.grownBy w1 v.ownBlock) (hor : v.ownBlock = some g ∨ w.heap.size ≤ g) :
    w1.cell? ⟨b, 0, none⟩ = some v ∧ w1.cell? ⟨b, 1, none⟩ = some (.map (some m)) ∧ w1.frozen? ⟨b, 0, none⟩ = false ∧
      Hid (Mid w (w1.setCell ⟨b, 0, none⟩ (.slice (some ⟨g, 0, none⟩) (ss.length + 1) c)) F b g c m D ss s) := by
  have hbl := blk_lt h.blk
  have hne := own_ne h.row h.blk (by decide)
  have e1 := (hg.block b hbl hne).trans h.blk
  have hnm : some m ≠ v.ownBlock := by
    obtain ⟨es, clock, hm, _⟩ := h.mp
    exact own_ne_map h.row hm
  have hmp1 := h.mp.kept hg hnm
  have hbm : m ≠ b := by
    obtain ⟨es, clock, hm, _⟩ := h.mp
    intro e
    rw [e, h.blk] at hm
    cases hm
  have hgb : g ≠ b := by
    intro e
    subst e
    rcases hor with hor | hor
    · exact hne hor.symm
    · omega
  have hf1 : Fr F w w1 := (Fr.grown hg).mono (fun i _ hi => h.hr i hi)
  refine ⟨by simpa using cell_blk e1 0, by simpa using cell_blk e1 1, frozen_blk e1 0, ?_, ?_, ?_, hmp1.setCell hbm _, hf1.trans (Fr.setCell _ _ _) (fun i _ hi => by subst hi; exact h.hb)⟩
  · rcases hor with hor | hor
    · exact .inl (h.hr g hor)
    · exact .inr hor
  · simpa using blk_set (o := 0) e1 (.slice (some ⟨g, 0, none⟩) (ss.length + 1) c)
  · refine (Fr.setCell w1 ⟨b, 0, none⟩ _).own hown (fun k hk => ?_)
    simp [Value.ownBlock] at hk
    rw [← hk]
    exact hgb

theorem Mid.fin {w w2 w3 : World} {F : Nat → Prop} {b m g c : Nat} {D : DataW Unit} {ss : List ByteArray} {s : ByteArray} (h : Mid w w2 F b g c m D ss s) (hb : F b) (hm : F m) (hd : DictIs D ss) (hnd : ss.Nodup) (hin : ¬ s ∈ ss)
    (hown : w3.ownsMap Try.prog 9 (plainElem Try.prog 2) m (ss.length + 1) (D.put (.string s.data.toList) (.lit (.int .i64 (ss.length : Nat))))) (hg : w2.grownBy w3 (some m)) :
    TabE w3 (More w F) b (addS ss s) ∧ Fr F w w3 := by
  have hrm : some m ≠ (Value.slice (some ⟨g, 0, none⟩) (ss.length + 1) c).ownBlock := by
    obtain ⟨es, clock, hh, _⟩ := h.mp
    exact own_ne_map h.row hh
  have hbm : b ≠ m := by
    obtain ⟨es, clock, hh, _⟩ := h.mp
    intro e
    rw [← e, h.blk] at hh
    cases hh
  have hbl2 : b < w2.heap.size := blk_lt h.blk
  unfold addS
  rw [if_neg hin]
  refine ⟨⟨_, m, _, .inl hb, .inl hm, ?_, (hg.block b hbl2 (by simpa using hbm)).trans h.blk, ?_, by simpa using hown, dict_put hd h.mp.isMap s hin, ?_⟩, ?_⟩
  · intro k hk
    simp [Value.ownBlock] at hk
    rw [← hk]
    exact h.hg
  · have := h.row.kept hg (.inr (fun e => hrm e.symm))
    simpa [sv] using this
  · rw [List.nodup_append]
    exact ⟨hnd, by simp, by intro a ha b hb; simp at hb; subst hb; intro e; subst e; exact hin ha⟩
  · exact h.fr.trans (Fr.grown hg) (fun i _ hi => by injection hi with hi; rw [← hi]; exact hm)

theorem ID_new {w : World} {F : Nat → Prop} {b : Nat} {ss : List ByteArray} {s : ByteArray} (h : TabE w F b ss) (hs : s.size ≤ maxLen) (hin : ¬ s ∈ ss) (hn : ss.length < 4294967296) :
    Calls Try.prog 10 #[.pointer (some ⟨b, 0, none⟩), .string s] w (IDPost w F b ss s) := by
  obtain ⟨v, m, D, h⟩ := h
  obtain ⟨i0, hi, hz0, hz1, hz2⟩ := info_parts info9
  have hbl := blk_lt h.blk
  have c0 := cell_blk h.blk 0
  have c1 := cell_blk h.blk 1
  simp at c0 c1
  obtain ⟨A, cq, rfl⟩ := own_slice h.row
  have hmp := h.mp
  have hrow := h.row
  have hd : Maps.has D (.string s.data.toList) = false := by rw [(h.dict s).1]; simpa using hin
  have H := hid h
  have Hin := hid hin
  clear h hin
  go_enter Try.func10, Try.ntmps10
  go_wp2_with (first
    | (at_lookup; refine wpList_lookup_own_ok_int _ rfl _ _ 42 rfl 9 2 .i64 slaw Try.underlying42 Try.underlying2 (zero2 _) m ss.length D rfl hmp _ _ rfl (WideMaps.keyOf_string_mk Try.underlying9 hs) ?_; intro c hat hwc; clear hat hwc)
    | (at_builtin; go_must (refine wp_app1 0 rfl _ _ 22 9 (.string ByteArray.empty) 1 16 rfl Try.underlying22 info9 rfl (by decide) (by decide) (.slice A ss.length cq) ss.length (sv ss) [.string s] rfl rfl rfl (by simp [Value.oneCell']) hrow (Nat.zero_le _) (by omega) ?_); intro g cp w1 hown1 hg1 hor; have k := next1 H.out hown1 hg1 hor; obtain ⟨d0, d1, f0, HT⟩ := k; clear hown1 hg1 hor c0 c1)
    | (at_mapUpdate; refine wpList_mapUpdate_in _ rfl _ _ _ 42 rfl 9 2 slaw Try.underlying42 _ m ss.length D rfl (HT.out.mp) (by unfold maxLen; omega) _ _ _ rfl rfl (WideMaps.keyOf_string_mk Try.underlying9 hs) _ [] (plainElem_int Try.underlying2 (WalkArith.wf_i64 (by omega))) ?_; intro w2 hown2 hturn2))
  go_ret
  have Fn := Mid.fin HT.out H.out.hb H.out.hm H.out.dict H.out.nd Hin.out hown2 hturn2.grown
  exact ⟨by rw [List.idxOf_eq_length Hin.out]; rfl, Fn⟩

end Go.Proofs.Ytbcmkkphbkpapaa
