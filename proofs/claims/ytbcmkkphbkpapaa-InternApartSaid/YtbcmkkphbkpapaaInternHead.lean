import Derived.Test.YtbcmkkphbkpapaaIntern3
set_option linter.unusedVariables false
set_option linter.unusedSimpArgs false
namespace Go.Proofs.Ytbcmkkphbkpapaa
open Go.RowKit Go.Maps

theorem ID_any {w : World} {F : Nat → Prop} {b : Nat} {ss : List ByteArray} {s : ByteArray} (h : TabE w F b ss) (hs : s.size ≤ maxLen) (hn : ss.length < 4294967296) :
    Calls Try.prog 10 #[.pointer (some ⟨b, 0, none⟩), .string s] w (IDPost w F b ss s) := by
  by_cases hin : s ∈ ss
  · exact ID_old h hs hin
  · exact ID_new h hs hin hn

def IDTo (w : World) (F : Nat → Prop) (b : Nat) (i : Int) (ss : List ByteArray) (e : Ending) (w' : World) : Prop := e = .returned (.int .i64 i) ∧ TabE w' (More w F) b ss ∧ Fr F w w'
theorem ID_to {w : World} {F : Nat → Prop} {b : Nat} {ss ss' : List ByteArray} {s : ByteArray} {i : Int} (h : TabE w F b ss) (hs : s.size ≤ maxLen) (hn : ss.length < 4294967296) (h1 : ((ss.idxOf s : Nat) : Int) = i) (h2 : addS ss s = ss') :
    Calls Try.prog 10 #[.pointer (some ⟨b, 0, none⟩), .string s] w (IDTo w F b i ss') := by
  subst h1 h2
  exact ID_any h hs hn

def TruePost (w : World) (e : Ending) (w' : World) : Prop := e = .returned (.bool true) ∧ Below w.heap.size w w'

theorem More.le {w w0 : World} {F : Nat → Prop} (h : ∀ i, F i → w0.heap.size ≤ i) (hs : w0.heap.size ≤ w.heap.size) : ∀ i, More w F i → w0.heap.size ≤ i := fun i hi => hi.elim (h i) (fun h => Nat.le_trans hs h)
theorem TabE.more {w0 w w1 : World} {b : Nat} {ss : List ByteArray} (h : TabE w1 (More w (fun i => w0.heap.size ≤ i)) b ss) (hs : w0.heap.size ≤ w.heap.size) : TabE w1 (fun i => w0.heap.size ≤ i) b ss := h.mono (fun i _ hi => More.le (fun _ h => h) hs i hi)
theorem head_any {w : World} : Calls Try.prog 7 #[] w (TruePost w) := by
  go_enter Try.func7, Try.ntmps7
  go_wp2_with fail
  refine New_any.mono ?_
  rintro e w1 ⟨rfl, T1, B1, S1⟩
  have H1 := hid T1
  have HB1 := hid B1
  clear T1 B1 S1
  go_wp2_with fail
  refine (ID_to (i := 0) (ss' := [⟨#[98]⟩]) H1.out (by decide) (by decide) (by decide) (by decide)).mono ?_
  rintro e w2 ⟨rfl, T2, B2⟩
  have H2 := hid (T2.more HB1.out.size)
  have HB2 := hid (HB1.out.trans (B2.below HB1.out.size (fun _ h => h)))
  clear T2 B2
  go_wp2_with fail
  refine (ID_to (i := 1) (ss' := [⟨#[98]⟩, ⟨#[97]⟩]) H2.out (by decide) (by decide) (by decide) (by decide)).mono ?_
  rintro e w3 ⟨rfl, T3, B3⟩
  have H3 := hid (T3.more HB2.out.size)
  have HB3 := hid (HB2.out.trans (B3.below HB2.out.size (fun _ h => h)))
  clear T3 B3
  go_wp2_with fail
  refine (ID_to (i := 0) (ss' := [⟨#[98]⟩, ⟨#[97]⟩]) H3.out (by decide) (by decide) (by decide) (by decide)).mono ?_
  rintro e w4 ⟨rfl, T4, B4⟩
  have H4 := hid (T4.more HB3.out.size)
  have HB4 := hid (HB3.out.trans (B4.below HB3.out.size (fun _ h => h)))
  clear T4 B4
  go_wp2_with fail
  refine (Compare_any H4.out (by decide) (by omega) (by omega) (by omega) (by omega)).mono ?_
  have hcmp : cmpI [⟨#[98]⟩, ⟨#[97]⟩] 0 1 = 1 := by decide
  unfold CmpPost
  rw [hcmp]
  rintro e w5 ⟨rfl, rfl⟩
  go_wp2_with fail
  refine (Len_any H4.out).mono ?_
  rintro e w5 ⟨rfl, rfl⟩
  simp only [List.length_cons, List.length_nil]
  go_wp2
  go_ret
  exact ⟨rfl, HB4.out⟩

theorem textsOf_prefix (ss : List ByteArray) (k : Nat) : textsOf (ss.take k) <+: textsOf ss := by
  suffices h : ∀ (l acc : List ByteArray), acc <+: l.foldl addS acc by
    have e : ss = ss.take k ++ ss.drop k := (List.take_append_drop k ss).symm
    unfold textsOf
    conv => rhs; rw [e, List.foldl_append]
    exact h _ _
  intro l
  induction l with
  | nil => intro acc; exact List.prefix_refl _
  | cons x l ih =>
    intro acc
    refine List.IsPrefix.trans ?_ (ih (addS acc x))
    unfold addS
    split
    · exact List.prefix_refl _
    · exact List.prefix_append _ _
theorem mem_addS (ss : List ByteArray) (s : ByteArray) : s ∈ addS ss s := by
  unfold addS
  split
  · assumption
  · simp
theorem idxOf_prefix {a b : List ByteArray} (h : a <+: b) {s : ByteArray} (hs : s ∈ a) : b.idxOf s = a.idxOf s := by
  obtain ⟨t, rfl⟩ := h
  rw [List.idxOf_append, if_pos hs]
/-- The number that a text gets is its place among all of them. -/
theorem at_texts {ss : List ByteArray} {k : Nat} (h : k < ss.length) : atI (textsOf ss) (ss.getD k ByteArray.empty) = (((textsOf (ss.take k)).idxOf (ss.getD k ByteArray.empty) : Nat) : Int) := by
  have hp := textsOf_prefix ss (k + 1)
  rw [textsOf_take h] at hp
  have hm := mem_addS (textsOf (ss.take k)) (ss.getD k ByteArray.empty)
  unfold atI
  rw [if_pos (hp.subset hm), idxOf_prefix hp hm]
  unfold addS
  by_cases e : ss.getD k ByteArray.empty ∈ textsOf (ss.take k)
  · rw [if_pos e]
  · rw [if_neg e, List.idxOf_append, if_neg e, List.idxOf_eq_length e]; simp

end Go.Proofs.Ytbcmkkphbkpapaa
