import Derived.Test.YtbcmkkphbkpapaaIntern
import Derived.Test.YtbcmkkphbkpapaaShelf
set_option linter.unusedVariables false
set_option linter.unusedSimpArgs false
namespace Go.Proofs.Ytbcmkkphbkpapaa
open Go.RowKit Go.Maps

theorem New_any {w : World} : Calls Try.prog 9 #[] w fun e w' => e = .returned (.pointer (some ⟨w.heap.size + 1, 0, none⟩)) ∧ TabE w' (fun i => w.heap.size ≤ i) (w.heap.size + 1) [] ∧ Below w.heap.size w w' ∧ w'.heap.size = w.heap.size + 2 := by
  have hmm := @run_makeMap Try.prog
  go_enter Try.func9, Try.ntmps9
  go_wp2
  go_ret
  refine ⟨rfl, ⟨.slice none 0 0, w.heap.size, .map [], ?_⟩, ((Below.refl _ _).alloc (Nat.le_refl _) _).alloc (by simp) _, by simp⟩
  have e1 : (w.alloc (.map #[] 0)).heap.size = w.heap.size + 1 := by simp
  refine ⟨by omega, Nat.le_refl _, fun g hg => by simp [Value.ownBlock] at hg, ?_, ⟨by simp, .inl ⟨rfl, rfl⟩⟩, (World.ownsMap_made _ _ _ _).alloc _, dict_empty, by simp⟩
  have := heap_alloc_new (w.alloc (.map #[] 0)) (.cells #[.slice none 0 0, .map (some w.heap.size)] 44)
  rw [e1] at this
  exact this

theorem Len_any {w : World} {F : Nat → Prop} {b : Nat} {ss : List ByteArray} (h : TabE w F b ss) :
    Calls Try.prog 15 #[.pointer (some ⟨b, 0, none⟩)] w fun e w' => e = .returned (.int .i64 (ss.length : Nat)) ∧ w = w' := by
  obtain ⟨v, m, D, h⟩ := h
  obtain ⟨A, c, rfl⟩ := own_slice h.row
  have c0 := cell_blk h.blk 0
  simp at c0
  clear h
  go_enter Try.func15, Try.ntmps15
  go_wp2
  go_ret
  exact ⟨rfl, rfl⟩

def FindPost (w : World) (ss : List ByteArray) (s : ByteArray) (e : Ending) (w' : World) : Prop :=
  e = .returned (.tuple #[.int .i64 (if s ∈ ss then ((ss.idxOf s : Nat) : Int) else 0), .bool (decide (s ∈ ss))]) ∧ w = w'
theorem Find_any {w : World} {F : Nat → Prop} {b : Nat} {ss : List ByteArray} {s : ByteArray} (h : TabE w F b ss) (hs : s.size ≤ maxLen) :
    Calls Try.prog 14 #[.pointer (some ⟨b, 0, none⟩), .string s] w (FindPost w ss s) := by
  obtain ⟨v, m, D, h⟩ := h
  have c1 := cell_blk h.blk 1
  simp at c1
  have hmp := h.mp
  have hd : Maps.has D (.string s.data.toList) = decide (s ∈ ss) := (h.dict s).1
  have Hd := hid hd
  have Hat := hid ((h.dict s).2)
  clear h hd
  go_enter Try.func14, Try.ntmps14
  go_wp2_with (first
    | (at_lookup; refine wpList_lookup_own_ok_int _ rfl _ _ 42 rfl 9 2 .i64 slaw Try.underlying42 Try.underlying2 (zero2 _) m ss.length D rfl hmp _ _ rfl (WideMaps.keyOf_string_mk Try.underlying9 hs) ?_; intro c hat hwc; have Hc := hid hat; clear hat))
  go_ret2
  have hc := Hc.out
  refine ⟨?_, rfl⟩
  rw [← Hd.out]
  refine congrArg (fun c => Ending.returned (.tuple #[.int .i64 c, .bool (Maps.has D (.string s.data.toList))])) ?_
  by_cases e : s ∈ ss
  · rw [if_pos e]
    rw [Hat.out e] at hc
    injection hc with hc
    injection hc with _ hc
    exact hc.symm
  · rw [if_neg e]
    have h0 : Maps.has D (.string s.data.toList) = false := by rw [Hd.out]; simpa using e
    rw [Maps.atKey_of_not_has h0] at hc
    injection hc with hc
    injection hc with _ hc
    exact hc.symm

theorem Text_in {w : World} {F : Nat → Prop} {b : Nat} {ss : List ByteArray} {i : Int} (h : TabE w F b ss) (h0 : 0 ≤ i) (h1 : i < ss.length) (hn : ss.length < 4294967296) :
    Calls Try.prog 16 #[.pointer (some ⟨b, 0, none⟩), .int .i64 i] w fun e w' => e = .returned (.tuple #[.string (ss.getD i.toNat ByteArray.empty), .bool true]) ∧ w = w' := by
  obtain ⟨k, rfl⟩ := Int.eq_ofNat_of_zero_le h0
  rw [Int.toNat_natCast]
  have h1' : k < ss.length := by omega
  obtain ⟨v, m, D, h⟩ := h
  obtain ⟨g, c, rfl⟩ : ∃ g c, v = .slice (some ⟨g, 0, none⟩) ss.length c := by
    rcases h.row.2 with ⟨_, hh⟩ | ⟨g, cap, cur, rfl, _⟩
    · omega
    · exact ⟨g, cap, rfl⟩
  have c0 := cell_blk h.blk 0
  simp at c0
  have ck := h.row.cells rfl k (.string (ss.getD k ByteArray.empty)) (by simp [h1'])
  have e : (⟨g, 0, none⟩ : Addr).add k = ⟨g, k, none⟩ := by unfold Addr.add; split <;> simp_all
  rw [e] at ck
  obtain ⟨t, ht⟩ : ∃ t, t = ss.getD k ByteArray.empty := ⟨_, rfl⟩
  rw [← ht] at ck ⊢
  clear h e ht
  go_enter Try.func16, Try.ntmps16
  go_wp2
  go_ret2
  exact ⟨rfl, rfl⟩

theorem Text_out {w : World} {F : Nat → Prop} {b : Nat} {ss : List ByteArray} {i : Int} (h : TabE w F b ss) (h1 : i < 0 ∨ ss.length ≤ i) :
    Calls Try.prog 16 #[.pointer (some ⟨b, 0, none⟩), .int .i64 i] w fun e w' => e = .returned (.tuple #[.string ⟨#[]⟩, .bool false]) ∧ w = w' := by
  obtain ⟨v, m, D, h⟩ := h
  obtain ⟨A, c, rfl⟩ := own_slice h.row
  have c0 := cell_blk h.blk 0
  simp at c0
  clear h
  rcases h1 with h1 | h1
  · go_enter Try.func16, Try.ntmps16
    go_wp2
    go_ret2
    exact ⟨rfl, rfl⟩
  · have h2 : ¬ i < 0 := by omega
    go_enter Try.func16, Try.ntmps16
    go_wp2
    go_ret2
    exact ⟨rfl, rfl⟩

end Go.Proofs.Ytbcmkkphbkpapaa
