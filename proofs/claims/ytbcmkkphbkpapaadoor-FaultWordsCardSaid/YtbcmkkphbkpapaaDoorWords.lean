import Derived.Test.YtbcmkkphbkpapaaDoorAs3
import Derived.Test.YtbcmkkphbkpapaaDoorFault3
import Derived.Test.YtbcmkkphbkpapaaDoorTiedT
import Derived.Test.YtbcmkkphbkpapaaDoorWordP
import Derived.Lib.AppendIntMem
set_option linter.unusedVariables false
set_option linter.unusedSimpArgs false
namespace Go.Proofs.YtbcmkkphbkpapaaDoor
open Go.RowKit Go.Extern.Stop Go.Stop Go.Extern

theorem TabT.below {w w' : World} (h : TabT w) (hb : Below w.heap.size w w') : TabT w' := by
  unfold TabT Lib.TabIs at h ⊢
  have hg : Tryd.prog.globalNamed "internal/strconv.uint64pow10" = some 1 := by kernel_rfl
  have hlt : 1 < w.heap.size := by
    have := World.var?_cell hg h 0
    exact World.block_lt_of_cell? w _ (this.trans rfl)
  exact var?_below hb hg hlt h

theorem Tag_Error_out {w : World} {n : Int} (hT : TabT w) (h0 : -9223372036854775808 ≤ n) (h1 : n ≤ 9223372036854775807) (h : n < 0 ∨ 13 < n) :
    Calls Tryd.prog 43 #[.int .i64 n] w (RetB w (.string (bytesL ([116, 97, 103, 32] ++ Lib.itoa n)))) := by
  have HI : Hid (∀ W, Below w.heap.size w W → Calls Tryd.prog 64 #[.int .i64 n] W (RetB W (.string (bytesL (Lib.itoa n))))) := fun W hW =>
    (Tryd.strconv_Itoa n h0 h1 W (hT.below hW)).mono (by
      rintro e w' ⟨rfl, k, os, rfl⟩
      exact ⟨rfl, Lib.below_grow _ _ (Nat.le_refl _) k os⟩)
  have HS : Hid ((⟨#[116, 97, 103, 32]⟩ : ByteArray) ++ bytesL (Lib.itoa n) = bytesL ([116, 97, 103, 32] ++ Lib.itoa n)) := WordP.bL_append [116, 97, 103, 32] (Lib.itoa n)
  have hl : (bytesL (Lib.itoa n)).size ≤ 21 := by
    have := Lib.itoa_length_le n h0 h1
    have e : (bytesL (Lib.itoa n)).size = (Lib.itoa n).length := by simp [ByteArray.size]
    omega
  obtain ⟨x, hx⟩ : ∃ x, x = bytesL (Lib.itoa n) := ⟨_, rfl⟩
  rw [← hx] at HI HS hl
  have hs : ¬ (⟨#[116, 97, 103, 32]⟩ : ByteArray).size + x.size > 9223372036854775807 := by show ¬ 4 + x.size > _; omega
  have B1 : Hid (∀ cs, Below w.heap.size w (w.alloc (.cells cs 138))) := fun cs => (Below.refl _ _).alloc (Nat.le_refl _) _
  clear hT hx
  by_cases hn : n < 0
  · clear h
    go_enter Tryd.func43, Tryd.ntmps43
    go_wp2_with fail
    refine (HI.out _ (B1.out _)).mono ?_
    rintro e w1 ⟨rfl, hb1⟩
    have HB := hid ((B1.out _).trans (hb1.mono (by simp)))
    clear hb1
    go_wp2
    go_ret
    exact ⟨congrArg (fun z => Ending.returned (.string z)) HS.out, HB.out⟩
  · have h13 : 13 < n := by omega
    clear h
    go_enter Tryd.func43, Tryd.ntmps43
    go_wp2_with fail
    refine (HI.out _ (B1.out _)).mono ?_
    rintro e w1 ⟨rfl, hb1⟩
    have HB := hid ((B1.out _).trans (hb1.mono (by simp)))
    clear hb1
    go_wp2
    go_ret
    exact ⟨congrArg (fun z => Ending.returned (.string z)) HS.out, HB.out⟩
/-- A tag's text. -/
def tagText (n : Int) : List UInt8 := if 0 ≤ n ∧ n ≤ 13 then tagL.getD n.toNat [] else [116, 97, 103, 32] ++ Lib.itoa n
theorem Tag_Error_any {w : World} {n : Int} (hT : TabT w) (h0 : -9223372036854775808 ≤ n) (h1 : n ≤ 9223372036854775807) :
    Calls Tryd.prog 43 #[.int .i64 n] w (RetB w (.string (bytesL (tagText n)))) := by
  by_cases h : 0 ≤ n ∧ n ≤ 13
  · rw [tagText, if_pos h]
    obtain ⟨m, rfl⟩ : ∃ m : Nat, n = (m : Int) := ⟨n.toNat, by omega⟩
    rw [Int.toNat_natCast]
    exact Tag_Error_in m (by omega) w
  · rw [tagText, if_neg h]
    exact Tag_Error_out hT h0 h1 (by omega)
theorem word_in (n : Nat) (h : n ≤ 13) : PFW.ergolaw01_word.f 30 (n : Int) = some (bytesL (tagL.getD n [])) := by
  have hc : n = 0 ∨ n = 1 ∨ n = 2 ∨ n = 3 ∨ n = 4 ∨ n = 5 ∨ n = 6 ∨ n = 7 ∨ n = 8 ∨ n = 9 ∨ n = 10 ∨ n = 11 ∨ n = 12 ∨ n = 13 := by omega
  rcases hc with rfl | rfl | rfl | rfl | rfl | rfl | rfl | rfl | rfl | rfl | rfl | rfl | rfl | rfl
  all_goals rfl
theorem word_any {w : World} {n : Int} (h0 : -9223372036854775808 ≤ n) (h1 : n ≤ 9223372036854775807) :
    Calls Tryd.prog 40 #[.int .i64 n] w (RetB w (.string (bytesL (tagText n)))) := by
  refine PFW.ergolaw01_word.calls 30 n (bytesL (tagText n)) w ?_
  by_cases h : 0 ≤ n ∧ n ≤ 13
  · rw [tagText, if_pos h]
    obtain ⟨m, rfl⟩ : ∃ m : Nat, n = (m : Int) := ⟨n.toNat, by omega⟩
    rw [Int.toNat_natCast]
    exact word_in m (by omega)
  · rw [tagText, if_neg h]
    exact WordP.word_out n h0 h1 (by omega)
set_option maxHeartbeats 4000000 in
set_option maxRecDepth 100000 in
theorem FaultWords_any {w : World} {n : Int} (hT : TabT w) (hE : ErrT w) (h0 : -9223372036854775808 ≤ n) (h1 : n ≤ 9223372036854775807) :
    Calls Tryd.prog 10 #[.int .i64 n] w (RetB w (.bool true)) := by
  have HE := hid hE
  have HT := hid hT
  clear hE hT
  go_enter Tryd.func10, Tryd.ntmps10
  go_wp2_with fail
  refine (head01_any HE.out).mono ?_
  rintro e w1 ⟨rfl, hb⟩
  have HB := hid hb
  clear hb
  go_wp2_with fail
  refine (Tag_Error_any (HT.out.below HB.out) h0 h1).mono ?_
  rintro e w2 ⟨rfl, hb⟩
  have HB := hid (HB.out.trans (hb.mono HB.out.size))
  clear hb
  go_wp2_with fail
  refine (word_any h0 h1).mono ?_
  rintro e w3 ⟨rfl, hb⟩
  have HB := hid (HB.out.trans (hb.mono HB.out.size))
  clear hb
  go_wp2_with fail
  refine (Of_tag (HE.out.below HB.out)).mono ?_
  rintro e w4 ⟨rfl, hb⟩
  have HB := hid (HB.out.trans (hb.mono HB.out.size))
  clear hb
  go_wp2_with fail
  refine (At_tag (HE.out.below HB.out)).mono ?_
  rintro e w5 ⟨rfl, hb⟩
  have HB := hid (HB.out.trans (hb.mono HB.out.size))
  clear hb
  go_wp2_with fail
  refine (Depth_tag (HE.out.below HB.out)).mono ?_
  rintro e w6 ⟨rfl, hb⟩
  have HB := hid (HB.out.trans (hb.mono HB.out.size))
  clear hb
  go_wp2_with fail
  refine (Of_nil _).mono ?_
  rintro e w7 ⟨rfl, hb⟩
  have HB := hid (HB.out.trans (hb.mono HB.out.size))
  clear hb
  go_wp2_with fail
  refine (At_nil _).mono ?_
  rintro e w8 ⟨rfl, hb⟩
  have HB := hid (HB.out.trans (hb.mono HB.out.size))
  clear hb
  go_wp2_with fail
  refine (Depth_any (fs := []) (HE.out.below HB.out) rfl (by decide)).mono ?_
  rintro e w9 ⟨rfl, hb⟩
  have HB := hid (HB.out.trans (hb.mono HB.out.size))
  clear hb
  go_wp2
  go_ret
  exact ⟨ret_bool (by simp), HB.out⟩
end Go.Proofs.YtbcmkkphbkpapaaDoor
