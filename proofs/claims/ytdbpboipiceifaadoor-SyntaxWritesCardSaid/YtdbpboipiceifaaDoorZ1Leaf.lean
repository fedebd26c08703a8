import Derived.Test.YtdbpboipiceifaaDoorZ1Byt
import Derived.Test.YtdbpboipiceifaaDoorZ1TiedT
import Derived.Test.YtdbpboipiceifaaDoorZ1Quote
import Derived.Test.YtdbpboipiceifaaDoorZ1W1
import Derived.Lib.AppendIntMem
set_option linter.unusedVariables false
set_option linter.unusedSimpArgs false
namespace Go.Proofs.YtdbpboipiceifaaDoorPSP
open Go.RowKit Go.Extern.Stop Go.Stop Go.Extern Go.Proofs.YtdbpboipiceifaaDoorW.PrintWords Go.Proofs.YtdbpboipiceifaaDoor
theorem tab_below {w w' : World} (h : TabT w) (hb : Below w.heap.size w w') : TabT w' := by
  unfold TabT Lib.TabIs at h ⊢
  have hg : Tryd.prog.globalNamed "internal/strconv.uint64pow10" = some 1 := by kernel_rfl
  have hlt : 1 < w.heap.size := by
    have := World.var?_cell hg h 0
    exact World.block_lt_of_cell? w _ (this.trans rfl)
  exact var?_below hb hg hlt h
def arithL : List (List UInt8) := [[43], [45], [42], [47], [37]]
def columnL : List (List UInt8) := [[61], [33, 61], [60], [60, 61], [62], [62, 61]]
def aggL : List (List UInt8) := [[], [99, 111, 117, 110, 116], [115, 117, 109], [109, 105, 110], [109, 97, 120]]
def arith_Op_Sign.f (a : Int) : Option ByteArray := if 0 ≤ a ∧ a ≤ 4 then some (bytesL (arithL.getD a.toNat [])) else none
def column_Op_Sign.f (a : Int) : Option ByteArray := if 0 ≤ a ∧ a ≤ 5 then some (bytesL (columnL.getD a.toNat [])) else none
def group_Agg_Word.f (a : Int) : Option ByteArray := if 0 ≤ a ∧ a ≤ 4 then some (bytesL (aggL.getD a.toNat [])) else none
def strconv_FormatInt.f (a b : Int) : Option ByteArray := if -9223372036854775808 ≤ a ∧ a ≤ 9223372036854775807 ∧ b = 10 then some (bytesL (Lib.itoa a)) else none
def lex_Quote.f (s : ByteArray) : Option ByteArray := if s.size ≤ 1073741824 then some (bytesOf (quoteL s.data.toList)) else none
def strings_Join.f (xs : List ByteArray) (sep : ByteArray) : Option ByteArray := if xs.length ≤ 140737488355328 ∧ (Lib.join (xs.map (·.data.toList)) sep.data.toList).length ≤ 140737488355328 then some (bytesL (Lib.join (xs.map (·.data.toList)) sep.data.toList)) else none
set_option maxHeartbeats 4000000 in
set_option maxRecDepth 100000 in
theorem arith_in (n : Nat) (hn : n ≤ 4) (w : World) : Calls Tryd.prog 94 #[.int .i64 (n : Int)] w (RetB w (.string (bytesL (arithL.getD n [])))) := by
  have hc : n = 0 ∨ n = 1 ∨ n = 2 ∨ n = 3 ∨ n = 4 := by omega
  rcases hc with rfl | rfl | rfl | rfl | rfl
  all_goals
    go_enter Tryd.func94, Tryd.ntmps94
    go_wp2
    go_ret
    exact ⟨rfl, (Below.refl _ _).alloc (Nat.le_refl _) _⟩
set_option maxHeartbeats 4000000 in
set_option maxRecDepth 100000 in
theorem column_in (n : Nat) (hn : n ≤ 5) (w : World) : Calls Tryd.prog 71 #[.int .i64 (n : Int)] w (RetB w (.string (bytesL (columnL.getD n [])))) := by
  have hc : n = 0 ∨ n = 1 ∨ n = 2 ∨ n = 3 ∨ n = 4 ∨ n = 5 := by omega
  rcases hc with rfl | rfl | rfl | rfl | rfl | rfl
  all_goals
    go_enter Tryd.func71, Tryd.ntmps71
    go_wp2
    go_ret
    exact ⟨rfl, (Below.refl _ _).alloc (Nat.le_refl _) _⟩
set_option maxHeartbeats 4000000 in
set_option maxRecDepth 100000 in
theorem agg_in (n : Nat) (hn : n ≤ 4) (w : World) : Calls Tryd.prog 45 #[.int .i64 (n : Int)] w (RetB w (.string (bytesL (aggL.getD n [])))) := by
  have hc : n = 0 ∨ n = 1 ∨ n = 2 ∨ n = 3 ∨ n = 4 := by omega
  rcases hc with rfl | rfl | rfl | rfl | rfl
  all_goals
    go_enter Tryd.func45, Tryd.ntmps45
    go_wp2
    go_ret
    exact ⟨rfl, (Below.refl _ _).alloc (Nat.le_refl _) _⟩
theorem arith_Op_Sign.calls (a : Int) (r : ByteArray) (w : World) (h : arith_Op_Sign.f a = some r) : Calls Tryd.prog 94 #[.int .i64 a] w fun e w' => e = .returned (.string r) ∧ Below w.heap.size w w' := by
  unfold arith_Op_Sign.f at h
  split at h
  · rename_i hc
    obtain rfl := Option.some.inj h
    have := arith_in a.toNat (by omega) w
    rw [Int.toNat_of_nonneg hc.1] at this
    exact this
  · cases h
theorem column_Op_Sign.calls (a : Int) (r : ByteArray) (w : World) (h : column_Op_Sign.f a = some r) : Calls Tryd.prog 71 #[.int .i64 a] w fun e w' => e = .returned (.string r) ∧ Below w.heap.size w w' := by
  unfold column_Op_Sign.f at h
  split at h
  · rename_i hc
    obtain rfl := Option.some.inj h
    have := column_in a.toNat (by omega) w
    rw [Int.toNat_of_nonneg hc.1] at this
    exact this
  · cases h
theorem group_Agg_Word.calls (a : Int) (r : ByteArray) (w : World) (h : group_Agg_Word.f a = some r) : Calls Tryd.prog 45 #[.int .i64 a] w fun e w' => e = .returned (.string r) ∧ Below w.heap.size w w' := by
  unfold group_Agg_Word.f at h
  split at h
  · rename_i hc
    obtain rfl := Option.some.inj h
    have := agg_in a.toNat (by omega) w
    rw [Int.toNat_of_nonneg hc.1] at this
    exact this
  · cases h
theorem strconv_FormatInt.calls (a b : Int) (r : ByteArray) (w : World) (h : strconv_FormatInt.f a b = some r) (hG : TabT w) : Calls Tryd.prog 67 #[.int .i64 a, .int .i64 b] w fun e w' => e = .returned (.string r) ∧ Below w.heap.size w w' := by
  unfold strconv_FormatInt.f at h
  split at h
  · rename_i hc
    obtain ⟨h0, h1, rfl⟩ := hc
    obtain rfl := Option.some.inj h
    refine (Tryd.strconv_FormatInt_10 a h0 h1 w hG).mono ?_
    rintro e w' ⟨rfl, k, os, rfl⟩
    exact ⟨rfl, Lib.below_grow _ _ (Nat.le_refl _) k os⟩
  · cases h
theorem lex_Quote.calls (s : ByteArray) (r : ByteArray) (w : World) (h : lex_Quote.f s = some r) : Calls Tryd.prog 69 #[.string s] w fun e w' => e = .returned (.string r) ∧ Below w.heap.size w w' := by
  unfold lex_Quote.f at h
  split at h
  · rename_i hc
    obtain rfl := Option.some.inj h
    exact Quote_any s w hc
  · cases h
theorem strings_Join.calls (A : Option Addr) (c : Nat) (xs : List ByteArray) (sep : ByteArray) (r : ByteArray) (w : World) (hr : Kd.C Kd.string w A xs.length xs) (hc : xs.length ≤ c) (h : strings_Join.f xs sep = some r) :
    Calls Tryd.prog 46 #[.slice A xs.length c, .string sep] w fun e w' => e = .returned (.string r) ∧ Below w.heap.size w w' := by
  unfold strings_Join.f at h
  split at h
  · rename_i hk
    obtain rfl := Option.some.inj h
    by_cases h0 : xs.length = 0
    · obtain rfl := List.length_eq_zero_iff.1 h0
      refine (Tryd.strings_Join_none A c sep w).mono ?_
      rintro e w' ⟨rfl, rfl⟩
      exact ⟨rfl, Below.refl _ _⟩
    · obtain ⟨_, _, hr⟩ := hr
      obtain ⟨⟨b, o, s⟩, rfl, hcell⟩ := hr (by omega)
      have hs : s = none := by
        obtain ⟨q, hq, e, k⟩ := hcell 0 _ (List.getElem?_eq_getElem (by omega))
        obtain rfl : q = [_] := e
        have k := k 0 _ rfl
        unfold Addr.add World.cell? at k
        simp only [Nat.zero_mul, Nat.add_zero, if_true] at k
        split at k
        · split at k
          · cases k
          · rename_i hs; simpa using hs
        · cases k
      subst hs
      have hcells : ∀ (j : Nat) x, xs[j]? = some x → w.cell? ⟨b, o + j, none⟩ = some (.string x) := fun j x hx => by
        obtain ⟨q, hq, e, k⟩ := hcell j x hx
        obtain rfl : q = [_] := e
        have k := k 0 _ rfl
        have e1 : Kd.string.sz = 1 := rfl
        rw [e1, Nat.mul_one, Nat.add_zero] at k
        unfold Addr.add at k
        split at k
        · rename_i hj; rw [hj]; exact k
        · exact k
      exact Tryd.strings_Join b o c xs sep w hcells (World.block_lt_of_cell? w _ (hcells 0 _ (List.getElem?_eq_getElem (by omega)))) hk.1 hc hk.2
  · cases h
end Go.Proofs.YtdbpboipiceifaaDoorPSP
