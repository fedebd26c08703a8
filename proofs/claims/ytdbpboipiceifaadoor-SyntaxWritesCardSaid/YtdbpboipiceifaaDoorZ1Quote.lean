import Derived.Test.YtdbpboipiceifaaDoorZ1LexV
set_option linter.unusedVariables false
set_option linter.unusedSimpArgs false
namespace Go.Proofs.YtdbpboipiceifaaDoor
open Go.RowKit
theorem take_succ {s : ByteArray} {k : Nat} (h : k < s.size) : s.data.toList.take (k + 1) = s.data.toList.take k ++ [s[k]] := by
  rw [List.take_succ_eq_append_getElem (by simpa using h)]; rfl
theorem take_all (s : ByteArray) : s.data.toList.take s.size = s.data.toList := List.take_of_length_le (by rw [Array.length_toList]; exact Nat.le_refl _)
structure QW (w wr : World) (out : List UInt8) : Prop where
  fr : Below w.heap.size w wr
  bld : IsB w.heap.size w.heap.size (Lib.byteCells out) wr
  sz : w.heap.size < wr.heap.size
theorem QW.write {w wr w1 : World} {out m : List UInt8} {v : Value} {e : Ending} (h : QW w wr out) (hp : BldPost w.heap.size w.heap.size (Lib.byteCells out ++ Lib.byteCells m) v wr e w1) : e = .returned v ∧ QW w w1 (out ++ m) := by
  obtain ⟨he, hb, hbel⟩ := hp
  have hz := h.sz
  refine ⟨he, ⟨h.fr.trans hbel, ?_, by have := hbel.size; omega⟩⟩
  rw [Lib.byteCells_append]
  exact hb
set_option maxHeartbeats 4000000 in
set_option maxRecDepth 100000 in
theorem Quote_any (s : ByteArray) (w : World) (hs : s.size ≤ 1073741824) : Calls Tryd.prog 69 #[.string s] w (RetB w (.string (bytesOf (quoteL s.data.toList)))) := by
  have Q0 : Hid (QW w (w.alloc (.cells #[.pointer none, .slice none 0 0] 96)) []) := ⟨(Below.refl _ _).alloc (Nat.le_refl _) _, IsB.fresh (Nat.le_refl _) (heap_alloc_new w _), by simp⟩
  go_enter Tryd.func69, Tryd.ntmps69
  go_wp2_with fail
  refine (WriteByte_any _ _ (Lib.byteCells []) 34 _ Q0.out.bld (by rw [byteCells_len]; decide) (Nat.le_of_lt Q0.out.sz)).mono ?_
  intro e w1 hp
  obtain ⟨rfl, hQ⟩ := Q0.out.write (m := [34]) hp
  have Q1 := hid hQ
  clear hQ hp
  go_wp2_with fail
  go_loopg [9] s.size (fun g t9 wr => ∃ (i : Nat), t9 = .int .i64 (i : Int) ∧ i ≤ s.size ∧ s.size - i ≤ g ∧ Hid (QW w wr (34 :: escL (s.data.toList.take i))))
  case atStart => exact ⟨0, rfl, by omega, by omega, Q1⟩
  case round =>
    obtain ⟨i, rfl, hi, hg, H⟩ := hrel
    obtain ⟨wo, rfl⟩ : ∃ x : World, x = wr := ⟨_, rfl⟩
    have hlen : (34 :: escL (s.data.toList.take i)).length ≤ 1 + 2 * s.size := by
      have h1 := escL_len (s.data.toList.take i)
      have h2 : (s.data.toList.take i).length ≤ i := List.length_take_le _ _
      simp only [List.length_cons]
      omega
    by_cases hlt : i < s.size
    · have hlt' : (i : Int) < (s.size : Int) := by omega
      have HT : Hid (34 :: escL (s.data.toList.take (i + 1)) = 34 :: escL (s.data.toList.take i) ++ escL [s[i]]) := by show _ = _; rw [take_succ hlt, escL_append]; rfl
      by_cases h10 : s[i] = 10
      · have e10 : ((s[i].toNat : Int) == 10) = true := byte_eq h10
        have HE : Hid (escL [s[i]] = [92, 110]) := by show _ = _; rw [h10]; rfl
        clear h10
        go_wp2_with fail
        refine (WriteString_any _ _ _ _ _ H.out.bld (by rw [byteCells_len]; show _ + 2 ≤ _; omega) (Nat.le_of_lt H.out.sz)).mono ?_
        intro e w1 hp
        obtain ⟨rfl, hQ⟩ := H.out.write (m := [92, 110]) hp
        have Q2 : Hid (QW w w1 (34 :: escL (s.data.toList.take (i + 1)))) := by show QW _ _ _; rw [HT.out, HE.out]; exact hQ
        clear hQ hp
        go_wp2
        go_roundg (s.size - (i + 1))
        case measure => omega
        case rel => exact ⟨i + 1, rfl, by omega, Nat.le_refl _, Q2⟩
      · have e10 : ((s[i].toNat : Int) == 10) = false := byte_ne h10
        by_cases hq : s[i] = 34 ∨ s[i] = 92
        · have HE : Hid (escL [s[i]] = [92, s[i]]) := by
            show _ = _
            rcases hq with h | h
            · rw [h]; rfl
            · rw [h]; rfl
          have hway : ((s[i].toNat : Int) == 34) = true ∨ ((s[i].toNat : Int) == 34) = false ∧ ((s[i].toNat : Int) == 92) = true := by
            rcases hq with h | h
            · exact .inl (byte_eq h)
            · by_cases h' : s[i] = 34
              · exact .inl (byte_eq h')
              · exact .inr ⟨byte_ne h', byte_eq h⟩
          clear h10 hq
          rcases hway with e34 | ⟨e34, e92⟩
          all_goals
            go_wp2_with fail
            refine (WriteByte_any _ _ _ _ _ H.out.bld (by rw [byteCells_len]; omega) (Nat.le_of_lt H.out.sz)).mono ?_
            intro e w1 hp
            obtain ⟨rfl, hQ⟩ := H.out.write (m := [92]) hp
            have Q2 := hid hQ
            clear hQ hp
            go_wp2_with fail
            refine (WriteByte_any _ _ _ _ _ Q2.out.bld (by rw [byteCells_len, List.length_append]; simp only [List.length_singleton]; omega) (Nat.le_of_lt Q2.out.sz)).mono ?_
            intro e w2 hp
            obtain ⟨rfl, hQ⟩ := Q2.out.write (m := [s[i]]) hp
            have Q3 : Hid (QW w w2 (34 :: escL (s.data.toList.take (i + 1)))) := by show QW _ _ _; rw [HT.out, HE.out]; simpa using hQ
            clear hQ hp
            go_wp2
            go_roundg (s.size - (i + 1))
            case measure => omega
            case rel => exact ⟨i + 1, rfl, by omega, Nat.le_refl _, Q3⟩
        · have h34 : ¬ s[i] = 34 := fun h => hq (.inl h)
          have h92 : ¬ s[i] = 92 := fun h => hq (.inr h)
          have e34 : ((s[i].toNat : Int) == 34) = false := byte_ne h34
          have e92 : ((s[i].toNat : Int) == 92) = false := byte_ne h92
          have HE : Hid (escL [s[i]] = [s[i]]) := by show _ = _; rw [escL, if_neg h10, if_neg h34, if_neg h92]; rfl
          clear h10 hq h34 h92
          go_wp2_with fail
          refine (WriteByte_any _ _ _ _ _ H.out.bld (by rw [byteCells_len]; omega) (Nat.le_of_lt H.out.sz)).mono ?_
          intro e w1 hp
          obtain ⟨rfl, hQ⟩ := H.out.write (m := [s[i]]) hp
          have Q2 : Hid (QW w w1 (34 :: escL (s.data.toList.take (i + 1)))) := by show QW _ _ _; rw [HT.out, HE.out]; exact hQ
          clear hQ hp
          go_wp2
          go_roundg (s.size - (i + 1))
          case measure => omega
          case rel => exact ⟨i + 1, rfl, by omega, Nat.le_refl _, Q2⟩
    · have hie : i = s.size := by omega
      subst hie
      go_wp2_with fail
      refine (WriteByte_any _ _ _ _ _ H.out.bld (by rw [byteCells_len]; omega) (Nat.le_of_lt H.out.sz)).mono ?_
      intro e w1 hp
      obtain ⟨rfl, hQ⟩ := H.out.write (m := [34]) hp
      rw [take_all] at hQ
      have Q2 := hid hQ
      clear hQ hp
      go_wp2_with fail
      refine (Tryd.Builder_String_any w.heap.size w.heap.size _ _ Q2.out.bld (Nat.le_of_lt Q2.out.sz)).mono ?_
      rintro e w2 ⟨rfl, hb2⟩
      go_wp2
      go_ret
      exact ⟨rfl, Q2.out.fr.trans hb2⟩
end Go.Proofs.YtdbpboipiceifaaDoor
