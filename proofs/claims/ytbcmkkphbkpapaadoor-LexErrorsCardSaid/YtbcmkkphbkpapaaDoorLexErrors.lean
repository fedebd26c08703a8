import Derived.Test.YtbcmkkphbkpapaaDoorLexE
import Derived.Test.YtbcmkkphbkpapaaDoorLexReads
set_option linter.unusedVariables false
set_option linter.unusedSimpArgs false
namespace Go.Proofs.YtbcmkkphbkpapaaDoor
open Go.RowKit

def repB (x : ByteArray) (y : ByteArray) : Nat → ByteArray
  | 0 => x
  | n + 1 => repB x y n ++ y
theorem repB_size (x y : ByteArray) (n : Nat) : (repB x y n).size = x.size + n * y.size := by
  induction n with
  | zero => simp [repB]
  | succ n ih => rw [repB, ByteArray.size_append, ih, Nat.add_mul]; omega
theorem repB_data (x y : ByteArray) (n : Nat) : (repB x y n).data.toList = x.data.toList ++ (List.replicate n y.data.toList).flatten := by
  induction n with
  | zero => simp [repB]
  | succ n ih => rw [repB, ByteArray.data_append, Array.toList_append, ih, List.replicate_succ', List.flatten_append]; simp

theorem idx_of (which : Int) (n : Nat) (hn : 0 < n) (hn2 : n < 9223372036854775808) : ∃ i : Nat, wrap64 ((IntKind.u64.wrap which).tmod (n : Int)) = (i : Int) ∧ i < n := by
  have h0 : 0 ≤ IntKind.u64.wrap which := by rw [IntKind.wrap_u64]; omega
  have h1 : (IntKind.u64.wrap which).tmod (n : Int) = (IntKind.u64.wrap which) % (n : Int) := Int.tmod_eq_emod_of_nonneg h0
  have h2 : 0 ≤ (IntKind.u64.wrap which) % (n : Int) := Int.emod_nonneg _ (by omega)
  have h3 : (IntKind.u64.wrap which) % (n : Int) < (n : Int) := Int.emod_lt_of_pos _ (by omega)
  refine ⟨((IntKind.u64.wrap which) % (n : Int)).toNat, ?_, by omega⟩
  rw [h1, Int.toNat_of_nonneg h2]
  unfold wrap64
  omega
theorem tests_fine : ∀ t ∈ testL, t.1.length ≤ 43 ∧ t.2.2 ≤ t.1.length ∧ t.2.1 ≤ 3 := by decide
theorem lexAll_ps (i : Nat) (l : List UInt8) {e : Nat × Nat} (h : lexAll l = .error e) : lexAll ((⟨#[]⟩ : ByteArray).data.toList ++ (List.replicate i (⟨#[112, 32]⟩ : ByteArray).data.toList).flatten ++ l) = .error e := by
  show lexAll ((List.replicate i [112, 32]).flatten ++ l) = _
  induction i with
  | zero => exact h
  | succ i ih =>
    rw [List.replicate_succ, List.flatten_cons, List.append_assoc]
    exact lexAll_p _ ih
/-- The table of tests as it lies in memory. -/
def TestsAt (w : World) (g : Nat) : Prop := ∀ i, i < 16 → ∃ t, testL[i]? = some t ∧ w.cell? ⟨g, i * 3, none⟩ = some (.string (bytesOf t.1)) ∧ w.cell? ⟨g, i * 3 + 1, none⟩ = some (.int .i64 (t.2.1 : Int)) ∧ w.cell? ⟨g, i * 3 + 2, none⟩ = some (.int .i64 (t.2.2 : Int))
set_option maxRecDepth 100000 in
theorem tests_at {w : World} {g : Nat} {ty : TypeId} {lg : ByteArray} (hlg : lg = bytesOf longL) (h : w.heap[g]? = some (.cells #[.string ⟨#[95, 120]⟩, .int .i64 1, .int .i64 0, .string ⟨#[120, 32, 59, 32, 121]⟩, .int .i64 1, .int .i64 2, .string ⟨#[34, 97, 98]⟩, .int .i64 1, .int .i64 3, .string ⟨#[34, 97, 92, 120, 34]⟩, .int .i64 1, .int .i64 2, .string ⟨#[34, 97, 9, 98, 34]⟩, .int .i64 1, .int .i64 2, .string ⟨#[34, 92]⟩, .int .i64 1, .int .i64 1, .string ⟨#[57, 50, 50, 51, 51, 55, 50, 48, 51, 54, 56, 53, 52, 55, 55, 53, 56, 48, 57]⟩, .int .i64 1, .int .i64 0, .string ⟨#[57, 57, 57, 57, 57, 57, 57, 57, 57, 57, 57, 57, 57, 57, 57, 57, 57, 57, 57, 57, 57, 57, 57]⟩, .int .i64 1, .int .i64 0, .string lg, .int .i64 3, .int .i64 0, .string (⟨#[34]⟩ ++ lg ++ ⟨#[34]⟩), .int .i64 3, .int .i64 0, .string ⟨#[120, 32, 33]⟩, .int .i64 1, .int .i64 2, .string ⟨#[120, 32, 58, 32, 121]⟩, .int .i64 1, .int .i64 2, .string ⟨#[195, 169]⟩, .int .i64 1, .int .i64 0, .string ⟨#[34, 97, 10, 98, 34]⟩, .int .i64 1, .int .i64 2, .string ⟨#[0]⟩, .int .i64 1, .int .i64 0, .string ⟨#[39, 97, 39]⟩, .int .i64 1, .int .i64 0] ty (0, 0))) : TestsAt w g := by
  subst hlg
  intro i hi
  have k := fun o => cell_blk h o
  have hc : i = 0 ∨ i = 1 ∨ i = 2 ∨ i = 3 ∨ i = 4 ∨ i = 5 ∨ i = 6 ∨ i = 7 ∨ i = 8 ∨ i = 9 ∨ i = 10 ∨ i = 11 ∨ i = 12 ∨ i = 13 ∨ i = 14 ∨ i = 15 := by omega
  rcases hc with rfl | rfl | rfl | rfl | rfl | rfl | rfl | rfl | rfl | rfl | rfl | rfl | rfl | rfl | rfl | rfl
  all_goals exact ⟨_, rfl, (k _).trans rfl, (k _).trans rfl, (k _).trans rfl⟩

set_option maxHeartbeats 8000000 in
set_option maxRecDepth 100000 in
theorem LexErrors_any {w : World} {which ahead : Int} (hE : ErrT w) (h1 : -9223372036854775808 ≤ which) (h2 : which ≤ 9223372036854775807) (h3 : -9223372036854775808 ≤ ahead) (h4 : ahead ≤ 9223372036854775807) :
    Calls Tryd.prog 3 #[.int .i64 which, .int .i64 ahead] w (RetB w (.bool true)) := by
  have HE := hid hE
  clear hE
  obtain ⟨x, hx⟩ : ∃ x, x = bits .and .i64 ahead 7 := ⟨_, rfl⟩
  have hb := and_le ahead 7 (by decide)
  obtain ⟨m, hm⟩ : ∃ m : Nat, (m : Int) = x := Int.eq_ofNat_of_zero_le (by rw [hx]; exact hb.1) |>.imp fun _ h => h.symm
  have hm7 : m ≤ 7 := by have := hb.2; rw [show ((7 : Nat) : Int) = 7 by rfl, ← hx, ← hm] at this; omega
  rw [← hm] at hx
  have HX := hid hx.symm
  clear hm hb hx
  go_enter Tryd.func3, Tryd.ntmps3
  go_wp2_with fail
  refine (head_any _).mono ?_
  rintro e w1 ⟨rfl, hb1⟩
  have HB := hid hb1
  clear hb1
  go_wp2_with fail
  go_loopg [5, 6] m (fun g t5 t6 wr => ∃ i : Nat, t5 = .string (repB ⟨#[]⟩ ⟨#[112, 32]⟩ i) ∧ t6 = .int .i64 (i : Int) ∧ i ≤ m ∧ m - i ≤ g ∧ wr = w1)
  case atStart => exact ⟨0, rfl, rfl, by omega, by omega, rfl⟩
  case round =>
    obtain ⟨i, rfl, rfl, hi, hg, hw⟩ := hrel
    subst hw
    have hx := HX.out
    by_cases hlt : i < m
    · have hl' : (i : Int) < (m : Int) := by omega
      have hs : ¬ (repB ⟨#[]⟩ ⟨#[112, 32]⟩ i).size + (⟨#[112, 32]⟩ : ByteArray).size > 9223372036854775807 := by
        rw [repB_size]
        show ¬ 0 + i * 2 + 2 > 9223372036854775807
        omega
      go_wp2
      go_roundg (m - (i + 1))
      case measure => omega
      case rel => exact ⟨i + 1, rfl, rfl, by omega, Nat.le_refl _, rfl⟩
    · have hl' : ¬ (i : Int) < (m : Int) := by omega
      have hie : i = m := by omega
      subst hie
      go_wp2_with fail
      clear hx
      go_loopg [7, 8] 40 (fun g t7 t8 w2 => ∃ k : Nat, t7 = .string (repB ⟨#[97]⟩ ⟨#[98]⟩ k) ∧ t8 = .int .i64 (k : Int) ∧ k ≤ 40 ∧ 40 - k ≤ g ∧ w2 = wr)
      case atStart => exact ⟨0, rfl, rfl, by omega, by omega, rfl⟩
      case round =>
        obtain ⟨k, rfl, rfl, hk, hgk, hw⟩ := hrel
        subst hw
        by_cases hlk : k < 40
        · have hl' : (k : Int) < 40 := by omega
          have hs : ¬ (repB ⟨#[97]⟩ ⟨#[98]⟩ k).size + (⟨#[98]⟩ : ByteArray).size > 9223372036854775807 := by
            rw [repB_size]
            show ¬ 1 + k * 1 + 1 > 9223372036854775807
            omega
          go_wp2
          go_roundg (40 - (k + 1))
          case measure => omega
          case rel => exact ⟨k + 1, rfl, rfl, by omega, Nat.le_refl _, rfl⟩
        · have hl' : ¬ (k : Int) < 40 := by omega
          have hke : k = 40 := by omega
          subst hke
          obtain ⟨lg, hlg⟩ : ∃ lg, lg = repB ⟨#[97]⟩ ⟨#[98]⟩ 40 := ⟨_, rfl⟩
          obtain ⟨pf, hpf⟩ : ∃ pf, pf = repB ⟨#[]⟩ ⟨#[112, 32]⟩ i := ⟨_, rfl⟩
          rw [← hlg, ← hpf]
          have HLG := hid hlg
          have HPF := hid hpf
          have hs1 : lg.size = 41 := by rw [hlg, repB_size]; rfl
          have hs2 : pf.size = i * 2 := by rw [hpf, repB_size]; show 0 + i * 2 = _; omega
          clear hlg hpf
          go_upto_region 14 with (fail)
          obtain ⟨wq, hwq⟩ : ∃ wq, wq = wr.alloc (.cells #[.string ⟨#[95, 120]⟩, .int .i64 1, .int .i64 0, .string ⟨#[120, 32, 59, 32, 121]⟩, .int .i64 1, .int .i64 2, .string ⟨#[34, 97, 98]⟩, .int .i64 1, .int .i64 3, .string ⟨#[34, 97, 92, 120, 34]⟩, .int .i64 1, .int .i64 2, .string ⟨#[34, 97, 9, 98, 34]⟩, .int .i64 1, .int .i64 2, .string ⟨#[34, 92]⟩, .int .i64 1, .int .i64 1, .string ⟨#[57, 50, 50, 51, 51, 55, 50, 48, 51, 54, 56, 53, 52, 55, 55, 53, 56, 48, 57]⟩, .int .i64 1, .int .i64 0, .string ⟨#[57, 57, 57, 57, 57, 57, 57, 57, 57, 57, 57, 57, 57, 57, 57, 57, 57, 57, 57, 57, 57, 57, 57]⟩, .int .i64 1, .int .i64 0, .string lg, .int .i64 3, .int .i64 0, .string (⟨#[34]⟩ ++ lg ++ ⟨#[34]⟩), .int .i64 3, .int .i64 0, .string ⟨#[120, 32, 33]⟩, .int .i64 1, .int .i64 2, .string ⟨#[120, 32, 58, 32, 121]⟩, .int .i64 1, .int .i64 2, .string ⟨#[195, 169]⟩, .int .i64 1, .int .i64 0, .string ⟨#[34, 97, 10, 98, 34]⟩, .int .i64 1, .int .i64 2, .string ⟨#[0]⟩, .int .i64 1, .int .i64 0, .string ⟨#[39, 97, 39]⟩, .int .i64 1, .int .i64 0] 24) := ⟨_, rfl⟩
          rw [← hwq]
          have hlg : lg = bytesOf longL := by rw [HLG.out]; rfl
          have HT : Hid (TestsAt wq wr.heap.size) := tests_at hlg (by rw [hwq]; exact heap_alloc_new wr _)
          have HB2 : Hid (Below w.heap.size w wq) := by
            show Below _ _ _
            rw [hwq]
            exact HB.out.alloc HB.out.size _
          have hq : wr.heap.size < wq.heap.size := by rw [hwq]; simp
          clear hwq
          obtain ⟨ix, hix, hix16⟩ := idx_of which 16 (by decide) (by decide)
          have hix' : wrap64 ((IntKind.u64.wrap which).tmod 16) = (ix : Int) := hix
          clear hix
          obtain ⟨t, ht, k0, k1, k2⟩ := HT.out ix hix16
          obtain ⟨f1, f2, f3⟩ := tests_fine t (List.mem_of_getElem? ht)
          have HBAD := hid (tests_bad t (List.mem_of_getElem? ht))
          have hts : (bytesOf t.1).size = t.1.length := by simp [bytesOf, ByteArray.size]
          have hs : ¬ pf.size + (bytesOf t.1).size > 9223372036854775807 := by omega
          have HLEX : Hid (lexAll (pf ++ bytesOf t.1).data.toList = .error (t.2.1, t.1.length - t.2.2)) := by
            show _ = _
            rw [ByteArray.data_append, Array.toList_append, HPF.out, repB_data]
            exact lexAll_ps i t.1 HBAD.out
          have hsz : (pf ++ bytesOf t.1).size = i * 2 + t.1.length := by rw [ByteArray.size_append, hs2, hts]
          have HSZ := hid hsz
          have HA := hid (fun W => All_any (w := W) (s := pf ++ bytesOf t.1) (by omega))
          have HS2 := hid hs2
          have hps : (pf.size : Int) = 2 * (i : Int) := by omega
          clear hsz hs2 hs1
          go_wp2_with fail
          refine (HA.out _).mono ?_
          rintro e w4 ⟨hb4, h⟩
          rw [HLEX.out] at h
          obtain ⟨f, what, rfl, hf⟩ := h
          have hT4 : Hid (w4.cell? ⟨wq.heap.size, 1, none⟩ = some (.int .i64 (t.2.1 : Int)) ∧ w4.cell? ⟨wq.heap.size, 2, none⟩ = some (.int .i64 (t.2.2 : Int))) := by
            have hx := heap_alloc_new wq (.cells #[.string (bytesOf t.1), .int .i64 (t.2.1 : Int), .int .i64 (t.2.2 : Int)] 24)
            have hy := hb4.block wq.heap.size (by simp)
            rw [hx] at hy
            exact ⟨by rw [cell_blk hy]; rfl, by rw [cell_blk hy]; rfl⟩
          have HB4 : Hid (Below w.heap.size w w4) := by
            have h1 := HB2.out.alloc HB2.out.size (.cells #[.string (bytesOf t.1), .int .i64 (t.2.1 : Int), .int .i64 (t.2.2 : Int)] 24)
            exact h1.trans (hb4.mono h1.size)
          have HF := hid hf
          rw [HSZ.out, show i * 2 + t.1.length - (t.1.length - t.2.2) = i * 2 + t.2.2 by omega] at hf
          have HF := hid hf
          clear hf hb4
          have HOF : Hid (∀ W, Fr (fun _ => False) w4 W → Calls Tryd.prog 13 #[faultV f] W (RetB W (.int .i64 (t.2.1 : Int)))) :=
            fun W hW => Of_fault ((HE.out.below HB4.out).below (hW.below (Nat.le_refl _) (fun _ f => f.elim))) (HF.out.keep hW (fun f => f))
          have HAT : Hid (∀ W, Fr (fun _ => False) w4 W → Calls Tryd.prog 14 #[faultV f] W (RetB W (.int .i64 ((i * 2 + t.2.2 : Nat) : Int)))) :=
            fun W hW => At_fault ((HE.out.below HB4.out).below (hW.below (Nat.le_refl _) (fun _ f => f.elim))) (HF.out.keep hW (fun f => f))
          obtain ⟨k1, k2⟩ := hT4.out
          have F0 : Fr (fun _ => False) w4 w4.drew := (Fr.refl _ _).drew
          go_wp2_with fail
          go_region_held3 (fun W => W.cell? ⟨wq.heap.size, 1, none⟩ = some (.int .i64 (t.2.1 : Int)) ∧ W.cell? ⟨wq.heap.size, 2, none⟩ = some (.int .i64 (t.2.2 : Int)) ∧ Fr (fun _ => False) w4 W)
            (first
              | (exact ⟨F0.cell k1 (fun f => f), F0.cell k2 (fun f => f), F0⟩)
              | (exact ⟨F2'.cell k1 (fun f => f), F2'.cell k2 (fun f => f), F2'⟩)
              | (exact ⟨F1'.cell k1 (fun f => f), F1'.cell k2 (fun f => f), F1'⟩))
            (first
              | (go_at_call 13; refine (HOF.out _ F0).mono ?_; rintro e w5 ⟨rfl, hb5⟩; have F1' : Fr (fun _ => False) w4 w5 := F0.trans (Fr.quiet hb5) (fun _ _ f => f))
              | (go_at_call 14; refine (HAT.out _ F1').mono ?_; rintro e w6 ⟨rfl, hb6⟩; have F2' : Fr (fun _ => False) w4 w6 := F1'.trans (Fr.quiet hb6) (fun _ _ f => f)))
          · go_wp2
            go_ret
            refine ⟨ret_bool ?_, HB4.out.trans (F2'.below HB4.out.size (fun i hi => hi.elim))⟩
            · rw [IntWalk.i64_in _ (by omega)]
              simp
              omega
end Go.Proofs.YtbcmkkphbkpapaaDoor
