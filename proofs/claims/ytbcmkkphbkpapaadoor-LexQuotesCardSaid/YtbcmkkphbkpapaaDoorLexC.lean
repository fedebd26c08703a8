import Derived.Test.YtbcmkkphbkpapaaDoorLexB
import Derived.IntWalk
set_option linter.unusedVariables false
set_option linter.unusedSimpArgs false
namespace Go.Proofs.YtbcmkkphbkpapaaDoor
open Go.RowKit

def digB (c : UInt8) : Bool := decide (48 ≤ c.toNat) && decide (c.toNat ≤ 57)
def numS (p : Nat) : Nat → List UInt8 → Out
  | acc, [] => .tok 3 [] acc p []
  | acc, c :: t => if digB c then (if (9223372036854775808 - (c.toNat - 48)) / 10 < acc then .bad 1 p else numS p (10 * acc + (c.toNat - 48)) t) else .tok 3 [] acc p (c :: t)
/-- The number's token as it grows. -/
def NumAt (w : World) (T k n : Nat) : Prop := w.heap[T]? = some (.cells #[.int .i64 3, .string ⟨#[]⟩, .int .u64 (n : Int), .int .i64 (k : Int)] 38 (0, 0))
theorem NumAt.cells {w : World} {T k n : Nat} (h : NumAt w T k n) : (w.cell? ⟨T, 0, none⟩ = some (.int .i64 3) ∧ w.cell? ⟨T, 1, none⟩ = some (.string ⟨#[]⟩) ∧ w.cell? ⟨T, 2, none⟩ = some (.int .u64 (n : Int)) ∧ w.cell? ⟨T, 3, none⟩ = some (.int .i64 (k : Int))) ∧ w.frozen? ⟨T, 2, none⟩ = false :=
  ⟨⟨by rw [cell_blk h]; rfl, by rw [cell_blk h]; rfl, by rw [cell_blk h]; rfl, by rw [cell_blk h]; rfl⟩, frozen_blk h 2⟩
theorem NumAt.keep {F : Nat → Prop} {w w' : World} {T k n : Nat} (h : NumAt w T k n) (hf : Fr F w w') (hb : ¬ F T) : NumAt w' T k n := (hf.block T (blk_lt h) hb).trans h
theorem NumAt.set {w : World} {T k n : Nat} (h : NumAt w T k n) (m : Nat) : NumAt (w.setCell ⟨T, 2, none⟩ (.int .u64 (m : Int))) T k m := by
  have := blk_set (o := 2) h (.int .u64 (m : Int))
  simpa [NumAt] using this

set_option maxHeartbeats 4000000 in
theorem number_any {w : World} {b k : Nat} {s : ByteArray} (h : RdrAt w b s k) (hk : k ≤ s.size) (hs : s.size ≤ 1073741824) :
    Calls Tryd.prog 67 #[.pointer (some ⟨b, 0, none⟩)] w (OutPost w b s (numS (s.size - k) 0 (s.data.toList.drop k))) := by
  have hlt0 := blk_lt h
  obtain ⟨c0, c1, f1⟩ := h.cells
  have H0 := hid h
  clear h
  go_enter Tryd.func67, Tryd.ntmps67
  go_wp2_with fail
  go_loopg [11] s.size (fun g _ wr => ∃ j acc : Nat, k ≤ j ∧ j ≤ s.size ∧ s.size - j ≤ g ∧ acc ≤ 9223372036854775808 ∧ w.heap.size + 1 < wr.heap.size ∧ Hid (RdrAt wr b s j ∧ numS (s.size - k) 0 (s.data.toList.drop k) = numS (s.size - k) acc (s.data.toList.drop j) ∧ Fr (fun i => i = b) w wr ∧ ResAt wr w.heap.size ∧ NumAt wr (w.heap.size + 1) k acc))
  case atStart =>
    have A1 := (Fr.refl (fun i => i = b) w).alloc (.cells #[.int .i64 0, .string ⟨#[]⟩, .int .u64 0, .int .i64 0] 38)
    have A2 := A1.alloc (.cells #[.int .i64 3, .string ⟨#[]⟩, .int .u64 0, .int .i64 (k : Int)] 38)
    have R1 : ResAt ((w.alloc (.cells #[.int .i64 0, .string ⟨#[]⟩, .int .u64 0, .int .i64 0] 38)).alloc (.cells #[.int .i64 3, .string ⟨#[]⟩, .int .u64 0, .int .i64 (k : Int)] 38)) w.heap.size := by
      show _ = _
      rw [Lib.alloc_old _ _ _ (by simp)]
      exact heap_alloc_new w _
    have N1 : ((w.alloc (.cells #[.int .i64 0, .string ⟨#[]⟩, .int .u64 0, .int .i64 0] 38)).alloc (.cells #[.int .i64 3, .string ⟨#[]⟩, .int .u64 0, .int .i64 (k : Int)] 38)).heap[w.heap.size + 1]? = some (.cells #[.int .i64 3, .string ⟨#[]⟩, .int .u64 0, .int .i64 (k : Int)] 38 (0, 0)) := by
      have := heap_alloc_new (w.alloc (.cells #[.int .i64 0, .string ⟨#[]⟩, .int .u64 0, .int .i64 0] 38)) (.cells #[.int .i64 3, .string ⟨#[]⟩, .int .u64 0, .int .i64 (k : Int)] 38)
      simpa using this
    exact ⟨k, 0, Nat.le_refl _, hk, by omega, by omega, by simp, hid ⟨by rw [RdrAt, Lib.alloc_old _ _ _ (by simp; omega), Lib.alloc_old _ _ _ hlt0]; exact H0.out, rfl, A2, R1, N1⟩⟩
  case round =>
    clear c0 c1 f1 H0
    obtain ⟨j, acc, hkj, hj, hg, hac, hsz, H⟩ := hrel
    obtain ⟨wo, rfl⟩ : ∃ x : World, x = wr := ⟨_, rfl⟩
    obtain ⟨c0, c1, f1⟩ := H.out.1.cells
    obtain ⟨⟨r0, r1, r2, r3⟩, q0, q1, q2, q3⟩ := H.out.2.2.2.1.cells
    obtain ⟨⟨t0, t1, t2, t3⟩, p2⟩ := H.out.2.2.2.2.cells
    by_cases hin : ∃ h : j < s.size, digB s[j] = true
    · obtain ⟨hlt, hin⟩ := hin
      have Hd := hid (drop_at hlt)
      have Hin := hid hin
      obtain ⟨d, hd, hd9⟩ : ∃ d : Nat, s[j].toNat = d + 48 ∧ d ≤ 9 := by
        simp only [digB, Bool.and_eq_true, decide_eq_true_eq] at hin
        exact ⟨s[j].toNat - 48, by omega, by omega⟩
      have hlo : (48 : Int) ≤ (s[j].toNat : Int) := by omega
      have hhi : (s[j].toNat : Int) ≤ 57 := by omega
      have e1 : IntKind.u8.wrap ((s[j].toNat : Int) - 48) = (d : Int) := by rw [hd]; simp only [IntKind.wrap_u8]; omega
      have e2 : IntKind.u64.wrap (d : Int) = (d : Int) := by simp only [IntKind.wrap_u64]; omega
      have Hdd := hid hd
      clear hin hd
      go_wp2_with fail
      go_quiet ((go_at_call 46; exact between_yes hlo hhi _ _))
      go_wp2_with fail
      go_quiet (fail)
      clear e1 e2
      by_cases hov : (9223372036854775808 - d) / 10 < acc
      · have HW : Hid (numS (s.size - k) 0 (s.data.toList.drop k) = .bad 1 (s.size - k)) := by
          show _ = _
          rw [H.out.2.1, Hd.out, numS, if_pos Hin.out, Hdd.out, Nat.add_sub_cancel, if_pos hov]
        go_wp2_with fail
        refine (FNew_any 1 _ _ _).mono ?_
        rintro e w1 ⟨f, rfl, hF, hlf, hb1⟩
        have R1 := (show ResAt (wo.drewN (_ + _)) w.heap.size from H.out.2.2.2.1).keep (F := fun _ => False) (Fr.quiet hb1) (fun h => h)
        have HB := hid hb1
        have HF := hid hF
        obtain ⟨⟨r0, r1, r2, r3⟩, q0, q1, q2, q3⟩ := R1.cells
        clear hF R1 hb1
        go_wp2
        exact bodyPost_ret (v := .tuple #[tokV 0 (bytesOf []) 0 0, faultV f]) (by simp [results, Tryd.results67, go_sem, r0, r1, r2, r3]) rfl (end_bad (wo := wo.drewN _) HW rfl (by omega) (by show _ < wo.heap.size; omega) (H.out.2.2.1.drewN _) HF.out hlf HB.out (Fr.set4 _ _ _ _ _ _))
      · have HW : Hid (numS (s.size - k) 0 (s.data.toList.drop k) = numS (s.size - k) (10 * acc + d) (s.data.toList.drop (j + 1))) := by
          show _ = _
          rw [H.out.2.1, Hd.out, numS, if_pos Hin.out, Hdd.out, Nat.add_sub_cancel, if_neg hov]
        have hac2 : 10 * acc + d ≤ 9223372036854775808 := by omega
        go_wp2
        go_roundg (s.size - (j + 1))
        case measure => omega
        case rel =>
          have F1 : ∀ n, Fr (fun i => i = w.heap.size + 1) (wo.drewN n) ((wo.drewN n).setCell (⟨w.heap.size + 1, 2, none⟩ : Addr) (.int .u64 ((10 * acc + d : Nat) : Int))) := fun n => Fr.setCell _ (⟨w.heap.size + 1, 2, none⟩ : Addr) _
          have F2 : ∀ wz, Fr (fun i => i = b) wz _ := fun wz => Fr.setCell wz (⟨b, 1, none⟩ : Addr) (.int .i64 ((j + 1 : Nat) : Int))
          obtain ⟨g1, g2, g3, g4, g5⟩ := H.out
          have G1 : ∀ n, RdrAt (wo.drewN n) b s j := fun _ => g1
          have G3 : ∀ n, Fr (fun i => i = b) w (wo.drewN n) := fun n => g3.drewN n
          have G4 : ∀ n, ResAt (wo.drewN n) w.heap.size := fun _ => g4
          have G5 : ∀ n, NumAt (wo.drewN n) (w.heap.size + 1) k acc := fun _ => g5
          refine ⟨j + 1, 10 * acc + d, by omega, by omega, Nat.le_refl _, hac2, by simpa [World.setCell] using hsz, hid ⟨((G1 _).keep (F1 _) (show ¬ b = w.heap.size + 1 by omega)).set (j + 1), HW.out, ((G3 _).trans (F1 _) (fun i hi h => by omega)).trans (F2 _) (fun i hi h => h), ((G4 _).keep (F := fun i => i = w.heap.size + 1) (F1 _) (show ¬ w.heap.size = w.heap.size + 1 by omega)).keep (F := fun i => i = b) (F2 _) (show ¬ w.heap.size = b by omega), ((G5 _).set (10 * acc + d)).keep (F := fun i => i = b) (F2 _) (show ¬ w.heap.size + 1 = b by omega)⟩⟩
    · have HW : Hid (numS (s.size - k) 0 (s.data.toList.drop k) = .tok 3 [] acc (s.size - k) (s.data.toList.drop j)) := by
        show _ = _
        rw [H.out.2.1]
        by_cases hlt : j < s.size
        · rw [drop_at hlt, numS, if_neg (fun h => hin ⟨hlt, h⟩)]
        · rw [List.drop_eq_nil_of_le (by rw [Array.length_toList]; exact Nat.le_of_not_lt hlt), numS]
      have hway : (j < s.size ∧ ∃ h : j < s.size, (s[j].toNat : Int) < 48 ∨ 57 < (s[j].toNat : Int)) ∨ ¬ j < s.size := by
        by_cases hlt : j < s.size
        · refine .inl ⟨hlt, hlt, ?_⟩
          have : ¬ digB s[j] = true := fun h => hin ⟨hlt, h⟩
          simp only [digB, Bool.and_eq_true, decide_eq_true_eq] at this
          omega
        · exact .inr hlt
      clear hin
      rcases hway with ⟨hlt, _, hin⟩ | hlt
      · have Hin := hid hin
        clear hin
        go_wp2_with fail
        go_quiet ((go_at_call 46; exact between_no Hin.out _ _))
        go_wp2_with fail
        exact bodyPost_ret (v := .tuple #[tokV 3 (bytesOf []) acc k, .nilIface]) (by simp [results, Tryd.results67, go_sem, r0, r1, r2, r3]) rfl (end_tok (wo := wo.drewN _) HW (by simp; omega) hj rfl hlt0 H.out.1 (H.out.2.2.1.drewN _) (Fr.set4 _ _ _ _ _ _))
      · go_wp2_with fail
        go_quiet (fail)
        go_wp2_with fail
        exact bodyPost_ret (v := .tuple #[tokV 3 (bytesOf []) acc k, .nilIface]) (by simp [results, Tryd.results67, go_sem, r0, r1, r2, r3]) rfl (end_tok (wo := wo.drewN _) HW (by simp; omega) hj rfl hlt0 H.out.1 (H.out.2.2.1.drewN _) (Fr.set4 _ _ _ _ _ _))

end Go.Proofs.YtbcmkkphbkpapaaDoor
