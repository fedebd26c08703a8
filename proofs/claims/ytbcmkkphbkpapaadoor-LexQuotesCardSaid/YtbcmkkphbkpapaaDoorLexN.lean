import Derived.Test.YtbcmkkphbkpapaaDoorLexS
set_option linter.unusedVariables false
set_option linter.unusedSimpArgs false
namespace Go.Proofs.YtbcmkkphbkpapaaDoor
open Go.RowKit

def tokS : List UInt8 → Out
  | [] => .tok 0 [] 0 0 []
  | c :: t =>
    if 97 ≤ c.toNat ∧ c.toNat ≤ 122 then wordS 1 (c :: t)
    else if 65 ≤ c.toNat ∧ c.toNat ≤ 90 then wordS 2 (c :: t)
    else if 48 ≤ c.toNat ∧ c.toNat ≤ 57 then numS (c :: t).length 0 (c :: t)
    else if c = 34 then textS (c :: t).length [] t
    else signS (c :: t)
def nextS (l : List UInt8) : Out := tokS (skip false l)

theorem OutPost.shape {w w' : World} {b : Nat} {s : ByteArray} {o : Out} {e : Ending} (h : OutPost w b s o e w') : ∃ k t n a err, e = .returned (.tuple #[tokV k t n a, err]) := by
  cases o with
  | tok k t n p r => exact ⟨_, _, _, _, _, h.1⟩
  | bad tag p => obtain ⟨f, what, he, _⟩ := h; exact ⟨_, _, _, _, _, he⟩
theorem OutPost.up {w wa w1 w2 : World} {b : Nat} {s : ByteArray} {o : Out} {e : Ending} (h : OutPost wa b s o e w1) (hf : Fr (fun i => i = b) w wa) (hsz : w.heap.size < wa.heap.size) (hb : b < w.heap.size)
    (h2 : Fr (fun i => i = w.heap.size) w1 w2) : OutPost w b s o e w2 := by
  cases o with
  | tok k t n p r =>
    obtain ⟨he, j, hj, hr, hR, hF⟩ := h
    exact ⟨he, j, hj, hr, hR.keep h2 (show ¬ b = _ by omega), (hf.trans hF (fun _ _ h => h)).trans h2 (fun i hi h => by omega)⟩
  | bad tag p =>
    obtain ⟨f, what, he, hlf, hA, hF⟩ := h
    exact ⟨f, what, he, by omega, hA.keep h2 (show ¬ f = _ by omega), (hf.trans hF (fun _ _ h => h)).trans h2 (fun i hi h => by omega)⟩
theorem OutPost.fr {w w' : World} {b : Nat} {s : ByteArray} {o : Out} {e : Ending} (h : OutPost w b s o e w') : Fr (fun i => i = b) w w' := by
  cases o with
  | tok k t n p r => exact h.2.choose_spec.2.2.2
  | bad tag p => obtain ⟨f, what, he, hlf, hA, hF⟩ := h; exact hF

set_option maxHeartbeats 8000000 in
set_option maxRecDepth 100000 in
theorem next_any {w : World} {b k : Nat} {s : ByteArray} (h : RdrAt w b s k) (hk : k ≤ s.size) (hs : s.size ≤ 1073741824) :
    Calls Tryd.prog 44 #[.pointer (some ⟨b, 0, none⟩)] w (OutPost w b s (nextS (s.data.toList.drop k))) := by
  have hlt0 := blk_lt h
  have h0 : RdrAt (w.alloc (.cells #[.int .i64 0, .string ⟨#[]⟩, .int .u64 0, .int .i64 0] 38)) b s k := (Lib.alloc_old w _ b hlt0).trans h
  have HB := hid (blanks_any h0 hk hs)
  have HR : Hid (ResAt (w.alloc (.cells #[.int .i64 0, .string ⟨#[]⟩, .int .u64 0, .int .i64 0] 38)) w.heap.size) := heap_alloc_new w _
  clear h h0
  go_enter Tryd.func44, Tryd.ntmps44
  go_wp2_with fail
  refine HB.out.mono ?_
  rintro e wb ⟨j, rfl, hj, hdrop, hR, hF⟩
  have HQ : Hid (RdrAt wb b s j ∧ Fr (fun i => i = b) w wb ∧ ResAt wb w.heap.size ∧ w.heap.size < wb.heap.size) :=
    ⟨hR, ((Fr.refl _ _).alloc _).trans hF (fun _ _ h => h), HR.out.keep (F := fun i => i = b) hF (show ¬ w.heap.size = b by omega), by have := hF.size; simp at this; omega⟩
  have HD : Hid (nextS (s.data.toList.drop k) = tokS (s.data.toList.drop j)) := by
    show _ = _
    rw [nextS, hdrop]
  clear hR hF hdrop HB HR
  obtain ⟨c0, c1, f1⟩ := HQ.out.1.cells
  obtain ⟨⟨r0, r1, r2, r3⟩, q0, q1, q2, q3⟩ := HQ.out.2.2.1.cells
  by_cases hlt : j < s.size
  · have hne : ((j : Int) == (s.size : Int)) = false := by simp; omega
    have Hd := hid (drop_at hlt)
    have hcn := s[j].toNat_lt
    by_cases hA : 97 ≤ s[j].toNat ∧ s[j].toNat ≤ 122
    · have HW : Hid (nextS (s.data.toList.drop k) = wordS 1 (s.data.toList.drop j)) := by
        show _ = _
        rw [HD.out, Hd.out, tokS, if_pos hA]
      have X := hid hA
      clear hA
      go_wp2_with fail
      go_quiet (fail)
      go_wp2_with fail
      go_quiet (fail)
      go_wp2_with fail
      refine (between_true (by have := X.out; omega) (by have := X.out; omega)).mono ?_
      rintro e w' ⟨rfl, rfl⟩
      go_wp2_with fail
      refine (word_any (kd := 1) (show RdrAt (wb.drewN _) b s j from HQ.out.1) hj hs).mono ?_
      intro e w1 hp
      obtain ⟨tk, tt, tn, ta, er, rfl⟩ := hp.shape
      have HP := hid hp
      have hfr := hp.fr
      have R1 := ResAt.keep (F := fun i => i = b) (w := wb.drewN _) HQ.out.2.2.1 hfr (show ¬ w.heap.size = b by omega)
      clear r0 r1 r2 r3 q0 q1 q2 q3
      obtain ⟨⟨r0, r1, r2, r3⟩, q0, q1, q2, q3⟩ := R1.cells
      clear hp hfr R1
      go_wp2
      exact bodyPost_ret (v := .tuple #[tokV tk tt tn ta, er]) (by simp [results, Tryd.results44, go_sem, r0, r1, r2, r3]) rfl (by rw [HW.out]; exact HP.out.up (HQ.out.2.1.drewN _) HQ.out.2.2.2 hlt0 (Fr.set4 _ _ _ _ _ _))
    · by_cases hB : 65 ≤ s[j].toNat ∧ s[j].toNat ≤ 90
      · have HW : Hid (nextS (s.data.toList.drop k) = wordS 2 (s.data.toList.drop j)) := by
          show _ = _
          rw [HD.out, Hd.out, tokS, if_neg hA, if_pos hB]
        have X := hid hB
        have Y := hid hA
        clear hA hB
        go_wp2_with fail
        go_quiet (fail)
        go_wp2_with fail
        go_quiet (fail)
        go_wp2_with fail
        refine (between_false (by have := Y.out; omega)).mono ?_
        rintro e w' ⟨rfl, rfl⟩
        go_wp2_with fail
        refine (between_true (by have := X.out; omega) (by have := X.out; omega)).mono ?_
        rintro e w' ⟨rfl, rfl⟩
        go_wp2_with fail
        refine (word_any (kd := 2) (show RdrAt (wb.drewN _) b s j from HQ.out.1) hj hs).mono ?_
        intro e w1 hp
        obtain ⟨tk, tt, tn, ta, er, rfl⟩ := hp.shape
        have HP := hid hp
        have hfr := hp.fr
        have R1 := ResAt.keep (F := fun i => i = b) (w := wb.drewN _) HQ.out.2.2.1 hfr (show ¬ w.heap.size = b by omega)
        clear r0 r1 r2 r3 q0 q1 q2 q3
        obtain ⟨⟨r0, r1, r2, r3⟩, q0, q1, q2, q3⟩ := R1.cells
        clear hp hfr R1
        go_wp2
        exact bodyPost_ret (v := .tuple #[tokV tk tt tn ta, er]) (by simp [results, Tryd.results44, go_sem, r0, r1, r2, r3]) rfl (by rw [HW.out]; exact HP.out.up (HQ.out.2.1.drewN _) HQ.out.2.2.2 hlt0 (Fr.set4 _ _ _ _ _ _))
      · by_cases hC : 48 ≤ s[j].toNat ∧ s[j].toNat ≤ 57
        · have HW : Hid (nextS (s.data.toList.drop k) = numS (s.size - j) 0 (s.data.toList.drop j)) := by
            show _ = _
            rw [HD.out, Hd.out, tokS, if_neg hA, if_neg hB, if_pos hC, ← Hd.out, drop_len]
          have X := hid hC
          have Y := hid hA
          have Z := hid hB
          clear hA hB hC
          go_wp2_with fail
          go_quiet (fail)
          go_wp2_with fail
          go_quiet (fail)
          go_wp2_with fail
          refine (between_false (by have := Y.out; omega)).mono ?_
          rintro e w' ⟨rfl, rfl⟩
          go_wp2_with fail
          refine (between_false (by have := Z.out; omega)).mono ?_
          rintro e w' ⟨rfl, rfl⟩
          go_wp2_with fail
          refine (between_true (by have := X.out; omega) (by have := X.out; omega)).mono ?_
          rintro e w' ⟨rfl, rfl⟩
          go_wp2_with fail
          refine (number_any (show RdrAt (wb.drewN _) b s j from HQ.out.1) hj hs).mono ?_
          intro e w1 hp
          obtain ⟨tk, tt, tn, ta, er, rfl⟩ := hp.shape
          have HP := hid hp
          have hfr := hp.fr
          have R1 := ResAt.keep (F := fun i => i = b) (w := wb.drewN _) HQ.out.2.2.1 hfr (show ¬ w.heap.size = b by omega)
          clear r0 r1 r2 r3 q0 q1 q2 q3
          obtain ⟨⟨r0, r1, r2, r3⟩, q0, q1, q2, q3⟩ := R1.cells
          clear hp hfr R1
          go_wp2
          exact bodyPost_ret (v := .tuple #[tokV tk tt tn ta, er]) (by simp [results, Tryd.results44, go_sem, r0, r1, r2, r3]) rfl (by rw [HW.out]; exact HP.out.up (HQ.out.2.1.drewN _) HQ.out.2.2.2 hlt0 (Fr.set4 _ _ _ _ _ _))
        · have X := hid hA
          have Y := hid hB
          have Z := hid hC
          by_cases h34 : s[j] = 34
          · have HW : Hid (nextS (s.data.toList.drop k) = textS (s.size - j) [] (s.data.toList.drop (j + 1))) := by
              show _ = _
              rw [HD.out, Hd.out, tokS, if_neg hA, if_neg hB, if_neg hC, if_pos h34, ← Hd.out, drop_len]
            have e34 : ((s[j].toNat : Int) == 34) = true := byte_eq h34
            clear hA hB hC h34
            go_wp2_with fail
            go_quiet (fail)
            go_wp2_with fail
            go_quiet (fail)
            go_wp2_with fail
            refine (between_false (by have := X.out; omega)).mono ?_
            rintro e w' ⟨rfl, rfl⟩
            go_wp2_with fail
            refine (between_false (by have := Y.out; omega)).mono ?_
            rintro e w' ⟨rfl, rfl⟩
            go_wp2_with fail
            refine (between_false (by have := Z.out; omega)).mono ?_
            rintro e w' ⟨rfl, rfl⟩
            go_wp2_with fail
            refine (text_any (show RdrAt (wb.drewN _) b s j from HQ.out.1) hlt hs).mono ?_
            intro e w1 hp
            obtain ⟨tk, tt, tn, ta, er, rfl⟩ := hp.shape
            have HP := hid hp
            have hfr := hp.fr
            have R1 := ResAt.keep (F := fun i => i = b) (w := wb.drewN _) HQ.out.2.2.1 hfr (show ¬ w.heap.size = b by omega)
            clear r0 r1 r2 r3 q0 q1 q2 q3
            obtain ⟨⟨r0, r1, r2, r3⟩, q0, q1, q2, q3⟩ := R1.cells
            clear hp hfr R1
            go_wp2
            exact bodyPost_ret (v := .tuple #[tokV tk tt tn ta, er]) (by simp [results, Tryd.results44, go_sem, r0, r1, r2, r3]) rfl (by rw [HW.out]; exact HP.out.up (HQ.out.2.1.drewN _) HQ.out.2.2.2 hlt0 (Fr.set4 _ _ _ _ _ _))
          · have HW : Hid (nextS (s.data.toList.drop k) = signS (s.data.toList.drop j)) := by
              show _ = _
              rw [HD.out, Hd.out, tokS, if_neg hA, if_neg hB, if_neg hC, if_neg h34]
            have e34 : ((s[j].toNat : Int) == 34) = false := byte_ne h34
            clear hA hB hC h34
            go_wp2_with fail
            go_quiet (fail)
            go_wp2_with fail
            go_quiet (fail)
            go_wp2_with fail
            refine (between_false (by have := X.out; omega)).mono ?_
            rintro e w' ⟨rfl, rfl⟩
            go_wp2_with fail
            refine (between_false (by have := Y.out; omega)).mono ?_
            rintro e w' ⟨rfl, rfl⟩
            go_wp2_with fail
            refine (between_false (by have := Z.out; omega)).mono ?_
            rintro e w' ⟨rfl, rfl⟩
            go_wp2_with fail
            refine (sign_any (show RdrAt (wb.drewN _) b s j from HQ.out.1) hj hs).mono ?_
            intro e w1 hp
            obtain ⟨tk, tt, tn, ta, er, rfl⟩ := hp.shape
            have HP := hid hp
            have hfr := hp.fr
            have R1 := ResAt.keep (F := fun i => i = b) (w := wb.drewN _) HQ.out.2.2.1 hfr (show ¬ w.heap.size = b by omega)
            clear r0 r1 r2 r3 q0 q1 q2 q3
            obtain ⟨⟨r0, r1, r2, r3⟩, q0, q1, q2, q3⟩ := R1.cells
            clear hp hfr R1
            go_wp2
            exact bodyPost_ret (v := .tuple #[tokV tk tt tn ta, er]) (by simp [results, Tryd.results44, go_sem, r0, r1, r2, r3]) rfl (by rw [HW.out]; exact HP.out.up (HQ.out.2.1.drewN _) HQ.out.2.2.2 hlt0 (Fr.set4 _ _ _ _ _ _))
  · have hne : ((j : Int) == (s.size : Int)) = true := by simp; omega
    have HW : Hid (nextS (s.data.toList.drop k) = .tok 0 [] 0 0 (s.data.toList.drop j)) := by
      show _ = _
      rw [HD.out, List.drop_eq_nil_of_le (by rw [Array.length_toList]; exact Nat.le_of_not_lt hlt), tokS]
    have hje : j = s.size := by omega
    go_wp2_with fail
    go_quiet (fail)
    go_wp2
    exact bodyPost_ret (v := .tuple #[tokV 0 (bytesOf []) 0 s.size, .nilIface]) (by simp [results, Tryd.results44, go_sem, r0, r1, r2, r3]) rfl (end_tok (wo := wb.drewN _) HW (by simp) hj rfl hlt0 HQ.out.1 (HQ.out.2.1.drewN _) (Fr.set4 _ _ _ _ _ _))

end Go.Proofs.YtbcmkkphbkpapaaDoor
