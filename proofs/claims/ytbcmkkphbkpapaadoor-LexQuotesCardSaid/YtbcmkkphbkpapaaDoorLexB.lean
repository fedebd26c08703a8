import Derived.Test.YtbcmkkphbkpapaaDoorLexA
set_option linter.unusedVariables false
set_option linter.unusedSimpArgs false
namespace Go.Proofs.YtbcmkkphbkpapaaDoor
open Go.RowKit

/-! What a token's taking answers: a place is what is left of the text there. -/
inductive Out where
  | tok (k : Nat) (text : List UInt8) (num start : Nat) (rest : List UInt8)
  | bad (tag place : Nat)
abbrev tokV (k : Int) (t : ByteArray) (n at_ : Int) : Value := .agg #[.int .i64 k, .string t, .int .u64 n, .int .i64 at_]
abbrev bytesOf (l : List UInt8) : ByteArray := ⟨l.toArray⟩
def OutPost (w : World) (b : Nat) (s : ByteArray) (o : Out) (e : Ending) (w' : World) : Prop :=
  match o with
  | .tok k t n p r => e = .returned (.tuple #[tokV k (bytesOf t) n (s.size - p : Nat), .nilIface]) ∧ ∃ j, j ≤ s.size ∧ s.data.toList.drop j = r ∧ RdrAt w' b s j ∧ Fr (fun i => i = b) w w'
  | .bad tag p => ∃ f what, e = .returned (.tuple #[tokV 0 (bytesOf []) 0 0, faultV f]) ∧ w.heap.size ≤ f ∧ FaultAt w' f tag (s.size - p : Nat) what .nilIface ∧ Fr (fun i => i = b) w w'

theorem inner_yes {c : UInt8} (h : innerB c = true) (w : World) (n : Nat) : Calls Tryd.prog 47 #[.int .u8 (c.toNat : Int)] (w.drewN n) fun e w'' => e = .returned (.bool true) ∧ ∃ m, w'' = w.drewN m :=
  Calls.quiet_of_same ((inner_any c _).mono (by rintro e w' ⟨rfl, rfl⟩; exact ⟨by rw [h], rfl⟩))
theorem inner_no {c : UInt8} (h : innerB c = false) (w : World) (n : Nat) : Calls Tryd.prog 47 #[.int .u8 (c.toNat : Int)] (w.drewN n) fun e w'' => e = .returned (.bool false) ∧ ∃ m, w'' = w.drewN m :=
  Calls.quiet_of_same ((inner_any c _).mono (by rintro e w' ⟨rfl, rfl⟩; exact ⟨by rw [h], rfl⟩))
theorem between_yes {b lo hi : Int} (h1 : lo ≤ b) (h2 : b ≤ hi) (w : World) (n : Nat) : Calls Tryd.prog 46 #[.int .u8 b, .int .u8 lo, .int .u8 hi] (w.drewN n) fun e w'' => e = .returned (.bool true) ∧ ∃ m, w'' = w.drewN m :=
  Calls.quiet_of_same ((between_true h1 h2).mono (by rintro e w' ⟨rfl, rfl⟩; exact ⟨rfl, rfl⟩))
theorem between_no {b lo hi : Int} (h : b < lo ∨ hi < b) (w : World) (n : Nat) : Calls Tryd.prog 46 #[.int .u8 b, .int .u8 lo, .int .u8 hi] (w.drewN n) fun e w'' => e = .returned (.bool false) ∧ ∃ m, w'' = w.drewN m :=
  Calls.quiet_of_same ((between_false h).mono (by rintro e w' ⟨rfl, rfl⟩; exact ⟨rfl, rfl⟩))

theorem extract_is (s : ByteArray) {i j : Nat} (hij : i ≤ j) (hj : j ≤ s.size) : s.extract i j = bytesOf ((s.data.toList.drop i).take (j - i)) := by
  have h : (s.extract i j).data.toList = (s.data.toList.drop i).take (j - i) := by
    rw [ByteArray.data_extract, Array.toList_extract, List.extract_eq_take_drop]
  rw [← h]

theorem drop_len {s : ByteArray} {k : Nat} : (s.data.toList.drop k).length = s.size - k := by
  rw [List.length_drop, Array.length_toList]; rfl

/-- The result's own variable, still empty. -/
def ResAt (w : World) (R : Nat) : Prop := w.heap[R]? = some (.cells #[.int .i64 0, .string ⟨#[]⟩, .int .u64 0, .int .i64 0] 38 (0, 0))
theorem ResAt.cells {w : World} {R : Nat} (h : ResAt w R) : (w.cell? ⟨R, 0, none⟩ = some (.int .i64 0) ∧ w.cell? ⟨R, 1, none⟩ = some (.string ⟨#[]⟩) ∧ w.cell? ⟨R, 2, none⟩ = some (.int .u64 0) ∧ w.cell? ⟨R, 3, none⟩ = some (.int .i64 0)) ∧
    w.frozen? ⟨R, 0, none⟩ = false ∧ w.frozen? ⟨R, 1, none⟩ = false ∧ w.frozen? ⟨R, 2, none⟩ = false ∧ w.frozen? ⟨R, 3, none⟩ = false :=
  ⟨⟨by rw [cell_blk h]; rfl, by rw [cell_blk h]; rfl, by rw [cell_blk h]; rfl, by rw [cell_blk h]; rfl⟩, frozen_blk h 0, frozen_blk h 1, frozen_blk h 2, frozen_blk h 3⟩
theorem ResAt.keep {F : Nat → Prop} {w w' : World} {R : Nat} (h : ResAt w R) (hf : Fr F w w') (hb : ¬ F R) : ResAt w' R := (hf.block R (blk_lt h) hb).trans h

theorem Fr.quiet {w w' : World} (h : Below w.heap.size w w') : Fr (fun _ => False) w w' := (Fr.of_below h h.size).mono (fun i hi h => by omega)
theorem Fr.set4 (w : World) (R : Nat) (u0 u1 u2 u3 : Value) : Fr (fun i => i = R) w ((((w.setCell ⟨R, 0, none⟩ u0).setCell ⟨R, 1, none⟩ u1).setCell ⟨R, 2, none⟩ u2).setCell ⟨R, 3, none⟩ u3) :=
  (((Fr.setCell w ⟨R, 0, none⟩ u0).trans (Fr.setCell _ ⟨R, 1, none⟩ u1) (fun _ _ h => h)).trans (Fr.setCell _ ⟨R, 2, none⟩ u2) (fun _ _ h => h)).trans (Fr.setCell _ ⟨R, 3, none⟩ u3) (fun _ _ h => h)
theorem FaultAt.keep {F : Nat → Prop} {w w' : World} {b : Nat} {tag at_ : Int} {what : ByteArray} {err : Value} (h : FaultAt w b tag at_ what err) (hf : Fr F w w') (hb : ¬ F b) : FaultAt w' b tag at_ what err := (hf.block b (blk_lt h) hb).trans h

/-- The ends: a token, a fault. -/
theorem end_tok {w wo w2 : World} {b j n : Nat} {s : ByteArray} {o : Out} {k p : Nat} {t : List UInt8} {r : List UInt8} {v : Value} (ho : Hid (o = .tok k t n p r)) (hv : v = .tuple #[tokV k (bytesOf t) n (s.size - p : Nat), .nilIface])
    (hj : j ≤ s.size) (hr : s.data.toList.drop j = r) (hb : b < w.heap.size) (hR : RdrAt wo b s j) (hf : Fr (fun i => i = b) w wo) (h2 : Fr (fun i => i = w.heap.size) wo w2) : OutPost w b s o (.returned v) w2 := by
  rw [ho.out]
  exact ⟨by rw [hv], j, hj, hr, hR.keep h2 (by omega), hf.trans h2 (fun i hi h => by omega)⟩
theorem end_bad {w wo w1 w2 : World} {b f : Nat} {s : ByteArray} {o : Out} {tag p : Nat} {v : Value} {what : ByteArray} {at_ : Int} (ho : Hid (o = .bad tag p)) (hv : v = .tuple #[tokV 0 (bytesOf []) 0 0, faultV f]) (hat : at_ = (s.size - p : Nat))
    (hsz : w.heap.size < wo.heap.size) (hf : Fr (fun i => i = b) w wo) (hF : FaultAt w1 f tag at_ what .nilIface) (hlt : wo.heap.size ≤ f) (hb1 : Below wo.heap.size wo w1) (h2 : Fr (fun i => i = w.heap.size) w1 w2) : OutPost w b s o (.returned v) w2 := by
  rw [ho.out]
  subst hat
  exact ⟨f, what, by rw [hv], by omega, hF.keep h2 (by omega), (hf.trans (Fr.quiet hb1) (fun i hi h => h.elim)).trans h2 (fun i hi h => by omega)⟩

def wordS (k : Nat) (l : List UInt8) : Out := if 40 < (l.takeWhile innerB).length then .bad 3 l.length else .tok k (l.takeWhile innerB) 0 l.length (l.dropWhile innerB)
set_option maxHeartbeats 4000000 in
theorem word_any {w : World} {b k kd : Nat} {s : ByteArray} (h : RdrAt w b s k) (hk : k ≤ s.size) (hs : s.size ≤ 1073741824) :
    Calls Tryd.prog 66 #[.pointer (some ⟨b, 0, none⟩), .int .i64 (kd : Int)] w (OutPost w b s (wordS kd (s.data.toList.drop k))) := by
  have hlt0 := blk_lt h
  have hb0 : RdrAt (w.alloc (.cells #[.int .i64 0, .string ⟨#[]⟩, .int .u64 0, .int .i64 0] 38)) b s k := (Lib.alloc_old w _ b hlt0).trans h
  obtain ⟨c0, c1, f1⟩ := hb0.cells
  have H0 := hid hb0
  have HR : Hid (ResAt (w.alloc (.cells #[.int .i64 0, .string ⟨#[]⟩, .int .u64 0, .int .i64 0] 38)) w.heap.size) := heap_alloc_new w _
  clear hb0 h
  go_enter Tryd.func66, Tryd.ntmps66
  go_wp2_with fail
  go_loopg [11] s.size (fun g _ wr => ∃ j : Nat, k ≤ j ∧ j ≤ s.size ∧ s.size - j ≤ g ∧ w.heap.size < wr.heap.size ∧ Hid (RdrAt wr b s j ∧ (s.data.toList.drop k).takeWhile innerB = (s.data.toList.drop k).take (j - k) ++ (s.data.toList.drop j).takeWhile innerB ∧ (s.data.toList.drop k).dropWhile innerB = (s.data.toList.drop j).dropWhile innerB ∧ Fr (fun i => i = b) w wr ∧ ResAt wr w.heap.size))
  case atStart => exact ⟨k, Nat.le_refl _, hk, by omega, by simp, hid ⟨H0.out, by simp, rfl, (Fr.refl _ _).alloc _, HR.out⟩⟩
  case round =>
    clear c0 c1 f1 H0 HR
    obtain ⟨j, hkj, hj, hg, hsz, H⟩ := hrel
    obtain ⟨wo, rfl⟩ : ∃ x : World, x = wr := ⟨_, rfl⟩
    obtain ⟨c0, c1, f1⟩ := H.out.1.cells
    by_cases hin : ∃ h : j < s.size, innerB s[j] = true
    · obtain ⟨hlt, hin⟩ := hin
      have Hd := hid (drop_at hlt)
      have Hin := hid hin
      clear hin
      go_wp2_with fail
      go_quiet ((go_at_call 47; exact inner_yes Hin.out _ _))
      go_wp2
      go_roundg (s.size - (j + 1))
      case measure => omega
      case rel =>
        obtain ⟨g1, g2, g3, g4, g5⟩ := H.out
        refine ⟨j + 1, by omega, by omega, Nat.le_refl _, by simpa [World.setCell] using hsz, hid ⟨(g1.drewN _).set (j + 1), ?_, ?_, (g4.drewN _).trans (Fr.setCell _ _ _) (fun _ _ h => h), ResAt.keep (F := fun i => i = b) (w := wo.drewN nq) g5 (Fr.setCell _ (⟨b, 1, none⟩ : Addr) _) (show ¬ w.heap.size = b by omega)⟩⟩
        · rw [g2, Hd.out, List.takeWhile_cons, if_pos Hin.out]
          have : (s.data.toList.drop k).take (j + 1 - k) = (s.data.toList.drop k).take (j - k) ++ [s[j]] := by
            rw [show j + 1 - k = (j - k) + 1 by omega, List.take_add_one, List.getElem?_drop, show k + (j - k) = j by omega]
            have : s.data.toList[j]? = some s[j] := by
              rw [Array.getElem?_toList, Array.getElem?_eq_getElem (by exact hlt)]; rfl
            rw [this]
            rfl
          rw [this]
          simp
        · rw [g3, Hd.out, List.dropWhile_cons, if_pos Hin.out]
    · have Hst : Hid ((s.data.toList.drop j).takeWhile innerB = [] ∧ (s.data.toList.drop j).dropWhile innerB = s.data.toList.drop j) := by
        by_cases hlt : j < s.size
        · rw [drop_at hlt, List.takeWhile_cons, List.dropWhile_cons, if_neg (fun h => hin ⟨hlt, h⟩), if_neg (fun h => hin ⟨hlt, h⟩)]
          exact ⟨rfl, rfl⟩
        · rw [List.drop_eq_nil_of_le (by rw [Array.length_toList]; exact Nat.le_of_not_lt hlt)]
          exact ⟨rfl, rfl⟩
      have hway : (j < s.size ∧ ∃ h : j < s.size, innerB s[j] = false) ∨ ¬ j < s.size := by
        by_cases hlt : j < s.size
        · exact .inl ⟨hlt, hlt, by simpa using fun h => hin ⟨hlt, h⟩⟩
        · exact .inr hlt
      obtain ⟨⟨r0, r1, r2, r3⟩, q0, q1, q2, q3⟩ := H.out.2.2.2.2.cells
      have Hl : Hid ((s.data.toList.drop k).takeWhile innerB = (s.data.toList.drop k).take (j - k) ∧ ((s.data.toList.drop k).takeWhile innerB).length = j - k) := by
        have : (s.data.toList.drop k).takeWhile innerB = (s.data.toList.drop k).take (j - k) := by rw [H.out.2.1, Hst.out.1, List.append_nil]
        refine ⟨this, ?_⟩
        rw [this, List.length_take, drop_len]
        omega
      clear hin
      by_cases hm : 40 < j - k
      · have HW : Hid (wordS kd (s.data.toList.drop k) = .bad 3 (s.size - k)) := by
          show _ = _
          rw [wordS, Hl.out.2, if_pos hm, drop_len]
        have hm' : 40 < (j : Int) - (k : Int) := by omega
        clear hm
        rcases hway with ⟨hlt, _, hin⟩ | hlt
        · have Hin := hid hin
          clear hin
          go_wp2_with fail
          go_quiet ((go_at_call 47; exact inner_no Hin.out _ _))
          go_wp2_with fail
          refine (FNew_any 3 _ _ _).mono ?_
          rintro e w1 ⟨f, rfl, hF, hlf, hb1⟩
          have R1 := (show ResAt (wo.drewN nq) w.heap.size from H.out.2.2.2.2).keep (F := fun _ => False) (Fr.quiet hb1) (fun h => h)
          have HB := hid hb1
          have HF := hid hF
          obtain ⟨⟨r0, r1, r2, r3⟩, q0, q1, q2, q3⟩ := R1.cells
          clear hF R1 hb1
          go_wp2
          exact bodyPost_ret (v := .tuple #[tokV 0 (bytesOf []) 0 0, faultV f]) (by simp [results, Tryd.results66, go_sem, r0, r1, r2, r3]) rfl (end_bad (wo := wo.drewN _) HW rfl (by omega) hsz (H.out.2.2.2.1.drewN _) HF.out hlf HB.out (Fr.set4 _ _ _ _ _ _))
        · go_wp2_with fail
          go_quiet (fail)
          go_wp2_with fail
          refine (FNew_any 3 _ _ _).mono ?_
          rintro e w1 ⟨f, rfl, hF, hlf, hb1⟩
          have R1 := (show ResAt (wo.drewN nq) w.heap.size from H.out.2.2.2.2).keep (F := fun _ => False) (Fr.quiet hb1) (fun h => h)
          have HB := hid hb1
          have HF := hid hF
          obtain ⟨⟨r0, r1, r2, r3⟩, q0, q1, q2, q3⟩ := R1.cells
          clear hF R1 hb1
          go_wp2
          exact bodyPost_ret (v := .tuple #[tokV 0 (bytesOf []) 0 0, faultV f]) (by simp [results, Tryd.results66, go_sem, r0, r1, r2, r3]) rfl (end_bad (wo := wo.drewN _) HW rfl (by omega) hsz (H.out.2.2.2.1.drewN _) HF.out hlf HB.out (Fr.set4 _ _ _ _ _ _))
      · have HW : Hid (wordS kd (s.data.toList.drop k) = .tok kd ((s.data.toList.drop k).take (j - k)) 0 (s.size - k) (s.data.toList.drop j)) := by
          show _ = _
          rw [wordS, Hl.out.2, if_neg hm, drop_len, Hl.out.1, H.out.2.2.1, Hst.out.2]
        have hm' : ¬ 40 < (j : Int) - (k : Int) := by omega
        clear hm
        rcases hway with ⟨hlt, _, hin⟩ | hlt
        · have Hin := hid hin
          clear hin
          go_wp2_with fail
          go_quiet ((go_at_call 47; exact inner_no Hin.out _ _))
          go_wp2_with fail
          go_region
          go_wp2
          exact bodyPost_ret (v := .tuple #[tokV kd (s.extract k j) 0 k, .nilIface]) (by simp [results, Tryd.results66, go_sem, r0, r1, r2, r3]) rfl (end_tok (wo := wo.drewN _) HW (by rw [extract_is s hkj hj]; simp; omega) hj rfl hlt0 H.out.1 (H.out.2.2.2.1.drewN _) (Fr.set4 _ _ _ _ _ _))
        · go_wp2_with fail
          go_quiet (fail)
          go_wp2_with fail
          go_region
          go_wp2
          exact bodyPost_ret (v := .tuple #[tokV kd (s.extract k j) 0 k, .nilIface]) (by simp [results, Tryd.results66, go_sem, r0, r1, r2, r3]) rfl (end_tok (wo := wo.drewN _) HW (by rw [extract_is s hkj hj]; simp; omega) hj rfl hlt0 H.out.1 (H.out.2.2.2.1.drewN _) (Fr.set4 _ _ _ _ _ _))
end Go.Proofs.YtbcmkkphbkpapaaDoor
