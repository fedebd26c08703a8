import Derived.Test.YtbcmkkphbkpapaaIntern2
set_option linter.unusedVariables false
set_option linter.unusedSimpArgs false
namespace Go.Proofs.Ytbcmkkphbkpapaa
open Go.RowKit Go.Maps

theorem sv_get {ss : List ByteArray} {k : Nat} (h : k < ss.length) : (sv ss)[k]? = some (.string (ss.getD k ByteArray.empty)) := by simp [h]

def atI (ss : List ByteArray) (s : ByteArray) : Int := if s ∈ ss then ((ss.idxOf s : Nat) : Int) else -1
def AtPost (w : World) (ss : List ByteArray) (s : ByteArray) (e : Ending) (w' : World) : Prop := e = .returned (.int .i64 (atI ss s)) ∧ w = w'

theorem take_not_hit {ss : List ByteArray} {s : ByteArray} {k : Nat} (h : k < ss.length) (hn : ¬ s ∈ ss.take k) (he : ss.getD k ByteArray.empty = s) : atI ss s = (k : Int) := by
  have hk : ss[k] = s := by simpa [h] using he
  have hm : s ∈ ss := by rw [← hk]; exact List.getElem_mem _
  unfold atI
  rw [if_pos hm]
  have : ss.idxOf s = k := by
    have e : ss = ss.take k ++ (s :: ss.drop (k + 1)) := by
      rw [← hk, List.getElem_cons_drop, List.take_append_drop]
    rw [e, List.idxOf_append, if_neg hn]
    simp; omega
  rw [this]
theorem take_not_more {ss : List ByteArray} {s : ByteArray} {k : Nat} (h : k < ss.length) (hn : ¬ s ∈ ss.take k) (he : ¬ ss.getD k ByteArray.empty = s) : ¬ s ∈ ss.take (k + 1) := by
  rw [List.take_succ_eq_append_getElem h]
  simp only [List.mem_append, List.mem_singleton, not_or]
  exact ⟨hn, fun e => he (by simp [h, e])⟩

theorem at_any {w : World} {v : Value} {ss : List ByteArray} {s : ByteArray} (h : Rd w v ss.length 1 (sv ss)) :
    Calls Try.prog 13 #[v, .string s] w (AtPost w ss s) := by
  obtain ⟨A, c, rfl, hc, hn, hl, hrd⟩ := h
  go_enter Try.func13, Try.ntmps13
  go_wp2
  go_loop [9] (fun i => ∃ k : Nat, k ≤ ss.length ∧ i = .int .i64 k ∧ Hid (¬ s ∈ ss.take k)) (fun i => ss.length - (intOf i).toNat)
  case atStart => exact ⟨0, Nat.zero_le _, rfl, hid (by simp)⟩
  case round =>
    obtain ⟨k, hk, rfl, Hn⟩ := hrel
    by_cases hlt : k < ss.length
    · obtain ⟨b, off, rfl, hcell⟩ := hrd k (by omega)
      have ck := hcell k _ (sv_get hlt)
      obtain ⟨x, hx⟩ : ∃ x, x = ss.getD k ByteArray.empty := ⟨_, rfl⟩
      rw [← hx] at ck
      have Hx := hid hx
      clear hx hcell hrd hl
      go_wp2
      · go_ret
        have e := str_eq (show (x.toList == s.toList) = true by assumption)
        exact ⟨ret_int (take_not_hit hlt Hn.out (Hx.out.symm.trans e)).symm, rfl⟩
      · go_round
        case rel => exact ⟨k + 1, by omega, by go_num, hid (take_not_more hlt Hn.out (fun e => str_ne (show (x.toList == s.toList) = false by assumption) (Hx.out.trans e)))⟩
        case measure => simp [intOf]; omega
    · have hk' : ss.take k = ss := List.take_of_length_le (by omega)
      rw [hk'] at Hn
      clear hk' hrd
      go_wp2
      go_ret
      exact ⟨ret_int (by unfold atI; rw [if_neg Hn.out]), rfl⟩

def fewB (ss : List ByteArray) : Bool := ss.all (fun s => decide (s.size ≤ 60)) && decide (ss.length ≤ 60)
def BoolPost (w : World) (b : Bool) (e : Ending) (w' : World) : Prop := e = .returned (.bool b) ∧ w = w'
theorem few_any {w : World} {v : Value} {ss : List ByteArray} (h : Rd w v ss.length 1 (sv ss)) :
    Calls Try.prog 8 #[v] w (BoolPost w (fewB ss)) := by
  obtain ⟨A, c, rfl, hc, hn, hl, hrd⟩ := h
  go_enter Try.func8, Try.ntmps8
  go_wp2
  go_loop [7] (fun i => ∃ k : Nat, k ≤ ss.length ∧ i = .int .i64 k ∧ Hid ((ss.take k).all (fun s => decide (s.size ≤ 60)) = true)) (fun i => ss.length - (intOf i).toNat)
  case atStart => exact ⟨0, Nat.zero_le _, rfl, hid (by simp)⟩
  case round =>
    obtain ⟨k, hk, rfl, Hn⟩ := hrel
    by_cases hlt : k < ss.length
    · obtain ⟨b, off, rfl, hcell⟩ := hrd k (by omega)
      have ck := hcell k _ (sv_get hlt)
      obtain ⟨x, hx⟩ : ∃ x, x = ss.getD k ByteArray.empty := ⟨_, rfl⟩
      rw [← hx] at ck
      have Hx := hid hx
      have Htk := hid (List.take_succ_eq_append_getElem hlt)
      clear hx hcell hrd hl
      have hxe : Hid (x = ss[k]) := by rw [Hx.out]; simp [Hid, hlt]
      by_cases hs : x.size ≤ 60
      · go_wp2
        go_round
        case rel => exact ⟨k + 1, by omega, by go_num, hid (by rw [Htk.out, List.all_append, Hn.out]; simp [← hxe.out, hs])⟩
        case measure => simp [intOf]; omega
      · have hs' : 60 < x.size := by omega
        go_wp2
        go_ret
        refine ⟨ret_bool ?_, rfl⟩
        unfold fewB
        have : ss.all (fun s => decide (s.size ≤ 60)) = false := by
          rw [List.all_eq_false]
          exact ⟨x, by rw [hxe.out]; exact List.getElem_mem _, by simpa using hs'⟩
        rw [this]; rfl
    · have hk' : ss.take k = ss := List.take_of_length_le (by omega)
      rw [hk'] at Hn
      clear hk' hrd
      go_wp2
      go_ret
      refine ⟨ret_bool ?_, rfl⟩
      unfold fewB
      rw [Hn.out, Bool.true_and]
      exact decide_eq_decide.2 (by omega)

def textsOf (ss : List ByteArray) : List ByteArray := ss.foldl addS []
theorem textsOf_take {ss : List ByteArray} {k : Nat} (h : k < ss.length) : textsOf (ss.take (k + 1)) = addS (textsOf (ss.take k)) (ss.getD k ByteArray.empty) := by
  rw [List.take_succ_eq_append_getElem h]
  unfold textsOf
  rw [List.foldl_append]
  simp [h]
theorem addS_length (ss : List ByteArray) (s : ByteArray) : (addS ss s).length ≤ ss.length + 1 := by
  unfold addS; split <;> simp
theorem textsOf_length (ss : List ByteArray) : (textsOf ss).length ≤ ss.length := by
  unfold textsOf
  suffices h : ∀ (l acc : List ByteArray), (l.foldl addS acc).length ≤ acc.length + l.length by simpa using h ss []
  intro l
  induction l with
  | nil => intro acc; simp
  | cons x l ih => intro acc; have := ih (addS acc x); have := addS_length acc x; simp only [List.foldl_cons, List.length_cons]; omega

def TextsPost (w : World) (ss : List ByteArray) (e : Ending) (w' : World) : Prop :=
  ∃ v, e = .returned v ∧ w'.ownsRow w.heap.size 9 1 v (textsOf ss).length (sv (textsOf ss)) ∧ Below w.heap.size w w'
theorem Texts_any {w : World} {v : Value} {ss : List ByteArray} (h : Rd w v ss.length 1 (sv ss)) (hbig : ss.length * 16 ≤ 140737488355328) :
    Calls Try.prog 11 #[v] w (TextsPost w ss) := by
  have h0 := h
  obtain ⟨A, c, rfl, hc, hn, hl, hrd⟩ := h
  go_enter Try.func11, Try.ntmps11
  go_wp2
  go_loopw [3, 9] (fun v i wr => ∃ k : Nat, k ≤ ss.length ∧ i = .int .i64 k ∧ wr.ownsRow w.heap.size 9 1 v (textsOf (ss.take k)).length (sv (textsOf (ss.take k))) ∧ Below w.heap.size w wr) (fun _ i _ => ss.length - (intOf i).toNat)
  case atStart => exact ⟨0, Nat.zero_le _, rfl, by simpa [textsOf] using own_lit0 (base := w.heap.size) w 9 1 (Nat.le_refl _), (Below.refl _ _).alloc (Nat.le_refl _) _⟩
  case round =>
    obtain ⟨k, hk, rfl, hown, hb⟩ := hrel
    have hT := textsOf_length (ss.take k)
    have hT2 : (ss.take k).length ≤ k := List.length_take_le _ _
    by_cases hlt : k < ss.length
    · obtain ⟨b, off, rfl, hcell⟩ := hrd k (by omega)
      have ck := hcell k _ (sv_get hlt)
      have ck' := (hb.cell (World.block_lt_of_cell? w _ ck)).trans ck
      obtain ⟨x, hx⟩ : ∃ x, x = ss.getD k ByteArray.empty := ⟨_, rfl⟩
      rw [← hx] at ck'
      have HT := hid (textsOf_take hlt)
      rw [← hx] at HT
      clear hx hcell hrd hl ck h0
      obtain ⟨T, hTe⟩ : ∃ T, T = textsOf (ss.take k) := ⟨_, rfl⟩
      rw [← hTe] at hown hT HT
      have HTe := hid hTe
      clear hTe
      have hat := at_any (s := x) (Rd.own hown (by omega))
      by_cases hin : x ∈ T
      · have h1 : atI T x = ((T.idxOf x : Nat) : Int) := by unfold atI; rw [if_pos hin]
        have h2 : addS T x = T := by unfold addS; rw [if_pos hin]
        rw [h2] at HT
        have Hown := hid hown
        have Hin := hid hin
        unfold AtPost at hat
        rw [h1] at hat
        have Hat := hid hat
        clear h1 h2 hat hin hown
        go_wp2_with (first | (go_at_call 13; refine Hat.out.mono ?_; rintro e w' ⟨rfl, rfl⟩))
        go_roundw
        case rel => exact ⟨k + 1, by omega, by go_num, by rw [HT.out]; exact Hown.out, hb⟩
        case measure => simp [intOf]; omega
      · have h1 : atI T x = -1 := by unfold atI; rw [if_neg hin]
        have h2 : addS T x = T ++ [x] := by unfold addS; rw [if_neg hin]
        rw [h2] at HT
        unfold AtPost at hat
        rw [h1] at hat
        obtain ⟨A', c', rfl⟩ := own_slice hown
        have Hat := hid hat
        have Hb := hid hb
        have hsz := hb.size
        clear h1 h2 hat hin hb
        go_wp2_with (first
          | (go_at_call 13; refine Hat.out.mono ?_; rintro e w' ⟨rfl, rfl⟩)
          | (at_builtin; go_must (refine wp_app1 w.heap.size rfl _ _ 22 9 (.string ByteArray.empty) 1 16 rfl Try.underlying22 info9 rfl (by decide) (by decide) (.slice A' T.length c') T.length (sv T) [.string x] rfl rfl rfl (by simp [Value.oneCell']) hown hsz (by omega) ?_); intro g cp w1 hown1 hg1 hor; have Ho := hid hown1; have Hg := hid hg1; clear hown1 hg1 hor))
        go_roundw
        case rel => exact ⟨k + 1, by omega, by go_num, by rw [HT.out]; simpa [sv] using Ho.out, Hb.out.grown Hg.out hsz (fun j hj => (own_lt hown j hj).2)⟩
        case measure => simp [intOf]; omega
    · have hk' : ss.take k = ss := List.take_of_length_le (by omega)
      rw [hk'] at hown
      clear hk' hrd
      have Hown := hid hown
      have Hb := hid hb
      clear hown hb
      go_wp2
      go_ret
      exact ⟨_, rfl, Hown.out, Hb.out⟩

/-! The comparison of texts, in plain words. -/
theorem cmp_total : ∀ a b : List UInt8, (Lib.compareBytes a b = -1 ∧ Op.bytesLess a b = true ∧ (a == b) = false ∧ Lib.compareBytes b a = 1) ∨ (Lib.compareBytes a b = 0 ∧ Op.bytesLess a b = false ∧ (a == b) = true ∧ Lib.compareBytes b a = 0) ∨ (Lib.compareBytes a b = 1 ∧ Op.bytesLess a b = false ∧ (a == b) = false ∧ Lib.compareBytes b a = -1)
  | [], [] => by simp [Lib.compareBytes, Op.bytesLess]
  | [], _ :: _ => by simp [Lib.compareBytes, Op.bytesLess]
  | _ :: _, [] => by simp [Lib.compareBytes, Op.bytesLess]
  | x :: a, y :: b => by
    have ih := cmp_total a b
    by_cases h : x < y
    · have h1 : ¬ y < x := fun k => absurd (UInt8.lt_trans h k) (UInt8.lt_irrefl _)
      have h2 : x ≠ y := fun e => by subst e; exact UInt8.lt_irrefl _ h
      left
      simp [Lib.compareBytes, Op.bytesLess, h, h1, h2]
    · by_cases k : y < x
      · have h2 : x ≠ y := fun e => by subst e; exact UInt8.lt_irrefl _ k
        right; right
        simp [Lib.compareBytes, Op.bytesLess, h, k, h2]
      · have e : x = y := UInt8.le_antisymm (UInt8.not_lt.1 k) (UInt8.not_lt.1 h)
        subst e
        simpa [Lib.compareBytes, Op.bytesLess, h] using ih

def cmpS (a b : ByteArray) : Int := Lib.compareBytes a.data.toList b.data.toList
theorem cmpS_anti (a b : ByteArray) : cmpS b a = - cmpS a b := by
  unfold cmpS
  rcases cmp_total a.data.toList b.data.toList with h | h | h <;> rw [h.1, h.2.2.2] <;> rfl
theorem cmpS_less (a b : ByteArray) : Op.bytesLess a.toList b.toList = decide (cmpS a b = -1) := by
  unfold cmpS
  rw [ByteArray.toList_eq, ByteArray.toList_eq]
  rcases cmp_total a.data.toList b.data.toList with h | h | h <;> rw [h.1, h.2.1] <;> rfl
theorem cmpS_more (a b : ByteArray) : (!(Op.bytesLess a.toList b.toList || (a.toList == b.toList))) = decide (cmpS a b = 1) := by
  unfold cmpS
  rw [ByteArray.toList_eq, ByteArray.toList_eq]
  rcases cmp_total a.data.toList b.data.toList with h | h | h <;> rw [h.1, h.2.1, h.2.2.1] <;> rfl
theorem cmpS_range (a b : ByteArray) : cmpS a b = -1 ∨ cmpS a b = 0 ∨ cmpS a b = 1 := by
  unfold cmpS
  rcases cmp_total a.data.toList b.data.toList with h | h | h <;> simp [h.1]

def inR (ss : List ByteArray) (a : Int) : Prop := 0 ≤ a ∧ a < ss.length
instance (ss : List ByteArray) (a : Int) : Decidable (inR ss a) := inferInstanceAs (Decidable (_ ∧ _))
def cmpI (ss : List ByteArray) (a b : Int) : Int :=
  if inR ss a then if inR ss b then cmpS (ss.getD a.toNat ByteArray.empty) (ss.getD b.toNat ByteArray.empty) else 1
  else if inR ss b then -1 else if a < b then -1 else if a > b then 1 else 0
theorem cmpI_anti (ss : List ByteArray) (a b : Int) : cmpI ss b a = - cmpI ss a b := by
  unfold cmpI
  by_cases ha : inR ss a <;> by_cases hb : inR ss b <;> simp only [ha, hb, if_true, if_false]
  · exact cmpS_anti _ _
  · rfl
  · by_cases h1 : a < b
    · rw [if_neg (by omega), if_pos (by omega), if_pos h1]; rfl
    · by_cases h2 : a > b
      · rw [if_pos (by omega), if_neg h1, if_pos h2]
      · rw [if_neg (by omega), if_neg (by omega), if_neg h1, if_neg h2]; rfl

def CmpPost (w : World) (ss : List ByteArray) (a b : Int) (e : Ending) (w' : World) : Prop := e = .returned (.int .i64 (cmpI ss a b)) ∧ w = w'
theorem Compare_any {w : World} {F : Nat → Prop} {t : Nat} {ss : List ByteArray} {a b : Int} (h : TabE w F t ss) (hn : ss.length < 4294967296) (ha1 : -9223372036854775808 ≤ a) (ha2 : a ≤ 9223372036854775807) (hb1 : -9223372036854775808 ≤ b) (hb2 : b ≤ 9223372036854775807) :
    Calls Try.prog 12 #[.pointer (some ⟨t, 0, none⟩), .int .i64 a, .int .i64 b] w (CmpPost w ss a b) := by
  by_cases ha : inR ss a <;> by_cases hb : inR ss b
  · have hfin : cmpI ss a b = cmpS (ss.getD a.toNat ByteArray.empty) (ss.getD b.toNat ByteArray.empty) := by unfold cmpI; rw [if_pos ha, if_pos hb]
    unfold CmpPost
    rw [hfin]
    have HA := hid ha
    have HB := hid hb
    have H := hid h
    clear ha hb h hfin
    go_enter Try.func12, Try.ntmps12
    go_wp2_with fail
    refine (Text_in H.out HA.out.1 HA.out.2 hn).mono ?_
    rintro e w' ⟨rfl, rfl⟩
    go_wp2_with fail
    refine (Text_in H.out HB.out.1 HB.out.2 hn).mono ?_
    rintro e w' ⟨rfl, rfl⟩
    go_wp2_with (go_at_call 18; refine (Try.strings_Compare _ _ _).mono ?_; rintro e w' ⟨rfl, rfl⟩)
    go_ret
    exact ⟨rfl, rfl⟩
  · have hfin : cmpI ss a b = 1 := by unfold cmpI; rw [if_pos ha, if_neg hb]
    unfold CmpPost
    rw [hfin]
    have hb' : b < 0 ∨ ss.length ≤ b := by unfold inR at hb; omega
    have HA := hid ha
    have HB := hid hb'
    have H := hid h
    clear ha hb h hfin hb'
    go_enter Try.func12, Try.ntmps12
    go_wp2_with fail
    refine (Text_in H.out HA.out.1 HA.out.2 hn).mono ?_
    rintro e w' ⟨rfl, rfl⟩
    go_wp2_with fail
    refine (Text_out H.out HB.out).mono ?_
    rintro e w' ⟨rfl, rfl⟩
    go_wp2
    go_ret
    exact ⟨rfl, rfl⟩
  · have hfin : cmpI ss a b = -1 := by unfold cmpI; rw [if_neg ha, if_pos hb]
    unfold CmpPost
    rw [hfin]
    have ha' : a < 0 ∨ ss.length ≤ a := by unfold inR at ha; omega
    have HA := hid ha'
    have HB := hid hb
    have H := hid h
    clear ha hb h hfin ha'
    go_enter Try.func12, Try.ntmps12
    go_wp2_with fail
    refine (Text_out H.out HA.out).mono ?_
    rintro e w' ⟨rfl, rfl⟩
    go_wp2_with fail
    refine (Text_in H.out HB.out.1 HB.out.2 hn).mono ?_
    rintro e w' ⟨rfl, rfl⟩
    go_wp2
    go_ret
    exact ⟨rfl, rfl⟩
  · have ha' : a < 0 ∨ ss.length ≤ a := by unfold inR at ha; omega
    have hb' : b < 0 ∨ ss.length ≤ b := by unfold inR at hb; omega
    have hfin : cmpI ss a b = if a < b then -1 else if a > b then 1 else 0 := by unfold cmpI; rw [if_neg ha, if_neg hb]
    unfold CmpPost
    rw [hfin]
    have HA := hid ha'
    have HB := hid hb'
    have H := hid h
    clear ha hb h hfin ha' hb'
    rcases Int.lt_trichotomy a b with hab | hab | hab
    · rw [if_pos hab]
      go_enter Try.func12, Try.ntmps12
      go_wp2_with fail
      refine (Text_out H.out HA.out).mono ?_
      rintro e w' ⟨rfl, rfl⟩
      go_wp2_with fail
      refine (Text_out H.out HB.out).mono ?_
      rintro e w' ⟨rfl, rfl⟩
      go_wp2
      go_ret
      exact ⟨rfl, rfl⟩
    · subst hab
      rw [if_neg (by omega), if_neg (by omega)]
      go_enter Try.func12, Try.ntmps12
      go_wp2_with fail
      refine (Text_out H.out HA.out).mono ?_
      rintro e w' ⟨rfl, rfl⟩
      go_wp2_with fail
      refine (Text_out H.out HB.out).mono ?_
      rintro e w' ⟨rfl, rfl⟩
      go_wp2
      go_ret
      exact ⟨rfl, rfl⟩
    · have hab' : ¬ a < b := by omega
      rw [if_neg hab', if_pos hab]
      go_enter Try.func12, Try.ntmps12
      go_wp2_with fail
      refine (Text_out H.out HA.out).mono ?_
      rintro e w' ⟨rfl, rfl⟩
      go_wp2_with fail
      refine (Text_out H.out HB.out).mono ?_
      rintro e w' ⟨rfl, rfl⟩
      go_wp2
      go_ret
      exact ⟨rfl, rfl⟩

end Go.Proofs.Ytbcmkkphbkpapaa
