import Derived.Test.YtdbpboipiceifaaDoorZ1PlV
import Derived.Test.YtdbpboipiceifaaDoorZ1PSPx1
import Derived.Test.YtdbpboipiceifaaDoorZ1PSPx4
set_option linter.unusedVariables false
set_option linter.unusedSimpArgs false
namespace Go.Proofs.YtdbpboipiceifaaDoorPSP
open Go.RowKit Go.Extern.Stop Go.Stop Go.Extern Go.Proofs.YtdbpboipiceifaaDoorW.PrintWords Go.Proofs.YtdbpboipiceifaaDoor
abbrev PvM := S86
abbrev RlM := S36
theorem rd51 (l : List PvM) (i : Nat) (h : i < l.length) : rd_T86 l (i : Int) = l[i] := by
  unfold rd_T86
  rw [Int.toNat_natCast, List.getD_eq_getElem?_getD, List.getElem?_eq_getElem h]
  rfl
theorem rdR (l : List RlM) (i : Nat) (h : i < l.length) : rd_T36 l (i : Int) = l[i] := by
  unfold rd_T36
  rw [Int.toNat_natCast, List.getD_eq_getElem?_getD, List.getElem?_eq_getElem h]
  rfl
def PvN (p : PvM) : Prop := (∀ t ∈ p.f2.f1, TN t) ∧ TN p.f3 ∧ TN p.f4 ∧ ∀ d, EN d p.f5
def RlN (r : RlM) : Prop := (∀ t ∈ r.f0.f1, TN t) ∧ ∀ p ∈ r.f2, PvN p
def RlB (r : RlM) : Prop := r.f0.f1.length ≤ 6 ∧ (∀ t ∈ r.f0.f1, TN t) ∧ r.f2.length ≤ 8 ∧ ∀ p ∈ r.f2, PB p
theorem few_l1 (rs : List RlM) (i : Nat) (hi : i < rs.length) (hl : rs.length ≤ 12) (Q : Bool → Prop) (k0 : Nat)
    (next : ∀ k, k0 ≤ k → ∃ b, ergolaw13_Few.l0 k rs (rs.length : Int) ((i + 1 : Nat) : Int) = some b ∧ Q b) (hf : Q false) (ps : List PvM) (hp : ∀ p ∈ ps, PvN p) (h8 : ps.length ≤ 8) :
    ∀ (d j k : Nat), j + d = ps.length → k0 + 40 + d ≤ k → ∃ b, ergolaw13_Few.l1 k rs (rs.length : Int) (i : Int) ps (ps.length : Int) (j : Int) = some b ∧
      (b = true → ∀ p ∈ ps.drop j, PB p) ∧ Q b := by
  intro d
  induction d with
  | zero =>
    intro j k hj hk
    obtain ⟨k, rfl⟩ : ∃ m, k = m + 1 := ⟨k - 1, by omega⟩
    obtain ⟨b, h1, h2⟩ := next k (by omega)
    rw [ergolaw13_Few.l1, if_neg (by omega), w64 i (by omega), List.drop_eq_nil_of_le (by omega)]
    exact ⟨b, h1, fun _ p hp => (by cases hp), h2⟩
  | succ d ih =>
    intro j k hj hk
    obtain ⟨k, rfl⟩ : ∃ m, k = m + 1 := ⟨k - 1, by omega⟩
    have hlt : j < ps.length := by omega
    rw [ergolaw13_Few.l1, if_pos (by omega), if_pos (by omega), if_pos (by omega), rd51 ps j hlt, w64 j (by omega)]
    obtain ⟨n1, n2, n3, n4⟩ := hp _ (List.getElem_mem hlt)
    by_cases c1 : ps[j].f2.f1.length ≤ 6
    · rw [if_neg (by omega)]
      obtain ⟨r, _, _, hr, hc⟩ := count_is 7 (by decide) ps[j].f5 (n4 8)
      have hc1 : ergolaw13_E_Count.f k ps[j].f5.f0.f0 ps[j].f5.f0.f1 ps[j].f5.f0.f2 ps[j].f5.f1 ps[j].f5.f2 0 = some (r : Int) := hc k (by omega)
      rw [hc1]
      simp only [Option.bind_some]
      by_cases c2 : r ≤ 40
      · rw [if_neg (by omega)]
        obtain ⟨b, g1, g2, g3⟩ := ih (j + 1) k (by omega) (by omega)
        refine ⟨b, g1, fun hb p hpm => ?_, g3⟩
        rw [List.drop_eq_getElem_cons hlt] at hpm
        rcases List.mem_cons.1 hpm with rfl | hpm
        · exact ⟨c1, n1, n2, n3, hr (by omega)⟩
        · exact g2 hb p hpm
      · rw [if_pos (by omega)]
        exact ⟨false, rfl, (fun h => by cases h), hf⟩
    · rw [if_pos (by omega)]
      exact ⟨false, rfl, (fun h => by cases h), hf⟩
theorem few_l0 (rs : List RlM) (hl : rs.length ≤ 12) (hn : ∀ r ∈ rs, RlN r) : ∀ (d i k : Nat), i + d = rs.length → 100 * d + 1 ≤ k →
    ∃ b, ergolaw13_Few.l0 k rs (rs.length : Int) (i : Int) = some b ∧ (b = true → ∀ r ∈ rs.drop i, RlB r) := by
  intro d
  induction d with
  | zero =>
    intro i k hi hk
    obtain ⟨k, rfl⟩ : ∃ m, k = m + 1 := ⟨k - 1, by omega⟩
    rw [ergolaw13_Few.l0, if_neg (by omega), List.drop_eq_nil_of_le (by omega)]
    exact ⟨true, rfl, fun _ p hp => (by cases hp)⟩
  | succ d ih =>
    intro i k hi hk
    obtain ⟨k, rfl⟩ : ∃ m, k = m + 2 := ⟨k - 2, by omega⟩
    have hlt : i < rs.length := by omega
    rw [ergolaw13_Few.l0, if_pos (by omega), if_pos (by omega), if_pos (by omega), rdR rs i hlt]
    obtain ⟨n1, n2⟩ := hn _ (List.getElem_mem hlt)
    by_cases c1 : rs[i].f0.f1.length ≤ 6
    · rw [if_neg (by omega), ergolaw13_Few.j1]
      by_cases c2 : rs[i].f2.length ≤ 8
      · rw [decide_eq_false (by omega), if_neg (by decide)]
        obtain ⟨b, g1, g2, g3⟩ := few_l1 rs i hlt hl (fun b => b = true → ∀ r ∈ rs.drop (i + 1), RlB r) (100 * d + 1) (fun k hk => ih (i + 1) k (by omega) hk) (fun h => by cases h) rs[i].f2 n2 c2 rs[i].f2.length 0 k (by omega) (by omega)
        refine ⟨b, g1, fun hb r hrm => ?_⟩
        rw [List.drop_eq_getElem_cons hlt] at hrm
        rcases List.mem_cons.1 hrm with rfl | hrm
        · exact ⟨c1, n1, c2, by simpa using g2 hb⟩
        · exact g3 hb r hrm
      · rw [decide_eq_true (by omega), if_pos rfl]
        exact ⟨false, rfl, fun h => by cases h⟩
    · rw [if_pos (by omega), ergolaw13_Few.j1, if_pos rfl]
      exact ⟨false, rfl, fun h => by cases h⟩
theorem few_is (rs : List RlM) (hn : ∀ r ∈ rs, RlN r) : ∃ b, ergolaw13_Few.f 20000 rs = some b ∧ (b = true → rs.length ≤ 12 ∧ ∀ r ∈ rs, RlB r) := by
  unfold ergolaw13_Few.f
  by_cases c : rs.length ≤ 12
  · rw [if_neg (by omega)]
    obtain ⟨b, h1, h2⟩ := few_l0 rs c hn rs.length 0 20000 (by omega) (by omega)
    exact ⟨b, h1, fun hb => ⟨c, by simpa using h2 hb⟩⟩
  · rw [if_pos (by omega)]
    exact ⟨false, rfl, fun h => by cases h⟩
def partOf (p : PvM) : Pt := match madeF 2000 p with
  | some (a, b, c, d, e, f, g, h, i, j, l, m, n, o, q, r) => ⟨a, ⟨b, c⟩, d, ⟨e, f, g⟩, ⟨h, i, j⟩, l, ⟨⟨m, n, o⟩, q, r⟩⟩
  | none => z59
theorem partOf_is (p : PvM) (h : PB p) : PShape (partOf p) ∧ ∀ k, 2000 ≤ k → madeF k p = some (PFields (partOf p)) := by
  obtain ⟨q, h1, h2⟩ := part_made p h
  have e : partOf p = q := by
    unfold partOf
    rw [h2 2000 (Nat.le_refl _)]
    obtain ⟨a, ⟨b, c⟩, d, ⟨e, f, g⟩, ⟨h, i, j⟩, l, ⟨⟨m, n, o⟩, q, r⟩⟩ := q
    rfl
  rw [e]
  exact ⟨h1, h2⟩
theorem made_l0 (ps : List PvM) (hl : ps.length ≤ 8) (h : ∀ p ∈ ps, PB p) (pr : ByteArray) (args : List Tm) (g at_ : Int) : ∀ (d i k : Nat) (acc : List Pt), i + d = ps.length → acc.length + d ≤ 100 → 2100 + d ≤ k →
    ergolaw13_R_Rule.l0 k ps (ps.length : Int) (i : Int) pr args g acc at_ = some (pr, args, g, acc ++ (ps.drop i).map partOf, at_) := by
  intro d
  induction d with
  | zero =>
    intro i k acc hi ha hk
    obtain ⟨k, rfl⟩ : ∃ m, k = m + 1 := ⟨k - 1, by omega⟩
    rw [ergolaw13_R_Rule.l0, if_neg (by omega), List.drop_eq_nil_of_le (by omega)]
    simp
  | succ d ih =>
    intro i k acc hi ha hk
    obtain ⟨k, rfl⟩ : ∃ m, k = m + 1 := ⟨k - 1, by omega⟩
    have hlt : i < ps.length := by omega
    have e1 := (partOf_is ps[i] (h _ (List.getElem_mem hlt))).2 k (by omega)
    unfold madeF at e1
    rw [ergolaw13_R_Rule.l0, if_pos (by omega), if_pos (by omega), if_pos (by omega), rd51 ps i hlt, w64 i (by omega), e1, List.drop_eq_getElem_cons hlt, List.map_cons]
    simp only [Option.bind_some]
    rw [if_pos (by omega)]
    have e2 := ih (i + 1) k (acc ++ [partOf ps[i]]) (by omega) (by simp; omega) (by omega)
    rw [List.append_assoc, List.singleton_append] at e2
    obtain ⟨q, hq⟩ : ∃ q, q = partOf ps[i] := ⟨_, rfl⟩
    rw [← hq] at e2 ⊢
    obtain ⟨a, ⟨b, c⟩, d, ⟨e, f, g⟩, ⟨h, i, j⟩, l, ⟨⟨m, n, o⟩, q, r⟩⟩ := q
    exact e2
theorem set_last_ok {l : List Tm} {i : Nat} (h : ∀ t ∈ l, TOk t) : ∀ t ∈ l.set i ⟨0, bytesL [88], 0⟩, TOk t := by
  intro t ht
  rcases List.mem_or_eq_of_mem_set ht with h1 | rfl
  · exact h t h1
  · exact .inr (.inl ⟨rfl, 0, by decide, rfl⟩)
theorem rule_made (r : RlM) (h : RlB r) : ∃ (args : List Tm) (g : Int), args.length ≤ 7 ∧ 0 < args.length ∧ (∀ t ∈ args, TOk t) ∧ (g = 0 ∨ g = 1 ∨ g = 2 ∨ g = 3 ∨ g = 4) ∧
    ∀ k, 3000 ≤ k → ergolaw13_R_Rule.f k r.f0.f0 r.f0.f1 r.f1 r.f2 = some (bytesL (predS r.f0.f0), args, g, r.f2.map partOf, 0) := by
  obtain ⟨⟨pr, al⟩, agg, body⟩ := r
  obtain ⟨h1, h2, h3, h4⟩ := h
  simp only at h1 h2 h3 h4
  have ha := argsOf_ok h2
  have hl := argsOf_len al
  have hp : 0 < (argsOf al).length := by
    unfold argsOf
    split <;> rename_i h
    · simp
    · simp; omega
  obtain ⟨n, hn⟩ : ∃ n, (argsOf al).length = n + 1 := ⟨(argsOf al).length - 1, by omega⟩
  have hw : wrap64 (((argsOf al).length : Int) - 1) = (n : Int) := by rw [hn]; unfold wrap64; omega
  have e0 : Go.bits .and .i64 agg 15 = Go.bits .and .i64 agg 15 := rfl
  generalize hgg : Go.bits .and .i64 agg 15 = g at e0
  have tail : ∀ (args : List Tm) (g : Int) (k : Nat), 2990 ≤ k → ergolaw13_R_Rule.j1 k pr al agg body (bytesL (predS pr)) args g 0 = some (bytesL (predS pr), args, g, body.map partOf, 0) := by
    intro args g k hk
    obtain ⟨k, rfl⟩ : ∃ m, k = m + 1 := ⟨k - 1, by omega⟩
    rw [ergolaw13_R_Rule.j1]
    have := made_l0 body h3 h4 (bytesL (predS pr)) args g 0 body.length 0 k [] (by omega) (by simp; omega) (by omega)
    rw [show ((0 : Nat) : Int) = 0 from rfl] at this
    rw [this]
    simp
  by_cases c : 1 ≤ g ∧ g ≤ 4
  · have hg : g = 0 ∨ g = 1 ∨ g = 2 ∨ g = 3 ∨ g = 4 := by omega
    by_cases hv : (rd_T53 (argsOf al) (n : Int)).f0 = 0
    · refine ⟨argsOf al, g, by omega, hp, ha, hg, fun k hk => ?_⟩
      obtain ⟨k, rfl⟩ : ∃ m, k = m + 1 := ⟨k - 1, by omega⟩
      simp only
      unfold ergolaw13_R_Rule.f
      rw [A_is pr al (by omega) (k + 1) (by omega), hgg]
      simp only [Option.bind_some]
      rw [if_pos c.1, decide_eq_true c.2, ergolaw13_R_Rule.j0, if_pos rfl, hw, if_pos (by omega), if_pos (by omega), if_pos hv]
      exact tail _ _ k (by omega)
    · refine ⟨(argsOf al).set n ⟨0, bytesL [88], 0⟩, g, by rw [List.length_set]; omega, by rw [List.length_set]; exact hp, set_last_ok ha, hg, fun k hk => ?_⟩
      obtain ⟨k, rfl⟩ : ∃ m, k = m + 1 := ⟨k - 1, by omega⟩
      simp only
      unfold ergolaw13_R_Rule.f
      rw [A_is pr al (by omega) (k + 1) (by omega), hgg]
      simp only [Option.bind_some]
      rw [if_pos c.1, decide_eq_true c.2, ergolaw13_R_Rule.j0, if_pos rfl, hw, if_pos (by omega), if_pos (by omega), if_neg hv]
      exact tail _ _ k (by omega)
  · refine ⟨argsOf al, 0, by omega, hp, ha, .inl rfl, fun k hk => ?_⟩
    obtain ⟨k, rfl⟩ : ∃ m, k = m + 1 := ⟨k - 1, by omega⟩
    simp only
    unfold ergolaw13_R_Rule.f
    rw [A_is pr al (by omega) (k + 1) (by omega), hgg]
    simp only [Option.bind_some]
    have : ∀ b : Bool, b = false → ergolaw13_R_Rule.j0 (k + 1) g b pr al agg body (bytesL (predS pr)) (argsOf al) 0 0 = some (bytesL (predS pr), argsOf al, 0, body.map partOf, 0) := by
      intro b hb
      subst hb
      rw [ergolaw13_R_Rule.j0, if_neg (by decide)]
      exact tail _ _ k (by omega)
    by_cases c1 : g ≥ 1
    · rw [if_pos c1]
      exact this _ (decide_eq_false (by omega))
    · rw [if_neg c1]
      exact this _ rfl
end Go.Proofs.YtdbpboipiceifaaDoorPSP
