import Derived.Test.YtdbpboipiceifaaDoorZ1Pl13p
import Derived.Test.YtdbpboipiceifaaDoorZ1PSPx5
import Derived.Test.YtdbpboipiceifaaDoorZ1PSPx6
import Derived.Test.YtdbpboipiceifaaDoorZ1PSPx7
set_option linter.unusedVariables false
set_option linter.unusedSimpArgs false
namespace Go.Proofs.YtdbpboipiceifaaDoorPSP
open Go.RowKit Go.Extern.Stop Go.Stop Go.Extern Go.Proofs.YtdbpboipiceifaaDoorW.PrintWords Go.Proofs.YtdbpboipiceifaaDoor
abbrev Tm := S53
abbrev Xp := S57
abbrev Pt := S59
def namesL (ts : List Tm) : List ByteArray := (ts.filter fun t => decide (t.f0 = 0)).map (·.f1)
theorem namesL_len (ts : List Tm) : (namesL ts).length ≤ ts.length := by
  unfold namesL
  rw [List.length_map]
  exact List.length_filter_le _ _
theorem names_l0 (ts : List Tm) (hl : ts.length ≤ 1000) : ∀ (d i k : Nat) (acc : List ByteArray), i + d = ts.length → d < k → acc.length + d ≤ 100000 →
    ergolaw13_names.l0 k acc ts (ts.length : Int) (i : Int) = some (acc ++ namesL (ts.drop i)) ∧ syntax_vars.l0 k acc ts (ts.length : Int) (i : Int) = some (acc ++ namesL (ts.drop i)) := by
  intro d
  induction d with
  | zero =>
    intro i k acc hi hk ha
    obtain ⟨k, rfl⟩ : ∃ m, k = m + 1 := ⟨k - 1, by omega⟩
    rw [ergolaw13_names.l0, if_neg (by omega), syntax_vars.l0, if_neg (by omega), List.drop_eq_nil_of_le (by omega)]
    simp [namesL]
  | succ d ih =>
    intro i k acc hi hk ha
    obtain ⟨k, rfl⟩ : ∃ m, k = m + 1 := ⟨k - 1, by omega⟩
    have hlt : i < ts.length := by omega
    rw [List.drop_eq_getElem_cons hlt]
    obtain ⟨e1, e2⟩ := ih (i + 1) k (if ts[i].f0 = 0 then acc ++ [ts[i].f1] else acc) (by omega) (by omega) (by split <;> (try rw [List.length_append]) <;> (try simp) <;> omega)
    constructor
    · rw [ergolaw13_names.l0, if_pos (by omega), if_pos (by omega), if_pos (by omega), rd55 ts i hlt, w64 i (by omega)]
      by_cases h0 : ts[i].f0 = 0
      · rw [if_pos h0] at e1
        rw [if_pos h0, if_pos (by omega), e1]
        simp [namesL, h0, -List.getElem_cons_drop]
      · rw [if_neg h0] at e1
        rw [if_neg h0, e1]
        simp [namesL, h0, -List.getElem_cons_drop]
    · rw [syntax_vars.l0, if_pos (by omega), if_pos (by omega), if_pos (by omega), rd55 ts i hlt, w64 i (by omega)]
      by_cases h0 : ts[i].f0 = 0
      · rw [if_pos h0] at e2
        rw [if_pos h0, if_pos (by omega), e2]
        simp [namesL, h0, -List.getElem_cons_drop]
      · rw [if_neg h0] at e2
        rw [if_neg h0, e2]
        simp [namesL, h0, -List.getElem_cons_drop]
theorem names_is (ts : List Tm) (hl : ts.length ≤ 1000) : ∀ k, ts.length < k → ergolaw13_names.f k ts = some (namesL ts) ∧ syntax_vars.f k ts = some (namesL ts) := by
  intro k hk
  exact names_l0 ts hl ts.length 0 k [] (by omega) hk (by simp; omega)
theorem expr_names : ∀ (d : Nat), d ≤ 7 → ∀ (x : Xp), XOk d x → ∃ ns : List ByteArray, ns.length ≤ 2 ^ d ∧ ∀ k, d + 3 ≤ k →
    ergolaw13_inner.f k x.f0.f0 x.f0.f1 x.f0.f2 x.f1 x.f2 = some ns ∧ syntax_Expr_Vars.f k x.f0.f0 x.f0.f1 x.f0.f2 x.f1 x.f2 = some ns := by
  intro d
  induction d with
  | zero => intro _ x h; exact h.elim
  | succ d ih =>
    intro hd x hx
    obtain ⟨⟨T, P, B⟩, op, kids⟩ := x
    have hb : 2 ^ d ≤ 2 ^ 7 := Nat.pow_le_pow_right (by decide) (by omega)
    have hb2 : 1 ≤ 2 ^ d := Nat.one_le_two_pow
    have hb3 : 2 ^ (d + 1) = 2 ^ d + 2 ^ d := by rw [Nat.pow_succ]; omega
    rcases hx with ⟨hk, ht⟩ | ⟨a, b, hk, _, _, ha, hbx⟩
    · simp only at hk
      subst hk
      refine ⟨namesL [⟨T, P, B⟩], ?_, fun k hk => ?_⟩
      · have := namesL_len [(⟨T, P, B⟩ : Tm)]
        rw [List.length_singleton] at this
        omega
      · obtain ⟨k, rfl⟩ : ∃ m, k = m + 1 := ⟨k - 1, by omega⟩
        obtain ⟨e1, e2⟩ := names_is [(⟨T, P, B⟩ : Tm)] (by simp) k (by simp; omega)
        simp only
        rw [ergolaw13_inner.f, if_neg (by simp), e1, syntax_Expr_Vars.f, if_neg (by simp), e2]
        exact ⟨rfl, rfl⟩
    · simp only at hk
      subst hk
      obtain ⟨na, la, ga⟩ := ih (by omega) a ha
      obtain ⟨nb, lb, gb⟩ := ih (by omega) b hbx
      refine ⟨na ++ nb, by rw [List.length_append]; omega, fun k hk => ?_⟩
      obtain ⟨k, rfl⟩ : ∃ m, k = m + 1 := ⟨k - 1, by omega⟩
      obtain ⟨a1, a2⟩ := ga k (by omega)
      obtain ⟨b1, b2⟩ := gb k (by omega)
      simp only
      constructor
      · rw [ergolaw13_inner.f, if_pos (by simp), if_pos (by simp), rd69_0, a1]
        simp only [Option.bind_some]
        rw [if_pos (by simp), rd69_1, b1]
        simp only [Option.bind_some]
        rw [if_pos (by omega)]
      · rw [syntax_Expr_Vars.f, if_pos (by simp), if_pos (by simp), rd69_0, a2]
        simp only [Option.bind_some]
        rw [if_pos (by simp), rd69_1, b2]
        simp only [Option.bind_some]
        unfold slices_Concat_string_string.f
        rw [if_pos ⟨by simp, by simp; omega⟩]
        simp
def PShape (p : Pt) : Prop :=
  ((p.f0 = 0 ∨ p.f0 = 1) ∧ (∃ n, p.f1.f0 = bytesL (predS n)) ∧ p.f1.f1.length ≤ 7 ∧ ∀ t ∈ p.f1.f1, TOk t) ∨ (p.f0 = 2 ∧ (∃ o, p.f2 = (md o 6 : Int)) ∧ TOk p.f3 ∧ TOk p.f4) ∨ (p.f0 = 3 ∧ p.f5.size ≤ 8 ∧ XOk 7 p.f6)
def PFields (p : Pt) : Int × ByteArray × List Tm × Int × Int × ByteArray × Int × Int × ByteArray × Int × ByteArray × Int × ByteArray × Int × Int × List Xp :=
  (p.f0, p.f1.f0, p.f1.f1, p.f2, p.f3.f0, p.f3.f1, p.f3.f2, p.f4.f0, p.f4.f1, p.f4.f2, p.f5, p.f6.f0.f0, p.f6.f0.f1, p.f6.f0.f2, p.f6.f1, p.f6.f2)
abbrev namesF (k : Nat) (p : Pt) := ergolaw13_Names.f k p.f0 p.f1.f0 p.f1.f1 p.f2 p.f3.f0 p.f3.f1 p.f3.f2 p.f4.f0 p.f4.f1 p.f4.f2 p.f5 p.f6.f0.f0 p.f6.f0.f1 p.f6.f0.f2 p.f6.f1 p.f6.f2
abbrev varsF (k : Nat) (p : Pt) := syntax_Part_Vars.f k p.f0 p.f1.f0 p.f1.f1 p.f2 p.f3.f0 p.f3.f1 p.f3.f2 p.f4.f0 p.f4.f1 p.f4.f2 p.f5 p.f6.f0.f0 p.f6.f0.f1 p.f6.f0.f2 p.f6.f1 p.f6.f2
abbrev innerF (k : Nat) (x : Xp) := ergolaw13_inner.f k x.f0.f0 x.f0.f1 x.f0.f2 x.f1 x.f2
abbrev exprF (k : Nat) (x : Xp) := syntax_Expr_Vars.f k x.f0.f0 x.f0.f1 x.f0.f2 x.f1 x.f2
abbrev madeF (k : Nat) (p : S86) := ergolaw13_P_Part.f k p.f0 p.f1 p.f2.f0 p.f2.f1 p.f3.f0 p.f3.f1 p.f3.f2 p.f4.f0 p.f4.f1 p.f4.f2 p.f5.f0.f0 p.f5.f0.f1 p.f5.f0.f2 p.f5.f1 p.f5.f2
def PB (p : S86) : Prop := p.f2.f1.length ≤ 6 ∧ (∀ t ∈ p.f2.f1, TN t) ∧ TN p.f3 ∧ TN p.f4 ∧ EB 7 p.f5
theorem part_made (p : S86) (h : PB p) : ∃ q : Pt, PShape q ∧ ∀ k, 2000 ≤ k → madeF k p = some (PFields q) := by
  obtain ⟨fo, op, ⟨pr, l⟩, x, y, e⟩ := p
  obtain ⟨hl, hn, hx, hy, he⟩ := h
  simp only at hl hn hx hy he
  obtain ⟨hf, ef⟩ := md_is fo 6 (by decide) (by decide)
  have hargs := argsOf_ok hn
  have hal := argsOf_len l
  by_cases h3 : md fo 6 = 3
  · refine ⟨⟨1, ⟨bytesL (predS pr), argsOf l⟩, 0, ⟨0, ⟨#[]⟩, 0⟩, ⟨0, ⟨#[]⟩, 0⟩, ⟨#[]⟩, ⟨⟨0, ⟨#[]⟩, 0⟩, 0, []⟩⟩, .inl ⟨.inr rfl, ⟨pr, rfl⟩, by simp only; omega, hargs⟩, fun k hk => ?_⟩
    unfold madeF ergolaw13_P_Part.f
    rw [ef, h3, if_pos (by rfl), A_is pr l (by omega) k (by omega)]
    rfl
  · by_cases h4 : md fo 6 = 4
    · obtain ⟨ho, eo⟩ := md_is op 6 (by decide) (by decide)
      have tx := t43_ok hx
      have ty := t43_ok hy
      refine ⟨⟨2, ⟨⟨#[]⟩, []⟩, (md op 6 : Int), t43 x, t43 y, ⟨#[]⟩, ⟨⟨0, ⟨#[]⟩, 0⟩, 0, []⟩⟩, .inr (.inl ⟨rfl, ⟨op, rfl⟩, tx, ty⟩), fun k hk => ?_⟩
      unfold madeF ergolaw13_P_Part.f
      rw [ef, h4, if_neg (by decide), if_pos (by rfl), eo]
      rfl
    · by_cases h5 : md fo 6 = 5
      · obtain ⟨z, hz, gz⟩ := expr_made 7 e he
        obtain ⟨_, lv⟩ := termV_var x.f1 x.f2
        refine ⟨⟨3, ⟨⟨#[]⟩, []⟩, 0, ⟨0, ⟨#[]⟩, 0⟩, ⟨0, ⟨#[]⟩, 0⟩, (termV 0 x.f1 x.f2).2.1, z⟩, .inr (.inr ⟨rfl, lv, hz⟩), fun k hk => ?_⟩
        unfold madeF ergolaw13_P_Part.f
        rw [ef, h5, if_neg (by decide), if_neg (by decide), if_pos (by rfl), gz k (by omega)]
        rfl
      · refine ⟨⟨0, ⟨bytesL (predS pr), argsOf l⟩, 0, ⟨0, ⟨#[]⟩, 0⟩, ⟨0, ⟨#[]⟩, 0⟩, ⟨#[]⟩, ⟨⟨0, ⟨#[]⟩, 0⟩, 0, []⟩⟩, .inl ⟨.inl rfl, ⟨pr, rfl⟩, by simp only; omega, hargs⟩, fun k hk => ?_⟩
        unfold madeF ergolaw13_P_Part.f
        rw [ef, if_neg (by omega), if_neg (by omega), if_neg (by omega), A_is pr l (by omega) k (by omega)]
        rfl
def partN (p : Pt) : List ByteArray := (namesF 2000 p).getD []
theorem part_names (p : Pt) (h : PShape p) : (partN p).length ≤ 200 ∧ (∀ k, 2000 ≤ k → namesF k p = some (partN p) ∧ varsF k p = some (partN p)) ∧
    (p.f0 = 3 → ∃ ms : List ByteArray, ms.length ≤ 200 ∧ ∀ k, 2000 ≤ k → innerF k p.f6 = some ms ∧ exprF k p.f6 = some ms) := by
  have key : ∃ ns : List ByteArray, ns.length ≤ 200 ∧ ∀ k, 2000 ≤ k → namesF k p = some ns ∧ varsF k p = some ns := by
    rcases h with ⟨h0, _, hl, _⟩ | ⟨h0, _, _, _⟩ | ⟨h0, _, hx⟩
    · refine ⟨namesL p.f1.f1, by have := namesL_len p.f1.f1; omega, fun k hk => ?_⟩
      obtain ⟨e1, e2⟩ := names_is p.f1.f1 (by omega) k (by omega)
      unfold namesF varsF ergolaw13_Names.f syntax_Part_Vars.f syntax_Atom_Vars.f
      rw [if_neg (by omega), if_neg (by omega), if_neg (by omega), if_neg (by omega), e1, e2]
      exact ⟨rfl, rfl⟩
    · refine ⟨namesL [p.f3, p.f4], by have := namesL_len [p.f3, p.f4]; simp at this; omega, fun k hk => ?_⟩
      obtain ⟨e1, e2⟩ := names_is [p.f3, p.f4] (by simp) k (by simp; omega)
      unfold namesF varsF ergolaw13_Names.f syntax_Part_Vars.f
      rw [if_pos h0, if_pos h0]
      constructor
      · rw [show [(⟨p.f3.f0, p.f3.f1, p.f3.f2⟩ : Tm), (⟨p.f4.f0, p.f4.f1, p.f4.f2⟩ : Tm)] = [p.f3, p.f4] from rfl, e1]
        rfl
      · rw [show [(⟨p.f3.f0, p.f3.f1, p.f3.f2⟩ : Tm), (⟨p.f4.f0, p.f4.f1, p.f4.f2⟩ : Tm)] = [p.f3, p.f4] from rfl, e2]
        rfl
    · obtain ⟨ms, hm, hg⟩ := expr_names 7 (by decide) p.f6 hx
      have hm2 : ms.length ≤ 128 := hm
      refine ⟨[p.f5] ++ ms, by simp; omega, fun k hk => ?_⟩
      obtain ⟨e1, e2⟩ := hg k (by omega)
      unfold namesF varsF ergolaw13_Names.f syntax_Part_Vars.f
      rw [if_neg (by omega), if_pos h0, if_neg (by omega), if_pos h0, e1, e2]
      simp only [Option.bind_some]
      rw [if_pos (by simp; omega)]
      exact ⟨rfl, rfl⟩
  obtain ⟨ns, h1, h2⟩ := key
  have e : partN p = ns := by unfold partN; rw [(h2 2000 (Nat.le_refl _)).1]; rfl
  rw [e]
  refine ⟨h1, h2, fun h3 => ?_⟩
  rcases h with ⟨h0, _⟩ | ⟨h0, _⟩ | ⟨_, _, hx⟩
  · omega
  · omega
  · obtain ⟨ms, hm, hg⟩ := expr_names 7 (by decide) p.f6 hx
    have hm2 : ms.length ≤ 128 := hm
    exact ⟨ms, by omega, fun k hk => hg k (by omega)⟩
def memB (l : List ByteArray) (v : ByteArray) : Bool := l.any fun u => u.toList == v.toList
def ddL (want : List ByteArray) : List ByteArray → List ByteArray
  | [] => want
  | v :: vs => ddL (if memB want v = true then want else want ++ [v]) vs
theorem rdOf_at (l : List ByteArray) (i : Nat) (h : i < l.length) : rdOf ByteArray.empty l (i : Int) = l[i] := by
  unfold rdOf
  rw [Int.toNat_natCast, List.getD_eq_getElem?_getD, List.getElem?_eq_getElem h]
  rfl
theorem index_l0 (l : List ByteArray) (v : ByteArray) (hl : l.length ≤ 10000) : ∀ (d i k : Nat), i + d = l.length → d < k →
    ∃ r, slices_Index_string_string.l0 k l v (l.length : Int) (i : Int) = some r ∧ decide (r ≥ 0) = memB (l.drop i) v := by
  intro d
  induction d with
  | zero =>
    intro i k hi hk
    obtain ⟨k, rfl⟩ : ∃ m, k = m + 1 := ⟨k - 1, by omega⟩
    rw [slices_Index_string_string.l0, if_neg (by omega), List.drop_eq_nil_of_le (by omega)]
    exact ⟨-1, rfl, rfl⟩
  | succ d ih =>
    intro i k hi hk
    obtain ⟨k, rfl⟩ : ∃ m, k = m + 1 := ⟨k - 1, by omega⟩
    have hlt : i < l.length := by omega
    rw [slices_Index_string_string.l0, if_pos (by omega), if_pos (by omega), if_pos (by omega), rdOf_at l i hlt, w64 i (by omega), List.drop_eq_getElem_cons hlt]
    by_cases h0 : v.toList = l[i].toList
    · rw [if_pos h0]
      refine ⟨_, rfl, ?_⟩
      unfold memB
      rw [List.any_cons, show (l[i].toList == v.toList) = true by simpa using h0.symm, Bool.true_or]
      exact decide_eq_true (by omega)
    · rw [if_neg h0]
      obtain ⟨r, h1, h2⟩ := ih (i + 1) k (by omega) (by omega)
      refine ⟨r, h1, ?_⟩
      rw [h2]
      unfold memB
      rw [List.any_cons, show (l[i].toList == v.toList) = false by simpa using fun h => h0 h.symm, Bool.false_or]
theorem contains_is (l : List ByteArray) (v : ByteArray) (hl : l.length ≤ 10000) (k : Nat) (hk : l.length < k) : slices_Contains_string_string.f k l v = some (memB l v) := by
  obtain ⟨r, h1, h2⟩ := index_l0 l v hl l.length 0 k (by omega) hk
  unfold slices_Contains_string_string.f slices_Index_string_string.f
  rw [show ((0 : Nat) : Int) = 0 from rfl] at h1
  rw [h1]
  simp only [Option.bind_some]
  rw [h2]
  rfl
theorem ddL_app (want l : List ByteArray) (v : ByteArray) : ddL want (l ++ [v]) = ddL (ddL want l) [v] := by
  induction l generalizing want with
  | nil => rfl
  | cons u us ih => exact ih _
theorem ddL_len (want l : List ByteArray) : (ddL want l).length ≤ want.length + l.length := by
  induction l generalizing want with
  | nil => exact Nat.le_refl _
  | cons v vs ih =>
    have := ih (if memB want v = true then want else want ++ [v])
    simp only [ddL, List.length_cons]
    split at this <;> rename_i h
    · rw [if_pos h]; omega
    · rw [if_neg h]; simp at this; omega
theorem rule_l1 (l : List ByteArray) (hl : l.length ≤ 5000) : ∀ (d i k : Nat) (acc : List ByteArray), i + d = l.length → acc.length + d ≤ 5000 → 5002 + d < k →
    syntax_Rule_Vars.l1 k acc l (l.length : Int) (i : Int) = some (ddL acc (l.drop i)) := by
  intro d
  induction d with
  | zero =>
    intro i k acc hi ha hk
    obtain ⟨k, rfl⟩ : ∃ m, k = m + 1 := ⟨k - 1, by omega⟩
    rw [syntax_Rule_Vars.l1, if_neg (by omega), List.drop_eq_nil_of_le (by omega)]
    rfl
  | succ d ih =>
    intro i k acc hi ha hk
    obtain ⟨k, rfl⟩ : ∃ m, k = m + 1 := ⟨k - 1, by omega⟩
    have hlt : i < l.length := by omega
    rw [syntax_Rule_Vars.l1, if_pos (by omega), if_pos (by omega), if_pos (by omega), rdOf_at l i hlt, w64 i (by omega), List.drop_eq_getElem_cons hlt, contains_is acc _ (by omega) k (by omega)]
    simp only [Option.bind_some, ddL]
    by_cases h : memB acc l[i] = true
    · rw [if_pos h, if_pos h, ih (i + 1) k acc (by omega) (by omega) (by omega)]
    · rw [if_neg h, if_neg h, if_pos (by omega), ih (i + 1) k (acc ++ [l[i]]) (by omega) (by simp; omega) (by omega)]
theorem rd71 (l : List Pt) (i : Nat) (h : i < l.length) : rd_T59 l (i : Int) = l[i] := by
  unfold rd_T59
  rw [Int.toNat_natCast, List.getD_eq_getElem?_getD, List.getElem?_eq_getElem h]
  rfl
def partsN (ps : List Pt) : List ByteArray := ps.flatMap partN
theorem partsN_len (ps : List Pt) (h : ∀ p ∈ ps, PShape p) : (partsN ps).length ≤ 200 * ps.length := by
  induction ps with
  | nil => simp [partsN]
  | cons p ps ih =>
    have h1 := (part_names p (h p List.mem_cons_self)).1
    have h2 := ih fun q hq => h q (List.mem_cons_of_mem _ hq)
    unfold partsN at h2 ⊢
    rw [List.flatMap_cons, List.length_append, List.length_cons]
    omega
theorem rule_l0 (ps : List Pt) (hl : ps.length ≤ 10) (h : ∀ p ∈ ps, PShape p) : ∀ (d i k : Nat) (acc : List ByteArray), i + d = ps.length → acc.length + 200 * d ≤ 4000 → 10100 + d < k →
    syntax_Rule_Vars.l0 k acc ps (ps.length : Int) (i : Int) = some (ddL [] (acc ++ partsN (ps.drop i))) := by
  intro d
  induction d with
  | zero =>
    intro i k acc hi ha hk
    obtain ⟨k, rfl⟩ : ∃ m, k = m + 1 := ⟨k - 1, by omega⟩
    have := rule_l1 acc (by omega) acc.length 0 k [] (by omega) (by simp; omega) (by omega)
    rw [syntax_Rule_Vars.l0, if_neg (by omega), List.drop_eq_nil_of_le (by omega)]
    rw [show ((0 : Nat) : Int) = 0 from rfl] at this
    rw [this]
    simp [partsN]
  | succ d ih =>
    intro i k acc hi ha hk
    obtain ⟨k, rfl⟩ : ∃ m, k = m + 1 := ⟨k - 1, by omega⟩
    have hlt : i < ps.length := by omega
    have hp := part_names ps[i] (h _ (List.getElem_mem hlt))
    have e1 := (hp.2.1 k (by omega)).2
    unfold varsF at e1
    rw [syntax_Rule_Vars.l0, if_pos (by omega), if_pos (by omega), if_pos (by omega), rd71 ps i hlt, w64 i (by omega), List.drop_eq_getElem_cons hlt, e1]
    simp only [Option.bind_some]
    rw [if_pos (by omega), ih (i + 1) k (acc ++ partN ps[i]) (by omega) (by simp; omega) (by omega)]
    simp [partsN, -List.getElem_cons_drop]
theorem rule_vars_is (pr : ByteArray) (args : List Tm) (g : Int) (ps : List Pt) (at_ : Int) (ha : args.length ≤ 100) (hl : ps.length ≤ 8) (h : ∀ p ∈ ps, PShape p) :
    syntax_Rule_Vars.f 20000 pr args g ps at_ = some (ddL [] (namesL args ++ partsN ps)) := by
  unfold syntax_Rule_Vars.f syntax_Atom_Vars.f
  rw [(names_is args (by omega) 20000 (by omega)).2]
  simp only [Option.bind_some]
  have := namesL_len args
  have h2 := rule_l0 ps (by omega) h ps.length 0 20000 (namesL args) (by omega) (by omega) (by omega)
  rw [show ((0 : Nat) : Int) = 0 from rfl] at h2
  rw [h2]
  rfl
theorem same_l0 (l : List ByteArray) (hl : l.length ≤ 10000) : ∀ (d i k : Nat), i + d = l.length → d < k → ergolaw13_same.l0 k l l (l.length : Int) (i : Int) = some true := by
  intro d
  induction d with
  | zero =>
    intro i k hi hk
    obtain ⟨k, rfl⟩ : ∃ m, k = m + 1 := ⟨k - 1, by omega⟩
    rw [ergolaw13_same.l0, if_neg (by omega)]
  | succ d ih =>
    intro i k hi hk
    obtain ⟨k, rfl⟩ : ∃ m, k = m + 1 := ⟨k - 1, by omega⟩
    rw [ergolaw13_same.l0, if_pos (by omega), if_pos (by omega), if_pos (by omega), if_pos (by omega), if_pos rfl, w64 i (by omega)]
    exact ih (i + 1) k (by omega) (by omega)
theorem same_is (l : List ByteArray) (hl : l.length ≤ 10000) : ergolaw13_same.f 20000 l l = some true := by
  unfold ergolaw13_same.f
  rw [if_pos rfl]
  exact same_l0 l hl l.length 0 20000 (by omega) (by omega)
end Go.Proofs.YtdbpboipiceifaaDoorPSP
