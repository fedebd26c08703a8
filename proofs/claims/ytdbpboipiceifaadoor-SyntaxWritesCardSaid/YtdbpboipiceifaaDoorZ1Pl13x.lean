import Derived.Test.YtdbpboipiceifaaDoorZ1Pl13e
import Derived.Test.YtdbpboipiceifaaDoorZ1PSPx13
import Derived.Test.YtdbpboipiceifaaDoorZ1PSPx9
set_option linter.unusedVariables false
set_option linter.unusedSimpArgs false
namespace Go.Proofs.YtdbpboipiceifaaDoorPSP
open Go.RowKit Go.Extern.Stop Go.Stop Go.Extern Go.Proofs.YtdbpboipiceifaaDoorW.PrintWords Go.Proofs.YtdbpboipiceifaaDoor
def lev (o : Int) : Int := if o = 0 then 0 else if o = 1 then 0 else 1
def gen (o : Int) : Bool := if o = 0 then true else o == 1
theorem lev_gen (o : Int) : lev o = if gen o = true then 0 else 1 := by
  unfold lev gen
  by_cases h : o = 0
  · simp [h]
  · by_cases h1 : o = 1 <;> simp [h, h1]
theorem level_is (o : Int) : syntax_level.f o = some (lev o) := by
  unfold syntax_level.f lev
  split
  · rfl
  · split <;> rfl
def br (c : Bool) (s : List UInt8) : List UInt8 := if c = true then [40] ++ s ++ [41] else s
theorem br_len (c : Bool) (s : List UInt8) : (br c s).length ≤ s.length + 2 := by cases c <;> simp [br]
def sgn (o : Int) : List UInt8 := arithL.getD o.toNat []
theorem sign_is {o : Int} (h0 : 0 ≤ o) (h1 : o ≤ 4) : arith_Op_Sign.f o = some (bytesL (sgn o)) ∧ (sgn o).length = 1 := by
  unfold arith_Op_Sign.f sgn
  rw [if_pos ⟨h0, h1⟩]
  refine ⟨rfl, ?_⟩
  have hc : o = 0 ∨ o = 1 ∨ o = 2 ∨ o = 3 ∨ o = 4 := by omega
  rcases hc with rfl | rfl | rfl | rfl | rfl <;> rfl
theorem bsize (l : List UInt8) : (bytesL l).size = l.length := rfl
theorem rd69_0 (a : S57) (l : List S57) : rd_T57 (a :: l) 0 = a := rfl
theorem rd69_1 (a b : S57) (l : List S57) : rd_T57 (a :: b :: l) 1 = b := rfl
theorem a40 (t : List UInt8) : (⟨#[40]⟩ : ByteArray) ++ bytesL t = bytesL ([40] ++ t) := bytesL_append [40] t
theorem a41 (t : List UInt8) : bytesL t ++ (⟨#[41]⟩ : ByteArray) = bytesL (t ++ [41]) := bytesL_append t [41]
theorem a32 (t : List UInt8) : bytesL t ++ (⟨#[32]⟩ : ByteArray) = bytesL (t ++ [32]) := bytesL_append t [32]
def lead (i : Int) (o : Int) : List UInt8 := if i = 1 then [32] ++ sgn o ++ [32] else []
theorem j3_is (k : Nat) (x t : List UInt8) (m : Bool) (i : Int) (kids : List S57) (n : Int) (c : Bool) (p0 : Int) (p1 : ByteArray) (p2 o : Int) (q : List S57) (hi : i = 0 ∨ i = 1) (h0 : 0 ≤ o) (h1 : o ≤ 4) (hx : x.length ≤ 1000000) (ht : t.length ≤ 1000000) :
    ergolaw13_expr.j3 (k + 1) (bytesL x) m i (bytesL t) kids n i c p0 p1 p2 o q = ergolaw13_expr.l0 k (bytesL (x ++ lead i o ++ br c t)) m kids n (wrap64 (i + 1)) p0 p1 p2 o q := by
  obtain ⟨hs, hsl⟩ := sign_is h0 h1
  rw [ergolaw13_expr.j3]
  cases c with
  | true =>
    rw [if_pos rfl, if_pos (by rw [bsize]; omega), a40, if_pos (by rw [bsize]; simp; omega), a41]
    rcases hi with rfl | rfl
    · rw [if_neg (by decide), if_pos (by rw [bsize, bsize]; simp; omega), bytesL_append]
      simp [lead, br]
    · rw [if_pos rfl, if_pos (by rw [bsize]; omega), hs]
      simp only [Option.bind_some]
      rw [a32, if_pos (by rw [bsize, bsize]; simp; omega), bytesL_append, if_pos (by rw [bsize]; simp; omega), a32, if_pos (by rw [bsize, bsize]; simp; omega), bytesL_append]
      simp [lead, br]
  | false =>
    rw [if_neg (by decide)]
    rcases hi with rfl | rfl
    · rw [if_neg (by decide), if_pos (by rw [bsize, bsize]; omega), bytesL_append]
      simp [lead, br]
    · rw [if_pos rfl, if_pos (by rw [bsize]; omega), hs]
      simp only [Option.bind_some]
      rw [a32, if_pos (by rw [bsize, bsize]; simp; omega), bytesL_append, if_pos (by rw [bsize]; simp; omega), a32, if_pos (by rw [bsize, bsize]; simp; omega), bytesL_append]
      simp [lead, br]
def brk (node : Bool) (g m : Bool) (i : Int) : Bool := node && ((g && !m) || (i == 1 && g == m))
theorem j2_is (k : Nat) (x t : ByteArray) (m g : Bool) (i : Int) (kids : List S57) (n : Int) (p0 : Int) (p1 : ByteArray) (p2 o : Int) (q : List S57) (c0 : Int) (c1 : ByteArray) (c2 c3 : Int) (c4 : List S57) :
    ergolaw13_expr.j2 (k + 1) x m i t g kids n i p0 p1 p2 o q c0 c1 c2 c3 c4 = ergolaw13_expr.j3 k x m i t kids n i (brk (decide (c4.length = 2)) g m i) p0 p1 p2 o q := by
  rw [ergolaw13_expr.j2]
  by_cases h : c4.length = 2
  · rw [if_pos (by omega), decide_eq_true h]
    by_cases hi : i = 1
    · cases g <;> cases m <;> simp [brk, hi]
    · have hi2 : (i == 1) = false := beq_eq_false_iff_ne.2 hi
      cases g <;> cases m <;> simp [brk, hi, hi2]
  · rw [if_neg (by omega), decide_eq_false h]
    simp [brk]
theorem kid_is (k : Nat) (x s : List UInt8) (m : Bool) (i : Int) (y : S57) (kids : List S57) (n : Int) (p0 : Int) (p1 : ByteArray) (p2 o : Int) (q : List S57) (hi : i = 0 ∨ i = 1) (hn : i < n) (hl : i < (kids.length : Int)) (hy : rd_T57 kids i = y)
    (h0 : 0 ≤ o) (h1 : o ≤ 4) (hx : x.length ≤ 1000000) (hs : s.length ≤ 1000000) (hf : ergolaw13_expr.f (k + 2) y.f0.f0 y.f0.f1 y.f0.f2 y.f1 y.f2 = some (bytesL s)) :
    ergolaw13_expr.l0 (k + 3) (bytesL x) m kids n i p0 p1 p2 o q = ergolaw13_expr.l0 k (bytesL (x ++ lead i o ++ br (brk (decide (y.f2.length = 2)) (gen y.f1) m i) s)) m kids n (wrap64 (i + 1)) p0 p1 p2 o q := by
  rw [ergolaw13_expr.l0, if_pos hn, if_pos (by omega), if_pos hl, hy, hf]
  simp only [Option.bind_some]
  by_cases h : y.f1 = 0
  · rw [if_pos h, j2_is, j3_is k x s m i kids n _ p0 p1 p2 o q hi h0 h1 hx hs, show gen y.f1 = true by unfold gen; rw [if_pos h]]
  · rw [if_neg h, j2_is, j3_is k x s m i kids n _ p0 p1 p2 o q hi h0 h1 hx hs, show gen y.f1 = (y.f1 == 1) by unfold gen; rw [if_neg h]]
theorem brk_0 (node g m : Bool) (la l : Int) (h1 : la = if g = true then 0 else 1) (h2 : l = if m = true then 0 else 1) : brk node g m 0 = (node && decide (la < l)) := by
  subst h1
  subst h2
  cases node <;> cases g <;> cases m <;> rfl
theorem brk_1 (node g m : Bool) (la l : Int) (h1 : la = if g = true then 0 else 1) (h2 : l = if m = true then 0 else 1) : brk node g m 1 = (node && decide (la < wrap64 (l + 1))) := by
  have e0 : wrap64 1 = 1 := by unfold wrap64; decide
  have e1 : wrap64 2 = 2 := by unfold wrap64; decide
  subst h1
  subst h2
  cases node <;> cases g <;> cases m <;> simp [brk, e0, e1]
def inOut (x : S57) (s : List UInt8) (least : Int) : List UInt8 := br (decide (x.f2.length = 2) && decide (lev x.f1 < least)) s
theorem inOut_len (x : S57) (s : List UInt8) (least : Int) : (inOut x s least).length ≤ s.length + 2 := br_len _ _
theorem expr_written : ∀ (d : Nat), d ≤ 10 → ∀ (x : S57), XOk d x → ∃ s : List UInt8, s.length + 8 ≤ 32 * 2 ^ d ∧ ∀ k, 50 + 12 * d ≤ k →
    ergolaw13_expr.f k x.f0.f0 x.f0.f1 x.f0.f2 x.f1 x.f2 = some (bytesL s) ∧ ∀ least, syntax_Expr_in.f k x.f0.f0 x.f0.f1 x.f0.f2 x.f1 x.f2 least = some (bytesL (inOut x s least)) := by
  intro d
  induction d with
  | zero => intro _ x h; exact h.elim
  | succ d ih =>
    intro hd x h
    have hb : 2 ^ d ≤ 2 ^ 9 := Nat.pow_le_pow_right (by decide) (by omega)
    have hb2 : 1 ≤ 2 ^ d := Nat.one_le_two_pow
    have hp : 32 * 2 ^ (d + 1) = 2 * (32 * 2 ^ d) := by rw [Nat.pow_succ]; omega
    rcases h with ⟨h, ht⟩ | ⟨a, b, h, h0, h1, ha, hb'⟩
    · obtain ⟨hs, hk⟩ := termS_is ht
      rw [size_L] at hs
      refine ⟨toL (termS x.f0), by omega, fun k hkk => ?_⟩
      obtain ⟨k, rfl⟩ : ∃ m, k = m + 1 := ⟨k - 1, by omega⟩
      rw [h]
      constructor
      · rw [ergolaw13_expr.f, if_neg (by decide), text_same, hk k (by omega)]
        rfl
      · intro least
        rw [syntax_Expr_in.f, if_neg (by decide), hk k (by omega)]
        unfold inOut
        rw [h]
        rfl
    · obtain ⟨sa, la, ka⟩ := ih (by omega) a ha
      obtain ⟨sb, lb, kb⟩ := ih (by omega) b hb'
      obtain ⟨hs, hsl⟩ := sign_is h0 h1
      have l1 := inOut_len a sa (lev x.f1)
      have l2 := inOut_len b sb (wrap64 (lev x.f1 + 1))
      refine ⟨inOut a sa (lev x.f1) ++ [32] ++ sgn x.f1 ++ [32] ++ inOut b sb (wrap64 (lev x.f1 + 1)), by simp; omega, fun k hkk => ?_⟩
      obtain ⟨k, rfl⟩ : ∃ m, k = m + 9 := ⟨k - 9, by omega⟩
      rw [h]
      constructor
      · have hgen : ergolaw13_expr.f (k + 9) x.f0.f0 x.f0.f1 x.f0.f2 x.f1 [a, b] = ergolaw13_expr.j0 (k + 8) (⟨#[]⟩ : ByteArray) (gen x.f1) x.f0.f0 x.f0.f1 x.f0.f2 x.f1 [a, b] := by
          rw [ergolaw13_expr.f, if_pos (by rfl)]
          unfold gen
          split <;> rfl
        rw [hgen, ergolaw13_expr.j0]
        have e0 : wrap64 (0 + 1) = 1 := by unfold wrap64; decide
        have e1 : wrap64 (1 + 1) = 2 := by unfold wrap64; decide
        have s0 := kid_is (k + 4) [] sa (gen x.f1) 0 a [a, b] 2 x.f0.f0 x.f0.f1 x.f0.f2 x.f1 [a, b] (.inl rfl) (by decide) (by simp) (rd69_0 a [b]) h0 h1 (by simp) (by omega) (ka (k + 6) (by omega)).1
        have s1 := kid_is (k + 1) ([] ++ lead 0 x.f1 ++ br (brk (decide (a.f2.length = 2)) (gen a.f1) (gen x.f1) 0) sa) sb (gen x.f1) 1 b [a, b] 2 x.f0.f0 x.f0.f1 x.f0.f2 x.f1 [a, b] (.inr rfl) (by decide) (by simp) (rd69_1 a b []) h0 h1
          (by have := br_len (brk (decide (a.f2.length = 2)) (gen a.f1) (gen x.f1) 0) sa; simp [lead]; omega) (by omega) (kb (k + 3) (by omega)).1
        refine s0.trans ?_
        rw [e0]
        refine s1.trans ?_
        rw [e1, ergolaw13_expr.l0, if_neg (by decide), brk_0 _ _ _ (lev a.f1) (lev x.f1) (lev_gen _) (lev_gen _), brk_1 _ _ _ (lev b.f1) (lev x.f1) (lev_gen _) (lev_gen _)]
        simp [inOut, lead]
      · intro least
        have q1 := (ka (k + 8) (by omega)).2 (lev x.f1)
        have q2 := (kb (k + 8) (by omega)).2 (wrap64 (lev x.f1 + 1))
        have hlen : (([a, b] : List S57).length : Int) = 2 := rfl
        rw [syntax_Expr_in.f, if_pos hlen, level_is]
        simp only [Option.bind_some]
        rw [if_pos (show (0 : Int) < (([a, b] : List S57).length : Int) by simp), rd69_0, q1]
        simp only [Option.bind_some]
        rw [if_pos (by rw [bsize]; omega), hs]
        simp only [Option.bind_some]
        rw [a32, if_pos (by rw [bsize, bsize]; simp; omega), bytesL_append, if_pos (by rw [bsize]; simp; omega), if_pos (show (1 : Int) < (([a, b] : List S57).length : Int) by simp), rd69_1, q2]
        simp only [Option.bind_some]
        rw [a32, if_pos (by rw [bsize, bsize]; simp; omega), bytesL_append]
        by_cases hc : lev x.f1 < least
        · rw [if_pos hc, if_pos (by rw [bsize]; simp; omega), a40, if_pos (by rw [bsize]; simp; omega), a41]
          simp [inOut, br, h, hc]
        · rw [if_neg hc]
          simp [inOut, br, h, hc]
end Go.Proofs.YtdbpboipiceifaaDoorPSP
