import Derived.Test.YtbcmkkphbkpapaaDoorZ1Pl13x
import Derived.Test.YtbcmkkphbkpapaaDoorZ1PSPx4
import Derived.Test.YtbcmkkphbkpapaaDoorZ1PSPx6
import Derived.Test.YtbcmkkphbkpapaaDoorZ1PSPx8
set_option linter.unusedVariables false
set_option linter.unusedSimpArgs false
namespace Go.Proofs.YtbcmkkphbkpapaaDoorPSP
open Go.RowKit Go.Extern.Stop Go.Stop Go.Extern Go.Proofs.YtbcmkkphbkpapaaDoorW.PrintWords Go.Proofs.YtbcmkkphbkpapaaDoor
def TN (t : S43) : Prop := -9223372036854775808 ≤ t.f2 ∧ t.f2 ≤ 9223372036854775807
def t43 (t : S43) : S55 := ⟨(termV t.f0 t.f1 t.f2).1, (termV t.f0 t.f1 t.f2).2.1, (termV t.f0 t.f1 t.f2).2.2⟩
theorem t43_ok {t : S43} (h : TN t) : TOk (t43 t) := term_ok _ _ _ h.1 h.2
def predL : List (List UInt8) := [[112], [113], [114], [101, 100, 103, 101], [112, 97, 116, 104], [115]]
def predS (n : Int) : List UInt8 := predL.getD (md n 6) []
theorem pred_is (n : Int) : ergolaw13_Pred.f n = some (bytesL (predS n)) ∧ (predS n).length ≤ 100 := by
  obtain ⟨h, e⟩ := md_is n 6 (by decide) (by decide)
  unfold ergolaw13_Pred.f predS
  rw [e]
  generalize md n 6 = i at h
  have hc : i = 0 ∨ i = 1 ∨ i = 2 ∨ i = 3 ∨ i = 4 ∨ i = 5 := by omega
  rcases hc with rfl | rfl | rfl | rfl | rfl | rfl <;> exact ⟨rfl, by decide⟩
def argsOf (l : List S43) : List S55 := if l.length = 0 then [⟨0, bytesL [88], 0⟩] else l.map t43
theorem argsOf_ok {l : List S43} (h : ∀ t ∈ l, TN t) : ∀ t ∈ argsOf l, TOk t := by
  unfold argsOf
  split
  · intro t ht
    rw [List.mem_singleton] at ht
    subst ht
    exact .inr (.inl ⟨rfl, 0, by decide, rfl⟩)
  · intro t ht
    obtain ⟨u, hu, rfl⟩ := List.mem_map.1 ht
    exact t43_ok (h u hu)
theorem argsOf_len (l : List S43) : (argsOf l).length ≤ l.length + 1 := by
  unfold argsOf
  split <;> simp
theorem rd43 (l : List S43) (i : Nat) (h : i < l.length) : rd_T43 l (i : Int) = l[i] := by
  unfold rd_T43
  rw [Int.toNat_natCast, List.getD_eq_getElem?_getD, List.getElem?_eq_getElem h]
  rfl
theorem A_l0 (l : List S43) (hl : l.length ≤ 100) (p : ByteArray) : ∀ (d i k : Nat), i + d = l.length → d < k → ergolaw13_A_Atom.l0 k l (l.length : Int) (i : Int) p ((l.take i).map t43) = some (p, argsOf l) := by
  intro d
  induction d with
  | zero =>
    intro i k hi hk
    obtain ⟨k, rfl⟩ : ∃ m, k = m + 1 := ⟨k - 1, by omega⟩
    rw [ergolaw13_A_Atom.l0, if_neg (by omega), List.take_of_length_le (by omega)]
    unfold argsOf
    by_cases h0 : l.length = 0
    · rw [if_pos (by simpa using h0), if_pos h0]
    · rw [if_neg (by simpa using h0), if_neg h0]
  | succ d ih =>
    intro i k hi hk
    obtain ⟨k, rfl⟩ : ∃ m, k = m + 1 := ⟨k - 1, by omega⟩
    have hlt : i < l.length := by omega
    rw [ergolaw13_A_Atom.l0, if_pos (by omega), if_pos (by omega), if_pos (by omega), rd43 l i hlt, w64 i (by omega)]
    unfold ergolaw13_T_Term.f
    simp only [Option.bind_some]
    rw [if_pos (by simp; omega)]
    have e : (l.take i).map t43 ++ [t43 l[i]] = (l.take (i + 1)).map t43 := by
      rw [List.take_add_one, List.getElem?_eq_getElem hlt, List.map_append]
      rfl
    have := ih (i + 1) k (by omega) (by omega)
    rw [← e] at this
    exact this
theorem A_is (n : Int) (l : List S43) (hl : l.length ≤ 100) : ∀ k, 101 ≤ k → ergolaw13_A_Atom.f k n l = some (bytesL (predS n), argsOf l) := by
  intro k hk
  unfold ergolaw13_A_Atom.f
  rw [(pred_is n).1]
  simp only [Option.bind_some]
  exact A_l0 l hl _ l.length 0 k (by omega) (by omega)
theorem atomL_len (p : List UInt8) (hp : p.length ≤ 100) (l : List S55) (hl : l.length ≤ 1000) (h : ∀ t ∈ l, TOk t) : (atomL p l).length ≤ 30000 := by
  unfold atomL
  have := argsL_len l h true
  simp
  omega
def colS (o : Int) : List UInt8 := columnL.getD (md o 6) []
theorem col_is (o : Int) : column_Op_Sign.f (md o 6 : Int) = some (bytesL (colS o)) ∧ (colS o).length ≤ 2 := by
  obtain ⟨h, _⟩ := md_is o 6 (by decide) (by decide)
  unfold column_Op_Sign.f colS
  generalize md o 6 = i at h
  have hc : i = 0 ∨ i = 1 ∨ i = 2 ∨ i = 3 ∨ i = 4 ∨ i = 5 := by omega
  rcases hc with rfl | rfl | rfl | rfl | rfl | rfl <;> exact ⟨rfl, by decide⟩
theorem tsize {t : S55} (h : TOk t) : ∃ s : List UInt8, termS t = bytesL s ∧ s.length ≤ 24 := by
  have := (termS_is h).1
  rw [size_L] at this
  exact ⟨toL (termS t), rfl, this⟩
theorem termV_var (N B : Int) : TOk ⟨(termV 0 N B).1, (termV 0 N B).2.1, (termV 0 N B).2.2⟩ ∧ (termV 0 N B).2.1.size ≤ 8 := by
  obtain ⟨hn, _⟩ := md_is N 6 (by decide) (by decide)
  have e : md 0 4 = 0 := by
    obtain ⟨_, h⟩ := md_is 0 4 (by decide) (by decide)
    have : wrap64 (Int.tmod (IntKind.u64.wrap 0) 4) = 0 := by unfold wrap64; decide
    omega
  unfold termV
  rw [e, if_neg (by decide), if_neg (by decide)]
  generalize md N 6 = i at hn
  refine ⟨.inr (.inl ⟨rfl, i, by omega, rfl⟩), ?_⟩
  have hc : i = 0 ∨ i = 1 ∨ i = 2 ∨ i = 3 ∨ i = 4 ∨ i = 5 := by omega
  rcases hc with rfl | rfl | rfl | rfl | rfl | rfl <;> decide
theorem a4 (a b c d : UInt8) (t : List UInt8) : (⟨#[a, b, c, d]⟩ : ByteArray) ++ bytesL t = bytesL ([a, b, c, d] ++ t) := bytesL_append [a, b, c, d] t
theorem b4 (a b c d : UInt8) (t : List UInt8) : bytesL t ++ (⟨#[a, b, c, d]⟩ : ByteArray) = bytesL (t ++ [a, b, c, d]) := bytesL_append t [a, b, c, d]
set_option maxHeartbeats 2000000 in
theorem part_is (fo op pr : Int) (l : List S43) (x y : S43) (e : S49) (hl : l.length ≤ 6) (hn : ∀ t ∈ l, TN t) (hx : TN x) (hy : TN y) (he : EB 7 e) :
    ∃ (r1 : Int) (r2 : ByteArray) (r3 : List S55) (r4 r5 : Int) (r6 : ByteArray) (r7 r8 : Int) (r9 : ByteArray) (r10 : Int) (r11 : ByteArray) (r12 : Int) (r13 : ByteArray) (r14 r15 : Int) (r16 : List S69) (s : ByteArray), ∀ k, 2000 ≤ k →
      ergolaw13_P_Part.f k fo op pr l x.f0 x.f1 x.f2 y.f0 y.f1 y.f2 e.f0.f0 e.f0.f1 e.f0.f2 e.f1 e.f2 = some (r1, r2, r3, r4, r5, r6, r7, r8, r9, r10, r11, r12, r13, r14, r15, r16) ∧
      syntax_Part_String.f k r1 r2 r3 r4 r5 r6 r7 r8 r9 r10 r11 r12 r13 r14 r15 r16 = some s ∧ ergolaw13_part.f k r1 r2 r3 r4 r5 r6 r7 r8 r9 r10 r11 r12 r13 r14 r15 r16 = some s := by
  obtain ⟨hf, ef⟩ := md_is fo 6 (by decide) (by decide)
  obtain ⟨hp1, hp2⟩ := pred_is pr
  have hargs := argsOf_ok hn
  have hal := argsOf_len l
  have hA := atomL_len (predS pr) hp2 (argsOf l) (by omega) hargs
  by_cases h3 : md fo 6 = 3
  · refine ⟨1, bytesL (predS pr), argsOf l, 0, 0, ⟨#[]⟩, 0, 0, ⟨#[]⟩, 0, ⟨#[]⟩, 0, ⟨#[]⟩, 0, 0, [], bytesL ([110, 111, 116, 32] ++ atomL (predS pr) (argsOf l)), fun k hk => ?_⟩
    obtain ⟨q1, q2⟩ := Atom_is hp2 (show (argsOf l).length ≤ 1000 by omega) hargs k (by omega)
    refine ⟨?_, ?_, ?_⟩
    · unfold ergolaw13_P_Part.f
      rw [ef, h3, if_pos (by rfl), A_is pr l (by omega) k (by omega)]
      rfl
    · unfold syntax_Part_String.f
      rw [if_pos rfl, q1]
      simp only [Option.bind_some]
      rw [if_pos (by rw [bsize]; omega), a4]
    · unfold ergolaw13_part.f
      rw [if_pos rfl, q2]
      simp only [Option.bind_some]
      rw [if_pos (by rw [bsize]; omega), a4]
  · by_cases h4 : md fo 6 = 4
    · obtain ⟨c1, c2⟩ := col_is op
      obtain ⟨ho, eo⟩ := md_is op 6 (by decide) (by decide)
      have tx := t43_ok hx
      have ty := t43_ok hy
      obtain ⟨sx, ex, lx⟩ := tsize tx
      obtain ⟨sy, ey, ly⟩ := tsize ty
      refine ⟨2, ⟨#[]⟩, [], (md op 6 : Int), (t43 x).f0, (t43 x).f1, (t43 x).f2, (t43 y).f0, (t43 y).f1, (t43 y).f2, ⟨#[]⟩, 0, ⟨#[]⟩, 0, 0, [], bytesL (sx ++ [32] ++ colS op ++ [32] ++ sy), fun k hk => ?_⟩
      have gx := (termS_is tx).2 k (by omega)
      have gy := (termS_is ty).2 k (by omega)
      rw [ex] at gx
      rw [ey] at gy
      refine ⟨?_, ?_, ?_⟩
      · unfold ergolaw13_P_Part.f
        rw [ef, h4, if_neg (by decide), if_pos (by rfl), eo]
        rfl
      · unfold syntax_Part_String.f
        rw [if_neg (by decide), if_pos rfl, gx]
        simp only [Option.bind_some]
        rw [if_pos (by rw [bsize]; omega), c1]
        simp only [Option.bind_some]
        rw [a32, if_pos (by rw [bsize, bsize]; simp; omega), bytesL_append, if_pos (by rw [bsize]; simp; omega), gy]
        simp only [Option.bind_some]
        rw [a32, if_pos (by rw [bsize, bsize]; simp; omega), bytesL_append]
      · unfold ergolaw13_part.f
        rw [if_neg (by decide), if_pos rfl, text_same, gx]
        simp only [Option.bind_some]
        rw [if_pos (by rw [bsize]; omega), c1]
        simp only [Option.bind_some]
        rw [a32, if_pos (by rw [bsize, bsize]; simp; omega), bytesL_append, if_pos (by rw [bsize]; simp; omega), text_same, gy]
        simp only [Option.bind_some]
        rw [a32, if_pos (by rw [bsize, bsize]; simp; omega), bytesL_append]
    · by_cases h5 : md fo 6 = 5
      · obtain ⟨z, hz, gz⟩ := expr_made 7 e he
        obtain ⟨s, ls, gs⟩ := expr_written 7 (by decide) z hz
        obtain ⟨_, lv⟩ := termV_var x.f1 x.f2
        obtain ⟨v, hv⟩ : ∃ v : List UInt8, (termV 0 x.f1 x.f2).2.1 = bytesL v := ⟨_, (bytesL_toL _).symm⟩
        have lv2 : v.length ≤ 8 := by rw [hv] at lv; exact lv
        refine ⟨3, ⟨#[]⟩, [], 0, 0, ⟨#[]⟩, 0, 0, ⟨#[]⟩, 0, bytesL v, z.f0.f0, z.f0.f1, z.f0.f2, z.f1, z.f2, bytesL (v ++ [32, 58, 61, 32] ++ s), fun k hk => ?_⟩
        obtain ⟨w1, w2⟩ := gs k (by omega)
        have w3 := w2 0
        have hin : inOut z s 0 = s := by
          have : decide (lev z.f1 < 0) = false := by
            refine decide_eq_false ?_
            unfold lev
            split
            · decide
            · split <;> decide
          unfold inOut
          rw [this, Bool.and_false]
          rfl
        rw [hin] at w3
        refine ⟨?_, ?_, ?_⟩
        · unfold ergolaw13_P_Part.f
          rw [ef, h5, if_neg (by decide), if_neg (by decide), if_pos (by rfl), gz k (by omega)]
          unfold ergolaw13_T_Term.f
          simp only [Option.bind_some]
          rw [hv]
        · unfold syntax_Part_String.f
          rw [if_neg (by decide), if_neg (by decide), if_pos rfl, if_pos (by rw [bsize]; omega)]
          unfold syntax_Expr_String.f
          rw [w3]
          simp only [Option.bind_some]
          rw [b4, if_pos (by rw [bsize, bsize]; simp; omega), bytesL_append]
        · unfold ergolaw13_part.f
          rw [if_neg (by decide), if_neg (by decide), if_pos rfl, if_pos (by rw [bsize]; omega), w1]
          simp only [Option.bind_some]
          rw [b4, if_pos (by rw [bsize, bsize]; simp; omega), bytesL_append]
      · refine ⟨0, bytesL (predS pr), argsOf l, 0, 0, ⟨#[]⟩, 0, 0, ⟨#[]⟩, 0, ⟨#[]⟩, 0, ⟨#[]⟩, 0, 0, [], bytesL (atomL (predS pr) (argsOf l)), fun k hk => ?_⟩
        obtain ⟨q1, q2⟩ := Atom_is hp2 (show (argsOf l).length ≤ 1000 by omega) hargs k (by omega)
        refine ⟨?_, ?_, ?_⟩
        · unfold ergolaw13_P_Part.f
          rw [ef, if_neg (by omega), if_neg (by omega), if_neg (by omega), A_is pr l (by omega) k (by omega)]
          rfl
        · unfold syntax_Part_String.f
          rw [if_neg (by decide), if_neg (by decide), if_neg (by decide), q1]
          rfl
        · unfold ergolaw13_part.f
          rw [if_neg (by decide), if_neg (by decide), if_neg (by decide), q2]
          rfl
end Go.Proofs.YtbcmkkphbkpapaaDoorPSP
