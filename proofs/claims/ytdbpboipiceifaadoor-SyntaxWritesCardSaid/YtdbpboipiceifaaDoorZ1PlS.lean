import Derived.Test.YtdbpboipiceifaaDoorZ1PlR
import Derived.Test.YtdbpboipiceifaaDoorZ1PSPx15
set_option linter.unusedVariables false
set_option linter.unusedSimpArgs false
namespace Go.Proofs.YtdbpboipiceifaaDoorPSP
open Go.RowKit Go.Extern.Stop Go.Stop Go.Extern Go.Proofs.YtdbpboipiceifaaDoorW.PrintWords Go.Proofs.YtdbpboipiceifaaDoor
abbrev strF (k : Nat) (p : Pt) := syntax_Part_String.f k p.f0 p.f1.f0 p.f1.f1 p.f2 p.f3.f0 p.f3.f1 p.f3.f2 p.f4.f0 p.f4.f1 p.f4.f2 p.f5 p.f6.f0.f0 p.f6.f0.f1 p.f6.f0.f2 p.f6.f1 p.f6.f2
abbrev wrF (k : Nat) (p : Pt) := ergolaw13_part.f k p.f0 p.f1.f0 p.f1.f1 p.f2 p.f3.f0 p.f3.f1 p.f3.f2 p.f4.f0 p.f4.f1 p.f4.f2 p.f5 p.f6.f0.f0 p.f6.f0.f1 p.f6.f0.f2 p.f6.f1 p.f6.f2
theorem inOut0 (x : Xp) (s : List UInt8) : inOut x s 0 = s := by
  have : decide (lev x.f1 < 0) = false := by
    refine decide_eq_false ?_
    unfold lev
    split
    · decide
    · split <;> decide
  unfold inOut
  rw [this, Bool.and_false]
  rfl
set_option maxHeartbeats 2000000 in
theorem part_text (p : Pt) (h : PShape p) : ∃ s : List UInt8, s.length ≤ 31000 ∧ ∀ k, 2000 ≤ k → strF k p = some (bytesL s) ∧ wrF k p = some (bytesL s) := by
  obtain ⟨f0, ⟨pb, ag⟩, f2, ⟨x0, x1, x2⟩, ⟨y0, y1, y2⟩, nm, ⟨⟨z0, z1, z2⟩, z3, z4⟩⟩ := p
  rcases h with ⟨h0, ⟨n, hn⟩, hl, ht⟩ | ⟨h0, ⟨o, ho⟩, tx, ty⟩ | ⟨h0, hv, hx⟩
  · simp only at h0 hn hl ht
    subst hn
    obtain ⟨_, hp2⟩ := pred_is n
    have hA := atomL_len (predS n) hp2 ag (by omega) ht
    rcases h0 with rfl | rfl
    · refine ⟨atomL (predS n) ag, by omega, fun k hk => ?_⟩
      obtain ⟨q1, q2⟩ := Atom_is hp2 (show ag.length ≤ 1000 by omega) ht k (by omega)
      unfold strF wrF syntax_Part_String.f ergolaw13_part.f
      simp only
      constructor
      · rw [if_neg (by decide), if_neg (by decide), if_neg (by decide), q1]
        rfl
      · rw [if_neg (by decide), if_neg (by decide), if_neg (by decide), q2]
        rfl
    · refine ⟨[110, 111, 116, 32] ++ atomL (predS n) ag, by simp; omega, fun k hk => ?_⟩
      obtain ⟨q1, q2⟩ := Atom_is hp2 (show ag.length ≤ 1000 by omega) ht k (by omega)
      unfold strF wrF syntax_Part_String.f ergolaw13_part.f
      simp only
      constructor
      · rw [if_pos trivial, q1]
        simp only [Option.bind_some]
        rw [if_pos (by rw [bsize]; omega), a4]
      · rw [if_pos trivial, q2]
        simp only [Option.bind_some]
        rw [if_pos (by rw [bsize]; omega), a4]
  · simp only at h0 ho tx ty
    subst h0
    subst ho
    obtain ⟨c1, c2⟩ := col_is o
    obtain ⟨sx, ex, lx⟩ := tsize tx
    obtain ⟨sy, ey, ly⟩ := tsize ty
    refine ⟨sx ++ [32] ++ colS o ++ [32] ++ sy, by simp; omega, fun k hk => ?_⟩
    have gx := (termS_is tx).2 k (by omega)
    have gy := (termS_is ty).2 k (by omega)
    rw [ex] at gx
    rw [ey] at gy
    simp only at gx gy
    unfold strF wrF syntax_Part_String.f ergolaw13_part.f
    simp only
    constructor
    · rw [if_neg (by decide), if_pos trivial, gx]
      simp only [Option.bind_some]
      rw [if_pos (by rw [bsize]; omega), c1]
      simp only [Option.bind_some]
      rw [a32, if_pos (by rw [bsize, bsize]; simp; omega), bytesL_append, if_pos (by rw [bsize]; simp; omega), gy]
      simp only [Option.bind_some]
      rw [a32, if_pos (by rw [bsize, bsize]; simp; omega), bytesL_append]
    · rw [if_neg (by decide), if_pos trivial, text_same, gx]
      simp only [Option.bind_some]
      rw [if_pos (by rw [bsize]; omega), c1]
      simp only [Option.bind_some]
      rw [a32, if_pos (by rw [bsize, bsize]; simp; omega), bytesL_append, if_pos (by rw [bsize]; simp; omega), text_same, gy]
      simp only [Option.bind_some]
      rw [a32, if_pos (by rw [bsize, bsize]; simp; omega), bytesL_append]
  · simp only at h0 hv hx
    subst h0
    obtain ⟨s, ls, gs⟩ := expr_written 7 (by decide) _ hx
    obtain ⟨v, hv2⟩ : ∃ v : List UInt8, nm = bytesL v := ⟨_, (bytesL_toL _).symm⟩
    subst hv2
    have lv : v.length ≤ 8 := hv
    refine ⟨v ++ [32, 58, 61, 32] ++ s, by simp; omega, fun k hk => ?_⟩
    obtain ⟨w1, w2⟩ := gs k (by omega)
    have w3 := w2 0
    rw [inOut0] at w3
    simp only at w1 w3
    unfold strF wrF syntax_Part_String.f ergolaw13_part.f
    simp only
    constructor
    · rw [if_neg (by decide), if_neg (by decide), if_pos trivial, if_pos (by rw [bsize]; omega)]
      unfold syntax_Expr_String.f
      rw [w3]
      simp only [Option.bind_some]
      rw [b4, if_pos (by rw [bsize, bsize]; simp; omega), bytesL_append]
    · rw [if_neg (by decide), if_neg (by decide), if_pos trivial, if_pos (by rw [bsize]; omega), w1]
      simp only [Option.bind_some]
      rw [b4, if_pos (by rw [bsize, bsize]; simp; omega), bytesL_append]
def partS (p : Pt) : List UInt8 := toL ((strF 2000 p).getD ⟨#[]⟩)
theorem partS_is (p : Pt) (h : PShape p) : (partS p).length ≤ 31000 ∧ ∀ k, 2000 ≤ k → strF k p = some (bytesL (partS p)) ∧ wrF k p = some (bytesL (partS p)) := by
  obtain ⟨s, h1, h2⟩ := part_text p h
  have e : partS p = s := by
    unfold partS
    rw [(h2 2000 (Nat.le_refl _)).1]
    exact toL_bytesL s
  rw [e]
  exact ⟨h1, h2⟩
theorem join_snoc (l : List (List UInt8)) (x sep : List UInt8) : Lib.join (l ++ [x]) sep = Lib.join l sep ++ (if l = [] then [] else sep) ++ x := by
  cases l with
  | nil => simp [Lib.join_nil, Lib.join_one]
  | cons a r =>
    rw [List.cons_append, Lib.join_cons, Lib.join_cons, if_neg (by simp)]
    simp [Lib.joinTail]
def wordS (g : Int) : List UInt8 := aggL.getD g.toNat []
def lastS (g : Int) (t : Tm) : List UInt8 := wordS g ++ [60] ++ toL (termS t) ++ [62]
def lastT (args : List Tm) : Tm := rd_T53 args ((args.length - 1 : Nat) : Int)
def headS (p : List UInt8) (args : List Tm) (g : Int) : List UInt8 :=
  if g = 0 then atomL p args else p ++ [40] ++ Lib.join ((args.take (args.length - 1)).map (fun t => toL (termS t)) ++ [lastS g (lastT args)]) [44] ++ [41]
def bodyS (ps : List Pt) : List UInt8 := if ps = [] then [] else [32, 58, 45, 32] ++ Lib.join (ps.map partS) [44, 32]
def ruleS (p : List UInt8) (args : List Tm) (g : Int) (ps : List Pt) : List UInt8 := headS p args g ++ bodyS ps ++ [46]
theorem joinTail_le (l : List (List UInt8)) (sep : List UInt8) (B : Nat) (h : ∀ x ∈ l, x.length ≤ B) : (Lib.joinTail sep l).length ≤ (B + sep.length) * l.length := by
  induction l with
  | nil => simp [Lib.joinTail]
  | cons a r ih =>
    have h1 := ih fun x hx => h x (List.mem_cons_of_mem _ hx)
    have h2 := h a List.mem_cons_self
    unfold Lib.joinTail at h1 ⊢
    rw [List.map_cons, List.flatten_cons, List.length_append, List.length_append, List.length_cons, Nat.mul_succ]
    omega
theorem join_le (l : List (List UInt8)) (sep : List UInt8) (B : Nat) (h : ∀ x ∈ l, x.length ≤ B) : (Lib.join l sep).length ≤ (B + sep.length) * l.length := by
  cases l with
  | nil => simp [Lib.join_nil]
  | cons a r =>
    have h1 := joinTail_le r sep B fun x hx => h x (List.mem_cons_of_mem _ hx)
    have h2 := h a List.mem_cons_self
    rw [Lib.join_cons, List.length_append, List.length_cons, Nat.mul_succ]
    omega
theorem a46 (t : List UInt8) : bytesL t ++ (⟨#[46]⟩ : ByteArray) = bytesL (t ++ [46]) := bytesL_append t [46]
theorem a60 (t : List UInt8) : bytesL t ++ (⟨#[60]⟩ : ByteArray) = bytesL (t ++ [60]) := bytesL_append t [60]
theorem a62 (t : List UInt8) : bytesL t ++ (⟨#[62]⟩ : ByteArray) = bytesL (t ++ [62]) := bytesL_append t [62]
theorem b40 (t : List UInt8) : bytesL t ++ (⟨#[40]⟩ : ByteArray) = bytesL (t ++ [40]) := bytesL_append t [40]
theorem bodyS_len (ps : List Pt) (hl : ps.length ≤ 8) (h : ∀ p ∈ ps, PShape p) : (bodyS ps).length ≤ 300000 := by
  unfold bodyS
  split
  · simp
  · have := join_le (ps.map partS) [44, 32] 31000 (fun x hx => by
      obtain ⟨q, hq, rfl⟩ := List.mem_map.1 hx
      exact (partS_is q (h q hq)).1)
    rw [List.length_map] at this
    simp only [List.length_append, List.length_cons, List.length_nil] at this ⊢
    omega
theorem rs_l1 (ps : List Pt) (hl : ps.length ≤ 8) (h : ∀ p ∈ ps, PShape p) (x : List UInt8) (hx : x.length ≤ 100000) : ∀ (d i k : Nat), i + d = ps.length → 2000 + d < k →
    syntax_Rule_String.l1 k (bytesL x) ((ps.take i).map fun p => bytesL (partS p)) ps (ps.length : Int) (i : Int) = some (bytesL (x ++ bodyS ps ++ [46])) := by
  intro d
  induction d with
  | zero =>
    intro i k hi hk
    obtain ⟨k, rfl⟩ : ∃ m, k = m + 1 := ⟨k - 1, by omega⟩
    have hb := bodyS_len ps hl h
    rw [syntax_Rule_String.l1, if_neg (by omega), List.take_of_length_le (by omega)]
    by_cases h0 : ps = []
    · subst h0
      rw [if_neg (by simp), if_pos (by rw [bsize]; omega), a46]
      simp [bodyS]
    · have hpos : 0 < ps.length := by
        cases ps with
        | nil => exact absurd rfl h0
        | cons _ _ => simp
      have e : ((ps.map fun p => bytesL (partS p)).map (·.data.toList)) = ps.map partS := by
        rw [List.map_map]
        rfl
      have hb2 : bodyS ps = [32, 58, 45, 32] ++ Lib.join (ps.map partS) [44, 32] := by unfold bodyS; rw [if_neg h0]
      rw [hb2] at hb ⊢
      rw [if_pos (by rw [List.length_map]; omega)]
      unfold strings_Join.f
      rw [e]
      have e2 : (⟨#[44, 32]⟩ : ByteArray).data.toList = [44, 32] := rfl
      rw [e2]
      generalize Lib.join (ps.map partS) [44, 32] = J at hb ⊢
      simp only [List.length_append, List.length_cons, List.length_nil] at hb
      rw [if_pos ⟨by rw [List.length_map]; omega, by omega⟩]
      simp only [Option.bind_some]
      rw [if_pos (by rw [bsize]; omega), a4, if_pos (by rw [bsize, bsize]; simp; omega), bytesL_append, if_pos (by rw [bsize]; simp; omega), a46]
  | succ d ih =>
    intro i k hi hk
    obtain ⟨k, rfl⟩ : ∃ m, k = m + 1 := ⟨k - 1, by omega⟩
    have hlt : i < ps.length := by omega
    have e1 := ((partS_is ps[i] (h _ (List.getElem_mem hlt))).2 k (by omega)).1
    unfold strF at e1
    rw [syntax_Rule_String.l1, if_pos (by omega), if_pos (by omega), if_pos (by omega), rd71 ps i hlt, w64 i (by omega), e1]
    simp only [Option.bind_some]
    rw [if_pos (by rw [List.length_map, List.length_take]; omega)]
    have e : (ps.take i).map (fun p => bytesL (partS p)) ++ [bytesL (partS ps[i])] = (ps.take (i + 1)).map (fun p => bytesL (partS p)) := by
      rw [List.take_succ_eq_append_getElem hlt, List.map_append]
      rfl
    rw [e]
    exact ih (i + 1) k (by omega) (by omega)
theorem wordS_is {g : Int} (h0 : 0 ≤ g) (h1 : g ≤ 4) : group_Agg_Word.f g = some (bytesL (wordS g)) ∧ (wordS g).length ≤ 5 := by
  unfold group_Agg_Word.f
  rw [if_pos ⟨h0, h1⟩]
  refine ⟨rfl, ?_⟩
  unfold wordS
  have hc : g = 0 ∨ g = 1 ∨ g = 2 ∨ g = 3 ∨ g = 4 := by omega
  rcases hc with rfl | rfl | rfl | rfl | rfl <;> decide
theorem lastT_ok {args : List Tm} (h : ∀ t ∈ args, TOk t) (hp : 0 < args.length) : TOk (lastT args) := by
  unfold lastT
  rw [rd55 args _ (by omega)]
  exact h _ (List.getElem_mem _)
theorem termL {t : Tm} (h : TOk t) : (toL (termS t)).length ≤ 24 := by
  have := (termS_is h).1
  rw [size_L] at this
  exact this
theorem headS_len (p : List UInt8) (hp : p.length ≤ 100) (args : List Tm) (g : Int) (h0 : 0 ≤ g) (h1 : g ≤ 4) (hn : 0 < args.length) (hl : args.length ≤ 7) (ht : ∀ t ∈ args, TOk t) : (headS p args g).length ≤ 31000 := by
  unfold headS
  split
  · have := atomL_len p hp args (by omega) ht
    omega
  · have h2 := (wordS_is h0 h1).2
    have h3 := termL (lastT_ok ht hn)
    have := join_le ((args.take (args.length - 1)).map (fun t => toL (termS t)) ++ [lastS g (lastT args)]) [44] 31 (fun x hx => by
      rcases List.mem_append.1 hx with hx | hx
      · obtain ⟨q, hq, rfl⟩ := List.mem_map.1 hx
        have := termL (ht q (List.mem_of_mem_take hq))
        omega
      · rw [List.mem_singleton] at hx
        subst hx
        unfold lastS
        simp only [List.length_append, List.length_cons, List.length_nil]
        omega)
    simp only [List.length_append, List.length_map, List.length_take, List.length_cons, List.length_nil] at this ⊢
    omega
theorem rs_j2 (ps : List Pt) (hl : ps.length ≤ 8) (h : ∀ p ∈ ps, PShape p) (x : List UInt8) (hx : x.length ≤ 100000) (k : Nat) (hk : 2010 < k) (pr : ByteArray) (args : List Tm) (g at_ : Int) :
    syntax_Rule_String.j2 k (bytesL x) pr args g ps at_ = some (bytesL (x ++ bodyS ps ++ [46])) := by
  obtain ⟨k, rfl⟩ : ∃ m, k = m + 1 := ⟨k - 1, by omega⟩
  rw [syntax_Rule_String.j2]
  exact rs_l1 ps hl h x hx ps.length 0 k (by omega) (by omega)
theorem rs_l0 (ps : List Pt) (hl : ps.length ≤ 8) (h : ∀ p ∈ ps, PShape p) (pr : List UInt8) (hpr : pr.length ≤ 100) (args : List Tm) (g : Int) (hg : g ≠ 0) (h0 : 0 ≤ g) (h1 : g ≤ 4) (n : Nat) (hn : args.length = n + 1) (hal : args.length ≤ 7) (ht : ∀ t ∈ args, TOk t) (at_ : Int) :
    ∀ (d i k : Nat), i + d = n → 2100 + d < k →
    syntax_Rule_String.l0 k (args.length : Int) (((args.take n).take i).map termS) (args.take n) ((args.take n).length : Int) (i : Int) (bytesL pr) args g ps at_ = some (bytesL (ruleS pr args g ps)) := by
  have htl : (args.take n).length = n := by rw [List.length_take]; omega
  have hw : wrap64 ((args.length : Int) - 1) = (n : Int) := by rw [hn]; unfold wrap64; omega
  have hh := headS_len pr hpr args g h0 h1 (by omega) hal ht
  have hlt : rd_T53 args (n : Int) = lastT args := by unfold lastT; rw [hn]; rfl
  intro d
  induction d with
  | zero =>
    intro i k hi hk
    obtain ⟨k, rfl⟩ : ∃ m, k = m + 1 := ⟨k - 1, by omega⟩
    obtain ⟨w1, w2⟩ := wordS_is h0 h1
    have tl := lastT_ok ht (by omega)
    have l3 := termL tl
    have e3 := (termS_is tl).2 k (by omega)
    have e4 : termS (lastT args) = bytesL (toL (termS (lastT args))) := (bytesL_toL _).symm
    rw [syntax_Rule_String.l0, if_neg (by omega), w1, List.take_of_length_le (by omega)]
    simp only [Option.bind_some]
    rw [if_pos (by rw [bsize]; omega), hw, if_pos (by omega), if_pos (by omega), hlt, e3, e4]
    simp only [Option.bind_some]
    have hlast : lastS g (lastT args) = wordS g ++ [60] ++ toL (termS (lastT args)) ++ [62] := rfl
    generalize toL (termS (lastT args)) = tl3 at *
    rw [a60, if_pos (by rw [bsize, bsize]; simp; omega), bytesL_append, if_pos (by rw [bsize]; simp; omega), a62, ← hlast, if_pos (by rw [List.length_map, htl]; omega), if_pos (by rw [bsize]; omega), b40]
    have eJ : (((args.take n).map termS ++ [bytesL (lastS g (lastT args))]).map (·.data.toList)) = (args.take (args.length - 1)).map (fun t => toL (termS t)) ++ [lastS g (lastT args)] := by
      rw [List.map_append, List.map_map, hn]
      rfl
    have hhe : headS pr args g = pr ++ [40] ++ Lib.join ((args.take (args.length - 1)).map (fun t => toL (termS t)) ++ [lastS g (lastT args)]) [44] ++ [41] := by unfold headS; rw [if_neg hg]
    unfold strings_Join.f
    rw [eJ, show (⟨#[44]⟩ : ByteArray).data.toList = [44] from rfl]
    rw [hhe] at hh
    unfold ruleS
    rw [hhe]
    generalize Lib.join ((args.take (args.length - 1)).map (fun t => toL (termS t)) ++ [lastS g (lastT args)]) [44] = J at hh ⊢
    simp only [List.length_append, List.length_cons, List.length_nil] at hh
    rw [if_pos ⟨by rw [List.length_append, List.length_map, htl]; simp; omega, by omega⟩]
    simp only [Option.bind_some]
    rw [if_pos (by rw [bsize, bsize]; simp; omega), bytesL_append, if_pos (by rw [bsize]; simp; omega), a41]
    exact rs_j2 ps hl h _ (by simp; omega) k (by omega) _ _ _ _
  | succ d ih =>
    intro i k hi hk
    obtain ⟨k, rfl⟩ : ∃ m, k = m + 1 := ⟨k - 1, by omega⟩
    have hi2 : i < (args.take n).length := by omega
    have tk : TOk (args.take n)[i] := ht _ (List.mem_of_mem_take (List.getElem_mem hi2))
    have e3 := (termS_is tk).2 k (by omega)
    rw [syntax_Rule_String.l0, if_pos (by omega), if_pos (by omega), if_pos (by omega), rd55 _ i hi2, w64 i (by omega), e3]
    simp only [Option.bind_some]
    rw [if_pos (by rw [List.length_map, List.length_take]; omega)]
    have e : ((args.take n).take i).map termS ++ [termS (args.take n)[i]] = ((args.take n).take (i + 1)).map termS := by
      rw [List.take_succ_eq_append_getElem hi2, List.map_append]
      rfl
    rw [e]
    exact ih (i + 1) k (by omega) (by omega)
theorem rule_string (ps : List Pt) (hl : ps.length ≤ 8) (h : ∀ p ∈ ps, PShape p) (pr : List UInt8) (hpr : pr.length ≤ 100) (args : List Tm) (g : Int) (h0 : 0 ≤ g) (h1 : g ≤ 4) (hp : 0 < args.length) (hal : args.length ≤ 7) (ht : ∀ t ∈ args, TOk t) (at_ : Int) :
    ∀ k, 2200 ≤ k → syntax_Rule_String.f k (bytesL pr) args g ps at_ = some (bytesL (ruleS pr args g ps)) := by
  intro k hk
  obtain ⟨n, hn⟩ : ∃ n, args.length = n + 1 := ⟨args.length - 1, by omega⟩
  have hw : wrap64 ((args.length : Int) - 1) = (n : Int) := by rw [hn]; unfold wrap64; omega
  have hA := atomL_len pr hpr args (by omega) ht
  obtain ⟨k, rfl⟩ : ∃ m, k = m + 1 := ⟨k - 1, by omega⟩
  unfold syntax_Rule_String.f
  rw [(Atom_is hpr (by omega) ht (k + 1) (by omega)).1]
  simp only [Option.bind_some]
  rw [if_pos (by omega), syntax_Rule_String.j0]
  by_cases hg : g = 0
  · subst hg
    rw [if_neg (by decide)]
    have : ruleS pr args 0 ps = atomL pr args ++ bodyS ps ++ [46] := by unfold ruleS headS; rw [if_pos rfl]
    rw [this]
    exact rs_j2 ps hl h _ (by omega) k (by omega) _ _ _ _
  · rw [if_pos (by simpa using hg), hw, if_pos (by omega), if_pos (by omega)]
    simp only [Option.bind_some, Int.toNat_natCast]
    exact rs_l0 ps hl h pr hpr args g hg h0 h1 n hn hal ht at_ n 0 k (by omega) (by omega)
end Go.Proofs.YtdbpboipiceifaaDoorPSP
