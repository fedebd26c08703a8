/- SafeTurns: a rule has an order just if it has one with its parts turned; for any rule that is made and any turn. -/
import Derived.Maps.OwnSet
import Derived.Maps.AppendAt
import Derived.Deep.DeepCutAuto
import Derived.Deep.LoopGhost
import Derived.Deep.QuietTactic
import Derived.Deep.RegionWith
import Derived.Deep.RegionHeld3
import Derived.BigQuiet
import Derived.WalkSpells
import Derived.WalkLawsBesides
import Derived.Deep.DeepFit
import Derived.WalkSmall
import Derived.Deep.AppendLies
import Derived.Laws.AppendOwnNone
import Derived.Laws.Rows
import Derived.Laws.Strings
import Derived.Laws.BitsLemmas
import Derived.WalkKit
import Derived.Orders
import Derived.RegionTactic
import Derived.ProofKit
import Derived.OpenShut
import Derived.ShutString
import Derived.ChangeOld
import Derived.SizedLaws
import Derived.SliceStrings
import Derived.ChangeSlices
import Derived.Test.YtjlnpdpkobpkiaaZ2W1
import Derived.Test.YtjlnpdpkobpkiaaZ2Hf16
import Derived.Test.YtjlnpdpkobpkiaaZ2OpS
import Derived.Test.YtjlnpdpkobpkiaaZ2Saf
set_option linter.unusedVariables false
set_option linter.unusedSimpArgs false
namespace Go.Proofs.Ytjlnpdpkobpkiaa
open Go.RowKit
section
variable {P : Program} {ops : Array Oper} {rest : List Oper} {o : Oper} {a : Act} {Q : Exit → Act → World → Prop}
end
theorem and_le (x : Int) (y : Nat) (hy : y < 9223372036854775808) : 0 ≤ bits .and .i64 x (y : Int) ∧ bits .and .i64 x (y : Int) ≤ (y : Int) := by
 have h : (BitVec.ofInt 64 x &&& BitVec.ofInt 64 (y : Int)).toNat ≤ y := by
  rw [BitVec.toNat_and]
  refine Nat.le_trans Nat.and_le_right ?_
  rw [BitVec.ofInt_natCast, BitVec.toNat_ofNat]
  exact Nat.mod_le _ _
 have e : bits .and .i64 x (y : Int) = IntKind.i64.wrap ((BitVec.ofInt 64 x &&& BitVec.ofInt 64 (y : Int)).toNat : Int) := rfl
 rw [e, IntKind.wrap_i64]
 omega
section
variable {P : Program} {ops : Array Oper} {rest : List Oper} {o : Oper} {a : Act} {Q : Exit → Act → World → Prop}
end
end Go.Proofs.Ytjlnpdpkobpkiaa
set_option linter.unusedVariables false
set_option linter.unusedSimpArgs false
namespace Go.Proofs.Ytjlnpdpkobpkiaa
open Go
theorem unl_zero {l : Nat → Bool} {n : Nat} (h : unl l n = 0) : ∀ i, i < n → l i = true := by
 induction n with
 | zero => intro i hi; omega
 | succ n ih =>
  unfold unl at h
  intro i hi
  by_cases e : i = n
  ·subst e
   cases hl : l i with
   | true => rfl
   | false => rw [hl] at h; simp at h
  ·exact ih (by omega) i (by omega)
end Go.Proofs.Ytjlnpdpkobpkiaa
set_option linter.unusedVariables false
set_option linter.unusedSimpArgs false
namespace Go.Proofs.YtjlnpdpkobpkiaaPSP
open Go.Proofs.Ytjlnpdpkobpkiaa
theorem lackL_none {kn l : List ByteArray} (h : ∀ v ∈ l, knows kn v = true) : lackL kn l = ⟨#[]⟩ := by
 induction l with
 | nil => rfl
 | cons v vs ih =>
  rw [lackL, if_pos (h v List.mem_cons_self)]
  exact ih fun u hu => h u (List.mem_cons_of_mem _ hu)
theorem lackL_all {kn l : List ByteArray} (hne : ∀ v ∈ l, v.size ≠ 0) (h : (lackL kn l).size = 0) : ∀ v ∈ l, knows kn v = true := by
 induction l with
 | nil => intro v hv; cases hv
 | cons v vs ih =>
  rw [lackL] at h
  split at h
  ·rename_i hk
   intro u hu
   rcases List.mem_cons.1 hu with rfl | hu
   ·exact hk
   ·exact ih (fun u hu => hne u (List.mem_cons_of_mem _ hu)) h u hu
  ·exact absurd h (hne v List.mem_cons_self)
def Neat (E : Ents) : Prop := ∀ i, i < E.n → ∀ v ∈ E.nd i, v.size ≠ 0
theorem knownOf_knows {E : Ents} {out : List Nat} {v : ByteArray} : knows (knownOf E out) v = true ↔ ∃ j, j ∈ out ∧ knows (E.vs j) v = true := by
 unfold knownOf knows
 rw [List.any_eq_true]
 constructor
 ·rintro ⟨u, hu, he⟩
  obtain ⟨j, hj, hju⟩ := List.mem_flatMap.1 hu
  exact ⟨j, hj, List.any_eq_true.2 ⟨u, hju, he⟩⟩
 ·rintro ⟨j, hj, hk⟩
  obtain ⟨u, hju, he⟩ := List.any_eq_true.1 hk
  exact ⟨u, List.mem_flatMap.2 ⟨j, hj, hju⟩, he⟩
theorem goP_unl {E : Ents} (hne : Neat E) : ∀ (k : Nat) (out r : List Nat), goP E k out = .ok r → unl (outB out) E.n = k → (∀ j ∈ out, Der E j) → unl (outB r) E.n = 0 ∧ ∀ j ∈ r, Der E j := by
 intro k
 induction k with
 | zero =>
  intro out r h hu hd
  rw [goP] at h
  cases h
  exact ⟨hu, hd⟩
 | succ k ih =>
  intro out r h hu hd
  rw [goP] at h
  cases hn : nextP E out with
  | none => rw [hn] at h; cases h
  | some i =>
   rw [hn] at h
   simp only at h
   obtain ⟨h1, h2⟩ := nextP_some hn
   obtain ⟨h3, h4⟩ := ready_iff.1 h2
   refine ih _ _ h ?_ fun j hj => ?_
   ·have := unl_upd (l := outB out) h1 (by unfold outB; simpa using h3)
    rw [outB_app]
    omega
   ·rcases List.mem_append.1 hj with hj | hj
    ·exact hd j hj
    ·obtain rfl : j = i := by simpa using hj
     refine .of h1 fun v hv => ?_
     obtain ⟨m, hm, hk⟩ := knownOf_knows.1 (lackL_all (hne j h1) h4 v hv)
     exact ⟨m, hd m hm, hk⟩
theorem goP_all {E : Ents} (hne : Neat E) {r : List Nat} (h : goP E E.n [] = .ok r) : ∀ i, i < E.n → i ∈ r ∧ Der E i := by
 obtain ⟨h1, h2⟩ := goP_unl hne _ _ _ h (unl_none _) (fun j hj => by cases hj)
 intro i hi
 have : i ∈ r := by simpa [outB] using unl_zero h1 i hi
 exact ⟨this, h2 i this⟩
theorem der_goP {E : Ents} (hd : ∀ i, i < E.n → Der E i) : ∀ (k : Nat) (out : List Nat), unl (outB out) E.n = k → ∃ r, goP E k out = .ok r := by
 intro k
 induction k with
 | zero => intro out _; exact ⟨out, rfl⟩
 | succ k ih =>
  intro out hu
  rw [goP]
  cases hn : nextP E out with
  | some i =>
   simp only
   obtain ⟨h1, h2⟩ := nextP_some hn
   obtain ⟨h3, h4⟩ := ready_iff.1 h2
   refine ih _ ?_
   have := unl_upd (l := outB out) h1 (by unfold outB; simpa using h3)
   rw [outB_app]
   omega
  | none =>
   exfalso
   have hno : ∀ i, i < E.n → ready E out i = false := by
    intro i hi
    unfold nextP at hn
    have := List.find?_eq_none.1 hn i (List.mem_range.2 hi)
    simpa using this
   have hall : ∀ i, Der E i → i ∈ out := by
    intro i hi
    induction hi with
    | mk i hi f h hk ih =>
     have hl : lackL (knownOf E out) (E.nd i) = ⟨#[]⟩ := lackL_none fun v hv => knownOf_knows.2 ⟨f v, ih v hv, hk v hv⟩
     have := hno i hi
     unfold ready at this
     rw [hl] at this
     cases hc : out.contains i with
     | true => simpa using hc
     | false => rw [hc] at this; exact absurd this (by decide)
   obtain ⟨i, hi, hf⟩ := unl_pos (l := outB out) (n := E.n) (by omega)
   unfold outB at hf
   have := hall i (hd i hi)
   simp [this] at hf
theorem orderP_iff {E : Ents} (hne : Neat E) {hv : List ByteArray} (hh : ∀ v ∈ hv, v.size ≠ 0) : (∃ r, orderP E hv = .ok r) ↔ (∀ i, i < E.n → Der E i) ∧ ∀ v ∈ hv, ∃ j, j < E.n ∧ knows (E.vs j) v = true := by
 constructor
 ·rintro ⟨r, h⟩
  obtain ⟨h1, h2, h3⟩ := orderP_ok h
  have hg : goP E E.n [] = .ok r := by
   unfold orderP at h
   cases hg : goP E E.n [] with
   | error e => rw [hg] at h; cases h
   | ok out => rw [hg] at h; simp only at h; split at h <;> cases h; rfl
  have hall := goP_all hne hg
  refine ⟨fun i hi => (hall i hi).2, fun v hv' => ?_⟩
  obtain ⟨j, hj, hk⟩ := knownOf_knows.1 (lackL_all hh h3 v hv')
  obtain ⟨m, hm⟩ := List.mem_iff_getElem?.1 hj
  exact ⟨j, (h2 m j hm).1, hk⟩
 ·rintro ⟨hd, hv'⟩
  obtain ⟨r, hg⟩ := der_goP hd E.n [] (unl_none _)
  refine ⟨r, ?_⟩
  have hall := goP_all hne hg
  unfold orderP
  rw [hg]
  simp only
  rw [lackL_none fun v hv1 => ?_]
  ·rfl
  ·obtain ⟨j, hj, hk⟩ := hv' v hv1
   exact knownOf_knows.2 ⟨j, (hall j hj).1, hk⟩
theorem der_turn {E E' : Ents} (p : Nat → Nat) (hn : E'.n = E.n) (hp : ∀ i, i < E.n → p i < E.n) (hs : ∀ j, j < E.n → ∃ i, i < E.n ∧ p i = j) (h1 : ∀ i, i < E.n → E'.nd i = E.nd (p i)) (h2 : ∀ i, i < E.n → E'.vs i = E.vs (p i)) : (∀ i, i < E.n → Der E i) ↔ ∀ i, i < E'.n → Der E' i := by
 have a : ∀ j, Der E j → ∀ i, i < E.n → p i = j → Der E' i := by
  intro j hj
  induction hj with
  | mk j hj f h hk ih =>
   intro i hi e
   refine .of (by omega) fun v hv => ?_
   rw [h1 i hi, e] at hv
   obtain ⟨i', hi', e'⟩ := hs (f v) (h v hv).lt
   refine ⟨i', ih v hv i' hi' e', ?_⟩
   rw [h2 i' hi', e']
   exact hk v hv
 have b : ∀ i, Der E' i → Der E (p i) := by
  intro i hi
  induction hi with
  | mk i hi f h hk ih =>
   refine .of (hp i (by omega)) fun v hv => ?_
   rw [← h1 i (by omega)] at hv
   refine ⟨p (f v), ih v hv, ?_⟩
   rw [← h2 (f v) (by have := (h v hv).lt; omega)]
   exact hk v hv
 constructor
 ·intro h i hi
  exact a _ (h (p i) (hp i (by omega))) i (by omega) rfl
 ·intro h j hj
  obtain ⟨i, hi, e⟩ := hs j hj
  rw [← e]
  exact b i (h i (by omega))
theorem orderP_turn {E E' : Ents} (p : Nat → Nat) (hn : E'.n = E.n) (hp : ∀ i, i < E.n → p i < E.n) (hs : ∀ j, j < E.n → ∃ i, i < E.n ∧ p i = j) (h1 : ∀ i, i < E.n → E'.nd i = E.nd (p i)) (h2 : ∀ i, i < E.n → E'.vs i = E.vs (p i)) (hne : Neat E) {hv : List ByteArray} (hh : ∀ v ∈ hv, v.size ≠ 0) :
  (∃ r, orderP E hv = .ok r) ↔ ∃ r, orderP E' hv = .ok r := by
 have hne' : Neat E' := fun i hi v hv => hne (p i) (hp i (by omega)) v (by rw [← h1 i (by omega)]; exact hv)
 rw [orderP_iff hne hh, orderP_iff hne' hh, der_turn p hn hp hs h1 h2]
 constructor
 ·rintro ⟨a, b⟩
  refine ⟨a, fun v hv => ?_⟩
  obtain ⟨j, hj, hk⟩ := b v hv
  obtain ⟨i, hi, e⟩ := hs j hj
  exact ⟨i, by omega, by rw [h2 i hi, e]; exact hk⟩
 ·rintro ⟨a, b⟩
  refine ⟨a, fun v hv => ?_⟩
  obtain ⟨i, hi, hk⟩ := b v hv
  exact ⟨p i, hp i (by omega), by rw [← h2 i (by omega)]; exact hk⟩
end Go.Proofs.YtjlnpdpkobpkiaaPSP
set_option linter.unusedVariables false
set_option linter.unusedSimpArgs false
namespace Go.Proofs.YtjlnpdpkobpkiaaPSP
open Go.RowKit Go.Extern.Stop Go.Stop Go.Extern Go.Proofs.YtjlnpdpkobpkiaaW.PrintWords Go.Proofs.YtjlnpdpkobpkiaaW.PrintLast Go.Proofs.Ytjlnpdpkobpkiaa
def kRaw (sz : Nat) : Kd (List Value) where
 sz := sz
 E := []
 K := fun _ x cs => cs = x ∧ cs.length = sz ∧ ∀ u ∈ cs, u.oneCell' = true
 M := fun _ _ _ x cs => cs = x ∧ cs.length = sz ∧ ∀ u ∈ cs, u.oneCell' = true
 K_len := fun h => h.2.1
 K_one := fun h => h.2.2
 K_below := fun _ h => h
 K_of_M := fun h => h
 M_mono := fun _ h => h
 M_bound := fun h => h
 M_move := fun _ h => h
 M_lower := fun _ h => h
abbrev X16 (W : World) (bx n b q : Nat) (ad : Addr) (c0 c1 c2 c3 c4 c5 c6 c7 c8 c9 c10 c11 c12 c13 c14 : Value) : Prop := W.cell? ⟨bx, 3, none⟩ = some (.slice (some ad) n b) ∧ W.cell? (ad.add (q * 15)) = some c0 ∧ W.cell? ⟨(ad.add (q * 15)).block, (ad.add (q * 15)).off + 1, none⟩ = some c1 ∧ W.cell? ⟨(ad.add (q * 15)).block, (ad.add (q * 15)).off + 2, none⟩ = some c2 ∧ W.cell? ⟨(ad.add (q * 15)).block, (ad.add (q * 15)).off + 3, none⟩ = some c3 ∧ W.cell? ⟨(ad.add (q * 15)).block, (ad.add (q * 15)).off + 4, none⟩ = some c4 ∧ W.cell? ⟨(ad.add (q * 15)).block, (ad.add (q * 15)).off + 5, none⟩ = some c5 ∧ W.cell? ⟨(ad.add (q * 15)).block, (ad.add (q * 15)).off + 6, none⟩ = some c6 ∧ W.cell? ⟨(ad.add (q * 15)).block, (ad.add (q * 15)).off + 7, none⟩ = some c7 ∧ W.cell? ⟨(ad.add (q * 15)).block, (ad.add (q * 15)).off + 8, none⟩ = some c8 ∧ W.cell? ⟨(ad.add (q * 15)).block, (ad.add (q * 15)).off + 9, none⟩ = some c9 ∧ W.cell? ⟨(ad.add (q * 15)).block, (ad.add (q * 15)).off + 10, none⟩ = some c10 ∧ W.cell? ⟨(ad.add (q * 15)).block, (ad.add (q * 15)).off + 11, none⟩ = some c11 ∧ W.cell? ⟨(ad.add (q * 15)).block, (ad.add (q * 15)).off + 12, none⟩ = some c12 ∧ W.cell? ⟨(ad.add (q * 15)).block, (ad.add (q * 15)).off + 13, none⟩ = some c13 ∧ W.cell? ⟨(ad.add (q * 15)).block, (ad.add (q * 15)).off + 14, none⟩ = some c14
theorem cell_keep {w W : World} {a : Addr} {x : Option Value} (e : W.heap[a.block]? = w.heap[a.block]?) (h : w.cell? a = x) : W.cell? a = x := by
 rw [← h]
 simp [World.cell?, e]
theorem x16_keep {w W : World} {bx n b q : Nat} {ad : Addr} {c0 c1 c2 c3 c4 c5 c6 c7 c8 c9 c10 c11 c12 c13 c14 : Value} (hk : ∀ k, (k = bx ∨ k = ad.block) → W.heap[k]? = w.heap[k]?) (h : X16 w bx n b q ad c0 c1 c2 c3 c4 c5 c6 c7 c8 c9 c10 c11 c12 c13 c14) : X16 W bx n b q ad c0 c1 c2 c3 c4 c5 c6 c7 c8 c9 c10 c11 c12 c13 c14 := by
 obtain ⟨y0, x0, x1, x2, x3, x4, x5, x6, x7, x8, x9, x10, x11, x12, x13, x14⟩ := h
 have e : (ad.add (q * 15)).block = ad.block := aB_ _ _
 exact ⟨cell_keep (hk _ (.inl rfl)) y0, cell_keep (by show W.heap[(ad.add (q * 15)).block]? = w.heap[(ad.add (q * 15)).block]?; rw [e]; exact hk _ (.inr rfl)) x0, cell_keep (by show W.heap[(ad.add (q * 15)).block]? = w.heap[(ad.add (q * 15)).block]?; rw [e]; exact hk _ (.inr rfl)) x1, cell_keep (by show W.heap[(ad.add (q * 15)).block]? = w.heap[(ad.add (q * 15)).block]?; rw [e]; exact hk _ (.inr rfl)) x2, cell_keep (by show W.heap[(ad.add (q * 15)).block]? = w.heap[(ad.add (q * 15)).block]?; rw [e]; exact hk _ (.inr rfl)) x3, cell_keep (by show W.heap[(ad.add (q * 15)).block]? = w.heap[(ad.add (q * 15)).block]?; rw [e]; exact hk _ (.inr rfl)) x4, cell_keep (by show W.heap[(ad.add (q * 15)).block]? = w.heap[(ad.add (q * 15)).block]?; rw [e]; exact hk _ (.inr rfl)) x5, cell_keep (by show W.heap[(ad.add (q * 15)).block]? = w.heap[(ad.add (q * 15)).block]?; rw [e]; exact hk _ (.inr rfl)) x6, cell_keep (by show W.heap[(ad.add (q * 15)).block]? = w.heap[(ad.add (q * 15)).block]?; rw [e]; exact hk _ (.inr rfl)) x7, cell_keep (by show W.heap[(ad.add (q * 15)).block]? = w.heap[(ad.add (q * 15)).block]?; rw [e]; exact hk _ (.inr rfl)) x8, cell_keep (by show W.heap[(ad.add (q * 15)).block]? = w.heap[(ad.add (q * 15)).block]?; rw [e]; exact hk _ (.inr rfl)) x9, cell_keep (by show W.heap[(ad.add (q * 15)).block]? = w.heap[(ad.add (q * 15)).block]?; rw [e]; exact hk _ (.inr rfl)) x10, cell_keep (by show W.heap[(ad.add (q * 15)).block]? = w.heap[(ad.add (q * 15)).block]?; rw [e]; exact hk _ (.inr rfl)) x11, cell_keep (by show W.heap[(ad.add (q * 15)).block]? = w.heap[(ad.add (q * 15)).block]?; rw [e]; exact hk _ (.inr rfl)) x12, cell_keep (by show W.heap[(ad.add (q * 15)).block]? = w.heap[(ad.add (q * 15)).block]?; rw [e]; exact hk _ (.inr rfl)) x13, cell_keep (by show W.heap[(ad.add (q * 15)).block]? = w.heap[(ad.add (q * 15)).block]?; rw [e]; exact hk _ (.inr rfl)) x14⟩
theorem xgrown {w W w0 : World} {bx n b q m c : Nat} {ad : Addr} {A : Option Addr} {ok : Nat → Prop} {xs : List (List Value)} {c0 c1 c2 c3 c4 c5 c6 c7 c8 c9 c10 c11 c12 c13 c14 : Value} (hg : w.grownBy W (Value.slice A m c).ownBlock) (hf : ∀ k, (k = bx ∨ k = ad.block) → k < w0.heap.size) (hR : Kd.R (kRaw 15) 76 w w0.heap.size ok (.slice A m c) xs) (hB : Below w0.heap.size w0 w) (h : X16 w bx n b q ad c0 c1 c2 c3 c4 c5 c6 c7 c8 c9 c10 c11 c12 c13 c14) : X16 W bx n b q ad c0 c1 c2 c3 c4 c5 c6 c7 c8 c9 c10 c11 c12 c13 c14 :=
 x16_keep (fun k hk => hg.block k (Nat.lt_of_lt_of_le (hf k hk) hB.size) (fun e => by have := Kd.R_base hR k e.symm; have := hf k hk; omega)) h
abbrev zP13 : Value := .agg #[.int .i64 0, .int .i64 0, .int .i64 0, .slice none 0 0, .int .i64 0, .int .i64 0, .int .i64 0, .int .i64 0, .int .i64 0, .int .i64 0, .int .i64 0, .int .i64 0, .int .i64 0, .int .i64 0, .slice none 0 0]
def TruePost16 (w : World) (e : Ending) (w' : World) : Prop := e = .returned (.bool true) ∧ Below w.heap.size w w'
def rgT_T : Bool × List (List Nat × List Nat) := (true, [([], []), ([0], [0]), ([], []), ([2], [2]), ([], []), ([], []), ([5], [5]), ([4, 6], [4, 6]), ([], []), ([7, 8], [7, 8]), ([3, 9], [3, 9]), ([10], [10]), ([11], [11]), ([1, 12], [1, 12]), ([0, 1, 2, 3, 4, 5, 6, 7, 8, 9, 10, 11, 12, 13], []), ([14, 13, 13, 0, 1, 2, 3, 4, 5, 6, 7, 8, 9, 10, 11, 12, 13], [13, 14])])
def rgT_B : List Nat := [0, 1, 0, 4, 0, 0, 32, 112, 0, 496, 1020, 2044, 4092, 8191, 16383, 32767]
theorem rgT_tab : rtab .any (opsOf Try.f5 10) = rgT_T := by kernel_rfl
theorem rgT_bits : waitsOk rgT_T.2 rgT_B = true := by kernel_rfl
set_option maxHeartbeats 4000000 in
set_option maxRecDepth 100000 in
theorem rgT {Q : Exit → Act → World → Prop} {w w0 : World} {bo bx : Nat} {A : Option Addr} {m c n b i a s q : Nat} {at_ : Int} {ad : Addr} {xs : List (List Value)} {vA vB vC : Value} {c0 c1 c2 c3 c4 c5 c6 c7 c8 c9 c10 c11 c12 c13 c14 : Value}
  (u0 u3 u4 u8 u9 u10 u11 u12 u13 u14 u15 u16 u17 u18 u19 u20 u21 u22 u23 u24 u25 u26 u27 u28 u29 u30 u31 u32 u33 u34 u35 u36 u37 u38 u39 u40 u41 u42 u43 u44 u45 u46 u47 u48 u49 u50 u51 u52 u53 u54 u55 u56 u57 u58 u59 u60 u61 u62 u63 u64 u65 u66 u67 u68 u69 u70 u71 u72 : Value) (df : List Deferred) (hP : ∀ c (a a' : Act) w, a.defers = a'.defers → Q (.panic c) a w → Q (.panic c) a' w)
  (HB0 : Hid (Below w0.heap.size w0 w)) (HBO : Hid (w0.heap.size ≤ bo)) (KO0 : Hid (w.heap[bo]? = some (.cells #[vA, vB, vC, .slice A m c] 46)))
  (HX0 : Hid (X16 w bx n b q ad c0 c1 c2 c3 c4 c5 c6 c7 c8 c9 c10 c11 c12 c13 c14)) (HXF : Hid (∀ k, (k = bx ∨ k = ad.block) → k < w0.heap.size))
  (RD0 : Hid (Kd.R (kRaw 15) 76 w w0.heap.size (fun k => k ≠ bo) (.slice A m c) xs)) (HL : Hid ((xs.length + 1) * 152 ≤ 140737488355328)) (HONE : Hid (∀ u ∈ [c0, c1, c2, c3, c4, c5, c6, c7, c8, c9, c10, c11, c12, c13, c14], u.oneCell' = true))
  (ha : Go.bits .and .i64 at_ 65535 = (a : Int)) (hs_ : wrap64 ((i : Int) + (a : Int)) = (s : Int)) (hn0 : ¬ n = 0) (hq : Int.tmod (s : Int) (n : Int) = (q : Int)) (q0 : (0 : Int) ≤ (q : Int)) (q1 : (q : Int) < (n : Int))
  (hQ : ∀ (v33 v34 v35 v36 v37 v38 v39 v40 v41 v42 v43 v44 v45 v46 v47 : Value) (A' : Option Addr) (m' c' : Nat) (W : World), Below w0.heap.size w0 W → W.heap[bo]? = some (.cells #[vA, vB, vC, .slice A' m' c'] 46) →
   Kd.R (kRaw 15) 76 W w0.heap.size (fun k => k ≠ bo) (.slice A' m' c') (xs ++ [[c0, c1, c2, c3, c4, c5, c6, c7, c8, c9, c10, c11, c12, c13, c14]]) → Q .normal ⟨#[u0, Value.int .i64 at_, Value.pointer (some ⟨bx, 0, none⟩), u3, u4, Value.pointer (some ⟨bo, 0, none⟩), Value.int .i64 (n : Int), Value.int .i64 (i : Int), u8, u9, u10, u11, u12, u13, u14, u15, u16, u17, u18, u19, u20, u21, u22, u23, u24, u25, u26, u27, u28, u29, u30, u31, u32, v33, v34, v35, v36, v37, v38, v39, v40, v41, v42, v43, v44, v45, v46, v47, u48, u49, u50, u51, u52, u53, u54, u55, u56, u57, u58, u59, u60, u61, u62, u63, u64, u65, u66, u67, u68, u69, u70, u71, u72], df⟩ W) :
  (Code.region 10 (opsOf Try.f5 10) true).wp Try.prog Q ⟨#[u0, Value.int .i64 at_, Value.pointer (some ⟨bx, 0, none⟩), u3, u4, Value.pointer (some ⟨bo, 0, none⟩), Value.int .i64 (n : Int), Value.int .i64 (i : Int), u8, u9, u10, u11, u12, u13, u14, u15, u16, u17, u18, u19, u20, u21, u22, u23, u24, u25, u26, u27, u28, u29, u30, u31, u32, u33, u34, u35, u36, u37, u38, u39, u40, u41, u42, u43, u44, u45, u46, u47, u48, u49, u50, u51, u52, u53, u54, u55, u56, u57, u58, u59, u60, u61, u62, u63, u64, u65, u66, u67, u68, u69, u70, u71, u72], df⟩ w := by
 conv in (opsOf _ _) => whnf
 have LO0 := Go.Proofs.Ytjlnpdpkobpkiaa.blk_lt KO0.out
 have HX : Hid (X16 w.drew bx n b q ad c0 c1 c2 c3 c4 c5 c6 c7 c8 c9 c10 c11 c12 c13 c14) := hid HX0.out
 have HX1 : Hid (X16 (w.drew.alloc (.cells #[c0, c1, c2, c3, c4, c5, c6, c7, c8, c9, c10, c11, c12, c13, c14] 76)) bx n b q ad c0 c1 c2 c3 c4 c5 c6 c7 c8 c9 c10 c11 c12 c13 c14) := hid (have hb := (show Below w.drew.heap.size w.drew (w.drew.alloc (.cells #[c0, c1, c2, c3, c4, c5, c6, c7, c8, c9, c10, c11, c12, c13, c14] 76)) from (Below.refl _ _).alloc (Nat.le_refl _) _); x16_keep (w := w.drew) (fun k hk => hb.block k (Nat.lt_of_lt_of_le (HXF.out k hk) HB0.out.size)) HX.out)
 have HXg := hid (fun (W : World) (hg : w.drew.grownBy W (Value.slice A m c).ownBlock) => xgrown hg HXF.out (Kd.R_drew RD0.out) (below_drew HB0.out) HX.out)
 clear HX0
 refine start_ (n := 16) (S := fun W => W.cell? ⟨bo, 3, none⟩ = some (.slice A m c) ∧ W.cell? ⟨bx, 3, none⟩ = some (.slice (some ad) n b) ∧ W.cell? (ad.add (q * 15)) = some c0 ∧ W.cell? ⟨(ad.add (q * 15)).block, (ad.add (q * 15)).off + 1, none⟩ = some c1 ∧ W.cell? ⟨(ad.add (q * 15)).block, (ad.add (q * 15)).off + 2, none⟩ = some c2 ∧ W.cell? ⟨(ad.add (q * 15)).block, (ad.add (q * 15)).off + 3, none⟩ = some c3 ∧ W.cell? ⟨(ad.add (q * 15)).block, (ad.add (q * 15)).off + 4, none⟩ = some c4 ∧ W.cell? ⟨(ad.add (q * 15)).block, (ad.add (q * 15)).off + 5, none⟩ = some c5 ∧ W.cell? ⟨(ad.add (q * 15)).block, (ad.add (q * 15)).off + 6, none⟩ = some c6 ∧ W.cell? ⟨(ad.add (q * 15)).block, (ad.add (q * 15)).off + 7, none⟩ = some c7 ∧ W.cell? ⟨(ad.add (q * 15)).block, (ad.add (q * 15)).off + 8, none⟩ = some c8 ∧ W.cell? ⟨(ad.add (q * 15)).block, (ad.add (q * 15)).off + 9, none⟩ = some c9 ∧ W.cell? ⟨(ad.add (q * 15)).block, (ad.add (q * 15)).off + 10, none⟩ = some c10 ∧ W.cell? ⟨(ad.add (q * 15)).block, (ad.add (q * 15)).off + 11, none⟩ = some c11 ∧ W.cell? ⟨(ad.add (q * 15)).block, (ad.add (q * 15)).off + 12, none⟩ = some c12 ∧ W.cell? ⟨(ad.add (q * 15)).block, (ad.add (q * 15)).off + 13, none⟩ = some c13 ∧ W.cell? ⟨(ad.add (q * 15)).block, (ad.add (q * 15)).off + 14, none⟩ = some c14) (ds := [15]) #[false, false, false, false, false, false, false, false, false, false, false, false, false, false, false, false] (by kernel_rfl) rfl rfl ⟨(bC (bD KO0.out) 3).trans rfl, HX.out⟩ (fun hHeld => ?_)
 have KO := hid (bD KO0.out)
 have RD := hid (Kd.R_drew RD0.out)
 have HB := hid (below_drew HB0.out)
 have LO : Hid (bo < w.drew.heap.size) := hid LO0
 clear KO0 RD0 HB0 LO0
 generalize w.drew = wD at KO RD HB LO HX HX1 HXg hHeld ⊢
 refine with_tabW rgT_tab rgT_bits (fun HT_ HW_ => ?_)
 refine pure_ (i := 0) (N := some 33) (v := ?_) (a' := ?_) #[true, false, false, false, false, false, false, false, false, false, false, false, false, false, false, false] rfl rfl (any_of HT_.out (by kernel_rfl)) (fun _ _ _ h => hP _ _ _ _ (by rfl) h) (Or.inl ⟨by rfl, ?_⟩) ?_ ?_
 rotate_left
 ·intro w'
  go_simp
  with_reducible rfl
 rotate_left
 ·simp only [Act.put, sA_, sZ_, sS_, i64_w, i32_w]
  rfl
 refine take_ (i := 1) (N := some 34) (v := ?_) (a' := ?_) #[true, true, false, false, false, false, false, false, false, false, false, false, false, false, false, false] rfl rfl (take_ofW HT_.out HW_.out (by kernel_rfl)) (fun _ _ _ h => hP _ _ _ _ (by rfl) h) (Or.inl ⟨by rfl, ?_⟩) hHeld ?_ ?_
 rotate_left
 ·rintro w' ⟨s0, s1, s2, s3, s4, s5, s6, s7, s8, s9, s10, s11, s12, s13, s14, s15, s16⟩
  go_simp
  with_reducible rfl
 rotate_left
 ·simp only [Act.put, sA_, sZ_, sS_, i64_w, i32_w]
  rfl
 refine pure_ (i := 2) (N := some 35) (v := ?_) (a' := ?_) #[true, true, true, false, false, false, false, false, false, false, false, false, false, false, false, false] rfl rfl (any_of HT_.out (by kernel_rfl)) (fun _ _ _ h => hP _ _ _ _ (by rfl) h) (Or.inl ⟨by rfl, ?_⟩) ?_ ?_
 rotate_left
 ·intro w'
  go_simp
  with_reducible rfl
 rotate_left
 ·simp only [Act.put, sA_, sZ_, sS_, i64_w, i32_w]
  rfl
 refine take_ (i := 3) (N := some 36) (v := ?_) (a' := ?_) #[true, true, true, true, false, false, false, false, false, false, false, false, false, false, false, false] rfl rfl (take_ofW HT_.out HW_.out (by kernel_rfl)) (fun _ _ _ h => hP _ _ _ _ (by rfl) h) (Or.inl ⟨by rfl, ?_⟩) hHeld ?_ ?_
 rotate_left
 ·rintro w' ⟨s0, s1, s2, s3, s4, s5, s6, s7, s8, s9, s10, s11, s12, s13, s14, s15, s16⟩
  go_simp
  with_reducible rfl
 rotate_left
 ·simp only [Act.put, sA_, sZ_, sS_, i64_w, i32_w]
  rfl
 refine pure_ (i := 4) (N := some 37) (v := ?_) (a' := ?_) #[true, true, true, true, true, false, false, false, false, false, false, false, false, false, false, false] rfl rfl (any_of HT_.out (by kernel_rfl)) (fun _ _ _ h => hP _ _ _ _ (by rfl) h) (Or.inl ⟨by rfl, ?_⟩) ?_ ?_
 rotate_left
 ·intro w'
  go_simp
  with_reducible rfl
 rotate_left
 ·simp only [Act.put, sA_, sZ_, sS_, i64_w, i32_w]
  rfl
 refine pure_ (i := 5) (N := some 38) (v := ?_) (a' := ?_) #[true, true, true, true, true, true, false, false, false, false, false, false, false, false, false, false] rfl rfl (any_of HT_.out (by kernel_rfl)) (fun _ _ _ h => hP _ _ _ _ (by rfl) h) (Or.inl ⟨by rfl, ?_⟩) ?_ ?_
 rotate_left
 ·intro w'
  go_simp
  with_reducible rfl
 rotate_left
 ·simp only [Act.put, sA_, sZ_, sS_, i64_w, i32_w]
  rfl
 refine pure_ (i := 6) (N := some 39) (v := ?_) (a' := ?_) #[true, true, true, true, true, true, true, false, false, false, false, false, false, false, false, false] rfl rfl (any_of HT_.out (by kernel_rfl)) (fun _ _ _ h => hP _ _ _ _ (by rfl) h) (Or.inl ⟨by rfl, ?_⟩) ?_ ?_
 rotate_left
 ·intro w'
  go_simp
  with_reducible rfl
 rotate_left
 ·simp only [Act.put, sA_, sZ_, sS_, i64_w, i32_w]
  rfl
 refine pure_ (i := 7) (N := some 40) (v := ?_) (a' := ?_) #[true, true, true, true, true, true, true, true, false, false, false, false, false, false, false, false] rfl rfl (any_of HT_.out (by kernel_rfl)) (fun _ _ _ h => hP _ _ _ _ (by rfl) h) (Or.inl ⟨by rfl, ?_⟩) ?_ ?_
 rotate_left
 ·intro w'
  go_simp
  with_reducible rfl
 rotate_left
 ·simp only [Act.put, sA_, sZ_, sS_, i64_w, i32_w]
  rfl
 refine pure_ (i := 8) (N := some 41) (v := ?_) (a' := ?_) #[true, true, true, true, true, true, true, true, true, false, false, false, false, false, false, false] rfl rfl (any_of HT_.out (by kernel_rfl)) (fun _ _ _ h => hP _ _ _ _ (by rfl) h) (Or.inl ⟨by rfl, ?_⟩) ?_ ?_
 rotate_left
 ·intro w'
  go_simp
  with_reducible rfl
 rotate_left
 ·simp only [Act.put, sA_, sZ_, sS_, i64_w, i32_w]
  rfl
 refine pure_ (i := 9) (N := some 42) (v := ?_) (a' := ?_) #[true, true, true, true, true, true, true, true, true, true, false, false, false, false, false, false] rfl rfl (any_of HT_.out (by kernel_rfl)) (fun _ _ _ h => hP _ _ _ _ (by rfl) h) (Or.inl ⟨by rfl, ?_⟩) ?_ ?_
 rotate_left
 ·intro w'
  go_simp
  with_reducible rfl
 rotate_left
 ·simp only [Act.put, sA_, sZ_, sS_, i64_w, i32_w]
  rfl
 refine pure_ (i := 10) (N := some 43) (v := ?_) (a' := ?_) #[true, true, true, true, true, true, true, true, true, true, true, false, false, false, false, false] rfl rfl (any_of HT_.out (by kernel_rfl)) (fun _ _ _ h => hP _ _ _ _ (by rfl) h) (Or.inl ⟨by rfl, ?_⟩) ?_ ?_
 rotate_left
 ·intro w'
  go_simp
  with_reducible rfl
 rotate_left
 ·simp only [Act.put, sA_, sZ_, sS_, i64_w, i32_w]
  rfl
 refine take_ (i := 11) (N := some 44) (v := ?_) (a' := ?_) #[true, true, true, true, true, true, true, true, true, true, true, true, false, false, false, false] rfl rfl (take_ofW HT_.out HW_.out (by kernel_rfl)) (fun _ _ _ h => hP _ _ _ _ (by rfl) h) (Or.inl ⟨by rfl, ?_⟩) hHeld ?_ ?_
 rotate_left
 ·rintro w' ⟨s0, s1, s2, s3, s4, s5, s6, s7, s8, s9, s10, s11, s12, s13, s14, s15, s16⟩
  go_simp
  with_reducible rfl
 rotate_left
 ·simp only [Act.put, sA_, sZ_, sS_, i64_w, i32_w]
  rfl
 refine one_ (i := 12) (N := some 45) #[true, true, true, true, true, true, true, true, true, true, true, true, true, false, false, false] rfl rfl (one_of HT_.out (by kernel_rfl)) (by decide) (fun K hK => ?_)
 refine value_ (w1 := ?_) (v := ?_) (by rfl) rfl ?_ ?_
 rotate_left 2
 ·go_simp
  constructor
  ·rfl
  ·rfl
 refine hK.out _ _ ⟨(bC (bA KO.out _) 3).trans rfl, HX1.out⟩ (fun hHeld => ?_)
 clear hK K
 refine norm_ (a' := ?_) ?_ ?_
 rotate_left
 ·show Act.put _ (some 45) _ = _
  simp only [Act.put, sA_, sZ_, sS_, i64_w, i32_w]
  rfl
 refine one_ (i := 13) (N := some 46) #[true, true, true, true, true, true, true, true, true, true, true, true, true, true, false, false] rfl rfl (one_of HT_.out (by kernel_rfl)) (by decide) (fun K hK => ?_)
 refine Kd.Ras (kRaw 15) (w0 := w0) w0.heap.size (by rfl) (.tmp 34) (.tmp 45) 44 76 zP13 152 rfl Try.underlying44 (by kernel_rfl) (by kernel_rfl) (by decide) (by decide) (.slice A m c) xs [c0, c1, c2, c3, c4, c5, c6, c7, c8, c9, c10, c11, c12, c13, c14] [c0, c1, c2, c3, c4, c5, c6, c7, c8, c9, c10, c11, c12, c13, c14] (fun k => k ≠ bo) (fun _ => False) rfl rfl ⟨rfl, rfl, HONE.out⟩ (fun _ h => h.elim) (fun k hk => by have := LO.out; omega) RD.out HB.out (Nat.le_trans HBO.out (Nat.le_of_lt LO.out)) HL.out ?_
 intro v_ w_ hR hB hg hat
 have KO1 := hid (bG_ KO.out hg (Kd.R_ne RD.out KO.out (by decide)))
 have HB1 := hid hB
 obtain ⟨A1, cp1, hv⟩ := Kd.R_slice hR
 rw [List.length_append, List.length_singleton] at hv
 subst hv
 have RD1 := hid hR
 have HX2 := hid (HXg.out _ hg)
 clear hR hB hg hat KO RD HB
 refine hK.out _ _ ⟨(bC KO1.out 3).trans rfl, HX2.out⟩ (fun hHeld => ?_)
 clear hK K
 refine norm_ (a' := ?_) ?_ ?_
 rotate_left
 ·show Act.put _ (some 46) _ = _
  simp only [Act.put, sA_, sZ_, sS_, i64_w, i32_w]
  rfl
 refine pure_ (i := 14) (N := some 47) (v := ?_) (a' := ?_) #[true, true, true, true, true, true, true, true, true, true, true, true, true, true, true, false] rfl rfl (any_of HT_.out (by kernel_rfl)) (fun _ _ _ h => hP _ _ _ _ (by rfl) h) (Or.inl ⟨by rfl, ?_⟩) ?_ ?_
 rotate_left
 ·intro w'
  go_simp
  with_reducible rfl
 rotate_left
 ·simp only [Act.put, sA_, sZ_, sS_, i64_w, i32_w]
  rfl
 refine last_ (i := 15) (N := none) #[true, true, true, true, true, true, true, true, true, true, true, true, true, true, true, true] rfl rfl (one_of HT_.out (by kernel_rfl)) (by decide) (fun K hK => ?_)
 have hs : w_.cell? ⟨bo, 3, none⟩ = some (.slice A m c) := (bC KO1.out 3).trans rfl
 have hf := bF KO1.out 3
 refine skip_ (w1 := ?_) (by rfl) rfl ?_ ?_
 rotate_left
 ·go_simp
  rfl
 refine hK.out _ _ ?_
 clear hK K
 refine done_ (done_of HT_.out (by kernel_rfl)) ?_
 have KO2 := blk_put KO1.out 3 (.slice A1 (xs.length + 1) cp1) rfl
 have RD2 := Kd.R_far RD1.out (p := ⟨bo, 3, none⟩) (fun k hk => hk) (.slice A1 (xs.length + 1) cp1)
 exact hQ _ _ _ _ _ _ _ _ _ _ _ _ _ _ _ A1 _ cp1 _ (lS_ HB1.out HBO.out) KO2 RD2
end Go.Proofs.YtjlnpdpkobpkiaaPSP

set_option linter.unusedVariables false
set_option linter.unusedSimpArgs false
namespace Go.Proofs.YtjlnpdpkobpkiaaPSP.Mk
open Go.RowKit Go.Extern.Stop Go.Stop Go.Extern Go.Proofs.YtjlnpdpkobpkiaaW.PrintWords Go.Proofs.Ytjlnpdpkobpkiaa
theorem rule_made2 (pr : Int) (al : List S71) (agg : Int) (h1 : al.length ≤ 6) (h2 : ∀ t ∈ al, TN t) : ∃ (args : List Tm) (g : Int), args.length ≤ 7 ∧ 0 < args.length ∧ (∀ t ∈ args, TOk t) ∧ (g = 0 ∨ g = 1 ∨ g = 2 ∨ g = 3 ∨ g = 4) ∧
  ∀ (body : List PvM), body.length ≤ 8 → (∀ p ∈ body, PB p) → ∀ k, 3000 ≤ k → ergolaw13_R_Rule.f k pr al agg body = some (bytesL (predS pr), args, g, body.map partOf, 0) := by
 have ha := argsOf_ok h2
 have hl := argsOf_len al
 have hp : 0 < (argsOf al).length := by
  unfold argsOf
  split <;> rename_i h
  ·simp
  ·simp; omega
 obtain ⟨n, hn⟩ : ∃ n, (argsOf al).length = n + 1 := ⟨(argsOf al).length - 1, by omega⟩
 have hw : wrap64 (((argsOf al).length : Int) - 1) = (n : Int) := by rw [hn]; unfold wrap64; omega
 have e0 : Go.bits .and .i64 agg 15 = Go.bits .and .i64 agg 15 := rfl
 generalize hgg : Go.bits .and .i64 agg 15 = g at e0
 have tail : ∀ (body : List PvM) (h3 : body.length ≤ 8) (h4 : ∀ p ∈ body, PB p) (args : List Tm) (g : Int) (k : Nat), 2990 ≤ k → ergolaw13_R_Rule.j1 k pr al agg body (bytesL (predS pr)) args g 0 = some (bytesL (predS pr), args, g, body.map partOf, 0) := by
  intro body h3 h4 args g k hk
  obtain ⟨k, rfl⟩ : ∃ m, k = m + 1 := ⟨k - 1, by omega⟩
  rw [ergolaw13_R_Rule.j1]
  have := made_l0 body h3 h4 (bytesL (predS pr)) args g 0 body.length 0 k [] (by omega) (by simp; omega) (by omega)
  rw [show ((0 : Nat) : Int) = 0 from rfl] at this
  rw [this]
  simp
 by_cases c : 1 ≤ g ∧ g ≤ 4
 ·have hg : g = 0 ∨ g = 1 ∨ g = 2 ∨ g = 3 ∨ g = 4 := by omega
  by_cases hv : (rd_T61 (argsOf al) (n : Int)).f0 = 0
  ·refine ⟨argsOf al, g, by omega, hp, ha, hg, fun body h3 h4 k hk => ?_⟩
   obtain ⟨k, rfl⟩ : ∃ m, k = m + 1 := ⟨k - 1, by omega⟩
   unfold ergolaw13_R_Rule.f
   rw [A_is pr al (by omega) (k + 1) (by omega), hgg]
   simp only [Option.bind_some]
   rw [if_pos c.1, decide_eq_true c.2, ergolaw13_R_Rule.j0, if_pos rfl, hw, if_pos (by omega), if_pos (by omega), if_pos hv]
   exact tail body h3 h4 _ _ k (by omega)
  ·refine ⟨(argsOf al).set n ⟨0, bytesL [88], 0⟩, g, by rw [List.length_set]; omega, by rw [List.length_set]; exact hp, set_last_ok ha, hg, fun body h3 h4 k hk => ?_⟩
   obtain ⟨k, rfl⟩ : ∃ m, k = m + 1 := ⟨k - 1, by omega⟩
   unfold ergolaw13_R_Rule.f
   rw [A_is pr al (by omega) (k + 1) (by omega), hgg]
   simp only [Option.bind_some]
   rw [if_pos c.1, decide_eq_true c.2, ergolaw13_R_Rule.j0, if_pos rfl, hw, if_pos (by omega), if_pos (by omega), if_neg hv]
   exact tail body h3 h4 _ _ k (by omega)
 ·refine ⟨argsOf al, 0, by omega, hp, ha, .inl rfl, fun body h3 h4 k hk => ?_⟩
  obtain ⟨k, rfl⟩ : ∃ m, k = m + 1 := ⟨k - 1, by omega⟩
  unfold ergolaw13_R_Rule.f
  rw [A_is pr al (by omega) (k + 1) (by omega), hgg]
  simp only [Option.bind_some]
  have : ∀ b : Bool, b = false → ergolaw13_R_Rule.j0 (k + 1) g b pr al agg body (bytesL (predS pr)) (argsOf al) 0 0 = some (bytesL (predS pr), argsOf al, 0, body.map partOf, 0) := by
   intro b hb
   subst hb
   rw [ergolaw13_R_Rule.j0, if_neg (by decide)]
   exact tail body h3 h4 _ _ k (by omega)
  by_cases c1 : g ≥ 1
  ·rw [if_pos c1]
   exact this _ (decide_eq_false (by omega))
  ·rw [if_neg c1]
   exact this _ rfl
def rot (body : List PvM) (a : Nat) : List PvM := (List.range body.length).map fun i => body.getD ((i + a) % body.length) z76
theorem rot_len (body : List PvM) (a : Nat) : (rot body a).length = body.length := by unfold rot; simp
theorem rot_at {body : List PvM} {a i : Nat} (hi : i < body.length) : (rot body a)[i]? = body[(i + a) % body.length]? := by
 have hq : (i + a) % body.length < body.length := Nat.mod_lt _ (by omega)
 unfold rot
 rw [List.getElem?_map, List.getElem?_range hi, Option.map_some, List.getD_eq_getElem?_getD, List.getElem?_eq_getElem hq]
 rfl
theorem rot_mem {body : List PvM} {a : Nat} {p : PvM} (h : p ∈ rot body a) : p ∈ body := by
 unfold rot at h
 obtain ⟨i, hi, rfl⟩ := List.mem_map.1 h
 have hi := List.mem_range.1 hi
 have hq : (i + a) % body.length < body.length := Nat.mod_lt _ (by omega)
 rw [List.getD_eq_getElem?_getD, List.getElem?_eq_getElem hq]
 exact List.getElem_mem _
theorem rot_surj {n a : Nat} (j : Nat) (hj : j < n) : ∃ i, i < n ∧ (i + a) % n = j := by
 refine ⟨(j + (n - a % n)) % n, Nat.mod_lt _ (by omega), ?_⟩
 have h1 : a % n < n := Nat.mod_lt _ (by omega)
 rw [Nat.mod_add_mod]
 have h2 : j + (n - a % n) + a = j + n * (a / n + 1) := by
  have h3 := Nat.div_add_mod a n
  rw [Nat.mul_add, Nat.mul_one]
  omega
 rw [h2, Nat.add_mul_mod_self_left, Nat.mod_eq_of_lt hj]
theorem rot_order {body : List PvM} (hb : ∀ p ∈ body, PB p) (a : Nat) {hv : List ByteArray} (hh : ∀ u ∈ hv, Nm u) :
  (∃ r, orderP (entsOf (body.map partOf)) hv = .ok r) ↔ ∃ r, orderP (entsOf ((rot body a).map partOf)) hv = .ok r := by
 have hg : ∀ (i : Nat), i < body.length → ∀ v ∈ (entsOf (body.map partOf)).nd i, v.size ≠ 0 := by
  intro i hi v hv
  have e : (entsOf (body.map partOf)).nd i = needV (partOf body[i]) := by
   show (((body.map partOf)[i]?).map needV).getD [] = _
   rw [List.getElem?_map, List.getElem?_eq_getElem hi]
   rfl
  rw [e] at hv
  have := (mk_good _ (partOf_is _ (hb _ (List.getElem_mem hi))).1).2.2 v hv
  exact Nat.ne_of_gt this.1
 have hl : (entsOf (body.map partOf)).n = body.length := by show (body.map partOf).length = _; simp
 refine orderP_turn (fun i => (i + a) % body.length) ?_ ?_ ?_ ?_ ?_ (fun i hi v hv => hg i (by rw [← hl]; exact hi) v hv) (fun u hu => Nat.ne_of_gt (hh u hu).1)
 ·show ((rot body a).map partOf).length = (body.map partOf).length
  simp [rot_len]
 ·intro i hi
  rw [hl] at hi ⊢
  exact Nat.mod_lt _ (by omega)
 ·intro j hj
  rw [hl] at hj ⊢
  exact rot_surj j hj
 ·intro i hi
  rw [hl] at hi
  show ((((rot body a).map partOf)[i]?).map needV).getD [] = (((body.map partOf)[(i + a) % body.length]?).map needV).getD []
  rw [List.getElem?_map, List.getElem?_map, rot_at hi]
 ·intro i hi
  rw [hl] at hi
  show ((((rot body a).map partOf)[i]?).map partV).getD [] = (((body.map partOf)[(i + a) % body.length]?).map partV).getD []
  rw [List.getElem?_map, List.getElem?_map, rot_at hi]
end Go.Proofs.YtjlnpdpkobpkiaaPSP.Mk

set_option linter.unusedVariables false
set_option linter.unusedSimpArgs false
namespace Go.Proofs.YtjlnpdpkobpkiaaPSP
open Go.RowKit Go.Extern.Stop Go.Stop Go.Extern Go.Proofs.YtjlnpdpkobpkiaaW.PrintWords Go.Proofs.Ytjlnpdpkobpkiaa
abbrev PvT := S76
theorem cells_of {w : World} {A : Option Addr} {n : Nat} {body : List PvT} (h : Kd.C k76 w A n body) : ∃ cs : Nat → List Value, ∀ q (x : PvT), body[q]? = some x → k76.K w x (cs q) ∧ ∃ ad, A = some ad ∧ ∀ j u, (cs q)[j]? = some u → w.cell? (ad.add (q * 15 + j)) = some u := by
 have hl := Kd.C_len h
 have key : ∀ q : Nat, ∃ c : List Value, ∀ x : PvT, body[q]? = some x → k76.K w x c ∧ ∃ ad, A = some ad ∧ ∀ j u, c[j]? = some u → w.cell? (ad.add (q * 15 + j)) = some u := by
  intro q
  by_cases hq : q < n
  ·obtain ⟨ad, c, e, _, hK, hc⟩ := Kd.C_get h z76 (q : Int) (by omega) (by omega)
   refine ⟨c, fun x hx => ?_⟩
   have e2 : body.getD ((q : Int).toNat) z76 = x := by
    rw [Int.toNat_natCast, List.getD_eq_getElem?_getD, hx]
    rfl
   rw [e2] at hK
   exact ⟨hK, ad, e, hc⟩
  ·refine ⟨[], fun x hx => ?_⟩
   have := (List.getElem?_eq_some_iff.1 hx).1
   omega
 obtain ⟨cs, hcs⟩ := Classical.axiomOfChoice key
 exact ⟨cs, hcs⟩
def rawRot (cs : Nat → List Value) (n a i : Nat) : List (List Value) := (List.range i).map fun j => cs ((j + a) % n)
theorem rawRot_succ (cs : Nat → List Value) (n a i : Nat) : rawRot cs n a (i + 1) = rawRot cs n a i ++ [cs ((i + a) % n)] := by
 unfold rawRot
 rw [List.range_succ, List.map_append]
 rfl
theorem rawRot_len (cs : Nat → List Value) (n a i : Nat) : (rawRot cs n a i).length = i := by unfold rawRot; simp
theorem rot_C {w W : World} {cs : Nat → List Value} {a e base m c : Nat} {ok : Nat → Prop} {Y : Option Addr} {body : List PvT} (hcs : ∀ q (x : PvT), body[q]? = some x → k76.K w x (cs q)) (hB : Below w.heap.size w W)
  (hR : Kd.R (kRaw 15) e W base ok (.slice Y m c) (rawRot cs body.length a body.length)) : m = body.length ∧ m ≤ c ∧ Kd.C k76 W Y m (Mk.rot body a) := by
 obtain ⟨h1, h2, h3⟩ := Kd.R_reads' hR
 rw [rawRot_len] at h1 h3
 subst h1
 refine ⟨rfl, h2, Mk.rot_len body a, h3.2.1, fun hp => ?_⟩
 obtain ⟨ad, e1, hc⟩ := h3.2.2 hp
 refine ⟨ad, e1, fun j p hj => ?_⟩
 have hjl : j < body.length := by have := (List.getElem?_eq_some_iff.1 hj).1; rwa [Mk.rot_len] at this
 rw [Mk.rot_at hjl] at hj
 have hr : (rawRot cs body.length a body.length)[j]? = some (cs ((j + a) % body.length)) := by
  unfold rawRot
  rw [List.getElem?_map, List.getElem?_range hjl]
  rfl
 obtain ⟨c', hl, ⟨rfl, _, _⟩, hcell⟩ := hc j _ hr
 exact ⟨_, hl, k76.K_below hB (hcs _ _ hj), hcell⟩
structure TnOk (w : World) (vA vB vC : Value) (Y : Option Addr) (m c : Nat) (xs : List (List Value)) (wr : World) : Prop where
 be : Below w.heap.size w wr
 ko : wr.heap[w.heap.size]? = some (.cells #[vA, vB, vC, .slice Y m c] 46 (0, 0))
 rd : Kd.R (kRaw 15) 76 wr w.heap.size (fun k => k ≠ w.heap.size) (.slice Y m c) xs
theorem TnOk.start {w : World} {vA vB vC : Value} : TnOk w vA vB vC none 0 0 [] (w.alloc (.cells #[vA, vB, vC, .slice none 0 0] 46)) := ⟨(Below.refl _ _).alloc (Nat.le_refl _) _, heap_alloc_new w _, Kd.R_nil _ _ _ _ _⟩
theorem tn_bits (x : Int) : ∃ a : Nat, Go.bits .and .i64 x 65535 = (a : Int) ∧ a ≤ 65535 := by
 obtain ⟨h1, h2⟩ := Go.Proofs.Ytjlnpdpkobpkiaa.and_le x 65535 (by decide)
 obtain ⟨a, ha⟩ := Int.eq_ofNat_of_zero_le h1
 have ha' : Go.bits .and .i64 x 65535 = (a : Int) := ha
 have h2' : Go.bits .and .i64 x 65535 ≤ 65535 := h2
 rw [ha'] at h2'
 exact ⟨a, ha', by omega⟩
theorem tn_num {i a n : Nat} (hi : i < n) (hn : n ≤ 8) (ha : a ≤ 65535) : wrap64 ((i : Int) + (a : Int)) = ((i + a : Nat) : Int) ∧ (¬ n = 0) ∧ Int.tmod ((i + a : Nat) : Int) (n : Int) = (((i + a) % n : Nat) : Int) ∧ (i + a) % n < n :=
 ⟨by unfold wrap64; omega, by omega, rfl, Nat.mod_lt _ (by omega)⟩
theorem tn_facts {w w2 wr : World} {ad : Addr} {q n b : Nat} {A' : Option Addr} {c0 c1 c2 c3 c4 c5 c6 c7 c8 c9 c10 c11 c12 c13 c14 : Value} (hc : ∀ j u, ([c0, c1, c2, c3, c4, c5, c6, c7, c8, c9, c10, c11, c12, c13, c14] : List Value)[j]? = some u → w.cell? (ad.add (q * 15 + j)) = some u) (hB : Below w.heap.size w w2) (hB2 : Below w2.heap.size w2 wr) (hb : w.heap.size < w2.heap.size) (hx : wr.cell? ⟨w.heap.size, 3, none⟩ = some (.slice A' n b)) :
  (wr.cell? ⟨w.heap.size, 3, none⟩ = some (.slice A' n b) ∧ wr.cell? (ad.add (q * 15)) = some c0 ∧ wr.cell? ⟨(ad.add (q * 15)).block, (ad.add (q * 15)).off + 1, none⟩ = some c1 ∧ wr.cell? ⟨(ad.add (q * 15)).block, (ad.add (q * 15)).off + 2, none⟩ = some c2 ∧ wr.cell? ⟨(ad.add (q * 15)).block, (ad.add (q * 15)).off + 3, none⟩ = some c3 ∧ wr.cell? ⟨(ad.add (q * 15)).block, (ad.add (q * 15)).off + 4, none⟩ = some c4 ∧ wr.cell? ⟨(ad.add (q * 15)).block, (ad.add (q * 15)).off + 5, none⟩ = some c5 ∧ wr.cell? ⟨(ad.add (q * 15)).block, (ad.add (q * 15)).off + 6, none⟩ = some c6 ∧ wr.cell? ⟨(ad.add (q * 15)).block, (ad.add (q * 15)).off + 7, none⟩ = some c7 ∧ wr.cell? ⟨(ad.add (q * 15)).block, (ad.add (q * 15)).off + 8, none⟩ = some c8 ∧ wr.cell? ⟨(ad.add (q * 15)).block, (ad.add (q * 15)).off + 9, none⟩ = some c9 ∧ wr.cell? ⟨(ad.add (q * 15)).block, (ad.add (q * 15)).off + 10, none⟩ = some c10 ∧ wr.cell? ⟨(ad.add (q * 15)).block, (ad.add (q * 15)).off + 11, none⟩ = some c11 ∧ wr.cell? ⟨(ad.add (q * 15)).block, (ad.add (q * 15)).off + 12, none⟩ = some c12 ∧ wr.cell? ⟨(ad.add (q * 15)).block, (ad.add (q * 15)).off + 13, none⟩ = some c13 ∧ wr.cell? ⟨(ad.add (q * 15)).block, (ad.add (q * 15)).off + 14, none⟩ = some c14) ∧ ∀ k, (k = w.heap.size ∨ k = ad.block) → k < w2.heap.size := by
 have hlt : ad.block < w.heap.size := by
  have := World.block_lt_of_cell? w _ (hc 0 _ rfl)
  rwa [aB_] at this
 have hB3 := lT_ hB hB2
 have key : ∀ j u, ([c0, c1, c2, c3, c4, c5, c6, c7, c8, c9, c10, c11, c12, c13, c14] : List Value)[j]? = some u → wr.cell? (ad.add (q * 15 + j)) = some u := fun j u hu => (hB3.cell (by rw [aB_]; exact hlt)).trans (hc j u hu)
 refine ⟨⟨hx, key 0 _ rfl, (by rw [← add_field _ _ 1 (by omega)]; exact key 1 _ rfl), (by rw [← add_field _ _ 2 (by omega)]; exact key 2 _ rfl), (by rw [← add_field _ _ 3 (by omega)]; exact key 3 _ rfl), (by rw [← add_field _ _ 4 (by omega)]; exact key 4 _ rfl), (by rw [← add_field _ _ 5 (by omega)]; exact key 5 _ rfl), (by rw [← add_field _ _ 6 (by omega)]; exact key 6 _ rfl), (by rw [← add_field _ _ 7 (by omega)]; exact key 7 _ rfl), (by rw [← add_field _ _ 8 (by omega)]; exact key 8 _ rfl), (by rw [← add_field _ _ 9 (by omega)]; exact key 9 _ rfl), (by rw [← add_field _ _ 10 (by omega)]; exact key 10 _ rfl), (by rw [← add_field _ _ 11 (by omega)]; exact key 11 _ rfl), (by rw [← add_field _ _ 12 (by omega)]; exact key 12 _ rfl), (by rw [← add_field _ _ 13 (by omega)]; exact key 13 _ rfl), (by rw [← add_field _ _ 14 (by omega)]; exact key 14 _ rfl)⟩, fun k hk => ?_⟩
 rcases hk with rfl | rfl
 ·exact hb
 ·exact Nat.lt_of_lt_of_le hlt hB.size
end Go.Proofs.YtjlnpdpkobpkiaaPSP

set_option linter.unusedVariables false
set_option linter.unusedSimpArgs false
namespace Go.Proofs.YtjlnpdpkobpkiaaPSP
open Go.RowKit Go.Extern.Stop Go.Stop Go.Extern Go.Proofs.YtjlnpdpkobpkiaaW.PrintWords Go.Proofs.YtjlnpdpkobpkiaaW.PrintLast Go.Proofs.YtjlnpdpkobpkiaaW.PrintMore Go.Proofs.Ytjlnpdpkobpkiaa
attribute [local go_sem] max2_int min2_int max_two min_two max_three min_three max_four min_four
set_option maxHeartbeats 1000000 in
set_option maxRecDepth 100000 in
theorem Turns_any {w : World} (pr agg at_ : Int) (al : List S71) (body : List Mk.PvM) (hr : Mk.RlN ⟨⟨pr, al⟩, agg, body⟩) {A A' : Option Addr} {c c' : Nat} (kA : Kd.C k71 w A al.length al) (lA : al.length ≤ c)
  (kB : Kd.C k76 w A' body.length body) (lB : body.length ≤ c') :
  Calls Try.prog 5 #[.agg #[.int .i64 pr, .slice A al.length c, .int .i64 agg, .slice A' body.length c'], .int .i64 at_] w (TruePost16 w) := by
 have HA := hid kA
 have HB := hid kB
 have LA := hid lA
 have LB := hid lB
 obtain ⟨bf, hf1, hf2⟩ := Mk.few_is [⟨⟨pr, al⟩, agg, body⟩] (fun r h => by rw [List.mem_singleton] at h; subst h; exact hr)
 have HF := hid hf1
 have HF2 := hid hf2
 clear hf1 hf2 hr kA kB lA lB
 have X0 : Hid (Below w.heap.size w (w.alloc (.cells #[.int .i64 pr, .slice A al.length c, .int .i64 agg, .slice A' body.length c'] 46))) := hid ((Below.refl _ _).alloc (Nat.le_refl _) _)
 have K0 : Hid ((w.alloc (.cells #[.int .i64 pr, .slice A al.length c, .int .i64 agg, .slice A' body.length c'] 46)).heap[w.heap.size]? = some (.cells #[.int .i64 pr, .slice A al.length c, .int .i64 agg, .slice A' body.length c'] 46)) := hid (heap_alloc_new w _)
 go_enter Try.func5, Try.ntmps5
 go_wp2_with fail
 refine (head16_any _).mono ?_
 rintro e0 w1 ⟨rfl, hb⟩
 have X1 := hid (lT_ X0.out hb)
 have K1 := hid (bB K0.out hb)
 clear hb X0 K0
 have c0 : w1.cell? ⟨w.heap.size, 0, none⟩ = some (.int .i64 pr) := (bC K1.out 0).trans rfl
 have c1 : w1.cell? ⟨w.heap.size, 1, none⟩ = some (.slice A al.length c) := (bC K1.out 1).trans rfl
 have c2 : w1.cell? ⟨w.heap.size, 2, none⟩ = some (.int .i64 agg) := (bC K1.out 2).trans rfl
 have c3 : w1.cell? ⟨w.heap.size, 3, none⟩ = some (.slice A' body.length c') := (bC K1.out 3).trans rfl
 go_wp2_with fail
 have X1a := hid (lA_ X1.out (.cells #[.int .i64 pr, .slice A al.length c, .int .i64 agg, .slice A' body.length c'] 46))
 refine (ergolaw13_Few.calls 20000 (some ⟨w1.heap.size, 0, none⟩) 1 [⟨⟨pr, al⟩, agg, body⟩] bf _
  (C_one k46 (heap_alloc_new w1 _) ⟨⟨pr, al⟩, agg, body⟩ _ (k46_mk _ ⟨⟨pr, al⟩, agg, body⟩ LA.out (Kd.C_below HA.out X1a.out) LB.out (Kd.C_below HB.out X1a.out)) rfl) (by simp) HF.out).mono ?_
 rintro e0 w2 ⟨rfl, hb⟩
 have X2 := hid (lT_ X1a.out hb)
 have K2 := hid (bB (bA K1.out _) hb)
 clear hb c0 c1 c2 c3 X1 X1a K1
 cases bf
 ·go_wp2
  go_ret
  exact ⟨rfl, X2.out⟩
 have hrb : Mk.RlB ⟨⟨pr, al⟩, agg, body⟩ := (HF2.out rfl).2 _ List.mem_cons_self
 obtain ⟨hr1, hr2, hr3, hr4⟩ := hrb
 simp only at hr1 hr2 hr3 hr4
 obtain ⟨args, g, ha1, ha2, ha3, hg, hmade⟩ := Mk.rule_made2 pr al agg hr1 hr2
 obtain ⟨a, hbits, hale⟩ := tn_bits at_
 have HMx := hid (hmade body hr3 hr4 20000 (by omega))
 have HMy := hid (hmade (Mk.rot body a) (by rw [Mk.rot_len]; exact hr3) (fun p hp => hr4 p (Mk.rot_mem hp)) 20000 (by omega))
 have HGx : Hid (∀ p ∈ body.map Mk.partOf, PGood p) := hid (fun p hp => by
  obtain ⟨q, hq, rfl⟩ := List.mem_map.1 hp
  exact (Mk.mk_good _ (Mk.partOf_is q (hr4 q hq)).1).1)
 have HGy : Hid (∀ p ∈ (Mk.rot body a).map Mk.partOf, PGood p) := hid (fun p hp => by
  obtain ⟨q, hq, rfl⟩ := List.mem_map.1 hp
  exact (Mk.mk_good _ (Mk.partOf_is q (hr4 q (Mk.rot_mem hq))).1).1)
 obtain ⟨pb, hpb⟩ : ∃ pb, pb = bytesL (Mk.predS pr) := ⟨_, rfl⟩
 rw [← hpb] at HMx HMy
 obtain ⟨hh1, hh2, hh3⟩ := Mk.head_good (s := pb) (by omega) ha3
 have HRO := hid (Mk.rot_order hr4 a hh3)
 have HH1 := hid hh1
 have HH2 := hid hh2
 have HH3 := hid hh3
 have HBL := hid hr3
 have HBITS := hid hbits
 have HALE := hid hale
 obtain ⟨n, hn⟩ : ∃ n, n = body.length := ⟨_, rfl⟩
 have HN := hid hn
 have HNL : Hid (n ≤ 8) := hid (by rw [hn]; exact hr3)
 clear hmade hr1 hr2 hr3 hr4 ha1 ha2 ha3 hg HF HF2 hpb hh1 hh2 hh3 hbits hale
 have c0 : w2.cell? ⟨w.heap.size, 0, none⟩ = some (.int .i64 pr) := (bC K2.out 0).trans rfl
 have c1 : w2.cell? ⟨w.heap.size, 1, none⟩ = some (.slice A al.length c) := (bC K2.out 1).trans rfl
 have c2 : w2.cell? ⟨w.heap.size, 2, none⟩ = some (.int .i64 agg) := (bC K2.out 2).trans rfl
 have c3 : w2.cell? ⟨w.heap.size, 3, none⟩ = some (.slice A' body.length c') := (bC K2.out 3).trans rfl
 have blt : w.heap.size < w2.heap.size := Go.Proofs.Ytjlnpdpkobpkiaa.blk_lt K2.out
 rw [← hn] at c3 K2 HB LB HBL ⊢
 clear hn
 obtain ⟨cs, hcs⟩ := cells_of HB.out
 have HCS := hid hcs
 clear hcs
 go_upto_region 6 with fail
 go_cut [6] (fun v6 wx => v6 = .int .i64 ((max n 1 : Nat) : Int) ∧ wx = w2.alloc (.cells #[.int .i64 pr, .slice A al.length c, .int .i64 agg, .slice none 0 0] 46))
 case first =>
  rcases Nat.eq_zero_or_pos n with h0 | h0
  ·subst h0
   go_wp2_with fail
   go_meet
   case rel => exact ⟨rfl, rfl⟩
  ·have h1 : (1 : Int) ≤ (n : Int) := Int.ofNat_le.2 h0
   have h2 : ¬ ((n : Int) < 1) := Int.not_lt.2 h1
   have HM : Hid (max n 1 = n) := hid (Nat.max_eq_left h0)
   go_wp2_with fail
   all_goals go_meet
   all_goals (refine ⟨?_, rfl⟩; rw [HM.out])
 case rest =>
  obtain ⟨rfl, rfl⟩ := hcut
  obtain ⟨N6, hN6⟩ : ∃ N6, N6 = max n 1 := ⟨_, rfl⟩
  rw [← hN6]
  have HN6 : Hid (0 < n → n = N6) := hid (fun h => by rw [hN6, Nat.max_eq_left h])
  clear hN6
  have T0 : Hid (TnOk w2 (.int .i64 pr) (.slice A al.length c) (.int .i64 agg) none 0 0 (rawRot cs n a 0) _) := hid TnOk.start
  have c3' : (w2.alloc (.cells #[.int .i64 pr, .slice A al.length c, .int .i64 agg, .slice none 0 0] 46)).cell? ⟨w.heap.size, 3, none⟩ = some (.slice A' n c') := (T0.out.be.cell blt).trans c3
  have BLT := hid blt
  clear c0 c1 c2 c3 blt
  go_wp2
  clear c3'
  go_loopg [30] (n + 1) (fun gk v30 wr => ∃ (i : Nat) (Y : Option Addr) (m cy : Nat), v30 = .int .i64 (i : Int) ∧ Hid (i ≤ n) ∧ Hid (n - i < gk) ∧ Hid (TnOk w2 (.int .i64 pr) (.slice A al.length c) (.int .i64 agg) Y m cy (rawRot cs n a i) wr))
  case atStart => exact ⟨0, none, 0, 0, rfl, hid (Nat.zero_le _), hid (Nat.lt_succ_of_le (Nat.sub_le n 0)), T0⟩
  case round =>
   clear T0
   obtain ⟨i, Y, m, cy, rfl, HI, HGK, T⟩ := hrel
   obtain ⟨wo, rfl⟩ : ∃ y : World, y = wr := ⟨_, rfl⟩
   by_cases hi : i < n
   ·obtain ⟨n1, n2, n3, n4⟩ := tn_num hi HNL.out HALE.out
    obtain ⟨x, hx⟩ : ∃ x, body[(i + a) % n]? = some x := ⟨_, List.getElem?_eq_getElem (by rw [← HN.out]; exact n4)⟩
    obtain ⟨hK, ad, rfl, hcell⟩ := HCS.out _ x hx
    have hlen := k76.K_len hK
    obtain ⟨B3, e3, B14, e14, he, _, _, _, _⟩ := k76_open hK
    have hone := k76.K_one hK
    rw [he] at hcell hone
    have HIL := hid hi
    have hi2 := sflt hi
    have w1i := sfw2 hi (Nat.le_trans HNL.out (by decide))
    have hn6 := HN6.out (Nat.lt_of_le_of_lt (Nat.zero_le i) hi)
    subst hn6
    have HX := hid (tn_facts (q := (i + a) % n) (b := c') (n := n) (w2 := w2) (wr := wo) hcell X2.out T.out.be BLT.out ((bC (bB K2.out T.out.be) 3).trans rfl))
    have HE := hid he
    clear hx hK hcell hlen he hi
    have HCAP : Hid (((rawRot cs n a i).length + 1) * 152 ≤ 140737488355328) := hid (by rw [rawRot_len]; have h1 := HIL.out; have h2 := HNL.out; exact Nat.le_trans (Nat.mul_le_mul_right 152 (Nat.le_trans h1 h2)) (by decide))
    go_wp2_with fail
    refine rgT _ _ _ _ _ _ _ _ _ _ _ _ _ _ _ _ _ _ _ _ _ _ _ _ _ _ _ _ _ _ _ _ _ _ _ _ _ _ _ _ _ _ _ _ _ _ _ _ _ _ _ _ _ _ _ _ _ _ _ _ _ _ _ _ _ _ _ _ _ (fun c a a' w hd h => by cases a; cases a'; simp only at hd; subst hd; exact h) (hid T.out.be) (hid (Nat.le_refl _)) (hid T.out.ko) (hid HX.out.1) (hid HX.out.2) (hid T.out.rd) HCAP (hid hone) HBITS.out n1 n2 n3 (Int.natCast_nonneg _) (sflt n4) ?_
    intro v33 v34 v35 v36 v37 v38 v39 v40 v41 v42 v43 v44 v45 v46 v47 Y1 m1 cy1 W1 hb1 hk1 hr1
    have T1 : Hid (TnOk w2 (.int .i64 pr) (.slice A al.length c) (.int .i64 agg) Y1 m1 cy1 (rawRot cs n a (i + 1)) W1) := hid ⟨hb1, hk1, by rw [rawRot_succ, HE.out]; exact hr1⟩
    clear hb1 hk1 hr1 n1 n2 n3 n4 hone HX T
    go_wp2_with fail
    go_roundg (n - i)
    case measure => exact HGK.out
    case rel => exact ⟨i + 1, Y1, m1, cy1, by first | rfl | (rw [w1i]; done) | (simp [w1i]; done), hid HIL.out, hid (sfmeas HGK.out HIL.out), T1⟩
   ·obtain rfl : n = i := Nat.le_antisymm (Nat.not_lt.1 hi) HI.out
    have hnb := HN.out
    subst hnb
    obtain ⟨hm, hmc, hCY⟩ := rot_C (w := w) (fun q x hx => (HCS.out q x hx).1) (lT_ X2.out T.out.be) T.out.rd
    have hm' : m = (Mk.rot body a).length := by rw [Mk.rot_len]; exact hm
    subst hm'
    have HCY := hid hCY
    have HMC := hid hmc
    have KO := hid T.out.ko
    have XT := hid (lT_ X2.out T.out.be)
    have c0 : wo.cell? ⟨w.heap.size, 0, none⟩ = some (.int .i64 pr) := (bC (bB K2.out T.out.be) 0).trans rfl
    have c1 : wo.cell? ⟨w.heap.size, 1, none⟩ = some (.slice A al.length c) := (bC (bB K2.out T.out.be) 1).trans rfl
    have c2 : wo.cell? ⟨w.heap.size, 2, none⟩ = some (.int .i64 agg) := (bC (bB K2.out T.out.be) 2).trans rfl
    have c3 : wo.cell? ⟨w.heap.size, 3, none⟩ = some (.slice A' body.length c') := (bC (bB K2.out T.out.be) 3).trans rfl
    obtain ⟨ps, hps⟩ : ∃ ps, ps = body.map Mk.partOf := ⟨_, rfl⟩
    obtain ⟨ps', hps'⟩ : ∃ ps, ps = (Mk.rot body a).map Mk.partOf := ⟨_, rfl⟩
    have hpl : ps.length ≤ 1000 := by rw [hps, List.length_map]; exact Nat.le_trans HNL.out (by decide)
    have hpl' : ps'.length ≤ 1000 := by rw [hps', List.length_map, Mk.rot_len]; exact Nat.le_trans HNL.out (by decide)
    have HPLL : Hid ((entsOf ps').n = (entsOf ps).n) := hid (by show ps'.length = ps.length; rw [hps, hps', List.length_map, List.length_map, Mk.rot_len])
    rw [← hps] at HMx HGx HRO
    rw [← hps'] at HMy HGy HRO
    have HPL := hid hpl
    have HPL' := hid hpl'
    have HRx := hid (ergolaw13_R_Rule.calls 20000 pr A c al agg A' c' body pb args g ps 0 wo (Kd.C_below HA.out XT.out) LA.out (Kd.C_below HB.out XT.out) LB.out HMx.out)
    obtain ⟨hv, hhv⟩ : ∃ hv, hv = headV pb args := ⟨_, rfl⟩
    have HHV := hid hhv
    rw [← hhv] at HRO
    clear hm hmc hCY T hi hps hps' hpl hpl' hhv K2
    go_wp2_with fail
    refine HRx.out.mono ?_
    rintro e0 w3 ⟨v1, v3, rfl, hR, hN, hb⟩
    obtain ⟨D, d, rfl, hdl, hD⟩ := Kd.R_reads hR
    obtain ⟨B, b, rfl, hbl, hBk⟩ := Kd.N_reads hN
    have X3 := hid (lT_ XT.out hb)
    have KO3 := hid (bB KO.out hb)
    have HCY3 := hid (Kd.C_below HCY.out hb)
    have HOx := hid (Order_any pb args g ps 0 HGx.out HH1.out HH2.out (fun u hu => Mk.nm_max (HH3.out u hu)) HPL.out hD hdl hBk hbl)
    clear hR hN hb hD hBk hdl hbl c0 c1 c2 c3 HRx KO HCY
    go_wp2_with fail
    refine HOx.out.mono ?_
    intro e w4 ho
    rw [← HHV.out] at ho
    cases hox : orderP (entsOf ps) hv with
    | error ex =>
     rw [hox] at ho
     obtain ⟨ep, ev⟩ := ex
     obtain ⟨fx, rfl, _, hb4⟩ := ho
     have X4 := hid (lT_ X3.out hb4)
     have KO4 := hid (bB KO3.out hb4)
     have HCY4 := hid (Kd.C_below HCY3.out hb4)
     clear hb4
     have y0 : w4.cell? ⟨w2.heap.size, 0, none⟩ = some (.int .i64 pr) := cell_blk KO4.out 0
     have y1 : w4.cell? ⟨w2.heap.size, 1, none⟩ = some (.slice A al.length c) := cell_blk KO4.out 1
     have y2 : w4.cell? ⟨w2.heap.size, 2, none⟩ = some (.int .i64 agg) := cell_blk KO4.out 2
     have y3 : w4.cell? ⟨w2.heap.size, 3, none⟩ = some (.slice Y (Mk.rot body a).length cy) := cell_blk KO4.out 3
     have HRy := hid (ergolaw13_R_Rule.calls 20000 pr A c al agg Y cy (Mk.rot body a) pb args g ps' 0 w4 (Kd.C_below HA.out X4.out) LA.out HCY4.out HMC.out HMy.out)
     have HOX := hid hox
     clear hox
     go_wp2_with fail
     refine HRy.out.mono ?_
     rintro e0 w5 ⟨v1, v3, rfl, hR, hN, hb⟩
     obtain ⟨D', d', rfl, hdl, hD⟩ := Kd.R_reads hR
     obtain ⟨B', b', rfl, hbl, hBk⟩ := Kd.N_reads hN
     have X5 := hid (lT_ X4.out hb)
     have HOy := hid (Order_any pb args g ps' 0 HGy.out HH1.out HH2.out (fun u hu => Mk.nm_max (HH3.out u hu)) HPL'.out hD hdl hBk hbl)
     clear hR hN hb hD hBk hdl hbl y0 y1 y2 y3 HRy
     go_wp2_with fail
     refine HOy.out.mono ?_
     intro e w6 ho
     rw [← HHV.out] at ho
     cases hoy : orderP (entsOf ps') hv with
     | ok oy =>
      exfalso
      obtain ⟨r, hr⟩ := HRO.out.2 ⟨oy, hoy⟩
      rw [HOX.out] at hr
      cases hr
     | error ey =>
      rw [hoy] at ho
      obtain ⟨eq, evy⟩ := ey
      obtain ⟨fy, rfl, _, hb6⟩ := ho
      have X6 := hid (lT_ X5.out hb6)
      clear hb6 hoy
      go_wp2
      go_quiet (fail)
      go_wp2
      go_ret
      exact ⟨rfl, pD X6.out _⟩
    | ok ox =>
     rw [hox] at ho
     obtain ⟨O, oc, rfl, _, _, hb4⟩ := ho
     have HLX := hid (orderP_ok hox).1
     have X4 := hid (lT_ X3.out hb4)
     have KO4 := hid (bB KO3.out hb4)
     have HCY4 := hid (Kd.C_below HCY3.out hb4)
     clear hb4
     have y0 : w4.cell? ⟨w2.heap.size, 0, none⟩ = some (.int .i64 pr) := cell_blk KO4.out 0
     have y1 : w4.cell? ⟨w2.heap.size, 1, none⟩ = some (.slice A al.length c) := cell_blk KO4.out 1
     have y2 : w4.cell? ⟨w2.heap.size, 2, none⟩ = some (.int .i64 agg) := cell_blk KO4.out 2
     have y3 : w4.cell? ⟨w2.heap.size, 3, none⟩ = some (.slice Y (Mk.rot body a).length cy) := cell_blk KO4.out 3
     have HRy := hid (ergolaw13_R_Rule.calls 20000 pr A c al agg Y cy (Mk.rot body a) pb args g ps' 0 w4 (Kd.C_below HA.out X4.out) LA.out HCY4.out HMC.out HMy.out)
     have HOX := hid hox
     clear hox
     go_wp2_with fail
     refine HRy.out.mono ?_
     rintro e0 w5 ⟨v1, v3, rfl, hR, hN, hb⟩
     obtain ⟨D', d', rfl, hdl, hD⟩ := Kd.R_reads hR
     obtain ⟨B', b', rfl, hbl, hBk⟩ := Kd.N_reads hN
     have X5 := hid (lT_ X4.out hb)
     have HOy := hid (Order_any pb args g ps' 0 HGy.out HH1.out HH2.out (fun u hu => Mk.nm_max (HH3.out u hu)) HPL'.out hD hdl hBk hbl)
     clear hR hN hb hD hBk hdl hbl y0 y1 y2 y3 HRy
     go_wp2_with fail
     refine HOy.out.mono ?_
     intro e w6 ho
     rw [← HHV.out] at ho
     cases hoy : orderP (entsOf ps') hv with
     | error ey =>
      exfalso
      obtain ⟨r, hr⟩ := HRO.out.1 ⟨ox, HOX.out⟩
      rw [hoy] at hr
      cases hr
     | ok oy =>
      rw [hoy] at ho
      obtain ⟨O', oc', rfl, _, _, hb6⟩ := ho
      have hly := (orderP_ok hoy).1
      have hxy : oy.length = ox.length := by rw [hly, HLX.out]; exact HPLL.out
      have X6 := hid (lT_ X5.out hb6)
      rw [hxy]
      clear hb6 hoy hly hxy
      go_wp2
      go_quiet (fail)
      go_wp2
      go_ret
      exact ⟨rfl, pD X6.out _⟩
end Go.Proofs.YtjlnpdpkobpkiaaPSP

set_option linter.unusedVariables false
namespace Go.Proofs.Ytjlnpdpkobpkiaa
open Go Go.Deep Go.ChangeShapes Go.WideShapes Go.RowKit Go.Proofs.YtjlnpdpkobpkiaaPSP Go.Proofs.YtjlnpdpkobpkiaaW.PrintWords
theorem opensR {n : Nat} : OpensAt Try.prog n 46 k46.K Mk.RlN := Mk.opensR
abbrev zeroR : Value := .agg #[.int .i64 0, .slice none 0 0, .int .i64 0, .slice none 0 0]
theorem SafeTurns_row {w : World} {r : Mk.RlM} {c0 : Array Value} (R0 : k46.K w r c0.toList) (o0 : Mk.RlN r) {a : Int} (b1 : -9223372036854775808 ≤ a) (b2 : a ≤ 9223372036854775807) : Calls Try.prog 5 #[.agg c0, .int .i64 a] w (fun e w' => e = .returned (.bool true) ∧ Below w.heap.size w w') := by
 obtain ⟨A1, c1, A3, c3, h, l1, g1, l3, g3⟩ := k46_open R0
 obtain rfl : c0 = _ := by rw [← Array.toArray_toList (xs := c0), h]
 exact Turns_any r.f0.f0 r.f1 a r.f0.f1 r.f2 o0 g1 l1 g3 l3
end Go.Proofs.Ytjlnpdpkobpkiaa


namespace Go.Proofs.Ytjlnpdpkobpkiaa.lawSafeTurns
open Go.ChangeShapes Go.WideShapes Go.ChangeAt Go.RowKit
open Go.ChangeMaps (open_string shut_string)
set_option linter.unusedVariables false
theorem own : ownKnob Try.prog.godebug = none := by kernel_rfl
theorem laidOut : laidOutB Try.prog = true := by kernel_rfl
set_option maxRecDepth 100000 in
theorem lifted (os : Os) (started : os.Started) (H : Type) (enc : TypeId × Value → H) :
  ReturnsInHanded {} Try.checked os 5 .any (Rows.safeTurnsSpec.pre6 enc Try.prog Try.f5 Rows.safeTurnsRow.domain false) (Rows.safeTurnsSpec.post enc Try.prog Try.f5 false true false false) := by
 refine returnsInHanded_of_change_sized (C := Try.checked) own started (by kernel_rfl) Try.func5
  (ChangeSpec.witness6 (enc := enc) (C := Try.checked) false ⟨#[], #[zeroR, .int .i64 0], []⟩ 8 (by kernel_rfl) (by kernel_rfl) (by kernel_rfl) (by kernel_rfl)) ?_
 intro W base args ds gs before hval0 hW hcnd hsz0 _
 have hsz : (DataW.weightsEach Try.prog (Try.f5.params.toList ++ Rows.safeTurnsSpec.plain.varTypes Try.prog) (ds ++ gs)).all (· ≤ reachBytes) = true := hsz0
 have hval : ∀ (j : Nat) t v, Try.f5.params[j]? = some t → args[j]? = some v → Value.okWide Try.prog W .any base t v := hval0
 have hW' := hW
 obtain ⟨p, q, hA0, hV, rfl, hfz, hnd⟩ := hW
 have hA : DataW.TrodAll enc Try.prog W 0 (fun _ => true) true Try.f5.params.toList args.toList ds p := hA0
 rw [Try.params5] at hA hval hsz
 obtain ⟨v0, vs0, d0, ds0, p0, q0, hargs, rfl, rfl, h0, r0⟩ := trodAll_cons hA
 obtain ⟨v1, vs1, d1, ds1, p1, q1, rfl, rfl, rfl, h1, r1⟩ := trodAll_cons r0
 obtain ⟨rfl, rfl, rfl⟩ := trodAll_nil r1
 obtain rfl : args = #[v0, v1] := by cases args; simp_all
 obtain ⟨rfl, rfl⟩ := trodVars_none hV
 obtain ⟨cs0, rfl, _⟩ := okWide_struct Try.underlying46 (hval 0 46 v0 rfl rfl)
 have k0 := h0
 have lt0 : ∀ x ∈ p0, x.block < W.heap.size := by obtain ⟨m, hm⟩ := k0; exact DataW.trod_lt m _ _ _ hm
 obtain ⟨fuel0, hf0⟩ := h0
 obtain ⟨x0, R0, o0⟩ := opensR (Nat.le_refl _) hf0
 obtain ⟨a1, rfl, rfl, rfl, w1⟩ := open_int Try.underlying3 (hval 1 3 v1 rfl rfl) h1
 have b1 := bounds_i64 w1
 clear hA0 hval0 hsz0 hsz
 refine (SafeTurns_row R0 o0 b1.1 b1.2).mono fun e W' ⟨he, bel⟩ => ?_
 subst he
 exact ⟨_, rfl, _, _, _, [], _, [], hW', trodAll_mk1 (shut_bool Try.underlying4 _), (trodAll_cons_mk (Below.trod laidOut (by kernel_rfl) (of_decide_eq_true (by kernel_rfl)) k0 bel lt0) (trodAll_cons_mk (shut_int Try.underlying3 w1) trodAll_mk0)), rfl, bel.frame _, fun h => by cases h⟩
theorem over : Rows.safeTurnsRow.holds Try.pinned (OpenSpec.ofChange Rows.safeTurnsSpec) :=
 OpenClaim.holds_of_wide 5 Try.f5 rfl rfl rfl rfl rfl rfl rfl ⟨rfl, rfl, rfl, rfl, rfl⟩ rfl rfl rfl rfl rfl (by kernel_rfl) Try.func5 (by kernel_rfl)
  (of_decide_eq_true (by kernel_rfl)) (by unfold Func.isWrapper; first | (rw [if_pos (by decide +kernel)]; kernel_rfl) | (rw [if_neg (by decide +kernel)]; exact ⟨rfl, rfl⟩))
  (fun os started H enc _ => lifted os started H enc)
theorem proved : Rows.SafeTurnsSaid := over
end Go.Proofs.Ytjlnpdpkobpkiaa.lawSafeTurns

