import Derived.Test.YtjlnpdpkobpkiaaZ2Hf16
import Derived.Test.YtjlnpdpkobpkiaaZ2OpS
import Derived.Test.YtjlnpdpkobpkiaaZ2PSQx10
set_option linter.unusedVariables false
set_option linter.unusedSimpArgs false
namespace Go.Proofs.YtjlnpdpkobpkiaaPSP
open Go.RowKit Go.Extern.Stop Go.Stop Go.Extern Go.Proofs.YtjlnpdpkobpkiaaW.PrintWords Go.Proofs.Ytjlnpdpkobpkiaa
theorem in_l0 (l : List ByteArray) (v : ByteArray) (hl : l.length ≤ 1000000) : ∀ (d i k : Nat), i + d = l.length → d < k → ergolaw16_in.l0 k v l (l.length : Int) (i : Int) = some (knows (l.drop i) v) := by
 intro d
 induction d with
 | zero =>
  intro i k hi hk
  obtain ⟨k, rfl⟩ : ∃ m, k = m + 1 := ⟨k - 1, by omega⟩
  rw [ergolaw16_in.l0, if_neg (by omega), List.drop_eq_nil_of_le (by omega)]
  rfl
 | succ d ih =>
  intro i k hi hk
  obtain ⟨k, rfl⟩ : ∃ m, k = m + 1 := ⟨k - 1, by omega⟩
  have hlt : i < l.length := by omega
  rw [ergolaw16_in.l0, if_pos (by omega), if_pos (by omega), if_pos (by omega), rdOf_at l i hlt, w64 i (by omega), List.drop_eq_getElem_cons hlt]
  have e : knows (l[i] :: l.drop (i + 1)) v = (l[i].toList == v.toList || knows (l.drop (i + 1)) v) := by unfold knows; rw [List.any_cons]
  rw [e]
  by_cases h0 : l[i].toList = v.toList
  ·rw [if_pos h0, show (l[i].toList == v.toList) = true by simpa using h0, Bool.true_or]
  ·rw [if_neg h0, show (l[i].toList == v.toList) = false by simpa using h0, Bool.false_or]
   exact ih (i + 1) k (by omega) (by omega)
theorem in_is (l : List ByteArray) (v : ByteArray) (hl : l.length ≤ 1000000) (k : Nat) (hk : l.length < k) : ergolaw16_in.f k l v = some (knows l v) := by
 have := in_l0 l v hl l.length 0 k (by omega) hk
 unfold ergolaw16_in.f
 rw [show ((0 : Nat) : Int) = 0 from rfl] at this
 rw [this]
 simp
theorem lacks_l0 (kn l : List ByteArray) (hk : kn.length ≤ 1000000) (hl : l.length ≤ 1000000) : ∀ (d i k : Nat), i + d = l.length → d + kn.length + 1 < k → ergolaw16_lacks.l0 k kn l (l.length : Int) (i : Int) = some (lackL kn (l.drop i)) := by
 intro d
 induction d with
 | zero =>
  intro i k hi hk
  obtain ⟨k, rfl⟩ : ∃ m, k = m + 1 := ⟨k - 1, by omega⟩
  rw [ergolaw16_lacks.l0, if_neg (by omega), List.drop_eq_nil_of_le (by omega)]
  rfl
 | succ d ih =>
  intro i k hi hkk
  obtain ⟨k, rfl⟩ : ∃ m, k = m + 1 := ⟨k - 1, by omega⟩
  have hlt : i < l.length := by omega
  rw [ergolaw16_lacks.l0, if_pos (by omega), if_pos (by omega), if_pos (by omega), rdOf_at l i hlt, w64 i (by omega), List.drop_eq_getElem_cons hlt, in_is kn _ hk k (by omega)]
  simp only [Option.bind_some]
  rw [lackL]
  by_cases h : knows kn l[i] = true
  ·rw [if_pos h, if_pos h]
   exact ih (i + 1) k (by omega) (by omega)
  ·rw [if_neg h, if_neg h]
theorem lacks_is (kn l : List ByteArray) (hk : kn.length ≤ 1000000) (hl : l.length ≤ 1000000) : ergolaw16_lacks.f 3000000 kn l = some (lackL kn l) := by
 have := lacks_l0 kn l hk hl l.length 0 3000000 (by omega) (by omega)
 unfold ergolaw16_lacks.f
 rw [show ((0 : Nat) : Int) = 0 from rfl] at this
 rw [this]
 simp
theorem needs_is {p : SfP} (hp : PGood p) : ergolaw16_needs.f 2000000 p.f0 p.f1.f0 p.f1.f1 p.f2 p.f3.f0 p.f3.f1 p.f3.f2 p.f4.f0 p.f4.f1 p.f4.f2 p.f5 p.f6.f0.f0 p.f6.f0.f1 p.f6.f0.f2 p.f6.f1 p.f6.f2 = some (needV p) := by
 unfold ergolaw16_needs.f needV
 split
 ·rfl
 ·split
  ·rename_i h3
   have := hp.e h3
   unfold xvF at this
   rw [this]
   rfl
  ·have := hp.v
   unfold pvF at this
   rw [this]
   rfl
theorem needs16_any {p : SfP} (hp : PGood p) {w : World} {A1 A2 : Option Addr} {c1 c2 : Nat} (h1 : Kd.C k61 w A1 p.f1.f1.length p.f1.f1) (l1 : p.f1.f1.length ≤ c1) (h2 : Kd.C k65 w A2 p.f6.f2.length p.f6.f2) (l2 : p.f6.f2.length ≤ c2) :
  Calls Try.prog 16 #[ptV p A1 c1 A2 c2] w (fun e w' => ∃ (A : Option Addr) (c : Nat), e = .returned (.slice A (needV p).length c) ∧ (needV p).length ≤ c ∧ Kd.C Kd.string w' A (needV p).length (needV p) ∧ Below w.heap.size w w') :=
 (ergolaw16_needs.calls 2000000 p.f0 p.f1.f0 A1 c1 p.f1.f1 p.f2 p.f3.f0 p.f3.f1 p.f3.f2 p.f4.f0 p.f4.f1 p.f4.f2 p.f5 p.f6.f0.f0 p.f6.f0.f1 p.f6.f0.f2 p.f6.f1 A2 c2 p.f6.f2 _ w h1 l1 h2 l2 (needs_is hp)).mono fun e w' h => by
  obtain ⟨v, rfl, hR, hb⟩ := h
  obtain ⟨A, c, rfl, hl, hC⟩ := Kd.R_reads hR
  exact ⟨A, c, rfl, hl, hC, hb⟩
def seenL (n : Nat) (S : List Nat) : List Bool := (List.range n).map fun i => S.contains i
theorem seenL_len (n : Nat) (S : List Nat) : (seenL n S).length = n := by unfold seenL; simp
theorem seenL_nil (n : Nat) : seenL n [] = List.replicate n false := by
 unfold seenL
 apply List.ext_getElem?
 intro i
 by_cases h : i < n
 ·rw [List.getElem?_map, List.getElem?_range h, List.getElem?_replicate, if_pos h]; rfl
 ·rw [List.getElem?_map, List.getElem?_eq_none (by simpa using h), List.getElem?_replicate, if_neg h]; rfl
theorem seenL_at {n i : Nat} (S : List Nat) (h : i < n) : rdOf false (seenL n S) (i : Int) = S.contains i := by
 unfold rdOf seenL
 rw [Int.toNat_natCast, List.getD_eq_getElem?_getD, List.getElem?_map, List.getElem?_range h]
 rfl
theorem seenL_set {n i : Nat} (S : List Nat) (h : i < n) : (seenL n S).set i true = seenL n (S ++ [i]) := by
 apply List.ext_getElem?
 intro j
 rw [List.getElem?_set, seenL_len]
 unfold seenL
 by_cases e : i = j
 ·subst e
  rw [if_pos rfl, if_pos h, List.getElem?_map, List.getElem?_range h]
  simp
 ·rw [if_neg e]
  by_cases hj : j < n
  ·rw [List.getElem?_map, List.getElem?_map, List.getElem?_range hj]
   have h1 : (j == i) = false := by simpa using fun h => e h.symm
   simp [h1]
   omega
  ·rw [List.getElem?_map, List.getElem?_map, List.getElem?_eq_none (by simpa using hj)]; rfl
structure EvOk (w : World) (n : Nat) (S : List Nat) (K : List ByteArray) (v6 : Value) (g7 c7 : Nat) (wr : World) : Prop where
 be : Below w.heap.size w wr
 kn : Kd.R Kd.string 9 wr w.heap.size (fun _ => True) v6 K
 se : Kd.R Kd.bool 4 wr w.heap.size (fun _ => True) (.slice (some ⟨g7, 0, none⟩) n c7) (seenL n S)
section
variable {w : World} {n : Nat} {S : List Nat} {K : List ByteArray} {v6 : Value} {g7 c7 : Nat} {wr w' : World}
theorem EvOk.below (h : EvOk w n S K v6 g7 c7 wr) (hb : Below wr.heap.size wr w') : EvOk w n S K v6 g7 c7 w' := ⟨lT_ h.be hb, Kd.R_below h.kn hb, Kd.R_below h.se hb⟩
theorem EvOk.cell (h : EvOk w n S K v6 g7 c7 wr) {i : Nat} (hi : i < n) : wr.cell? ⟨g7, i, none⟩ = some (.bool (S.contains i)) ∧ wr.frozen? ⟨g7, i, none⟩ = false := by
 have hs := h.se
 have := Kd.R_celln false hs (i : Int) (by omega) (by omega)
 rw [Int.toNat_natCast, seenL_at S hi] at this
 exact this
theorem EvOk.set (h : EvOk w n S K v6 g7 c7 wr) {i : Nat} (hi : i < n) : EvOk w n (S ++ [i]) K v6 g7 c7 (wr.setCell ⟨g7, i, none⟩ (.bool true)) := by
 have hp := Kd.R_putn h.se (i : Int) true
 rw [Int.toNat_natCast, seenL_set S hi] at hp
 have hS : Fr (fun k => k = g7) wr (wr.setCell ⟨g7, i, none⟩ (.bool true)) := Fr.setCell wr ⟨g7, i, none⟩ _
 have hb := Kd.R_base h.se g7 rfl
 obtain ⟨cells, ht⟩ := Kd.R_typed h.se g7 rfl
 refine ⟨h.be.trans (hS.below h.be.size (fun k e => by omega)), ?_, hp⟩
 have hne := Kd.R_ne h.kn ht (by decide)
 refine Kd.R_reok (ok1 := fun k => some k = v6.ownBlock) rfl (Kd.R_step (Kd.R_tight2 rfl h.kn |> fun q => Kd.R_mono q (fun k hk => hk.1)) (fun k hk hlt => hS.block k hlt (fun e => hne (by rw [← hk, e])))) (fun _ _ => trivial)
theorem EvOk.app (h : EvOk w n S K v6 g7 c7 wr) {v' : Value} {K' : List ByteArray} (hR : Kd.R Kd.string 9 w' w.heap.size (fun _ => True) v' K') (hB : Below w.heap.size w w') (hg : wr.grownBy w' v6.ownBlock) : EvOk w n S K' v' g7 c7 w' := by
 refine ⟨hB, hR, ?_⟩
 obtain ⟨cells, ht⟩ := Kd.R_typed h.se g7 rfl
 have hne := Kd.R_ne h.kn ht (by decide)
 exact Kd.R_grown1 h.se rfl hg (fun e => hne (by rw [e]; rfl))
end
theorem at_out {w : World} {A : Option Addr} {n : Nat} {out : List Nat} (h : Kd.C (Kd.int .i64) w A n (out.map fun (i : Nat) => (i : Int))) (j : Nat) (hj : j < n) : ∃ ad x, A = some ad ∧ out[j]? = some x ∧ w.cell? (ad.add j) = some (.int .i64 (x : Int)) := by
 have hl := Kd.C_len h
 rw [List.length_map] at hl
 obtain ⟨ad, e, hc⟩ := Kd.at_int h (j : Int) (by omega) (by omega)
 have hx : out[j]? = some out[j] := List.getElem?_eq_getElem (by omega)
 refine ⟨ad, out[j], e, hx, ?_⟩
 rw [Int.toNat_natCast] at hc
 rw [hc]
 congr 2
 unfold rd
 rw [Int.toNat_natCast, List.getD_eq_getElem?_getD, List.getElem?_map, hx]
 rfl
theorem take_next {out : List Nat} {j x : Nat} (h : out[j]? = some x) : out.take (j + 1) = out.take j ++ [x] := by
 rw [List.take_add_one, h]
 rfl
theorem evcap {ps : List SfP} (h : ∀ p ∈ ps, PGood p) {out : List Nat} {n : Nat} (ho : out.length ≤ n) (hn : n ≤ 8) {p : SfP} (hp : PGood p) : ((knownOf (entsOf ps) out).length + (partV p).length) * 16 ≤ 140737488355328 ∧ (knownOf (entsOf ps) out).length ≤ 1000000 := by
 have h1 := knownOf_len (entsOf_len h) out
 have h2 := hp.lv
 have h3 : (knownOf (entsOf ps) out).length ≤ 800000 := Nat.le_trans h1 (by omega)
 exact ⟨by omega, by omega⟩
theorem evcap2 {ps : List SfP} (h : ∀ p ∈ ps, PGood p) {out : List Nat} {n : Nat} (ho : out.length ≤ n) (hn : n ≤ 8) : (knownOf (entsOf ps) out).length ≤ 1000000 := by
 have h1 := knownOf_len (entsOf_len h) out
 exact Nat.le_trans h1 (by omega)
structure EvPre (w : World) (v6 : Value) (g7 c7 i : Nat) (wr : World) : Prop where
 be : Below w.heap.size w wr
 kn : Kd.R Kd.string 9 wr w.heap.size (fun _ => True) v6 []
 se : wr.ownsRow w.heap.size 4 1 (.slice (some ⟨g7, 0, none⟩) i c7) i (List.replicate i (.bool false))
theorem EvPre.start (w : World) : EvPre w (.slice (some ⟨w.heap.size, 0, none⟩) 0 0) (w.heap.size + 1) 0 0 ((w.alloc (.cells #[] 9)).alloc (.cells #[] 4)) := by
 have s1 : (w.alloc (.cells #[] 9)).heap.size = w.heap.size + 1 := by simp
 have b1 : Below w.heap.size w (w.alloc (.cells #[] 9)) := (Below.refl _ _).alloc (Nat.le_refl _) _
 have r1 : Kd.R Kd.string 9 (w.alloc (.cells #[] 9)) w.heap.size (fun _ => True) (.slice (some ⟨w.heap.size, 0, none⟩) 0 0) [] := ⟨fun _ _ => trivial, [], Go.Proofs.Ytjlnpdpkobpkiaa.own_lit0 _ _ _ (Nat.le_refl _), rfl, fun j p hj => by simp at hj⟩
 have o1 := Go.Proofs.Ytjlnpdpkobpkiaa.own_lit0 (base := w.heap.size) (w.alloc (.cells #[] 9)) 4 1 (by omega)
 rw [s1] at o1
 exact ⟨lA_ b1 _, Kd.R_alloc r1 _, o1⟩
theorem EvPre.app {w : World} {v6 : Value} {g7 c7 i : Nat} {wr w' : World} (h : EvPre w v6 g7 c7 i wr) {g8 c8 : Nat} (hown : w'.ownsRow w.heap.size 4 1 (.slice (some ⟨g8, 0, none⟩) (i + 1) c8) (i + 1) (List.replicate i (.bool false) ++ [.bool false])) (hg : wr.grownBy w' (Value.slice (some ⟨g7, 0, none⟩) i c7).ownBlock) : EvPre w v6 g8 c8 (i + 1) w' := by
 have hS := Fr.grown hg
 have ho : ∀ k, (Value.slice (some ⟨g7, 0, none⟩) i c7).ownBlock = some k → w.heap.size ≤ k := fun k hk => (Go.Proofs.Ytjlnpdpkobpkiaa.own_lt h.se k hk).2
 obtain ⟨cur, hcur⟩ := Go.Proofs.Ytjlnpdpkobpkiaa.own_blk h.se (k := g7) rfl
 refine ⟨h.be.trans (hS.below h.be.size (fun k e => ho k e)), Kd.R_grown1 h.kn rfl hg (Kd.R_ne h.kn hcur (by decide)), ?_⟩
 rwa [← List.replicate_succ'] at hown
theorem EvPre.fin {w : World} {v6 : Value} {g7 c7 n : Nat} {wr : World} (h : EvPre w v6 g7 c7 n wr) : EvOk w n [] [] v6 g7 c7 wr := by
 refine ⟨h.be, h.kn, ?_⟩
 refine Kd.R_of_own (enc := Value.bool) (h1 := fun _ => rfl) ?_ (fun _ _ => trivial)
 rw [seenL_len, seenL_nil]
 unfold encs
 rw [List.map_replicate]
 exact h.se
end Go.Proofs.YtjlnpdpkobpkiaaPSP
set_option linter.unusedVariables false
set_option linter.unusedSimpArgs false
namespace Go.Proofs.YtjlnpdpkobpkiaaPSP
open Go.RowKit Go.Extern.Stop Go.Stop Go.Extern Go.Proofs.YtjlnpdpkobpkiaaW.PrintWords Go.Proofs.YtjlnpdpkobpkiaaW.PrintLast Go.Proofs.Ytjlnpdpkobpkiaa
def TruePost16 (w : World) (e : Ending) (w' : World) : Prop := e = .returned (.bool true) ∧ Below w.heap.size w w'
set_option maxHeartbeats 8000000 in
set_option maxRecDepth 100000 in
theorem Each_any {w : World} (pr agg : Int) (al : List S71) (body : List Mk.PvM) (hr : Mk.RlN ⟨⟨pr, al⟩, agg, body⟩) {A A' : Option Addr} {c c' : Nat} (kA : Kd.C k71 w A al.length al) (lA : al.length ≤ c)
  (kB : Kd.C k76 w A' body.length body) (lB : body.length ≤ c') :
  Calls Try.prog 4 #[.agg #[.int .i64 pr, .slice A al.length c, .int .i64 agg, .slice A' body.length c']] w (TruePost16 w) := by
 have HA := hid kA
 have HB := hid kB
 have LA := hid lA
 have LB := hid lB
 obtain ⟨bf, hf1, hf2⟩ := Mk.few_is [⟨⟨pr, al⟩, agg, body⟩] (fun r h => by rw [List.mem_singleton] at h; subst h; exact hr)
 have HF := hid hf1
 have HF2 := hid hf2
 clear hf1 hf2 hr kA kB lA lB
 have X0 : Hid (Below w.heap.size w (w.alloc (.cells #[.int .i64 pr, .slice A al.length c, .int .i64 agg, .slice A' body.length c'] 46))) := hid ((Below.refl _ _).alloc (Nat.le_refl _) _)
 have K0 : Hid ((w.alloc (.cells #[.int .i64 pr, .slice A al.length c, .int .i64 agg, .slice A' body.length c'] 46)).heap[w.heap.size]? = some (.cells #[.int .i64 pr, .slice A al.length c, .int .i64 agg, .slice A' body.length c'] 46)) := hid (heap_alloc_new w _)
 go_enter Try.func4, Try.ntmps4
 go_wp2_with fail
 refine (head16_any _).mono ?_
 rintro e0 w1 ⟨rfl, hb⟩
 have X1 := hid (lT_ X0.out hb)
 have K1 := hid (bB K0.out hb)
 clear hb X0 K0
 have c0 : w1.cell? ⟨w.heap.size, 0, none⟩ = some (.int .i64 pr) := (bC K1.out 0).trans rfl
 have c1 : w1.cell? ⟨w.heap.size, 1, none⟩ = some (.slice A al.length c) := (bC K1.out 1).trans rfl
 have c2 : w1.cell? ⟨w.heap.size, 2, none⟩ = some (.int .i64 agg) := (bC K1.out 2).trans rfl
 have c3 : w1.cell? ⟨w.heap.size, 3, none⟩ = some (.slice A' body.length c') := (bC K1.out 3).trans rfl
 go_wp2_with fail
 have X1a := hid (lA_ X1.out (.cells #[.int .i64 pr, .slice A al.length c, .int .i64 agg, .slice A' body.length c'] 46))
 refine (ergolaw13_Few.calls 20000 (some ⟨w1.heap.size, 0, none⟩) 1 [⟨⟨pr, al⟩, agg, body⟩] bf _
  (C_one k46 (heap_alloc_new w1 _) ⟨⟨pr, al⟩, agg, body⟩ _ (k46_mk _ ⟨⟨pr, al⟩, agg, body⟩ LA.out (Kd.C_below HA.out X1a.out) LB.out (Kd.C_below HB.out X1a.out)) rfl) (by simp) HF.out).mono ?_
 rintro e0 w2 ⟨rfl, hb⟩
 have X2 := hid (lT_ X1a.out hb)
 have K2 := hid (bB (bA K1.out _) hb)
 clear hb c0 c1 c2 c3 X1 X1a K1
 cases bf
 ·go_wp2
  go_ret
  exact ⟨rfl, X2.out⟩
 have hrb : Mk.RlB ⟨⟨pr, al⟩, agg, body⟩ := (HF2.out rfl).2 _ List.mem_cons_self
 obtain ⟨args, g, ha1, ha2, ha3, hg, hmade⟩ := Mk.rule_made _ hrb
 have HM := hid (hmade 20000 (by omega))
 obtain ⟨ps, hps⟩ : ∃ ps, ps = body.map Mk.partOf := ⟨_, rfl⟩
 have hpl : ps.length ≤ 8 := by rw [hps, List.length_map]; exact hrb.2.2.1
 have hpsh : ∀ p ∈ ps, PGood p := fun p hp => by
  rw [hps] at hp
  obtain ⟨q, hq, rfl⟩ := List.mem_map.1 hp
  exact (Mk.mk_good _ (Mk.partOf_is q (hrb.2.2.2 q hq)).1).1
 obtain ⟨pb, hpb⟩ : ∃ pb, pb = bytesL (Mk.predS pr) := ⟨_, rfl⟩
 simp only at HM
 rw [← hps, ← hpb] at HM
 obtain ⟨hh1, hh2, hh3⟩ := Mk.head_good (s := pb) (by omega) ha3
 have HH1 := hid hh1
 have HH2 := hid hh2
 have HH3 := hid hh3
 have HPS := hid hpsh
 have HPL := hid hpl
 have HA1 := hid ha1
 clear hmade hps hpl hpsh hrb ha1 ha2 ha3 hg HF HF2 hpb hh1 hh2 hh3
 have c0 : w2.cell? ⟨w.heap.size, 0, none⟩ = some (.int .i64 pr) := (bC K2.out 0).trans rfl
 have c1 : w2.cell? ⟨w.heap.size, 1, none⟩ = some (.slice A al.length c) := (bC K2.out 1).trans rfl
 have c2 : w2.cell? ⟨w.heap.size, 2, none⟩ = some (.int .i64 agg) := (bC K2.out 2).trans rfl
 have c3 : w2.cell? ⟨w.heap.size, 3, none⟩ = some (.slice A' body.length c') := (bC K2.out 3).trans rfl
 go_wp2_with fail
 refine (ergolaw13_R_Rule.calls 20000 pr A c al agg A' c' body pb args g ps 0 _ (Kd.C_below HA.out X2.out) LA.out (Kd.C_below HB.out X2.out) LB.out HM.out).mono ?_
 rintro e0 w3 ⟨v1, v3, rfl, hR, hN, hb⟩
 obtain ⟨D, d, rfl, hdl, hD⟩ := Kd.R_reads hR
 obtain ⟨B, b, rfl, hbl, hBk⟩ := Kd.N_reads hN
 have X3 := hid (lT_ X2.out hb)
 have HD := hid hD
 have HBK := hid hBk
 have HDL := hid hdl
 have HBL := hid hbl
 clear hR hN hb hD hBk hdl hbl c0 c1 c2 c3 X2 K2 HM HA HB LA LB
 go_wp2_with fail
 have X4 := hid (lA_ X3.out (.cells #[.string pb, .slice D args.length d, .int .i64 g, .slice B ps.length b, .int .i64 0] 38))
 have HD4 := hid (Kd.C_below HD.out (lA_ (Below.refl _ _) (.cells #[.string pb, .slice D args.length d, .int .i64 g, .slice B ps.length b, .int .i64 0] 38)))
 have HB4 := hid (Kd.C_below HBK.out (lA_ (Below.refl _ _) (.cells #[.string pb, .slice D args.length d, .int .i64 g, .slice B ps.length b, .int .i64 0] 38)))
 have K4 := hid (heap_alloc_new w3 (.cells #[.string pb, .slice D args.length d, .int .i64 g, .slice B ps.length b, .int .i64 0] 38))
 clear X3 HD HBK
 generalize w3.alloc (.cells #[.string pb, .slice D args.length d, .int .i64 g, .slice B ps.length b, .int .i64 0] 38) = W4 at X4 HD4 HB4 K4 ⊢
 generalize w3.heap.size = b3 at K4 ⊢
 clear w3
 refine (Order_any pb args g ps 0 HPS.out HH1.out HH2.out (fun u hu => Mk.nm_max (HH3.out u hu)) (Nat.le_trans HPL.out (by decide)) HD4.out HDL.out HB4.out HBL.out).mono ?_
 intro e w5 ho
 obtain ⟨hv, hhv⟩ : ∃ hv, hv = headV pb args := ⟨_, rfl⟩
 rw [← hhv] at ho HH1 HH2 HH3
 clear hhv
 cases hor : orderP (entsOf ps) hv with
 | error er =>
  rw [hor] at ho
  obtain ⟨pp, vv⟩ := er
  obtain ⟨f, rfl, hF, hb5⟩ := ho
  have X5 := hid (lT_ X4.out hb5)
  clear hF hb5 hor
  go_wp2
  go_ret
  exact ⟨rfl, X5.out⟩
 | ok out =>
  rw [hor] at ho
  obtain ⟨O, oc, rfl, hol, hO, hb5⟩ := ho
  have X5 := hid (lT_ X4.out hb5)
  obtain ⟨p1, p2, p3⟩ := orderP_ok hor
  have P1 : Hid (out.length = ps.length) := p1
  have P2 := hid p2
  have P3 := hid p3
  have HO := hid hO
  have HOL := hid hol
  have K5 := hid (bB K4.out hb5)
  have HD5 := hid (Kd.C_below HD4.out hb5)
  have HB5 := hid (Kd.C_below HB4.out hb5)
  clear hor p1 p2 p3 hO hol hb5 HD4 HB4 K4 X4
  have e3 : w5.cell? ⟨b3, 3, none⟩ = some (.slice B ps.length b) := (bC K5.out 3).trans rfl
  have b3lt : b3 < w5.heap.size := Go.Proofs.Ytjlnpdpkobpkiaa.blk_lt K5.out
  go_wp2
  have V0 := hid (EvPre.start w5)
  obtain ⟨n, hn⟩ : ∃ n, n = ps.length := ⟨_, rfl⟩
  have HN := hid hn
  rw [← hn] at HPL HB5 HBL K5 P1 ⊢
  rw [P1.out] at HO HOL ⊢
  have hbool : (Try.prog.info? 4).map (fun i => (i.zero, i.size, i.bytes)) = some (some (.bool false), 1, 1) := by kernel_rfl
  clear e3 b3lt hn
  go_loopg [7, 30] (n + 1) (fun gk v7 v30 wr => ∃ (i g7 c7 : Nat), v7 = .slice (some ⟨g7, 0, none⟩) i c7 ∧ v30 = .int .i64 (i : Int) ∧ Hid (i ≤ n) ∧ Hid (n - i < gk) ∧ Hid (EvPre w5 (.slice (some ⟨w5.heap.size, 0, none⟩) 0 0) g7 c7 i wr))
  case atStart => exact ⟨0, _, 0, rfl, rfl, hid (Nat.zero_le _), hid (Nat.lt_succ_of_le (Nat.sub_le n 0)), V0⟩
  case round =>
   clear V0
   obtain ⟨i, g7, c7, rfl, rfl, HI, HGK, V⟩ := hrel
   obtain ⟨wo, rfl⟩ : ∃ y : World, y = wr := ⟨_, rfl⟩
   by_cases hi : i < n
   ·have hi2 := sflt hi
    have w1i := sfw2 hi (Nat.le_trans HPL.out (by decide))
    have HIL := hid hi
    have hrow := V.out.se
    have hbase := V.out.be.size
    have hcap : (i + 1) * 1 ≤ 140737488355328 := by rw [Nat.mul_one]; exact Nat.le_trans hi (Nat.le_trans HPL.out (by decide))
    clear hi
    go_wp2_with (at_builtin; go_must (refine wp_app1 w5.heap.size rfl _ _ 54 4 (.bool false) 1 1 rfl Try.underlying54 hbool rfl (by decide) (by decide) (.slice (some ⟨g7, 0, none⟩) i c7) i (List.replicate i (.bool false)) [.bool false] rfl rfl rfl (by simp [Value.oneCell']) hrow hbase hcap ?_); intro g8 c8 w8 hown8 hg8 hor8; have V8 := hid (V.out.app hown8 hg8); clear hown8 hg8 hor8 hrow hbase)
    go_roundg (n - i)
    case measure => exact HGK.out
    case rel => exact ⟨i + 1, g8, c8, rfl, by first | rfl | (rw [w1i]; done) | (simp [w1i]; done), hid HIL.out, hid (sfmeas HGK.out HIL.out), V8⟩
   ·obtain rfl : n = i := Nat.le_antisymm (Nat.not_lt.1 hi) HI.out
    have V2 := hid V.out.fin
    clear hi V
    go_wp2
    go_loopg [6, 38] (n + 1) (fun gk v6 v38 wr => ∃ (j : Nat) (K6 : Option Addr) (m6 c6 : Nat), v6 = .slice K6 m6 c6 ∧ v38 = .int .i64 (j : Int) ∧ Hid (j ≤ n) ∧ Hid (n - j < gk) ∧ Hid (EvOk w5 n (out.take j) (knownOf (entsOf ps) (out.take j)) (.slice K6 m6 c6) g7 c7 wr))
    case atStart => exact ⟨0, _, _, _, rfl, rfl, hid (Nat.zero_le _), hid (Nat.lt_succ_of_le (Nat.sub_le n 0)), V2⟩
    case round =>
     clear V2
     obtain ⟨j, K6, m6, c6, rfl, rfl, HJ, HGJ, V⟩ := hrel
     obtain ⟨wi, rfl⟩ : ∃ y : World, y = wr := ⟨_, rfl⟩
     have e3 : wi.cell? ⟨b3, 3, none⟩ = some (.slice B n b) := (bC (bB K5.out V.out.be) 3).trans rfl
     by_cases hj : j < n
     ·as_aux_lemma =>
       obtain ⟨adO, x, rfl, hx, hxc⟩ := at_out (Kd.C_below HO.out V.out.be) j hj
       obtain ⟨hxn, hxs, hxl⟩ := P2.out j x hx
       have hxn : x < n := by rw [HN.out]; exact hxn
       obtain ⟨p, ad, Q1, e1, Q2, e2, rfl, hp, hnd, hvs, h0, h1, h2, h3, h4, h5, h6, h7, h8, h9, h10, h11, h12, h13, h14, h15, l1, k1, l2, k2⟩ := sf_at HPS.out (Kd.C_below HB5.out V.out.be) HN.out x hxn
       rw [hnd] at hxl
       have HXL := hid hxl
       have HJL := hid hj
       have HXN := hid hxn
       have HVS := hid hvs
       have HTK := hid (take_next hx)
       have HQ := hid hp
       obtain ⟨s0, _⟩ := V.out.cell hxn
       have hcon : (out.take j).contains x = false := by simpa using hxs
       rw [hcon] at s0
       have hj2 := sflt hj
       have hx0 : (0 : Int) ≤ (x : Int) := Int.natCast_nonneg x
       have hx1 : ¬ ((x : Int) < 0) := Int.not_lt.2 hx0
       have hx2 := sflt hxn
       have hx3 : decide ((n : Int) ≤ (x : Int)) = false := decide_eq_false (Int.not_le.2 hx2)
       have w1j := sfw2 hj (Nat.le_trans HPL.out (by decide))
       have HNd := hid (needs16_any hp k1 l1 k2 l2)
       clear hx hxs hxl hp hnd hvs k1 k2 l1 l2 hcon hj hxn
       go_wp2_with fail
       refine HNd.out.mono ?_
       rintro e w6 ⟨N1, q1, rfl, hlq, hC, hb6⟩
       have V6 := hid (V.out.below hb6)
       have hm6 := (Kd.R_reads' V6.out.kn).1
       have HKn := hid (ergolaw16_lacks.calls 3000000 K6 c6 (knownOf (entsOf ps) (out.take j)) N1 q1 (needV p) ⟨#[]⟩ w6 (Kd.R_reads' V6.out.kn).2.2 (by rw [← hm6]; exact (Kd.R_reads' V6.out.kn).2.1) hC hlq (by rw [lacks_is _ _ (evcap2 HPS.out (Nat.le_trans (List.length_take_le _ _) HJ.out) HPL.out) (Nat.le_trans HQ.out.ln (by decide)), bytes_nil HXL.out]))
       rw [← hm6] at HKn
       clear hC hlq hb6 hm6 h0 h1 h2 h3 h4 h5 h6 h7 h8 h9 h10 h11 h12 h13 h14 h15 s0 hxc HNd V e3
       go_wp2_with fail
       refine HKn.out.mono ?_
       rintro e w7 ⟨rfl, hd7⟩
       have V7 := hid (V6.out.below hd7.below)
       obtain ⟨s1, s2⟩ := V7.out.cell HXN.out
       clear hd7 V6 HKn
       go_upto_region 21 with fail
       obtain ⟨w8, hw8⟩ : ∃ y, y = w7.setCell ⟨g7, x, none⟩ (.bool true) := ⟨_, rfl⟩
       have V8 := hid (V7.out.set HXN.out)
       rw [← hw8] at V8 ⊢
       clear hw8 s1 s2 V7
       have e3 : w8.cell? ⟨b3, 3, none⟩ = some (.slice (some ad) n b) := (bC (bB K5.out V8.out.be) 3).trans rfl
       obtain ⟨p', ad', Q1', e1', Q2', e2', hadd, hp', hnd', hvs', h0, h1, h2, h3, h4, h5, h6, h7, h8, h9, h10, h11, h12, h13, h14, h15, l1, k1, l2, k2⟩ := sf_at HPS.out (Kd.C_below HB5.out V8.out.be) HN.out x HXN.out
       cases hadd
       have HVc := hid (syntax_Part_Vars.calls 2000000 p'.f0 p'.f1.f0 Q1' e1' p'.f1.f1 p'.f2 p'.f3.f0 p'.f3.f1 p'.f3.f2 p'.f4.f0 p'.f4.f1 p'.f4.f2 p'.f5 p'.f6.f0.f0 p'.f6.f0.f1 p'.f6.f0.f2 p'.f6.f1 Q2' e2' p'.f6.f2 _ w8 k1 l1 k2 l2 hp'.v)
       have HVS' := hid hvs'
       have HLen := hid (evcap (out := out.take j) HPS.out (Nat.le_trans (List.length_take_le _ _) HJ.out) HPL.out hp').1
       clear hp' hnd' hvs' k1 k2 l1 l2
       go_wp2_with fail
       refine HVc.out.mono ?_
       rintro e w9 ⟨v9, rfl, hR9, hb9⟩
       obtain ⟨A9, a9, rfl⟩ := Kd.R_slice hR9
       have V9 := hid (V8.out.below hb9)
       have R9 := hid hR9
       clear hR9 hb9 h0 h1 h2 h3 h4 h5 h6 h7 h8 h9 h10 h11 h12 h13 h14 h15 V8 e3 HVc
       go_wp2_with (at_builtin; go_must (refine Kd.R_append_rows Kd.string (w0 := w5) w5.heap.size rfl _ _ 53 9 (.string ⟨#[]⟩) 16 rfl Try.underlying53 (by kernel_rfl) rfl (by decide) (by decide) _ (knownOf (entsOf ps) (out.take j)) (partV p') _ _ _ (fun _ => True) (fun _ => False) rfl rfl V9.out.kn (Kd.R_reads' R9.out).2.2 (fun _ _ h => h) (fun _ h => h.elim) (fun _ _ => trivial) V9.out.be V9.out.be.size HLen.out ?_); intro v10 w10 hR10 hB10 hg10 _; have V10 := hid (V9.out.app hR10 hB10 hg10); clear hR10 hB10 hg10)
       obtain ⟨K10, c10, rfl⟩ := Kd.R_slice V10.out.kn
       go_roundg (n - j)
       case measure => exact HGJ.out
       case rel =>
        refine ⟨j + 1, K10, _, c10, rfl, by first | rfl | (rw [w1j]; done) | (simp [w1j]; done), hid HJL.out, hid (sfmeas HGJ.out HJL.out), ?_⟩
        have := V10.out
        rw [HTK.out, knownOf_app, HVS'.out]
        exact this
     ·as_aux_lemma =>
       obtain rfl : n = j := Nat.le_antisymm (Nat.not_lt.1 hj) HJ.out
       have hall : out.take n = out := by rw [List.take_of_length_le (Nat.le_of_eq P1.out)]
       have V' := V.out
       rw [hall] at V'
       have VV := hid V'
       have e0 : wi.cell? ⟨b3, 0, none⟩ = some (.string pb) := (bC (bB K5.out V'.be) 0).trans rfl
       have e1 : wi.cell? ⟨b3, 1, none⟩ = some (.slice D args.length d) := (bC (bB K5.out V'.be) 1).trans rfl
       have HAc := hid (syntax_Atom_Vars.calls 2000000 pb D d args hv wi (Kd.C_below HD5.out V'.be) HDL.out HH1.out)
       clear V' hall V hj e3
       go_wp2_with fail
       refine HAc.out.mono ?_
       rintro e w6 ⟨v9, rfl, hR9, hb9⟩
       obtain ⟨A9, a9, rfl⟩ := Kd.R_slice hR9
       have V9 := hid (VV.out.below hb9)
       have R9 := hid hR9
       have hm6 := (Kd.R_reads' V9.out.kn).1
       have HKn := hid (ergolaw16_lacks.calls 3000000 K6 c6 (knownOf (entsOf ps) out) A9 a9 hv ⟨#[]⟩ w6 (Kd.R_reads' V9.out.kn).2.2 (by rw [← hm6]; exact (Kd.R_reads' V9.out.kn).2.1) (Kd.R_reads' R9.out).2.2 (Kd.R_reads' R9.out).2.1 (by rw [lacks_is _ _ (evcap2 HPS.out (Nat.le_of_eq P1.out) HPL.out) (Nat.le_trans HH2.out (by decide)), bytes_nil P3.out]))
       rw [← hm6] at HKn
       clear hR9 hb9 VV e0 e1 hm6 HAc hbool
       go_wp2_with fail
       refine HKn.out.mono ?_
       rintro e w7 ⟨rfl, hd7⟩
       have XF := hid (lT_ X5.out (V9.out.below hd7.below).be)
       clear hd7 HKn V9
       go_wp2
       go_ret
       exact ⟨rfl, XF.out⟩
end Go.Proofs.YtjlnpdpkobpkiaaPSP
