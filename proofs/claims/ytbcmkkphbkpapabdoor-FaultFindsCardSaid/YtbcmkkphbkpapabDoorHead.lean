import Derived.Deep.Quiet
import Derived.RegionTactic
set_option linter.unusedVariables false
set_option linter.unusedSimpArgs false
namespace Go.Proofs.YtbcmkkphbkpapabDoor
open Go

/-- A region that draws its order, whose third operation is a call for which all that stands behind waits, and behind which all is quiet. -/
theorem wp_region_head {P : Program} {id : Nat} {Q : Exit → Act → World → Prop} {a : Act} {w : World} (o0 o1 o2 : Oper) (rest : List Oper) (v0 v1 : Value) (s0 s1 : Tmp)
    (hm : P.follows .mixedOrders = true)
    (hr : (Region.ready .any (o0 :: o1 :: o2 :: rest).toArray (Array.replicate (rest.length + 3) false) == [0, 1]) = true)
    (hr0 : (Region.ready .any (o0 :: o1 :: o2 :: rest).toArray ((Array.replicate (rest.length + 3) false).setIfInBounds 0 true) == [1]) = true)
    (hr1 : (Region.ready .any (o0 :: o1 :: o2 :: rest).toArray ((Array.replicate (rest.length + 3) false).setIfInBounds 1 true) == [0]) = true)
    (hr2 : (Region.ready .any (o0 :: o1 :: o2 :: rest).toArray (((Array.replicate (rest.length + 3) false).setIfInBounds 0 true).setIfInBounds 1 true) == [2]) = true)
    (hlex : Region.lexFrom .any (o0 :: o1 :: o2 :: rest).toArray rest.length 3 ((((Array.replicate (rest.length + 3) false).setIfInBounds 0 true).setIfInBounds 1 true).setIfInBounds 2 true) = true)
    (hns : Region.noSelect (o0 :: o1 :: o2 :: rest).toArray = true)
    (d0 : o0.dst = some s0) (d1 : o1.dst = some s1) (hne : s0 ≠ s1) (g0 : o0.guard = none) (g1 : o1.guard = none) (g2 : o2.guard = none)
    (e0 : ∀ W, (execOp a.eval o0).run P W = .ok (.value v0) W) (e0' : ∀ W, (execOp (a.put (some s1) v1).eval o0).run P W = .ok (.value v0) W)
    (e1 : ∀ W, (execOp a.eval o1).run P W = .ok (.value v1) W) (e1' : ∀ W, (execOp (a.put (some s0) v0).eval o1).run P W = .ok (.value v1) W)
    (h : Oper.wp P o2 ((a.put (some s0) v0).put (some s1) v1) w.drew (fun a3 w3 => ∃ C : World → Prop, C w3 ∧ wpQuiet P (o0 :: o1 :: o2 :: rest).toArray C (fun a' => ∀ w', C w' → Q .normal a' w') rest a3) Q) :
    (Code.region id (o0 :: o1 :: o2 :: rest).toArray true).wp P Q a w := by
  refine wp_region_any hm ?_
  rw [show (o0 :: o1 :: o2 :: rest).toArray.size = rest.length + 3 by simp]
  have hput : (a.put (some s1) v1).put (some s0) v0 = (a.put (some s0) v0).put (some s1) v1 := by
    unfold Act.put
    simp only
    congr 1
    exact Array.setIfInBounds_comm _ _ (Ne.symm hne)
  have hset : ((Array.replicate (rest.length + 3) false).setIfInBounds 1 true).setIfInBounds 0 true = ((Array.replicate (rest.length + 3) false).setIfInBounds 0 true).setIfInBounds 1 true := Array.setIfInBounds_comm _ _ (by decide)
  have fin : ∀ W, W = w.drew → wpAny P .any (o0 :: o1 :: o2 :: rest).toArray Q (rest.length + 1) (((Array.replicate (rest.length + 3) false).setIfInBounds 0 true).setIfInBounds 1 true) ((a.put (some s0) v0).put (some s1) v1) W := by
    rintro W rfl
    refine wpAny_ready (by simpa using hr2) (by simp) (AllReady.cons (o := o2) rfl (fun K hK => ?_) AllReady.nil)
    rw [if_pos (by simp [Region.wanted, g2])]
    refine Oper.wp_mono (fun a3 w3 h3 => hK _ _ ?_) h
    obtain ⟨C, hC, hq⟩ := h3
    exact wpAny_of_quiet (C := C) (fun a' w' hc hx => hx w' hc) _ _ _ _ hC (wpAnyQ_lex hns rest 3 _ _ (fun j => by simp [Nat.add_comm 3 j]) hlex hq)
  refine wpAny_ready (by simpa using hr) (by simp) (AllReady.cons (o := o0) rfl (fun K hK => ?_) (AllReady.cons (o := o1) rfl (fun K hK => ?_) AllReady.nil))
  · rw [if_pos (by simp [Region.wanted, g0])]
    unfold Oper.wp
    rw [e0]
    simp only [Oper.upon]
    rw [d0]
    refine hK _ _ (wpAny_ready (by simpa using hr0) (by simp) (AllReady.cons (o := o1) rfl (fun K hK => ?_) AllReady.nil))
    rw [if_pos (by simp [Region.wanted, g1])]
    unfold Oper.wp
    rw [e1']
    simp only [Oper.upon]
    rw [d1]
    exact hK _ _ (fin _ rfl)
  · rw [if_pos (by simp [Region.wanted, g1])]
    unfold Oper.wp
    rw [e1]
    simp only [Oper.upon]
    rw [d1]
    refine hK _ _ (wpAny_ready (by simpa using hr1) (by simp) (AllReady.cons (o := o0) rfl (fun K hK => ?_) AllReady.nil))
    rw [if_pos (by simp [Region.wanted, g0])]
    unfold Oper.wp
    rw [e0']
    simp only [Oper.upon]
    rw [d0, hput]
    exact hK _ _ (by rw [hset]; exact fin _ rfl)
end Go.Proofs.YtbcmkkphbkpapabDoor
