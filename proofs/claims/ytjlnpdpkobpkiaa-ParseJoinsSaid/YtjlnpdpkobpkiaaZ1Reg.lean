import Derived.Orders
import Derived.RegionTactic
set_option linter.unusedVariables false
set_option linter.unusedSimpArgs false
namespace Go.Proofs.Ytjlnpdpkobpkiaa
open Go
def upd (l : Nat → Bool) (i : Nat) : Nat → Bool := fun j => if j = i then true else l j
def unl (l : Nat → Bool) : Nat → Nat
  | 0 => 0
  | n + 1 => unl l n + if l n then 0 else 1
theorem unl_upd {l : Nat → Bool} {i n : Nat} (hi : i < n) (h : l i = false) : unl (upd l i) n + 1 = unl l n := by
  induction n with
  | zero => omega
  | succ n ih =>
    unfold unl
    by_cases e : i = n
    · subst e
      have same : ∀ m, m ≤ i → unl (upd l i) m = unl l m := by
        intro m
        induction m with
        | zero => intro _; rfl
        | succ m ihm =>
          intro hm
          unfold unl
          rw [ihm (by omega)]
          have : upd l i m = l m := by unfold upd; rw [if_neg (by omega)]
          rw [this]
      rw [same i (Nat.le_refl _)]
      have : upd l i i = true := by unfold upd; rw [if_pos rfl]
      rw [this, h]
      simp
    · have h1 := ih (by omega)
      have : upd l i n = l n := by unfold upd; rw [if_neg (Ne.symm e)]
      rw [this]
      omega
theorem unl_zero {l : Nat → Bool} {n : Nat} (h : unl l n = 0) : ∀ i, i < n → l i = true := by
  induction n with
  | zero => intro i hi; omega
  | succ n ih =>
    unfold unl at h
    intro i hi
    by_cases e : i = n
    · subst e
      cases hl : l i with
      | true => rfl
      | false => rw [hl] at h; simp at h
    · exact ih (by omega) i (by omega)
def RStep (P : Program) (ops : Array Oper) (Q : Exit → Act → World → Prop) (Inv : (Nat → Bool) → Act → World → Prop) (i : Nat) (o : Oper) : Prop :=
  ∀ (l : Nat → Bool) (a : Act) (w : World), Inv l a w → l i = false → (∀ e ∈ o.after, Region.binds .any e = true → l e.on = true) →
    ∀ K : Act → World → Prop, (∀ a' w', Inv (upd l i) a' w' → K a' w') → if Region.wanted o (yielded ops a.tmps) then Oper.wp P o a w K Q else K (a.put o.dst undef) w
inductive RSteps (P : Program) (ops : Array Oper) (Q : Exit → Act → World → Prop) (Inv : (Nat → Bool) → Act → World → Prop) : Nat → List Oper → Prop where
  | nil {i : Nat} : RSteps P ops Q Inv i []
  | cons {i : Nat} {o : Oper} {os : List Oper} (h : RStep P ops Q Inv i o) (hs : RSteps P ops Q Inv (i + 1) os) : RSteps P ops Q Inv i (o :: os)
theorem RSteps.get {P : Program} {ops : Array Oper} {Q : Exit → Act → World → Prop} {Inv : (Nat → Bool) → Act → World → Prop} {k : Nat} {os : List Oper} (h : RSteps P ops Q Inv k os) :
    ∀ i o, os[i]? = some o → RStep P ops Q Inv (k + i) o := by
  induction h with
  | nil => intro i o h; simp at h
  | cons h hs ih =>
    intro i o ho
    cases i with
    | zero =>
      simp at ho
      subst ho
      exact h
    | succ i =>
      have := ih i o (by simpa using ho)
      rw [Nat.add_assoc, Nat.add_comm 1 i] at this
      exact this
theorem wp_region_inv {P : Program} {id : Nat} {ops : Array Oper} {Q : Exit → Act → World → Prop} {a : Act} {w : World} (Inv : (Nat → Bool) → Act → World → Prop)
    (hm : P.follows .mixedOrders = true)
    (hlt : ((List.range ops.size).all fun i => ((ops[i]?).map fun o => o.after.all fun e => decide (e.on < i)).getD true) = true)
    (h0 : Inv (fun _ => false) a w.drew) (hs : RSteps P ops Q Inv 0 ops.toList)
    (hend : ∀ l a' w', (∀ i, i < ops.size → l i = true) → Inv l a' w' → Q .normal a' w') : (Code.region id ops true).wp P Q a w := by
  refine wp_region_any hm ?_
  have key : ∀ (fuel : Nat) (l : Nat → Bool) (listed : Array Bool) (a : Act) (w : World), (∀ j, j < ops.size → listed.getD j true = l j) → listed.size = ops.size → unl l ops.size ≤ fuel → Inv l a w →
      wpAny P .any ops Q fuel listed a w := by
    have none_left : ∀ (l : Nat → Bool) (listed : Array Bool), (∀ j, j < ops.size → listed.getD j true = l j) → listed.size = ops.size → Region.ready .any ops listed = [] → ∀ i, i < ops.size → l i = true := by
      intro l listed hl hsz hr i
      induction i using Nat.strongRecOn with
      | _ i ih =>
        intro hi
        cases hli : l i with
        | true => rfl
        | false =>
          have : i ∈ Region.ready .any ops listed := by
            refine mem_ready.2 ⟨by rw [hl i hi]; exact hli, ops[i], by simp [hi], fun e he hb => ?_⟩
            have h1 := List.all_eq_true.1 hlt i (List.mem_range.2 hi)
            rw [show ops[i]? = some ops[i] by simp [hi]] at h1
            simp only [Option.map_some, Option.getD_some] at h1
            have h2 := Array.all_eq_true'.1 h1 e he
            have h3 : e.on < i := of_decide_eq_true h2
            have h4 := ih e.on h3 (by omega)
            rw [← hl e.on (by omega)] at h4
            have hs2 : e.on < listed.size := by omega
            rw [Array.getD_eq_getD_getElem?, Array.getElem?_eq_getElem hs2] at h4 ⊢
            exact h4
          rw [hr] at this
          cases this
    intro fuel
    induction fuel with
    | zero =>
      intro l listed a w hl hsz hf hi
      have hall := unl_zero (Nat.le_zero.1 hf)
      have hr : Region.ready .any ops listed = [] := by
        cases hq : Region.ready .any ops listed with
        | nil => rfl
        | cons i _ =>
          have hm2 : i ∈ Region.ready .any ops listed := by rw [hq]; exact List.mem_cons_self
          obtain ⟨h1, o, h2, _⟩ := mem_ready.1 hm2
          have hi2 : i < ops.size := (Array.getElem?_eq_some_iff.1 h2).1
          rw [hl i hi2, hall i hi2] at h1
          cases h1
      exact ⟨hr, hend l a w hall hi⟩
    | succ fuel ih =>
      intro l listed a w hl hsz hf hi
      refine ⟨fun hr => hend l a w (none_left l listed hl hsz hr) hi, fun i hir => ?_⟩
      obtain ⟨h1, o, h2, h3⟩ := mem_ready.1 hir
      have hi2 : i < ops.size := (Array.getElem?_eq_some_iff.1 h2).1
      have hli : l i = false := by rw [← hl i hi2]; exact h1
      have hst := hs.get i o (by simpa using h2)
      rw [Nat.zero_add] at hst
      have hst := hst l a w hi hli (fun e he hb => by
        have h4 := h3 e he hb
        have h5 := List.all_eq_true.1 hlt i (List.mem_range.2 hi2)
        rw [h2] at h5
        simp only [Option.map_some, Option.getD_some] at h5
        have h6 : e.on < i := of_decide_eq_true (Array.all_eq_true'.1 h5 e he)
        rw [← hl e.on (by omega)]
        have hs2 : e.on < listed.size := by omega
        rw [Array.getD_eq_getD_getElem?, Array.getElem?_eq_getElem hs2] at h4 ⊢
        exact h4) (wpAny P .any ops Q fuel (listed.setIfInBounds i true)) (fun a' w' hi' => ih (upd l i) _ a' w' (fun j hj => by
          unfold upd
          by_cases e : j = i
          · subst e
            rw [if_pos rfl, Array.getD_eq_getD_getElem?, Array.getElem?_setIfInBounds]
            simp [show j < listed.size by omega]
          · rw [if_neg e, ← hl j hj, Array.getD_eq_getD_getElem?, Array.getD_eq_getD_getElem?, Array.getElem?_setIfInBounds, if_neg (Ne.symm e)]) (by simpa using hsz) (by have := unl_upd hi2 hli; omega) hi')
      unfold wpOp
      rw [h2]
      simp only
      by_cases hw : Region.wanted o (yielded ops a.tmps) = true
      · rw [if_pos hw] at hst ⊢
        exact .inl hst
      · rw [if_neg hw] at hst ⊢
        exact hst
  refine key ops.size (fun _ => false) _ a _ (fun j hj => by simp [Array.getD_eq_getD_getElem?, Array.getElem?_replicate, hj]) (by simp) ?_ h0
  have : ∀ (l : Nat → Bool) n, unl l n ≤ n := by
    intro l n
    induction n with
    | zero => exact Nat.le_refl _
    | succ n ih => unfold unl; split <;> omega
  exact this _ _
end Go.Proofs.Ytjlnpdpkobpkiaa
