import Derived.Orders
import Derived.RegionTactic
set_option linter.unusedVariables false
set_option linter.unusedSimpArgs false
namespace Go.Proofs.YtbcmkkphbkpapaaDoor
open Go
def upd (l : Nat → Bool) (i : Nat) : Nat → Bool := fun j => if j = i then true else l j
def RStep (P : Program) (ops : Array Oper) (Q : Exit → Act → World → Prop) (Inv : (Nat → Bool) → Act → World → Prop) (i : Nat) (o : Oper) : Prop :=
  ∀ (l : Nat → Bool) (a : Act) (w : World), Inv l a w → (∀ e ∈ o.after, Region.binds .any e = true → l e.on = true) →
    ∀ K : Act → World → Prop, (∀ a' w', Inv (upd l i) a' w' → K a' w') → if Region.wanted o (yielded ops a.tmps) then Oper.wp P o a w K Q else K (a.put o.dst undef) w
inductive RSteps (P : Program) (ops : Array Oper) (Q : Exit → Act → World → Prop) (Inv : (Nat → Bool) → Act → World → Prop) : Nat → List Oper → Prop where
  | nil {i : Nat} : RSteps P ops Q Inv i []
  | cons {i : Nat} {o : Oper} {os : List Oper} (h : RStep P ops Q Inv i o) (hs : RSteps P ops Q Inv (i + 1) os) : RSteps P ops Q Inv i (o :: os)
theorem RSteps.get {P : Program} {ops : Array Oper} {Q : Exit → Act → World → Prop} {Inv : (Nat → Bool) → Act → World → Prop} {k : Nat} {os : List Oper} (h : RSteps P ops Q Inv k os) :
    ∀ i o, os[i]? = some o → RStep P ops Q Inv (k + i) o := by
  induction h with
  | nil => intro i o h; simp at h
  | cons h hs ih =>
    intro i o ho
    cases i with
    | zero =>
      simp at ho
      subst ho
      exact h
    | succ i =>
      have := ih i o (by simpa using ho)
      rw [Nat.add_assoc, Nat.add_comm 1 i] at this
      exact this
end Go.Proofs.YtbcmkkphbkpapaaDoor
