import Derived.Test.YtbcmkkphbkpapabDoorRows
import Derived.Test.YtbcmkkphbkpapabDoorTie
import Derived.Test.YtbcmkkphbkpapabDoorCards
import Derived.Test.YtbcmkkphbkpapabDoorFault
import Derived.ChangeSame
import Derived.ChangeVars
import Derived.JoinedOf
import Derived.RowKit
import Derived.RowKitTokens
import Derived.LaidLaws
import Derived.LaidHandle
import Derived.Stop.Joined
import Derived.SevenTiedAt
set_option linter.unusedVariables false
namespace Go.Proofs.YtbcmkkphbkpapabDoor
open Go.ChangeShapes Go.WideShapes Go.RowKit

theorem own : ownKnob Tryd.prog.godebug = none := by kernel_rfl
theorem laidOut : laidOutB Tryd.prog = true := by kernel_rfl
theorem etName : Tryd.prog.globalNamed "errors.errorType" = some 0 := by kernel_rfl
theorem rtName : (Tryd.prog.cutTypes.find? (·.1 == "internal/reflectlite.rtype")).map (·.2) = some 113 := by kernel_rfl
theorem oneRow : ((List.range 193).filter fun t => Tryd.prog.rowNamed t [101, 114, 114, 111, 114]) = [26] := by kernel_rfl
theorem typesSize : Tryd.prog.types.size = 193 := by kernel_rfl
def laidErr {H : Type} : List (String × DataW H) := [("errors.errorType", Rows.laid_errors_errorType)]

/-- What the condition gives a walk: the variable's one cell. -/
theorem errT_of_laid {W : World} (h : laidMetH Tryd.prog laidErr W) : ErrT W := by
  have h' : laidMet Tryd.prog [] W ∧ handlesMet Tryd.prog laidErr W := h
  obtain ⟨name, u, ty, e1, e2, e3, e4, e5⟩ := h'.2 _ (List.mem_singleton.2 rfl)
  have en : name = [101, 114, 114, 111, 114] := (Option.some.inj e1).symm
  subst en
  obtain rfl := Option.some.inj (rtName.symm.trans e2)
  have hm : ty ∈ (List.range 193).filter fun t => Tryd.prog.rowNamed t [101, 114, 114, 111, 114] := List.mem_filter.2 ⟨List.mem_range.2 (by rw [← typesSize]; exact e3), e4⟩
  rw [oneRow] at hm
  obtain rfl := List.mem_singleton.1 hm
  have hh : typeHandle Tryd.prog 26 = hnd 26 := by kernel_rfl
  rw [hh] at e5
  have := World.var?_cell etName e5 0
  show _ = _
  simpa using this

/-- A world that meets the condition. -/
noncomputable def laidWorld (os : Os) : World :=
  let w0 := World.holding Tryd.prog os ⟨#[], #[], []⟩
  { w0 with heap := w0.heap.modify 0 fun
      | .cells _ t frozen => .cells #[.iface 113 (.agg #[hnd 26])] t frozen
      | o => o }
theorem laidWorld_met (os : Os) (args : Array Value) : laidMetH Tryd.prog laidErr ((laidWorld os).forCall (fun _ _ => 0) ⟨#[], args, []⟩).memory :=
  laidMetH_of_parts (laidMet_nil _ _) (by kernel_rfl)

end Go.Proofs.YtbcmkkphbkpapabDoor
