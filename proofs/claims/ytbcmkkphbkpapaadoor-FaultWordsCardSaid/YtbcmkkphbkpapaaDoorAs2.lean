import Derived.Test.YtbcmkkphbkpapaaDoorAs
set_option linter.unusedVariables false
set_option linter.unusedSimpArgs false
namespace Go.Proofs.YtbcmkkphbkpapaaDoor
open Go.RowKit Go.Extern.Stop Go.Stop Go.Extern

/-! A Tag as an error; errors.New's. -/
theorem typeOfT (v : Value) (w : World) : (ReflectliteType.typeOf #[.iface 23 v]).run Tryd.prog w = .ok (.iface 156 (.agg #[hnd 23])) w := by kernel_rfl
theorem assignTP (w : World) : (ReflectliteType.relation "AssignableTo" ReflectliteType.assignableTo #[.agg #[hnd 23], .iface 156 (.agg #[hnd 95])]).run Tryd.prog w = .ok (.bool false) w := by kernel_rfl

theorem noAsT (v : Value) (xT : TypeId) (w : World) : (Instr.typeAssert (.iface 23 v) xT 172 true).run Tryd.prog w = .ok (.tuple #[.nilIface, .bool false]) w := run_typeAssert_lacksB Tryd.underlying172 (by kernel_rfl) (by kernel_rfl) v xT w
theorem noUnT (v : Value) (xT : TypeId) (w : World) : (Instr.typeAssert (.iface 23 v) xT 161 true).run Tryd.prog w = .ok (.tuple #[.nilIface, .bool false]) w := run_typeAssert_lacksB Tryd.underlying161 (by kernel_rfl) (by kernel_rfl) v xT w
theorem noUnsT (v : Value) (xT : TypeId) (w : World) : (Instr.typeAssert (.iface 23 v) xT 163 true).run Tryd.prog w = .ok (.tuple #[.nilIface, .bool false]) w := run_typeAssert_lacksB Tryd.underlying163 (by kernel_rfl) (by kernel_rfl) v xT w

def FalseBelow (w : World) (e : Ending) (w' : World) : Prop := e = .returned (.bool false) ∧ Below w.heap.size w w'
set_option maxHeartbeats 4000000 in
set_option maxRecDepth 100000 in
theorem as_tag_miss (n : Int) (t : Addr) (w : World) (hg0 : ErrT w) :
    Calls Tryd.prog 45 #[.iface 23 (.int .i64 n), .iface 97 (.pointer (some t))] w (FalseBelow w) := by
  have hg : w.cell? ⟨0, 0, none⟩ = some (.iface 156 (.agg #[hnd 29])) := hg0
  have h6 := @run_callFunc_extern Tryd.prog 70 _ (fun args => ReflectliteValue.unpack (args.getD 0 (.tuple #[]))) Tryd.func70 (by kernel_rfl) (by kernel_rfl) (by kernel_rfl) (by kernel_rfl)
  have h7 := @run_callFunc_extern Tryd.prog 71 _ (ReflectliteValue.methodAny (ReflectliteValue.valueError "reflectlite.Value.Type" 0) (fun t _ _ _ => ReflectliteType.toType t)) Tryd.func71 (by kernel_rfl) (by kernel_rfl) (by kernel_rfl) (by kernel_rfl)
  have h8 := @run_callFunc_extern Tryd.prog 72 _ (ReflectliteValue.method (ReflectliteValue.valueError "reflectlite.Value.IsNil" 0) ReflectliteValue.isNil) Tryd.func72 (by kernel_rfl) (by kernel_rfl) (by kernel_rfl) (by kernel_rfl)
  have h27 := @run_callFunc_extern Tryd.prog 114 _ (ReflectliteType.abiMethod fun t => do pure (.int .u8 (← Rtype.kind t))) Tryd.func114 (by kernel_rfl) (by kernel_rfl) (by kernel_rfl) (by kernel_rfl)
  have h37 := @run_callFunc_extern Tryd.prog 128 _ (ReflectliteType.method ReflectliteType.elem) Tryd.func128 (by kernel_rfl) (by kernel_rfl) (by kernel_rfl) (by kernel_rfl)
  have h38 := @run_callFunc_extern Tryd.prog 129 _ (ReflectliteType.relation "Implements" ReflectliteType.implements_) Tryd.func129 (by kernel_rfl) (by kernel_rfl) (by kernel_rfl) (by kernel_rfl)
  have h10 := @run_callFunc_extern Tryd.prog 62 _ ReflectliteType.typeOf Tryd.func62 (by kernel_rfl) (by kernel_rfl) (by kernel_rfl) (by kernel_rfl)
  have h35 := @run_callFunc_extern Tryd.prog 126 _ (ReflectliteType.relation "AssignableTo" ReflectliteType.assignableTo) Tryd.func126 (by kernel_rfl) (by kernel_rfl) (by kernel_rfl) (by kernel_rfl)
  have tO := typeOfT
  have mA := methodAssignableTo
  have aT := assignTP
  have x1 := noAsT
  have x2 := noUnT
  have x3 := noUnsT
  have f6 := valueOfPP
  have f7 := typePP
  have mK := methodKind
  have mE := methodElem
  have mI := methodImplements
  have k27 := kindPP
  have k25 := kindP
  have e27 := elemPP
  have i25 := implementsP
  have n8 := isNilPP ⟨w.heap.size, 0, none⟩ t ((w.alloc (.cells #[.pointer (some t)] 97)).alloc (.cells #[hnd 97, .pointer (some ⟨w.heap.size, 0, none⟩), .int .u64 150] 143)) (by simp)
  have hlt := hg0.lt
  have hg2 : ((w.alloc (.cells #[.pointer (some t)] 97)).alloc (.cells #[hnd 97, .pointer (some ⟨w.heap.size, 0, none⟩), .int .u64 150] 143)).cell? ⟨0, 0, none⟩ = some (.iface 156 (.agg #[hnd 29])) := by
    rw [World.cell?_alloc_lt _ _ ⟨0, 0, none⟩ (by simp <;> omega), World.cell?_alloc_lt _ _ ⟨0, 0, none⟩ hlt]; exact hg
  clear hg0
  go_enter Tryd.func45, Tryd.ntmps45
  go_wp2
  refine wp_loop_rounds 1 ?_
  rw [rounds_succ]
  go_wp2
  go_ret
  exact ⟨rfl, by repeat (first | exact Below.refl _ _ | refine Below.alloc ?_ (by simp <;> omega) _)⟩

end Go.Proofs.YtbcmkkphbkpapaaDoor
