import Derived.Test.YtbcmkkphbkpapabDoorAs
set_option linter.unusedVariables false
set_option linter.unusedSimpArgs false
namespace Go.Proofs.YtbcmkkphbkpapabDoor
open Go.RowKit Go.Extern.Stop Go.Stop Go.Extern

/-! A Tag as an error; errors.New's. -/
theorem typeOfT (v : Value) (w : World) : (ReflectliteType.typeOf #[.iface 24 v]).run Tryd.prog w = .ok (.iface 113 (.agg #[hnd 24])) w := by kernel_rfl
theorem assignTP (w : World) : (ReflectliteType.relation "AssignableTo" ReflectliteType.assignableTo #[.agg #[hnd 24], .iface 113 (.agg #[hnd 37])]).run Tryd.prog w = .ok (.bool false) w := by kernel_rfl

theorem noAsT (v : Value) (xT : TypeId) (w : World) : (Instr.typeAssert (.iface 24 v) xT 122 true).run Tryd.prog w = .ok (.tuple #[.nilIface, .bool false]) w := run_typeAssert_lacksB Tryd.underlying122 (by kernel_rfl) (by kernel_rfl) v xT w
theorem noUnT (v : Value) (xT : TypeId) (w : World) : (Instr.typeAssert (.iface 24 v) xT 95 true).run Tryd.prog w = .ok (.tuple #[.nilIface, .bool false]) w := run_typeAssert_lacksB Tryd.underlying95 (by kernel_rfl) (by kernel_rfl) v xT w
theorem noUnsT (v : Value) (xT : TypeId) (w : World) : (Instr.typeAssert (.iface 24 v) xT 117 true).run Tryd.prog w = .ok (.tuple #[.nilIface, .bool false]) w := run_typeAssert_lacksB Tryd.underlying117 (by kernel_rfl) (by kernel_rfl) v xT w

def FalseBelow (w : World) (e : Ending) (w' : World) : Prop := e = .returned (.bool false) ∧ Below w.heap.size w w'
set_option maxHeartbeats 4000000 in
set_option maxRecDepth 100000 in
theorem as_tag_miss (n : Int) (t : Addr) (w : World) (hg0 : ErrT w) :
    Calls Tryd.prog 15 #[.iface 24 (.int .i64 n), .iface 39 (.pointer (some t))] w (FalseBelow w) := by
  have hg : w.cell? ⟨0, 0, none⟩ = some (.iface 113 (.agg #[hnd 26])) := hg0
  have h6 := @run_callFunc_extern Tryd.prog 31 _ (fun args => ReflectliteValue.unpack (args.getD 0 (.tuple #[]))) Tryd.func31 (by kernel_rfl) (by kernel_rfl) (by kernel_rfl) (by kernel_rfl)
  have h7 := @run_callFunc_extern Tryd.prog 32 _ (ReflectliteValue.methodAny (ReflectliteValue.valueError "reflectlite.Value.Type" 0) (fun t _ _ _ => ReflectliteType.toType t)) Tryd.func32 (by kernel_rfl) (by kernel_rfl) (by kernel_rfl) (by kernel_rfl)
  have h8 := @run_callFunc_extern Tryd.prog 33 _ (ReflectliteValue.method (ReflectliteValue.valueError "reflectlite.Value.IsNil" 0) ReflectliteValue.isNil) Tryd.func33 (by kernel_rfl) (by kernel_rfl) (by kernel_rfl) (by kernel_rfl)
  have h27 := @run_callFunc_extern Tryd.prog 98 _ (ReflectliteType.abiMethod fun t => do pure (.int .u8 (← Rtype.kind t))) Tryd.func98 (by kernel_rfl) (by kernel_rfl) (by kernel_rfl) (by kernel_rfl)
  have h37 := @run_callFunc_extern Tryd.prog 112 _ (ReflectliteType.method ReflectliteType.elem) Tryd.func112 (by kernel_rfl) (by kernel_rfl) (by kernel_rfl) (by kernel_rfl)
  have h38 := @run_callFunc_extern Tryd.prog 113 _ (ReflectliteType.relation "Implements" ReflectliteType.implements_) Tryd.func113 (by kernel_rfl) (by kernel_rfl) (by kernel_rfl) (by kernel_rfl)
  have h10 := @run_callFunc_extern Tryd.prog 29 _ ReflectliteType.typeOf Tryd.func29 (by kernel_rfl) (by kernel_rfl) (by kernel_rfl) (by kernel_rfl)
  have h35 := @run_callFunc_extern Tryd.prog 110 _ (ReflectliteType.relation "AssignableTo" ReflectliteType.assignableTo) Tryd.func110 (by kernel_rfl) (by kernel_rfl) (by kernel_rfl) (by kernel_rfl)
  have tO := typeOfT
  have mA := methodAssignableTo
  have aT := assignTP
  have x1 := noAsT
  have x2 := noUnT
  have x3 := noUnsT
  have f6 := valueOfPP
  have f7 := typePP
  have mK := methodKind
  have mE := methodElem
  have mI := methodImplements
  have k27 := kindPP
  have k25 := kindP
  have e27 := elemPP
  have i25 := implementsP
  have n8 := isNilPP ⟨w.heap.size, 0, none⟩ t ((w.alloc (.cells #[.pointer (some t)] 39)).alloc (.cells #[hnd 39, .pointer (some ⟨w.heap.size, 0, none⟩), .int .u64 150] 88)) (by simp)
  have hlt := hg0.lt
  have hg2 : ((w.alloc (.cells #[.pointer (some t)] 39)).alloc (.cells #[hnd 39, .pointer (some ⟨w.heap.size, 0, none⟩), .int .u64 150] 88)).cell? ⟨0, 0, none⟩ = some (.iface 113 (.agg #[hnd 26])) := by
    rw [World.cell?_alloc_lt _ _ ⟨0, 0, none⟩ (by simp <;> omega), World.cell?_alloc_lt _ _ ⟨0, 0, none⟩ hlt]; exact hg
  clear hg0
  go_enter Tryd.func15, Tryd.ntmps15
  go_wp2
  refine wp_loop_rounds 1 ?_
  rw [rounds_succ]
  go_wp2
  go_ret
  exact ⟨rfl, by repeat (first | exact Below.refl _ _ | refine Below.alloc ?_ (by simp <;> omega) _)⟩

end Go.Proofs.YtbcmkkphbkpapabDoor
