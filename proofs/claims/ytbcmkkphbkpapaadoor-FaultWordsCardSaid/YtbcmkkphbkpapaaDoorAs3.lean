import Derived.Test.YtbcmkkphbkpapaaDoorAs2
import Derived.Test.YtbcmkkphbkpapaaDoorFault2
set_option linter.unusedVariables false
set_option linter.unusedSimpArgs false
namespace Go.Proofs.YtbcmkkphbkpapaaDoor
open Go.RowKit Go.Extern.Stop Go.Stop Go.Extern

/-! errors.As(tag, &tag): this text is turned out of As by a program. -/
theorem valueOfPP_t (t : Addr) (w : World) : (ReflectliteValue.unpack (.iface 100 (.pointer (some t)))).run Tryd.prog w
    = .ok (.agg #[hnd 100, .pointer (some ⟨w.heap.size, 0, none⟩), .int .u64 150]) (w.alloc (.cells #[.pointer (some t)] 100)) := by kernel_rfl
theorem typePP_t (a : Addr) (w : World) : (ReflectliteValue.methodAny (ReflectliteValue.valueError "reflectlite.Value.Type" 0) (fun t _ _ _ => ReflectliteType.toType t) #[.agg #[hnd 100, .pointer (some a), .int .u64 150]]).run Tryd.prog w
    = .ok (.iface 156 (.agg #[hnd 100])) w := by kernel_rfl
theorem kindPP_t (w : World) : ((ReflectliteType.abiMethod fun t => (fun a : Nat => Value.int IntKind.u8 (a : Int)) <$> Rtype.kind t) #[hnd 100]).run Tryd.prog w = .ok (.int .u8 22) w := by kernel_rfl
theorem kindP_t (w : World) : ((ReflectliteType.abiMethod fun t => (fun a : Nat => Value.int IntKind.u8 (a : Int)) <$> Rtype.kind t) #[hnd 23]).run Tryd.prog w = .ok (.int .u8 2) w := by kernel_rfl
theorem partsPP_t (a : Addr) (w : World) : (ReflectliteValue.parts (.agg #[hnd 100, .pointer (some a), .int .u64 150])).run Tryd.prog w = .ok (some (100, a, 150)) w := by kernel_rfl
theorem isNilPP_t (a p : Addr) (W : World) (ha : W.cell? a = some (.pointer (some p))) :
    (ReflectliteValue.method (ReflectliteValue.valueError "reflectlite.Value.IsNil" 0) ReflectliteValue.isNil #[.agg #[hnd 100, .pointer (some a), .int .u64 150]]).run Tryd.prog W = .ok (.bool false) W := by
  rw [rlm]
  simp only [Sem.run_bind, partsPP_t, Result.andThen]
  simp [ReflectliteValue.isNil, loadVar, isAgg, underlying, Tryd.underlying100, ha, Result.andThen]
theorem elemPP_t (w : World) : (ReflectliteType.method ReflectliteType.elem #[.agg #[hnd 100]]).run Tryd.prog w = .ok (.iface 156 (.agg #[hnd 23])) w := by kernel_rfl
theorem implementsP_t (w : World) : (ReflectliteType.relation "Implements" ReflectliteType.implements_ #[.agg #[hnd 23], .iface 156 (.agg #[hnd 29])]).run Tryd.prog w = .ok (.bool true) w := by kernel_rfl
theorem typeOfP_t (v : Value) (w : World) : (ReflectliteType.typeOf #[.iface 23 v]).run Tryd.prog w = .ok (.iface 156 (.agg #[hnd 23])) w := by kernel_rfl
theorem assignableP_t (w : World) : (ReflectliteType.relation "AssignableTo" ReflectliteType.assignableTo #[.agg #[hnd 23], .iface 156 (.agg #[hnd 23])]).run Tryd.prog w = .ok (.bool true) w := by kernel_rfl
theorem valueOfP_t (e : Int) (w : World) : (ReflectliteValue.unpack (.iface 23 (.int .i64 e))).run Tryd.prog w
    = .ok (.agg #[hnd 23, .pointer (some ⟨w.heap.size, 0, none⟩), .int .u64 130]) (w.alloc (.cells #[.int .i64 e] 23)) := by kernel_rfl
theorem elemOfPP_t (w : World) : (Rtype.elem? 100).run Tryd.prog w = .ok (some 23) w := by kernel_rfl
theorem mkP_t (p : Addr) (w : World) : (ReflectliteValue.mk 23 p ReflectliteValue.flagAddr).run Tryd.prog w = .ok (.agg #[hnd 23, .pointer (some p), .int .u64 386]) w := by kernel_rfl
theorem elemVPP_t (a p : Addr) (W : World) (ha : W.cell? a = some (.pointer (some p))) :
    (ReflectliteValue.method (ReflectliteValue.valueError "reflectlite.Value.Elem" 0) ReflectliteValue.elem #[.agg #[hnd 100, .pointer (some a), .int .u64 150]]).run Tryd.prog W
      = .ok (.agg #[hnd 23, .pointer (some p), .int .u64 386]) W := by
  rw [rlm]
  simp only [Sem.run_bind, partsPP_t, Result.andThen]
  simp [ReflectliteValue.elem, loadVar, isAgg, underlying, Tryd.underlying100, ha, Result.andThen, elemOfPP_t, mkP_t]
theorem partsPa_t (a : Addr) (w : World) : (ReflectliteValue.parts (.agg #[hnd 23, .pointer (some a), .int .u64 386])).run Tryd.prog w = .ok (some (23, a, 386)) w := by kernel_rfl
theorem partsP_t (a : Addr) (w : World) : (ReflectliteValue.parts (.agg #[hnd 23, .pointer (some a), .int .u64 130])).run Tryd.prog w = .ok (some (23, a, 130)) w := by kernel_rfl
theorem directP_t (w : World) : (Rtype.directlyAssignable 23 23).run Tryd.prog w = .ok true w := by kernel_rfl
theorem setP_t (ta b : Addr) (e : Int) (old : Value) (W : World) (hb : W.cell? b = some (.int .i64 e)) (ht : W.cell? ta = some old) (hf : W.frozen? ta = false) :
    (ReflectliteValue.set #[.agg #[hnd 23, .pointer (some ta), .int .u64 386], .agg #[hnd 23, .pointer (some b), .int .u64 130]]).run Tryd.prog W
      = .ok (.tuple #[]) (W.setCell ta (.int .i64 e)) := by
  rw [rls]
  simp only [Sem.run_bind, partsPa_t, partsP_t, Result.andThen]
  simp [ReflectliteValue.flagAddr, loadVar, isAgg, underlying, Tryd.underlying23, hb, Result.andThen, directP_t, storeVar, Value.cells, storeCells, Addr.add]
  rw [run_store Tryd.prog W ta _ _ (by rfl)]
  simp [ht, hf]

set_option maxHeartbeats 4000000 in
theorem as_hit_t (e : Int) (t : Addr) (old : Value) (w : World) (hg0 : ErrT w) (ht0 : w.cell? t = some old) (hf0 : w.frozen? t = false) :
    Calls Tryd.prog 45 #[.iface 23 (.int .i64 e), .iface 100 (.pointer (some t))] w fun ev w' => ev = .returned (.bool true) ∧ w' = ((((w.alloc (.cells #[.pointer (some t)] 100)).alloc (.cells #[hnd 100, .pointer (some ⟨w.heap.size, 0, none⟩), .int .u64 150] 143)).alloc (.cells #[hnd 100, .pointer (some ⟨w.heap.size, 0, none⟩), .int .u64 150] 143)).alloc (.cells #[.int .i64 e] 23)).setCell t (.int .i64 e) := by
  have hg : w.cell? ⟨0, 0, none⟩ = some (.iface 156 (.agg #[hnd 29])) := hg0
  have h6 := @run_callFunc_extern Tryd.prog 70 _ (fun args => ReflectliteValue.unpack (args.getD 0 (.tuple #[]))) Tryd.func70 (by kernel_rfl) (by kernel_rfl) (by kernel_rfl) (by kernel_rfl)
  have h7 := @run_callFunc_extern Tryd.prog 71 _ (ReflectliteValue.methodAny (ReflectliteValue.valueError "reflectlite.Value.Type" 0) (fun t _ _ _ => ReflectliteType.toType t)) Tryd.func71 (by kernel_rfl) (by kernel_rfl) (by kernel_rfl) (by kernel_rfl)
  have h8 := @run_callFunc_extern Tryd.prog 72 _ (ReflectliteValue.method (ReflectliteValue.valueError "reflectlite.Value.IsNil" 0) ReflectliteValue.isNil) Tryd.func72 (by kernel_rfl) (by kernel_rfl) (by kernel_rfl) (by kernel_rfl)
  have h27 := @run_callFunc_extern Tryd.prog 114 _ (ReflectliteType.abiMethod fun t => do pure (.int .u8 (← Rtype.kind t))) Tryd.func114 (by kernel_rfl) (by kernel_rfl) (by kernel_rfl) (by kernel_rfl)
  have h37 := @run_callFunc_extern Tryd.prog 128 _ (ReflectliteType.method ReflectliteType.elem) Tryd.func128 (by kernel_rfl) (by kernel_rfl) (by kernel_rfl) (by kernel_rfl)
  have h38 := @run_callFunc_extern Tryd.prog 129 _ (ReflectliteType.relation "Implements" ReflectliteType.implements_) Tryd.func129 (by kernel_rfl) (by kernel_rfl) (by kernel_rfl) (by kernel_rfl)
  have h10 := @run_callFunc_extern Tryd.prog 62 _ ReflectliteType.typeOf Tryd.func62 (by kernel_rfl) (by kernel_rfl) (by kernel_rfl) (by kernel_rfl)
  have h35 := @run_callFunc_extern Tryd.prog 126 _ (ReflectliteType.relation "AssignableTo" ReflectliteType.assignableTo) Tryd.func126 (by kernel_rfl) (by kernel_rfl) (by kernel_rfl) (by kernel_rfl)
  have h11 := @run_callFunc_extern Tryd.prog 83 _ (ReflectliteValue.method (ReflectliteValue.valueError "reflectlite.Value.Elem" 0) ReflectliteValue.elem) Tryd.func83 (by kernel_rfl) (by kernel_rfl) (by kernel_rfl) (by kernel_rfl)
  have h12 := @run_callFunc_extern Tryd.prog 84 _ ReflectliteValue.set Tryd.func84 (by kernel_rfl) (by kernel_rfl) (by kernel_rfl) (by kernel_rfl)
  have tO := typeOfP_t
  have mA := methodAssignableTo
  have a25 := assignableP_t
  have v25 := valueOfP_t
  have f6 := valueOfPP_t
  have f7 := typePP_t
  have mK := methodKind
  have mE := methodElem
  have mI := methodImplements
  have k27 := kindPP_t
  have k25 := kindP_t
  have e27 := elemPP_t
  have i25 := implementsP_t
  have n8 := isNilPP_t ⟨w.heap.size, 0, none⟩ t ((w.alloc (.cells #[.pointer (some t)] 100)).alloc (.cells #[hnd 100, .pointer (some ⟨w.heap.size, 0, none⟩), .int .u64 150] 143)) (by simp)
  have hlt := hg0.lt
  have hg2 : ((w.alloc (.cells #[.pointer (some t)] 100)).alloc (.cells #[hnd 100, .pointer (some ⟨w.heap.size, 0, none⟩), .int .u64 150] 143)).cell? ⟨0, 0, none⟩ = some (.iface 156 (.agg #[hnd 29])) := by
    rw [World.cell?_alloc_lt _ _ ⟨0, 0, none⟩ (by simp <;> omega), World.cell?_alloc_lt _ _ ⟨0, 0, none⟩ hlt]; exact hg
  have htl : t.block < w.heap.size := by
    rcases Nat.lt_or_ge t.block w.heap.size with h | h
    · exact h
    · simp [World.cell?, Array.getElem?_eq_none h] at ht0
  have el := elemVPP_t ⟨w.heap.size, 0, none⟩ t (((w.alloc (.cells #[.pointer (some t)] 100)).alloc (.cells #[hnd 100, .pointer (some ⟨w.heap.size, 0, none⟩), .int .u64 150] 143)).alloc (.cells #[hnd 100, .pointer (some ⟨w.heap.size, 0, none⟩), .int .u64 150] 143)) (by rw [World.cell?_alloc_lt _ _ ⟨w.heap.size, 0, none⟩ (by simp; omega)]; simp)
  have st := setP_t t ⟨w.heap.size + 1 + 1 + 1, 0, none⟩ e old ((((w.alloc (.cells #[.pointer (some t)] 100)).alloc (.cells #[hnd 100, .pointer (some ⟨w.heap.size, 0, none⟩), .int .u64 150] 143)).alloc (.cells #[hnd 100, .pointer (some ⟨w.heap.size, 0, none⟩), .int .u64 150] 143)).alloc (.cells #[.int .i64 e] 23))
    (by rw [World.cell?_alloc_at _ _ _ _ (by simp)]; rfl)
    (by rw [World.cell?_alloc_lt _ _ t (by simp; omega), World.cell?_alloc_lt _ _ t (by simp; omega), World.cell?_alloc_lt _ _ t (by simp; omega), World.cell?_alloc_lt _ _ t htl]; exact ht0)
    (by rw [World.frozen?_alloc_old _ _ t (by simp; omega), World.frozen?_alloc_old _ _ t (by simp; omega), World.frozen?_alloc_old _ _ t (by simp; omega), World.frozen?_alloc_old _ _ t (Nat.ne_of_lt htl)]; exact hf0)
  clear hg0
  go_enter Tryd.func45, Tryd.ntmps45
  go_wp2
  refine wp_loop_rounds 1 ?_
  rw [rounds_succ]
  go_wp2
  go_ret
  exact ⟨rfl, rfl⟩


def AsHitT (w : World) (b : Nat) (x : Value) (e : Ending) (w' : World) : Prop :=
  e = .returned (.bool true) ∧ Fr (fun i => i = b) w w' ∧ w'.cell? ⟨b, 0, none⟩ = some x
theorem as_tag {w : World} {e : Int} {b : Nat} {old : Value} {t : TypeId} (hg : ErrT w) (hb : w.heap[b]? = some (.cells #[old] t (0, 0))) :
    Calls Tryd.prog 45 #[.iface 23 (.int .i64 e), .iface 100 (.pointer (some ⟨b, 0, none⟩))] w (AsHitT w b (.int .i64 e)) := by
  refine (as_hit_t e ⟨b, 0, none⟩ old w hg (by rw [cell_blk hb]; rfl) (frozen_blk hb 0)).mono ?_
  rintro ev w' ⟨rfl, rfl⟩
  have hlt := blk_lt hb
  have e1 := ((((Fr.refl (fun _ => False) w).alloc (.cells #[.pointer (some ⟨b, 0, none⟩)] 100)).alloc (.cells #[hnd 100, .pointer (some ⟨w.heap.size, 0, none⟩), .int .u64 150] 143)).alloc (.cells #[hnd 100, .pointer (some ⟨w.heap.size, 0, none⟩), .int .u64 150] 143)).alloc (.cells #[.int .i64 e] 23)
  have hb2 := (e1.block b hlt (fun f => f)).trans hb
  have hb3 := blk_set (o := 0) hb2 (.int .i64 e)
  refine ⟨rfl, ?_, ?_⟩
  · exact (e1.mono (fun i _ f => f.elim)).trans (Fr.setCell _ _ _) (fun i _ h => h)
  · rw [cell_blk hb3]
    rfl
/-! Of, At, Depth: of a tag. -/
theorem Of_tag {w : World} {n : Int} (hE : ErrT w) : Calls Tryd.prog 13 #[.iface 23 (.int .i64 n)] w (RetB w (.int .i64 n)) := by
  have b1 : Below w.heap.size w (w.alloc (.cells #[.pointer none] 95)) := (Below.refl _ _).alloc (Nat.le_refl _) _
  have HM := hid (as_tag_miss n ⟨w.heap.size, 0, none⟩ (w.alloc (.cells #[.pointer none] 95)) (hE.below b1))
  have HB := hid b1
  have HE := hid hE
  clear b1 hE
  go_enter Tryd.func13, Tryd.ntmps13
  go_wp2_with fail
  refine HM.out.mono ?_
  rintro e w1 ⟨rfl, hb1⟩
  have HB1 := hid (HB.out.trans (hb1.mono (by simp)))
  have HA := hid (as_tag (e := n) (HE.out.below (HB1.out.alloc HB1.out.size (.cells #[.int .i64 0] 23))) (heap_alloc_new w1 (.cells #[.int .i64 0] 23)))
  clear hb1
  go_wp2_with fail
  refine HA.out.mono ?_
  rintro e w2 ⟨rfl, hF, c0⟩
  have HB2 := hid ((HB1.out.alloc HB1.out.size (.cells #[.int .i64 0] 23)).trans (hF.own_below HB1.out.size (HB1.out.alloc HB1.out.size _).size))
  clear hF
  go_wp2
  go_ret
  exact ⟨rfl, HB2.out⟩
theorem At_tag {w : World} {n : Int} (hE : ErrT w) : Calls Tryd.prog 14 #[.iface 23 (.int .i64 n)] w (RetB w (.int .i64 (-1))) := by
  have b1 : Below w.heap.size w (w.alloc (.cells #[.pointer none] 95)) := (Below.refl _ _).alloc (Nat.le_refl _) _
  have HM := hid (as_tag_miss n ⟨w.heap.size, 0, none⟩ (w.alloc (.cells #[.pointer none] 95)) (hE.below b1))
  have HB := hid b1
  clear b1 hE
  go_enter Tryd.func14, Tryd.ntmps14
  go_wp2_with fail
  refine HM.out.mono ?_
  rintro e w1 ⟨rfl, hb1⟩
  have HB1 := hid (HB.out.trans (hb1.mono (by simp)))
  clear hb1
  go_wp2
  go_ret
  exact ⟨rfl, HB1.out⟩
theorem Depth_tag {w : World} {n : Int} (hE : ErrT w) : Calls Tryd.prog 41 #[.iface 23 (.int .i64 n)] w (RetB w (.int .i64 0)) := by
  have b1 : Below w.heap.size w (w.alloc (.cells #[.pointer none] 95)) := (Below.refl _ _).alloc (Nat.le_refl _) _
  have HM := hid (as_tag_miss n ⟨w.heap.size, 0, none⟩ (w.alloc (.cells #[.pointer none] 95)) (hE.below b1))
  have HB := hid b1
  clear b1 hE
  go_enter Tryd.func41, Tryd.ntmps41
  go_wp2_with fail
  refine wp_loop_rounds 1 ?_
  rw [rounds_succ]
  go_wp2_with fail
  refine HM.out.mono ?_
  rintro e w1 ⟨rfl, hb1⟩
  have HB1 := hid (HB.out.trans (hb1.mono (by simp)))
  clear hb1
  go_wp2
  go_ret
  exact ⟨rfl, HB1.out⟩
end Go.Proofs.YtbcmkkphbkpapaaDoor
