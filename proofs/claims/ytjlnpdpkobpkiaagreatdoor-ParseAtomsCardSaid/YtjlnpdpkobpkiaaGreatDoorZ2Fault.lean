import Derived.Test.YtjlnpdpkobpkiaaGreatDoorZ2Lib
import Derived.Test.YtjlnpdpkobpkiaaGreatDoorRows
import Derived.LaidEql
import Derived.Stop.Asserts
import Derived.RowKitTokens
import Derived.Test.YtjlnpdpkobpkiaaGreatDoorZ2LexA
set_option linter.unusedVariables false
set_option linter.unusedSimpArgs false
namespace Go.Proofs.YtjlnpdpkobpkiaaGreatDoor
open Go.RowKit Go.Extern.Stop Go.Stop Go.Extern
abbrev hnd (t:Nat):Value:= .pointer (some ⟨5,t,none⟩)
theorem valueOfPP (t:Addr) (w:World):(ReflectliteValue.unpack (.iface 118 (.pointer (some t)))).run Tryz.prog w
    = .ok (.agg #[hnd 118,.pointer (some ⟨w.heap.size,0,none⟩),.int .u64 150]) (w.alloc (.cells #[.pointer (some t)] 118)):=by kernel_rfl
theorem typePP (a:Addr) (w:World):(ReflectliteValue.methodAny (ReflectliteValue.valueError "reflectlite.Value.Type" 0) (fun t _ _ _=>ReflectliteType.toType t) #[.agg #[hnd 118,.pointer (some a),.int .u64 150]]).run Tryz.prog w
    = .ok (.iface 200 (.agg #[hnd 118])) w:=by kernel_rfl
theorem methodKind (h:Value) (w:World):(Go.method 384 200 (.agg #[h]) "Kind").run Tryz.prog w= .ok (154,h) w:=by kernel_rfl
theorem kindPP (w:World):((ReflectliteType.abiMethod fun t=>(fun a:Nat=>Value.int IntKind.u8 (a:Int))<$>Rtype.kind t) #[hnd 118]).run Tryz.prog w= .ok (.int .u8 22) w:=by kernel_rfl
theorem kindP (w:World):((ReflectliteType.abiMethod fun t=>(fun a:Nat=>Value.int IntKind.u8 (a:Int))<$>Rtype.kind t) #[hnd 116]).run Tryz.prog w= .ok (.int .u8 22) w:=by kernel_rfl
theorem rlm (z:Sem Value) (f:TypeId→Addr→Nat→Nat→Sem Value) (v:Value):
    ReflectliteValue.method z f #[v]=(do match ←ReflectliteValue.parts v with|none=>z|some (t,a,fl)=>f t a fl (fl % 32)):=rfl
theorem partsPP (a:Addr) (w:World):(ReflectliteValue.parts (.agg #[hnd 118,.pointer (some a),.int .u64 150])).run Tryz.prog w= .ok (some (118,a,150)) w:=by kernel_rfl
theorem isNilPP (a p:Addr) (W:World) (ha:W.cell? a=some (.pointer (some p))):
    (ReflectliteValue.method (ReflectliteValue.valueError "reflectlite.Value.IsNil" 0) ReflectliteValue.isNil #[.agg #[hnd 118,.pointer (some a),.int .u64 150]]).run Tryz.prog W= .ok (.bool false) W:=by
  rw [rlm]
  simp only [Sem.run_bind,partsPP,Result.andThen]
  simp [ReflectliteValue.isNil,loadVar,isAgg,underlying,Tryz.underlying118,ha,Result.andThen]
theorem methodElem (h:Value) (w:World):(Go.method 384 200 (.agg #[h]) "Elem").run Tryz.prog w= .ok (173,.agg #[h]) w:=by kernel_rfl
theorem methodImplements (h:Value) (w:World):(Go.method 384 200 (.agg #[h]) "Implements").run Tryz.prog w= .ok (174,.agg #[h]) w:=by kernel_rfl
theorem methodAssignableTo (h:Value) (w:World):(Go.method 384 200 (.agg #[h]) "AssignableTo").run Tryz.prog w= .ok (171,.agg #[h]) w:=by kernel_rfl
theorem elemPP (w:World):(ReflectliteType.method ReflectliteType.elem #[.agg #[hnd 118]]).run Tryz.prog w= .ok (.iface 200 (.agg #[hnd 116])) w:=by kernel_rfl
theorem implementsP (w:World):(ReflectliteType.relation "Implements" ReflectliteType.implements_ #[.agg #[hnd 116],.iface 200 (.agg #[hnd 43])]).run Tryz.prog w= .ok (.bool true) w:=by kernel_rfl
theorem typeOfP (v:Value) (w:World):(ReflectliteType.typeOf #[.iface 116 v]).run Tryz.prog w= .ok (.iface 200 (.agg #[hnd 116])) w:=by kernel_rfl
theorem assignableP (w:World):(ReflectliteType.relation "AssignableTo" ReflectliteType.assignableTo #[.agg #[hnd 116],.iface 200 (.agg #[hnd 116])]).run Tryz.prog w= .ok (.bool true) w:=by kernel_rfl
theorem valueOfP (e:Addr) (w:World):(ReflectliteValue.unpack (.iface 116 (.pointer (some e)))).run Tryz.prog w
    = .ok (.agg #[hnd 116,.pointer (some ⟨w.heap.size,0,none⟩),.int .u64 150]) (w.alloc (.cells #[.pointer (some e)] 116)):=by kernel_rfl
theorem elemOfPP (w:World):(Rtype.elem? 118).run Tryz.prog w= .ok (some 116) w:=by kernel_rfl
theorem mkP (p:Addr) (w:World):(ReflectliteValue.mk 116 p ReflectliteValue.flagAddr).run Tryz.prog w= .ok (.agg #[hnd 116,.pointer (some p),.int .u64 406]) w:=by kernel_rfl
theorem elemVPP (a p:Addr) (W:World) (ha:W.cell? a=some (.pointer (some p))):
    (ReflectliteValue.method (ReflectliteValue.valueError "reflectlite.Value.Elem" 0) ReflectliteValue.elem #[.agg #[hnd 118,.pointer (some a),.int .u64 150]]).run Tryz.prog W
      = .ok (.agg #[hnd 116,.pointer (some p),.int .u64 406]) W:=by
  rw [rlm]
  simp only [Sem.run_bind,partsPP,Result.andThen]
  simp [ReflectliteValue.elem,loadVar,isAgg,underlying,Tryz.underlying118,ha,Result.andThen,elemOfPP,mkP]
theorem rls (v x:Value):ReflectliteValue.set #[v,x]=(do
    let (some (dst,a,fl),some (src,b,_)):=(←ReflectliteValue.parts v,←ReflectliteValue.parts x)
      |unsupported (.noEntry "extern/(internal/reflectlite.Value).Set.zeroValue")
    if fl / ReflectliteValue.flagAddr % 2==0 then unsupported (.noEntry "extern/(internal/reflectlite.Value).Set.unaddressable")
    let val ←loadVar src b
    if ←Rtype.directlyAssignable dst src then storeVar dst a val
    else if ←Rtype.implements dst src then
      if (←Rtype.kind src)==20 then
        match val with
        | .nilIface=>unsupported (.noEntry "extern/reflectlite: a nil value of one interface type handed on as a value of another")
        |_=>storeVar dst a val
      else storeVar dst a (.iface src val)
    else panicString ("reflectlite.Set: value of type "++(←Rtype.spelt src)++ " is not assignable to type "++(←Rtype.spelt dst))
    pure (.tuple #[])):=rfl
theorem partsPa (a:Addr) (w:World):(ReflectliteValue.parts (.agg #[hnd 116,.pointer (some a),.int .u64 406])).run Tryz.prog w= .ok (some (116,a,406)) w:=by kernel_rfl
theorem partsP (a:Addr) (w:World):(ReflectliteValue.parts (.agg #[hnd 116,.pointer (some a),.int .u64 150])).run Tryz.prog w= .ok (some (116,a,150)) w:=by kernel_rfl
theorem directP (w:World):(Rtype.directlyAssignable 116 116).run Tryz.prog w= .ok true w:=by kernel_rfl
theorem setP (ta b e:Addr) (old:Value) (W:World) (hb:W.cell? b=some (.pointer (some e))) (ht:W.cell? ta=some old) (hf:W.frozen? ta=false):
    (ReflectliteValue.set #[.agg #[hnd 116,.pointer (some ta),.int .u64 406],.agg #[hnd 116,.pointer (some b),.int .u64 150]]).run Tryz.prog W
      = .ok (.tuple #[]) (W.setCell ta (.pointer (some e))):=by
  rw [rls]
  simp only [Sem.run_bind,partsPa,partsP,Result.andThen]
  simp [ReflectliteValue.flagAddr,loadVar,isAgg,underlying,Tryz.underlying116,hb,Result.andThen,directP,storeVar,Value.cells,storeCells,Addr.add]
  rw [run_store Tryz.prog W ta _ _ (by rfl)]
  simp [ht,hf]
def ErrT (w:World):Prop:=w.cell? ⟨0,0,none⟩=some (.iface 200 (.agg #[hnd 43]))
theorem ErrT.lt {w:World} (h:ErrT w):0<w.heap.size:=World.block_lt_of_cell? w _ h
set_option maxHeartbeats 4000000 in
theorem as_hit (e t:Addr) (old:Value) (w:World) (hg0:ErrT w) (ht0:w.cell? t=some old) (hf0:w.frozen? t=false):
    Calls Tryz.prog 42 #[.iface 116 (.pointer (some e)),.iface 118 (.pointer (some t))] w fun ev w'=>ev= .returned (.bool true)∧w'=((((w.alloc (.cells #[.pointer (some t)] 118)).alloc (.cells #[hnd 118,.pointer (some ⟨w.heap.size,0,none⟩),.int .u64 150] 167)).alloc (.cells #[hnd 118,.pointer (some ⟨w.heap.size,0,none⟩),.int .u64 150] 167)).alloc (.cells #[.pointer (some e)] 116)).setCell t (.pointer (some e)):=by
  have hg:w.cell? ⟨0,0,none⟩=some (.iface 200 (.agg #[hnd 43])):=hg0
  have h6:= @run_callFunc_extern Tryz.prog 70 _ (fun args=>ReflectliteValue.unpack (args.getD 0 (.tuple #[]))) Tryz.func70 (by kernel_rfl) (by kernel_rfl) (by kernel_rfl) (by kernel_rfl)
  have h7:= @run_callFunc_extern Tryz.prog 71 _ (ReflectliteValue.methodAny (ReflectliteValue.valueError "reflectlite.Value.Type" 0) (fun t _ _ _=>ReflectliteType.toType t)) Tryz.func71 (by kernel_rfl) (by kernel_rfl) (by kernel_rfl) (by kernel_rfl)
  have h8:= @run_callFunc_extern Tryz.prog 72 _ (ReflectliteValue.method (ReflectliteValue.valueError "reflectlite.Value.IsNil" 0) ReflectliteValue.isNil) Tryz.func72 (by kernel_rfl) (by kernel_rfl) (by kernel_rfl) (by kernel_rfl)
  have h27:= @run_callFunc_extern Tryz.prog 154 _ (ReflectliteType.abiMethod fun t=>do pure (.int .u8 (←Rtype.kind t))) Tryz.func154 (by kernel_rfl) (by kernel_rfl) (by kernel_rfl) (by kernel_rfl)
  have h37:= @run_callFunc_extern Tryz.prog 173 _ (ReflectliteType.method ReflectliteType.elem) Tryz.func173 (by kernel_rfl) (by kernel_rfl) (by kernel_rfl) (by kernel_rfl)
  have h38:= @run_callFunc_extern Tryz.prog 174 _ (ReflectliteType.relation "Implements" ReflectliteType.implements_) Tryz.func174 (by kernel_rfl) (by kernel_rfl) (by kernel_rfl) (by kernel_rfl)
  have h10:= @run_callFunc_extern Tryz.prog 62 _ ReflectliteType.typeOf Tryz.func62 (by kernel_rfl) (by kernel_rfl) (by kernel_rfl) (by kernel_rfl)
  have h35:= @run_callFunc_extern Tryz.prog 171 _ (ReflectliteType.relation "AssignableTo" ReflectliteType.assignableTo) Tryz.func171 (by kernel_rfl) (by kernel_rfl) (by kernel_rfl) (by kernel_rfl)
  have h11:= @run_callFunc_extern Tryz.prog 100 _ (ReflectliteValue.method (ReflectliteValue.valueError "reflectlite.Value.Elem" 0) ReflectliteValue.elem) Tryz.func100 (by kernel_rfl) (by kernel_rfl) (by kernel_rfl) (by kernel_rfl)
  have h12:= @run_callFunc_extern Tryz.prog 101 _ ReflectliteValue.set Tryz.func101 (by kernel_rfl) (by kernel_rfl) (by kernel_rfl) (by kernel_rfl)
  have tO:=typeOfP
  have mA:=methodAssignableTo
  have a25:=assignableP
  have v25:=valueOfP
  have f6:=valueOfPP
  have f7:=typePP
  have mK:=methodKind
  have mE:=methodElem
  have mI:=methodImplements
  have k27:=kindPP
  have k25:=kindP
  have e27:=elemPP
  have i25:=implementsP
  have n8:=isNilPP ⟨w.heap.size,0,none⟩ t ((w.alloc (.cells #[.pointer (some t)] 118)).alloc (.cells #[hnd 118,.pointer (some ⟨w.heap.size,0,none⟩),.int .u64 150] 167)) (by simp)
  have hlt:=hg0.lt
  have hg2:((w.alloc (.cells #[.pointer (some t)] 118)).alloc (.cells #[hnd 118,.pointer (some ⟨w.heap.size,0,none⟩),.int .u64 150] 167)).cell? ⟨0,0,none⟩=some (.iface 200 (.agg #[hnd 43])):=by
    rw [World.cell?_alloc_lt _ _ ⟨0,0,none⟩ (by simp <;>omega),World.cell?_alloc_lt _ _ ⟨0,0,none⟩ hlt];exact hg
  have htl:t.block<w.heap.size:=by
    rcases Nat.lt_or_ge t.block w.heap.size with h|h
    · exact h
    · simp [World.cell?,Array.getElem?_eq_none h] at ht0
  have el:=elemVPP ⟨w.heap.size,0,none⟩ t (((w.alloc (.cells #[.pointer (some t)] 118)).alloc (.cells #[hnd 118,.pointer (some ⟨w.heap.size,0,none⟩),.int .u64 150] 167)).alloc (.cells #[hnd 118,.pointer (some ⟨w.heap.size,0,none⟩),.int .u64 150] 167)) (by rw [World.cell?_alloc_lt _ _ ⟨w.heap.size,0,none⟩ (by simp;omega)];simp)
  have st:=setP t ⟨w.heap.size+1+1+1,0,none⟩ e old ((((w.alloc (.cells #[.pointer (some t)] 118)).alloc (.cells #[hnd 118,.pointer (some ⟨w.heap.size,0,none⟩),.int .u64 150] 167)).alloc (.cells #[hnd 118,.pointer (some ⟨w.heap.size,0,none⟩),.int .u64 150] 167)).alloc (.cells #[.pointer (some e)] 116))
    (by rw [World.cell?_alloc_at _ _ _ _ (by simp)];rfl)
    (by rw [World.cell?_alloc_lt _ _ t (by simp;omega),World.cell?_alloc_lt _ _ t (by simp;omega),World.cell?_alloc_lt _ _ t (by simp;omega),World.cell?_alloc_lt _ _ t htl];exact ht0)
    (by rw [World.frozen?_alloc_old _ _ t (by simp;omega),World.frozen?_alloc_old _ _ t (by simp;omega),World.frozen?_alloc_old _ _ t (by simp;omega),World.frozen?_alloc_old _ _ t (Nat.ne_of_lt htl)];exact hf0)
  clear hg0
  go_enter Tryz.func42,Tryz.ntmps42
  go_wp2
  refine wp_loop_rounds 1 ?_
  rw [rounds_succ]
  go_wp2
  go_ret
  exact ⟨rfl,rfl⟩
def AsHit (w:World) (b:Nat) (x:Value) (e:Ending) (w':World):Prop:=
  e= .returned (.bool true)∧Fr (fun i=>i=b) w w'∧w'.cell? ⟨b,0,none⟩=some x∧w'.frozen? ⟨b,0,none⟩=false
theorem as_fault {w:World} {e:Addr} {b:Nat} {old:Value} {t:TypeId} (hg:ErrT w) (hb:w.heap[b]? =some (.cells #[old] t (0,0))):
    Calls Tryz.prog 42 #[.iface 116 (.pointer (some e)),.iface 118 (.pointer (some ⟨b,0,none⟩))] w (AsHit w b (.pointer (some e))):=by
  refine (as_hit e ⟨b,0,none⟩ old w hg (by rw [cell_blk hb];rfl) (frozen_blk hb 0)).mono ?_
  rintro ev w' ⟨rfl,rfl⟩
  have hlt:=blk_lt hb
  have e1:=((((Fr.refl (fun _=>False) w).alloc (.cells #[.pointer (some ⟨b,0,none⟩)] 118)).alloc (.cells #[hnd 118,.pointer (some ⟨w.heap.size,0,none⟩),.int .u64 150] 167)).alloc (.cells #[hnd 118,.pointer (some ⟨w.heap.size,0,none⟩),.int .u64 150] 167)).alloc (.cells #[.pointer (some e)] 116)
  have hb2:=(e1.block b hlt (fun f=>f)).trans hb
  have hb3:=blk_set (o:=0) hb2 (.pointer (some e))
  refine ⟨rfl,?_,?_,frozen_blk hb3 0⟩
  · exact (e1.mono (fun i _ f=>f.elim)).trans (Fr.setCell _ _ _) (fun i _ h=>h)
  · rw [cell_blk hb3]
    rfl
end Go.Proofs.YtjlnpdpkobpkiaaGreatDoor
set_option linter.unusedVariables false
set_option linter.unusedSimpArgs false
namespace Go.Proofs.YtjlnpdpkobpkiaaGreatDoor
open Go.RowKit
theorem ErrT.below {w w':World} (h:ErrT w) (hb:Below w.heap.size w w'):ErrT w':=(hb.cell h.lt).trans h
theorem Of_fault {w:World} {b:Nat} {tag at_:Int} {what:ByteArray} {err:Value} (hg:ErrT w) (h:FaultAt w b tag at_ what err):
    Calls Tryz.prog 12 #[faultV b] w (RetB w (.int .i64 tag)):=by
  have b1:Below w.heap.size w (w.alloc (.cells #[.pointer none] 116)):=(Below.refl _ _).alloc (Nat.le_refl _) _
  have hlt:=blk_lt h
  have HA:=hid (as_fault (e:=⟨b,0,none⟩) (hg.below b1) (heap_alloc_new w (.cells #[.pointer none] 116)))
  have HF:=hid (h.below b1)
  have HB:=hid b1
  clear hg h b1
  go_enter Tryz.func12,Tryz.ntmps12
  go_wp2_with fail
  refine HA.out.mono ?_
  rintro e w' ⟨rfl,hF,hc,hf⟩
  have hb':=(hF.block b (by simp;omega) (by omega)).trans HF.out
  have c0:=cell_blk hb' 0
  simp at c0
  have HFr:=hid hF
  clear hF hf hb'
  go_wp2
  go_ret
  exact ⟨rfl,HB.out.trans (HFr.out.below (by simp) (fun i hi=>by omega))⟩
theorem At_fault {w:World} {b:Nat} {tag at_:Int} {what:ByteArray} {err:Value} (hg:ErrT w) (h:FaultAt w b tag at_ what err):
    Calls Tryz.prog 13 #[faultV b] w (RetB w (.int .i64 at_)):=by
  have b1:Below w.heap.size w (w.alloc (.cells #[.pointer none] 116)):=(Below.refl _ _).alloc (Nat.le_refl _) _
  have hlt:=blk_lt h
  have HA:=hid (as_fault (e:=⟨b,0,none⟩) (hg.below b1) (heap_alloc_new w (.cells #[.pointer none] 116)))
  have HF:=hid (h.below b1)
  have HB:=hid b1
  clear hg h b1
  go_enter Tryz.func13,Tryz.ntmps13
  go_wp2_with fail
  refine HA.out.mono ?_
  rintro e w' ⟨rfl,hF,hc,hf⟩
  have hb':=(hF.block b (by simp;omega) (by omega)).trans HF.out
  have c0:=cell_blk hb' 1
  simp at c0
  have HFr:=hid hF
  clear hF hf hb'
  go_wp2
  go_ret
  exact ⟨rfl,HB.out.trans (HFr.out.below (by simp) (fun i hi=>by omega))⟩
end Go.Proofs.YtjlnpdpkobpkiaaGreatDoor
