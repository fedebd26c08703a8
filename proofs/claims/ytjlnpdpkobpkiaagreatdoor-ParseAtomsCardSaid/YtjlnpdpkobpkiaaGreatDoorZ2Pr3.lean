import Derived.Test.YtjlnpdpkobpkiaaGreatDoorZ2Prc
import Derived.Test.YtjlnpdpkobpkiaaGreatDoorZ2W1
set_option linter.unusedVariables false
set_option linter.unusedSimpArgs false
namespace Go.Proofs.YtjlnpdpkobpkiaaGreatDoorPSP
open Go.RowKit Go.Extern.Stop Go.Stop Go.Extern Go.Proofs.YtjlnpdpkobpkiaaGreatDoorW.PrintMore Go.Proofs.YtjlnpdpkobpkiaaGreatDoor
attribute [local go_sem] min2_int min_two
def TkAt (w:World) (g:Nat) (ts:List Tk):Prop:=∀i t,ts[i]? =some t→w.cell? ⟨g,i*4,none⟩=some (.int .i64 (t.kind:Int))∧w.cell? ⟨g,i*4+1,none⟩=some (.string (bL t.text))∧w.cell? ⟨g,i*4+2,none⟩=some (.int .u64 (t.num:Int))∧w.cell? ⟨g,i*4+3,none⟩=some (.int .i64 (t.start:Int))
structure Env where
  b:Nat
  g:Nat
  cap:Nat
  ts:List Tk
  ne:g≠b
  le:ts.length≤cap
  len:ts.length≤30000
  fine:∀i t,ts[i]? =some t→(t.kind=0↔i+1=ts.length)
structure At (E:Env) (w:World) (j d:Nat) (l:List Tk):Prop where
  blk:w.heap[E.b]? =some (.cells #[.slice (some ⟨E.g,0,none⟩) E.ts.length E.cap,.int .i64 (j:Int),.int .i64 (d:Int)] 185 (0,0))
  tk:TkAt w E.g E.ts
  lt:j<E.ts.length
  l:l=E.ts.drop j
theorem At.below {E:Env} {w w':World} {j d:Nat} {l:List Tk} (h:At E w j d l) (hb:Below w.heap.size w w'):At E w' j d l:=
  ⟨(hb.block _ (blk_lt h.blk)).trans h.blk,fun i t ht=>by
    obtain ⟨a,b,c,e⟩:=h.tk i t ht
    have k:E.g<w.heap.size:=World.block_lt_of_cell? w _ a
    exact ⟨(hb.cell k).trans a,(hb.cell k).trans b,(hb.cell k).trans c,(hb.cell k).trans e⟩,h.lt,h.l⟩
abbrev tokV (t:Tk):Value:= .agg #[.int .i64 (t.kind:Int),.string (bL t.text),.int .u64 (t.num:Int),.int .i64 (t.start:Int)]
theorem At.get {E:Env} {w:World} {j d:Nat} {l:List Tk} (h:At E w j d l) (k:Nat):E.ts[min (j+k) (E.ts.length-1)]? =some (pk l k):=by
  have:=h.lt
  rw [h.l,pk,List.length_drop,List.getD_eq_getElem?_getD,List.getElem?_drop]
  have e:j+min k (E.ts.length-j-1)=min (j+k) (E.ts.length-1):=by omega
  rw [e,List.getElem?_eq_getElem (by omega)]
  rfl
set_option maxHeartbeats 4000000 in
set_option maxRecDepth 100000 in
theorem peek_1 {w:World} {b g cap n d j k i:Nat} {t:Tk} (hn:n≤30000) (hc:n≤cap) (hj:j<n) (hk:k≤1) (hb:w.heap[b]? =some (.cells #[.slice (some ⟨g,0,none⟩) n cap,.int .i64 (j:Int),.int .i64 (d:Int)] 185 (0,0)))
    (t0:w.cell? ⟨g,i*4,none⟩=some (.int .i64 (t.kind:Int))) (t1:w.cell? ⟨g,i*4+1,none⟩=some (.string (bL t.text))) (t2:w.cell? ⟨g,i*4+2,none⟩=some (.int .u64 (t.num:Int))) (t3:w.cell? ⟨g,i*4+3,none⟩=some (.int .i64 (t.start:Int)))
    (hi:i=min (j+k) (n-1)):
    Calls Tryz.prog 49 #[.pointer (some ⟨b,0,none⟩),.int .i64 (k:Int)] w (RetB w (tokV t)):=by
  have c0:=cell_blk hb 0
  have c1:=cell_blk hb 1
  simp at c0 c1
  have hw:Hid (Below w.heap.size w (w.alloc (.cells #[.int .i64 0,.string ⟨#[]⟩,.int .u64 0,.int .i64 0] 68))):=hid ((Below.refl _ _).alloc (Nat.le_refl _) _)
  have kb:=heap_alloc_new w (.cells #[.int .i64 0,.string ⟨#[]⟩,.int .u64 0,.int .i64 0] 68)
  have f0:=Lib.frozen_of_heap kb 0
  have f1:=Lib.frozen_of_heap kb 1
  have f2:=Lib.frozen_of_heap kb 2
  have f3:=Lib.frozen_of_heap kb 3
  have c0:=(hw.out.cell (World.block_lt_of_cell? w _ c0)).trans c0
  have c1:=(hw.out.cell (World.block_lt_of_cell? w _ c1)).trans c1
  have t0:=(hw.out.cell (World.block_lt_of_cell? w _ t0)).trans t0
  have t1:=(hw.out.cell (World.block_lt_of_cell? w _ t1)).trans t1
  have t2:=(hw.out.cell (World.block_lt_of_cell? w _ t2)).trans t2
  have t3:=(hw.out.cell (World.block_lt_of_cell? w _ t3)).trans t3
  clear hb kb
  by_cases h:n-1<j+k
  · have em : i = n - 1 := by omega
    subst em
    have h1:((n:Int)-1<(j:Int)+(k:Int))=True:=eq_true (by omega)
    have h2:(((n:Int)-1).toNat)=n-1:=by omega
    clear hi h
    go_enter Tryz.func49,Tryz.ntmps49
    go_wp2_with fail
    go_region
    go_wp2
    refine bodyPost_ret (v:=tokV t) (by simp [results,Tryz.results49,go_sem]) rfl ?_
    refine ⟨rfl,?_⟩
    exact ((Below.refl _ _).alloc (Nat.le_refl _) _).drew
  · have em : i = j + k := by omega
    subst em
    have h1:((n:Int)-1<(j:Int)+(k:Int))=False:=eq_false (by omega)
    have h2:((j:Int)+(k:Int)).toNat=j+k:=by omega
    have h3:((j:Int)+(k:Int))<n:=by omega
    clear hi h
    go_enter Tryz.func49,Tryz.ntmps49
    go_wp2_with fail
    go_region
    go_wp2
    refine bodyPost_ret (v:=tokV t) (by simp [results,Tryz.results49,go_sem]) rfl ?_
    refine ⟨rfl,?_⟩
    exact ((Below.refl _ _).alloc (Nat.le_refl _) _).drew
theorem peek_any {E:Env} {w:World} {j d:Nat} {l:List Tk} (h:At E w j d l) (k:Nat) (hk:k≤1):
    Calls Tryz.prog 49 #[.pointer (some ⟨E.b,0,none⟩),.int .i64 (k:Int)] w (RetB w (.agg #[.int .i64 ((pk l k).kind:Int),.string (bL (pk l k).text),.int .u64 ((pk l k).num:Int),.int .i64 ((pk l k).start:Int)])):=by
  obtain ⟨t0,t1,t2,t3⟩:=h.tk _ _ (h.get k)
  exact peek_1 E.len E.le h.lt hk h.blk t0 t1 t2 t3 rfl
theorem bytes_eq (a b:List UInt8):((bL a).toList==(bL b).toList)=(a==b):=by
  rw [ByteArray.toList_eq,ByteArray.toList_eq]
theorem kind_eq (t:Tk) (k:Nat):((t.kind:Int)==(k:Int))=(t.kind==k):=by
  by_cases h:t.kind=k
  · subst h;simp
  · rw [show (t.kind == k) = false by simpa using h]
    exact beq_false_of_ne (fun e=>h (by omega))
set_option maxHeartbeats 4000000 in
set_option maxRecDepth 100000 in
theorem is_any {E:Env} {w:World} {j d:Nat} {l:List Tk} (h:At E w j d l) (k:Nat) (hk:k≤1) (s:List UInt8):
    Calls Tryz.prog 51 #[.pointer (some ⟨E.b,0,none⟩),.int .i64 (k:Int),.string (bL s)] w (RetB w (.bool (isS l k s))):=by
  have HP:=hid (peek_any h k hk)
  have e1:(((pk l k).kind:Int)==5)=((pk l k).kind==5):=kind_eq (pk l k) 5
  have e2:=bytes_eq (pk l k).text s
  unfold isS
  generalize ((pk l k).kind==5)=p at *
  clear h
  go_enter Tryz.func51,Tryz.ntmps51
  go_wp2_with fail
  refine HP.out.mono ?_
  rintro e w1 ⟨rfl,hb⟩
  have HB:=hid hb
  clear hb
  cases p with
  |true=>
    go_wp2
    go_ret
    exact ⟨by rw [Bool.true_and];rfl,HB.out.alloc (HB.out.size) _⟩
  |false=>
    go_wp2
    go_ret
    exact ⟨by rw [Bool.false_and];rfl,HB.out.alloc (HB.out.size) _⟩
theorem At.move {E:Env} {w w':World} {j d j' d':Nat} {l:List Tk} (h:At E w j d l) (hb:w'.heap[E.b]? =some (.cells #[.slice (some ⟨E.g,0,none⟩) E.ts.length E.cap,.int .i64 (j':Int),.int .i64 (d':Int)] 185 (0,0)))
    (hf:Fr (fun i=>i=E.b) w w') (hj:j'<E.ts.length):At E w' j' d' (E.ts.drop j'):=
  ⟨hb,fun i t ht=>by
    obtain ⟨a,b,c,e⟩:=h.tk i t ht
    have k:¬E.g=E.b:=E.ne
    exact ⟨hf.cell a k,hf.cell b k,hf.cell c k,hf.cell e k⟩,hj,rfl⟩
theorem At.next {E:Env} {w:World} {j d:Nat} {l:List Tk} (h:At E w j d l) (hk:(pk l 0).kind≠0):j+1<E.ts.length:=by
  have hg:=h.get 0
  have hlt:=h.lt
  rw [show min (j+0) (E.ts.length-1)=j by omega] at hg
  have:=E.fine j _ hg
  omega
theorem At.drop {E:Env} {w:World} {j d:Nat} {l:List Tk} (h:At E w j d l) (k:Nat):E.ts.drop (j+k)=l.drop k:=by
  rw [h.l,List.drop_drop]
theorem At.sign {E:Env} {w:World} {j d:Nat} {l:List Tk} {s:List UInt8} (h:At E w j d l) (hk:isS l 0 s=true):j+1<E.ts.length:=by
  refine h.next (fun e=> ?_)
  unfold isS at hk
  rw [e] at hk
  cases hk
theorem At.step {E:Env} {w w1:World} {j d:Nat} {l:List Tk} (h:At E w j d l) (hb:Below w.heap.size w w1) (hj:j+1<E.ts.length):
    At E (w1.setCell ⟨E.b,1,none⟩ (.int .i64 ((j:Int)+1))) (j+1) d (l.drop 1)∧Fr (fun i=>i=E.b) w (w1.setCell ⟨E.b,1,none⟩ (.int .i64 ((j:Int)+1))):=by
  have h1:=h.below hb
  have hf:Fr (fun i=>i=E.b) w (w1.setCell ⟨E.b,1,none⟩ (.int .i64 ((j:Int)+1))):=
    Fr.trans (G:=fun i=>i=E.b) (F:=fun i=>i=E.b) ⟨hb.os,hb.tape,hb.output,hb.size,fun i hi _=>hb.block i hi⟩ (Fr.setCell w1 ⟨E.b,1,none⟩ _) (fun i _ hi=>hi)
  refine ⟨?_,hf⟩
  rw [←h.drop 1]
  refine h.move ?_ hf hj
  have:=blk_set (o:=1) h1.blk (.int .i64 ((j:Int)+1))
  rw [this]
  simp
def TakePost (E:Env) (w:World) (j d:Nat) (l:List Tk) (s:List UInt8) (e:Ending) (w':World):Prop:=
  e= .returned (.bool (isS l 0 s))∧(isS l 0 s=true→At E w' (j+1) d (l.drop 1)∧Fr (fun i=>i=E.b) w w')∧(isS l 0 s=false→Below w.heap.size w w')
set_option maxHeartbeats 4000000 in
set_option maxRecDepth 100000 in
theorem take_any {E:Env} {w:World} {j d:Nat} {l:List Tk} (h:At E w j d l) (s:List UInt8):
    Calls Tryz.prog 85 #[.pointer (some ⟨E.b,0,none⟩),.string (bL s)] w (TakePost E w j d l s):=by
  have HI:=hid (is_any h 0 (by decide) s)
  have H:=hid h
  have hlen:=E.len
  have hlt:=h.lt
  clear h
  go_enter Tryz.func85,Tryz.ntmps85
  go_wp2_with fail
  refine HI.out.mono ?_
  rintro e w1 ⟨rfl,hb⟩
  have c1:=cell_blk (H.out.below hb).blk 1
  have f1:=Lib.frozen_of_heap (H.out.below hb).blk 1
  simp at c1
  have HB:=hid hb
  have hj:j+1≤30000:=by omega
  clear hb hlt
  cases hs:isS l 0 s with
  |true=>
    have HJ:=hid (H.out.sign hs)
    have HS:=hid hs
    go_wp2
    go_ret
    exact ⟨by rw [HS.out];rfl,fun _=>H.out.step HB.out HJ.out,fun e=>(by rw [HS.out] at e;cases e)⟩
  |false=>
    have HS:=hid hs
    go_wp2
    go_ret
    exact ⟨by rw [HS.out];rfl,fun e=>(by rw [HS.out] at e;cases e),fun _=>HB.out⟩
theorem run_at (a b c d:Value) (w:World):(Instr.field 68 (.agg #[a,b,c,d]) 3).run Tryz.prog w= .ok d w:=by kernel_rfl
def FailPost (w:World) (tag at_:Nat) (e:Ending) (w':World):Prop:=∃f what,e= .returned (faultV f)∧FaultAt w' f (tag:Int) (at_:Int) what .nilIface∧w.heap.size≤f∧Below w.heap.size w w'
set_option maxHeartbeats 4000000 in
set_option maxRecDepth 100000 in
theorem fail_any {E:Env} {w:World} {j d:Nat} {l:List Tk} (h:At E w j d l) (tag:Nat) (what:ByteArray):
    Calls Tryz.prog 50 #[.pointer (some ⟨E.b,0,none⟩),.int .i64 (tag:Int),.string what] w (FailPost w tag (pk l 0).start):=by
  have HI:=hid (peek_any h 0 (by decide))
  have ra:=run_at
  clear h
  go_enter Tryz.func50,Tryz.ntmps50
  go_wp2_with fail
  refine HI.out.mono ?_
  rintro e w1 ⟨rfl,hb⟩
  have HB:=hid hb
  clear hb
  go_wp2_with fail
  refine (FNew_any _ _ _ _).mono ?_
  rintro e w2 ⟨f,rfl,hF,hlf,hb2⟩
  have HF:=hid hF
  have HB2:=hid hb2
  have HL:=hid hlf
  clear hF hb2 hlf
  go_wp2
  go_ret
  exact ⟨f,what,rfl,HF.out,Nat.le_trans HB.out.size HL.out,HB.out.trans (HB2.out.mono HB.out.size)⟩
end Go.Proofs.YtjlnpdpkobpkiaaGreatDoorPSP
set_option linter.unusedVariables false
set_option linter.unusedSimpArgs false
namespace Go.Proofs.YtjlnpdpkobpkiaaGreatDoor
open Go.RowKit
theorem Fr.put {F:Nat→Prop} {a w:World} (h:Fr F a w) (p:Addr) (hp:a.heap.size≤p.block) (u:Value):Fr F a (w.setCell p u):=
  h.trans (G:=fun i=>i=p.block) (Fr.setCell w p u) (fun i hi e=>by omega)
theorem Fr.putF {F:Nat→Prop} {a w:World} (h:Fr F a w) (p:Addr) (hp:F p.block) (u:Value):Fr F a (w.setCell p u):=
  h.trans (G:=fun i=>i=p.block) (Fr.setCell w p u) (fun i hi e=>by subst e;exact hp)
theorem Fr.old {F:Nat→Prop} {a w w':World} (h:Fr F a w) (hb:Below w.heap.size w w'):Fr F a w':=
  ⟨hb.os.trans h.os,hb.tape.trans h.tape,hb.output.trans h.output,Nat.le_trans h.size hb.size,fun i hi hn=>(hb.block i (Nat.lt_of_lt_of_le hi h.size)).trans (h.block i hi hn)⟩
theorem Fr.ofB {F:Nat→Prop} {w w':World} (hb:Below w.heap.size w w'):Fr F w w':=(Fr.refl F w).old hb
theorem FaultAt.put {w:World} {f:Nat} {t a:Int} {x:ByteArray} {y:Value} (h:FaultAt w f t a x y) (p:Addr) (hp:p.block≠f) (u:Value):FaultAt (w.setCell p u) f t a x y:=
  ((Fr.setCell w p u).block f (blk_lt h) (fun e=>hp e.symm)).trans h
theorem Fr.put2 {F:Nat→Prop} {a w:World} (h:Fr F a w) {b:Nat} (hb:a.heap.size≤b) {u0 u1:Value}:Fr F a ((w.setCell ⟨b,0,none⟩ u0).setCell ⟨b,1,none⟩ u1):=((h.put ⟨b,0,none⟩ hb _).put ⟨b,1,none⟩ hb _)
theorem FaultAt.put2 {w:World} {f:Nat} {t a:Int} {x:ByteArray} {y:Value} (h:FaultAt w f t a x y) {b:Nat} (hb:b≠f) {u0 u1:Value}:FaultAt ((w.setCell ⟨b,0,none⟩ u0).setCell ⟨b,1,none⟩ u1) f t a x y:=((h.put ⟨b,0,none⟩ hb _).put ⟨b,1,none⟩ hb _)
theorem Fr.self2 {w:World} {b:Nat} {u0 u1:Value}:Fr (fun i=>i=b) w ((w.setCell ⟨b,0,none⟩ u0).setCell ⟨b,1,none⟩ u1):=(Fr.putF (F:=fun i=>i=b) (Fr.putF (F:=fun i=>i=b) (Fr.refl (fun i=>i=b) w) ⟨b,0,none⟩ rfl _) ⟨b,1,none⟩ rfl _)
theorem Fr.put3 {F:Nat→Prop} {a w:World} (h:Fr F a w) {b:Nat} (hb:a.heap.size≤b) {u0 u1 u2:Value}:Fr F a (((w.setCell ⟨b,0,none⟩ u0).setCell ⟨b,1,none⟩ u1).setCell ⟨b,2,none⟩ u2):=(((h.put ⟨b,0,none⟩ hb _).put ⟨b,1,none⟩ hb _).put ⟨b,2,none⟩ hb _)
theorem FaultAt.put3 {w:World} {f:Nat} {t a:Int} {x:ByteArray} {y:Value} (h:FaultAt w f t a x y) {b:Nat} (hb:b≠f) {u0 u1 u2:Value}:FaultAt (((w.setCell ⟨b,0,none⟩ u0).setCell ⟨b,1,none⟩ u1).setCell ⟨b,2,none⟩ u2) f t a x y:=(((h.put ⟨b,0,none⟩ hb _).put ⟨b,1,none⟩ hb _).put ⟨b,2,none⟩ hb _)
theorem Fr.self3 {w:World} {b:Nat} {u0 u1 u2:Value}:Fr (fun i=>i=b) w (((w.setCell ⟨b,0,none⟩ u0).setCell ⟨b,1,none⟩ u1).setCell ⟨b,2,none⟩ u2):=(Fr.putF (F:=fun i=>i=b) (Fr.putF (F:=fun i=>i=b) (Fr.putF (F:=fun i=>i=b) (Fr.refl (fun i=>i=b) w) ⟨b,0,none⟩ rfl _) ⟨b,1,none⟩ rfl _) ⟨b,2,none⟩ rfl _)
theorem Fr.put4 {F:Nat→Prop} {a w:World} (h:Fr F a w) {b:Nat} (hb:a.heap.size≤b) {u0 u1 u2 u3:Value}:Fr F a ((((w.setCell ⟨b,0,none⟩ u0).setCell ⟨b,1,none⟩ u1).setCell ⟨b,2,none⟩ u2).setCell ⟨b,3,none⟩ u3):=((((h.put ⟨b,0,none⟩ hb _).put ⟨b,1,none⟩ hb _).put ⟨b,2,none⟩ hb _).put ⟨b,3,none⟩ hb _)
theorem FaultAt.put4 {w:World} {f:Nat} {t a:Int} {x:ByteArray} {y:Value} (h:FaultAt w f t a x y) {b:Nat} (hb:b≠f) {u0 u1 u2 u3:Value}:FaultAt ((((w.setCell ⟨b,0,none⟩ u0).setCell ⟨b,1,none⟩ u1).setCell ⟨b,2,none⟩ u2).setCell ⟨b,3,none⟩ u3) f t a x y:=((((h.put ⟨b,0,none⟩ hb _).put ⟨b,1,none⟩ hb _).put ⟨b,2,none⟩ hb _).put ⟨b,3,none⟩ hb _)
theorem Fr.self4 {w:World} {b:Nat} {u0 u1 u2 u3:Value}:Fr (fun i=>i=b) w ((((w.setCell ⟨b,0,none⟩ u0).setCell ⟨b,1,none⟩ u1).setCell ⟨b,2,none⟩ u2).setCell ⟨b,3,none⟩ u3):=(Fr.putF (F:=fun i=>i=b) (Fr.putF (F:=fun i=>i=b) (Fr.putF (F:=fun i=>i=b) (Fr.putF (F:=fun i=>i=b) (Fr.refl (fun i=>i=b) w) ⟨b,0,none⟩ rfl _) ⟨b,1,none⟩ rfl _) ⟨b,2,none⟩ rfl _) ⟨b,3,none⟩ rfl _)
theorem Fr.put5 {F:Nat→Prop} {a w:World} (h:Fr F a w) {b:Nat} (hb:a.heap.size≤b) {u0 u1 u2 u3 u4:Value}:Fr F a (((((w.setCell ⟨b,0,none⟩ u0).setCell ⟨b,1,none⟩ u1).setCell ⟨b,2,none⟩ u2).setCell ⟨b,3,none⟩ u3).setCell ⟨b,4,none⟩ u4):=(((((h.put ⟨b,0,none⟩ hb _).put ⟨b,1,none⟩ hb _).put ⟨b,2,none⟩ hb _).put ⟨b,3,none⟩ hb _).put ⟨b,4,none⟩ hb _)
theorem FaultAt.put5 {w:World} {f:Nat} {t a:Int} {x:ByteArray} {y:Value} (h:FaultAt w f t a x y) {b:Nat} (hb:b≠f) {u0 u1 u2 u3 u4:Value}:FaultAt (((((w.setCell ⟨b,0,none⟩ u0).setCell ⟨b,1,none⟩ u1).setCell ⟨b,2,none⟩ u2).setCell ⟨b,3,none⟩ u3).setCell ⟨b,4,none⟩ u4) f t a x y:=(((((h.put ⟨b,0,none⟩ hb _).put ⟨b,1,none⟩ hb _).put ⟨b,2,none⟩ hb _).put ⟨b,3,none⟩ hb _).put ⟨b,4,none⟩ hb _)
theorem Fr.self5 {w:World} {b:Nat} {u0 u1 u2 u3 u4:Value}:Fr (fun i=>i=b) w (((((w.setCell ⟨b,0,none⟩ u0).setCell ⟨b,1,none⟩ u1).setCell ⟨b,2,none⟩ u2).setCell ⟨b,3,none⟩ u3).setCell ⟨b,4,none⟩ u4):=(Fr.putF (F:=fun i=>i=b) (Fr.putF (F:=fun i=>i=b) (Fr.putF (F:=fun i=>i=b) (Fr.putF (F:=fun i=>i=b) (Fr.putF (F:=fun i=>i=b) (Fr.refl (fun i=>i=b) w) ⟨b,0,none⟩ rfl _) ⟨b,1,none⟩ rfl _) ⟨b,2,none⟩ rfl _) ⟨b,3,none⟩ rfl _) ⟨b,4,none⟩ rfl _)
theorem Fr.put16 {F:Nat→Prop} {a w:World} (h:Fr F a w) {b:Nat} (hb:a.heap.size≤b) {u0 u1 u2 u3 u4 u5 u6 u7 u8 u9 u10 u11 u12 u13 u14 u15:Value}:Fr F a ((((((((((((((((w.setCell ⟨b,0,none⟩ u0).setCell ⟨b,1,none⟩ u1).setCell ⟨b,2,none⟩ u2).setCell ⟨b,3,none⟩ u3).setCell ⟨b,4,none⟩ u4).setCell ⟨b,5,none⟩ u5).setCell ⟨b,6,none⟩ u6).setCell ⟨b,7,none⟩ u7).setCell ⟨b,8,none⟩ u8).setCell ⟨b,9,none⟩ u9).setCell ⟨b,10,none⟩ u10).setCell ⟨b,11,none⟩ u11).setCell ⟨b,12,none⟩ u12).setCell ⟨b,13,none⟩ u13).setCell ⟨b,14,none⟩ u14).setCell ⟨b,15,none⟩ u15):=((((((((((((((((h.put ⟨b,0,none⟩ hb _).put ⟨b,1,none⟩ hb _).put ⟨b,2,none⟩ hb _).put ⟨b,3,none⟩ hb _).put ⟨b,4,none⟩ hb _).put ⟨b,5,none⟩ hb _).put ⟨b,6,none⟩ hb _).put ⟨b,7,none⟩ hb _).put ⟨b,8,none⟩ hb _).put ⟨b,9,none⟩ hb _).put ⟨b,10,none⟩ hb _).put ⟨b,11,none⟩ hb _).put ⟨b,12,none⟩ hb _).put ⟨b,13,none⟩ hb _).put ⟨b,14,none⟩ hb _).put ⟨b,15,none⟩ hb _)
theorem FaultAt.put16 {w:World} {f:Nat} {t a:Int} {x:ByteArray} {y:Value} (h:FaultAt w f t a x y) {b:Nat} (hb:b≠f) {u0 u1 u2 u3 u4 u5 u6 u7 u8 u9 u10 u11 u12 u13 u14 u15:Value}:FaultAt ((((((((((((((((w.setCell ⟨b,0,none⟩ u0).setCell ⟨b,1,none⟩ u1).setCell ⟨b,2,none⟩ u2).setCell ⟨b,3,none⟩ u3).setCell ⟨b,4,none⟩ u4).setCell ⟨b,5,none⟩ u5).setCell ⟨b,6,none⟩ u6).setCell ⟨b,7,none⟩ u7).setCell ⟨b,8,none⟩ u8).setCell ⟨b,9,none⟩ u9).setCell ⟨b,10,none⟩ u10).setCell ⟨b,11,none⟩ u11).setCell ⟨b,12,none⟩ u12).setCell ⟨b,13,none⟩ u13).setCell ⟨b,14,none⟩ u14).setCell ⟨b,15,none⟩ u15) f t a x y:=((((((((((((((((h.put ⟨b,0,none⟩ hb _).put ⟨b,1,none⟩ hb _).put ⟨b,2,none⟩ hb _).put ⟨b,3,none⟩ hb _).put ⟨b,4,none⟩ hb _).put ⟨b,5,none⟩ hb _).put ⟨b,6,none⟩ hb _).put ⟨b,7,none⟩ hb _).put ⟨b,8,none⟩ hb _).put ⟨b,9,none⟩ hb _).put ⟨b,10,none⟩ hb _).put ⟨b,11,none⟩ hb _).put ⟨b,12,none⟩ hb _).put ⟨b,13,none⟩ hb _).put ⟨b,14,none⟩ hb _).put ⟨b,15,none⟩ hb _)
theorem Fr.self16 {w:World} {b:Nat} {u0 u1 u2 u3 u4 u5 u6 u7 u8 u9 u10 u11 u12 u13 u14 u15:Value}:Fr (fun i=>i=b) w ((((((((((((((((w.setCell ⟨b,0,none⟩ u0).setCell ⟨b,1,none⟩ u1).setCell ⟨b,2,none⟩ u2).setCell ⟨b,3,none⟩ u3).setCell ⟨b,4,none⟩ u4).setCell ⟨b,5,none⟩ u5).setCell ⟨b,6,none⟩ u6).setCell ⟨b,7,none⟩ u7).setCell ⟨b,8,none⟩ u8).setCell ⟨b,9,none⟩ u9).setCell ⟨b,10,none⟩ u10).setCell ⟨b,11,none⟩ u11).setCell ⟨b,12,none⟩ u12).setCell ⟨b,13,none⟩ u13).setCell ⟨b,14,none⟩ u14).setCell ⟨b,15,none⟩ u15):=(Fr.putF (F:=fun i=>i=b) (Fr.putF (F:=fun i=>i=b) (Fr.putF (F:=fun i=>i=b) (Fr.putF (F:=fun i=>i=b) (Fr.putF (F:=fun i=>i=b) (Fr.putF (F:=fun i=>i=b) (Fr.putF (F:=fun i=>i=b) (Fr.putF (F:=fun i=>i=b) (Fr.putF (F:=fun i=>i=b) (Fr.putF (F:=fun i=>i=b) (Fr.putF (F:=fun i=>i=b) (Fr.putF (F:=fun i=>i=b) (Fr.putF (F:=fun i=>i=b) (Fr.putF (F:=fun i=>i=b) (Fr.putF (F:=fun i=>i=b) (Fr.putF (F:=fun i=>i=b) (Fr.refl (fun i=>i=b) w) ⟨b,0,none⟩ rfl _) ⟨b,1,none⟩ rfl _) ⟨b,2,none⟩ rfl _) ⟨b,3,none⟩ rfl _) ⟨b,4,none⟩ rfl _) ⟨b,5,none⟩ rfl _) ⟨b,6,none⟩ rfl _) ⟨b,7,none⟩ rfl _) ⟨b,8,none⟩ rfl _) ⟨b,9,none⟩ rfl _) ⟨b,10,none⟩ rfl _) ⟨b,11,none⟩ rfl _) ⟨b,12,none⟩ rfl _) ⟨b,13,none⟩ rfl _) ⟨b,14,none⟩ rfl _) ⟨b,15,none⟩ rfl _)
end Go.Proofs.YtjlnpdpkobpkiaaGreatDoor
namespace Go.Proofs.YtjlnpdpkobpkiaaGreatDoorPSP
open Go.RowKit Go.Extern.Stop Go.Stop Go.Extern Go.Proofs.YtjlnpdpkobpkiaaGreatDoor
theorem At.lb {E:Env} {w:World} {j d:Nat} {l:List Tk} (h:At E w j d l):E.b<w.heap.size:=blk_lt h.blk
theorem At.lg {E:Env} {w:World} {j d:Nat} {l:List Tk} (h:At E w j d l):E.g<w.heap.size:=by
  obtain ⟨a,_⟩:=h.tk _ _ (h.get 0)
  exact World.block_lt_of_cell? w _ a
theorem At.alloc {E:Env} {w:World} {j d:Nat} {l:List Tk} (h:At E w j d l) (o:Obj):At E (w.alloc o) j d l:=h.below ((Below.refl _ _).alloc (Nat.le_refl _) _)
theorem At.keep {E:Env} {w w':World} {j d:Nat} {l:List Tk} (h:At E w j d l) {F:Nat→Prop} (hf:Fr F w w') (hb:¬F E.b) (hg:¬F E.g):At E w' j d l:=
  ⟨(hf.block _ h.lb hb).trans h.blk,fun i t ht=>by
    obtain ⟨a,b,c,e⟩:=h.tk i t ht
    exact ⟨hf.cell a hg,hf.cell b hg,hf.cell c hg,hf.cell e hg⟩,h.lt,h.l⟩
theorem At.put {E:Env} {w:World} {j d:Nat} {l:List Tk} (h:At E w j d l) (p:Addr) (hb:E.b<p.block) (hg:E.g<p.block) (u:Value):At E (w.setCell p u) j d l:=
  h.keep (Fr.setCell w p u) (by omega) (by omega)
theorem At.put2 {E:Env} {w:World} {j d:Nat} {l:List Tk} (h:At E w j d l) {b:Nat} (hb:E.b<b) (hg:E.g<b) {u0 u1:Value}:At E ((w.setCell ⟨b,0,none⟩ u0).setCell ⟨b,1,none⟩ u1) j d l:=((h.put ⟨b,0,none⟩ hb hg _).put ⟨b,1,none⟩ hb hg _)
theorem At.put3 {E:Env} {w:World} {j d:Nat} {l:List Tk} (h:At E w j d l) {b:Nat} (hb:E.b<b) (hg:E.g<b) {u0 u1 u2:Value}:At E (((w.setCell ⟨b,0,none⟩ u0).setCell ⟨b,1,none⟩ u1).setCell ⟨b,2,none⟩ u2) j d l:=(((h.put ⟨b,0,none⟩ hb hg _).put ⟨b,1,none⟩ hb hg _).put ⟨b,2,none⟩ hb hg _)
theorem At.put4 {E:Env} {w:World} {j d:Nat} {l:List Tk} (h:At E w j d l) {b:Nat} (hb:E.b<b) (hg:E.g<b) {u0 u1 u2 u3:Value}:At E ((((w.setCell ⟨b,0,none⟩ u0).setCell ⟨b,1,none⟩ u1).setCell ⟨b,2,none⟩ u2).setCell ⟨b,3,none⟩ u3) j d l:=((((h.put ⟨b,0,none⟩ hb hg _).put ⟨b,1,none⟩ hb hg _).put ⟨b,2,none⟩ hb hg _).put ⟨b,3,none⟩ hb hg _)
theorem At.put5 {E:Env} {w:World} {j d:Nat} {l:List Tk} (h:At E w j d l) {b:Nat} (hb:E.b<b) (hg:E.g<b) {u0 u1 u2 u3 u4:Value}:At E (((((w.setCell ⟨b,0,none⟩ u0).setCell ⟨b,1,none⟩ u1).setCell ⟨b,2,none⟩ u2).setCell ⟨b,3,none⟩ u3).setCell ⟨b,4,none⟩ u4) j d l:=(((((h.put ⟨b,0,none⟩ hb hg _).put ⟨b,1,none⟩ hb hg _).put ⟨b,2,none⟩ hb hg _).put ⟨b,3,none⟩ hb hg _).put ⟨b,4,none⟩ hb hg _)
theorem At.put16 {E:Env} {w:World} {j d:Nat} {l:List Tk} (h:At E w j d l) {b:Nat} (hb:E.b<b) (hg:E.g<b) {u0 u1 u2 u3 u4 u5 u6 u7 u8 u9 u10 u11 u12 u13 u14 u15:Value}:At E ((((((((((((((((w.setCell ⟨b,0,none⟩ u0).setCell ⟨b,1,none⟩ u1).setCell ⟨b,2,none⟩ u2).setCell ⟨b,3,none⟩ u3).setCell ⟨b,4,none⟩ u4).setCell ⟨b,5,none⟩ u5).setCell ⟨b,6,none⟩ u6).setCell ⟨b,7,none⟩ u7).setCell ⟨b,8,none⟩ u8).setCell ⟨b,9,none⟩ u9).setCell ⟨b,10,none⟩ u10).setCell ⟨b,11,none⟩ u11).setCell ⟨b,12,none⟩ u12).setCell ⟨b,13,none⟩ u13).setCell ⟨b,14,none⟩ u14).setCell ⟨b,15,none⟩ u15) j d l:=((((((((((((((((h.put ⟨b,0,none⟩ hb hg _).put ⟨b,1,none⟩ hb hg _).put ⟨b,2,none⟩ hb hg _).put ⟨b,3,none⟩ hb hg _).put ⟨b,4,none⟩ hb hg _).put ⟨b,5,none⟩ hb hg _).put ⟨b,6,none⟩ hb hg _).put ⟨b,7,none⟩ hb hg _).put ⟨b,8,none⟩ hb hg _).put ⟨b,9,none⟩ hb hg _).put ⟨b,10,none⟩ hb hg _).put ⟨b,11,none⟩ hb hg _).put ⟨b,12,none⟩ hb hg _).put ⟨b,13,none⟩ hb hg _).put ⟨b,14,none⟩ hb hg _).put ⟨b,15,none⟩ hb hg _)
theorem At.on {E:Env} {w:World} {j d:Nat} {l:List Tk} (h:At E w j d l) (hj:j+1<E.ts.length):At E (w.setCell ⟨E.b,1,none⟩ (.int .i64 ((j:Int)+1))) (j+1) d (l.drop 1):=
  (h.step ((Below.refl _ _)) hj).1
def Ok1 (E:Env) (w:World) (d:Nat) (l':List Tk) (u:Value) (e:Ending) (w':World):Prop:=∃j',e= .returned (.tuple #[u,.nilIface])∧At E w' j' d l'∧Fr (fun i=>i=E.b) w w'
def Er1 (E:Env) (w:World) (t p:Nat) (u:Value) (e:Ending) (w':World):Prop:=∃f what,e= .returned (.tuple #[u,faultV f])∧FaultAt w' f (t:Int) (p:Int) what .nilIface∧w.heap.size≤f∧Fr (fun i=>i=E.b) w w'
def WantPost (E:Env) (w:World) (d:Nat) (r:Rs Unit) (e:Ending) (w':World):Prop:=match r with
  | .ok (_,l')=>∃j',e= .returned .nilIface∧At E w' j' d l'∧Fr (fun i=>i=E.b) w w'
  | .error (t,p)=>∃f what,e= .returned (faultV f)∧FaultAt w' f (t:Int) (p:Int) what .nilIface∧w.heap.size≤f∧Fr (fun i=>i=E.b) w w'
set_option maxHeartbeats 4000000 in
set_option maxRecDepth 100000 in
theorem want_any {E:Env} {w:World} {j d:Nat} {l:List Tk} (h:At E w j d l) (s:List UInt8):
    Calls Tryz.prog 83 #[.pointer (some ⟨E.b,0,none⟩),.string (bL s)] w (WantPost E w d (wantP s l)):=by
  have HT:=hid (take_any h s)
  have H:=hid h
  clear h
  go_enter Tryz.func83,Tryz.ntmps83
  go_wp2_with fail
  refine HT.out.mono ?_
  rintro e w1 ⟨rfl,h1,h2⟩
  have H1:=hid h1
  have H2:=hid h2
  clear h1 h2
  cases hs:isS l 0 s with
  |true=>
    have HS:=hid hs
    have HW:Hid (wantP s l= .ok ((),l.drop 1)):=by show _=_;rw [wantP,if_pos hs]
    go_wp2
    go_ret
    rw [HW.out]
    exact ⟨j+1,rfl,(H1.out HS.out).1,(H1.out HS.out).2⟩
  |false=>
    have HS:=hid hs
    have HW:Hid (wantP s l=bad 1 l):=by show _=_;rw [wantP,if_neg (by rw [hs];decide)]
    have HF:=hid (fail_any (H.out.below (H2.out HS.out)) 1 (bL s))
    clear hs
    go_wp2_with fail
    refine HF.out.mono ?_
    rintro e w2 ⟨f,what,rfl,hF,hlf,hb2⟩
    have K:=hid (And.intro hF (And.intro hlf hb2))
    clear hF hlf hb2
    go_wp2
    go_ret
    rw [HW.out]
    exact ⟨f,what,rfl,K.out.1,Nat.le_trans (H2.out HS.out).size K.out.2.1,(Fr.ofB (H2.out HS.out)).old K.out.2.2⟩
theorem peek_at {E:Env} {w:World} {j d:Nat} {l:List Tk} (h:At E w j d l) (k:Nat) (hk:k≤1) {a n p:Int} {x:ByteArray} (ha:((pk l k).kind:Int)=a) (hx:bL (pk l k).text=x) (hn:((pk l k).num:Int)=n) (hp:((pk l k).start:Int)=p):
    Calls Tryz.prog 49 #[.pointer (some ⟨E.b,0,none⟩),.int .i64 (k:Int)] w (RetB w (.agg #[.int .i64 a,.string x,.int .u64 n,.int .i64 p])):=by
  subst ha hx hn hp
  exact peek_any h k hk
abbrev tokO (a:Int) (x:ByteArray) (n p:Int):Obj:= .cells #[.int .i64 a,.string x,.int .u64 n,.int .i64 p] 68
theorem At.c1 {E:Env} {w:World} {j d:Nat} {l:List Tk} (h:At E w j d l):w.cell? ⟨E.b,1,none⟩=some (.int .i64 (j:Int))∧w.frozen? ⟨E.b,1,none⟩=false:=
  ⟨cell_blk h.blk 1,Lib.frozen_of_heap h.blk 1⟩
def NamePost (E:Env) (w:World) (d:Nat) (r:Rs (List UInt8)) (e:Ending) (w':World):Prop:=match r with
  | .ok (s,l')=>Ok1 E w d l' (.string (bL s)) e w'
  | .error (t,p)=>Er1 E w t p (.string ⟨#[]⟩) e w'
set_option maxHeartbeats 4000000 in
set_option maxRecDepth 100000 in
theorem name_any {E:Env} {w:World} {j d:Nat} {l:List Tk} (h:At E w j d l):
    Calls Tryz.prog 82 #[.pointer (some ⟨E.b,0,none⟩)] w (NamePost E w d (nameP l)):=by
  obtain ⟨n,hn⟩:∃n:Int,((pk l 0).num:Int)=n:=⟨_,rfl⟩
  obtain ⟨p,hp⟩:∃n:Int,((pk l 0).start:Int)=n:=⟨_,rfl⟩
  obtain ⟨x,hx⟩:∃x,bL (pk l 0).text=x:=⟨_,rfl⟩
  obtain ⟨a,ha⟩:∃n:Int,((pk l 0).kind:Int)=n:=⟨_,rfl⟩
  have H:=hid h
  have hlen:=E.len
  have hlt:=h.lt
  have hj:j+1≤30000:=by omega
  clear hlt
  by_cases h1:(pk l 0).kind=1
  · obtain rfl : (1 : Int) = a := by omega
    by_cases h2:(pk l 0).text=notL
    · obtain rfl : (⟨#[110, 111, 116]⟩ : ByteArray) = x := by rw [← hx, h2]; rfl
      have HP:=hid (peek_at h 0 (by decide) ha hx hn hp)
      have HN:Hid (nameP l=bad 1 l):=by show _=_;rw [nameP,if_neg (by simp [h2])]
      clear h h1 h2 ha hx hn hp
      go_enter Tryz.func82,Tryz.ntmps82
      go_wp2_with fail
      refine HP.out.mono ?_
      rintro e w1 ⟨rfl,hb⟩
      have HA:=hid ((H.out.below hb).alloc (tokO 1 ⟨#[110,111,116]⟩ n p))
      have HB:=hid hb
      have HF:=hid (fail_any HA.out 1 ⟨#[110,97,109,101]⟩)
      clear hb
      go_wp2_with fail
      refine HF.out.mono ?_
      rintro e w2 ⟨f,what,rfl,hF,hlf,hb2⟩
      have K:=hid (And.intro hF (And.intro hlf hb2))
      clear hF hlf hb2
      go_wp2
      go_ret2
      rw [HN.out]
      exact ⟨f,what,rfl,K.out.1,Nat.le_trans (Nat.le_trans HB.out.size (by simp)) K.out.2.1,((Fr.ofB HB.out).alloc _).old K.out.2.2⟩
    · have hn1:(x.toList==[110,111,116])=false:=by
        rw [←hx,ByteArray.toList_eq]
        exact beq_false_of_ne h2
      have HP:=hid (peek_at h 0 (by decide) ha hx hn hp)
      have HN:Hid (nameP l= .ok ((pk l 0).text,l.drop 1)):=by show _=_;rw [nameP,if_pos ⟨h1,h2⟩]
      have HX:=hid hx
      have hx1:=h.next (by rw [h1];decide)
      clear h h1 h2 ha hx hn hp
      go_enter Tryz.func82,Tryz.ntmps82
      go_wp2_with fail
      refine HP.out.mono ?_
      rintro e w1 ⟨rfl,hb⟩
      have HA:=hid ((H.out.below hb).alloc (tokO 1 x n p))
      have HB:=hid hb
      obtain ⟨c1,f1⟩:=HA.out.c1
      have hne:E.b≠w1.heap.size:=by have:=H.out.lb;have:=HB.out.size;omega
      clear hb
      go_wp2
      go_ret2
      rw [HN.out]
      exact ⟨j+1,by rw [HX.out];rfl,HA.out.on hx1,Fr.putF (F:=fun i=>i=E.b) ((Fr.ofB HB.out).alloc _) _ rfl _⟩
  · have ha1 : (a == 1) = false := beq_false_of_ne (by omega)
    have ha2:¬a=1:=by omega
    have HP:=hid (peek_at h 0 (by decide) ha hx hn hp)
    have HN:Hid (nameP l=bad 1 l):=by show _=_;rw [nameP,if_neg (by simp [h1])]
    clear h h1 ha hx hn hp
    go_enter Tryz.func82,Tryz.ntmps82
    go_wp2_with fail
    refine HP.out.mono ?_
    rintro e w1 ⟨rfl,hb⟩
    have HA:=hid ((H.out.below hb).alloc (tokO a x n p))
    have HB:=hid hb
    have HF:=hid (fail_any HA.out 1 ⟨#[110,97,109,101]⟩)
    clear hb
    go_wp2_with fail
    refine HF.out.mono ?_
    rintro e w2 ⟨f,what,rfl,hF,hlf,hb2⟩
    have K:=hid (And.intro hF (And.intro hlf hb2))
    clear hF hlf hb2
    go_wp2
    go_ret2
    rw [HN.out]
    exact ⟨f,what,rfl,K.out.1,Nat.le_trans (Nat.le_trans HB.out.size (by simp)) K.out.2.1,((Fr.ofB HB.out).alloc _).old K.out.2.2⟩
def VarPost (E:Env) (w:World) (j d:Nat) (l:List Tk) (e:Ending) (w':World):Prop:=
  ((pk l 0).kind=2→e= .returned (.tuple #[.string (bL (pk l 0).text),.bool true])∧At E w' (j+1) d (l.drop 1)∧Fr (fun i=>i=E.b) w w') ∧
  ((pk l 0).kind≠2→e= .returned (.tuple #[.string ⟨#[]⟩,.bool false])∧Below w.heap.size w w')
set_option maxHeartbeats 4000000 in
set_option maxRecDepth 100000 in
theorem variable_any {E:Env} {w:World} {j d:Nat} {l:List Tk} (h:At E w j d l):
    Calls Tryz.prog 108 #[.pointer (some ⟨E.b,0,none⟩)] w (VarPost E w j d l):=by
  obtain ⟨n,hn⟩:∃n:Int,((pk l 0).num:Int)=n:=⟨_,rfl⟩
  obtain ⟨p,hp⟩:∃n:Int,((pk l 0).start:Int)=n:=⟨_,rfl⟩
  obtain ⟨x,hx⟩:∃x,bL (pk l 0).text=x:=⟨_,rfl⟩
  obtain ⟨a,ha⟩:∃n:Int,((pk l 0).kind:Int)=n:=⟨_,rfl⟩
  have H:=hid h
  have hlen:=E.len
  have hlt:=h.lt
  have hj:j+1≤30000:=by omega
  clear hlt
  by_cases h1:(pk l 0).kind=2
  · obtain rfl : (2 : Int) = a := by omega
    have HP:=hid (peek_at h 0 (by decide) ha hx hn hp)
    have HK:=hid h1
    have HX:=hid hx
    have hx1:=h.next (by rw [h1];decide)
    clear h h1 ha hx hn hp
    go_enter Tryz.func108,Tryz.ntmps108
    go_wp2_with fail
    refine HP.out.mono ?_
    rintro e w1 ⟨rfl,hb⟩
    have HA:=hid ((H.out.below hb).alloc (tokO 2 x n p))
    have HB:=hid hb
    obtain ⟨c1,f1⟩:=HA.out.c1
    have hne:E.b≠w1.heap.size:=by have:=H.out.lb;have:=HB.out.size;omega
    clear hb
    go_wp2
    go_ret2
    exact ⟨fun _=>⟨by rw [HX.out];rfl,HA.out.on hx1,Fr.putF (F:=fun i=>i=E.b) ((Fr.ofB HB.out).alloc _) _ rfl _⟩,fun h=>absurd HK.out h⟩
  · have ha1 : (a == 2) = false := beq_false_of_ne (by omega)
    have HP:=hid (peek_at h 0 (by decide) ha hx hn hp)
    have HK:=hid h1
    clear h h1 ha hx hn hp
    go_enter Tryz.func108,Tryz.ntmps108
    go_wp2_with fail
    refine HP.out.mono ?_
    rintro e w1 ⟨rfl,hb⟩
    have HB:=hid hb
    clear hb
    go_wp2
    go_ret2
    exact ⟨fun h=>absurd h HK.out,fun _=>⟨rfl,HB.out.alloc HB.out.size _⟩⟩
end Go.Proofs.YtjlnpdpkobpkiaaGreatDoorPSP
set_option linter.unusedVariables false
set_option linter.unusedSimpArgs false
namespace Go.Proofs.YtjlnpdpkobpkiaaGreatDoorPSP
open Go.RowKit Go.Extern.Stop Go.Stop Go.Extern Go.Proofs.YtjlnpdpkobpkiaaGreatDoor
theorem blk3 {w:World} {b:Nat} {a0 a1 a2:Value} {t:TypeId} (h:w.heap[b]? =some (.cells #[a0,a1,a2] t (0,0))):
    w.cell? ⟨b,0,none⟩=some a0∧w.cell? ⟨b,1,none⟩=some a1∧w.cell? ⟨b,2,none⟩=some a2∧w.frozen? ⟨b,0,none⟩=false∧w.frozen? ⟨b,1,none⟩=false∧w.frozen? ⟨b,2,none⟩=false:=
  ⟨cell_blk h 0,cell_blk h 1,cell_blk h 2,Lib.frozen_of_heap h 0,Lib.frozen_of_heap h 1,Lib.frozen_of_heap h 2⟩
theorem blk4 {w:World} {b:Nat} {a0 a1 a2 a3:Value} {t:TypeId} (h:w.heap[b]? =some (.cells #[a0,a1,a2,a3] t (0,0))):
    w.cell? ⟨b,0,none⟩=some a0∧w.cell? ⟨b,1,none⟩=some a1∧w.cell? ⟨b,2,none⟩=some a2∧w.cell? ⟨b,3,none⟩=some a3∧w.frozen? ⟨b,0,none⟩=false∧w.frozen? ⟨b,1,none⟩=false∧w.frozen? ⟨b,2,none⟩=false∧w.frozen? ⟨b,3,none⟩=false:=
  ⟨cell_blk h 0,cell_blk h 1,cell_blk h 2,cell_blk h 3,Lib.frozen_of_heap h 0,Lib.frozen_of_heap h 1,Lib.frozen_of_heap h 2,Lib.frozen_of_heap h 3⟩
abbrev tmV (v:Tm):Value:= .agg #[.int .i64 v.f0,.string v.f1,.int .i64 v.f2]
abbrev tmZ:Value:= .agg #[.int .i64 0,.string ⟨#[]⟩,.int .i64 0]
abbrev termO:Obj:= .cells #[.int .i64 0,.string ⟨#[]⟩,.int .i64 0] 98
theorem At.onk {E:Env} {w:World} {j d:Nat} {l:List Tk} (h:At E w j d l) (k:Nat) (x:Int) (hx:x=((j+k:Nat):Int)) (hj:j+k<E.ts.length):At E (w.setCell ⟨E.b,1,none⟩ (.int .i64 x)) (j+k) d (l.drop k):=by
  subst hx
  rw [←h.drop k]
  refine h.move ?_ (Fr.setCell w ⟨E.b,1,none⟩ _) hj
  have:=blk_set (o:=1) h.blk (.int .i64 ((j+k:Nat):Int))
  rw [this]
  simp
def TermPost (E:Env) (w:World) (d:Nat) (r:Rs Tm) (e:Ending) (w':World):Prop:=match r with
  | .ok (v,l')=>Ok1 E w d l' (tmV v) e w'
  | .error (t,p)=>Er1 E w t p (tmZ) e w'
theorem At.two {E:Env} {w:World} {j d:Nat} {l:List Tk} (h:At E w j d l) (hk:(pk l 0).kind≠0) (hk2:(pk l 1).kind≠0):j+2<E.ts.length:=by
  have h1:=h.next hk
  have hg:=h.get 1
  rw [show min (j+1) (E.ts.length-1)=j+1 by omega] at hg
  have:=E.fine _ _ hg
  omega
set_option maxHeartbeats 400000 in
set_option maxRecDepth 100000 in
theorem number_any {E:Env} {w:World} {j d:Nat} {l:List Tk} (h:At E w j d l):
    Calls Tryz.prog 123 #[.pointer (some ⟨E.b,0,none⟩)] w (TermPost E w d (numP l)):=by
  have HR:=hid (h.alloc termO)
  have H:=hid h
  have hlen:=E.len
  have hlt:=h.lt
  have hj:j+2≤30002:=by omega
  have lb:=h.lb
  have HI:=hid (is_any HR.out 0 (by decide) [45])
  clear hlt
  by_cases hm:isS l 0 [45]=true
  · have HM := hid hm
    rw [hm] at HI
    obtain ⟨n0,hn0⟩:∃n:Int,((pk l 0).num:Int)=n:=⟨_,rfl⟩
    obtain ⟨p0,hp0⟩:∃n:Int,((pk l 0).start:Int)=n:=⟨_,rfl⟩
    obtain ⟨x0,hx0⟩:∃x,bL (pk l 0).text=x:=⟨_,rfl⟩
    obtain ⟨a0,ha0⟩:∃n:Int,((pk l 0).kind:Int)=n:=⟨_,rfl⟩
    obtain ⟨n,hn⟩:∃n:Int,((pk l 1).num:Int)=n:=⟨_,rfl⟩
    obtain ⟨p,hp⟩:∃n:Int,((pk l 1).start:Int)=n:=⟨_,rfl⟩
    obtain ⟨x,hx⟩:∃x,bL (pk l 1).text=x:=⟨_,rfl⟩
    obtain ⟨a,ha⟩:∃n:Int,((pk l 1).kind:Int)=n:=⟨_,rfl⟩
    have HT0:=hid (And.intro ha0 (And.intro hx0 (And.intro hn0 hp0)))
    have HT1:=hid (And.intro ha (And.intro hx (And.intro hn hp)))
    by_cases h3:(pk l 1).kind=3
    · obtain rfl : (3 : Int) = a := by omega
      have HN:Hid (numP l= .ok (mkT 1 [] (negN (pk l 1).num),l.drop 2)):=by show _=_;rw [numP,if_pos hm,if_pos h3]
      have hk0:(pk l 0).kind≠0:=fun e=>by unfold isS at hm;rw [e] at hm;cases hm
      have hj2:=h.two hk0 (by rw [h3];decide)
      clear h hm h3 ha0 hx0 hn0 hp0 ha hx hn hp hk0
      go_enter Tryz.func123,Tryz.ntmps123
      go_wp2_with fail
      refine HI.out.mono ?_
      rintro e w1 ⟨rfl,hb1⟩
      have HB1:=hid hb1
      have HP0:=hid (peek_at (HR.out.below hb1) 0 (by decide) HT0.out.1 HT0.out.2.1 HT0.out.2.2.1 HT0.out.2.2.2)
      clear hb1
      go_wp2_with fail
      refine HP0.out.mono ?_
      rintro e w2 ⟨rfl,hb2⟩
      have HB2:=hid hb2
      have A2:=hid (((HR.out.below HB1.out).below hb2).alloc (tokO a0 x0 n0 p0))
      have HP1:=hid (peek_at A2.out 1 (by decide) HT1.out.1 HT1.out.2.1 HT1.out.2.2.1 HT1.out.2.2.2)
      clear hb2
      go_wp2_with fail
      refine HP1.out.mono ?_
      rintro e w3 ⟨rfl,hb3⟩
      have HB3:=hid hb3
      have A3:=hid (A2.out.below hb3)
      have k5:=(hb3.block w2.heap.size (by simp)).trans (heap_alloc_new w2 (tokO a0 x0 n0 p0))
      obtain ⟨z0,z1,z2,z3,f0,f1,f2,f3⟩:=blk4 k5
      have kr:w3.heap[w.heap.size]? =some termO:=by
        rw [hb3.block _ (by have:=HB2.out.size;have:=HB1.out.size;simp at *;omega),Below.heap_alloc _ _ _ (by have:=HB2.out.size;have:=HB1.out.size;simp at *;omega),HB2.out.block _ (by have:=HB1.out.size;simp at *;omega),HB1.out.block _ (by simp),heap_alloc_new]
      obtain ⟨r0,r1,r2,q0,q1,q2⟩:=blk3 kr
      obtain ⟨c1,g1⟩:=A3.out.c1
      have s1:=HB1.out.size
      have s2:=HB2.out.size
      simp at s1
      have d1:E.b≠w2.heap.size:=by omega
      have d2:E.b≠w.heap.size:=by omega
      have d3:w.heap.size≠w2.heap.size:=by omega
      have d4:w2.heap.size≠E.b:=by omega
      have lg:=A3.out.lg
      have lg0:=H.out.lg
      have FB:Hid (Fr (fun i=>i=E.b) w w3):=((((((Fr.refl _ w).alloc termO).old HB1.out).old HB2.out).alloc _).old hb3)
      have s3:=hb3.size
      clear hb3 k5 kr
      go_wp2
      refine bodyPost_ret (v:= .tuple #[tmV (mkT 1 [] (negN (pk l 1).num)),.nilIface]) (by simp [results,Tryz.results123,go_sem,r0,r1,r2,mkT,negN,HT1.out.2.2.1]) rfl ?_
      rw [HN.out]
      refine ⟨j+1+1,rfl,?_,?_⟩
      · rw [show l.drop 2 = (l.drop 1).drop 1 by rw [List.drop_drop]]
        exact (((A3.out.put4 (by omega) (by omega)).on (by omega)).onk 1 _ (by omega) (by omega)).put3 (by omega) (by omega)
      · exact (Fr.putF (F:=fun i=>i=E.b) (Fr.putF (F:=fun i=>i=E.b) (FB.out.put4 (by omega)) ⟨E.b,1,none⟩ rfl _) ⟨E.b,1,none⟩ rfl _).put3 (Nat.le_refl _)
    · have ha1 : (a == 3) = false := beq_false_of_ne (by omega)
      have ha2:¬a=3:=by omega
      have HN:Hid (numP l=bad 1 l):=by show _=_;rw [numP,if_pos hm,if_neg h3]
      clear h hm h3 ha0 hx0 hn0 hp0 ha hx hn hp
      go_enter Tryz.func123,Tryz.ntmps123
      go_wp2_with fail
      refine HI.out.mono ?_
      rintro e w1 ⟨rfl,hb1⟩
      have HB1:=hid hb1
      have HP0:=hid (peek_at (HR.out.below hb1) 0 (by decide) HT0.out.1 HT0.out.2.1 HT0.out.2.2.1 HT0.out.2.2.2)
      clear hb1
      go_wp2_with fail
      refine HP0.out.mono ?_
      rintro e w2 ⟨rfl,hb2⟩
      have HB2:=hid hb2
      have A2:=hid (((HR.out.below HB1.out).below hb2).alloc (tokO a0 x0 n0 p0))
      have HP1:=hid (peek_at A2.out 1 (by decide) HT1.out.1 HT1.out.2.1 HT1.out.2.2.1 HT1.out.2.2.2)
      clear hb2
      go_wp2_with fail
      refine HP1.out.mono ?_
      rintro e w3 ⟨rfl,hb3⟩
      have A3:=hid (A2.out.below hb3)
      have k5:=(hb3.block w2.heap.size (by simp)).trans (heap_alloc_new w2 (tokO a0 x0 n0 p0))
      obtain ⟨z0,z1,z2,z3,f0,f1,f2,f3⟩:=blk4 k5
      have kr:Hid (w3.heap[w.heap.size]? =some termO):=by
        show _=_
        rw [hb3.block _ (by have:=HB2.out.size;have:=HB1.out.size;simp at *;omega),Below.heap_alloc _ _ _ (by have:=HB2.out.size;have:=HB1.out.size;simp at *;omega),HB2.out.block _ (by have:=HB1.out.size;simp at *;omega),HB1.out.block _ (by simp),heap_alloc_new]
      have s1:=HB1.out.size
      have s2:=HB2.out.size
      have s3:=hb3.size
      simp at s1 s3
      have lg:=H.out.lg
      have FB:Hid (Fr (fun i=>i=E.b) w w3):=((((((Fr.refl _ w).alloc termO).old HB1.out).old HB2.out).alloc _).old hb3)
      clear hb3 k5
      go_wp2_with fail
      refine (fail_any (E:=E) (j:=j) (d:=d) (l:=l) ?_ 1 _).mono ?_
      · exact A3.out.put4 (by omega) (by omega)
      rintro e w4 ⟨f,what,rfl,hF,hlf,hb4⟩
      simp at hlf
      have hz4:=hb4.size
      simp at hz4
      have F4:Fr (fun i=>i=w2.heap.size) w3 w4:=Fr.self4.old hb4
      obtain ⟨r0,r1,r2,q0,q1,q2⟩:=blk3 ((F4.block _ (blk_lt kr.out) (by omega)).trans kr.out)
      have K:=hid (And.intro hF (F4.mono (G:=fun i=>w.heap.size≤i) (fun i _ e=>by omega)))
      clear hF hb4 F4
      go_wp2
      refine bodyPost_ret (v:= .tuple #[tmZ,faultV f]) (by simp [results,Tryz.results123,go_sem,r0,r1,r2]) rfl ?_
      rw [HN.out]
      refine ⟨f,what,rfl,?_,by omega,?_⟩
      · exact K.out.1.put3 (by omega)
      · exact (FB.out.trans K.out.2 (fun i hi e=>by omega)).put3 (Nat.le_refl _)
  · have HM := hid hm
    rw [show isS l 0 [45]=false by simpa using hm] at HI
    obtain ⟨n0,hn0⟩:∃n:Int,((pk l 0).num:Int)=n:=⟨_,rfl⟩
    obtain ⟨p0,hp0⟩:∃n:Int,((pk l 0).start:Int)=n:=⟨_,rfl⟩
    obtain ⟨x0,hx0⟩:∃x,bL (pk l 0).text=x:=⟨_,rfl⟩
    obtain ⟨a0,ha0⟩:∃n:Int,((pk l 0).kind:Int)=n:=⟨_,rfl⟩
    have HT0:=hid (And.intro ha0 (And.intro hx0 (And.intro hn0 hp0)))
    by_cases h3:(pk l 0).kind=3
    · obtain rfl : (3 : Int) = a0 := by omega
      have hx1:=h.next (by rw [h3];decide)
      by_cases hmx:(pk l 0).num≤9223372036854775807
      · have HN : Hid (numP l = .ok (mkT 1 [] (posN (pk l 0).num), l.drop 1)) := by show _ = _; rw [numP, if_neg hm, if_pos ⟨h3, hmx⟩]
        have hle:¬9223372036854775807<n0:=by omega
        clear h hm h3 ha0 hx0 hn0 hp0 hmx
        go_enter Tryz.func123,Tryz.ntmps123
        go_wp2_with fail
        refine HI.out.mono ?_
        rintro e w1 ⟨rfl,hb1⟩
        have HB1:=hid hb1
        have HP0:=hid (peek_at (HR.out.below hb1) 0 (by decide) HT0.out.1 HT0.out.2.1 HT0.out.2.2.1 HT0.out.2.2.2)
        clear hb1
        go_wp2_with fail
        refine HP0.out.mono ?_
        rintro e w2 ⟨rfl,hb2⟩
        have HB2:=hid hb2
        have A2:=hid (((HR.out.below HB1.out).below hb2).alloc (tokO 3 x0 n0 p0))
        have s1:=HB1.out.size
        have s2:=HB2.out.size
        simp at s1
        have lg:=H.out.lg
        have kr:Hid ((w2.alloc (tokO 3 x0 n0 p0)).heap[w.heap.size]? =some termO):=by
          show _=_
          rw [Below.heap_alloc _ _ _ (by omega),hb2.block _ (by omega),HB1.out.block _ (by simp),heap_alloc_new]
        have FB:Hid (Fr (fun i=>i=E.b) w (w2.alloc (tokO 3 x0 n0 p0))):=(((((Fr.refl _ w).alloc termO).old HB1.out).old HB2.out).alloc _)
        clear hb2
        obtain ⟨c1,g1⟩:=A2.out.c1
        obtain ⟨r0,r1,r2,q0,q1,q2⟩:=blk3 kr.out
        have d1:E.b≠w2.heap.size:=by omega
        have d2:E.b≠w.heap.size:=by omega
        have d3:w.heap.size≠w2.heap.size:=by omega
        go_wp2
        refine bodyPost_ret (v:= .tuple #[tmV (mkT 1 [] (posN (pk l 0).num)),.nilIface]) (by simp [results,Tryz.results123,go_sem,r0,r1,r2,mkT,posN,HT0.out.2.2.1,d1,d2,d3]) rfl ?_
        rw [HN.out]
        refine ⟨j+1,rfl,?_,?_⟩
        · exact (A2.out.on (by omega)).put3 (by omega) (by omega)
        · exact (Fr.putF (F:=fun i=>i=E.b) FB.out ⟨E.b,1,none⟩ rfl _).put3 (Nat.le_refl _)
      · have HN : Hid (numP l = bad 1 l) := by show _ = _; rw [numP, if_neg hm, if_neg (fun e => hmx e.2)]
        have hle:9223372036854775807<n0:=by omega
        clear h hm h3 ha0 hx0 hn0 hp0 hmx
        go_enter Tryz.func123,Tryz.ntmps123
        go_wp2_with fail
        refine HI.out.mono ?_
        rintro e w1 ⟨rfl,hb1⟩
        have HB1:=hid hb1
        have HP0:=hid (peek_at (HR.out.below hb1) 0 (by decide) HT0.out.1 HT0.out.2.1 HT0.out.2.2.1 HT0.out.2.2.2)
        clear hb1
        go_wp2_with fail
        refine HP0.out.mono ?_
        rintro e w2 ⟨rfl,hb2⟩
        have HB2:=hid hb2
        have A2:=hid (((HR.out.below HB1.out).below hb2).alloc (tokO 3 x0 n0 p0))
        have s1:=HB1.out.size
        have s2:=HB2.out.size
        simp at s1
        have lg:=H.out.lg
        have kr:Hid ((w2.alloc (tokO 3 x0 n0 p0)).heap[w.heap.size]? =some termO):=by
          show _=_
          rw [Below.heap_alloc _ _ _ (by omega),hb2.block _ (by omega),HB1.out.block _ (by simp),heap_alloc_new]
        have FB:Hid (Fr (fun i=>i=E.b) w (w2.alloc (tokO 3 x0 n0 p0))):=(((((Fr.refl _ w).alloc termO).old HB1.out).old HB2.out).alloc _)
        clear hb2
        have HF:=hid (fail_any A2.out 1 ⟨#[110,117,109,98,101,114]⟩)
        go_wp2_with fail
        refine HF.out.mono ?_
        rintro e w4 ⟨f,what,rfl,hF,hlf,hb4⟩
        simp at hlf
        obtain ⟨r0,r1,r2,q0,q1,q2⟩:=blk3 ((hb4.block _ (blk_lt kr.out)).trans kr.out)
        have K:=hid (And.intro hF hb4)
        clear hF hb4
        go_wp2
        refine bodyPost_ret (v:= .tuple #[tmZ,faultV f]) (by simp [results,Tryz.results123,go_sem,r0,r1,r2]) rfl ?_
        rw [HN.out]
        refine ⟨f,what,rfl,?_,by omega,?_⟩
        · exact K.out.1.put3 (by omega)
        · exact (FB.out.old K.out.2).put3 (Nat.le_refl _)
    · have ha1 : (a0 == 3) = false := beq_false_of_ne (by omega)
      have ha2:¬a0=3:=by omega
      have HN:Hid (numP l=bad 1 l):=by show _=_;rw [numP,if_neg hm,if_neg (fun e=>h3 e.1)]
      clear h hm h3 ha0 hx0 hn0 hp0
      go_enter Tryz.func123,Tryz.ntmps123
      go_wp2_with fail
      refine HI.out.mono ?_
      rintro e w1 ⟨rfl,hb1⟩
      have HB1:=hid hb1
      have HP0:=hid (peek_at (HR.out.below hb1) 0 (by decide) HT0.out.1 HT0.out.2.1 HT0.out.2.2.1 HT0.out.2.2.2)
      clear hb1
      go_wp2_with fail
      refine HP0.out.mono ?_
      rintro e w2 ⟨rfl,hb2⟩
      have HB2:=hid hb2
      have A2:=hid (((HR.out.below HB1.out).below hb2).alloc (tokO a0 x0 n0 p0))
      have s1:=HB1.out.size
      have s2:=HB2.out.size
      simp at s1
      have lg:=H.out.lg
      have kr:Hid ((w2.alloc (tokO a0 x0 n0 p0)).heap[w.heap.size]? =some termO):=by
        show _=_
        rw [Below.heap_alloc _ _ _ (by omega),hb2.block _ (by omega),HB1.out.block _ (by simp),heap_alloc_new]
      have FB:Hid (Fr (fun i=>i=E.b) w (w2.alloc (tokO a0 x0 n0 p0))):=(((((Fr.refl _ w).alloc termO).old HB1.out).old HB2.out).alloc _)
      clear hb2
      have HF:=hid (fail_any A2.out 1 ⟨#[110,117,109,98,101,114]⟩)
      go_wp2_with fail
      refine HF.out.mono ?_
      rintro e w4 ⟨f,what,rfl,hF,hlf,hb4⟩
      simp at hlf
      obtain ⟨r0,r1,r2,q0,q1,q2⟩:=blk3 ((hb4.block _ (blk_lt kr.out)).trans kr.out)
      have K:=hid (And.intro hF hb4)
      clear hF hb4
      go_wp2
      refine bodyPost_ret (v:= .tuple #[tmZ,faultV f]) (by simp [results,Tryz.results123,go_sem,r0,r1,r2]) rfl ?_
      rw [HN.out]
      refine ⟨f,what,rfl,?_,by omega,?_⟩
      · exact K.out.1.put3 (by omega)
      · exact (FB.out.old K.out.2).put3 (Nat.le_refl _)
def PlainPost (E:Env) (w:World) (d:Nat) (r:Rs (Tm×Int)) (e:Ending) (w':World):Prop:=match r with
  | .ok (v,l')=>∃j',e= .returned (.tuple #[tmV v.1,.bool (decide (v.2≠0)),.nilIface])∧At E w' j' d l'∧Fr (fun i=>i=E.b) w w'
  | .error (t,p)=>∃f what,e= .returned (.tuple #[tmZ,.bool false,faultV f])∧FaultAt w' f (t:Int) (p:Int) what .nilIface∧w.heap.size≤f∧Fr (fun i=>i=E.b) w w'
end Go.Proofs.YtjlnpdpkobpkiaaGreatDoorPSP
