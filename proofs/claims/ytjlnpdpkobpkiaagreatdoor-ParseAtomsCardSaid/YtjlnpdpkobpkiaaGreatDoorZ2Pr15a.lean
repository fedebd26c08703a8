import Derived.Test.YtjlnpdpkobpkiaaGreatDoorZ2Pr14
set_option linter.unusedVariables false
set_option linter.unusedSimpArgs false
namespace Go.Proofs.YtjlnpdpkobpkiaaGreatDoorPSP
open Go.RowKit Go.Extern.Stop Go.Stop Go.Extern Go.Proofs.YtjlnpdpkobpkiaaGreatDoorW.PrintWords Go.Proofs.YtjlnpdpkobpkiaaGreatDoor
abbrev partZ:Obj:= .cells #[.int .i64 0,.string ⟨#[]⟩,.slice none 0 0,.int .i64 0,.int .i64 0,.string ⟨#[]⟩,.int .i64 0,.int .i64 0,.string ⟨#[]⟩,.int .i64 0,.string ⟨#[]⟩,.int .i64 0,.string ⟨#[]⟩,.int .i64 0,.int .i64 0,.slice none 0 0] 106
abbrev partA (p:Pt) (A:Option Addr) (c:Nat) (A':Option Addr) (c':Nat):Array Value:= #[.int .i64 p.f0,.string p.f1.f0,.slice A p.f1.f1.length c,.int .i64 p.f2,.int .i64 p.f3.f0,.string p.f3.f1,.int .i64 p.f3.f2,.int .i64 p.f4.f0,.string p.f4.f1,.int .i64 p.f4.f2,.string p.f5,.int .i64 p.f6.f0.f0,.string p.f6.f0.f1,.int .i64 p.f6.f0.f2,.int .i64 p.f6.f1,(.slice A' p.f6.f2.length c')]
theorem blk16 {w:World} {b:Nat} {a0 a1 a2 a3 a4 a5 a6 a7 a8 a9 a10 a11 a12 a13 a14 a15:Value} {t:TypeId} (h:w.heap[b]? =some (.cells #[a0,a1,a2,a3,a4,a5,a6,a7,a8,a9,a10,a11,a12,a13,a14,a15] t (0,0))):
    (w.cell? ⟨b,0,none⟩=some a0∧w.cell? ⟨b,1,none⟩=some a1∧w.cell? ⟨b,2,none⟩=some a2∧w.cell? ⟨b,3,none⟩=some a3∧w.cell? ⟨b,4,none⟩=some a4∧w.cell? ⟨b,5,none⟩=some a5∧w.cell? ⟨b,6,none⟩=some a6∧w.cell? ⟨b,7,none⟩=some a7∧w.cell? ⟨b,8,none⟩=some a8∧w.cell? ⟨b,9,none⟩=some a9∧w.cell? ⟨b,10,none⟩=some a10∧w.cell? ⟨b,11,none⟩=some a11∧w.cell? ⟨b,12,none⟩=some a12∧w.cell? ⟨b,13,none⟩=some a13∧w.cell? ⟨b,14,none⟩=some a14∧w.cell? ⟨b,15,none⟩=some a15)∧w.frozen? ⟨b,0,none⟩=false∧w.frozen? ⟨b,1,none⟩=false∧w.frozen? ⟨b,2,none⟩=false∧w.frozen? ⟨b,3,none⟩=false∧w.frozen? ⟨b,4,none⟩=false∧w.frozen? ⟨b,5,none⟩=false∧w.frozen? ⟨b,6,none⟩=false∧w.frozen? ⟨b,7,none⟩=false∧w.frozen? ⟨b,8,none⟩=false∧w.frozen? ⟨b,9,none⟩=false∧w.frozen? ⟨b,10,none⟩=false∧w.frozen? ⟨b,11,none⟩=false∧w.frozen? ⟨b,12,none⟩=false∧w.frozen? ⟨b,13,none⟩=false∧w.frozen? ⟨b,14,none⟩=false∧w.frozen? ⟨b,15,none⟩=false:=
  ⟨⟨cell_blk h 0,cell_blk h 1,cell_blk h 2,cell_blk h 3,cell_blk h 4,cell_blk h 5,cell_blk h 6,cell_blk h 7,cell_blk h 8,cell_blk h 9,cell_blk h 10,cell_blk h 11,cell_blk h 12,cell_blk h 13,cell_blk h 14,cell_blk h 15⟩,Lib.frozen_of_heap h 0,Lib.frozen_of_heap h 1,Lib.frozen_of_heap h 2,Lib.frozen_of_heap h 3,Lib.frozen_of_heap h 4,Lib.frozen_of_heap h 5,Lib.frozen_of_heap h 6,Lib.frozen_of_heap h 7,Lib.frozen_of_heap h 8,Lib.frozen_of_heap h 9,Lib.frozen_of_heap h 10,Lib.frozen_of_heap h 11,Lib.frozen_of_heap h 12,Lib.frozen_of_heap h 13,Lib.frozen_of_heap h 14,Lib.frozen_of_heap h 15⟩
def outc3 (l:List Tk):Nat:=match termP l with
  | .error _=>2
  | .ok _=>3
def outc2 (l:List Tk):Nat:=match compareP l with
  | .error _=>1
  | .ok (_,l6)=>outc3 l6
def outc (l:List Tk):Nat:=match termP l with
  | .error _=>0
  | .ok (_,l5)=>outc2 l5
theorem oc_0 {l:List Tk} {e:Nat×Nat} (h:termP l= .error e):outc l=0:=by unfold outc;rw [h]
theorem oc_a {l l5:List Tk} {a:Tm} (h:termP l= .ok (a,l5)):outc l=outc2 l5:=by unfold outc;rw [h]
theorem oc_1 {l:List Tk} {e:Nat×Nat} (h:compareP l= .error e):outc2 l=1:=by unfold outc2;rw [h]
theorem oc_b {l l6:List Tk} {a:Int} (h:compareP l= .ok (a,l6)):outc2 l=outc3 l6:=by unfold outc2;rw [h]
theorem oc_2 {l:List Tk} {e:Nat×Nat} (h:termP l= .error e):outc3 l=2:=by unfold outc3;rw [h]
theorem oc_3 {l l6:List Tk} {a:Tm} (h:termP l= .ok (a,l6)):outc3 l=3:=by unfold outc3;rw [h]
theorem oc_n1 (l:List Tk):¬1=outc3 l:=by unfold outc3;split <;>decide
theorem oc_n0 (l:List Tk):¬0=outc2 l:=by
  unfold outc2
  split
  · decide
  · unfold outc3;split <;>decide
theorem oc_all (l:List Tk):outc l=0∨outc l=1∨outc l=2∨outc l=3:=by
  unfold outc
  split
  · exact .inl rfl
  · unfold outc2
    split
    · exact .inr (.inl rfl)
    · unfold outc3
      split
      · exact .inr (.inr (.inl rfl))
      · exact .inr (.inr (.inr rfl))
def PShp (u:Value):Prop:=∃a0 a1 A2 n2 c2 a3 a4 a5 a6 a7 a8 a9 a10 a11 a12 a13 a14 A15 n15 c15,u= .agg #[.int .i64 a0,.string a1,.slice A2 n2 c2,.int .i64 a3,.int .i64 a4,.string a5,.int .i64 a6,.int .i64 a7,.string a8,.int .i64 a9,.string a10,.int .i64 a11,.string a12,.int .i64 a13,.int .i64 a14,.slice A15 n15 c15]
def PartPost (E:Env) (w:World) (d:Nat) (r:Rs Pt) (e:Ending) (w':World):Prop:=match r with
  | .ok (p,l')=>∃j' A c A' c',e= .returned (.tuple #[.agg (partA p A c A' c'),.nilIface])∧At E w' j' d l'∧p.f1.f1.length≤c∧Kd.F k98 w' (fun i=>w.heap.size≤i) A p.f1.f1.length p.f1.f1∧p.f6.f2.length≤c'∧Kd.F k104 w' (fun i=>w.heap.size≤i) A' p.f6.f2.length p.f6.f2∧Fr (fun i=>i=E.b) w w'
  | .error (t,p)=>∃f what u,e= .returned (.tuple #[u,faultV f])∧PShp u∧FaultAt w' f (t:Int) (p:Int) what .nilIface∧w.heap.size≤f∧Fr (fun i=>i=E.b) w w'
end Go.Proofs.YtjlnpdpkobpkiaaGreatDoorPSP
set_option linter.unusedVariables false
set_option linter.unusedSimpArgs false
namespace Go.Proofs.YtjlnpdpkobpkiaaGreatDoorPSP
open Go.RowKit Go.Extern.Stop Go.Stop Go.Extern Go.Proofs.YtjlnpdpkobpkiaaGreatDoorW.PrintWords Go.Proofs.YtjlnpdpkobpkiaaGreatDoor
set_option maxHeartbeats 8000000 in
set_option maxRecDepth 100000 in
theorem part_not {E:Env} {w:World} {j:Nat} {l:List Tk} (h:At E w j 0 l) (h1:(pk l 0).kind=1) (hnot:(pk l 0).text=notL):
    Calls Tryz.prog 86 #[.pointer (some ⟨E.b,0,none⟩)] w (PartPost E w 0 (partP l)):=by
  have HR:=hid (h.alloc partZ)
  have H:=hid h
  have lb:=h.lb
  have lg:=h.lg
  have hlen:=E.len
  have hlt:=h.lt
  have hj:j+2≤30002:=by omega
  obtain ⟨n0,hn0⟩:∃n:Int,((pk l 0).num:Int)=n:=⟨_,rfl⟩
  obtain ⟨p0,hp0⟩:∃n:Int,((pk l 0).start:Int)=n:=⟨_,rfl⟩
  obtain ⟨x0,hx0⟩:∃x,bL (pk l 0).text=x:=⟨_,rfl⟩
  obtain ⟨a0,ha0⟩:∃n:Int,((pk l 0).kind:Int)=n:=⟨_,rfl⟩
  have HX:=hid hx0
  clear hlt
  obtain rfl:(1:Int)=a0:=by omega
  obtain rfl:(⟨#[110,111,116]⟩:ByteArray)=x0:=by rw [←hx0,hnot];rfl
  have HP0:=hid (peek_at HR.out 0 (by decide) ha0 hx0 hn0 hp0)
  have hx1:=h.next (by rw [h1];decide)
  have HN:Hid (partP l=bnd atomP (fun a l'=> .ok (⟨1,a,0,zT,zT,bL [],zX⟩,l')) (l.drop 1)):=by show _=_;rw [partP,if_pos ⟨h1,hnot⟩]
  clear h h1 hnot ha0 hx0 hn0 hp0
  go_enter Tryz.func86,Tryz.ntmps86
  go_wp2_with fail
  refine HP0.out.mono ?_
  rintro e w2 ⟨rfl,hb2⟩
  have HB2:=hid hb2
  have A2:=hid ((HR.out.below hb2).alloc (tokO 1 ⟨#[110,111,116]⟩ n0 p0))
  have s2:=HB2.out.size
  simp at s2
  have kr2:Hid ((w2.alloc (tokO 1 ⟨#[110,111,116]⟩ n0 p0)).heap[w.heap.size]? =some partZ):=by
    show _=_
    rw [Below.heap_alloc _ _ _ (by omega),hb2.block _ (by simp),heap_alloc_new]
  have F2:Hid (Fr (fun i=>i=E.b) w (w2.alloc (tokO 1 ⟨#[110,111,116]⟩ n0 p0))):=((((Fr.refl _ w).alloc partZ).old HB2.out).alloc _)
  have z2:(w2.alloc (tokO 1 ⟨#[110,111,116]⟩ n0 p0)).heap.size=w2.heap.size+1:=by simp
  clear hb2
  obtain ⟨c1,g1⟩:=A2.out.c1
  have A4:Hid (At E ((w2.alloc (tokO 1 ⟨#[110,111,116]⟩ n0 p0)).setCell ⟨E.b,1,none⟩ (.int .i64 ((j:Int)+1))) (j+1) 0 (l.drop 1)):=A2.out.on hx1
  have F4:Hid (Fr (fun i=>i=E.b) w ((w2.alloc (tokO 1 ⟨#[110,111,116]⟩ n0 p0)).setCell ⟨E.b,1,none⟩ (.int .i64 ((j:Int)+1)))):=Fr.putF (F:=fun i=>i=E.b) F2.out _ rfl _
  have kr4:Hid (((w2.alloc (tokO 1 ⟨#[110,111,116]⟩ n0 p0)).setCell ⟨E.b,1,none⟩ (.int .i64 ((j:Int)+1))).heap[w.heap.size]? =some partZ):=((Fr.setCell _ (⟨E.b,1,none⟩:Addr) _).block _ (Go.Proofs.YtjlnpdpkobpkiaaGreatDoor.blk_lt kr2.out) (fun e=>by dsimp only at e;omega)).trans kr2.out
  have z4:((w2.alloc (tokO 1 ⟨#[110,111,116]⟩ n0 p0)).setCell ⟨E.b,1,none⟩ (.int .i64 ((j:Int)+1))).heap.size=w2.heap.size+1:=by simp [World.setCell]
  have HA:=hid (atom_any A4.out)
  go_wp2_with fail
  refine HA.out.mono ?_
  intro e w5 hp
  cases hr:atomP (l.drop 1) with
  |error v=>
    obtain ⟨t,p⟩:=v
    have HQ:Hid (partP l= .error (t,p)):=by show _=_;rw [HN.out];unfold bnd;rw [hr]
    rw [hr] at hp
    obtain ⟨f,what,x5,A5,n5,c5,rfl,hFa,hlf,hF⟩:=hp
    rw [z4] at hlf
    have K:=hid (And.intro hFa hF)
    have s5:=hF.size
    rw [z4] at s5
    have kr5:=(Lib.alloc_old w5 (.cells #[.string x5,.slice A5 n5 c5] 33) _ (by omega)).trans ((hF.block _ (Go.Proofs.YtjlnpdpkobpkiaaGreatDoor.blk_lt kr4.out) (by omega)).trans kr4.out)
    obtain ⟨⟨r0,r1,r2,r3,r4,r5,r6,r7,r8,r9,r10,r11,r12,r13,r14,r15⟩,q0,q1,q2,q3,q4,q5,q6,q7,q8,q9,q10,q11,q12,q13,q14,q15⟩:=blk16 kr5
    have d1:w.heap.size≠w5.heap.size:=by omega
    clear hFa hF hr kr5
    go_wp2
    refine bodyPost_ret (v:= .tuple #[.agg #[.int .i64 1,.string x5,.slice A5 n5 c5,.int .i64 0,.int .i64 0,.string ⟨#[]⟩,.int .i64 0,.int .i64 0,.string ⟨#[]⟩,.int .i64 0,.string ⟨#[]⟩,.int .i64 0,.string ⟨#[]⟩,.int .i64 0,.int .i64 0,.slice none 0 0],faultV f]) (by simp [results,Tryz.results86,go_sem,r0,r1,r2,r3,r4,r5,r6,r7,r8,r9,r10,r11,r12,r13,r14,r15,d1]) rfl ?_
    rw [HQ.out]
    refine ⟨f,what,_,rfl,⟨_,_,_,_,_,_,_,_,_,_,_,_,_,_,_,_,_,_,_,_,rfl⟩,?_,by omega,?_⟩
    · exact FaultAt.put16 ((Lib.alloc_old w5 _ f (Go.Proofs.YtjlnpdpkobpkiaaGreatDoor.blk_lt K.out.1)).trans K.out.1) (by omega)
    · exact ((F4.out.trans K.out.2 (fun i _ e=>e)).alloc _).put16 (Nat.le_refl _)
  |ok v=>
    obtain ⟨⟨x5,l5⟩,l'⟩:=v
    have HQ:Hid (partP l= .ok (⟨1,⟨x5,l5⟩,0,zT,zT,bL [],zX⟩,l')):=by show _=_;rw [HN.out];unfold bnd;rw [hr]
    rw [hr] at hp
    obtain ⟨j',A5,c5,rfl,hA,hc,hK,hF⟩:=hp
    have K:=hid (And.intro hA (And.intro hF hK))
    have HC5:=hid hc
    have s5:=hF.size
    rw [z4] at s5
    have kr5:=(Lib.alloc_old w5 (.cells #[.string x5,.slice A5 l5.length c5] 33) _ (by omega)).trans ((hF.block _ (Go.Proofs.YtjlnpdpkobpkiaaGreatDoor.blk_lt kr4.out) (by omega)).trans kr4.out)
    obtain ⟨⟨r0,r1,r2,r3,r4,r5,r6,r7,r8,r9,r10,r11,r12,r13,r14,r15⟩,q0,q1,q2,q3,q4,q5,q6,q7,q8,q9,q10,q11,q12,q13,q14,q15⟩:=blk16 kr5
    have d1:w.heap.size≠w5.heap.size:=by omega
    clear hA hF hr kr5 hc hK
    go_wp2
    refine bodyPost_ret (v:= .tuple #[.agg #[.int .i64 1,.string x5,.slice A5 l5.length c5,.int .i64 0,.int .i64 0,.string ⟨#[]⟩,.int .i64 0,.int .i64 0,.string ⟨#[]⟩,.int .i64 0,.string ⟨#[]⟩,.int .i64 0,.string ⟨#[]⟩,.int .i64 0,.int .i64 0,.slice none 0 0],.nilIface]) (by simp [results,Tryz.results86,go_sem,r0,r1,r2,r3,r4,r5,r6,r7,r8,r9,r10,r11,r12,r13,r14,r15,d1]) rfl ?_
    rw [HQ.out]
    refine ⟨j',A5,c5,none,0,rfl,?_,HC5.out,?_,Nat.le_refl _,Kd.F_nil _ _ _,?_⟩
    · exact (K.out.1.alloc _).put16 (by omega) (by omega)
    · exact Kd.F_mono (Kd.F_step (Kd.F_alloc K.out.2.2 _) (fun i hi hlt=>(Fr.self16 (b:=w.heap.size)).block i hlt (by have:=hi;rw [z4] at this;omega))) (fun i hi=>by have:=hi;rw [z4] at this;omega)
    · exact ((F4.out.trans K.out.2.1 (fun i _ e=>e)).alloc _).put16 (Nat.le_refl _)
end Go.Proofs.YtjlnpdpkobpkiaaGreatDoorPSP
