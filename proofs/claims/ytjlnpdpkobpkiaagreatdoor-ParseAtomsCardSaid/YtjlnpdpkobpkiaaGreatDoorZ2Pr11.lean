import Derived.Test.YtjlnpdpkobpkiaaGreatDoorZ2Pr10
set_option linter.unusedVariables false
set_option linter.unusedSimpArgs false
namespace Go.Proofs.YtjlnpdpkobpkiaaGreatDoorPSP
open Go.RowKit Go.Extern.Stop Go.Stop Go.Extern Go.Proofs.YtjlnpdpkobpkiaaGreatDoorW.PrintWords Go.Proofs.YtjlnpdpkobpkiaaGreatDoor
abbrev exprZ:Obj:= .cells #[.int .i64 0,.string ⟨#[]⟩,.int .i64 0,.int .i64 0,.slice none 0 0] 104
abbrev exprA (x:Xp) (A:Option Addr) (c:Nat):Array Value:= #[.int .i64 x.f0.f0,.string x.f0.f1,.int .i64 x.f0.f2,.int .i64 x.f1,.slice A x.f2.length c]
theorem heap_put5 {w:World} {b:Nat} {t:TypeId} {a0 a1 a2 a3 a4 u0 u1 u2 u3 u4:Value} (h:w.heap[b]? =some (.cells #[a0,a1,a2,a3,a4] t (0,0))):(((((w.setCell ⟨b,0,none⟩ u0).setCell ⟨b,1,none⟩ u1).setCell ⟨b,2,none⟩ u2).setCell ⟨b,3,none⟩ u3).setCell ⟨b,4,none⟩ u4).heap[b]? =some (.cells #[u0,u1,u2,u3,u4] t (0,0)):=by
  have h1:=Go.Proofs.YtjlnpdpkobpkiaaGreatDoor.blk_set (o:=0) h u0
  have h2:=Go.Proofs.YtjlnpdpkobpkiaaGreatDoor.blk_set (o:=1) h1 u1
  have h3:=Go.Proofs.YtjlnpdpkobpkiaaGreatDoor.blk_set (o:=2) h2 u2
  have h4:=Go.Proofs.YtjlnpdpkobpkiaaGreatDoor.blk_set (o:=3) h3 u3
  have h5:=Go.Proofs.YtjlnpdpkobpkiaaGreatDoor.blk_set (o:=4) h4 u4
  rw [h5]
  simp
def ExprPost (E:Env) (w:World) (d:Nat) (r:Rs Xp) (e:Ending) (w':World):Prop:=match r with
  | .ok (x,l')=>∃j' A c,e= .returned (.tuple #[.agg (exprA x A c),.nilIface])∧At E w' j' d l'∧x.f2.length≤c∧Kd.F k104 w' (fun i=>w.heap.size≤i) A x.f2.length x.f2∧Fr (fun i=>i=E.b) w w'
  | .error (t,p)=>∃f what a0 a1 a2 a3 A n c,e= .returned (.tuple #[.agg #[.int .i64 a0,.string a1,.int .i64 a2,.int .i64 a3,.slice A n c],faultV f])∧FaultAt w' f (t:Int) (p:Int) what .nilIface∧w.heap.size≤f∧Fr (fun i=>i=E.b) w w'
structure ChOk (E:Env) (w:World) (d xb n:Nat) (r:Rs Xp) (one:List Tk→Rs Xp) (ops:List (Int×List UInt8)) (wr:World) (j:Nat) (l:List Tk) (x:Xp) (A:Option Addr) (c:Nat):Prop where
  at_:At E wr j d l
  hx:wr.heap[xb]? =some (.cells (exprA x A c) 104 (0,0))
  le:x.f2.length≤c
  kids:Kd.F k104 wr (fun i=>w.heap.size+2≤i∧i≠xb) A x.f2.length x.f2
  box:BoxAt E wr w.heap.size
  res:wr.heap[w.heap.size+1]? =some exprZ
  fr:Fr (fun i=>i=E.b) w wr
  is:r=chainL one ops n x l
structure ChEr (E:Env) (w:World) (t p:Nat) (r:Rs Xp) (wr:World) (f:Nat) (what:ByteArray):Prop where
  fa:FaultAt wr f (t:Int) (p:Int) what .nilIface
  lf:w.heap.size+2≤f
  res:wr.heap[w.heap.size+1]? =some exprZ
  fr:Fr (fun i=>i=E.b) w wr
  is:r= .error (t,p)
theorem row_two {W5 W':World} {kb xb B:Nat} {x y:Xp} {A A':Option Addr} {c c':Nat} (hx:x.f2.length≤c) (hy:y.f2.length≤c')
    (hk:W'.heap[kb]? =some (.cells #[.int .i64 x.f0.f0,.string x.f0.f1,.int .i64 x.f0.f2,.int .i64 x.f1,.slice A x.f2.length c,.int .i64 y.f0.f0,.string y.f0.f1,.int .i64 y.f0.f2,.int .i64 y.f1,.slice A' y.f2.length c'] 104 (0,0)))
    (h1:Kd.C k104 W' A x.f2.length x.f2) (h2:Kd.C k104 W' A' y.f2.length y.f2):Kd.C k104 W' (some ⟨kb,0,none⟩) 2 [x,y]:=by
  have hs:k104.sz=5:=rfl
  refine ⟨rfl,by decide,fun _=>⟨⟨kb,0,none⟩,rfl,fun j p hp=> ?_⟩⟩
  have hc:∀i u,[Value.int .i64 x.f0.f0,.string x.f0.f1,.int .i64 x.f0.f2,.int .i64 x.f1,.slice A x.f2.length c,.int .i64 y.f0.f0,.string y.f0.f1,.int .i64 y.f0.f2,.int .i64 y.f1,.slice A' y.f2.length c'][i]? =some u→W'.cell? ((⟨kb,0,none⟩:Addr).add i)=some u:=fun i u hu=>by
    rw [addr_add,Nat.zero_add,cell_blk hk i]
    simpa using hu
  match j,hp with
  |0,hp=>
    simp at hp
    subst hp
    refine ⟨[.int .i64 x.f0.f0,.string x.f0.f1,.int .i64 x.f0.f2,.int .i64 x.f1,.slice A x.f2.length c],rfl,k104_mk W' x hx h1,fun i u hu=> ?_⟩
    rw [Nat.zero_mul,Nat.zero_add]
    refine hc i u ?_
    have hi:i<5:=(List.getElem?_eq_some_iff.1 hu).1
    rw [←hu]
    match i,hi with
    |0,_=>rfl
    |1,_=>rfl
    |2,_=>rfl
    |3,_=>rfl
    |4,_=>rfl
  |1,hp=>
    simp at hp
    subst hp
    refine ⟨[.int .i64 y.f0.f0,.string y.f0.f1,.int .i64 y.f0.f2,.int .i64 y.f1,.slice A' y.f2.length c'],rfl,k104_mk W' y hy h2,fun i u hu=> ?_⟩
    rw [hs]
    refine hc (1*5+i) u ?_
    have hi:i<5:=(List.getElem?_eq_some_iff.1 hu).1
    rw [←hu]
    match i,hi with
    |0,_=>rfl
    |1,_=>rfl
    |2,_=>rfl
    |3,_=>rfl
    |4,_=>rfl
theorem drew_heap (w:World):w.drew.heap=w.heap:=rfl
theorem chain_step {E:Env} {w W5:World} {d xb n:Nat} {r:Rs Xp} {one:List Tk→Rs Xp} {ops:List (Int×List UInt8)} {j:Nat} {l:List Tk} {x y:Xp} {A A':Option Addr} {c c':Nat} {o:Int}
    (hA:At E W5 j d l) (lb:E.b<w.heap.size) (lg:E.g<w.heap.size) (hw:w.heap.size+2≤xb) (hx:W5.heap[xb]? =some (.cells (exprA x A c) 104 (0,0))) (lx:x.f2.length≤c) (ly:y.f2.length≤c')
    (k1:Kd.F k104 W5 (fun i=>w.heap.size+2≤i∧i≠xb) A x.f2.length x.f2) (k2:Kd.F k104 W5 (fun i=>w.heap.size+2≤i∧i≠xb) A' y.f2.length y.f2)
    (hb:BoxAt E W5 w.heap.size) (hr:W5.heap[w.heap.size+1]? =some exprZ) (hf:Fr (fun i=>i=E.b) w W5) (his:r=chainL one ops n (mkY o x y) l):
    ChOk E w d xb n r one ops ((((((W5.alloc (.cells #[.int .i64 x.f0.f0,.string x.f0.f1,.int .i64 x.f0.f2,.int .i64 x.f1,.slice A x.f2.length c,.int .i64 y.f0.f0,.string y.f0.f1,.int .i64 y.f0.f2,.int .i64 y.f1,.slice A' y.f2.length c'] 104)).setCell ⟨xb,0,none⟩ (.int .i64 0)).setCell ⟨xb,1,none⟩ (.string ⟨#[]⟩)).setCell ⟨xb,2,none⟩ (.int .i64 0)).setCell ⟨xb,3,none⟩ (.int .i64 o)).setCell ⟨xb,4,none⟩ (.slice (some ⟨W5.heap.size,0,none⟩) 2 2)).drew j l (mkY o x y) (some ⟨W5.heap.size,0,none⟩) 2:=by
  have lx5:=Go.Proofs.YtjlnpdpkobpkiaaGreatDoor.blk_lt hx
  generalize hK:(Obj.cells #[.int .i64 x.f0.f0,.string x.f0.f1,.int .i64 x.f0.f2,.int .i64 x.f1,.slice A x.f2.length c,.int .i64 y.f0.f0,.string y.f0.f1,.int .i64 y.f0.f2,.int .i64 y.f1,.slice A' y.f2.length c'] 104)=K
  have hx2:=heap_put5 (u0:= .int .i64 0) (u1:= .string ⟨#[]⟩) (u2:= .int .i64 0) (u3:= .int .i64 o) (u4:= .slice (some ⟨W5.heap.size,0,none⟩) 2 2) ((Lib.alloc_old W5 K xb lx5).trans hx)
  have G:Fr (fun i=>i=xb) (W5.alloc K) ((((((W5.alloc K).setCell ⟨xb,0,none⟩ (.int .i64 0)).setCell ⟨xb,1,none⟩ (.string ⟨#[]⟩)).setCell ⟨xb,2,none⟩ (.int .i64 0)).setCell ⟨xb,3,none⟩ (.int .i64 o)).setCell ⟨xb,4,none⟩ (.slice (some ⟨W5.heap.size,0,none⟩) 2 2)).drew:=Fr.drew Fr.self5
  have G2:Fr (fun i=>i=xb) W5 ((((((W5.alloc K).setCell ⟨xb,0,none⟩ (.int .i64 0)).setCell ⟨xb,1,none⟩ (.string ⟨#[]⟩)).setCell ⟨xb,2,none⟩ (.int .i64 0)).setCell ⟨xb,3,none⟩ (.int .i64 o)).setCell ⟨xb,4,none⟩ (.slice (some ⟨W5.heap.size,0,none⟩) 2 2)).drew:=((Fr.refl _ W5).alloc K).trans G (fun i _ e=>e)
  generalize hW9:((((((W5.alloc K).setCell ⟨xb,0,none⟩ (.int .i64 0)).setCell ⟨xb,1,none⟩ (.string ⟨#[]⟩)).setCell ⟨xb,2,none⟩ (.int .i64 0)).setCell ⟨xb,3,none⟩ (.int .i64 o)).setCell ⟨xb,4,none⟩ (.slice (some ⟨W5.heap.size,0,none⟩) 2 2)).drew=W9 at G G2
  have hx3:W9.heap[xb]? =some (.cells (exprA (mkY o x y) (some ⟨W5.heap.size,0,none⟩) 2) 104 (0,0)):=by
    rw [←hW9,drew_heap,hx2]
    rfl
  have hk:W9.heap[W5.heap.size]? =some K:=(G.block _ (by simp) (by omega)).trans (heap_alloc_new W5 K)
  have hz:=G.size
  simp at hz
  refine ⟨hA.keep G2 (by omega) (by omega),hx3,by show 2≤2;omega,?_,?_,?_,hf.trans G2 (fun i hi e=>by omega),his⟩
  · intro W' hW
    subst hK
    have f1:=Kd.F_now (Kd.F_step (W1:=W') k1 (fun i hi hlt=>(hW i hi (by omega)).trans (G2.block i hlt hi.2)))
    have f2:=Kd.F_now (Kd.F_step (W1:=W') k2 (fun i hi hlt=>(hW i hi (by omega)).trans (G2.block i hlt hi.2)))
    exact row_two (W5:=W5) (xb:=xb) (B:=0) lx ly ((hW _ ⟨by omega,by omega⟩ (by omega)).trans hk) f1 f2
  · exact (G2.block _ (Go.Proofs.YtjlnpdpkobpkiaaGreatDoor.blk_lt hb) (by omega)).trans hb
  · exact (G2.block _ (Go.Proofs.YtjlnpdpkobpkiaaGreatDoor.blk_lt hr) (by omega)).trans hr
theorem chain_fail {E:Env} {w W5:World} {t p xb f:Nat} {r:Rs Xp} {what:ByteArray} {K:Obj} {u0 u1 u2 u3 u4:Value} (ha:FaultAt W5 f (t:Int) (p:Int) what .nilIface) (lf:w.heap.size+2≤f) (hn:f≠xb) (hw:w.heap.size+2≤xb)
    (hr:W5.heap[w.heap.size+1]? =some exprZ) (hf:Fr (fun i=>i=E.b) w W5) (his:r= .error (t,p)):
    ChEr E w t p r ((((((W5.alloc K).setCell ⟨xb,0,none⟩ u0).setCell ⟨xb,1,none⟩ u1).setCell ⟨xb,2,none⟩ u2).setCell ⟨xb,3,none⟩ u3).setCell ⟨xb,4,none⟩ u4).drew f what:=by
  have G:Fr (fun i=>i=xb) W5 ((((((W5.alloc K).setCell ⟨xb,0,none⟩ u0).setCell ⟨xb,1,none⟩ u1).setCell ⟨xb,2,none⟩ u2).setCell ⟨xb,3,none⟩ u3).setCell ⟨xb,4,none⟩ u4).drew:=(((Fr.refl _ W5).alloc K).trans Fr.self5 (fun i _ e=>e)).drew
  exact ⟨(G.block f (Go.Proofs.YtjlnpdpkobpkiaaGreatDoor.blk_lt ha) hn).trans ha,lf,(G.block _ (Go.Proofs.YtjlnpdpkobpkiaaGreatDoor.blk_lt hr) (by omega)).trans hr,hf.trans G (fun i hi e=>by omega),his⟩
set_option maxHeartbeats 8000000 in
set_option maxRecDepth 100000 in
theorem chain_any {E:Env} {w:World} {j d:Nat} {l:List Tk} (h:At E w j d l) (k:Nat) (first cap:Array Value) (hen:∀args w,(callFunc k args).run Tryz.prog w= .ok (.enter k args) w) (one:List Tk→Rs Xp) (hsf:Sf one)
    (os:List Nat) (ob cp:Nat) (hos:∀o∈os,o≤4) (hol:os.length≤5) (hcp:os.length≤cp) (nob:ob≠E.b) (hob:∀i (o:Nat),os[i]? =some o→w.cell? ⟨ob,i,none⟩=some (.int .i64 (o:Int)))
    (hone:∀w1 j1 l1,w.heap.size≤w1.heap.size→At E w1 j1 d l1→Calls Tryz.prog k (first++cap) w1 (ExprPost E w1 d (one l1))) (lob:ob<w.heap.size):
    Calls Tryz.prog 121 #[.pointer (some ⟨E.b,0,none⟩),.func (.func k) first cap,.slice (some ⟨ob,0,none⟩) os.length cp] w (ExprPost E w d (chainP one (opsL os) l)):=by
  have HR:=hid ((h.alloc (.cells #[.pointer (some ⟨E.b,0,none⟩)] 130)).alloc exprZ)
  have H:=hid h
  have lb:=h.lb
  have lg:=h.lg
  have HOB:=hid hob
  have HS:=hid hos
  have HONE:=hid hone
  have HV:=hid (hone _ _ _ (by simp;omega) HR.out)
  have kb:Hid (((w.alloc (.cells #[.pointer (some ⟨E.b,0,none⟩)] 130)).alloc exprZ).heap[w.heap.size]? =some (.cells #[.pointer (some ⟨E.b,0,none⟩)] 130 (0,0))):=
    (Lib.alloc_old _ exprZ w.heap.size (by simp)).trans (heap_alloc_new w _)
  have kr:Hid (((w.alloc (.cells #[.pointer (some ⟨E.b,0,none⟩)] 130)).alloc exprZ).heap[w.heap.size+1]? =some exprZ):=by
    show _=_
    rw [show w.heap.size+1=(w.alloc (.cells #[.pointer (some ⟨E.b,0,none⟩)] 130)).heap.size by simp,heap_alloc_new]
  have F0:Hid (Fr (fun i=>i=E.b) w ((w.alloc (.cells #[.pointer (some ⟨E.b,0,none⟩)] 130)).alloc exprZ)):=hid (((Fr.refl _ w).alloc _).alloc _)
  have z0:((w.alloc (.cells #[.pointer (some ⟨E.b,0,none⟩)] 130)).alloc exprZ).heap.size=w.heap.size+2:=by simp
  obtain ⟨m,hm⟩:∃m,m=os.length:=⟨_,rfl⟩
  rw [←hm] at hol hcp ⊢
  have HM:=hid hm
  have HSF:=hid hsf
  clear h hob hos hone hm hsf
  go_enter Tryz.func121,Tryz.ntmps121
  go_wp2_with fail
  refine HV.out.mono ?_
  intro e w1 hp
  cases hr:one l with
  |error v=>
    obtain ⟨t,p⟩:=v
    have HN:Hid (chainP one (opsL os) l= .error (t,p)):=by show _=_;unfold chainP bnd;rw [hr]
    rw [hr] at hp
    obtain ⟨f,what,a0,a1,a2,a3,A,n,c,rfl,hFa,hlf,hF⟩:=hp
    have K:=hid (And.intro hFa hF)
    have s4:=hF.size
    rw [z0] at s4 hlf
    obtain ⟨⟨r0,r1,r2,r3,r4⟩,q0,q1,q2,q3,q4⟩:=blk5 ((Lib.alloc_old w1 (.cells #[.int .i64 a0,.string a1,.int .i64 a2,.int .i64 a3,.slice A n c] 104) _ (by omega)).trans ((hF.block _ (Go.Proofs.YtjlnpdpkobpkiaaGreatDoor.blk_lt kr.out) (by omega)).trans kr.out))
    have d1:w.heap.size+1≠w1.heap.size:=by omega
    clear hFa hF hr
    go_wp2_with fail
    go_loopg [9] 1 (fun g v wr=>v=faultV f∧wr=w1.alloc (.cells #[.int .i64 a0,.string a1,.int .i64 a2,.int .i64 a3,.slice A n c] 104))
    case atStart=>exact ⟨rfl,rfl⟩
    case round=>
      obtain ⟨rfl,rfl⟩:=hrel
      go_wp2
      refine bodyPost_ret (v:= .tuple #[.agg #[.int .i64 0,.string ⟨#[]⟩,.int .i64 0,.int .i64 0,.slice none 0 0],faultV f]) (by simp [results,Tryz.results121,go_sem,r0,r1,r2,r3,r4]) rfl ?_
      rw [HN.out]
      refine ⟨f,what,_,_,_,_,_,_,_,rfl,?_,by omega,?_⟩
      · exact FaultAt.put5 ((Lib.alloc_old w1 _ f (Go.Proofs.YtjlnpdpkobpkiaaGreatDoor.blk_lt K.out.1)).trans K.out.1) (by omega)
      · exact ((F0.out.trans K.out.2 (fun i _ e=>e)).alloc _).put5 (by omega)
  |ok v=>
    obtain ⟨x,l1⟩:=v
    have HN:Hid (chainP one (opsL os) l=chainL one (opsL os) 100000 x l1):=by show _=_;unfold chainP bnd;rw [hr]
    rw [hr] at hp
    obtain ⟨j1,A,c,rfl,hA,hc,hK,hF⟩:=hp
    have s4:=hF.size
    rw [z0] at s4
    have ll:l1.length≤30000:=by rw [hA.l,List.length_drop];have:=E.len;omega
    have S0:Hid (ChOk E w d w1.heap.size 100000 (chainP one (opsL os) l) one (opsL os) (w1.alloc (.cells (exprA x A c) 104)) j1 l1 x A c):=hid
      ⟨hA.alloc _, heap_alloc_new w1 _, hc, Kd.F_mono (Kd.F_alloc (Kd.F_bound hK) _) (fun i hi => ⟨by have := hi.1; rw [z0] at this; exact this, by have := hi.2; omega⟩), (Lib.alloc_old w1 _ _ (by omega)).trans ((hF.block _ (Go.Proofs.YtjlnpdpkobpkiaaGreatDoor.blk_lt kb.out) (by omega)).trans kb.out),
        (Lib.alloc_old w1 _ _ (by omega)).trans ((hF.block _ (Go.Proofs.YtjlnpdpkobpkiaaGreatDoor.blk_lt kr.out) (by omega)).trans kr.out),(F0.out.trans hF (fun i _ e=>e)).alloc _,HN.out⟩
    have s5:w1.heap.size<(w1.alloc (.cells (exprA x A c) 104)).heap.size:=by simp
    clear hA hK hF hr HV kb kr F0 hc
    go_wp2_with fail
    go_loopg [9] 40000 (fun g v wr=>w1.heap.size<wr.heap.size∧((v= .nilIface∧∃(n j':Nat) (l':List Tk) (x':Xp) (A':Option Addr) (c':Nat),l'.length<n∧l'.length<g∧Hid (ChOk E w d w1.heap.size n (chainP one (opsL os) l) one (opsL os) wr j' l' x' A' c'))∨(0<g∧∃(t p f:Nat) (what:ByteArray),v=faultV f∧Hid (ChEr E w t p (chainP one (opsL os) l) wr f what))))
    case atStart=>exact ⟨s5,.inl ⟨rfl,100000,j1,l1,x,A,c,by omega,by omega,S0⟩⟩
    case round=>
      clear S0 s5 HN
      obtain ⟨hsz,hrel⟩:=hrel
      obtain ⟨wo,rfl⟩:∃y:World,y=wr:=⟨_,rfl⟩
      rcases hrel with ⟨rfl,n,j2,l2,x2,A2,c2,hn,hg,S⟩|⟨hg,t,p,f,what,rfl,S⟩
      · obtain ⟨n1, hn1⟩ : ∃ q, n = q + 1 := ⟨n - 1, by omega⟩
        have HN1:=hid hn1
        clear hn1
        have HI:=hid (index_any (br:=w.heap.size) (ob:=ob) (cp:=cp) (os:=os) S.out.at_ S.out.box HS.out (by rw [←HM.out];exact hol) (by rw [←HM.out];exact hcp) (fun i o ho=>S.out.fr.cell (HOB.out i o ho) (by omega)))
        rw [←HM.out] at HI
        go_wp2_with fail
        refine HI.out.mono ?_
        rintro e w2 ⟨hb2,hi⟩
        have HB2:=hid hb2
        rcases hi with ⟨i,o,hio,hf,hs,rfl⟩|⟨hf,rfl⟩
        · have HF := hid hf
          have HSN:=hid hs
          have HIO:=hid hio
          have him:i<m:=by rw [HM.out];exact (List.getElem?_eq_some_iff.1 hio).1
          have A2':=S.out.at_.below hb2
          have hnx:=A2'.sign hs
          obtain ⟨c1,g1⟩:=A2'.c1
          have b2:w2.cell? ⟨w.heap.size,0,none⟩=some (.pointer (some ⟨E.b,0,none⟩)):=cell_blk ((hb2.block _ (Go.Proofs.YtjlnpdpkobpkiaaGreatDoor.blk_lt S.out.box)).trans S.out.box) 0
          have hj3:j2+1≤30000:=by have:=E.len;omega
          have A3:=hid ((A2'.on hnx).alloc exprZ)
          have z3:((w2.setCell ⟨E.b,1,none⟩ (.int .i64 ((j2:Int)+1))).alloc exprZ).heap.size=w2.heap.size+1:=by simp [World.setCell]
          have HC:=hid (HONE.out _ _ _ (by rw [z3];have:=hb2.size;omega) A3.out)
          have hb2s:=hb2.size
          clear hb2 hf hs hio A2'
          go_wp2_with fail
          refine HC.out.mono ?_
          intro e w4 hp
          cases hr:one (l2.drop 1) with
          |error v=>
            obtain ⟨t,p⟩:=v
            rw [hr] at hp
            obtain ⟨f,what,a0,a1,a2,a3,A4,n4,c4,rfl,hFa,hlf,hF⟩:=hp
            have HE:Hid (chainP one (opsL os) l= .error (t,p)):=by
              show _=_
              rw [S.out.is,HN1.out,chainL,HF.out]
              simp only [bnd,hr]
            rw [z3] at hlf
            have s4':=hF.size
            rw [z3] at s4'
            have F3:Fr (fun i=>i=E.b) wo (w2.setCell ⟨E.b,1,none⟩ (.int .i64 ((j2:Int)+1))):=Fr.putF (F:=fun i=>i=E.b) (Fr.ofB HB2.out) _ rfl _
            have F4:Hid (Fr (fun i=>i=E.b) wo w4):=(F3.alloc exprZ).trans hF (fun i _ e=>e)
            have ky:w4.heap[w2.heap.size]? =some exprZ:=(hF.block _ (by rw [z3];omega) (by omega)).trans (by
              have:=heap_alloc_new (w2.setCell ⟨E.b,1,none⟩ (.int .i64 ((j2:Int)+1))) exprZ
              simpa [World.setCell] using this)
            have kx:Hid ((((((w4.setCell ⟨w2.heap.size,0,none⟩ (.int .i64 a0)).setCell ⟨w2.heap.size,1,none⟩ (.string a1)).setCell ⟨w2.heap.size,2,none⟩ (.int .i64 a2)).setCell ⟨w2.heap.size,3,none⟩ (.int .i64 a3)).setCell ⟨w2.heap.size,4,none⟩ (.slice A4 n4 c4)).heap[w1.heap.size]? =some (.cells (exprA x2 A2 c2) 104 (0,0))):=(Fr.self5.block _ (by omega) (by omega)).trans ((F4.out.block _ hsz (by omega)).trans S.out.hx)
            have ky5:Hid ((((((w4.setCell ⟨w2.heap.size,0,none⟩ (.int .i64 a0)).setCell ⟨w2.heap.size,1,none⟩ (.string a1)).setCell ⟨w2.heap.size,2,none⟩ (.int .i64 a2)).setCell ⟨w2.heap.size,3,none⟩ (.int .i64 a3)).setCell ⟨w2.heap.size,4,none⟩ (.slice A4 n4 c4)).heap[w2.heap.size]? =some (.cells #[.int .i64 a0,.string a1,.int .i64 a2,.int .i64 a3,.slice A4 n4 c4] 104 (0,0))):=heap_put5 ky
            have e5:Hid ((((((w4.setCell ⟨w2.heap.size,0,none⟩ (.int .i64 a0)).setCell ⟨w2.heap.size,1,none⟩ (.string a1)).setCell ⟨w2.heap.size,2,none⟩ (.int .i64 a2)).setCell ⟨w2.heap.size,3,none⟩ (.int .i64 a3)).setCell ⟨w2.heap.size,4,none⟩ (.slice A4 n4 c4)).cell? ⟨ob,i,none⟩=some (.int .i64 (o:Int))):=Fr.self5.cell ((S.out.fr.trans F4.out (fun i _ e=>e)).cell (HOB.out i o HIO.out) (by omega)) (by omega)
            have G5:Hid (Fr (fun i=>i=w2.heap.size) w4 (((((w4.setCell ⟨w2.heap.size,0,none⟩ (.int .i64 a0)).setCell ⟨w2.heap.size,1,none⟩ (.string a1)).setCell ⟨w2.heap.size,2,none⟩ (.int .i64 a2)).setCell ⟨w2.heap.size,3,none⟩ (.int .i64 a3)).setCell ⟨w2.heap.size,4,none⟩ (.slice A4 n4 c4))):=Fr.self5
            have hlt:(i:Int)<(m:Int):=by omega
            obtain ⟨⟨y0,y1,y2,y3,y4⟩,q0,q1,q2,q3,q4⟩:=blk5 ky
            obtain ⟨⟨o0,o1,o2,o3,o4⟩,p0,p1,p2,p3,p4⟩:=blk5 ((F4.out.block _ hsz (by omega)).trans S.out.hx)
            have d1:w2.heap.size≠w1.heap.size:=by omega
            have d3:w1.heap.size≠w2.heap.size:=by omega
            have K4:=hid (And.intro hFa hF)
            clear hFa hF hr F3 ky
            go_wp2_with fail
            clear y0 y1 y2 y3 y4 q0 q1 q2 q3 q4 o0 o1 o2 o3 o4 p0 p1 p2 p3 p4
            generalize (((((w4.setCell ⟨w2.heap.size,0,none⟩ (.int .i64 a0)).setCell ⟨w2.heap.size,1,none⟩ (.string a1)).setCell ⟨w2.heap.size,2,none⟩ (.int .i64 a2)).setCell ⟨w2.heap.size,3,none⟩ (.int .i64 a3)).setCell ⟨w2.heap.size,4,none⟩ (.slice A4 n4 c4))=W5 at kx ky5 e5 G5 ⊢
            obtain ⟨⟨y0,y1,y2,y3,y4⟩,q0,q1,q2,q3,q4⟩:=blk5 ky5.out
            obtain ⟨⟨o0,o1,o2,o3,o4⟩,p0,p1,p2,p3,p4⟩:=blk5 kx.out
            have e0:=e5.out
            have ea:=Fr.cell (F:=fun _=>False) ((Fr.refl _ W5).alloc (.cells #[.int .i64 x2.f0.f0,.string x2.f0.f1,.int .i64 x2.f0.f2,.int .i64 x2.f1,.slice A2 x2.f2.length c2,.int .i64 a0,.string a1,.int .i64 a2,.int .i64 a3,.slice A4 n4 c4] 104)) e5.out (fun f=>f)
            obtain ⟨⟨yy0,yy1,yy2,yy3,yy4⟩,qq0,qq1,qq2,qq3,qq4⟩:=blk5 ((Lib.alloc_old W5 (.cells #[.int .i64 x2.f0.f0,.string x2.f0.f1,.int .i64 x2.f0.f2,.int .i64 x2.f1,.slice A2 x2.f2.length c2,.int .i64 a0,.string a1,.int .i64 a2,.int .i64 a3,.slice A4 n4 c4] 104) _ (Go.Proofs.YtjlnpdpkobpkiaaGreatDoor.blk_lt ky5.out)).trans ky5.out)
            obtain ⟨⟨oo0,oo1,oo2,oo3,oo4⟩,pp0,pp1,pp2,pp3,pp4⟩:=blk5 ((Lib.alloc_old W5 (.cells #[.int .i64 x2.f0.f0,.string x2.f0.f1,.int .i64 x2.f0.f2,.int .i64 x2.f1,.slice A2 x2.f2.length c2,.int .i64 a0,.string a1,.int .i64 a2,.int .i64 a3,.slice A4 n4 c4] 104) _ (Go.Proofs.YtjlnpdpkobpkiaaGreatDoor.blk_lt kx.out)).trans kx.out)
            go_region
            go_wp2
            have kx5:=Go.Proofs.YtjlnpdpkobpkiaaGreatDoor.blk_lt kx.out
            go_roundg 1
            case measure=>have:=List.length_pos_iff.2 (ne_sign HSN.out);omega
            case rel=>
              have FW:=hid (F4.out.trans G5.out (fun i hi e=>by have:=HB2.out.size;omega))
              refine ⟨by simp [World.setCell];omega,.inr ⟨by decide,t,p,f,what,rfl,hid (chain_fail ((G5.out.block f (Go.Proofs.YtjlnpdpkobpkiaaGreatDoor.blk_lt K4.out.1) (by omega)).trans K4.out.1) (by omega) (by omega) (by omega) ((FW.out.block _ (Go.Proofs.YtjlnpdpkobpkiaaGreatDoor.blk_lt S.out.res) (by omega)).trans S.out.res) (S.out.fr.trans FW.out (fun i _ e=>e)) HE.out)⟩⟩
          |ok v=>
            obtain ⟨y,l4⟩:=v
            rw [hr] at hp
            obtain ⟨j4,A4,c4,rfl,hA,hc,hK,hF⟩:=hp
            have s4':=hF.size
            rw [z3] at s4'
            have F3:Fr (fun i=>i=E.b) wo (w2.setCell ⟨E.b,1,none⟩ (.int .i64 ((j2:Int)+1))):=Fr.putF (F:=fun i=>i=E.b) (Fr.ofB HB2.out) _ rfl _
            have F4:Hid (Fr (fun i=>i=E.b) wo w4):=(F3.alloc exprZ).trans hF (fun i _ e=>e)
            have ky:w4.heap[w2.heap.size]? =some exprZ:=(hF.block _ (by rw [z3];omega) (by omega)).trans (by
              have:=heap_alloc_new (w2.setCell ⟨E.b,1,none⟩ (.int .i64 ((j2:Int)+1))) exprZ
              simpa [World.setCell] using this)
            have kx:Hid ((((((w4.setCell ⟨w2.heap.size,0,none⟩ (.int .i64 y.f0.f0)).setCell ⟨w2.heap.size,1,none⟩ (.string y.f0.f1)).setCell ⟨w2.heap.size,2,none⟩ (.int .i64 y.f0.f2)).setCell ⟨w2.heap.size,3,none⟩ (.int .i64 y.f1)).setCell ⟨w2.heap.size,4,none⟩ (.slice A4 y.f2.length c4)).heap[w1.heap.size]? =some (.cells (exprA x2 A2 c2) 104 (0,0))):=(Fr.self5.block _ (by omega) (by omega)).trans ((F4.out.block _ hsz (by omega)).trans S.out.hx)
            have ky5:Hid ((((((w4.setCell ⟨w2.heap.size,0,none⟩ (.int .i64 y.f0.f0)).setCell ⟨w2.heap.size,1,none⟩ (.string y.f0.f1)).setCell ⟨w2.heap.size,2,none⟩ (.int .i64 y.f0.f2)).setCell ⟨w2.heap.size,3,none⟩ (.int .i64 y.f1)).setCell ⟨w2.heap.size,4,none⟩ (.slice A4 y.f2.length c4)).heap[w2.heap.size]? =some (.cells (exprA y A4 c4) 104 (0,0))):=heap_put5 ky
            have e5:Hid ((((((w4.setCell ⟨w2.heap.size,0,none⟩ (.int .i64 y.f0.f0)).setCell ⟨w2.heap.size,1,none⟩ (.string y.f0.f1)).setCell ⟨w2.heap.size,2,none⟩ (.int .i64 y.f0.f2)).setCell ⟨w2.heap.size,3,none⟩ (.int .i64 y.f1)).setCell ⟨w2.heap.size,4,none⟩ (.slice A4 y.f2.length c4)).cell? ⟨ob,i,none⟩=some (.int .i64 (o:Int))):=Fr.self5.cell ((S.out.fr.trans F4.out (fun i _ e=>e)).cell (HOB.out i o HIO.out) (by omega)) (by omega)
            have G5:Hid (Fr (fun i=>i=w2.heap.size) w4 (((((w4.setCell ⟨w2.heap.size,0,none⟩ (.int .i64 y.f0.f0)).setCell ⟨w2.heap.size,1,none⟩ (.string y.f0.f1)).setCell ⟨w2.heap.size,2,none⟩ (.int .i64 y.f0.f2)).setCell ⟨w2.heap.size,3,none⟩ (.int .i64 y.f1)).setCell ⟨w2.heap.size,4,none⟩ (.slice A4 y.f2.length c4))):=Fr.self5
            have hlt:(i:Int)<(m:Int):=by omega
            obtain ⟨⟨y0,y1,y2,y3,y4⟩,q0,q1,q2,q3,q4⟩:=blk5 ky
            obtain ⟨⟨o0,o1,o2,o3,o4⟩,p0,p1,p2,p3,p4⟩:=blk5 ((F4.out.block _ hsz (by omega)).trans S.out.hx)
            have d1:w2.heap.size≠w1.heap.size:=by omega
            have d3:w1.heap.size≠w2.heap.size:=by omega
            have HE:Hid (chainP one (opsL os) l=chainL one (opsL os) n1 (mkY o x2 y) l4):=by
              show _=_
              rw [S.out.is,HN1.out,chainL,HF.out]
              simp only [bnd,hr]
            have hl4:l4.length<l2.length:=by
              have h1:=HSF.out.le hr
              rw [List.length_drop] at h1
              have h2:0<l2.length:=List.length_pos_iff.2 (ne_sign HSN.out)
              omega
            have K4:=hid (And.intro hA (And.intro hc (And.intro hK hF)))
            clear hA hc hK hF hr F3 ky
            go_wp2_with fail
            clear y0 y1 y2 y3 y4 q0 q1 q2 q3 q4 o0 o1 o2 o3 o4 p0 p1 p2 p3 p4
            generalize (((((w4.setCell ⟨w2.heap.size,0,none⟩ (.int .i64 y.f0.f0)).setCell ⟨w2.heap.size,1,none⟩ (.string y.f0.f1)).setCell ⟨w2.heap.size,2,none⟩ (.int .i64 y.f0.f2)).setCell ⟨w2.heap.size,3,none⟩ (.int .i64 y.f1)).setCell ⟨w2.heap.size,4,none⟩ (.slice A4 y.f2.length c4))=W5 at kx ky5 e5 G5 ⊢
            obtain ⟨⟨y0,y1,y2,y3,y4⟩,q0,q1,q2,q3,q4⟩:=blk5 ky5.out
            obtain ⟨⟨o0,o1,o2,o3,o4⟩,p0,p1,p2,p3,p4⟩:=blk5 kx.out
            have e0:=e5.out
            have ea:=Fr.cell (F:=fun _=>False) ((Fr.refl _ W5).alloc (.cells #[.int .i64 x2.f0.f0,.string x2.f0.f1,.int .i64 x2.f0.f2,.int .i64 x2.f1,.slice A2 x2.f2.length c2,.int .i64 y.f0.f0,.string y.f0.f1,.int .i64 y.f0.f2,.int .i64 y.f1,.slice A4 y.f2.length c4] 104)) e5.out (fun f=>f)
            obtain ⟨⟨yy0,yy1,yy2,yy3,yy4⟩,qq0,qq1,qq2,qq3,qq4⟩:=blk5 ((Lib.alloc_old W5 (.cells #[.int .i64 x2.f0.f0,.string x2.f0.f1,.int .i64 x2.f0.f2,.int .i64 x2.f1,.slice A2 x2.f2.length c2,.int .i64 y.f0.f0,.string y.f0.f1,.int .i64 y.f0.f2,.int .i64 y.f1,.slice A4 y.f2.length c4] 104) _ (Go.Proofs.YtjlnpdpkobpkiaaGreatDoor.blk_lt ky5.out)).trans ky5.out)
            obtain ⟨⟨oo0,oo1,oo2,oo3,oo4⟩,pp0,pp1,pp2,pp3,pp4⟩:=blk5 ((Lib.alloc_old W5 (.cells #[.int .i64 x2.f0.f0,.string x2.f0.f1,.int .i64 x2.f0.f2,.int .i64 x2.f1,.slice A2 x2.f2.length c2,.int .i64 y.f0.f0,.string y.f0.f1,.int .i64 y.f0.f2,.int .i64 y.f1,.slice A4 y.f2.length c4] 104) _ (Go.Proofs.YtjlnpdpkobpkiaaGreatDoor.blk_lt kx.out)).trans kx.out)
            go_region
            go_wp2
            have kx5:=Go.Proofs.YtjlnpdpkobpkiaaGreatDoor.blk_lt kx.out
            go_roundg (l2.length)
            case measure=>omega
            case rel=>
              refine ⟨by simp [World.setCell];omega,.inl ⟨rfl,n1,j4,l4,mkY o x2 y,some ⟨W5.heap.size,0,none⟩,2,by have:=HN1.out;omega,by omega,hid ?_⟩⟩
              have FW:=hid (F4.out.trans G5.out (fun i hi e=>by have:=HB2.out.size;omega))
              refine chain_step (K4.out.1.keep G5.out (by omega) (by omega)) lb lg (by omega) kx.out S.out.le K4.out.2.1 ?_ ?_ ?_ ?_ (S.out.fr.trans FW.out (fun i _ e=>e)) HE.out
              · exact Kd.F_mono (Kd.F_step (Kd.F_bound S.out.kids) (fun i hi hlt=>FW.out.block i hlt (by have:=hi.1.1;omega))) (fun i hi=>hi.1)
              · exact Kd.F_mono (Kd.F_step (Kd.F_bound K4.out.2.2.1) (fun i hi hlt=>G5.out.block i hlt (by have:=hi.1;rw [z3] at this;omega))) (fun i hi=>by have h1:=hi.1;rw [z3] at h1;exact ⟨by omega,by omega⟩)
              · exact (FW.out.block _ (Go.Proofs.YtjlnpdpkobpkiaaGreatDoor.blk_lt S.out.box) (by omega)).trans S.out.box
              · exact (FW.out.block _ (Go.Proofs.YtjlnpdpkobpkiaaGreatDoor.blk_lt S.out.res) (by omega)).trans S.out.res
        · have HF := hid hf
          have HE:Hid (chainP one (opsL os) l= .ok (x2,l2)):=by
            show _=_
            rw [S.out.is,HN1.out,chainL,HF.out]
          obtain ⟨⟨o0,o1,o2,o3,o4⟩,p0,p1,p2,p3,p4⟩:=blk5 ((hb2.block _ hsz).trans S.out.hx)
          obtain ⟨⟨r0,r1,r2,r3,r4⟩,q0,q1,q2,q3,q4⟩:=blk5 ((hb2.block _ (Go.Proofs.YtjlnpdpkobpkiaaGreatDoor.blk_lt S.out.res)).trans S.out.res)
          have d1:w.heap.size+1≠w1.heap.size:=by omega
          have s2:=hb2.size
          clear hb2 hf
          go_wp2
          refine bodyPost_ret (v:= .tuple #[.agg (exprA x2 A2 c2),.nilIface]) (by simp [results,Tryz.results121,go_sem,r0,r1,r2,r3,r4]) rfl ?_
          rw [HE.out]
          refine ⟨j2,A2,c2,rfl,?_,S.out.le,?_,?_⟩
          · exact (S.out.at_.below HB2.out).put5 (by omega) (by omega)
          · exact Kd.F_mono (Kd.F_step (Kd.F_below S.out.kids HB2.out) (fun i hi hlt=>(Fr.self5 (b:=w.heap.size+1)).block i hlt (by have:=hi.1;omega))) (fun i hi=>by have:=hi.1;omega)
          · exact (S.out.fr.old HB2.out).put5 (by omega)
      · obtain ⟨⟨r0, r1, r2, r3, r4⟩, q0, q1, q2, q3, q4⟩ := blk5 S.out.res
        go_wp2
        refine bodyPost_ret (v:= .tuple #[.agg #[.int .i64 0,.string ⟨#[]⟩,.int .i64 0,.int .i64 0,.slice none 0 0],faultV f]) (by simp [results,Tryz.results121,go_sem,r0,r1,r2,r3,r4]) rfl ?_
        rw [S.out.is]
        refine ⟨f,what,_,_,_,_,_,_,_,rfl,?_,by have:=S.out.lf;omega,?_⟩
        · exact S.out.fa.put5 (by have:=S.out.lf;omega)
        · exact S.out.fr.put5 (by omega)
end Go.Proofs.YtjlnpdpkobpkiaaGreatDoorPSP
