import Derived.Test.YtjlnpdpkobpkiaaGreatDoorZ2Pr18
set_option linter.unusedVariables false
set_option linter.unusedSimpArgs false
namespace Go.Proofs.YtjlnpdpkobpkiaaGreatDoorPSP
open Go.RowKit Go.Extern.Stop Go.Stop Go.Extern Go.Proofs.YtjlnpdpkobpkiaaGreatDoorW.PrintWords Go.Proofs.YtjlnpdpkobpkiaaGreatDoor
theorem rule_any {E:Env} {w:World} {j:Nat} {l:List Tk} (h:At E w j 0 l):Calls Tryz.prog 53 #[.pointer (some ⟨E.b,0,none⟩)] w (RulePost E w (ruleP nv l)):=by
  cases hh:headP l with
  |error v=>obtain ⟨t,p⟩:=v;exact rule_bad h hh
  |ok v=>
    obtain ⟨⟨a,g⟩,l1⟩:=v
    obtain ⟨s,as_,rfl⟩:=head_made hh
    cases hs:isS l1 0 [58,45] with
    |false=>exact rule_bare h hh hs
    |true=>exact rule_body h hh hs
abbrev declZ:Obj:= .cells #[.string ⟨#[]⟩,.bool false,.int .i64 0] 126
abbrev declA (p:Int):Obj:= .cells #[.string ⟨#[]⟩,.bool false,.int .i64 p] 126
def DeclPost (E:Env) (w:World) (r:Rs Dl) (e:Ending) (w':World):Prop:=match r with
  | .ok (x,l')=>∃j',e= .returned (.tuple #[.agg #[.string x.f0,.bool x.f1,.int .i64 x.f2],.nilIface])∧At E w' j' 0 l'∧Fr (fun i=>i=E.b) w w'
  | .error (t,p)=>∃f what u,e= .returned (.tuple #[u,faultV f])∧(∃x b a,u= .agg #[.string x,.bool b,.int .i64 a])∧FaultAt w' f (t:Int) (p:Int) what .nilIface∧w.heap.size≤f∧Fr (fun i=>i=E.b) w w'
theorem A3x {E:Env} {w:World} {j:Nat} {l:List Tk} (h:At E w j 0 l) (hj:j+1<E.ts.length):At E (w.setCell ⟨E.b,1,none⟩ (.int .i64 ((j:Int)+1))) (j+1) 0 (l.drop 1):=h.on hj
set_option maxHeartbeats 2000000 in
set_option maxRecDepth 100000 in
theorem decl_any {E:Env} {w:World} {j:Nat} {l:List Tk} (h:At E w j 0 l) (hs:isS l 0 [64]=true):
    Calls Tryz.prog 52 #[.pointer (some ⟨E.b,0,none⟩)] w (DeclPost E w (declP l)):=by
  have HR:=hid (h.alloc declZ)
  have H:=hid h
  have lb:=h.lb
  have lg:=h.lg
  have ra:=run_at
  have hlen:=E.len
  have hlt:=h.lt
  have hx1:=h.sign hs
  have hj:j+2≤30002:=by omega
  have HP0:=hid (peek_any HR.out 0 (by decide))
  obtain ⟨p0,hp0⟩:∃n:Int,((pk l 0).start:Int)=n:=⟨_,rfl⟩
  rw [hp0] at HP0
  have HPs:=hid hp0
  obtain ⟨n1,hn1⟩:∃n:Int,((pk (l.drop 1) 0).num:Int)=n:=⟨_,rfl⟩
  obtain ⟨p1,hp1⟩:∃n:Int,((pk (l.drop 1) 0).start:Int)=n:=⟨_,rfl⟩
  obtain ⟨x1,hx⟩:∃x,bL (pk (l.drop 1) 0).text=x:=⟨_,rfl⟩
  obtain ⟨a1,ha1⟩:∃n:Int,((pk (l.drop 1) 0).kind:Int)=n:=⟨_,rfl⟩
  have HT0:=hid (And.intro ha1 (And.intro hx (And.intro hn1 hp1)))
  by_cases h1:(pk (l.drop 1) 0).kind=1
  · obtain rfl : (1 : Int) = a1 := by omega
    have hnx:j+2<E.ts.length:=by
      have:=(A3x h hx1).next (by rw [h1];decide)
      omega
    by_cases hmin:(pk (l.drop 1) 0).text=minL
    · obtain rfl : (⟨#[109, 105, 110]⟩ : ByteArray) = x1 := by rw [← hx, hmin]; rfl
      have HN:Hid (declC (l.drop 1)=bnd nameP (fun s=>bnd (wantP [46]) (fun _ l'=> .ok ((s,false),l'))) ((l.drop 1).drop 1)):=by
        show _=_
        rw [declC,if_pos ⟨h1,.inl hmin⟩,hmin]
        rfl
      clear h h1 hmin hp0 hn1 hp1 hx ha1 hlt hs
      go_enter Tryz.func52,Tryz.ntmps52
      go_wp2_with fail
      refine HP0.out.mono ?_
      rintro e w2 ⟨rfl,hb2⟩
      have HB2:=hid hb2
      have s2:=hb2.size
      simp at s2
      have A2:=hid ((HR.out.below hb2).alloc (declA p0))
      have kr2:Hid ((w2.alloc (declA p0)).heap[w.heap.size]? =some declZ):=by
        show _=_
        rw [Below.heap_alloc _ _ _ (by omega),hb2.block _ (by simp),heap_alloc_new]
      have ko2:Hid ((w2.alloc (declA p0)).heap[w2.heap.size]? =some (declA p0)):=heap_alloc_new w2 _
      have F2:Hid (Fr (fun i=>i=E.b) w (w2.alloc (declA p0))):=((((Fr.refl _ w).alloc declZ).old hb2).alloc _)
      obtain ⟨c1,g1⟩:=A2.out.c1
      have A3:Hid (At E ((w2.alloc (declA p0)).setCell ⟨E.b,1,none⟩ (.int .i64 ((j:Int)+1))) (j+1) 0 (l.drop 1)):=A2.out.on hx1
      have G3:Fr (fun i=>i=E.b) (w2.alloc (declA p0)) ((w2.alloc (declA p0)).setCell ⟨E.b,1,none⟩ (.int .i64 ((j:Int)+1))):=Fr.putF (F:=fun i=>i=E.b) (Fr.refl _ _) _ rfl _
      have F3:Hid (Fr (fun i=>i=E.b) w ((w2.alloc (declA p0)).setCell ⟨E.b,1,none⟩ (.int .i64 ((j:Int)+1)))):=F2.out.trans G3 (fun i _ e=>e)
      have kr3:Hid (((w2.alloc (declA p0)).setCell ⟨E.b,1,none⟩ (.int .i64 ((j:Int)+1))).heap[w.heap.size]? =some declZ):=(G3.block _ (Go.Proofs.YtjlnpdpkobpkiaaGreatDoor.blk_lt kr2.out) (by omega)).trans kr2.out
      have ko3:Hid (((w2.alloc (declA p0)).setCell ⟨E.b,1,none⟩ (.int .i64 ((j:Int)+1))).heap[w2.heap.size]? =some (declA p0)):=(G3.block _ (Go.Proofs.YtjlnpdpkobpkiaaGreatDoor.blk_lt ko2.out) (by omega)).trans ko2.out
      have z3:((w2.alloc (declA p0)).setCell ⟨E.b,1,none⟩ (.int .i64 ((j:Int)+1))).heap.size=w2.heap.size+1:=by simp [World.setCell]
      have HP1:=hid (peek_at A3.out 0 (by decide) HT0.out.1 HT0.out.2.1 HT0.out.2.2.1 HT0.out.2.2.2)
      clear hb2 G3
      go_wp2_with fail
      refine HP1.out.mono ?_
      rintro e w4 ⟨rfl,hb4⟩
      have s4:=hb4.size
      rw [z3] at s4
      have A4:=hid ((A3.out.below hb4).alloc (tokO 1 ⟨#[109,105,110]⟩ n1 p1))
      have kr4:Hid ((w4.alloc (tokO 1 ⟨#[109,105,110]⟩ n1 p1)).heap[w.heap.size]? =some declZ):=(Lib.alloc_old w4 _ _ (by omega)).trans ((hb4.block _ (Go.Proofs.YtjlnpdpkobpkiaaGreatDoor.blk_lt kr3.out)).trans kr3.out)
      have ko4:Hid ((w4.alloc (tokO 1 ⟨#[109,105,110]⟩ n1 p1)).heap[w2.heap.size]? =some (declA p0)):=(Lib.alloc_old w4 _ _ (by omega)).trans ((hb4.block _ (Go.Proofs.YtjlnpdpkobpkiaaGreatDoor.blk_lt ko3.out)).trans ko3.out)
      have F4:Hid (Fr (fun i=>i=E.b) w (w4.alloc (tokO 1 ⟨#[109,105,110]⟩ n1 p1))):=(F3.out.old hb4).alloc _
      have z4:(w4.alloc (tokO 1 ⟨#[109,105,110]⟩ n1 p1)).heap.size=w4.heap.size+1:=by simp
      clear hb4 c1 g1
      obtain ⟨c1,g1⟩:=A4.out.c1
      have A5:Hid (At E ((w4.alloc (tokO 1 ⟨#[109,105,110]⟩ n1 p1)).setCell ⟨E.b,1,none⟩ (.int .i64 ((j:Int)+1+1))) (j+1+1) 0 ((l.drop 1).drop 1)):=A4.out.onk 1 _ (by omega) (by omega)
      have G5:Fr (fun i=>i=E.b) (w4.alloc (tokO 1 ⟨#[109,105,110]⟩ n1 p1)) ((w4.alloc (tokO 1 ⟨#[109,105,110]⟩ n1 p1)).setCell ⟨E.b,1,none⟩ (.int .i64 ((j:Int)+1+1))):=Fr.putF (F:=fun i=>i=E.b) (Fr.refl _ _) _ rfl _
      have F5:Hid (Fr (fun i=>i=E.b) w ((w4.alloc (tokO 1 ⟨#[109,105,110]⟩ n1 p1)).setCell ⟨E.b,1,none⟩ (.int .i64 ((j:Int)+1+1)))):=F4.out.trans G5 (fun i _ e=>e)
      have kr5:Hid (((w4.alloc (tokO 1 ⟨#[109,105,110]⟩ n1 p1)).setCell ⟨E.b,1,none⟩ (.int .i64 ((j:Int)+1+1))).heap[w.heap.size]? =some declZ):=(G5.block _ (Go.Proofs.YtjlnpdpkobpkiaaGreatDoor.blk_lt kr4.out) (by omega)).trans kr4.out
      have ko5:Hid (((w4.alloc (tokO 1 ⟨#[109,105,110]⟩ n1 p1)).setCell ⟨E.b,1,none⟩ (.int .i64 ((j:Int)+1+1))).heap[w2.heap.size]? =some (declA p0)):=(G5.block _ (Go.Proofs.YtjlnpdpkobpkiaaGreatDoor.blk_lt ko4.out) (by omega)).trans ko4.out
      have kt5:Hid (((w4.alloc (tokO 1 ⟨#[109,105,110]⟩ n1 p1)).setCell ⟨E.b,1,none⟩ (.int .i64 ((j:Int)+1+1))).heap[w4.heap.size]? =some (tokO 1 ⟨#[109,105,110]⟩ n1 p1)):=(G5.block _ (by rw [z4];omega) (by omega)).trans (heap_alloc_new w4 _)
      have z5:((w4.alloc (tokO 1 ⟨#[109,105,110]⟩ n1 p1)).setCell ⟨E.b,1,none⟩ (.int .i64 ((j:Int)+1+1))).heap.size=w4.heap.size+1:=by simp [World.setCell]
      have HV:=hid (name_any A5.out)
      clear G5
      go_wp2_with fail
      refine HV.out.mono ?_
      intro e w6 hp
      cases hr:nameP ((l.drop 1).drop 1) with
      |error v=>
        obtain ⟨t,p⟩:=v
        have HQ:Hid (declP l= .error (t,p)):=by
          show _=_
          have hc:declC (l.drop 1)= .error (t,p):=by rw [HN.out];unfold bnd;rw [hr]
          unfold declP
          rw [hc]
        rw [hr] at hp
        obtain ⟨f,what,rfl,hFa,hlf,hF⟩:=hp
        have K:=hid (And.intro hFa hF)
        have s6:=hF.size
        rw [z5] at s6 hlf
        obtain ⟨r0,r1,r2,q0,q1,q2⟩:=blk3 ((hF.block _ (Go.Proofs.YtjlnpdpkobpkiaaGreatDoor.blk_lt kr5.out) (by omega)).trans kr5.out)
        obtain ⟨o0,o1,o2,_⟩:=blk3 ((hF.block _ (Go.Proofs.YtjlnpdpkobpkiaaGreatDoor.blk_lt ko5.out) (by omega)).trans ko5.out)
        clear hFa hF hr c1 g1
        go_wp2
        refine bodyPost_ret (v:= .tuple #[.agg #[.string ⟨#[]⟩,.bool false,.int .i64 p0],faultV f]) (by simp [results,Tryz.results52,go_sem,r0,r1,r2]) rfl ?_
        rw [HQ.out]
        refine ⟨f,what,_,rfl,⟨_,_,_,rfl⟩,?_,by omega,?_⟩
        · exact K.out.1.put3 (by omega)
        · exact (F5.out.trans K.out.2 (fun i _ e=>e)).put3 (Nat.le_refl _)
      |ok v=>
        obtain ⟨s,l6⟩:=v
        have HL:Hid (declC (l.drop 1)=bnd (wantP [46]) (fun _ l'=> .ok ((s,false),l')) l6):=by show _=_;rw [HN.out,bnd,hr]
        rw [hr] at hp
        obtain ⟨j6,rfl,hA,hF⟩:=hp
        have s6:=hF.size
        rw [z5] at s6
        have kr6:Hid (w6.heap[w.heap.size]? =some declZ):=(hF.block _ (Go.Proofs.YtjlnpdpkobpkiaaGreatDoor.blk_lt kr5.out) (by omega)).trans kr5.out
        have ko6:=(hF.block _ (Go.Proofs.YtjlnpdpkobpkiaaGreatDoor.blk_lt ko5.out) (by omega)).trans ko5.out
        have kt6:=(hF.block _ (Go.Proofs.YtjlnpdpkobpkiaaGreatDoor.blk_lt kt5.out) (by omega)).trans kt5.out
        have F6:Hid (Fr (fun i=>i=E.b) w w6):=F5.out.trans hF (fun i _ e=>e)
        have A6:=hid hA
        obtain ⟨o0,o1,o2,x0,x1,x2⟩:=blk3 ko6
        obtain ⟨_,t1,_⟩:=blk4 kt6
        have KO6:=hid ko6
        have d1:w2.heap.size≠w4.heap.size:=by omega
        have d2:w4.heap.size≠w2.heap.size:=by omega
        clear hA hF hr c1 g1 ko6 kt6
        go_wp2_with fail
        go_region
        go_wp2_with fail
        have G7:Hid (Fr (fun i=>i=w2.heap.size) w6 ((w6.setCell ⟨w2.heap.size,0,none⟩ (.string (bL s))).setCell ⟨w2.heap.size,1,none⟩ (.bool false)).drew):=hid (Fr.drew (Fr.putF (F:=fun i=>i=w2.heap.size) (Fr.putF (F:=fun i=>i=w2.heap.size) (Fr.refl _ w6) _ rfl _) _ rfl _))
        have KO7:Hid (((w6.setCell ⟨w2.heap.size,0,none⟩ (.string (bL s))).setCell ⟨w2.heap.size,1,none⟩ (.bool false)).drew.heap[w2.heap.size]? =some (.cells #[.string (bL s),.bool false,.int .i64 p0] 126 (0,0))):=by
          have h1:=Go.Proofs.YtjlnpdpkobpkiaaGreatDoor.blk_set (o:=0) KO6.out (.string (bL s))
          have h2:=Go.Proofs.YtjlnpdpkobpkiaaGreatDoor.blk_set (o:=1) h1 (.bool false)
          show _=_
          rw [drew_heap,h2]
          simp
        clear o0 o1 o2 x0 x1 x2 t1
        generalize ((w6.setCell ⟨w2.heap.size,0,none⟩ (.string (bL s))).setCell ⟨w2.heap.size,1,none⟩ (.bool false)).drew=W7 at G7 KO7 ⊢
        have A7:=hid (A6.out.keep G7.out (by omega) (by omega))
        have kr7:Hid (W7.heap[w.heap.size]? =some declZ):=(G7.out.block _ (Go.Proofs.YtjlnpdpkobpkiaaGreatDoor.blk_lt kr6.out) (by omega)).trans kr6.out
        have F7:Hid (Fr (fun i=>i=E.b) w W7):=F6.out.trans G7.out (fun i hi e=>by omega)
        have s7:=G7.out.size
        have F0:Fr (fun _=>False) W7 W7.drew:=(Fr.refl _ _).drew
        have F0b:Fr (fun i=>i=E.b) W7 W7.drew:=(Fr.refl _ _).drew
        obtain ⟨o0,o1,o2,_⟩:=blk3 KO7.out
        cases hr2:wantP [46] l6 with
        |error v=>
          obtain ⟨t,p⟩:=v
          have HQ:Hid (declP l= .error (t,p)):=by
            show _=_
            have hc:declC (l.drop 1)= .error (t,p):=by rw [HL.out];unfold bnd;rw [hr2]
            unfold declP
            rw [hc]
          have HWt:Hid (∀W,Fr (fun _=>False) W7 W→Calls Tryz.prog 83 #[.pointer (some ⟨E.b,0,none⟩),.string ⟨#[46]⟩] W (WantPost E W 0 (.error (t,p)))):=fun W hW=>by
            have:=want_any (A7.out.keep hW (fun f=>f) (fun f=>f)) [46]
            rw [hr2] at this
            exact this
          clear hr2
          go_region_with (go_at_call 83;refine (HWt.out _ F0).mono ?_;rintro e w8 ⟨f,what,rfl,hFa8,hlf8,hF8⟩;have F1':Fr (fun i=>i=E.b) W7 w8:=F0b.trans hF8 (fun i _ e=>e);obtain ⟨r0,r1,r2,q0,q1,q2⟩:=blk3 ((F1'.block _ (Go.Proofs.YtjlnpdpkobpkiaaGreatDoor.blk_lt kr7.out) (by omega)).trans kr7.out);obtain ⟨v0,v1,v2,_⟩:=blk3 ((F1'.block _ (Go.Proofs.YtjlnpdpkobpkiaaGreatDoor.blk_lt KO7.out) (by omega)).trans KO7.out))
          all_goals
           have K8:=hid (And.intro hFa8 F1')
           clear hFa8 hF8
           go_wp2
           refine bodyPost_ret (v:= .tuple #[.agg #[.string (bL s),.bool false,.int .i64 p0],faultV f]) (by simp [results,Tryz.results52,go_sem,r0,r1,r2]) rfl ?_
           rw [HQ.out]
           rw [show W7.drew.heap.size=W7.heap.size from rfl] at hlf8
           refine ⟨f,what,_,rfl,⟨_,_,_,rfl⟩,?_,by omega,?_⟩
           · exact K8.out.1.put3 (by omega)
           · exact (F7.out.trans K8.out.2 (fun i _ e=>e)).put3 (Nat.le_refl _)
        |ok v=>
          obtain ⟨u8,l8⟩:=v
          have HQ:Hid (declP l= .ok (⟨bL s,false,p0⟩,l8)):=by
            show _=_
            have hc:declC (l.drop 1)= .ok ((s,false),l8):=by rw [HL.out];unfold bnd;rw [hr2]
            unfold declP
            rw [hc]
            simp only
            rw [HPs.out]
          have HWt:Hid (∀W,Fr (fun _=>False) W7 W→Calls Tryz.prog 83 #[.pointer (some ⟨E.b,0,none⟩),.string ⟨#[46]⟩] W (WantPost E W 0 (.ok (u8,l8)))):=fun W hW=>by
            have:=want_any (A7.out.keep hW (fun f=>f) (fun f=>f)) [46]
            rw [hr2] at this
            exact this
          clear hr2
          go_region_with (go_at_call 83;refine (HWt.out _ F0).mono ?_;rintro e w8 ⟨j8,rfl,hA8,hF8⟩;have F1':Fr (fun i=>i=E.b) W7 w8:=F0b.trans hF8 (fun i _ e=>e);obtain ⟨r0,r1,r2,q0,q1,q2⟩:=blk3 ((F1'.block _ (Go.Proofs.YtjlnpdpkobpkiaaGreatDoor.blk_lt kr7.out) (by omega)).trans kr7.out);obtain ⟨v0,v1,v2,_⟩:=blk3 ((F1'.block _ (Go.Proofs.YtjlnpdpkobpkiaaGreatDoor.blk_lt KO7.out) (by omega)).trans KO7.out))
          all_goals
           have K8:=hid (And.intro hA8 F1')
           clear hA8 hF8
           go_wp2
           refine bodyPost_ret (v:= .tuple #[.agg #[.string (bL s),.bool false,.int .i64 p0],.nilIface]) (by simp [results,Tryz.results52,go_sem,r0,r1,r2]) rfl ?_
           rw [HQ.out]
           refine ⟨j8,rfl,?_,?_⟩
           · exact K8.out.1.put3 (by omega) (by omega)
           · exact (F7.out.trans K8.out.2 (fun i _ e=>e)).put3 (Nat.le_refl _)
    · by_cases hmax : (pk (l.drop 1) 0).text = maxL
      · obtain rfl : (⟨#[109, 97, 120]⟩ : ByteArray) = x1 := by rw [← hx, hmax]; rfl
        have HN:Hid (declC (l.drop 1)=bnd nameP (fun s=>bnd (wantP [46]) (fun _ l'=> .ok ((s,true),l'))) ((l.drop 1).drop 1)):=by
          show _=_
          rw [declC,if_pos ⟨h1,.inr hmax⟩,hmax]
          rfl
        clear h h1 hmin hmax hp0 hn1 hp1 hx ha1 hlt hs
        go_enter Tryz.func52,Tryz.ntmps52
        go_wp2_with fail
        refine HP0.out.mono ?_
        rintro e w2 ⟨rfl,hb2⟩
        have HB2:=hid hb2
        have s2:=hb2.size
        simp at s2
        have A2:=hid ((HR.out.below hb2).alloc (declA p0))
        have kr2:Hid ((w2.alloc (declA p0)).heap[w.heap.size]? =some declZ):=by
          show _=_
          rw [Below.heap_alloc _ _ _ (by omega),hb2.block _ (by simp),heap_alloc_new]
        have ko2:Hid ((w2.alloc (declA p0)).heap[w2.heap.size]? =some (declA p0)):=heap_alloc_new w2 _
        have F2:Hid (Fr (fun i=>i=E.b) w (w2.alloc (declA p0))):=((((Fr.refl _ w).alloc declZ).old hb2).alloc _)
        obtain ⟨c1,g1⟩:=A2.out.c1
        have A3:Hid (At E ((w2.alloc (declA p0)).setCell ⟨E.b,1,none⟩ (.int .i64 ((j:Int)+1))) (j+1) 0 (l.drop 1)):=A2.out.on hx1
        have G3:Fr (fun i=>i=E.b) (w2.alloc (declA p0)) ((w2.alloc (declA p0)).setCell ⟨E.b,1,none⟩ (.int .i64 ((j:Int)+1))):=Fr.putF (F:=fun i=>i=E.b) (Fr.refl _ _) _ rfl _
        have F3:Hid (Fr (fun i=>i=E.b) w ((w2.alloc (declA p0)).setCell ⟨E.b,1,none⟩ (.int .i64 ((j:Int)+1)))):=F2.out.trans G3 (fun i _ e=>e)
        have kr3:Hid (((w2.alloc (declA p0)).setCell ⟨E.b,1,none⟩ (.int .i64 ((j:Int)+1))).heap[w.heap.size]? =some declZ):=(G3.block _ (Go.Proofs.YtjlnpdpkobpkiaaGreatDoor.blk_lt kr2.out) (by omega)).trans kr2.out
        have ko3:Hid (((w2.alloc (declA p0)).setCell ⟨E.b,1,none⟩ (.int .i64 ((j:Int)+1))).heap[w2.heap.size]? =some (declA p0)):=(G3.block _ (Go.Proofs.YtjlnpdpkobpkiaaGreatDoor.blk_lt ko2.out) (by omega)).trans ko2.out
        have z3:((w2.alloc (declA p0)).setCell ⟨E.b,1,none⟩ (.int .i64 ((j:Int)+1))).heap.size=w2.heap.size+1:=by simp [World.setCell]
        have HP1:=hid (peek_at A3.out 0 (by decide) HT0.out.1 HT0.out.2.1 HT0.out.2.2.1 HT0.out.2.2.2)
        clear hb2 G3
        go_wp2_with fail
        refine HP1.out.mono ?_
        rintro e w4 ⟨rfl,hb4⟩
        have s4:=hb4.size
        rw [z3] at s4
        have A4:=hid ((A3.out.below hb4).alloc (tokO 1 ⟨#[109,97,120]⟩ n1 p1))
        have kr4:Hid ((w4.alloc (tokO 1 ⟨#[109,97,120]⟩ n1 p1)).heap[w.heap.size]? =some declZ):=(Lib.alloc_old w4 _ _ (by omega)).trans ((hb4.block _ (Go.Proofs.YtjlnpdpkobpkiaaGreatDoor.blk_lt kr3.out)).trans kr3.out)
        have ko4:Hid ((w4.alloc (tokO 1 ⟨#[109,97,120]⟩ n1 p1)).heap[w2.heap.size]? =some (declA p0)):=(Lib.alloc_old w4 _ _ (by omega)).trans ((hb4.block _ (Go.Proofs.YtjlnpdpkobpkiaaGreatDoor.blk_lt ko3.out)).trans ko3.out)
        have F4:Hid (Fr (fun i=>i=E.b) w (w4.alloc (tokO 1 ⟨#[109,97,120]⟩ n1 p1))):=(F3.out.old hb4).alloc _
        have z4:(w4.alloc (tokO 1 ⟨#[109,97,120]⟩ n1 p1)).heap.size=w4.heap.size+1:=by simp
        clear hb4 c1 g1
        obtain ⟨c1,g1⟩:=A4.out.c1
        have A5:Hid (At E ((w4.alloc (tokO 1 ⟨#[109,97,120]⟩ n1 p1)).setCell ⟨E.b,1,none⟩ (.int .i64 ((j:Int)+1+1))) (j+1+1) 0 ((l.drop 1).drop 1)):=A4.out.onk 1 _ (by omega) (by omega)
        have G5:Fr (fun i=>i=E.b) (w4.alloc (tokO 1 ⟨#[109,97,120]⟩ n1 p1)) ((w4.alloc (tokO 1 ⟨#[109,97,120]⟩ n1 p1)).setCell ⟨E.b,1,none⟩ (.int .i64 ((j:Int)+1+1))):=Fr.putF (F:=fun i=>i=E.b) (Fr.refl _ _) _ rfl _
        have F5:Hid (Fr (fun i=>i=E.b) w ((w4.alloc (tokO 1 ⟨#[109,97,120]⟩ n1 p1)).setCell ⟨E.b,1,none⟩ (.int .i64 ((j:Int)+1+1)))):=F4.out.trans G5 (fun i _ e=>e)
        have kr5:Hid (((w4.alloc (tokO 1 ⟨#[109,97,120]⟩ n1 p1)).setCell ⟨E.b,1,none⟩ (.int .i64 ((j:Int)+1+1))).heap[w.heap.size]? =some declZ):=(G5.block _ (Go.Proofs.YtjlnpdpkobpkiaaGreatDoor.blk_lt kr4.out) (by omega)).trans kr4.out
        have ko5:Hid (((w4.alloc (tokO 1 ⟨#[109,97,120]⟩ n1 p1)).setCell ⟨E.b,1,none⟩ (.int .i64 ((j:Int)+1+1))).heap[w2.heap.size]? =some (declA p0)):=(G5.block _ (Go.Proofs.YtjlnpdpkobpkiaaGreatDoor.blk_lt ko4.out) (by omega)).trans ko4.out
        have kt5:Hid (((w4.alloc (tokO 1 ⟨#[109,97,120]⟩ n1 p1)).setCell ⟨E.b,1,none⟩ (.int .i64 ((j:Int)+1+1))).heap[w4.heap.size]? =some (tokO 1 ⟨#[109,97,120]⟩ n1 p1)):=(G5.block _ (by rw [z4];omega) (by omega)).trans (heap_alloc_new w4 _)
        have z5:((w4.alloc (tokO 1 ⟨#[109,97,120]⟩ n1 p1)).setCell ⟨E.b,1,none⟩ (.int .i64 ((j:Int)+1+1))).heap.size=w4.heap.size+1:=by simp [World.setCell]
        have HV:=hid (name_any A5.out)
        clear G5
        go_wp2_with fail
        refine HV.out.mono ?_
        intro e w6 hp
        cases hr:nameP ((l.drop 1).drop 1) with
        |error v=>
          obtain ⟨t,p⟩:=v
          have HQ:Hid (declP l= .error (t,p)):=by
            show _=_
            have hc:declC (l.drop 1)= .error (t,p):=by rw [HN.out];unfold bnd;rw [hr]
            unfold declP
            rw [hc]
          rw [hr] at hp
          obtain ⟨f,what,rfl,hFa,hlf,hF⟩:=hp
          have K:=hid (And.intro hFa hF)
          have s6:=hF.size
          rw [z5] at s6 hlf
          obtain ⟨r0,r1,r2,q0,q1,q2⟩:=blk3 ((hF.block _ (Go.Proofs.YtjlnpdpkobpkiaaGreatDoor.blk_lt kr5.out) (by omega)).trans kr5.out)
          obtain ⟨o0,o1,o2,_⟩:=blk3 ((hF.block _ (Go.Proofs.YtjlnpdpkobpkiaaGreatDoor.blk_lt ko5.out) (by omega)).trans ko5.out)
          clear hFa hF hr c1 g1
          go_wp2
          refine bodyPost_ret (v:= .tuple #[.agg #[.string ⟨#[]⟩,.bool false,.int .i64 p0],faultV f]) (by simp [results,Tryz.results52,go_sem,r0,r1,r2]) rfl ?_
          rw [HQ.out]
          refine ⟨f,what,_,rfl,⟨_,_,_,rfl⟩,?_,by omega,?_⟩
          · exact K.out.1.put3 (by omega)
          · exact (F5.out.trans K.out.2 (fun i _ e=>e)).put3 (Nat.le_refl _)
        |ok v=>
          obtain ⟨s,l6⟩:=v
          have HL:Hid (declC (l.drop 1)=bnd (wantP [46]) (fun _ l'=> .ok ((s,true),l')) l6):=by show _=_;rw [HN.out,bnd,hr]
          rw [hr] at hp
          obtain ⟨j6,rfl,hA,hF⟩:=hp
          have s6:=hF.size
          rw [z5] at s6
          have kr6:Hid (w6.heap[w.heap.size]? =some declZ):=(hF.block _ (Go.Proofs.YtjlnpdpkobpkiaaGreatDoor.blk_lt kr5.out) (by omega)).trans kr5.out
          have ko6:=(hF.block _ (Go.Proofs.YtjlnpdpkobpkiaaGreatDoor.blk_lt ko5.out) (by omega)).trans ko5.out
          have kt6:=(hF.block _ (Go.Proofs.YtjlnpdpkobpkiaaGreatDoor.blk_lt kt5.out) (by omega)).trans kt5.out
          have F6:Hid (Fr (fun i=>i=E.b) w w6):=F5.out.trans hF (fun i _ e=>e)
          have A6:=hid hA
          obtain ⟨o0,o1,o2,x0,x1,x2⟩:=blk3 ko6
          obtain ⟨_,t1,_⟩:=blk4 kt6
          have KO6:=hid ko6
          have d1:w2.heap.size≠w4.heap.size:=by omega
          have d2:w4.heap.size≠w2.heap.size:=by omega
          clear hA hF hr c1 g1 ko6 kt6
          go_wp2_with fail
          go_region
          go_wp2_with fail
          have G7:Hid (Fr (fun i=>i=w2.heap.size) w6 ((w6.setCell ⟨w2.heap.size,0,none⟩ (.string (bL s))).setCell ⟨w2.heap.size,1,none⟩ (.bool true)).drew):=hid (Fr.drew (Fr.putF (F:=fun i=>i=w2.heap.size) (Fr.putF (F:=fun i=>i=w2.heap.size) (Fr.refl _ w6) _ rfl _) _ rfl _))
          have KO7:Hid (((w6.setCell ⟨w2.heap.size,0,none⟩ (.string (bL s))).setCell ⟨w2.heap.size,1,none⟩ (.bool true)).drew.heap[w2.heap.size]? =some (.cells #[.string (bL s),.bool true,.int .i64 p0] 126 (0,0))):=by
            have h1:=Go.Proofs.YtjlnpdpkobpkiaaGreatDoor.blk_set (o:=0) KO6.out (.string (bL s))
            have h2:=Go.Proofs.YtjlnpdpkobpkiaaGreatDoor.blk_set (o:=1) h1 (.bool true)
            show _=_
            rw [drew_heap,h2]
            simp
          clear o0 o1 o2 x0 x1 x2 t1
          generalize ((w6.setCell ⟨w2.heap.size,0,none⟩ (.string (bL s))).setCell ⟨w2.heap.size,1,none⟩ (.bool true)).drew=W7 at G7 KO7 ⊢
          have A7:=hid (A6.out.keep G7.out (by omega) (by omega))
          have kr7:Hid (W7.heap[w.heap.size]? =some declZ):=(G7.out.block _ (Go.Proofs.YtjlnpdpkobpkiaaGreatDoor.blk_lt kr6.out) (by omega)).trans kr6.out
          have F7:Hid (Fr (fun i=>i=E.b) w W7):=F6.out.trans G7.out (fun i hi e=>by omega)
          have s7:=G7.out.size
          have F0:Fr (fun _=>False) W7 W7.drew:=(Fr.refl _ _).drew
          have F0b:Fr (fun i=>i=E.b) W7 W7.drew:=(Fr.refl _ _).drew
          obtain ⟨o0,o1,o2,_⟩:=blk3 KO7.out
          cases hr2:wantP [46] l6 with
          |error v=>
            obtain ⟨t,p⟩:=v
            have HQ:Hid (declP l= .error (t,p)):=by
              show _=_
              have hc:declC (l.drop 1)= .error (t,p):=by rw [HL.out];unfold bnd;rw [hr2]
              unfold declP
              rw [hc]
            have HWt:Hid (∀W,Fr (fun _=>False) W7 W→Calls Tryz.prog 83 #[.pointer (some ⟨E.b,0,none⟩),.string ⟨#[46]⟩] W (WantPost E W 0 (.error (t,p)))):=fun W hW=>by
              have:=want_any (A7.out.keep hW (fun f=>f) (fun f=>f)) [46]
              rw [hr2] at this
              exact this
            clear hr2
            go_region_with (go_at_call 83;refine (HWt.out _ F0).mono ?_;rintro e w8 ⟨f,what,rfl,hFa8,hlf8,hF8⟩;have F1':Fr (fun i=>i=E.b) W7 w8:=F0b.trans hF8 (fun i _ e=>e);obtain ⟨r0,r1,r2,q0,q1,q2⟩:=blk3 ((F1'.block _ (Go.Proofs.YtjlnpdpkobpkiaaGreatDoor.blk_lt kr7.out) (by omega)).trans kr7.out);obtain ⟨v0,v1,v2,_⟩:=blk3 ((F1'.block _ (Go.Proofs.YtjlnpdpkobpkiaaGreatDoor.blk_lt KO7.out) (by omega)).trans KO7.out))
            all_goals
             have K8:=hid (And.intro hFa8 F1')
             clear hFa8 hF8
             go_wp2
             refine bodyPost_ret (v:= .tuple #[.agg #[.string (bL s),.bool true,.int .i64 p0],faultV f]) (by simp [results,Tryz.results52,go_sem,r0,r1,r2]) rfl ?_
             rw [HQ.out]
             rw [show W7.drew.heap.size=W7.heap.size from rfl] at hlf8
             refine ⟨f,what,_,rfl,⟨_,_,_,rfl⟩,?_,by omega,?_⟩
             · exact K8.out.1.put3 (by omega)
             · exact (F7.out.trans K8.out.2 (fun i _ e=>e)).put3 (Nat.le_refl _)
          |ok v=>
            obtain ⟨u8,l8⟩:=v
            have HQ:Hid (declP l= .ok (⟨bL s,true,p0⟩,l8)):=by
              show _=_
              have hc:declC (l.drop 1)= .ok ((s,true),l8):=by rw [HL.out];unfold bnd;rw [hr2]
              unfold declP
              rw [hc]
              simp only
              rw [HPs.out]
            have HWt:Hid (∀W,Fr (fun _=>False) W7 W→Calls Tryz.prog 83 #[.pointer (some ⟨E.b,0,none⟩),.string ⟨#[46]⟩] W (WantPost E W 0 (.ok (u8,l8)))):=fun W hW=>by
              have:=want_any (A7.out.keep hW (fun f=>f) (fun f=>f)) [46]
              rw [hr2] at this
              exact this
            clear hr2
            go_region_with (go_at_call 83;refine (HWt.out _ F0).mono ?_;rintro e w8 ⟨j8,rfl,hA8,hF8⟩;have F1':Fr (fun i=>i=E.b) W7 w8:=F0b.trans hF8 (fun i _ e=>e);obtain ⟨r0,r1,r2,q0,q1,q2⟩:=blk3 ((F1'.block _ (Go.Proofs.YtjlnpdpkobpkiaaGreatDoor.blk_lt kr7.out) (by omega)).trans kr7.out);obtain ⟨v0,v1,v2,_⟩:=blk3 ((F1'.block _ (Go.Proofs.YtjlnpdpkobpkiaaGreatDoor.blk_lt KO7.out) (by omega)).trans KO7.out))
            all_goals
             have K8:=hid (And.intro hA8 F1')
             clear hA8 hF8
             go_wp2
             refine bodyPost_ret (v:= .tuple #[.agg #[.string (bL s),.bool true,.int .i64 p0],.nilIface]) (by simp [results,Tryz.results52,go_sem,r0,r1,r2]) rfl ?_
             rw [HQ.out]
             refine ⟨j8,rfl,?_,?_⟩
             · exact K8.out.1.put3 (by omega) (by omega)
             · exact (F7.out.trans K8.out.2 (fun i _ e=>e)).put3 (Nat.le_refl _)
      · have hm1:(x1.toList==[109,105,110])=false:=by
          rw [←hx,ByteArray.toList_eq]
          exact beq_false_of_ne hmin
        have hm2:(x1.toList==[109,97,120])=false:=by
          rw [←hx,ByteArray.toList_eq]
          exact beq_false_of_ne hmax
        have HN:Hid (declC (l.drop 1)=bad 1 (l.drop 1)):=by
          show _=_
          rw [declC,if_neg (fun e=>by rcases e.2 with e|e;exact hmin e;exact hmax e)]
        clear h h1 hmin hmax hp0 hn1 hp1 hx ha1 hlt hs
        go_enter Tryz.func52,Tryz.ntmps52
        go_wp2_with fail
        refine HP0.out.mono ?_
        rintro e w2 ⟨rfl,hb2⟩
        have HB2:=hid hb2
        have s2:=hb2.size
        simp at s2
        have A2:=hid ((HR.out.below hb2).alloc (declA p0))
        have kr2:Hid ((w2.alloc (declA p0)).heap[w.heap.size]? =some declZ):=by
          show _=_
          rw [Below.heap_alloc _ _ _ (by omega),hb2.block _ (by simp),heap_alloc_new]
        have ko2:Hid ((w2.alloc (declA p0)).heap[w2.heap.size]? =some (declA p0)):=heap_alloc_new w2 _
        have F2:Hid (Fr (fun i=>i=E.b) w (w2.alloc (declA p0))):=((((Fr.refl _ w).alloc declZ).old hb2).alloc _)
        obtain ⟨c1,g1⟩:=A2.out.c1
        have A3:Hid (At E ((w2.alloc (declA p0)).setCell ⟨E.b,1,none⟩ (.int .i64 ((j:Int)+1))) (j+1) 0 (l.drop 1)):=A2.out.on hx1
        have G3:Fr (fun i=>i=E.b) (w2.alloc (declA p0)) ((w2.alloc (declA p0)).setCell ⟨E.b,1,none⟩ (.int .i64 ((j:Int)+1))):=Fr.putF (F:=fun i=>i=E.b) (Fr.refl _ _) _ rfl _
        have F3:Hid (Fr (fun i=>i=E.b) w ((w2.alloc (declA p0)).setCell ⟨E.b,1,none⟩ (.int .i64 ((j:Int)+1)))):=F2.out.trans G3 (fun i _ e=>e)
        have kr3:Hid (((w2.alloc (declA p0)).setCell ⟨E.b,1,none⟩ (.int .i64 ((j:Int)+1))).heap[w.heap.size]? =some declZ):=(G3.block _ (Go.Proofs.YtjlnpdpkobpkiaaGreatDoor.blk_lt kr2.out) (by omega)).trans kr2.out
        have ko3:Hid (((w2.alloc (declA p0)).setCell ⟨E.b,1,none⟩ (.int .i64 ((j:Int)+1))).heap[w2.heap.size]? =some (declA p0)):=(G3.block _ (Go.Proofs.YtjlnpdpkobpkiaaGreatDoor.blk_lt ko2.out) (by omega)).trans ko2.out
        have z3:((w2.alloc (declA p0)).setCell ⟨E.b,1,none⟩ (.int .i64 ((j:Int)+1))).heap.size=w2.heap.size+1:=by simp [World.setCell]
        have HP1:=hid (peek_at A3.out 0 (by decide) HT0.out.1 HT0.out.2.1 HT0.out.2.2.1 HT0.out.2.2.2)
        clear hb2 G3
        go_wp2_with fail
        refine HP1.out.mono ?_
        rintro e w4 ⟨rfl,hb4⟩
        have s4:=hb4.size
        rw [z3] at s4
        have A4:=hid ((A3.out.below hb4).alloc (tokO 1 x1 n1 p1))
        have kr4:Hid ((w4.alloc (tokO 1 x1 n1 p1)).heap[w.heap.size]? =some declZ):=(Lib.alloc_old w4 _ _ (by omega)).trans ((hb4.block _ (Go.Proofs.YtjlnpdpkobpkiaaGreatDoor.blk_lt kr3.out)).trans kr3.out)
        have ko4:Hid ((w4.alloc (tokO 1 x1 n1 p1)).heap[w2.heap.size]? =some (declA p0)):=(Lib.alloc_old w4 _ _ (by omega)).trans ((hb4.block _ (Go.Proofs.YtjlnpdpkobpkiaaGreatDoor.blk_lt ko3.out)).trans ko3.out)
        have F4:Hid (Fr (fun i=>i=E.b) w (w4.alloc (tokO 1 x1 n1 p1))):=(F3.out.old hb4).alloc _
        have z4:(w4.alloc (tokO 1 x1 n1 p1)).heap.size=w4.heap.size+1:=by simp
        clear hb4 c1 g1
        have HQ:Hid (declP l= .error (1,(pk (l.drop 1) 0).start)):=by show _=_;unfold declP;rw [HN.out];rfl
        have HFl:Hid (∀W,Fr (fun _=>False) (w4.alloc (tokO 1 x1 n1 p1)) W→Calls Tryz.prog 50 #[.pointer (some ⟨E.b,0,none⟩),.int .i64 1,.string ⟨#[109,105,110]⟩] W (FailPost W 1 (pk (l.drop 1) 0).start)):=fun W hW=>fail_any (A4.out.keep hW (fun f=>f) (fun f=>f)) 1 _
        have F0:Fr (fun _=>False) (w4.alloc (tokO 1 x1 n1 p1)) (w4.alloc (tokO 1 x1 n1 p1)).drew:=(Fr.refl _ _).drew
        obtain ⟨o0,o1,o2,_⟩:=blk3 ko4.out
        go_wp2_with fail
        go_region_with (go_at_call 50;refine (HFl.out _ F0).mono ?_;rintro e w8 ⟨f,what,rfl,hFa8,hlf8,hb8⟩;have F1':Fr (fun _=>False) (w4.alloc (tokO 1 x1 n1 p1)) w8:=F0.old hb8;obtain ⟨r0,r1,r2,q0,q1,q2⟩:=blk3 ((F1'.block _ (Go.Proofs.YtjlnpdpkobpkiaaGreatDoor.blk_lt kr4.out) (fun h=>h)).trans kr4.out);obtain ⟨v0,v1,v2,_⟩:=blk3 ((F1'.block _ (Go.Proofs.YtjlnpdpkobpkiaaGreatDoor.blk_lt ko4.out) (fun h=>h)).trans ko4.out))
        all_goals
         have K8:=hid (And.intro hFa8 F1')
         clear hFa8 hb8
         go_wp2
         refine bodyPost_ret (v:= .tuple #[.agg #[.string ⟨#[]⟩,.bool false,.int .i64 p0],faultV f]) (by simp [results,Tryz.results52,go_sem,r0,r1,r2]) rfl ?_
         rw [HQ.out]
         rw [show (w4.alloc (tokO 1 x1 n1 p1)).drew.heap.size=(w4.alloc (tokO 1 x1 n1 p1)).heap.size from rfl,z4] at hlf8
         refine ⟨f,what,_,rfl,⟨_,_,_,rfl⟩,?_,by omega,?_⟩
         · exact K8.out.1.put3 (by omega)
         · exact (F4.out.trans K8.out.2 (fun i _ e=>e.elim)).put3 (Nat.le_refl _)
  · have ha2 : (a1 == 1) = false := beq_false_of_ne (by omega)
    have ha3:¬a1=1:=by omega
    have HN:Hid (declC (l.drop 1)=bad 1 (l.drop 1)):=by show _=_;rw [declC,if_neg (fun e=>h1 e.1)]
    clear h h1 hp0 hn1 hp1 hx ha1 hlt hs
    go_enter Tryz.func52,Tryz.ntmps52
    go_wp2_with fail
    refine HP0.out.mono ?_
    rintro e w2 ⟨rfl,hb2⟩
    have HB2:=hid hb2
    have s2:=hb2.size
    simp at s2
    have A2:=hid ((HR.out.below hb2).alloc (declA p0))
    have kr2:Hid ((w2.alloc (declA p0)).heap[w.heap.size]? =some declZ):=by
      show _=_
      rw [Below.heap_alloc _ _ _ (by omega),hb2.block _ (by simp),heap_alloc_new]
    have ko2:Hid ((w2.alloc (declA p0)).heap[w2.heap.size]? =some (declA p0)):=heap_alloc_new w2 _
    have F2:Hid (Fr (fun i=>i=E.b) w (w2.alloc (declA p0))):=((((Fr.refl _ w).alloc declZ).old hb2).alloc _)
    obtain ⟨c1,g1⟩:=A2.out.c1
    have A3:Hid (At E ((w2.alloc (declA p0)).setCell ⟨E.b,1,none⟩ (.int .i64 ((j:Int)+1))) (j+1) 0 (l.drop 1)):=A2.out.on hx1
    have G3:Fr (fun i=>i=E.b) (w2.alloc (declA p0)) ((w2.alloc (declA p0)).setCell ⟨E.b,1,none⟩ (.int .i64 ((j:Int)+1))):=Fr.putF (F:=fun i=>i=E.b) (Fr.refl _ _) _ rfl _
    have F3:Hid (Fr (fun i=>i=E.b) w ((w2.alloc (declA p0)).setCell ⟨E.b,1,none⟩ (.int .i64 ((j:Int)+1)))):=F2.out.trans G3 (fun i _ e=>e)
    have kr3:Hid (((w2.alloc (declA p0)).setCell ⟨E.b,1,none⟩ (.int .i64 ((j:Int)+1))).heap[w.heap.size]? =some declZ):=(G3.block _ (Go.Proofs.YtjlnpdpkobpkiaaGreatDoor.blk_lt kr2.out) (by omega)).trans kr2.out
    have ko3:Hid (((w2.alloc (declA p0)).setCell ⟨E.b,1,none⟩ (.int .i64 ((j:Int)+1))).heap[w2.heap.size]? =some (declA p0)):=(G3.block _ (Go.Proofs.YtjlnpdpkobpkiaaGreatDoor.blk_lt ko2.out) (by omega)).trans ko2.out
    have z3:((w2.alloc (declA p0)).setCell ⟨E.b,1,none⟩ (.int .i64 ((j:Int)+1))).heap.size=w2.heap.size+1:=by simp [World.setCell]
    have HP1:=hid (peek_at A3.out 0 (by decide) HT0.out.1 HT0.out.2.1 HT0.out.2.2.1 HT0.out.2.2.2)
    clear hb2 G3
    go_wp2_with fail
    refine HP1.out.mono ?_
    rintro e w4 ⟨rfl,hb4⟩
    have s4:=hb4.size
    rw [z3] at s4
    have A4:=hid ((A3.out.below hb4).alloc (tokO a1 x1 n1 p1))
    have kr4:Hid ((w4.alloc (tokO a1 x1 n1 p1)).heap[w.heap.size]? =some declZ):=(Lib.alloc_old w4 _ _ (by omega)).trans ((hb4.block _ (Go.Proofs.YtjlnpdpkobpkiaaGreatDoor.blk_lt kr3.out)).trans kr3.out)
    have ko4:Hid ((w4.alloc (tokO a1 x1 n1 p1)).heap[w2.heap.size]? =some (declA p0)):=(Lib.alloc_old w4 _ _ (by omega)).trans ((hb4.block _ (Go.Proofs.YtjlnpdpkobpkiaaGreatDoor.blk_lt ko3.out)).trans ko3.out)
    have F4:Hid (Fr (fun i=>i=E.b) w (w4.alloc (tokO a1 x1 n1 p1))):=(F3.out.old hb4).alloc _
    have z4:(w4.alloc (tokO a1 x1 n1 p1)).heap.size=w4.heap.size+1:=by simp
    clear hb4 c1 g1
    have HQ:Hid (declP l= .error (1,(pk (l.drop 1) 0).start)):=by show _=_;unfold declP;rw [HN.out];rfl
    have HFl:Hid (∀W,Fr (fun _=>False) (w4.alloc (tokO a1 x1 n1 p1)) W→Calls Tryz.prog 50 #[.pointer (some ⟨E.b,0,none⟩),.int .i64 1,.string ⟨#[109,105,110]⟩] W (FailPost W 1 (pk (l.drop 1) 0).start)):=fun W hW=>fail_any (A4.out.keep hW (fun f=>f) (fun f=>f)) 1 _
    have F0:Fr (fun _=>False) (w4.alloc (tokO a1 x1 n1 p1)) (w4.alloc (tokO a1 x1 n1 p1)).drew:=(Fr.refl _ _).drew
    obtain ⟨o0,o1,o2,_⟩:=blk3 ko4.out
    go_wp2_with fail
    go_region_with (go_at_call 50;refine (HFl.out _ F0).mono ?_;rintro e w8 ⟨f,what,rfl,hFa8,hlf8,hb8⟩;have F1':Fr (fun _=>False) (w4.alloc (tokO a1 x1 n1 p1)) w8:=F0.old hb8;obtain ⟨r0,r1,r2,q0,q1,q2⟩:=blk3 ((F1'.block _ (Go.Proofs.YtjlnpdpkobpkiaaGreatDoor.blk_lt kr4.out) (fun h=>h)).trans kr4.out);obtain ⟨v0,v1,v2,_⟩:=blk3 ((F1'.block _ (Go.Proofs.YtjlnpdpkobpkiaaGreatDoor.blk_lt ko4.out) (fun h=>h)).trans ko4.out))
    all_goals
     have K8:=hid (And.intro hFa8 F1')
     clear hFa8 hb8
     go_wp2
     refine bodyPost_ret (v:= .tuple #[.agg #[.string ⟨#[]⟩,.bool false,.int .i64 p0],faultV f]) (by simp [results,Tryz.results52,go_sem,r0,r1,r2]) rfl ?_
     rw [HQ.out]
     rw [show (w4.alloc (tokO a1 x1 n1 p1)).drew.heap.size=(w4.alloc (tokO a1 x1 n1 p1)).heap.size from rfl,z4] at hlf8
     refine ⟨f,what,_,rfl,⟨_,_,_,rfl⟩,?_,by omega,?_⟩
     · exact K8.out.1.put3 (by omega)
     · exact (F4.out.trans K8.out.2 (fun i _ e=>e.elim)).put3 (Nat.le_refl _)
end Go.Proofs.YtjlnpdpkobpkiaaGreatDoorPSP
