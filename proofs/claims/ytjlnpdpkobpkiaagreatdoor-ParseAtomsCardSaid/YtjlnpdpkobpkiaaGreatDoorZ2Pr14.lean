import Derived.Test.YtjlnpdpkobpkiaaGreatDoorZ2Pr11
set_option linter.unusedVariables false
set_option linter.unusedSimpArgs false
namespace Go.Proofs.YtjlnpdpkobpkiaaGreatDoorPSP
open Go.RowKit Go.Extern.Stop Go.Stop Go.Extern Go.Proofs.YtjlnpdpkobpkiaaGreatDoorW.PrintWords Go.Proofs.YtjlnpdpkobpkiaaGreatDoor
theorem enter_unit (args:Array Value) (w:World):(callFunc 132 args).run Tryz.prog w= .ok (.enter 132 args) w:=enters_of Tryz.func132 (by kernel_rfl) rfl args w
theorem enter_product (args:Array Value) (w:World):(callFunc 122 args).run Tryz.prog w= .ok (.enter 122 args) w:=enters_of Tryz.func122 (by kernel_rfl) rfl args w
set_option maxHeartbeats 4000000 in
set_option maxRecDepth 100000 in
theorem product_any {E:Env} {d:Nat} {u:List Tk→Rs Xp} (hs:Sf u) (hu:∀{w:World} {j:Nat} {l:List Tk},At E w j d l→Calls Tryz.prog 132 #[.pointer (some ⟨E.b,0,none⟩)] w (ExprPost E w d (u l))) {w:World} {j:Nat} {l:List Tk} (h:At E w j d l):
    Calls Tryz.prog 122 #[.pointer (some ⟨E.b,0,none⟩)] w (ExprPost E w d (chainP u mulOps l)):=by
  have H:=hid h
  have lb:=h.lb
  have lg:=h.lg
  have z0:((w.alloc exprZ).alloc (.cells #[.int .i64 2,.int .i64 3,.int .i64 4] 101)).heap.size=w.heap.size+2:=by simp
  have HC := hid (chain_any (E := E) ((h.alloc exprZ).alloc (.cells #[.int .i64 2, .int .i64 3, .int .i64 4] 101)) 132 #[.pointer (some ⟨E.b, 0, none⟩)] #[] enter_unit u hs [2, 3, 4] (w.heap.size + 1) 3 (by decide) (by decide) (by decide) (by omega)
    (fun i o h=>by
      have hz:(w.alloc exprZ).heap.size=w.heap.size+1:=by simp
      rw [←hz]
      match i,h with
      |0,h=>simp at h;subst h;exact cell_blk (heap_alloc_new (w.alloc exprZ) _) 0
      |1,h=>simp at h;subst h;exact cell_blk (heap_alloc_new (w.alloc exprZ) _) 1
      |2,h=>simp at h;subst h;exact cell_blk (heap_alloc_new (w.alloc exprZ) _) 2)
    (fun w1 j1 l1 _ h1=>hu h1) (by rw [z0];omega))
  rw [show opsL [2,3,4]=mulOps from rfl] at HC
  have kr:Hid (((w.alloc exprZ).alloc (.cells #[.int .i64 2,.int .i64 3,.int .i64 4] 101)).heap[w.heap.size]? =some exprZ):=(Lib.alloc_old _ _ _ (by simp)).trans (heap_alloc_new w exprZ)
  have F0:Hid (Fr (fun i=>i=E.b) w ((w.alloc exprZ).alloc (.cells #[.int .i64 2,.int .i64 3,.int .i64 4] 101))):=hid (((Fr.refl _ w).alloc _).alloc _)
  clear h hs hu
  go_enter Tryz.func122,Tryz.ntmps122
  go_wp2_with fail
  refine HC.out.mono ?_
  intro e w1 hp
  cases hr:chainP u mulOps l with
  |error v=>
    obtain ⟨t,p⟩:=v
    have HQ:=hid hr
    rw [hr] at hp
    obtain ⟨f,what,a0,a1,a2,a3,A,n,c,rfl,hFa,hlf,hF⟩:=hp
    have K:=hid (And.intro hFa hF)
    have s4:=hF.size
    rw [z0] at s4 hlf
    obtain ⟨⟨r0,r1,r2,r3,r4⟩,q0,q1,q2,q3,q4⟩:=blk5 ((hF.block _ (Go.Proofs.YtjlnpdpkobpkiaaGreatDoor.blk_lt kr.out) (by omega)).trans kr.out)
    clear hFa hF hr HC
    go_wp2
    refine bodyPost_ret (v:= .tuple #[.agg #[.int .i64 a0,.string a1,.int .i64 a2,.int .i64 a3,.slice A n c],faultV f]) (by simp [results,Tryz.results122,go_sem,r0,r1,r2,r3,r4]) rfl ?_
    rw [HQ.out]
    refine ⟨f,what,_,_,_,_,_,_,_,rfl,?_,by omega,?_⟩
    · exact K.out.1.put5 (by omega)
    · exact (F0.out.trans K.out.2 (fun i _ e=>e)).put5 (Nat.le_refl _)
  |ok v=>
    obtain ⟨x,l1⟩:=v
    have HQ:=hid hr
    rw [hr] at hp
    obtain ⟨j1,A,c,rfl,hA,hc,hK,hF⟩:=hp
    have K:=hid (And.intro hA (And.intro hF hK))
    have HCc:=hid hc
    have s4:=hF.size
    rw [z0] at s4
    obtain ⟨⟨r0,r1,r2,r3,r4⟩,q0,q1,q2,q3,q4⟩:=blk5 ((hF.block _ (Go.Proofs.YtjlnpdpkobpkiaaGreatDoor.blk_lt kr.out) (by omega)).trans kr.out)
    clear hA hc hK hF hr HC
    go_wp2
    refine bodyPost_ret (v:= .tuple #[.agg (exprA x A c),.nilIface]) (by simp [results,Tryz.results122,go_sem,r0,r1,r2,r3,r4]) rfl ?_
    rw [HQ.out]
    refine ⟨j1,A,c,rfl,?_,HCc.out,?_,?_⟩
    · exact K.out.1.put5 (by omega) (by omega)
    · exact Kd.F_mono (Kd.F_step K.out.2.2 (fun i hi hlt=>(Fr.self5 (b:=w.heap.size)).block i hlt (by have:=hi;rw [z0] at this;omega))) (fun i hi=>by have:=hi;rw [z0] at this;omega)
    · exact (F0.out.trans K.out.2.1 (fun i _ e=>e)).put5 (Nat.le_refl _)
set_option maxHeartbeats 4000000 in
set_option maxRecDepth 100000 in
theorem sum_any {E:Env} {d:Nat} {u:List Tk→Rs Xp} (hs:Sf u) (hu:∀{w:World} {j:Nat} {l:List Tk},At E w j d l→Calls Tryz.prog 122 #[.pointer (some ⟨E.b,0,none⟩)] w (ExprPost E w d (u l))) {w:World} {j:Nat} {l:List Tk} (h:At E w j d l):
    Calls Tryz.prog 109 #[.pointer (some ⟨E.b,0,none⟩)] w (ExprPost E w d (chainP u addOps l)):=by
  have H:=hid h
  have lb:=h.lb
  have lg:=h.lg
  have z0:((w.alloc exprZ).alloc (.cells #[.int .i64 0,.int .i64 1] 101)).heap.size=w.heap.size+2:=by simp
  have HC := hid (chain_any (E := E) ((h.alloc exprZ).alloc (.cells #[.int .i64 0, .int .i64 1] 101)) 122 #[.pointer (some ⟨E.b, 0, none⟩)] #[] enter_product u hs [0, 1] (w.heap.size + 1) 2 (by decide) (by decide) (by decide) (by omega)
    (fun i o h=>by
      have hz:(w.alloc exprZ).heap.size=w.heap.size+1:=by simp
      rw [←hz]
      match i,h with
      |0,h=>simp at h;subst h;exact cell_blk (heap_alloc_new (w.alloc exprZ) _) 0
      |1,h=>simp at h;subst h;exact cell_blk (heap_alloc_new (w.alloc exprZ) _) 1)
    (fun w1 j1 l1 _ h1=>hu h1) (by rw [z0];omega))
  rw [show opsL [0,1]=addOps from rfl] at HC
  have kr:Hid (((w.alloc exprZ).alloc (.cells #[.int .i64 0,.int .i64 1] 101)).heap[w.heap.size]? =some exprZ):=(Lib.alloc_old _ _ _ (by simp)).trans (heap_alloc_new w exprZ)
  have F0:Hid (Fr (fun i=>i=E.b) w ((w.alloc exprZ).alloc (.cells #[.int .i64 0,.int .i64 1] 101))):=hid (((Fr.refl _ w).alloc _).alloc _)
  clear h hs hu
  go_enter Tryz.func109,Tryz.ntmps109
  go_wp2_with fail
  refine HC.out.mono ?_
  intro e w1 hp
  cases hr:chainP u addOps l with
  |error v=>
    obtain ⟨t,p⟩:=v
    have HQ:=hid hr
    rw [hr] at hp
    obtain ⟨f,what,a0,a1,a2,a3,A,n,c,rfl,hFa,hlf,hF⟩:=hp
    have K:=hid (And.intro hFa hF)
    have s4:=hF.size
    rw [z0] at s4 hlf
    obtain ⟨⟨r0,r1,r2,r3,r4⟩,q0,q1,q2,q3,q4⟩:=blk5 ((hF.block _ (Go.Proofs.YtjlnpdpkobpkiaaGreatDoor.blk_lt kr.out) (by omega)).trans kr.out)
    clear hFa hF hr HC
    go_wp2
    refine bodyPost_ret (v:= .tuple #[.agg #[.int .i64 a0,.string a1,.int .i64 a2,.int .i64 a3,.slice A n c],faultV f]) (by simp [results,Tryz.results109,go_sem,r0,r1,r2,r3,r4]) rfl ?_
    rw [HQ.out]
    refine ⟨f,what,_,_,_,_,_,_,_,rfl,?_,by omega,?_⟩
    · exact K.out.1.put5 (by omega)
    · exact (F0.out.trans K.out.2 (fun i _ e=>e)).put5 (Nat.le_refl _)
  |ok v=>
    obtain ⟨x,l1⟩:=v
    have HQ:=hid hr
    rw [hr] at hp
    obtain ⟨j1,A,c,rfl,hA,hc,hK,hF⟩:=hp
    have K:=hid (And.intro hA (And.intro hF hK))
    have HCc:=hid hc
    have s4:=hF.size
    rw [z0] at s4
    obtain ⟨⟨r0,r1,r2,r3,r4⟩,q0,q1,q2,q3,q4⟩:=blk5 ((hF.block _ (Go.Proofs.YtjlnpdpkobpkiaaGreatDoor.blk_lt kr.out) (by omega)).trans kr.out)
    clear hA hc hK hF hr HC
    go_wp2
    refine bodyPost_ret (v:= .tuple #[.agg (exprA x A c),.nilIface]) (by simp [results,Tryz.results109,go_sem,r0,r1,r2,r3,r4]) rfl ?_
    rw [HQ.out]
    refine ⟨j1,A,c,rfl,?_,HCc.out,?_,?_⟩
    · exact K.out.1.put5 (by omega) (by omega)
    · exact Kd.F_mono (Kd.F_step K.out.2.2 (fun i hi hlt=>(Fr.self5 (b:=w.heap.size)).block i hlt (by have:=hi;rw [z0] at this;omega))) (fun i hi=>by have:=hi;rw [z0] at this;omega)
    · exact (F0.out.trans K.out.2.1 (fun i _ e=>e)).put5 (Nat.le_refl _)
end Go.Proofs.YtjlnpdpkobpkiaaGreatDoorPSP
set_option linter.unusedVariables false
set_option linter.unusedSimpArgs false
namespace Go.Proofs.YtjlnpdpkobpkiaaGreatDoorPSP
open Go.RowKit Go.Extern.Stop Go.Stop Go.Extern Go.Proofs.YtjlnpdpkobpkiaaGreatDoorW.PrintWords Go.Proofs.YtjlnpdpkobpkiaaGreatDoor
theorem chain_sf' {u:List Tk→Rs Xp} (hs:Sf u) (ops:List (Int×List UInt8)):Sf (chainP u ops):=hs.thn (fun x=>chainL_sf hs _ _ x)
theorem At.deep {E:Env} {w:World} {j d:Nat} {l:List Tk} (h:At E w j d l) (k:Nat):At E (w.setCell ⟨E.b,2,none⟩ (.int .i64 (k:Int))) j k l:=by
  have:=h.move (w':=w.setCell ⟨E.b,2,none⟩ (.int .i64 (k:Int))) (j':=j) (d':=k) (by
    have:=Go.Proofs.YtjlnpdpkobpkiaaGreatDoor.blk_set (o:=2) h.blk (.int .i64 (k:Int))
    rw [this]
    simp) (Fr.setCell w ⟨E.b,2,none⟩ _) h.lt
  rw [←h.l] at this
  exact this
theorem At.push {E:Env} {w:World} {j d:Nat} {l:List Tk} (h:At E w j d l) (hj:j+1<E.ts.length):At E ((w.setCell ⟨E.b,1,none⟩ (.int .i64 ((j:Int)+1))).setCell ⟨E.b,2,none⟩ (.int .i64 ((d:Int)+1))) (j+1) (d+1) (l.drop 1):=(h.on hj).deep (d+1)
set_option maxHeartbeats 1000000 in
set_option maxRecDepth 100000 in
theorem unit_any {E:Env}:∀(n d:Nat),n+d=20→∀{w:World} {j:Nat} {l:List Tk},At E w j d l→Calls Tryz.prog 132 #[.pointer (some ⟨E.b,0,none⟩)] w (ExprPost E w d (unitP n l)):=by
  intro n
  induction n with
  |zero=>
    intro d hd w j l h
    have hd20:d=20:=by omega
    have HR:=hid (h.alloc exprZ)
    have H:=hid h
    have lb:=h.lb
    have lg:=h.lg
    have hlen:=E.len
    have hlt:=h.lt
    have hj:j+1≤30000:=by omega
    have HI:=hid (is_any HR.out 0 (by decide) [40])
    clear hlt
    cases hs:isS l 0 [40] with
    |false=>
      rw [hs] at HI
      have HN:Hid (unitP 0 l=leafP l):=by show _=_;rw [unitP,if_neg (by rw [hs];decide)]
      clear h hs
      go_enter Tryz.func132,Tryz.ntmps132
      go_wp2_with fail
      refine HI.out.mono ?_
      rintro e w1 ⟨rfl,hb1⟩
      have HB1:=hid hb1
      have A1:=hid (HR.out.below hb1)
      have s1:=hb1.size
      simp at s1
      have kr1:Hid (w1.heap[w.heap.size]? =some exprZ):=(hb1.block _ (by simp)).trans (heap_alloc_new w exprZ)
      have F1:Hid (Fr (fun i=>i=E.b) w w1):=((Fr.refl _ w).alloc exprZ).old hb1
      clear hb1
      have HV:=hid (variable_any A1.out)
      go_wp2_with fail
      refine HV.out.mono ?_
      intro e w2 hv
      by_cases h2:(pk l 0).kind=2
      · obtain ⟨rfl, hA, hF⟩ := hv.1 h2
        have HQ:Hid (unitP 0 l= .ok (mkX (mkT 0 (pk l 0).text 0),l.drop 1)):=by show _=_;rw [HN.out,leafP,if_pos h2]
        have K:=hid (And.intro hA hF)
        have s2:=hF.size
        obtain ⟨⟨r0,r1,r2,r3,r4⟩,q0,q1,q2,q3,q4⟩:=blk5 ((hF.block _ (Go.Proofs.YtjlnpdpkobpkiaaGreatDoor.blk_lt kr1.out) (by omega)).trans kr1.out)
        clear hA hF hv h2
        go_wp2
        refine bodyPost_ret (v:= .tuple #[.agg #[.int .i64 0,.string (bL (pk l 0).text),.int .i64 0,.int .i64 0,.slice none 0 0],.nilIface]) (by simp [results,Tryz.results132,go_sem,r0,r1,r2,r3,r4]) rfl ?_
        rw [HQ.out]
        refine ⟨j+1,none,0,rfl,?_,Nat.le_refl _,Kd.F_nil _ _ _,?_⟩
        · exact K.out.1.put5 (by omega) (by omega)
        · exact (F1.out.trans K.out.2 (fun i _ e=>e)).put5 (Nat.le_refl _)
      · obtain ⟨rfl, hb2⟩ := hv.2 h2
        have HL:Hid (unitP 0 l=bnd numP (fun t l'=> .ok (mkX t,l')) l):=by show _=_;rw [HN.out,leafP,if_neg h2]
        have A2:=hid (A1.out.below hb2)
        have s2:=hb2.size
        have kr2:Hid (w2.heap[w.heap.size]? =some exprZ):=(hb2.block _ (Go.Proofs.YtjlnpdpkobpkiaaGreatDoor.blk_lt kr1.out)).trans kr1.out
        have F2:Hid (Fr (fun i=>i=E.b) w w2):=F1.out.old hb2
        have HNu:=hid (number_any A2.out)
        clear hv hb2 h2
        go_wp2_with fail
        refine HNu.out.mono ?_
        intro e w3 hp
        cases hr:numP l with
        |error v=>
          obtain ⟨t,p⟩:=v
          have HQ:Hid (unitP 0 l= .error (t,p)):=by show _=_;rw [HL.out];unfold bnd;rw [hr]
          rw [hr] at hp
          obtain ⟨f,what,rfl,hFa,hlf,hF⟩:=hp
          have K:=hid (And.intro hFa hF)
          have s3:=hF.size
          have kr3:=(Lib.alloc_old w3 (.cells #[.int .i64 0,.string ⟨#[]⟩,.int .i64 0] 98) _ (by omega)).trans ((hF.block _ (Go.Proofs.YtjlnpdpkobpkiaaGreatDoor.blk_lt kr2.out) (by omega)).trans kr2.out)
          obtain ⟨⟨r0,r1,r2,r3,r4⟩,q0,q1,q2,q3,q4⟩:=blk5 kr3
          have d1:w.heap.size≠w3.heap.size:=by omega
          clear hFa hF hr kr3
          go_wp2
          refine bodyPost_ret (v:= .tuple #[.agg #[.int .i64 0,.string ⟨#[]⟩,.int .i64 0,.int .i64 0,.slice none 0 0],faultV f]) (by simp [results,Tryz.results132,go_sem,r0,r1,r2,r3,r4,d1]) rfl ?_
          rw [HQ.out]
          refine ⟨f,what,_,_,_,_,_,_,_,rfl,?_,by omega,?_⟩
          · exact FaultAt.put5 ((Lib.alloc_old w3 _ f (Go.Proofs.YtjlnpdpkobpkiaaGreatDoor.blk_lt K.out.1)).trans K.out.1) (by omega)
          · exact ((F2.out.trans K.out.2 (fun i _ e=>e)).alloc _).put5 (Nat.le_refl _)
        |ok v=>
          obtain ⟨⟨t0,t1,t2⟩,l3⟩:=v
          have HQ:Hid (unitP 0 l= .ok (mkX ⟨t0,t1,t2⟩,l3)):=by show _=_;rw [HL.out];unfold bnd;rw [hr]
          rw [hr] at hp
          obtain ⟨j3,rfl,hA,hF⟩:=hp
          have K:=hid (And.intro hA hF)
          have s3:=hF.size
          have kr3:=(Lib.alloc_old w3 (.cells #[.int .i64 t0,.string t1,.int .i64 t2] 98) _ (by omega)).trans ((hF.block _ (Go.Proofs.YtjlnpdpkobpkiaaGreatDoor.blk_lt kr2.out) (by omega)).trans kr2.out)
          obtain ⟨⟨r0,r1,r2,r3,r4⟩,q0,q1,q2,q3,q4⟩:=blk5 kr3
          have d1:w.heap.size≠w3.heap.size:=by omega
          clear hA hF hr kr3
          go_wp2
          refine bodyPost_ret (v:= .tuple #[.agg #[.int .i64 t0,.string t1,.int .i64 t2,.int .i64 0,.slice none 0 0],.nilIface]) (by simp [results,Tryz.results132,go_sem,r0,r1,r2,r3,r4,d1]) rfl ?_
          rw [HQ.out]
          refine ⟨j3,none,0,rfl,?_,Nat.le_refl _,Kd.F_nil _ _ _,?_⟩
          · exact (K.out.1.alloc _).put5 (by omega) (by omega)
          · exact ((F2.out.trans K.out.2 (fun i _ e=>e)).alloc _).put5 (Nat.le_refl _)
    |true=>
      rw [hs] at HI
      have HN:Hid (unitP 0 l=bad 2 l):=by show _=_;rw [unitP,if_pos hs]
      clear h hs
      go_enter Tryz.func132,Tryz.ntmps132
      go_wp2_with fail
      refine HI.out.mono ?_
      rintro e w1 ⟨rfl,hb1⟩
      have HB1:=hid hb1
      have A1:=hid (HR.out.below hb1)
      have s1:=hb1.size
      simp at s1
      have kr1:Hid (w1.heap[w.heap.size]? =some exprZ):=(hb1.block _ (by simp)).trans (heap_alloc_new w exprZ)
      have F1:Hid (Fr (fun i=>i=E.b) w w1):=((Fr.refl _ w).alloc exprZ).old hb1
      clear hb1
      have c2:w1.cell? ⟨E.b,2,none⟩=some (.int .i64 20):=by rw [cell_blk A1.out.blk 2,hd20];rfl
      have HF:=hid (fail_any A1.out 2 ⟨#[101,120,112,114,101,115,115,105,111,110]⟩)
      go_wp2_with fail
      refine HF.out.mono ?_
      rintro e w4 ⟨f,what,rfl,hFa,hlf,hb4⟩
      obtain ⟨⟨r0,r1,r2,r3,r4⟩,q0,q1,q2,q3,q4⟩:=blk5 ((hb4.block _ (Go.Proofs.YtjlnpdpkobpkiaaGreatDoor.blk_lt kr1.out)).trans kr1.out)
      have K:=hid (And.intro hFa hb4)
      clear hFa hb4
      go_wp2
      refine bodyPost_ret (v:= .tuple #[.agg #[.int .i64 0,.string ⟨#[]⟩,.int .i64 0,.int .i64 0,.slice none 0 0],faultV f]) (by simp [results,Tryz.results132,go_sem,r0,r1,r2,r3,r4]) rfl ?_
      rw [HN.out]
      refine ⟨f,what,_,_,_,_,_,_,_,rfl,?_,by omega,?_⟩
      · exact K.out.1.put5 (by omega)
      · exact (F1.out.old K.out.2).put5 (Nat.le_refl _)
  |succ n ih=>
    intro d hd w j l h
    have HR:=hid (h.alloc exprZ)
    have H:=hid h
    have lb:=h.lb
    have lg:=h.lg
    have hlen:=E.len
    have hlt:=h.lt
    have hj:j+1≤30000:=by omega
    have HI:=hid (is_any HR.out 0 (by decide) [40])
    clear hlt
    cases hs:isS l 0 [40] with
    |false=>
      rw [hs] at HI
      have HN:Hid (unitP (n+1) l=leafP l):=by show _=_;rw [unitP,if_neg (by rw [hs];decide)]
      clear h hs ih
      go_enter Tryz.func132,Tryz.ntmps132
      go_wp2_with fail
      refine HI.out.mono ?_
      rintro e w1 ⟨rfl,hb1⟩
      have HB1:=hid hb1
      have A1:=hid (HR.out.below hb1)
      have s1:=hb1.size
      simp at s1
      have kr1:Hid (w1.heap[w.heap.size]? =some exprZ):=(hb1.block _ (by simp)).trans (heap_alloc_new w exprZ)
      have F1:Hid (Fr (fun i=>i=E.b) w w1):=((Fr.refl _ w).alloc exprZ).old hb1
      clear hb1
      have HV:=hid (variable_any A1.out)
      go_wp2_with fail
      refine HV.out.mono ?_
      intro e w2 hv
      by_cases h2:(pk l 0).kind=2
      · obtain ⟨rfl, hA, hF⟩ := hv.1 h2
        have HQ:Hid (unitP (n+1) l= .ok (mkX (mkT 0 (pk l 0).text 0),l.drop 1)):=by show _=_;rw [HN.out,leafP,if_pos h2]
        have K:=hid (And.intro hA hF)
        have s2:=hF.size
        obtain ⟨⟨r0,r1,r2,r3,r4⟩,q0,q1,q2,q3,q4⟩:=blk5 ((hF.block _ (Go.Proofs.YtjlnpdpkobpkiaaGreatDoor.blk_lt kr1.out) (by omega)).trans kr1.out)
        clear hA hF hv h2
        go_wp2
        refine bodyPost_ret (v:= .tuple #[.agg #[.int .i64 0,.string (bL (pk l 0).text),.int .i64 0,.int .i64 0,.slice none 0 0],.nilIface]) (by simp [results,Tryz.results132,go_sem,r0,r1,r2,r3,r4]) rfl ?_
        rw [HQ.out]
        refine ⟨j+1,none,0,rfl,?_,Nat.le_refl _,Kd.F_nil _ _ _,?_⟩
        · exact K.out.1.put5 (by omega) (by omega)
        · exact (F1.out.trans K.out.2 (fun i _ e=>e)).put5 (Nat.le_refl _)
      · obtain ⟨rfl, hb2⟩ := hv.2 h2
        have HL:Hid (unitP (n+1) l=bnd numP (fun t l'=> .ok (mkX t,l')) l):=by show _=_;rw [HN.out,leafP,if_neg h2]
        have A2:=hid (A1.out.below hb2)
        have s2:=hb2.size
        have kr2:Hid (w2.heap[w.heap.size]? =some exprZ):=(hb2.block _ (Go.Proofs.YtjlnpdpkobpkiaaGreatDoor.blk_lt kr1.out)).trans kr1.out
        have F2:Hid (Fr (fun i=>i=E.b) w w2):=F1.out.old hb2
        have HNu:=hid (number_any A2.out)
        clear hv hb2 h2
        go_wp2_with fail
        refine HNu.out.mono ?_
        intro e w3 hp
        cases hr:numP l with
        |error v=>
          obtain ⟨t,p⟩:=v
          have HQ:Hid (unitP (n+1) l= .error (t,p)):=by show _=_;rw [HL.out];unfold bnd;rw [hr]
          rw [hr] at hp
          obtain ⟨f,what,rfl,hFa,hlf,hF⟩:=hp
          have K:=hid (And.intro hFa hF)
          have s3:=hF.size
          have kr3:=(Lib.alloc_old w3 (.cells #[.int .i64 0,.string ⟨#[]⟩,.int .i64 0] 98) _ (by omega)).trans ((hF.block _ (Go.Proofs.YtjlnpdpkobpkiaaGreatDoor.blk_lt kr2.out) (by omega)).trans kr2.out)
          obtain ⟨⟨r0,r1,r2,r3,r4⟩,q0,q1,q2,q3,q4⟩:=blk5 kr3
          have d1:w.heap.size≠w3.heap.size:=by omega
          clear hFa hF hr kr3
          go_wp2
          refine bodyPost_ret (v:= .tuple #[.agg #[.int .i64 0,.string ⟨#[]⟩,.int .i64 0,.int .i64 0,.slice none 0 0],faultV f]) (by simp [results,Tryz.results132,go_sem,r0,r1,r2,r3,r4,d1]) rfl ?_
          rw [HQ.out]
          refine ⟨f,what,_,_,_,_,_,_,_,rfl,?_,by omega,?_⟩
          · exact FaultAt.put5 ((Lib.alloc_old w3 _ f (Go.Proofs.YtjlnpdpkobpkiaaGreatDoor.blk_lt K.out.1)).trans K.out.1) (by omega)
          · exact ((F2.out.trans K.out.2 (fun i _ e=>e)).alloc _).put5 (Nat.le_refl _)
        |ok v=>
          obtain ⟨⟨t0,t1,t2⟩,l3⟩:=v
          have HQ:Hid (unitP (n+1) l= .ok (mkX ⟨t0,t1,t2⟩,l3)):=by show _=_;rw [HL.out];unfold bnd;rw [hr]
          rw [hr] at hp
          obtain ⟨j3,rfl,hA,hF⟩:=hp
          have K:=hid (And.intro hA hF)
          have s3:=hF.size
          have kr3:=(Lib.alloc_old w3 (.cells #[.int .i64 t0,.string t1,.int .i64 t2] 98) _ (by omega)).trans ((hF.block _ (Go.Proofs.YtjlnpdpkobpkiaaGreatDoor.blk_lt kr2.out) (by omega)).trans kr2.out)
          obtain ⟨⟨r0,r1,r2,r3,r4⟩,q0,q1,q2,q3,q4⟩:=blk5 kr3
          have d1:w.heap.size≠w3.heap.size:=by omega
          clear hA hF hr kr3
          go_wp2
          refine bodyPost_ret (v:= .tuple #[.agg #[.int .i64 t0,.string t1,.int .i64 t2,.int .i64 0,.slice none 0 0],.nilIface]) (by simp [results,Tryz.results132,go_sem,r0,r1,r2,r3,r4,d1]) rfl ?_
          rw [HQ.out]
          refine ⟨j3,none,0,rfl,?_,Nat.le_refl _,Kd.F_nil _ _ _,?_⟩
          · exact (K.out.1.alloc _).put5 (by omega) (by omega)
          · exact ((F2.out.trans K.out.2 (fun i _ e=>e)).alloc _).put5 (Nat.le_refl _)
    |true=>
      rw [hs] at HI
      have hx1:=h.sign hs
      have HN:Hid (unitP (n+1) l=bnd (sumOf (unitP n)) (fun x=>bnd (wantP [41]) (fun _ l'=> .ok (x,l'))) (l.drop 1)):=by show _=_;rw [unitP,if_pos hs]
      clear h hs
      go_enter Tryz.func132,Tryz.ntmps132
      go_wp2_with fail
      refine HI.out.mono ?_
      rintro e w1 ⟨rfl,hb1⟩
      have HB1:=hid hb1
      have A1:=hid (HR.out.below hb1)
      have s1:=hb1.size
      simp at s1
      have kr1:Hid (w1.heap[w.heap.size]? =some exprZ):=(hb1.block _ (by simp)).trans (heap_alloc_new w exprZ)
      have F1:Hid (Fr (fun i=>i=E.b) w w1):=((Fr.refl _ w).alloc exprZ).old hb1
      clear hb1
      have HS:=hid (sum_any (E:=E) (d:=d+1) (chain_sf' (unit_sf n) mulOps) (fun h=>product_any (unit_sf n) (fun h=>ih (d+1) (by omega) h) h) (A1.out.push hx1))
      obtain ⟨c1,g1⟩:=A1.out.c1
      have c2:w1.cell? ⟨E.b,2,none⟩=some (.int .i64 (d:Int)):=cell_blk A1.out.blk 2
      have g2:=Lib.frozen_of_heap A1.out.blk 2
      have hd20:(d:Int)<20:=by omega
      have F3:Hid (Fr (fun i=>i=E.b) w ((w1.setCell ⟨E.b,1,none⟩ (.int .i64 ((j:Int)+1))).setCell ⟨E.b,2,none⟩ (.int .i64 ((d:Int)+1)))):=Fr.putF (F:=fun i=>i=E.b) (Fr.putF (F:=fun i=>i=E.b) F1.out _ rfl _) _ rfl _
      have kr3:Hid (((w1.setCell ⟨E.b,1,none⟩ (.int .i64 ((j:Int)+1))).setCell ⟨E.b,2,none⟩ (.int .i64 ((d:Int)+1))).heap[w.heap.size]? =some exprZ):=by
        have G:Fr (fun i=>i=E.b) w1 ((w1.setCell ⟨E.b,1,none⟩ (.int .i64 ((j:Int)+1))).setCell ⟨E.b,2,none⟩ (.int .i64 ((d:Int)+1))):=Fr.putF (F:=fun i=>i=E.b) (Fr.putF (F:=fun i=>i=E.b) (Fr.refl _ w1) _ rfl _) _ rfl _
        exact (G.block _ (Go.Proofs.YtjlnpdpkobpkiaaGreatDoor.blk_lt kr1.out) (by omega)).trans kr1.out
      have z3:((w1.setCell ⟨E.b,1,none⟩ (.int .i64 ((j:Int)+1))).setCell ⟨E.b,2,none⟩ (.int .i64 ((d:Int)+1))).heap.size=w1.heap.size:=by simp [World.setCell]
      have hne20:((d:Int)==20)=false:=beq_false_of_ne (by omega)
      go_wp2_with fail
      refine HS.out.mono ?_
      intro e w4 hp
      cases hr:sumOf (unitP n) (l.drop 1) with
      |error v=>
        obtain ⟨t,p⟩:=v
        have HQ:Hid (unitP (n+1) l= .error (t,p)):=by show _=_;rw [HN.out];unfold bnd;rw [hr]
        unfold sumOf at hr
        rw [hr] at hp
        obtain ⟨f,what,a0,a1,a2,a3,A,m,c,rfl,hFa,hlf,hF⟩:=hp
        have K:=hid (And.intro hFa hF)
        have s4:=hF.size
        rw [z3] at s4 hlf
        have kr4:=(Lib.alloc_old w4 (.cells #[.int .i64 a0,.string a1,.int .i64 a2,.int .i64 a3,.slice A m c] 104) _ (by omega)).trans ((hF.block _ (Go.Proofs.YtjlnpdpkobpkiaaGreatDoor.blk_lt kr3.out) (by omega)).trans kr3.out)
        obtain ⟨⟨r0,r1,r2,r3,r4⟩,q0,q1,q2,q3,q4⟩:=blk5 kr4
        have d1:w.heap.size≠w4.heap.size:=by omega
        clear hFa hF hr kr4 c1 g1 c2 g2
        go_wp2
        refine bodyPost_ret (v:= .tuple #[.agg #[.int .i64 0,.string ⟨#[]⟩,.int .i64 0,.int .i64 0,.slice none 0 0],faultV f]) (by simp [results,Tryz.results132,go_sem,r0,r1,r2,r3,r4,d1]) rfl ?_
        rw [HQ.out]
        refine ⟨f,what,_,_,_,_,_,_,_,rfl,?_,by omega,?_⟩
        · exact FaultAt.put5 ((Lib.alloc_old w4 _ f (Go.Proofs.YtjlnpdpkobpkiaaGreatDoor.blk_lt K.out.1)).trans K.out.1) (by omega)
        · exact ((F3.out.trans K.out.2 (fun i _ e=>e)).alloc _).put5 (Nat.le_refl _)
      |ok v=>
        obtain ⟨x,l4⟩:=v
        have HL:Hid (unitP (n+1) l=bnd (wantP [41]) (fun _ l'=> .ok (x,l')) l4):=by show _=_;rw [HN.out,bnd,hr]
        unfold sumOf at hr
        rw [hr] at hp
        obtain ⟨j4,A,c,rfl,hA,hc,hK,hF⟩:=hp
        have s4:=hF.size
        rw [z3] at s4
        have A4:=hA.alloc (.cells (exprA x A c) 104)
        have c2:(w4.alloc (.cells (exprA x A c) 104)).cell? ⟨E.b,2,none⟩=some (.int .i64 ((d:Int)+1)):=cell_blk A4.blk 2
        have g2:=Lib.frozen_of_heap A4.blk 2
        have A5:Hid (At E ((w4.alloc (.cells (exprA x A c) 104)).setCell ⟨E.b,2,none⟩ (.int .i64 (d:Int))) j4 d l4):=A4.deep d
        have hcc:=hid hc
        have G5:Hid (Fr (fun i=>i=E.b) w4 ((w4.alloc (.cells (exprA x A c) 104)).setCell ⟨E.b,2,none⟩ (.int .i64 (d:Int)))):=Fr.putF (F:=fun i=>i=E.b) ((Fr.refl _ w4).alloc _) _ rfl _
        have G45:Fr (fun i=>i=E.b) (w4.alloc (.cells (exprA x A c) 104)) ((w4.alloc (.cells (exprA x A c) 104)).setCell ⟨E.b,2,none⟩ (.int .i64 (d:Int))):=Fr.putF (F:=fun i=>i=E.b) (Fr.refl _ _) _ rfl _
        have kx5:Hid (((w4.alloc (.cells (exprA x A c) 104)).setCell ⟨E.b,2,none⟩ (.int .i64 (d:Int))).heap[w4.heap.size]? =some (.cells (exprA x A c) 104 (0,0))):=(G45.block _ (by simp) (by omega)).trans (heap_alloc_new w4 _)
        have kr5:Hid (((w4.alloc (.cells (exprA x A c) 104)).setCell ⟨E.b,2,none⟩ (.int .i64 (d:Int))).heap[w.heap.size]? =some exprZ):=(G5.out.block _ (by omega) (by omega)).trans ((hF.block _ (Go.Proofs.YtjlnpdpkobpkiaaGreatDoor.blk_lt kr3.out) (by omega)).trans kr3.out)
        have F5:Hid (Fr (fun i=>i=E.b) w ((w4.alloc (.cells (exprA x A c) 104)).setCell ⟨E.b,2,none⟩ (.int .i64 (d:Int)))):=(F3.out.trans hF (fun i _ e=>e)).trans G5.out (fun i _ e=>e)
        have K5:Hid (Kd.F k104 ((w4.alloc (.cells (exprA x A c) 104)).setCell ⟨E.b,2,none⟩ (.int .i64 (d:Int))) (fun i=>((w1.setCell ⟨E.b,1,none⟩ (.int .i64 ((j:Int)+1))).setCell ⟨E.b,2,none⟩ (.int .i64 ((d:Int)+1))).heap.size≤i∧i<w4.heap.size) A x.f2.length x.f2):=Kd.F_step (Kd.F_bound hK) (fun i hi hlt=>G5.out.block i hlt (by have:=hi.1;rw [z3] at this;omega))
        clear hA hc hK hF hr c1 g1 A4 G45
        go_wp2_with fail
        clear c2 g2
        generalize ((w4.alloc (.cells (exprA x A c) 104)).setCell ⟨E.b,2,none⟩ (.int .i64 (d:Int)))=W5 at A5 G5 kx5 kr5 F5 K5 ⊢
        obtain ⟨⟨o0,o1,o2,o3,o4⟩,p0,p1,p2,p3,p4⟩:=blk5 kx5.out
        cases hr2:wantP [41] l4 with
        |error v=>
          obtain ⟨t,p⟩:=v
          have HQ:Hid (unitP (n+1) l= .error (t,p)):=by show _=_;rw [HL.out];unfold bnd;rw [hr2]
          have HWt:Hid (∀W,Fr (fun _=>False) W5 W→Calls Tryz.prog 83 #[.pointer (some ⟨E.b,0,none⟩),.string ⟨#[41]⟩] W (WantPost E W d (.error (t,p)))):=fun W hW=>by
            have:=want_any (A5.out.keep hW (fun f=>f) (fun f=>f)) [41]
            rw [hr2] at this
            exact this
          have F0:Fr (fun _=>False) W5 W5.drew:=(Fr.refl _ _).drew
          have F0b:Fr (fun i=>i=E.b) W5 W5.drew:=(Fr.refl _ _).drew
          have hsz5:=Go.Proofs.YtjlnpdpkobpkiaaGreatDoor.blk_lt kx5.out
          go_region_with (go_at_call 83;refine (HWt.out _ F0).mono ?_;rintro e w6 ⟨f,what,rfl,hFa6,hlf6,hF6⟩;have F1':Fr (fun i=>i=E.b) W5 w6:=F0b.trans hF6 (fun i _ e=>e);have kr6:=(F1'.block _ (Go.Proofs.YtjlnpdpkobpkiaaGreatDoor.blk_lt kr5.out) (by omega)).trans kr5.out;obtain ⟨⟨r0,r1,r2,r3,r4⟩,q0,q1,q2,q3,q4⟩:=blk5 kr6;have kx6:=(F1'.block _ hsz5 (by omega)).trans kx5.out;obtain ⟨⟨v0,v1,v2,v3,v4⟩,_⟩:=blk5 kx6)
          all_goals
           have K6:=hid (And.intro hFa6 (And.intro hlf6 F1'))
           have s5:=G5.out.size
           clear hFa6 hF6 hr2
           go_wp2
           refine bodyPost_ret (v:= .tuple #[.agg (exprA x A c),faultV f]) (by simp [results,Tryz.results132,go_sem,r0,r1,r2,r3,r4]) rfl ?_
           rw [HQ.out]
           have hz5:=F5.out.size
           rw [show W5.drew.heap.size=W5.heap.size from rfl] at hlf6
           refine ⟨f,what,_,_,_,_,_,_,_,rfl,?_,by omega,?_⟩
           · exact K6.out.1.put5 (by omega)
           · exact (F5.out.trans K6.out.2.2 (fun i _ e=>e)).put5 (Nat.le_refl _)
        |ok v=>
          obtain ⟨u6,l6⟩:=v
          have HQ:Hid (unitP (n+1) l= .ok (x,l6)):=by show _=_;rw [HL.out];unfold bnd;rw [hr2]
          have HWt:Hid (∀W,Fr (fun _=>False) W5 W→Calls Tryz.prog 83 #[.pointer (some ⟨E.b,0,none⟩),.string ⟨#[41]⟩] W (WantPost E W d (.ok (u6,l6)))):=fun W hW=>by
            have:=want_any (A5.out.keep hW (fun f=>f) (fun f=>f)) [41]
            rw [hr2] at this
            exact this
          have F0:Fr (fun _=>False) W5 W5.drew:=(Fr.refl _ _).drew
          have F0b:Fr (fun i=>i=E.b) W5 W5.drew:=(Fr.refl _ _).drew
          have hsz5:=Go.Proofs.YtjlnpdpkobpkiaaGreatDoor.blk_lt kx5.out
          go_region_with (go_at_call 83;refine (HWt.out _ F0).mono ?_;rintro e w6 ⟨j6,rfl,hA6,hF6⟩;have F1':Fr (fun i=>i=E.b) W5 w6:=F0b.trans hF6 (fun i _ e=>e);have kr6:=(F1'.block _ (Go.Proofs.YtjlnpdpkobpkiaaGreatDoor.blk_lt kr5.out) (by omega)).trans kr5.out;obtain ⟨⟨r0,r1,r2,r3,r4⟩,q0,q1,q2,q3,q4⟩:=blk5 kr6;have kx6:=(F1'.block _ hsz5 (by omega)).trans kx5.out;obtain ⟨⟨v0,v1,v2,v3,v4⟩,_⟩:=blk5 kx6)
          all_goals
           have K6:=hid (And.intro hA6 F1')
           clear hA6 hF6 hr2
           go_wp2
           refine bodyPost_ret (v:= .tuple #[.agg (exprA x A c),.nilIface]) (by simp [results,Tryz.results132,go_sem,r0,r1,r2,r3,r4]) rfl ?_
           rw [HQ.out]
           refine ⟨j6,A,c,rfl,?_,hcc.out,?_,?_⟩
           · exact K6.out.1.put5 (by omega) (by omega)
           · refine Kd.F_mono (Kd.F_step (Kd.F_step K5.out (fun i hi hlt=>K6.out.2.block i hlt (by have:=hi.1;rw [z3] at this;omega))) (fun i hi hlt=>(Fr.self5 (b:=w.heap.size)).block i hlt (by have:=hi.1;rw [z3] at this;omega))) (fun i hi=>by have:=hi.1;rw [z3] at this;omega)
           · exact (F5.out.trans K6.out.2 (fun i _ e=>e)).put5 (Nat.le_refl _)
end Go.Proofs.YtjlnpdpkobpkiaaGreatDoorPSP
set_option linter.unusedVariables false
set_option linter.unusedSimpArgs false
namespace Go.Proofs.YtjlnpdpkobpkiaaGreatDoorPSP
open Go.RowKit Go.Extern.Stop Go.Stop Go.Extern Go.Proofs.YtjlnpdpkobpkiaaGreatDoorW.PrintWords Go.Proofs.YtjlnpdpkobpkiaaGreatDoor
theorem compare_at (l:List Tk):∀n:Nat,n≤5→(∀m,m<n→isS l 0 (columnL.getD m [])=false)→isS l 0 (columnL.getD n [])=true→compareP l= .ok ((n:Int),l.drop 1):=by
  intro n hn hm h
  have e:n=0∨n=1∨n=2∨n=3∨n=4∨n=5:=by omega
  have f:∀m s,columnL.getD m []=s→m<n→isS l 0 s=false:=fun m s e h=>by subst e;exact hm m h
  rcases e with rfl|rfl|rfl|rfl|rfl|rfl
  · have h0 : isS l 0 [61] = true := h
    simp [compareP,cmpOps,h0]
  · have h0 := f 0 [61] rfl (by decide)
    have h1:isS l 0 [33,61]=true:=h
    simp [compareP,cmpOps,h0,h1]
  · have h0 := f 0 [61] rfl (by decide)
    have h1:=f 1 [33,61] rfl (by decide)
    have h2:isS l 0 [60]=true:=h
    simp [compareP,cmpOps,h0,h1,h2]
  · have h0 := f 0 [61] rfl (by decide)
    have h1:=f 1 [33,61] rfl (by decide)
    have h2:=f 2 [60] rfl (by decide)
    have h3:isS l 0 [60,61]=true:=h
    simp [compareP,cmpOps,h0,h1,h2,h3]
  · have h0 := f 0 [61] rfl (by decide)
    have h1:=f 1 [33,61] rfl (by decide)
    have h2:=f 2 [60] rfl (by decide)
    have h3:=f 3 [60,61] rfl (by decide)
    have h4:isS l 0 [62]=true:=h
    simp [compareP,cmpOps,h0,h1,h2,h3,h4]
  · have h0 := f 0 [61] rfl (by decide)
    have h1:=f 1 [33,61] rfl (by decide)
    have h2:=f 2 [60] rfl (by decide)
    have h3:=f 3 [60,61] rfl (by decide)
    have h4:=f 4 [62] rfl (by decide)
    have h5:isS l 0 [62,61]=true:=h
    simp [compareP,cmpOps,h0,h1,h2,h3,h4,h5]
theorem compare_no (l:List Tk) (hm:∀m,m<6→isS l 0 (columnL.getD m [])=false):compareP l=bad 1 l:=by
  have h0:isS l 0 [61]=false:=hm 0 (by decide)
  have h1:isS l 0 [33,61]=false:=hm 1 (by decide)
  have h2:isS l 0 [60]=false:=hm 2 (by decide)
  have h3:isS l 0 [60,61]=false:=hm 3 (by decide)
  have h4:isS l 0 [62]=false:=hm 4 (by decide)
  have h5:isS l 0 [62,61]=false:=hm 5 (by decide)
  simp [compareP,cmpOps,h0,h1,h2,h3,h4,h5]
def CmpPost (E:Env) (w:World) (d:Nat) (r:Rs Int) (e:Ending) (w':World):Prop:=match r with
  | .ok (v,l')=>Ok1 E w d l' (.int .i64 v) e w'
  | .error (t,p)=>Er1 E w t p (.int .i64 0) e w'
set_option maxHeartbeats 4000000 in
set_option maxRecDepth 100000 in
theorem compare_any {E:Env} {w:World} {j d:Nat} {l:List Tk} (h:At E w j d l):
    Calls Tryz.prog 111 #[.pointer (some ⟨E.b,0,none⟩)] w (CmpPost E w d (compareP l)):=by
  have H:=hid h
  have lb:=h.lb
  clear h
  go_enter Tryz.func111,Tryz.ntmps111
  go_wp2_with fail
  go_loopg [4] 7 (fun g a wr=>∃n:Nat,a= .int .i64 (n:Int)∧n≤6∧6-n<g∧Hid (Below w.heap.size w wr)∧Hid (∀m,m<n→isS l 0 (columnL.getD m [])=false))
  case atStart=>exact ⟨0,rfl,by decide,by decide,hid (Below.refl _ _),hid (fun m h=>by omega)⟩
  case round=>
    obtain ⟨n,rfl,h6,hg,HB,HM⟩:=hrel
    obtain ⟨wo,rfl⟩:∃y:World,y=wr:=⟨_,rfl⟩
    by_cases hlt:n≤5
    · have hlt' : (n : Int) ≤ 5 := by omega
      go_wp2_with fail
      refine (column_in n hlt wo).mono ?_
      rintro e w1 ⟨rfl,hb1⟩
      have HB1:=hid (HB.out.trans (hb1.mono HB.out.size))
      have HT:=hid (take_any (H.out.below HB1.out) (columnL.getD n []))
      clear hb1
      go_wp2_with fail
      refine HT.out.mono ?_
      rintro e w2 ⟨rfl,t1,t2⟩
      cases hs:isS l 0 (columnL.getD n []) with
      |true=>
        have HQ:=hid (compare_at l n hlt HM.out hs)
        have T1:=hid (t1 hs)
        clear t1 t2 hs
        go_wp2
        go_ret2
        rw [HQ.out]
        exact ⟨j+1,rfl,T1.out.1,(Fr.ofB HB1.out).trans T1.out.2 (fun i _ e=>e)⟩
      |false=>
        have HS:=hid hs
        have T2:=hid (HB1.out.trans ((t2 hs).mono HB1.out.size))
        clear t1 t2 hs
        go_wp2
        go_roundg (6-n)
        case measure=>omega
        case rel=>
          refine ⟨n+1,rfl,by omega,by omega,T2,hid (fun m hm=> ?_)⟩
          by_cases he:m=n
          · subst he;exact HS.out
          · exact HM.out m (by omega)
    · have hlt' : ¬ (n : Int) ≤ 5 := by omega
      have HQ:=hid (compare_no l (fun m hm=>HM.out m (by omega)))
      have HF:=hid (fail_any (H.out.below HB.out) 1 ⟨#[115,105,103,110]⟩)
      go_wp2_with fail
      refine HF.out.mono ?_
      rintro e w2 ⟨f,what,rfl,hF,hlf,hb2⟩
      have K:=hid (And.intro hF (And.intro hlf hb2))
      clear hF hlf hb2
      go_wp2
      go_ret2
      rw [HQ.out]
      exact ⟨f,what,rfl,K.out.1,Nat.le_trans HB.out.size K.out.2.1,(Fr.ofB HB.out).old K.out.2.2⟩
end Go.Proofs.YtjlnpdpkobpkiaaGreatDoorPSP
