import Derived.Test.YtjlnpdpkobpkiaaGreatDoorZ2Pr8
set_option linter.unusedVariables false
set_option linter.unusedSimpArgs false
namespace Go.Proofs.YtjlnpdpkobpkiaaGreatDoorPSP
open Go.RowKit Go.Extern.Stop Go.Stop Go.Extern Go.Proofs.YtjlnpdpkobpkiaaGreatDoorW.PrintWords Go.Proofs.YtjlnpdpkobpkiaaGreatDoor
abbrev ruleZ:Obj:= .cells #[.string ⟨#[]⟩,.slice none 0 0,.int .i64 0,.slice none 0 0,.int .i64 0] 37
abbrev ruleA (p:Int):Obj:= .cells #[.string ⟨#[]⟩,.slice none 0 0,.int .i64 0,.slice none 0 0,.int .i64 p] 37
theorem blk5 {w:World} {b:Nat} {a0 a1 a2 a3 a4:Value} {t:TypeId} (h:w.heap[b]? =some (.cells #[a0,a1,a2,a3,a4] t (0,0))):
    (w.cell? ⟨b,0,none⟩=some a0∧w.cell? ⟨b,1,none⟩=some a1∧w.cell? ⟨b,2,none⟩=some a2∧w.cell? ⟨b,3,none⟩=some a3∧w.cell? ⟨b,4,none⟩=some a4)∧w.frozen? ⟨b,0,none⟩=false∧w.frozen? ⟨b,1,none⟩=false∧w.frozen? ⟨b,2,none⟩=false∧w.frozen? ⟨b,3,none⟩=false∧w.frozen? ⟨b,4,none⟩=false:=
  ⟨⟨cell_blk h 0,cell_blk h 1,cell_blk h 2,cell_blk h 3,cell_blk h 4⟩,Lib.frozen_of_heap h 0,Lib.frozen_of_heap h 1,Lib.frozen_of_heap h 2,Lib.frozen_of_heap h 3,Lib.frozen_of_heap h 4⟩
def HeadPost (E:Env) (w:World) (d:Nat) (at_:Int) (r:Rs (Am×Int)) (e:Ending) (w':World):Prop:=match r with
  | .ok (v,l')=>∃j' A c,e= .returned (.tuple #[.agg #[.string v.1.f0,.slice A v.1.f1.length c,.int .i64 v.2,.slice none 0 0,.int .i64 at_],.nilIface])∧At E w' j' d l'∧v.1.f1.length≤c∧Kd.F k98 w' (fun i=>w.heap.size≤i) A v.1.f1.length v.1.f1∧Fr (fun i=>i=E.b) w w'
  | .error (t,p)=>∃f what x A n c g,e= .returned (.tuple #[.agg #[.string x,.slice A n c,.int .i64 g,.slice none 0 0,.int .i64 at_],faultV f])∧FaultAt w' f (t:Int) (p:Int) what .nilIface∧w.heap.size≤f∧Fr (fun i=>i=E.b) w w'
theorem enter_agg (args:Array Value) (w:World):(callFunc 106 args).run Tryz.prog w= .ok (.enter 106 args) w:=enters_of Tryz.func106 (by kernel_rfl) rfl args w
theorem hdJ_ok {E:Env} {w:World} {br o:Nat} {at_:Int} (h1:br<w.heap.size) (h2:o<w.heap.size) (n1:br≠E.b) (n2:o≠E.b) (n4:br≠E.g) (n5:o≠E.g):JOk E w (fun i=>i=br∨i=o) (hdJ E br o at_):=
  ⟨fun i e=>by rcases e with e|e <;>omega,fun i e=>by rcases e with e|e <;>omega,fun g w1 w2 hk hJ=>⟨(hk br (.inl rfl)).trans hJ.1,(hk o (.inr rfl)).trans hJ.2⟩⟩
set_option maxHeartbeats 8000000 in
set_option maxRecDepth 100000 in
theorem head_any14 {E:Env} {w:World} {j d:Nat} {l:List Tk} (h:At E w j d l):
    Calls Tryz.prog 84 #[.pointer (some ⟨E.b,0,none⟩)] w (HeadPost E w d ((pk l 0).start:Int) (headP l)):=by
  have HR:=hid ((h.alloc (.cells #[.pointer (some ⟨E.b,0,none⟩)] 130)).alloc ruleZ)
  have H:=hid h
  have lb:=h.lb
  have lg:=h.lg
  have ra:=run_at
  have b0:((w.alloc (.cells #[.pointer (some ⟨E.b,0,none⟩)] 130)).alloc ruleZ).cell? ⟨w.heap.size,0,none⟩=some (.pointer (some ⟨E.b,0,none⟩)):=
    cell_blk ((Lib.alloc_old _ ruleZ w.heap.size (by simp)).trans (heap_alloc_new w _)) 0
  have HP:=hid (peek_any HR.out 0 (by decide))
  obtain ⟨p0,hp0⟩:∃n:Int,((pk l 0).start:Int)=n:=⟨_,rfl⟩
  rw [hp0] at HP ⊢
  clear h hp0
  go_enter Tryz.func84,Tryz.ntmps84
  go_wp2_with fail
  refine HP.out.mono ?_
  rintro e w2 ⟨rfl,hb2⟩
  have HB2:=hid hb2
  have A2:=hid ((HR.out.below hb2).alloc (ruleA p0))
  have s2:=hb2.size
  simp at s2
  have kb:Hid ((w2.alloc (ruleA p0)).heap[w.heap.size]? =some (.cells #[.pointer (some ⟨E.b,0,none⟩)] 130 (0,0))):=by
    show _=_
    rw [Below.heap_alloc _ _ _ (by omega),hb2.block _ (by simp;omega),Below.heap_alloc _ _ _ (by simp),heap_alloc_new]
  have kr:Hid ((w2.alloc (ruleA p0)).heap[w.heap.size+1]? =some ruleZ):=by
    show _=_
    rw [Below.heap_alloc _ _ _ (by omega),hb2.block _ (by simp),show w.heap.size+1=(w.alloc (.cells #[.pointer (some ⟨E.b,0,none⟩)] 130)).heap.size by simp,heap_alloc_new]
  have ko:Hid ((w2.alloc (ruleA p0)).heap[w2.heap.size]? =some (ruleA p0)):=heap_alloc_new w2 _
  have b2:(w2.alloc (ruleA p0)).cell? ⟨w.heap.size,0,none⟩=some (.pointer (some ⟨E.b,0,none⟩)):=cell_blk kb.out 0
  have FB:Hid (Fr (fun i=>i=E.b) w (w2.alloc (ruleA p0))):=(((((Fr.refl _ w).alloc _).alloc ruleZ).old hb2).alloc _)
  have HV:=hid (name_any A2.out)
  clear hb2
  go_wp2_with fail
  refine HV.out.mono ?_
  intro e w3 hp
  cases hr:nameP l with
  |error v=>
    obtain ⟨t,p⟩:=v
    have HN:Hid (headP l= .error (t,p)):=by show _=_;unfold headP bnd;rw [hr]
    rw [hr] at hp
    obtain ⟨f,what,rfl,hFa,hlf,hF⟩:=hp
    have K:=hid (And.intro hFa hF)
    have s4:=hF.size
    simp at s4 hlf
    obtain ⟨⟨r0,r1,r2,r3,r4⟩,q0,q1,q2,q3,q4⟩:=blk5 ((hF.block _ (Go.Proofs.YtjlnpdpkobpkiaaGreatDoor.blk_lt kr.out) (by omega)).trans kr.out)
    obtain ⟨⟨o0,o1,o2,o3,o4⟩,_⟩:=blk5 ((hF.block _ (Go.Proofs.YtjlnpdpkobpkiaaGreatDoor.blk_lt ko.out) (by omega)).trans ko.out)
    clear hFa hF hr
    go_wp2
    refine bodyPost_ret (v:= .tuple #[.agg #[.string ⟨#[]⟩,.slice none 0 0,.int .i64 0,.slice none 0 0,.int .i64 p0],faultV f]) (by simp [results,Tryz.results84,go_sem,r0,r1,r2,r3,r4]) rfl ?_
    rw [HN.out]
    refine ⟨f,what,_,_,_,_,_,rfl,?_,by omega,?_⟩
    · exact K.out.1.put5 (by omega)
    · exact (FB.out.trans K.out.2 (fun i _ e=>e)).put5 (by omega)
  |ok v=>
    obtain ⟨s,l1⟩:=v
    have HN:Hid (headP l=bnd (argsP aggP) (fun r l'=> .ok ((mkA s r.1,r.2),l')) l1):=by show _=_;unfold headP;rw [bnd,hr]
    rw [hr] at hp
    obtain ⟨j1,rfl,hA,hF⟩:=hp
    have K:=hid (And.intro hA hF)
    have s4:=hF.size
    simp at s4
    have b3:w3.cell? ⟨w.heap.size,0,none⟩=some (.pointer (some ⟨E.b,0,none⟩)):=cell_blk ((hF.block _ (Go.Proofs.YtjlnpdpkobpkiaaGreatDoor.blk_lt kb.out) (by omega)).trans kb.out) 0
    have kr3:Hid (w3.heap[w.heap.size+1]? =some ruleZ):=(hF.block _ (Go.Proofs.YtjlnpdpkobpkiaaGreatDoor.blk_lt kr.out) (by omega)).trans kr.out
    have J3:Hid (hdJ E w.heap.size w2.heap.size p0 0 w3):=⟨(hF.block _ (Go.Proofs.YtjlnpdpkobpkiaaGreatDoor.blk_lt kb.out) (by omega)).trans kb.out,(hF.block _ (Go.Proofs.YtjlnpdpkobpkiaaGreatDoor.blk_lt ko.out) (by omega)).trans ko.out⟩
    have HG:=hid (args_any hA 106 #[] #[.pointer (some ⟨w.heap.size,0,none⟩),.pointer (some ⟨w2.heap.size,0,none⟩)] aggP (fun i=>i=w.heap.size∨i=w2.heap.size) (hdJ E w.heap.size w2.heap.size p0) (hdJ_ok (by omega) (by omega) (by omega) (by omega) (by omega) (by omega)) J3.out enter_agg (fun w1 j1 l1 _ h1 hj=>agg_any h1 hj (by omega) (by omega) (by omega) (by omega) (by omega)))
    have F3:Hid (Fr (fun i=>i=E.b) w w3):=FB.out.trans hF (fun i _ e=>e)
    clear hA hF hr
    go_wp2_with fail
    refine HG.out.mono ?_
    intro e w4 hp
    cases hr:argsP aggP l1 with
    |error v=>
      obtain ⟨t,p⟩:=v
      have HQ:=hid hr
      rw [hr] at hp
      obtain ⟨f,what,A,n,c,rfl,hFa,hlf,hF,g,hj⟩:=hp
      have K2:=hid (And.intro hFa hF)
      have s5:=hF.size
      obtain ⟨⟨r0,r1,r2,r3,r4⟩,q0,q1,q2,q3,q4⟩:=blk5 ((hF.block _ (Go.Proofs.YtjlnpdpkobpkiaaGreatDoor.blk_lt kr3.out) (by intro e;rcases e with e|e|e <;>omega)).trans kr3.out)
      obtain ⟨⟨o0,o1,o2,o3,o4⟩,x0,x1,x2,x3,x4⟩:=blk5 hj.2
      have d1:w.heap.size+1≠w2.heap.size:=by omega
      clear hFa hF hr hj
      go_wp2
      refine bodyPost_ret (v:= .tuple #[.agg #[.string (bL s),.slice A n c,.int .i64 g,.slice none 0 0,.int .i64 p0],faultV f]) (by simp [results,Tryz.results84,go_sem,r0,r1,r2,r3,r4,d1]) rfl ?_
      rw [HN.out,bnd,HQ.out]
      refine ⟨f,what,_,_,_,_,_,rfl,?_,by omega,?_⟩
      · exact (K2.out.1.put2 (by omega)).put5 (by omega)
      · exact ((F3.out.trans K2.out.2 (fun i hi e=>by rcases e with e|e|e <;>omega)).put2 (by omega)).put5 (by omega)
    |ok v=>
      obtain ⟨⟨r,g⟩,l2⟩:=v
      have HQ:=hid hr
      rw [hr] at hp
      obtain ⟨j2,A,c,rfl,hA,hj,hc,hK,hF⟩:=hp
      have K2:=hid (And.intro hA (And.intro hF hK))
      have HC:=hid hc
      have s5:=hF.size
      obtain ⟨⟨r0,r1,r2,r3,r4⟩,q0,q1,q2,q3,q4⟩:=blk5 ((hF.block _ (Go.Proofs.YtjlnpdpkobpkiaaGreatDoor.blk_lt kr3.out) (by intro e;rcases e with e|e|e <;>omega)).trans kr3.out)
      obtain ⟨⟨o0,o1,o2,o3,o4⟩,x0,x1,x2,x3,x4⟩:=blk5 hj.2
      have d1:w.heap.size+1≠w2.heap.size:=by omega
      clear hA hF hr hc hK hj
      go_wp2
      refine bodyPost_ret (v:= .tuple #[.agg #[.string (bL s),.slice A r.length c,.int .i64 g,.slice none 0 0,.int .i64 p0],.nilIface]) (by simp [results,Tryz.results84,go_sem,r0,r1,r2,r3,r4,d1]) rfl ?_
      rw [HN.out,bnd,HQ.out]
      refine ⟨j2,A,c,rfl,?_,HC.out,?_,?_⟩
      · exact (K2.out.1.put2 (by omega) (by omega)).put5 (by omega) (by omega)
      · refine Kd.F_mono (Kd.F_step (Kd.F_step K2.out.2.2 (fun i hi hlt=>(Fr.self2 (b:=w2.heap.size)).block i hlt (by have:=hi;omega))) (fun i hi hlt=>(Fr.self5 (b:=w.heap.size+1)).block i hlt (by have:=hi;omega))) (fun i hi=>by have:=hi;omega)
      · exact ((F3.out.trans K2.out.2.1 (fun i hi e=>by rcases e with e|e|e <;>omega)).put2 (by omega)).put5 (by omega)
end Go.Proofs.YtjlnpdpkobpkiaaGreatDoorPSP
set_option linter.unusedVariables false
set_option linter.unusedSimpArgs false
namespace Go.Proofs.YtjlnpdpkobpkiaaGreatDoorPSP
open Go.RowKit Go.Extern.Stop Go.Stop Go.Extern Go.Proofs.YtjlnpdpkobpkiaaGreatDoorW.PrintWords Go.Proofs.YtjlnpdpkobpkiaaGreatDoor
abbrev sg (o:Nat):List UInt8:=arithL.getD o []
def opsL (os:List Nat):List (Int×List UInt8):=os.map fun (o:Nat)=>((o:Int),sg o)
theorem enter_chain1 (args:Array Value) (w:World):(callFunc 131 args).run Tryz.prog w= .ok (.enter 131 args) w:=enters_of Tryz.func131 (by kernel_rfl) rfl args w
def BoxAt (E:Env) (w:World) (br:Nat):Prop:=w.heap[br]? =some (.cells #[.pointer (some ⟨E.b,0,none⟩)] 130 (0,0))
set_option maxHeartbeats 4000000 in
set_option maxRecDepth 100000 in
theorem chain1_any {E:Env} {w:World} {j d:Nat} {l:List Tk} {br:Nat} (h:At E w j d l) (hb:BoxAt E w br) (o:Nat) (ho:o≤4):
    Calls Tryz.prog 131 #[.int .i64 (o:Int),.pointer (some ⟨br,0,none⟩)] w (RetB w (.bool (isS l 0 (sg o)))):=by
  have c0:w.cell? ⟨br,0,none⟩=some (.pointer (some ⟨E.b,0,none⟩)):=cell_blk hb 0
  have HS:Hid (∀W,Calls Tryz.prog 119 #[.int .i64 (o:Int)] W (RetB W (.string (bL (sg o))))):=fun W=>arith_in o ho W
  have HI:Hid (∀W,Fr (fun _=>False) w W→Calls Tryz.prog 51 #[.pointer (some ⟨E.b,0,none⟩),.int .i64 0,.string (bL (sg o))] W (RetB W (.bool (isS l 0 (sg o))))):=
    fun W hW=>is_any (h.keep hW (fun f=>f) (fun f=>f)) 0 (by decide) (sg o)
  have F0:Fr (fun _=>False) w w.drew:=(Fr.refl _ _).drew
  clear h hb
  go_enter Tryz.func131,Tryz.ntmps131
  go_wp2_with fail
  go_region_held3 (fun W=>W.cell? ⟨br,0,none⟩=some (.pointer (some ⟨E.b,0,none⟩))∧Fr (fun _=>False) w W)
    (first
      |(exact ⟨F0.cell c0 (fun f=>f),F0⟩)
      |(exact ⟨F2'.cell c0 (fun f=>f),F2'⟩)
      |(exact ⟨F1'.cell c0 (fun f=>f),F1'⟩))
    (first
      |(go_at_call 119;refine (HS.out _).mono ?_;rintro e w5 ⟨rfl,hb5⟩;have F1':Fr (fun _=>False) w w5:=F0.old hb5)
      |(go_at_call 51;refine (HI.out _ F1').mono ?_;rintro e w6 ⟨rfl,hb6⟩;have F2':Fr (fun _=>False) w w6:=F1'.old hb6))
  go_wp2
  go_ret
  exact ⟨rfl,F2'.below (Nat.le_refl _) (fun i hi=>hi.elim)⟩
def IdxPost (w:World) (l:List Tk) (os:List Nat) (e:Ending) (w':World):Prop:=Below w.heap.size w w'∧
  ((∃i o:Nat,os[i]? =some o∧(opsL os).find? (fun q=>isS l 0 q.2)=some ((o:Int),sg o)∧isS l 0 (sg o)=true∧e= .returned (.int .i64 (i:Int)))∨((opsL os).find? (fun q=>isS l 0 q.2)=none∧e= .returned (.int .i64 (-1))))
theorem find_at (l:List Tk):∀(os:List Nat) (i o:Nat),os[i]? =some o→isS l 0 (sg o)=true→(∀m,m<i→∀q:Nat,os[m]? =some q→isS l 0 (sg q)=false)→(opsL os).find? (fun q=>isS l 0 q.2)=some ((o:Int),sg o):=by
  intro os
  induction os with
  |nil=>intro i o h;simp at h
  |cons a os ih=>
    intro i o h ho hm
    show List.find? _ (((a:Int),sg a)::opsL os)=_
    rw [List.find?_cons]
    cases i with
    |zero=>
      simp at h
      subst h
      simp only [ho]
    |succ i=>
      have:=hm 0 (by omega) a rfl
      simp only [this]
      exact ih i o (by simpa using h) ho (fun m hlt q hq=>hm (m+1) (by omega) q (by simpa using hq))
theorem find_no (l:List Tk) (os:List Nat) (hm:∀m,m<os.length→∀q:Nat,os[m]? =some q→isS l 0 (sg q)=false):(opsL os).find? (fun q=>isS l 0 q.2)=none:=by
  rw [List.find?_eq_none]
  intro q hq
  unfold opsL at hq
  obtain ⟨o,ho,rfl⟩:=List.mem_map.1 hq
  obtain ⟨m,hm1⟩:=List.mem_iff_getElem?.1 ho
  have:=hm m (List.getElem?_eq_some_iff.1 hm1).1 o hm1
  rw [this]
  decide
set_option maxHeartbeats 4000000 in
set_option maxRecDepth 100000 in
theorem index_any {E:Env} {w:World} {j d:Nat} {l:List Tk} {br ob cp:Nat} {os:List Nat} (h:At E w j d l) (hb:BoxAt E w br) (hos:∀o∈os,o≤4) (hol:os.length≤5) (hcp:os.length≤cp)
    (hob:∀i (o:Nat),os[i]? =some o→w.cell? ⟨ob,i,none⟩=some (.int .i64 (o:Int))):
    Calls Tryz.prog 130 #[.slice (some ⟨ob,0,none⟩) os.length cp,.func (.func 131) #[] #[.pointer (some ⟨br,0,none⟩)]] w (IdxPost w l os):=by
  have H:=hid h
  have HB:=hid hb
  have HO:=hid hob
  have HS:=hid hos
  have hen:=enter_chain1
  obtain ⟨n,hn⟩:∃n,n=os.length:=⟨_,rfl⟩
  rw [←hn] at hol hcp ⊢
  have HN:=hid hn
  clear h hb hob hos hn
  go_enter Tryz.func130,Tryz.ntmps130
  go_wp2_with fail
  go_loopg [8] 6 (fun g v wr=>∃i:Nat,v= .int .i64 (i:Int)∧i≤n∧n-i<g∧Hid (Below w.heap.size w wr)∧Hid (∀m,m<i→∀q:Nat,os[m]? =some q→isS l 0 (sg q)=false))
  case atStart=>exact ⟨0,rfl,by omega,by omega,hid (Below.refl _ _),hid (fun m hm=>by omega)⟩
  case round=>
    obtain ⟨i,rfl,hi,hg,HW,HM⟩:=hrel
    obtain ⟨wo,rfl⟩:∃y:World,y=wr:=⟨_,rfl⟩
    by_cases hlt:i<n
    · obtain ⟨o, ho⟩ : ∃ o, os[i]? = some o := ⟨_, List.getElem?_eq_getElem (by rw [← HN.out]; exact hlt)⟩
      have c0:wo.cell? ⟨ob,i,none⟩=some (.int .i64 (o:Int)):=(HW.out.cell (World.block_lt_of_cell? w _ (HO.out i o ho))).trans (HO.out i o ho)
      have HOi:=hid ho
      have HC:=hid (chain1_any (H.out.below HW.out) (show BoxAt E wo br from (HW.out.block _ (Go.Proofs.YtjlnpdpkobpkiaaGreatDoor.blk_lt HB.out)).trans HB.out) o (HS.out o (List.mem_of_getElem? ho)))
      clear ho
      have hlt':(i:Int)<(n:Int):=by omega
      go_wp2_with fail
      refine HC.out.mono ?_
      rintro e w2 ⟨rfl,hb2⟩
      have HB2:=hid (HW.out.trans (hb2.mono HW.out.size))
      clear hb2
      cases hs:isS l 0 (sg o) with
      |true=>
        have HSo:=hid hs
        clear hs
        go_wp2
        go_ret
        exact ⟨HB2.out,.inl ⟨i,o,HOi.out,find_at l os i o HOi.out HSo.out HM.out,HSo.out,rfl⟩⟩
      |false=>
        have HSo:=hid hs
        clear hs
        go_wp2
        go_roundg (n-i)
        case measure=>omega
        case rel=>
          refine ⟨i+1,rfl,by omega,by omega,HB2,hid (fun m hm q hq=> ?_)⟩
          by_cases he:m=i
          · subst he
            rw [HOi.out] at hq
            injection hq with hq
            subst hq
            exact HSo.out
          · exact HM.out m (by omega) q hq
    · have hlt' : ¬ (i : Int) < (n : Int) := by omega
      have he:i=n:=by omega
      go_wp2
      go_ret
      exact ⟨HW.out,.inr ⟨find_no l os (fun m hm=>HM.out m (by have:=HN.out;omega)),rfl⟩⟩
end Go.Proofs.YtjlnpdpkobpkiaaGreatDoorPSP
