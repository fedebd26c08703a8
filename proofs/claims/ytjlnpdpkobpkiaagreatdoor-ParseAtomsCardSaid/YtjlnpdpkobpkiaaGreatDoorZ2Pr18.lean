import Derived.Test.YtjlnpdpkobpkiaaGreatDoorZ2Pr15a
import Derived.Test.YtjlnpdpkobpkiaaGreatDoorZ2Pr15b
import Derived.Test.YtjlnpdpkobpkiaaGreatDoorZ2Pr15c
import Derived.Test.YtjlnpdpkobpkiaaGreatDoorZ2Pr15d0
import Derived.Test.YtjlnpdpkobpkiaaGreatDoorZ2Pr15d1
import Derived.Test.YtjlnpdpkobpkiaaGreatDoorZ2Pr15d2
import Derived.Test.YtjlnpdpkobpkiaaGreatDoorZ2Pr15d3
import Derived.Test.YtjlnpdpkobpkiaaGreatDoorZ2Pr15e0
import Derived.Test.YtjlnpdpkobpkiaaGreatDoorZ2Pr15e1
import Derived.Test.YtjlnpdpkobpkiaaGreatDoorZ2Pr15e2
import Derived.Test.YtjlnpdpkobpkiaaGreatDoorZ2Pr15e3
import Derived.Test.YtjlnpdpkobpkiaaGreatDoorZ2Pr15f0
import Derived.Test.YtjlnpdpkobpkiaaGreatDoorZ2Pr15f1
import Derived.Test.YtjlnpdpkobpkiaaGreatDoorZ2Pr15f2
import Derived.Test.YtjlnpdpkobpkiaaGreatDoorZ2Pr15f3
import Derived.Test.YtjlnpdpkobpkiaaGreatDoorZ2Prv
set_option linter.unusedVariables false
set_option linter.unusedSimpArgs false
namespace Go.Proofs.YtjlnpdpkobpkiaaGreatDoorPSP
open Go.RowKit Go.Extern.Stop Go.Stop Go.Extern Go.Proofs.YtjlnpdpkobpkiaaGreatDoorW.PrintWords Go.Proofs.YtjlnpdpkobpkiaaGreatDoor
theorem part_any {E:Env} {w:World} {j:Nat} {l:List Tk} (h:At E w j 0 l):
    Calls Tryz.prog 86 #[.pointer (some ⟨E.b,0,none⟩)] w (PartPost E w 0 (partP l)):=by
  have c1:(pk l 0).kind=1→(pk l 0).text≠notL→isS l 1 [40]=false→Calls Tryz.prog 86 #[.pointer (some ⟨E.b,0,none⟩)] w (PartPost E w 0 (partP l)):=fun h1 hnot hs=>by
    rcases oc_all l with hk|hk|hk|hk
    · exact part_cmp1_0 h h1 hnot hs hk
    · exact part_cmp1_1 h h1 hnot hs hk
    · exact part_cmp1_2 h h1 hnot hs hk
    · exact part_cmp1_3 h h1 hnot hs hk
  have c2:(pk l 0).kind=2→isS l 1 [58,61]=false→Calls Tryz.prog 86 #[.pointer (some ⟨E.b,0,none⟩)] w (PartPost E w 0 (partP l)):=fun h2 hs=>by
    rcases oc_all l with hk|hk|hk|hk
    · exact part_cmp2_0 h h2 hs hk
    · exact part_cmp2_1 h h2 hs hk
    · exact part_cmp2_2 h h2 hs hk
    · exact part_cmp2_3 h h2 hs hk
  have c3:(pk l 0).kind≠1→(pk l 0).kind≠2→Calls Tryz.prog 86 #[.pointer (some ⟨E.b,0,none⟩)] w (PartPost E w 0 (partP l)):=fun h1 h2=>by
    rcases oc_all l with hk|hk|hk|hk
    · exact part_cmp3_0 h h1 h2 hk
    · exact part_cmp3_1 h h1 h2 hk
    · exact part_cmp3_2 h h1 h2 hk
    · exact part_cmp3_3 h h1 h2 hk
  by_cases h1:(pk l 0).kind=1
  · by_cases hnot : (pk l 0).text = notL
    · exact part_not h h1 hnot
    · cases hs : isS l 1 [40] with
      |true=>exact part_atom h h1 hnot hs
      |false=>exact c1 h1 hnot hs
  · by_cases h2 : (pk l 0).kind = 2
    · cases hs : isS l 1 [58, 61] with
      |true=>exact part_let h h2 hs
      |false=>exact c2 h2 hs
    · exact c3 h1 h2
end Go.Proofs.YtjlnpdpkobpkiaaGreatDoorPSP
set_option linter.unusedVariables false
set_option linter.unusedSimpArgs false
namespace Go.Proofs.YtjlnpdpkobpkiaaGreatDoorPSP
open Go.RowKit Go.Extern.Stop Go.Stop Go.Extern Go.Proofs.YtjlnpdpkobpkiaaGreatDoorW.PrintWords Go.Proofs.YtjlnpdpkobpkiaaGreatDoor
def RShp (u:Value):Prop:=∃x A n c g B m cB a,u= .agg #[.string x,.slice A n c,.int .i64 g,.slice B m cB,.int .i64 a]
abbrev ruleV (x:Rl) (A:Option Addr) (c:Nat) (B:Option Addr) (cB:Nat):Array Value:= #[.string x.f0.f0,.slice A x.f0.f1.length c,.int .i64 x.f1,.slice B x.f2.length cB,.int .i64 x.f3]
def RulePost (E:Env) (w:World) (r:Rs Rl) (e:Ending) (w':World):Prop:=match r with
  | .ok (x,l')=>∃j' A c B cB,e= .returned (.tuple #[.agg (ruleV x A c B cB),.nilIface])∧At E w' j' 0 l'∧x.f0.f1.length≤c∧Kd.F k98 w' (fun i=>w.heap.size≤i) A x.f0.f1.length x.f0.f1∧x.f2.length≤cB∧Kd.F k106 w' (fun i=>w.heap.size≤i) B x.f2.length x.f2∧Fr (fun i=>i=E.b) w w'
  | .error (t,p)=>∃f what u,e= .returned (.tuple #[u,faultV f])∧RShp u∧FaultAt w' f (t:Int) (p:Int) what .nilIface∧w.heap.size≤f∧Fr (fun i=>i=E.b) w w'
theorem head_len {l:List Tk} {a:Am} {g:Int} {l':List Tk} (hr:headP l= .ok ((a,g),l')):a.f1.length≤6:=by
  unfold headP at hr
  obtain ⟨s,l4,hs,hr⟩:=bnd_ok hr
  obtain ⟨r,l5,hx,hr⟩:=bnd_ok hr
  obtain ⟨e,_⟩:=ok_inj hr
  injection e with e _
  subst e
  exact args_len hx
theorem head_made {l:List Tk} {a:Am} {g:Int} {l':List Tk} (hr:headP l= .ok ((a,g),l')):∃s as_,a=mkA s as_:=by
  unfold headP at hr
  obtain ⟨s,l4,hs,hr⟩:=bnd_ok hr
  obtain ⟨r,l5,hx,hr⟩:=bnd_ok hr
  obtain ⟨e,_⟩:=ok_inj hr
  injection e with e _
  exact ⟨s,r.1,e.symm⟩
set_option maxHeartbeats 1000000 in
set_option maxRecDepth 100000 in
theorem rule_bad {E:Env} {w:World} {j:Nat} {l:List Tk} {t p:Nat} (h:At E w j 0 l) (hh:headP l= .error (t,p)):
    Calls Tryz.prog 53 #[.pointer (some ⟨E.b,0,none⟩)] w (RulePost E w (ruleP nv l)):=by
  have HQ:Hid (ruleP nv l= .error (t,p)):=by
    show _=_
    have hc:ruleC l= .error (t,p):=by unfold ruleC bnd;rw [hh]
    unfold ruleP
    rw [hc]
  have HR:=hid (h.alloc ruleZ)
  have H:=hid h
  have lb:=h.lb
  have lg:=h.lg
  have HH:=hid (head_any14 HR.out)
  obtain ⟨p0,hp0⟩:∃n:Int,((pk l 0).start:Int)=n:=⟨_,rfl⟩
  rw [hp0] at HH
  have HP:=hid hp0
  have ll:l.length≤30000:=by rw [h.l,List.length_drop];have:=E.len;omega
  have HHH:=hid hh
  clear h hp0 hh
  go_enter Tryz.func53,Tryz.ntmps53
  go_wp2_with fail
  refine HH.out.mono ?_
  intro e w1 hp
  rw [HHH.out] at hp
  obtain ⟨f,what,x,A,n,c,g,rfl,hFa,hlf,hF⟩:=hp
  have K:=hid (And.intro hFa hF)
  have s4:=hF.size
  simp at s4 hlf
  obtain ⟨⟨r0,r1,r2,r3,r4⟩,q0,q1,q2,q3,q4⟩:=blk5 ((Lib.alloc_old w1 (.cells #[.string x,.slice A n c,.int .i64 g,.slice none 0 0,.int .i64 p0] 37) _ (by omega)).trans ((hF.block _ (by simp) (by omega)).trans (heap_alloc_new w ruleZ)))
  have d1:w.heap.size≠w1.heap.size:=by omega
  clear hFa hF
  go_wp2
  refine bodyPost_ret (v:= .tuple #[.agg #[.string x,.slice A n c,.int .i64 g,.slice none 0 0,.int .i64 p0],faultV f]) (by simp [results,Tryz.results53,go_sem,r0,r1,r2,r3,r4,d1]) rfl ?_
  rw [HQ.out]
  refine ⟨f,what,_,rfl,⟨_,_,_,_,_,_,_,_,_,rfl⟩,?_,by omega,?_⟩
  · exact FaultAt.put5 ((Lib.alloc_old w1 _ f (Go.Proofs.YtjlnpdpkobpkiaaGreatDoor.blk_lt K.out.1)).trans K.out.1) (by omega)
  · exact ((((Fr.refl _ w).alloc ruleZ).trans K.out.2 (fun i _ e=>e)).alloc _).put5 (Nat.le_refl _)
set_option maxHeartbeats 1000000 in
set_option maxRecDepth 100000 in
theorem rule_bare {E:Env} {w:World} {j:Nat} {l l1:List Tk} {s:List UInt8} {as_:List Tm} {g:Int} (h:At E w j 0 l) (hh:headP l= .ok ((mkA s as_,g),l1)) (hs:isS l1 0 [58,45]=false):
    Calls Tryz.prog 53 #[.pointer (some ⟨E.b,0,none⟩)] w (RulePost E w (ruleP nv l)):=by
  have h6:as_.length≤6:=head_len hh
  have HL1:Hid (ruleC l=bnd (wantP [46]) (fun _ l'=> .ok ((mkA s as_,g,[]),l')) l1):=by
    show _=_
    unfold ruleC
    rw [bnd,hh]
    simp only
    have hb:bodyP l1= .ok ([],l1):=by rw [bodyP,if_neg (by rw [hs];decide)]
    rw [bnd,hb]
  have HR:=hid (h.alloc ruleZ)
  have H:=hid h
  have lb:=h.lb
  have lg:=h.lg
  have HH:=hid (head_any14 HR.out)
  obtain ⟨p0,hp0⟩:∃n:Int,((pk l 0).start:Int)=n:=⟨_,rfl⟩
  rw [hp0] at HH
  have HP:=hid hp0
  have ll:l.length≤30000:=by rw [h.l,List.length_drop];have:=E.len;omega
  have HHH:=hid hh
  clear h hp0 hh
  go_enter Tryz.func53,Tryz.ntmps53
  go_wp2_with fail
  refine HH.out.mono ?_
  intro e w1 hp
  rw [HHH.out] at hp
  obtain ⟨j1,A,c,rfl,hA,hc,hK,hF⟩:=hp
  obtain ⟨n,hn⟩:∃n,n=as_.length:=⟨_,rfl⟩
  have s1:=hF.size
  simp at s1
  have HA1:=hid (hA.alloc (.cells #[.string (bL s),.slice A n c,.int .i64 g,.slice none 0 0,.int .i64 p0] 37))
  have KO1:Hid ((w1.alloc (.cells #[.string (bL s),.slice A n c,.int .i64 g,.slice none 0 0,.int .i64 p0] 37)).heap[w1.heap.size]? =some (.cells #[.string (bL s),.slice A n c,.int .i64 g,.slice none 0 0,.int .i64 p0] 37 (0,0))):=heap_alloc_new w1 _
  have KR1:Hid ((w1.alloc (.cells #[.string (bL s),.slice A n c,.int .i64 g,.slice none 0 0,.int .i64 p0] 37)).heap[w.heap.size]? =some ruleZ):=(Lib.alloc_old w1 _ _ (by omega)).trans ((hF.block _ (by simp) (by omega)).trans (heap_alloc_new w ruleZ))
  have FT1:Hid (Fr (fun i=>i=E.b) w (w1.alloc (.cells #[.string (bL s),.slice A n c,.int .i64 g,.slice none 0 0,.int .i64 p0] 37))):=hid ((((Fr.refl _ w).alloc ruleZ).trans hF (fun i _ e=>e)).alloc _)
  have FA1:Hid (Kd.F k98 (w1.alloc (.cells #[.string (bL s),.slice A n c,.int .i64 g,.slice none 0 0,.int .i64 p0] 37)) (fun i=>w.heap.size+1≤i∧i<w1.heap.size) A n as_):=by
    rw [hn]
    exact Kd.F_mono (Kd.F_alloc (Kd.F_bound hK) _) (fun i hi=>⟨by have:=hi.1;simp at this;omega,by have:=hi.2;omega⟩)
  have HNc:Hid (n≤c):=by show _≤_;rw [hn];exact hc
  have HL6:Hid (n≤6):=by show _≤_;rw [hn];exact h6
  have HN:=hid hn
  rw [show (mkA s as_).f1.length=n from hn.symm,show (mkA s as_).f0=bL s from rfl]
  have HT:=hid (take_any HA1.out [58,45])
  clear hA hc hK hF hn h6
  go_wp2_with fail
  refine HT.out.mono ?_
  rintro e w5 ⟨rfl,t1,t2⟩
  have T2:=hid (t2 hs)
  rw [hs]
  obtain ⟨ps,hps⟩:∃ps:List Pt,ps=[]:=⟨_,rfl⟩
  obtain ⟨l5,hl5⟩:∃l5,l5=l1:=⟨_,rfl⟩
  obtain ⟨m,hm⟩:∃m:Nat,m=0:=⟨_,rfl⟩
  obtain ⟨cB,hcB⟩:∃m:Nat,m=0:=⟨_,rfl⟩
  obtain ⟨B,hB⟩:∃B:Option Addr,B=none:=⟨_,rfl⟩
  have HA:Hid (At E w5 j1 0 l5):=by rw [hl5];exact HA1.out.below T2.out
  have KO:Hid (w5.heap[w1.heap.size]? =some (.cells #[.string (bL s),.slice A n c,.int .i64 g,.slice B m cB,.int .i64 p0] 37 (0,0))):=by
    rw [hB,hm,hcB]
    exact (T2.out.block _ (Go.Proofs.YtjlnpdpkobpkiaaGreatDoor.blk_lt KO1.out)).trans KO1.out
  have KR:Hid (w5.heap[w.heap.size]? =some ruleZ):=(T2.out.block _ (Go.Proofs.YtjlnpdpkobpkiaaGreatDoor.blk_lt KR1.out)).trans KR1.out
  have FT:Hid (Fr (fun i=>i=E.b) w w5):=FT1.out.old T2.out
  have FA:Hid (Kd.F k98 w5 (fun i=>w.heap.size+1≤i∧i≠w1.heap.size) A n as_):=Kd.F_mono (Kd.F_below FA1.out T2.out) (fun i hi=>⟨hi.1,by have:=hi.2;omega⟩)
  have FB:Hid (Kd.F k106 w5 (fun i=>w.heap.size+1≤i∧i≠w1.heap.size) B m ps):=by rw [hB,hm,hps];exact Kd.F_nil _ _ _
  have HL:Hid (ruleC l=bnd (wantP [46]) (fun _ l'=> .ok ((mkA s as_,g,ps),l')) l5):=by rw [hps,hl5];exact HL1.out
  have HM:Hid (m=ps.length):=by rw [hm,hps];rfl
  have HLe:Hid (n≤c∧m≤cB):=⟨HNc.out,by rw [hm,hcB];exact Nat.le_refl _⟩
  have HS:Hid ((mkA s as_).f1.length≤6∧ps.length≤12∧∀p∈ps,PS 30000 p):=⟨by show as_.length≤6;rw [←HN.out];exact HL6.out,by rw [hps];simp,by rw [hps];intro p hp;cases hp⟩
  have lo:w.heap.size+1≤w1.heap.size:=by omega
  clear t1 t2 hs HT hps hl5 hm hcB hB
  have HWt:=hid (want_any HA.out [46])
  have s5:=Go.Proofs.YtjlnpdpkobpkiaaGreatDoor.blk_lt KR.out
  go_wp2_with fail
  refine HWt.out.mono ?_
  intro e w6 hp
  cases hr:wantP [46] l5 with
  |error v=>
    obtain ⟨t,p⟩:=v
    have HQ:Hid (ruleP nv l= .error (t,p)):=by
      show _=_
      have hc:ruleC l= .error (t,p):=by rw [HL.out];unfold bnd;rw [hr]
      unfold ruleP
      rw [hc]
    rw [hr] at hp
    obtain ⟨f,what,rfl,hFa,hlf,hF⟩:=hp
    have K:=hid (And.intro hFa hF)
    have s6:=hF.size
    obtain ⟨⟨r0,r1,r2,r3,r4⟩,q0,q1,q2,q3,q4⟩:=blk5 ((hF.block _ (Go.Proofs.YtjlnpdpkobpkiaaGreatDoor.blk_lt KR.out) (by omega)).trans KR.out)
    obtain ⟨⟨o0,o1,o2,o3,o4⟩,p0c,p1c,p2c,p3c,p4c⟩:=blk5 ((hF.block _ (Go.Proofs.YtjlnpdpkobpkiaaGreatDoor.blk_lt KO.out) (by omega)).trans KO.out)
    clear hFa hF hr
    go_wp2
    refine bodyPost_ret (v:= .tuple #[.agg #[.string (bL s),.slice A n c,.int .i64 g,.slice B m cB,.int .i64 p0],faultV f]) (by simp [results,Tryz.results53,go_sem,r0,r1,r2,r3,r4]) rfl ?_
    rw [HQ.out]
    refine ⟨f,what,_,rfl,⟨_,_,_,_,_,_,_,_,_,rfl⟩,?_,by omega,?_⟩
    · exact K.out.1.put5 (by omega)
    · exact (FT.out.trans K.out.2 (fun i _ e=>e)).put5 (Nat.le_refl _)
  |ok v=>
    obtain ⟨u,l6⟩:=v
    have HC:Hid (ruleC l= .ok ((mkA s as_,g,ps),l6)):=by show _=_;rw [HL.out];unfold bnd;rw [hr]
    rw [hr] at hp
    obtain ⟨j6,rfl,hA6,hF⟩:=hp
    have s6:=hF.size
    have KR6:Hid (w6.heap[w.heap.size]? =some ruleZ):=(hF.block _ (Go.Proofs.YtjlnpdpkobpkiaaGreatDoor.blk_lt KR.out) (by omega)).trans KR.out
    have KO6:Hid (w6.heap[w1.heap.size]? =some (.cells #[.string (bL s),.slice A n c,.int .i64 g,.slice B m cB,.int .i64 p0] 37 (0,0))):=(hF.block _ (Go.Proofs.YtjlnpdpkobpkiaaGreatDoor.blk_lt KO.out) (by omega)).trans KO.out
    have FT6:Hid (Fr (fun i=>i=E.b) w w6):=FT.out.trans hF (fun i _ e=>e)
    have FA6:Hid (Kd.F k98 w6 (fun i=>w.heap.size+1≤i∧i≠w1.heap.size) A n as_):=Kd.F_step FA.out (fun i hi hlt=>hF.block i hlt (by have:=hi.1;omega))
    have FB6:Hid (Kd.F k106 w6 (fun i=>w.heap.size+1≤i∧i≠w1.heap.size) B m ps):=Kd.F_step FB.out (fun i hi hlt=>hF.block i hlt (by have:=hi.1;omega))
    have HA6:=hid hA6
    obtain ⟨ns,hns,hnl,hnv⟩:=rule_vars ⟨mkA s as_,g,ps,p0⟩ HS.out.1 HS.out.2.1 HS.out.2.2
    have HV:Hid (nv ⟨mkA s as_,g,ps,p0⟩=ns.length):=hnv
    have HCl:=hid (syntax_Rule_Vars.calls 2000000 (bL s) A c as_ g B cB ps p0 ns w6 (by have:=Kd.F_now FA6.out;rw [HN.out] at this;exact this) (by rw [←HN.out];exact HLe.out.1) (by have:=Kd.F_now FB6.out;rw [HM.out] at this;exact this) (by rw [←HM.out];exact HLe.out.2) hns)
    rw [←HN.out,←HM.out] at HCl
    obtain ⟨⟨o0,o1,o2,o3,o4⟩,p0c,p1c,p2c,p3c,p4c⟩:=blk5 KO6.out
    clear hA6 hF hr hns hnv
    go_wp2_with fail
    refine HCl.out.mono ?_
    rintro e w7 ⟨v0,rfl,hR7,hb7⟩
    obtain ⟨A9,c9,rfl⟩:=Kd.R_slice hR7
    obtain ⟨N9,hN9⟩:∃N9,N9=ns.length:=⟨_,rfl⟩
    rw [←hN9] at hnl ⊢
    have HN9:Hid (nv ⟨mkA s as_,g,ps,p0⟩=N9):=HV.out.trans hN9.symm
    have HB7:=hid hb7
    have s7:=hb7.size
    have KR7:Hid (w7.heap[w.heap.size]? =some ruleZ):=(hb7.block _ (Go.Proofs.YtjlnpdpkobpkiaaGreatDoor.blk_lt KR6.out)).trans KR6.out
    have KO7:Hid (w7.heap[w1.heap.size]? =some (.cells #[.string (bL s),.slice A n c,.int .i64 g,.slice B m cB,.int .i64 p0] 37 (0,0))):=(hb7.block _ (Go.Proofs.YtjlnpdpkobpkiaaGreatDoor.blk_lt KO6.out)).trans KO6.out
    have FT7:Hid (Fr (fun i=>i=E.b) w w7):=FT6.out.old hb7
    clear hb7 hR7 o0 o1 o2 o3 o4 p0c p1c p2c p3c p4c
    by_cases h16:16<N9
    · have h16' : (16 : Int) < (N9 : Int) := by omega
      have HQ:Hid (ruleP nv l= .error (3,(pk l 0).start)):=by
        show _=_
        unfold ruleP
        rw [HC.out]
        simp only
        rw [HP.out,HN9.out,if_pos h16]
      obtain ⟨⟨o0,o1,o2,o3,o4⟩,p0c,p1c,p2c,p3c,p4c⟩:=blk5 KO7.out
      have HFN:Hid (∀W,Fr (fun _=>False) w7 W→Calls Tryz.prog 40 #[.int .i64 3,.int .i64 p0,.string ⟨#[118,97,114,105,97,98,108,101,115]⟩] W (NewPost W 3 p0 ⟨#[118,97,114,105,97,98,108,101,115]⟩)):=fun W _=>FNew_any _ _ _ _
      have F0:Fr (fun _=>False) w7 w7.drew:=(Fr.refl _ _).drew
      go_wp2_with fail
      go_region_with (go_at_call 40;refine (HFN.out _ F0).mono ?_;rintro e w8 ⟨f,rfl,hFa8,hlf8,hb8⟩;have F1':Fr (fun _=>False) w7 w8:=F0.old hb8;obtain ⟨⟨r0,r1,r2,r3,r4⟩,q0,q1,q2,q3,q4⟩:=blk5 ((F1'.block _ (Go.Proofs.YtjlnpdpkobpkiaaGreatDoor.blk_lt KR7.out) (fun h=>h)).trans KR7.out);obtain ⟨⟨v0,v1,v2,v3,v4⟩,_⟩:=blk5 ((F1'.block _ (Go.Proofs.YtjlnpdpkobpkiaaGreatDoor.blk_lt KO7.out) (fun h=>h)).trans KO7.out))
      all_goals
       have K8:=hid (And.intro hFa8 F1')
       clear hFa8 hb8
       go_wp2
       refine bodyPost_ret (v:= .tuple #[.agg #[.string (bL s),.slice A n c,.int .i64 g,.slice B m cB,.int .i64 p0],faultV f]) (by simp [results,Tryz.results53,go_sem,r0,r1,r2,r3,r4]) rfl ?_
       rw [HQ.out]
       rw [show w7.drew.heap.size=w7.heap.size from rfl] at hlf8
       refine ⟨f,⟨#[118,97,114,105,97,98,108,101,115]⟩,_,rfl,⟨_,_,_,_,_,_,_,_,_,rfl⟩,?_,by omega,?_⟩
       · rw [HP.out]
         exact K8.out.1.put5 (by omega)
       · exact (FT7.out.trans K8.out.2 (fun i _ e=>e.elim)).put5 (Nat.le_refl _)
    · have h16' : ¬ (16 : Int) < (N9 : Int) := by omega
      have HQ:Hid (ruleP nv l= .ok (⟨mkA s as_,g,ps,p0⟩,l6)):=by
        show _=_
        unfold ruleP
        rw [HC.out]
        simp only
        rw [HP.out,HN9.out,if_neg h16]
      obtain ⟨⟨o0,o1,o2,o3,o4⟩,p0c,p1c,p2c,p3c,p4c⟩:=blk5 KO7.out
      obtain ⟨⟨r0,r1,r2,r3,r4⟩,q0,q1,q2,q3,q4⟩:=blk5 KR7.out
      go_wp2
      refine bodyPost_ret (v:= .tuple #[.agg #[.string (bL s),.slice A n c,.int .i64 g,.slice B m cB,.int .i64 p0],.nilIface]) (by simp [results,Tryz.results53,go_sem,r0,r1,r2,r3,r4]) rfl ?_
      rw [HQ.out]
      refine ⟨j6,A,c,B,cB,by rw [HN.out,HM.out];rfl,?_,by have h1:=HN.out;have h2:=HLe.out.1;show as_.length≤c;omega,?_,by have h1:=HM.out;have h2:=HLe.out.2;show ps.length≤cB;omega,?_,?_⟩
      · exact (HA6.out.below HB7.out).put5 (by omega) (by omega)
      · show Kd.F k98 _ _ A as_.length as_
        rw [←HN.out]
        exact Kd.F_mono (Kd.F_step (Kd.F_below FA6.out HB7.out) (fun i hi hlt=>(Fr.self5 (b:=w.heap.size)).block i hlt (by have:=hi.1;omega))) (fun i hi=>by have:=hi.1;omega)
      · show Kd.F k106 _ _ B ps.length ps
        rw [←HM.out]
        exact Kd.F_mono (Kd.F_step (Kd.F_below FB6.out HB7.out) (fun i hi hlt=>(Fr.self5 (b:=w.heap.size)).block i hlt (by have:=hi.1;omega))) (fun i hi=>by have:=hi.1;omega)
      · exact FT7.out.put5 (Nat.le_refl _)
end Go.Proofs.YtjlnpdpkobpkiaaGreatDoorPSP
set_option linter.unusedVariables false
set_option linter.unusedSimpArgs false
namespace Go.Proofs.YtjlnpdpkobpkiaaGreatDoorPSP
open Go.RowKit Go.Extern.Stop Go.Stop Go.Extern Go.Proofs.YtjlnpdpkobpkiaaGreatDoorW.PrintWords Go.Proofs.YtjlnpdpkobpkiaaGreatDoor
theorem infoPt:(Tryz.prog.info? 106).map (fun i=>(i.zero,i.size,i.bytes))=some (some (.agg #[.int .i64 0,.string ⟨#[]⟩,.slice none 0 0,.int .i64 0,.int .i64 0,.string ⟨#[]⟩,.int .i64 0,.int .i64 0,.string ⟨#[]⟩,.int .i64 0,.string ⟨#[]⟩,.int .i64 0,.string ⟨#[]⟩,.int .i64 0,.int .i64 0,.slice none 0 0]),16,200):=by kernel_rfl
structure BdOk (E:Env) (w:World) (o:Nat) (s:List UInt8) (as_:List Tm) (g p0:Int) (A:Option Addr) (n c:Nat) (ps:List Pt) (B:Option Addr) (m cB:Nat) (wr:World) (j:Nat) (l:List Tk):Prop where
  at_:At E wr j 0 l
  ko:wr.heap[o]? =some (.cells #[.string (bL s),.slice A n c,.int .i64 g,.slice B m cB,.int .i64 p0] 37 (0,0))
  kr:wr.heap[w.heap.size]? =some ruleZ
  fr:Fr (fun i=>i=E.b) w wr
  fa:Kd.F k98 wr (fun i=>w.heap.size+1≤i∧i<o) A n as_
  row:Kd.N k106 106 wr (o+1) (fun i=>o<i) (.slice B m cB) ps
  ps:∀p∈ps,PS 30000 p
theorem BdOk.step {E:Env} {w wr w':World} {o:Nat} {s:List UInt8} {as_:List Tm} {g p0:Int} {A:Option Addr} {n c:Nat} {ps:List Pt} {B:Option Addr} {m cB j j':Nat} {l l':List Tk} (h:BdOk E w o s as_ g p0 A n c ps B m cB wr j l)
    (lb:E.b<w.heap.size) (lo:w.heap.size+1≤o) (hf:Fr (fun i=>i=E.b) wr w') (ha:At E w' j' 0 l'):BdOk E w o s as_ g p0 A n c ps B m cB w' j' l':=
  ⟨ha,(hf.block _ (Go.Proofs.YtjlnpdpkobpkiaaGreatDoor.blk_lt h.ko) (by omega)).trans h.ko,(hf.block _ (Go.Proofs.YtjlnpdpkobpkiaaGreatDoor.blk_lt h.kr) (by omega)).trans h.kr,h.fr.trans hf (fun i _ e=>e),Kd.F_step h.fa (fun i hi hlt=>hf.block i hlt (by have:=hi.1;omega)),Kd.N_step h.row (fun i hi hlt=>hf.block i hlt (by have:=hi;omega)),h.ps⟩
theorem BdOk.grow {E:Env} {w wr w':World} {o:Nat} {s:List UInt8} {as_:List Tm} {g p0:Int} {A:Option Addr} {n c:Nat} {ps:List Pt} {p:Pt} {B:Option Addr} {m cB j:Nat} {l:List Tk} {v':Value} {K:Obj} (h:BdOk E w o s as_ g p0 A n c ps B m cB wr j l)
    (lb:E.b<w.heap.size) (lg:E.g<w.heap.size) (lo:w.heap.size+1≤o) (hR:Kd.N k106 106 w' (o+1) (fun i=>o<i) v' (ps++[p])) (hg:(wr.alloc K).grownBy w' (Value.slice B m cB).ownBlock) (hp:PS 30000 p):
    ∃B' m' cB',v'= .slice B' m' cB'∧Hid (m'=(ps++[p]).length)∧w'.cell? ⟨o,3,none⟩=some (.slice B m cB)∧w'.frozen? ⟨o,3,none⟩=false∧Hid (BdOk E w o s as_ g p0 A n c (ps++[p]) B' m' cB' (w'.setCell ⟨o,3,none⟩ (.slice B' m' cB')) j l):=by
  obtain ⟨B',cB',rfl⟩:=Kd.N_slice hR
  have hown:∀i,(Value.slice B m cB).ownBlock=some i→o<i:=fun i hi=>h.row.1 i hi
  have hf:Fr (fun i=>(Value.slice B m cB).ownBlock=some i) wr w':=((Fr.refl _ wr).alloc K).trans (Fr.grown hg) (fun i _ e=>e)
  have hko:=(hf.block _ (Go.Proofs.YtjlnpdpkobpkiaaGreatDoor.blk_lt h.ko) (fun e=>by have:=hown _ e;omega)).trans h.ko
  have hS:Fr (fun i=>i=o) w' (w'.setCell ⟨o,3,none⟩ (.slice B' (ps++[p]).length cB')):=Fr.setCell w' ⟨o,3,none⟩ _
  have hfo:Fr (fun i=>(Value.slice B m cB).ownBlock=some i∨i=o) wr (w'.setCell ⟨o,3,none⟩ (.slice B' (ps++[p]).length cB')):=(hf.mono (fun i _ e=> .inl e)).trans hS (fun i _ e=> .inr e)
  refine ⟨B',_,cB',rfl,hid rfl,cell_blk hko 3,Lib.frozen_of_heap hko 3,hid ⟨?_,?_,?_,?_,?_,?_,?_⟩⟩
  · exact (h.at_.keep hf (fun e=>by have:=hown _ e;omega) (fun e=>by have:=hown _ e;omega)).keep hS (by omega) (by omega)
  · have := Go.Proofs.YtjlnpdpkobpkiaaGreatDoor.blk_set (o := 3) hko (.slice B' (ps ++ [p]).length cB')
    rw [this]
    simp
  · exact (hfo.block _ (Go.Proofs.YtjlnpdpkobpkiaaGreatDoor.blk_lt h.kr) (fun e=>by rcases e with e|e;have:=hown _ e;omega;omega)).trans h.kr
  · exact h.fr.trans hfo (fun i hi e=>by rcases e with e|e;have:=hown _ e;omega;omega)
  · exact Kd.F_step h.fa (fun i hi hlt=>hfo.block i hlt (fun e=>by have h2:=hi.2;rcases e with e|e;have:=hown _ e;omega;omega))
  · exact Kd.N_step hR (fun i hi hlt=>hS.block i hlt (by have:=hi;omega))
  · intro q hq
    rcases List.mem_append.1 hq with hq|hq
    · exact h.ps q hq
    · rw [List.mem_singleton] at hq
      subst hq
      exact hp
theorem partsL_s (n:Nat) (acc:List Pt):partsL (n+1) acc=bnd partP (fun p l'=>if isS l' 0 [44]=true then partsL n (acc++[p]) (l'.drop 1) else .ok (acc++[p],l')):=rfl
def afterB (s:List UInt8) (as_:List Tm) (g:Int):List Pt→List Tk→Rs (Am×Int×List Pt):=fun b=>bnd (wantP [46]) (fun _ l'=> .ok ((mkA s as_,g,b),l'))
set_option maxHeartbeats 8000000 in
set_option maxRecDepth 100000 in
theorem rule_body {E:Env} {w:World} {j:Nat} {l l1:List Tk} {s:List UInt8} {as_:List Tm} {g:Int} (h:At E w j 0 l) (hh:headP l= .ok ((mkA s as_,g),l1)) (hs:isS l1 0 [58,45]=true):
    Calls Tryz.prog 53 #[.pointer (some ⟨E.b,0,none⟩)] w (RulePost E w (ruleP nv l)):=by
  have h6:as_.length≤6:=head_len hh
  have HL1:Hid (ruleC l=bnd (partsL 12 []) (afterB s as_ g) (l1.drop 1)):=by
    show _=_
    unfold ruleC
    rw [bnd,hh]
    simp only
    rw [bnd,bodyP,if_pos hs]
    rfl
  have HR:=hid (h.alloc ruleZ)
  have H:=hid h
  have lb:=h.lb
  have lg:=h.lg
  have HH:=hid (head_any14 HR.out)
  obtain ⟨p0,hp0⟩:∃n:Int,((pk l 0).start:Int)=n:=⟨_,rfl⟩
  rw [hp0] at HH
  have HP:=hid hp0
  have ll:l.length≤30000:=by rw [h.l,List.length_drop];have:=E.len;omega
  have HHH:=hid hh
  clear h hp0 hh
  go_enter Tryz.func53,Tryz.ntmps53
  go_wp2_with fail
  refine HH.out.mono ?_
  intro e w1 hp
  rw [HHH.out] at hp
  obtain ⟨j1,A,c,rfl,hA,hc,hK,hF⟩:=hp
  obtain ⟨n,hn⟩:∃n,n=as_.length:=⟨_,rfl⟩
  have s1:=hF.size
  simp at s1
  have HA1:=hid (hA.alloc (.cells #[.string (bL s),.slice A n c,.int .i64 g,.slice none 0 0,.int .i64 p0] 37))
  have KO1:Hid ((w1.alloc (.cells #[.string (bL s),.slice A n c,.int .i64 g,.slice none 0 0,.int .i64 p0] 37)).heap[w1.heap.size]? =some (.cells #[.string (bL s),.slice A n c,.int .i64 g,.slice none 0 0,.int .i64 p0] 37 (0,0))):=heap_alloc_new w1 _
  have KR1:Hid ((w1.alloc (.cells #[.string (bL s),.slice A n c,.int .i64 g,.slice none 0 0,.int .i64 p0] 37)).heap[w.heap.size]? =some ruleZ):=(Lib.alloc_old w1 _ _ (by omega)).trans ((hF.block _ (by simp) (by omega)).trans (heap_alloc_new w ruleZ))
  have FT1:Hid (Fr (fun i=>i=E.b) w (w1.alloc (.cells #[.string (bL s),.slice A n c,.int .i64 g,.slice none 0 0,.int .i64 p0] 37))):=hid ((((Fr.refl _ w).alloc ruleZ).trans hF (fun i _ e=>e)).alloc _)
  have FA1:Hid (Kd.F k98 (w1.alloc (.cells #[.string (bL s),.slice A n c,.int .i64 g,.slice none 0 0,.int .i64 p0] 37)) (fun i=>w.heap.size+1≤i∧i<w1.heap.size) A n as_):=by
    rw [hn]
    exact Kd.F_mono (Kd.F_alloc (Kd.F_bound hK) _) (fun i hi=>⟨by have:=hi.1;simp at this;omega,by have:=hi.2;omega⟩)
  have HNc:Hid (n≤c):=by show _≤_;rw [hn];exact hc
  have HL6:Hid (n≤6):=by show _≤_;rw [hn];exact h6
  have HN:=hid hn
  rw [show (mkA s as_).f1.length=n from hn.symm,show (mkA s as_).f0=bL s from rfl]
  have HT:=hid (take_any HA1.out [58,45])
  have lo:w.heap.size+1≤w1.heap.size:=by omega
  clear hA hc hK hF hn h6
  go_wp2_with fail
  refine HT.out.mono ?_
  rintro e w5 ⟨rfl,t1,t2⟩
  have T1:=hid (t1 hs)
  rw [hs]
  have S0:Hid (BdOk E w w1.heap.size s as_ g p0 A n c [] none 0 0 w5 (j1+1) (l1.drop 1)):=hid ⟨T1.out.1,(T1.out.2.block _ (Go.Proofs.YtjlnpdpkobpkiaaGreatDoor.blk_lt KO1.out) (by omega)).trans KO1.out,(T1.out.2.block _ (Go.Proofs.YtjlnpdpkobpkiaaGreatDoor.blk_lt KR1.out) (by omega)).trans KR1.out,FT1.out.trans T1.out.2 (fun i _ e=>e),Kd.F_step FA1.out (fun i hi hlt=>T1.out.2.block i hlt (by have:=hi.1;omega)),Kd.N_nil _ _ _ _ _,fun p hp=>by cases hp⟩
  clear t1 t2 hs HT KO1 KR1 FT1 FA1 HA1
  go_wp2_with fail
  go_loopg [7] 14 (fun gk v wr=>w1.heap.size<wr.heap.size∧∃(ps:List Pt) (B:Option Addr) (m cB j':Nat) (l':List Tk),Hid (m=ps.length)∧m≤12∧12-m<gk∧Hid (BdOk E w w1.heap.size s as_ g p0 A n c ps B m cB wr j' l')∧Hid (ruleC l=bnd (partsL (12-m) ps) (afterB s as_ g) l'))
  case atStart=>exact ⟨Go.Proofs.YtjlnpdpkobpkiaaGreatDoor.blk_lt S0.out.ko,[],none,0,0,j1+1,l1.drop 1,hid rfl,by decide,by decide,S0,HL1⟩
  case round=>
    clear S0 HL1 T1
    obtain ⟨hsz,ps,B,m,cB,j2,l2,HM,h12,hgk,S,HL⟩:=hrel
    obtain ⟨wo,rfl⟩:∃x:World,x=wr:=⟨_,rfl⟩
    obtain ⟨⟨o0,o1,o2,o3,o4⟩,p0c,p1c,p2c,p3c,p4c⟩:=blk5 S.out.ko
    by_cases hm12:m=12
    · subst hm12
      have HQ:Hid (ruleP nv l= .error (3,(pk l2 0).start)):=by
        show _=_
        have hc:ruleC l= .error (3,(pk l2 0).start):=by rw [HL.out];rfl
        unfold ruleP
        rw [hc]
      have HFl:Hid (∀W,Fr (fun _=>False) wo W→Calls Tryz.prog 50 #[.pointer (some ⟨E.b,0,none⟩),.int .i64 3,.string ⟨#[112,97,114,116,115]⟩] W (FailPost W 3 (pk l2 0).start)):=fun W hW=>fail_any (S.out.at_.keep hW (fun f=>f) (fun f=>f)) 3 _
      have F0:Fr (fun _=>False) wo wo.drew:=(Fr.refl _ _).drew
      go_wp2_with fail
      go_region_with (go_at_call 50;refine (HFl.out _ F0).mono ?_;rintro e w8 ⟨f,what,rfl,hFa8,hlf8,hb8⟩;have F1':Fr (fun _=>False) wo w8:=F0.old hb8;obtain ⟨⟨r0,r1,r2,r3,r4⟩,q0,q1,q2,q3,q4⟩:=blk5 ((F1'.block _ (Go.Proofs.YtjlnpdpkobpkiaaGreatDoor.blk_lt S.out.kr) (fun h=>h)).trans S.out.kr);obtain ⟨⟨v0,v1,v2,v3,v4⟩,_⟩:=blk5 ((F1'.block _ (Go.Proofs.YtjlnpdpkobpkiaaGreatDoor.blk_lt S.out.ko) (fun h=>h)).trans S.out.ko))
      all_goals
       have K8:=hid (And.intro hFa8 F1')
       clear hFa8 hb8
       go_wp2
       refine bodyPost_ret (v:= .tuple #[.agg #[.string (bL s),.slice A n c,.int .i64 g,.slice B 12 cB,.int .i64 p0],faultV f]) (by simp [results,Tryz.results53,go_sem,r0,r1,r2,r3,r4]) rfl ?_
       rw [HQ.out]
       rw [show wo.drew.heap.size=wo.heap.size from rfl] at hlf8
       refine ⟨f,what,_,rfl,⟨_,_,_,_,_,_,_,_,_,rfl⟩,?_,by omega,?_⟩
       · exact K8.out.1.put5 (by omega)
       · exact (S.out.fr.trans K8.out.2 (fun i _ e=>e.elim)).put5 (Nat.le_refl _)
    · have hm11 : m < 12 := by omega
      have HPa:=hid (part_any S.out.at_)
      have ll2:l2.length≤30000:=by rw [S.out.at_.l,List.length_drop];have:=E.len;omega
      go_wp2_with fail
      refine HPa.out.mono ?_
      intro e w2 hp
      cases hr:partP l2 with
      |error v=>
        obtain ⟨t,p⟩:=v
        have HQ:Hid (ruleP nv l= .error (t,p)):=by
          show _=_
          have hc:ruleC l= .error (t,p):=by
            rw [HL.out,show 12-m=(11-m)+1 by omega,partsL_s]
            simp only [bnd,hr]
          unfold ruleP
          rw [hc]
        rw [hr] at hp
        obtain ⟨f,what,u,rfl,⟨a0,a1,A2,n2,c2,a3,a4,a5,a6,a7,a8,a9,a10,a11,a12,a13,a14,A15,n15,c15,rfl⟩,hFa,hlf,hF⟩:=hp
        have K:=hid (And.intro hFa hF)
        have s2:=hF.size
        clear o0 o1 o2 o3 o4 p0c p1c p2c p3c p4c
        have KRa:=(hF.block _ (Go.Proofs.YtjlnpdpkobpkiaaGreatDoor.blk_lt S.out.kr) (by omega)).trans S.out.kr
        have KOa:=(hF.block _ (Go.Proofs.YtjlnpdpkobpkiaaGreatDoor.blk_lt S.out.ko) (by omega)).trans S.out.ko
        obtain ⟨KK,hKK⟩:∃KK:Obj,KK= .cells #[.int .i64 a0,.string a1,.slice A2 n2 c2,.int .i64 a3,.int .i64 a4,.string a5,.int .i64 a6,.int .i64 a7,.string a8,.int .i64 a9,.string a10,.int .i64 a11,.string a12,.int .i64 a13,.int .i64 a14,.slice A15 n15 c15] 106:=⟨_,rfl⟩
        have KRb:=(Lib.alloc_old w2 KK _ (Go.Proofs.YtjlnpdpkobpkiaaGreatDoor.blk_lt KRa)).trans KRa
        have KOb:=(Lib.alloc_old w2 KK _ (Go.Proofs.YtjlnpdpkobpkiaaGreatDoor.blk_lt KOa)).trans KOa
        rw [hKK] at KRb KOb
        obtain ⟨⟨r0,r1,r2,r3,r4⟩,q0,q1,q2,q3,q4⟩:=blk5 KRb
        obtain ⟨⟨o0,o1,o2,o3,o4⟩,p0c,p1c,p2c,p3c,p4c⟩:=blk5 KOb
        have d1:w.heap.size≠w2.heap.size:=by omega
        have d2:w1.heap.size≠w2.heap.size:=by omega
        clear hFa hF hr KRa KOa KRb KOb hKK
        go_wp2
        refine bodyPost_ret (v:= .tuple #[.agg #[.string (bL s),.slice A n c,.int .i64 g,.slice B m cB,.int .i64 p0],faultV f]) (by simp [results,Tryz.results53,go_sem,r0,r1,r2,r3,r4,d1,d2]) rfl ?_
        rw [HQ.out]
        refine ⟨f,what,_,rfl,⟨_,_,_,_,_,_,_,_,_,rfl⟩,?_,by omega,?_⟩
        · exact FaultAt.put5 ((Lib.alloc_old w2 _ f (Go.Proofs.YtjlnpdpkobpkiaaGreatDoor.blk_lt K.out.1)).trans K.out.1) (by omega)
        · exact ((S.out.fr.trans K.out.2 (fun i _ e=>e)).alloc _).put5 (Nat.le_refl _)
      |ok v=>
        obtain ⟨p,l3⟩:=v
        have HL3:Hid (ruleC l=bnd (fun l'=>if isS l' 0 [44]=true then partsL (11-m) (ps++[p]) (l'.drop 1) else .ok (ps++[p],l')) (afterB s as_ g) l3):=by
          show _=_
          rw [HL.out,show 12-m=(11-m)+1 by omega,partsL_s]
          simp only [bnd,hr]
        have HPS:Hid (PS 30000 p):=(part_x hr).le ll2
        rw [hr] at hp
        obtain ⟨j3,A2,c2,A3,c3,rfl,hA,hc2,hK2,hc3,hK3,hF⟩:=hp
        have S2:=hid (S.out.step lb lo hF hA)
        have s2:=hF.size
        have KF2:=hid hK2
        have KF3:=hid hK3
        have HC2:=hid hc2
        have HC3:=hid hc3
        have HLn:Hid ((ps.length+1)*200≤140737488355328):=by have:=HM.out;show _≤_;omega
        clear o0 o1 o2 o3 o4 p0c p1c p2c p3c p4c hA hF hK2 hK3 hc2 hc3 hr
        have KO2:=(Lib.alloc_old w2 (.cells #[.int .i64 p.f0,.string p.f1.f0,.slice A2 p.f1.f1.length c2,.int .i64 p.f2,.int .i64 p.f3.f0,.string p.f3.f1,.int .i64 p.f3.f2,.int .i64 p.f4.f0,.string p.f4.f1,.int .i64 p.f4.f2,.string p.f5,.int .i64 p.f6.f0.f0,.string p.f6.f0.f1,.int .i64 p.f6.f0.f2,.int .i64 p.f6.f1,.slice A3 p.f6.f2.length c3] 106) _ (Go.Proofs.YtjlnpdpkobpkiaaGreatDoor.blk_lt S2.out.ko)).trans S2.out.ko
        obtain ⟨⟨o0,o1,o2,o3,o4⟩,p0c,p1c,p2c,p3c,p4c⟩:=blk5 KO2
        have d2:w1.heap.size≠w2.heap.size:=by omega
        have hz3:(w2.alloc (.cells #[.int .i64 p.f0,.string p.f1.f0,.slice A2 p.f1.f1.length c2,.int .i64 p.f2,.int .i64 p.f3.f0,.string p.f3.f1,.int .i64 p.f3.f2,.int .i64 p.f4.f0,.string p.f4.f1,.int .i64 p.f4.f2,.string p.f5,.int .i64 p.f6.f0.f0,.string p.f6.f0.f1,.int .i64 p.f6.f0.f2,.int .i64 p.f6.f1,.slice A3 p.f6.f2.length c3] 106)).heap.size=w2.heap.size+1:=by simp
        clear KO2
        go_wp2_with (at_builtin;go_must (refine Kd.N_append k106 (w0:=w2.alloc (.cells #[.int .i64 p.f0,.string p.f1.f0,.slice A2 p.f1.f1.length c2,.int .i64 p.f2,.int .i64 p.f3.f0,.string p.f3.f1,.int .i64 p.f3.f2,.int .i64 p.f4.f0,.string p.f4.f1,.int .i64 p.f4.f2,.string p.f5,.int .i64 p.f6.f0.f0,.string p.f6.f0.f1,.int .i64 p.f6.f0.f2,.int .i64 p.f6.f1,.slice A3 p.f6.f2.length c3] 106)) (w1.heap.size+1) rfl _ _ 35 106 (.agg #[.int .i64 0,.string ⟨#[]⟩,.slice none 0 0,.int .i64 0,.int .i64 0,.string ⟨#[]⟩,.int .i64 0,.int .i64 0,.string ⟨#[]⟩,.int .i64 0,.string ⟨#[]⟩,.int .i64 0,.string ⟨#[]⟩,.int .i64 0,.int .i64 0,.slice none 0 0]) 200 rfl Tryz.underlying35 infoPt rfl (by decide) (by decide) (.slice B m cB) ps p [.int .i64 p.f0,.string p.f1.f0,.slice A2 p.f1.f1.length c2,.int .i64 p.f2,.int .i64 p.f3.f0,.string p.f3.f1,.int .i64 p.f3.f2,.int .i64 p.f4.f0,.string p.f4.f1,.int .i64 p.f4.f2,.string p.f5,.int .i64 p.f6.f0.f0,.string p.f6.f0.f1,.int .i64 p.f6.f0.f2,.int .i64 p.f6.f1,.slice A3 p.f6.f2.length c3] (fun i=>w1.heap.size<i) (fun i=>wo.heap.size≤i) rfl (by rw [hz3];rfl) (k106_mkF _ _ p HC2.out (Kd.F_alloc KF2.out _) HC3.out (Kd.F_alloc KF3.out _)) (fun i hi=>⟨by have:=hi;omega,fun e=>by have:=Kd.N_lt S.out.row i e.symm;have:=hi;omega⟩) (fun i hi=>by have:=hi;rw [hz3] at this;omega) (Kd.N_alloc S2.out.row _) (Below.refl _ _) (by rw [hz3];omega) HLn.out ?_);intro v9 w9 hN9 hB9 hg9 _;have hq:=S2.out.grow lb lg lo hN9 hg9 HPS.out;obtain ⟨B',m',cB',rfl,HM',k3,k4,S9⟩:=hq;clear hN9 hB9 hg9)
        have HTk:=hid (take_any S9.out.at_ [44])
        clear o0 o1 o2 o3 o4 p0c p1c p2c p3c p4c
        go_wp2_with fail
        refine HTk.out.mono ?_
        rintro e w10 ⟨rfl,t1,t2⟩
        cases hs3:isS l3 0 [44] with
        |true=>
          have T1:=hid (t1 hs3)
          have HL4:Hid (ruleC l=bnd (partsL (12-m') (ps++[p])) (afterB s as_ g) (l3.drop 1)):=by
            show _=_
            rw [HL3.out,HM'.out,List.length_append,List.length_singleton,show 12-(ps.length+1)=11-ps.length by omega,←HM.out]
            simp only [bnd,hs3,if_true]
          have hm':m'=m+1:=by rw [HM'.out,List.length_append,List.length_singleton,HM.out]
          have HMm:=hid hm'
          clear t1 t2 hs3 hm'
          go_wp2
          go_roundg (12-m)
          case measure=>omega
          case rel=>
            have hm':=HMm.out
            have SX:=S9.out.step lb lo T1.out.2 T1.out.1
            exact ⟨Go.Proofs.YtjlnpdpkobpkiaaGreatDoor.blk_lt SX.ko,ps++[p],B',m',cB',j3+1,l3.drop 1,HM',by omega,by omega,hid SX,HL4⟩
        |false=>
          have T2:=hid (t2 hs3)
          have SX:=hid (S9.out.step lb lo (Fr.ofB T2.out) (S9.out.at_.below T2.out))
          obtain ⟨l5,hl5⟩:∃l5,l5=l3:=⟨_,rfl⟩
          have HL:Hid (ruleC l=bnd (wantP [46]) (fun _ l'=> .ok ((mkA s as_,g,ps++[p]),l')) l5):=by
            show _=_
            rw [HL3.out,hl5]
            simp only [bnd,hs3]
            rfl
          have hpl:(ps++[p]).length≤12:=by rw [List.length_append,List.length_singleton];have:=HM.out;omega
          obtain ⟨ps',hps'⟩:∃ps':List Pt,ps'=ps++[p]:=⟨_,rfl⟩
          rw [←hps'] at SX HL HM' hpl
          have HA:Hid (At E w10 j3 0 l5):=by rw [hl5];exact SX.out.at_
          have KO:Hid (w10.heap[w1.heap.size]? =some (.cells #[.string (bL s),.slice A n c,.int .i64 g,.slice B' m' cB',.int .i64 p0] 37 (0,0))):=SX.out.ko
          have KR:Hid (w10.heap[w.heap.size]? =some ruleZ):=SX.out.kr
          have FT:Hid (Fr (fun i=>i=E.b) w w10):=SX.out.fr
          have FA:Hid (Kd.F k98 w10 (fun i=>w.heap.size+1≤i∧i≠w1.heap.size) A n as_):=Kd.F_mono SX.out.fa (fun i hi=>⟨hi.1,by have:=hi.2;omega⟩)
          have FB:Hid (Kd.F k106 w10 (fun i=>w.heap.size+1≤i∧i≠w1.heap.size) B' m' ps'):=Kd.F_mono (Kd.N_F SX.out.row) (fun i hi=>⟨by have:=hi;omega,by have:=hi;omega⟩)
          have HLe:Hid (n≤c∧m'≤cB'):=⟨HNc.out,(Kd.N_reads' SX.out.row).2.1⟩
          have HS:Hid ((mkA s as_).f1.length≤6∧ps'.length≤12∧∀p∈ps',PS 30000 p):=⟨by show as_.length≤6;rw [←HN.out];exact HL6.out,hpl,SX.out.ps⟩
          clear t1 t2 hs3 hl5 hps' hpl S9 S2 S HM HL3 HTk
          have HWt:=hid (want_any HA.out [46])
          have s5:=Go.Proofs.YtjlnpdpkobpkiaaGreatDoor.blk_lt KR.out
          go_wp2_with fail
          refine HWt.out.mono ?_
          intro e w6 hp
          cases hr:wantP [46] l5 with
          |error v=>
            obtain ⟨t,p⟩:=v
            have HQ:Hid (ruleP nv l= .error (t,p)):=by
              show _=_
              have hc:ruleC l= .error (t,p):=by rw [HL.out];unfold bnd;rw [hr]
              unfold ruleP
              rw [hc]
            rw [hr] at hp
            obtain ⟨f,what,rfl,hFa,hlf,hF⟩:=hp
            have K:=hid (And.intro hFa hF)
            have s6:=hF.size
            obtain ⟨⟨r0,r1,r2,r3,r4⟩,q0,q1,q2,q3,q4⟩:=blk5 ((hF.block _ (Go.Proofs.YtjlnpdpkobpkiaaGreatDoor.blk_lt KR.out) (by omega)).trans KR.out)
            obtain ⟨⟨o0,o1,o2,o3,o4⟩,p0c,p1c,p2c,p3c,p4c⟩:=blk5 ((hF.block _ (Go.Proofs.YtjlnpdpkobpkiaaGreatDoor.blk_lt KO.out) (by omega)).trans KO.out)
            clear hFa hF hr
            go_wp2
            refine bodyPost_ret (v:= .tuple #[.agg #[.string (bL s),.slice A n c,.int .i64 g,.slice B' m' cB',.int .i64 p0],faultV f]) (by simp [results,Tryz.results53,go_sem,r0,r1,r2,r3,r4]) rfl ?_
            rw [HQ.out]
            refine ⟨f,what,_,rfl,⟨_,_,_,_,_,_,_,_,_,rfl⟩,?_,by omega,?_⟩
            · exact K.out.1.put5 (by omega)
            · exact (FT.out.trans K.out.2 (fun i _ e=>e)).put5 (Nat.le_refl _)
          |ok v=>
            obtain ⟨u,l6⟩:=v
            have HC:Hid (ruleC l= .ok ((mkA s as_,g,ps'),l6)):=by show _=_;rw [HL.out];unfold bnd;rw [hr]
            rw [hr] at hp
            obtain ⟨j6,rfl,hA6,hF⟩:=hp
            have s6:=hF.size
            have KR6:Hid (w6.heap[w.heap.size]? =some ruleZ):=(hF.block _ (Go.Proofs.YtjlnpdpkobpkiaaGreatDoor.blk_lt KR.out) (by omega)).trans KR.out
            have KO6:Hid (w6.heap[w1.heap.size]? =some (.cells #[.string (bL s),.slice A n c,.int .i64 g,.slice B' m' cB',.int .i64 p0] 37 (0,0))):=(hF.block _ (Go.Proofs.YtjlnpdpkobpkiaaGreatDoor.blk_lt KO.out) (by omega)).trans KO.out
            have FT6:Hid (Fr (fun i=>i=E.b) w w6):=FT.out.trans hF (fun i _ e=>e)
            have FA6:Hid (Kd.F k98 w6 (fun i=>w.heap.size+1≤i∧i≠w1.heap.size) A n as_):=Kd.F_step FA.out (fun i hi hlt=>hF.block i hlt (by have:=hi.1;omega))
            have FB6:Hid (Kd.F k106 w6 (fun i=>w.heap.size+1≤i∧i≠w1.heap.size) B' m' ps'):=Kd.F_step FB.out (fun i hi hlt=>hF.block i hlt (by have:=hi.1;omega))
            have HA6:=hid hA6
            obtain ⟨ns,hns,hnl,hnv⟩:=rule_vars ⟨mkA s as_,g,ps',p0⟩ HS.out.1 HS.out.2.1 HS.out.2.2
            have HV:Hid (nv ⟨mkA s as_,g,ps',p0⟩=ns.length):=hnv
            have HCl:=hid (syntax_Rule_Vars.calls 2000000 (bL s) A c as_ g B' cB' ps' p0 ns w6 (by have:=Kd.F_now FA6.out;rw [HN.out] at this;exact this) (by rw [←HN.out];exact HLe.out.1) (by have:=Kd.F_now FB6.out;rw [HM'.out] at this;exact this) (by rw [←HM'.out];exact HLe.out.2) hns)
            rw [←HN.out,←HM'.out] at HCl
            obtain ⟨⟨o0,o1,o2,o3,o4⟩,p0c,p1c,p2c,p3c,p4c⟩:=blk5 KO6.out
            clear hA6 hF hr hns hnv
            go_wp2_with fail
            refine HCl.out.mono ?_
            rintro e w7 ⟨v0,rfl,hR7,hb7⟩
            obtain ⟨A9,c9,rfl⟩:=Kd.R_slice hR7
            obtain ⟨N9,hN9⟩:∃N9,N9=ns.length:=⟨_,rfl⟩
            rw [←hN9] at hnl ⊢
            have HN9:Hid (nv ⟨mkA s as_,g,ps',p0⟩=N9):=HV.out.trans hN9.symm
            have HB7:=hid hb7
            have s7:=hb7.size
            have KR7:Hid (w7.heap[w.heap.size]? =some ruleZ):=(hb7.block _ (Go.Proofs.YtjlnpdpkobpkiaaGreatDoor.blk_lt KR6.out)).trans KR6.out
            have KO7:Hid (w7.heap[w1.heap.size]? =some (.cells #[.string (bL s),.slice A n c,.int .i64 g,.slice B' m' cB',.int .i64 p0] 37 (0,0))):=(hb7.block _ (Go.Proofs.YtjlnpdpkobpkiaaGreatDoor.blk_lt KO6.out)).trans KO6.out
            have FT7:Hid (Fr (fun i=>i=E.b) w w7):=FT6.out.old hb7
            clear hb7 hR7 o0 o1 o2 o3 o4 p0c p1c p2c p3c p4c
            by_cases h16:16<N9
            · have h16' : (16 : Int) < (N9 : Int) := by omega
              have HQ:Hid (ruleP nv l= .error (3,(pk l 0).start)):=by
                show _=_
                unfold ruleP
                rw [HC.out]
                simp only
                rw [HP.out,HN9.out,if_pos h16]
              obtain ⟨⟨o0,o1,o2,o3,o4⟩,p0c,p1c,p2c,p3c,p4c⟩:=blk5 KO7.out
              have HFN:Hid (∀W,Fr (fun _=>False) w7 W→Calls Tryz.prog 40 #[.int .i64 3,.int .i64 p0,.string ⟨#[118,97,114,105,97,98,108,101,115]⟩] W (NewPost W 3 p0 ⟨#[118,97,114,105,97,98,108,101,115]⟩)):=fun W _=>FNew_any _ _ _ _
              have F0:Fr (fun _=>False) w7 w7.drew:=(Fr.refl _ _).drew
              go_wp2_with fail
              go_region_with (go_at_call 40;refine (HFN.out _ F0).mono ?_;rintro e w8 ⟨f,rfl,hFa8,hlf8,hb8⟩;have F1':Fr (fun _=>False) w7 w8:=F0.old hb8;obtain ⟨⟨r0,r1,r2,r3,r4⟩,q0,q1,q2,q3,q4⟩:=blk5 ((F1'.block _ (Go.Proofs.YtjlnpdpkobpkiaaGreatDoor.blk_lt KR7.out) (fun h=>h)).trans KR7.out);obtain ⟨⟨v0,v1,v2,v3,v4⟩,_⟩:=blk5 ((F1'.block _ (Go.Proofs.YtjlnpdpkobpkiaaGreatDoor.blk_lt KO7.out) (fun h=>h)).trans KO7.out))
              all_goals
               have K8:=hid (And.intro hFa8 F1')
               clear hFa8 hb8
               go_wp2
               refine bodyPost_ret (v:= .tuple #[.agg #[.string (bL s),.slice A n c,.int .i64 g,.slice B' m' cB',.int .i64 p0],faultV f]) (by simp [results,Tryz.results53,go_sem,r0,r1,r2,r3,r4]) rfl ?_
               rw [HQ.out]
               rw [show w7.drew.heap.size=w7.heap.size from rfl] at hlf8
               refine ⟨f,⟨#[118,97,114,105,97,98,108,101,115]⟩,_,rfl,⟨_,_,_,_,_,_,_,_,_,rfl⟩,?_,by omega,?_⟩
               · rw [HP.out]
                 exact K8.out.1.put5 (by omega)
               · exact (FT7.out.trans K8.out.2 (fun i _ e=>e.elim)).put5 (Nat.le_refl _)
            · have h16' : ¬ (16 : Int) < (N9 : Int) := by omega
              have HQ:Hid (ruleP nv l= .ok (⟨mkA s as_,g,ps',p0⟩,l6)):=by
                show _=_
                unfold ruleP
                rw [HC.out]
                simp only
                rw [HP.out,HN9.out,if_neg h16]
              obtain ⟨⟨o0,o1,o2,o3,o4⟩,p0c,p1c,p2c,p3c,p4c⟩:=blk5 KO7.out
              obtain ⟨⟨r0,r1,r2,r3,r4⟩,q0,q1,q2,q3,q4⟩:=blk5 KR7.out
              go_wp2
              refine bodyPost_ret (v:= .tuple #[.agg #[.string (bL s),.slice A n c,.int .i64 g,.slice B' m' cB',.int .i64 p0],.nilIface]) (by simp [results,Tryz.results53,go_sem,r0,r1,r2,r3,r4]) rfl ?_
              rw [HQ.out]
              refine ⟨j6,A,c,B',cB',by rw [HN.out,HM'.out];rfl,?_,by have h1:=HN.out;have h2:=HLe.out.1;show as_.length≤c;omega,?_,by have h1:=HM'.out;have h2:=HLe.out.2;show ps'.length≤cB';omega,?_,?_⟩
              · exact (HA6.out.below HB7.out).put5 (by omega) (by omega)
              · show Kd.F k98 _ _ A as_.length as_
                rw [←HN.out]
                exact Kd.F_mono (Kd.F_step (Kd.F_below FA6.out HB7.out) (fun i hi hlt=>(Fr.self5 (b:=w.heap.size)).block i hlt (by have:=hi.1;omega))) (fun i hi=>by have:=hi.1;omega)
              · show Kd.F k106 _ _ B' ps'.length ps'
                rw [←HM'.out]
                exact Kd.F_mono (Kd.F_step (Kd.F_below FB6.out HB7.out) (fun i hi hlt=>(Fr.self5 (b:=w.heap.size)).block i hlt (by have:=hi.1;omega))) (fun i hi=>by have:=hi.1;omega)
              · exact FT7.out.put5 (Nat.le_refl _)
end Go.Proofs.YtjlnpdpkobpkiaaGreatDoorPSP
