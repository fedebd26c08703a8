import Derived.Test.YtjlnpdpkobpkiaaGreatDoorZ2Pr15a
set_option linter.unusedVariables false
set_option linter.unusedSimpArgs false
namespace Go.Proofs.YtjlnpdpkobpkiaaGreatDoorPSP
open Go.RowKit Go.Extern.Stop Go.Stop Go.Extern Go.Proofs.YtjlnpdpkobpkiaaGreatDoorW.PrintWords Go.Proofs.YtjlnpdpkobpkiaaGreatDoor
set_option maxHeartbeats 8000000 in
set_option maxRecDepth 100000 in
theorem part_cmp1_3 {E:Env} {w:World} {j:Nat} {l:List Tk} (h:At E w j 0 l) (h1:(pk l 0).kind=1) (hnot:(pk l 0).text≠notL) (hs:isS l 1 [40]=false) (hk:outc l=3):
    Calls Tryz.prog 86 #[.pointer (some ⟨E.b,0,none⟩)] w (PartPost E w 0 (partP l)):=by
  have HR:=hid (h.alloc partZ)
  have H:=hid h
  have lb:=h.lb
  have lg:=h.lg
  have hlen:=E.len
  have hlt:=h.lt
  have hj:j+2≤30002:=by omega
  obtain ⟨n0,hn0⟩:∃n:Int,((pk l 0).num:Int)=n:=⟨_,rfl⟩
  obtain ⟨p0,hp0⟩:∃n:Int,((pk l 0).start:Int)=n:=⟨_,rfl⟩
  obtain ⟨x0,hx0⟩:∃x,bL (pk l 0).text=x:=⟨_,rfl⟩
  obtain ⟨a0,ha0⟩:∃n:Int,((pk l 0).kind:Int)=n:=⟨_,rfl⟩
  have HX:=hid hx0
  clear hlt
  have HK:=hid hk
  clear hk
  obtain rfl:(1:Int)=a0:=by omega
  have hn1:(x0.toList==[110,111,116])=false:=by
    rw [←hx0,ByteArray.toList_eq]
    exact beq_false_of_ne hnot
  have HP0:=hid (peek_at HR.out 0 (by decide) ha0 hx0 hn0 hp0)
  have HIS:=hid hs
  have HN:Hid (partP l=cmpP l):=by show _=_;rw [partP,if_neg (fun e=>hnot e.2),if_neg (fun e=>by rw [hs] at e;exact absurd e.2 (by decide)),if_neg (by omega)];rfl
  clear h h1 hnot ha0 hx0 hn0 hp0 hs
  go_enter Tryz.func86,Tryz.ntmps86
  go_wp2_with fail
  refine HP0.out.mono ?_
  rintro e w2 ⟨rfl,hb2⟩
  have HB2:=hid hb2
  have A2:=hid ((HR.out.below hb2).alloc (tokO 1 x0 n0 p0))
  have s2:=HB2.out.size
  simp at s2
  have kr2:Hid ((w2.alloc (tokO 1 x0 n0 p0)).heap[w.heap.size]? =some partZ):=by
    show _=_
    rw [Below.heap_alloc _ _ _ (by omega),hb2.block _ (by simp),heap_alloc_new]
  have F2:Hid (Fr (fun i=>i=E.b) w (w2.alloc (tokO 1 x0 n0 p0))):=((((Fr.refl _ w).alloc partZ).old HB2.out).alloc _)
  have z2:(w2.alloc (tokO 1 x0 n0 p0)).heap.size=w2.heap.size+1:=by simp
  clear hb2
  have HI:=hid (is_any A2.out 1 (by decide) [40])
  rw [show isS l 1 [40]=false from HIS.out] at HI
  go_wp2_with fail
  refine HI.out.mono ?_
  rintro e w3 ⟨rfl,hb3⟩
  have HB3:=hid hb3
  have A3:=hid (A2.out.below hb3)
  have s3:=hb3.size
  rw [z2] at s3
  have kr3:Hid (w3.heap[w.heap.size]? =some partZ):=(hb3.block _ (Go.Proofs.YtjlnpdpkobpkiaaGreatDoor.blk_lt kr2.out)).trans kr2.out
  have F3:Hid (Fr (fun i=>i=E.b) w w3):=F2.out.old hb3
  have kt3:Hid (w3.heap[w2.heap.size]? =some (tokO 1 x0 n0 p0)):=(hb3.block _ (by rw [z2];omega)).trans (heap_alloc_new w2 _)
  clear hb3
  obtain ⟨tc0,tc1,tc2,tc3,_⟩:=blk4 kt3.out
  have HT1:=hid (term_any A3.out)
  go_wp2_with fail
  refine HT1.out.mono ?_
  intro e w5 hp
  cases hr:termP l with
  |error v=>
    obtain ⟨t,p⟩:=v
    exact absurd (HK.out.symm.trans (oc_0 hr)) (by decide)
  |ok v=>
    obtain ⟨⟨a0',a1',a2'⟩,l5⟩:=v
    have HK2:=hid ((oc_a hr).symm.trans HK.out)
    have HL:Hid (partP l=bnd compareP (fun o=>bnd termP (fun b l'=> .ok (⟨2,zA,o,⟨a0',a1',a2'⟩,b,bL [],zX⟩,l'))) l5):=by show _=_;rw [HN.out];unfold cmpP;rw [bnd,hr]
    rw [hr] at hp
    obtain ⟨j5,rfl,hA,hF⟩:=hp
    have s5:=hF.size
    skip
    have A5:=hid (hA.alloc (.cells #[.int .i64 a0',.string a1',.int .i64 a2'] 98))
    have kr5:Hid ((w5.alloc (.cells #[.int .i64 a0',.string a1',.int .i64 a2'] 98)).heap[w.heap.size]? =some partZ):=(Lib.alloc_old w5 _ _ (by omega)).trans ((hF.block _ (Go.Proofs.YtjlnpdpkobpkiaaGreatDoor.blk_lt kr3.out) (by omega)).trans kr3.out)
    have F5:Hid (Fr (fun i=>i=E.b) w (w5.alloc (.cells #[.int .i64 a0',.string a1',.int .i64 a2'] 98))):=((F3.out.trans hF (fun i _ e=>e)).alloc _)
    have ka5:Hid ((w5.alloc (.cells #[.int .i64 a0',.string a1',.int .i64 a2'] 98)).heap[w5.heap.size]? =some (.cells #[.int .i64 a0',.string a1',.int .i64 a2'] 98 (0,0))):=heap_alloc_new w5 _
    have z5:(w5.alloc (.cells #[.int .i64 a0',.string a1',.int .i64 a2'] 98)).heap.size=w5.heap.size+1:=by simp
    have HCm:=hid (compare_any A5.out)
    clear hA hF hr
    go_wp2_with fail
    refine HCm.out.mono ?_
    intro e w6 hp
    cases hr:compareP l5 with
    |error v=>
      obtain ⟨t,p⟩:=v
      exact absurd (HK2.out.symm.trans (oc_1 hr)) (by decide)
    |ok v=>
      obtain ⟨o,l6⟩:=v
      have HK3:=hid ((oc_b hr).symm.trans HK2.out)
      have HL2:Hid (partP l=bnd termP (fun b l'=> .ok (⟨2,zA,o,⟨a0',a1',a2'⟩,b,bL [],zX⟩,l')) l6):=by show _=_;rw [HL.out,bnd,hr]
      rw [hr] at hp
      obtain ⟨j6,rfl,hA,hF⟩:=hp
      have s6:=hF.size
      rw [z5] at s6
      have kr6:Hid (w6.heap[w.heap.size]? =some partZ):=(hF.block _ (Go.Proofs.YtjlnpdpkobpkiaaGreatDoor.blk_lt kr5.out) (by omega)).trans kr5.out
      have ka6:Hid (w6.heap[w5.heap.size]? =some (.cells #[.int .i64 a0',.string a1',.int .i64 a2'] 98 (0,0))):=(hF.block _ (Go.Proofs.YtjlnpdpkobpkiaaGreatDoor.blk_lt ka5.out) (by omega)).trans ka5.out
      have F6:Hid (Fr (fun i=>i=E.b) w w6):=F5.out.trans hF (fun i _ e=>e)
      have HT2:=hid (term_any hA)
      clear hA hF hr
      go_wp2_with fail
      refine HT2.out.mono ?_
      intro e w7 hp
      cases hr:termP l6 with
      |error v=>
        obtain ⟨t,p⟩:=v
        exact absurd (HK3.out.symm.trans (oc_2 hr)) (by decide)
      |ok v=>
        obtain ⟨⟨b0',b1',b2'⟩,l7⟩:=v
        have HQ:Hid (partP l= .ok (⟨2,zA,o,⟨a0',a1',a2'⟩,⟨b0',b1',b2'⟩,bL [],zX⟩,l7)):=by show _=_;rw [HL2.out];unfold bnd;rw [hr]
        rw [hr] at hp
        obtain ⟨j7,rfl,hA,hF⟩:=hp
        have K:=hid (And.intro hA hF)
        have s7:=hF.size
        have kr7:=(Lib.alloc_old w7 (.cells #[.int .i64 b0',.string b1',.int .i64 b2'] 98) _ (by omega)).trans ((hF.block _ (Go.Proofs.YtjlnpdpkobpkiaaGreatDoor.blk_lt kr6.out) (by omega)).trans kr6.out)
        have ka7:=(Lib.alloc_old w7 (.cells #[.int .i64 b0',.string b1',.int .i64 b2'] 98) _ (by omega)).trans ((hF.block _ (Go.Proofs.YtjlnpdpkobpkiaaGreatDoor.blk_lt ka6.out) (by omega)).trans ka6.out)
        obtain ⟨v0,v1,v2,_⟩:=blk3 ka7
        obtain ⟨⟨r0,r1,r2,r3,r4,r5,r6,r7,r8,r9,r10,r11,r12,r13,r14,r15⟩,q0,q1,q2,q3,q4,q5,q6,q7,q8,q9,q10,q11,q12,q13,q14,q15⟩:=blk16 kr7
        have d1:w.heap.size≠w7.heap.size:=by omega
        have d2:w5.heap.size≠w7.heap.size:=by omega
        clear hA hF hr kr7 ka7
        go_wp2
        refine bodyPost_ret (v:= .tuple #[.agg #[.int .i64 2,.string ⟨#[]⟩,.slice none 0 0,.int .i64 o,(.int .i64 a0'),(.string a1'),(.int .i64 a2'),(.int .i64 b0'),(.string b1'),(.int .i64 b2'),.string ⟨#[]⟩,.int .i64 0,.string ⟨#[]⟩,.int .i64 0,.int .i64 0,.slice none 0 0],.nilIface]) (by simp [results,Tryz.results86,go_sem,r0,r1,r2,r3,r4,r5,r6,r7,r8,r9,r10,r11,r12,r13,r14,r15,d1,d2]) rfl ?_
        rw [HQ.out]
        refine ⟨j7,none,0,none,0,rfl,?_,Nat.le_refl _,Kd.F_nil _ _ _,Nat.le_refl _,Kd.F_nil _ _ _,?_⟩
        · exact (K.out.1.alloc _).put16 (by omega) (by omega)
        · exact ((F6.out.trans K.out.2 (fun i _ e=>e)).alloc _).put16 (Nat.le_refl _)
end Go.Proofs.YtjlnpdpkobpkiaaGreatDoorPSP
