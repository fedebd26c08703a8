import Derived.Test.YtjlnpdpkobpkiaaGreatDoorZ2Pr3
set_option linter.unusedVariables false
set_option linter.unusedSimpArgs false
namespace Go.Proofs.YtjlnpdpkobpkiaaGreatDoorPSP
open Go.RowKit Go.Extern.Stop Go.Stop Go.Extern Go.Proofs.YtjlnpdpkobpkiaaGreatDoor
set_option maxHeartbeats 4000000 in
set_option maxRecDepth 100000 in
theorem term_any {E:Env} {w:World} {j d:Nat} {l:List Tk} (h:At E w j d l):
    Calls Tryz.prog 110 #[.pointer (some ⟨E.b,0,none⟩)] w (TermPost E w d (termP l)):=by
  have HR:=hid (h.alloc termO)
  have H:=hid h
  have hlen:=E.len
  have hlt:=h.lt
  have hj:j+2≤30002:=by omega
  have lb:=h.lb
  have HV:=hid (variable_any HR.out)
  clear hlt
  obtain ⟨n0,hn0⟩:∃n:Int,((pk l 0).num:Int)=n:=⟨_,rfl⟩
  obtain ⟨p0,hp0⟩:∃n:Int,((pk l 0).start:Int)=n:=⟨_,rfl⟩
  obtain ⟨x0,hx0⟩:∃x,bL (pk l 0).text=x:=⟨_,rfl⟩
  obtain ⟨a0,ha0⟩:∃n:Int,((pk l 0).kind:Int)=n:=⟨_,rfl⟩
  have HT0:=hid (And.intro ha0 (And.intro hx0 (And.intro hn0 hp0)))
  by_cases h2:(pk l 0).kind=2
  · have HK := hid h2
    have HN:Hid (termP l= .ok (mkT 0 (pk l 0).text 0,l.drop 1)):=by show _=_;rw [termP,if_pos h2]
    clear h h2 ha0 hx0 hn0 hp0
    go_enter Tryz.func110,Tryz.ntmps110
    go_wp2_with fail
    refine HV.out.mono ?_
    rintro e w1 hv1
    obtain ⟨rfl,hA,hF⟩:=hv1.1 HK.out
    have K:=hid (And.intro hA hF)
    have s4:=hF.size
    simp at s4
    have lg:=H.out.lg
    obtain ⟨r0,r1,r2,q0,q1,q2⟩:=blk3 ((hF.block _ (by simp) (by omega)).trans (heap_alloc_new w termO))
    clear hA hF hv1
    go_wp2
    refine bodyPost_ret (v:= .tuple #[tmV (mkT 0 (pk l 0).text 0),.nilIface]) (by simp [results,Tryz.results110,go_sem,r0,r1,r2,mkT,HT0.out.2.1]) rfl ?_
    rw [HN.out]
    refine ⟨j+1,rfl,?_,?_⟩
    · exact K.out.1.put3 (by omega) (by omega)
    · exact (((Fr.refl _ w).alloc termO).trans K.out.2 (fun i _ e=>e)).put3 (Nat.le_refl _)
  · have HK := hid h2
    have ha2:¬a0=2:=by omega
    by_cases h4:(pk l 0).kind=4
    · obtain rfl : (4 : Int) = a0 := by omega
      have HN:Hid (termP l= .ok (mkT 2 (pk l 0).text 0,l.drop 1)):=by show _=_;rw [termP,if_neg h2,if_pos (.inl h4)]
      have hx1:=h.next (by rw [h4];decide)
      clear h h2 h4 ha0 hx0 hn0 hp0 ha2
      go_enter Tryz.func110,Tryz.ntmps110
      go_wp2_with fail
      refine HV.out.mono ?_
      rintro e w1 hv1
      obtain ⟨rfl,hb1⟩:=hv1.2 HK.out
      have HB1:=hid hb1
      have HP0:=hid (peek_at (HR.out.below hb1) 0 (by decide) HT0.out.1 HT0.out.2.1 HT0.out.2.2.1 HT0.out.2.2.2)
      clear hb1 hv1
      go_wp2_with fail
      refine HP0.out.mono ?_
      rintro e w2 ⟨rfl,hb2⟩
      have HB2:=hid hb2
      have A2:=hid (((HR.out.below HB1.out).below hb2).alloc (tokO 4 x0 n0 p0))
      have s1:=HB1.out.size
      have s2:=HB2.out.size
      simp at s1
      have lg:=H.out.lg
      have kr:Hid ((w2.alloc (tokO 4 x0 n0 p0)).heap[w.heap.size]? =some termO):=by
        show _=_
        rw [Below.heap_alloc _ _ _ (by omega),hb2.block _ (by omega),HB1.out.block _ (by simp),heap_alloc_new]
      have FB:Hid (Fr (fun i=>i=E.b) w (w2.alloc (tokO 4 x0 n0 p0))):=(((((Fr.refl _ w).alloc termO).old HB1.out).old HB2.out).alloc _)
      clear hb2
      obtain ⟨c1,g1⟩:=A2.out.c1
      obtain ⟨r0,r1,r2,q0,q1,q2⟩:=blk3 kr.out
      have d1:E.b≠w2.heap.size:=by omega
      have d2:E.b≠w.heap.size:=by omega
      have d3:w.heap.size≠w2.heap.size:=by omega
      go_wp2
      refine bodyPost_ret (v:= .tuple #[tmV (mkT 2 (pk l 0).text 0),.nilIface]) (by simp [results,Tryz.results110,go_sem,r0,r1,r2,mkT,HT0.out.2.1,d1,d2,d3]) rfl ?_
      rw [HN.out]
      refine ⟨j+1,rfl,?_,?_⟩
      · exact (A2.out.on (by omega)).put3 (by omega) (by omega)
      · exact (Fr.putF (F:=fun i=>i=E.b) FB.out ⟨E.b,1,none⟩ rfl _).put3 (Nat.le_refl _)
    · have ha4 : ¬ a0 = 4 := by omega
      have hb4:(a0==4)=false:=beq_false_of_ne (by omega)
      by_cases h1:(pk l 0).kind=1
      · obtain rfl : (1 : Int) = a0 := by omega
        have HIS:Hid (isS l 0 [45]=false):=by show _=_;unfold isS;rw [h1];rfl
        by_cases hnot:(pk l 0).text=notL
        · obtain rfl : (⟨#[110, 111, 116]⟩ : ByteArray) = x0 := by rw [← hx0, hnot]; rfl
          have HN:Hid (termP l=bad 1 l):=by show _=_;rw [termP,if_neg h2,if_neg (by simp [h1,hnot]),if_neg (by rw [HIS.out,h1];decide)]
          clear h h2 h4 ha0 hx0 hn0 hp0 ha2 h1 hnot ha4 hb4
          go_enter Tryz.func110,Tryz.ntmps110
          go_wp2_with fail
          refine HV.out.mono ?_
          rintro e w1 hv1
          obtain ⟨rfl,hb1⟩:=hv1.2 HK.out
          have HB1:=hid hb1
          have HP0:=hid (peek_at (HR.out.below hb1) 0 (by decide) HT0.out.1 HT0.out.2.1 HT0.out.2.2.1 HT0.out.2.2.2)
          clear hb1 hv1
          go_wp2_with fail
          refine HP0.out.mono ?_
          rintro e w2 ⟨rfl,hb2⟩
          have HB2:=hid hb2
          have A2:=hid (((HR.out.below HB1.out).below hb2).alloc (tokO 1 ⟨#[110,111,116]⟩ n0 p0))
          have s1:=HB1.out.size
          have s2:=HB2.out.size
          simp at s1
          have lg:=H.out.lg
          have kr:Hid ((w2.alloc (tokO 1 ⟨#[110,111,116]⟩ n0 p0)).heap[w.heap.size]? =some termO):=by
            show _=_
            rw [Below.heap_alloc _ _ _ (by omega),hb2.block _ (by omega),HB1.out.block _ (by simp),heap_alloc_new]
          have FB:Hid (Fr (fun i=>i=E.b) w (w2.alloc (tokO 1 ⟨#[110,111,116]⟩ n0 p0))):=(((((Fr.refl _ w).alloc termO).old HB1.out).old HB2.out).alloc _)
          clear hb2
          have HI:=hid (is_any A2.out 0 (by decide) [45])
          rw [show isS l 0 [45]=false from HIS.out] at HI
          go_wp2_with fail
          refine HI.out.mono ?_
          rintro e w3 ⟨rfl,hb3⟩
          have HB3:=hid hb3
          have HF:=hid (fail_any (A2.out.below hb3) 1 ⟨#[116,101,114,109]⟩)
          have s3:=hb3.size
          simp at s3
          clear hb3
          go_wp2_with fail
          refine HF.out.mono ?_
          rintro e w4 ⟨f,what,rfl,hF,hlf,hb4⟩
          obtain ⟨r0,r1,r2,q0,q1,q2⟩:=blk3 ((hb4.block _ (by omega)).trans ((HB3.out.block _ (blk_lt kr.out)).trans kr.out))
          have K:=hid (And.intro hF hb4)
          clear hF hb4
          go_wp2
          refine bodyPost_ret (v:= .tuple #[tmZ,faultV f]) (by simp [results,Tryz.results110,go_sem,r0,r1,r2]) rfl ?_
          rw [HN.out]
          refine ⟨f,what,rfl,?_,by omega,?_⟩
          · exact K.out.1.put3 (by omega)
          · exact ((FB.out.old HB3.out).old K.out.2).put3 (Nat.le_refl _)
        · have hn1:(x0.toList==[110,111,116])=false:=by
            rw [←hx0,ByteArray.toList_eq]
            exact beq_false_of_ne hnot
          have HN:Hid (termP l= .ok (mkT 2 (pk l 0).text 0,l.drop 1)):=by show _=_;rw [termP,if_neg h2,if_pos (.inr ⟨h1,hnot⟩)]
          have hx1:=h.next (by rw [h1];decide)
          clear h h2 h4 ha0 hx0 hn0 hp0 ha2 h1 hnot ha4 hb4
          go_enter Tryz.func110,Tryz.ntmps110
          go_wp2_with fail
          refine HV.out.mono ?_
          rintro e w1 hv1
          obtain ⟨rfl,hb1⟩:=hv1.2 HK.out
          have HB1:=hid hb1
          have HP0:=hid (peek_at (HR.out.below hb1) 0 (by decide) HT0.out.1 HT0.out.2.1 HT0.out.2.2.1 HT0.out.2.2.2)
          clear hb1 hv1
          go_wp2_with fail
          refine HP0.out.mono ?_
          rintro e w2 ⟨rfl,hb2⟩
          have HB2:=hid hb2
          have A2:=hid (((HR.out.below HB1.out).below hb2).alloc (tokO 1 x0 n0 p0))
          have s1:=HB1.out.size
          have s2:=HB2.out.size
          simp at s1
          have lg:=H.out.lg
          have kr:Hid ((w2.alloc (tokO 1 x0 n0 p0)).heap[w.heap.size]? =some termO):=by
            show _=_
            rw [Below.heap_alloc _ _ _ (by omega),hb2.block _ (by omega),HB1.out.block _ (by simp),heap_alloc_new]
          have FB:Hid (Fr (fun i=>i=E.b) w (w2.alloc (tokO 1 x0 n0 p0))):=(((((Fr.refl _ w).alloc termO).old HB1.out).old HB2.out).alloc _)
          clear hb2
          obtain ⟨c1,g1⟩:=A2.out.c1
          obtain ⟨r0,r1,r2,q0,q1,q2⟩:=blk3 kr.out
          have d1:E.b≠w2.heap.size:=by omega
          have d2:E.b≠w.heap.size:=by omega
          have d3:w.heap.size≠w2.heap.size:=by omega
          go_wp2
          refine bodyPost_ret (v:= .tuple #[tmV (mkT 2 (pk l 0).text 0),.nilIface]) (by simp [results,Tryz.results110,go_sem,r0,r1,r2,mkT,HT0.out.2.1,d1,d2,d3]) rfl ?_
          rw [HN.out]
          refine ⟨j+1,rfl,?_,?_⟩
          · exact (A2.out.on (by omega)).put3 (by omega) (by omega)
          · exact (Fr.putF (F:=fun i=>i=E.b) FB.out ⟨E.b,1,none⟩ rfl _).put3 (Nat.le_refl _)
      · have ha1 : ¬ a0 = 1 := by omega
        have hb1:(a0==1)=false:=beq_false_of_ne (by omega)
        by_cases h3:(pk l 0).kind=3
        · obtain rfl : (3 : Int) = a0 := by omega
          have HN:Hid (termP l=numP l):=by show _=_;rw [termP,if_neg h2,if_neg (by omega),if_pos (.inl h3)]
          clear h h2 h4 ha0 hx0 hn0 hp0 ha2 h1 ha4 hb4 h3 ha1 hb1
          go_enter Tryz.func110,Tryz.ntmps110
          go_wp2_with fail
          refine HV.out.mono ?_
          rintro e w1 hv1
          obtain ⟨rfl,hb1⟩:=hv1.2 HK.out
          have HB1:=hid hb1
          have HP0:=hid (peek_at (HR.out.below hb1) 0 (by decide) HT0.out.1 HT0.out.2.1 HT0.out.2.2.1 HT0.out.2.2.2)
          clear hb1 hv1
          go_wp2_with fail
          refine HP0.out.mono ?_
          rintro e w2 ⟨rfl,hb2⟩
          have HB2:=hid hb2
          have A2:=hid (((HR.out.below HB1.out).below hb2).alloc (tokO 3 x0 n0 p0))
          have s1:=HB1.out.size
          have s2:=HB2.out.size
          simp at s1
          have lg:=H.out.lg
          have kr:Hid ((w2.alloc (tokO 3 x0 n0 p0)).heap[w.heap.size]? =some termO):=by
            show _=_
            rw [Below.heap_alloc _ _ _ (by omega),hb2.block _ (by omega),HB1.out.block _ (by simp),heap_alloc_new]
          have FB:Hid (Fr (fun i=>i=E.b) w (w2.alloc (tokO 3 x0 n0 p0))):=(((((Fr.refl _ w).alloc termO).old HB1.out).old HB2.out).alloc _)
          clear hb2
          have HN1:=hid (number_any A2.out)
          go_wp2_with fail
          refine HN1.out.mono ?_
          intro e w4 hp
          cases hr:numP l with
          |ok v=>
            obtain ⟨⟨v0,v1,v2⟩,l'⟩:=v
            rw [hr] at hp
            have HQ:=hid hr
            obtain ⟨j',rfl,hA,hF⟩:=hp
            have K:=hid (And.intro hA hF)
            have s4:=hF.size
            simp at s4
            obtain ⟨r0,r1,r2,q0,q1,q2⟩:=blk3 ((hF.block _ (blk_lt kr.out) (by omega)).trans kr.out)
            have hlt:=hA.lt
            clear hA hF hr
            go_wp2
            refine bodyPost_ret (v:= .tuple #[tmV ⟨v0,v1,v2⟩,.nilIface]) (by simp [results,Tryz.results110,go_sem,r0,r1,r2]) rfl ?_
            rw [HN.out,HQ.out]
            refine ⟨j',rfl,?_,?_⟩
            · exact K.out.1.put3 (by omega) (by omega)
            · exact (FB.out.trans K.out.2 (fun i _ e=>e)).put3 (Nat.le_refl _)
          |error v=>
            obtain ⟨t,p⟩:=v
            rw [hr] at hp
            have HQ:=hid hr
            obtain ⟨f,what,rfl,hFa,hlf,hF⟩:=hp
            have K:=hid (And.intro hFa hF)
            have s4:=hF.size
            simp at s4 hlf
            obtain ⟨r0,r1,r2,q0,q1,q2⟩:=blk3 ((hF.block _ (blk_lt kr.out) (by omega)).trans kr.out)
            clear hFa hF hr
            go_wp2
            refine bodyPost_ret (v:= .tuple #[tmZ,faultV f]) (by simp [results,Tryz.results110,go_sem,r0,r1,r2]) rfl ?_
            rw [HN.out,HQ.out]
            refine ⟨f,what,rfl,?_,by omega,?_⟩
            · exact K.out.1.put3 (by omega)
            · exact (FB.out.trans K.out.2 (fun i _ e=>e)).put3 (Nat.le_refl _)
        · have ha3 : ¬ a0 = 3 := by omega
          have hb3:(a0==3)=false:=beq_false_of_ne (by omega)
          by_cases hs:isS l 0 [45]=true
          · have HIS := hid hs
            have HN:Hid (termP l=numP l):=by show _=_;rw [termP,if_neg h2,if_neg (by omega),if_pos (.inr hs)]
            clear h h2 h4 ha0 hx0 hn0 hp0 h1 h3 hs
            go_enter Tryz.func110,Tryz.ntmps110
            go_wp2_with fail
            refine HV.out.mono ?_
            rintro e w1 hv1
            obtain ⟨rfl,hb1⟩:=hv1.2 HK.out
            have HB1:=hid hb1
            have HP0:=hid (peek_at (HR.out.below hb1) 0 (by decide) HT0.out.1 HT0.out.2.1 HT0.out.2.2.1 HT0.out.2.2.2)
            clear hb1 hv1
            go_wp2_with fail
            refine HP0.out.mono ?_
            rintro e w2 ⟨rfl,hb2⟩
            have HB2:=hid hb2
            have A2:=hid (((HR.out.below HB1.out).below hb2).alloc (tokO a0 x0 n0 p0))
            have s1:=HB1.out.size
            have s2:=HB2.out.size
            simp at s1
            have lg:=H.out.lg
            have kr:Hid ((w2.alloc (tokO a0 x0 n0 p0)).heap[w.heap.size]? =some termO):=by
              show _=_
              rw [Below.heap_alloc _ _ _ (by omega),hb2.block _ (by omega),HB1.out.block _ (by simp),heap_alloc_new]
            have FB:Hid (Fr (fun i=>i=E.b) w (w2.alloc (tokO a0 x0 n0 p0))):=(((((Fr.refl _ w).alloc termO).old HB1.out).old HB2.out).alloc _)
            clear hb2
            have HI:=hid (is_any A2.out 0 (by decide) [45])
            rw [show isS l 0 [45]=true from HIS.out] at HI
            go_wp2_with fail
            refine HI.out.mono ?_
            rintro e w3 ⟨rfl,hb3⟩
            have HB3:=hid hb3
            have s3:=hb3.size
            simp at s3
            have A3:=hid (A2.out.below hb3)
            have kr3:Hid (w3.heap[w.heap.size]? =some termO):=(hb3.block _ (blk_lt kr.out)).trans kr.out
            have FB3:Hid (Fr (fun i=>i=E.b) w w3):=FB.out.old hb3
            clear hb3
            have HN1:=hid (number_any A3.out)
            go_wp2_with fail
            refine HN1.out.mono ?_
            intro e w4 hp
            cases hr:numP l with
            |ok v=>
              obtain ⟨⟨v0,v1,v2⟩,l'⟩:=v
              rw [hr] at hp
              have HQ:=hid hr
              obtain ⟨j',rfl,hA,hF⟩:=hp
              have K:=hid (And.intro hA hF)
              have s4:=hF.size
              obtain ⟨r0,r1,r2,q0,q1,q2⟩:=blk3 ((hF.block _ (blk_lt kr3.out) (by omega)).trans kr3.out)
              have hlt:=hA.lt
              clear hA hF hr
              go_wp2
              refine bodyPost_ret (v:= .tuple #[tmV ⟨v0,v1,v2⟩,.nilIface]) (by simp [results,Tryz.results110,go_sem,r0,r1,r2]) rfl ?_
              rw [HN.out,HQ.out]
              refine ⟨j',rfl,?_,?_⟩
              · exact K.out.1.put3 (by omega) (by omega)
              · exact (FB3.out.trans K.out.2 (fun i _ e=>e)).put3 (Nat.le_refl _)
            |error v=>
              obtain ⟨t,p⟩:=v
              rw [hr] at hp
              have HQ:=hid hr
              obtain ⟨f,what,rfl,hFa,hlf,hF⟩:=hp
              have K:=hid (And.intro hFa hF)
              have s4:=hF.size
              obtain ⟨r0,r1,r2,q0,q1,q2⟩:=blk3 ((hF.block _ (blk_lt kr3.out) (by omega)).trans kr3.out)
              clear hFa hF hr
              go_wp2
              refine bodyPost_ret (v:= .tuple #[tmZ,faultV f]) (by simp [results,Tryz.results110,go_sem,r0,r1,r2]) rfl ?_
              rw [HN.out,HQ.out]
              refine ⟨f,what,rfl,?_,by omega,?_⟩
              · exact K.out.1.put3 (by omega)
              · exact (FB3.out.trans K.out.2 (fun i _ e=>e)).put3 (Nat.le_refl _)
          · have HIS : Hid (isS l 0 [45] = false) := by show _ = _; simpa using hs
            have HN:Hid (termP l=bad 1 l):=by show _=_;rw [termP,if_neg h2,if_neg (by omega),if_neg (by rintro (e|e);exact h3 e;exact hs e)]
            clear h h2 h4 ha0 hx0 hn0 hp0 h1 h3 hs
            go_enter Tryz.func110,Tryz.ntmps110
            go_wp2_with fail
            refine HV.out.mono ?_
            rintro e w1 hv1
            obtain ⟨rfl,hb1⟩:=hv1.2 HK.out
            have HB1:=hid hb1
            have HP0:=hid (peek_at (HR.out.below hb1) 0 (by decide) HT0.out.1 HT0.out.2.1 HT0.out.2.2.1 HT0.out.2.2.2)
            clear hb1 hv1
            go_wp2_with fail
            refine HP0.out.mono ?_
            rintro e w2 ⟨rfl,hb2⟩
            have HB2:=hid hb2
            have A2:=hid (((HR.out.below HB1.out).below hb2).alloc (tokO a0 x0 n0 p0))
            have s1:=HB1.out.size
            have s2:=HB2.out.size
            simp at s1
            have lg:=H.out.lg
            have kr:Hid ((w2.alloc (tokO a0 x0 n0 p0)).heap[w.heap.size]? =some termO):=by
              show _=_
              rw [Below.heap_alloc _ _ _ (by omega),hb2.block _ (by omega),HB1.out.block _ (by simp),heap_alloc_new]
            have FB:Hid (Fr (fun i=>i=E.b) w (w2.alloc (tokO a0 x0 n0 p0))):=(((((Fr.refl _ w).alloc termO).old HB1.out).old HB2.out).alloc _)
            clear hb2
            have HI:=hid (is_any A2.out 0 (by decide) [45])
            rw [show isS l 0 [45]=false from HIS.out] at HI
            go_wp2_with fail
            refine HI.out.mono ?_
            rintro e w3 ⟨rfl,hb3⟩
            have HB3:=hid hb3
            have HF:=hid (fail_any (A2.out.below hb3) 1 ⟨#[116,101,114,109]⟩)
            have s3:=hb3.size
            simp at s3
            clear hb3
            go_wp2_with fail
            refine HF.out.mono ?_
            rintro e w4 ⟨f,what,rfl,hF,hlf,hb4⟩
            obtain ⟨r0,r1,r2,q0,q1,q2⟩:=blk3 ((hb4.block _ (by omega)).trans ((HB3.out.block _ (blk_lt kr.out)).trans kr.out))
            have K:=hid (And.intro hF hb4)
            clear hF hb4
            go_wp2
            refine bodyPost_ret (v:= .tuple #[tmZ,faultV f]) (by simp [results,Tryz.results110,go_sem,r0,r1,r2]) rfl ?_
            rw [HN.out]
            refine ⟨f,what,rfl,?_,by omega,?_⟩
            · exact K.out.1.put3 (by omega)
            · exact ((FB.out.old HB3.out).old K.out.2).put3 (Nat.le_refl _)
set_option maxHeartbeats 4000000 in
set_option maxRecDepth 100000 in
theorem plain_any {E:Env} {w:World} {j d:Nat} {l:List Tk} (h:At E w j d l):
    Calls Tryz.prog 98 #[.pointer (some ⟨E.b,0,none⟩)] w (PlainPost E w d (plainP l)):=by
  have HR:=hid (h.alloc termO)
  have H:=hid h
  have lb:=h.lb
  have lg:=h.lg
  have HV:=hid (term_any HR.out)
  clear h
  go_enter Tryz.func98,Tryz.ntmps98
  go_wp2_with fail
  refine HV.out.mono ?_
  intro e w4 hp
  cases hr:termP l with
  |ok v=>
    obtain ⟨⟨v0,v1,v2⟩,l'⟩:=v
    have HN:Hid (plainP l= .ok ((⟨v0,v1,v2⟩,0),l')):=by show _=_;unfold plainP bnd;rw [hr]
    rw [hr] at hp
    obtain ⟨j',rfl,hA,hF⟩:=hp
    have K:=hid (And.intro hA hF)
    have s4:=hF.size
    simp at s4
    have kr:Hid (w4.heap[w.heap.size]? =some termO):=(hF.block _ (by simp) (by omega)).trans (heap_alloc_new w termO)
    have kr2:=(Lib.alloc_old w4 (.cells #[.int .i64 v0,.string v1,.int .i64 v2] 98) _ (blk_lt kr.out)).trans kr.out
    obtain ⟨r0,r1,r2,q0,q1,q2⟩:=blk3 kr2
    have d1:w.heap.size≠w4.heap.size:=by omega
    clear hA hF hr kr2
    go_wp2
    refine bodyPost_ret (v:= .tuple #[tmV ⟨v0,v1,v2⟩,.bool false,.nilIface]) (by simp [results,Tryz.results98,go_sem,r0,r1,r2,d1]) rfl ?_
    rw [HN.out]
    refine ⟨j',rfl,?_,?_⟩
    · exact (K.out.1.alloc _).put3 (by omega) (by omega)
    · exact ((((Fr.refl _ w).alloc termO).trans K.out.2 (fun i _ e=>e)).alloc _).put3 (Nat.le_refl _)
  |error v=>
    obtain ⟨t,p⟩:=v
    have HN:Hid (plainP l= .error (t,p)):=by show _=_;unfold plainP bnd;rw [hr]
    rw [hr] at hp
    obtain ⟨f,what,rfl,hFa,hlf,hF⟩:=hp
    have K:=hid (And.intro hFa hF)
    have s4:=hF.size
    simp at s4 hlf
    have kr:Hid (w4.heap[w.heap.size]? =some termO):=(hF.block _ (by simp) (by omega)).trans (heap_alloc_new w termO)
    have kr2:=(Lib.alloc_old w4 (.cells #[.int .i64 0,.string ⟨#[]⟩,.int .i64 0] 98) _ (blk_lt kr.out)).trans kr.out
    obtain ⟨r0,r1,r2,q0,q1,q2⟩:=blk3 kr2
    have d1:w.heap.size≠w4.heap.size:=by omega
    clear hFa hF hr kr2
    go_wp2
    refine bodyPost_ret (v:= .tuple #[tmZ,.bool false,faultV f]) (by simp [results,Tryz.results98,go_sem,r0,r1,r2,d1]) rfl ?_
    rw [HN.out]
    refine ⟨f,what,rfl,?_,by omega,?_⟩
    · exact FaultAt.put3 ((Lib.alloc_old w4 _ f (blk_lt K.out.1)).trans K.out.1) (by omega)
    · exact ((((Fr.refl _ w).alloc termO).trans K.out.2 (fun i _ e=>e)).alloc _).put3 (Nat.le_refl _)
end Go.Proofs.YtjlnpdpkobpkiaaGreatDoorPSP
