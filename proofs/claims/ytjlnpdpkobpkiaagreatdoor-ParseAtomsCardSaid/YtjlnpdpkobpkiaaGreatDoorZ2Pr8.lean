import Derived.Test.YtjlnpdpkobpkiaaGreatDoorZ2Pr7
set_option linter.unusedVariables false
set_option linter.unusedSimpArgs false
namespace Go.Proofs.YtjlnpdpkobpkiaaGreatDoorPSP
open Go.RowKit Go.Extern.Stop Go.Stop Go.Extern Go.Proofs.YtjlnpdpkobpkiaaGreatDoorW.PrintWords Go.Proofs.YtjlnpdpkobpkiaaGreatDoor
def hdJ (E:Env) (br o:Nat) (at_ g:Int) (w:World):Prop:=w.heap[br]? =some (.cells #[.pointer (some ⟨E.b,0,none⟩)] 130 (0,0))∧w.heap[o]? =some (.cells #[.string ⟨#[]⟩,.slice none 0 0,.int .i64 g,.slice none 0 0,.int .i64 at_] 37 (0,0))
theorem hdJ.keep {E:Env} {br o:Nat} {at_ g:Int} {w w':World} {F:Nat→Prop} (h:hdJ E br o at_ g w) (hf:Fr F w w') (h1:¬F br) (h2:¬F o):hdJ E br o at_ g w':=
  ⟨(hf.block _ (Go.Proofs.YtjlnpdpkobpkiaaGreatDoor.blk_lt h.1) h1).trans h.1,(hf.block _ (Go.Proofs.YtjlnpdpkobpkiaaGreatDoor.blk_lt h.2) h2).trans h.2⟩
theorem plain_zero {l l':List Tk} {t:Tm} {g:Int} (h:plainP l= .ok ((t,g),l')):g=0:=by
  unfold plainP at h
  obtain ⟨v,l1,_,h⟩:=bnd_ok h
  obtain ⟨e,_⟩:=ok_inj h
  injection e with _ e
  exact e.symm
set_option maxHeartbeats 8000000 in
set_option maxRecDepth 100000 in
theorem agg_any {E:Env} {w:World} {j d:Nat} {l:List Tk} {br o:Nat} {at_:Int} (h:At E w j d l) (hj:hdJ E br o at_ 0 w) (n1:br≠E.b) (n2:o≠E.b) (n3:br≠o) (n4:br≠E.g) (n5:o≠E.g):
    Calls Tryz.prog 106 #[.pointer (some ⟨br,0,none⟩),.pointer (some ⟨o,0,none⟩)] w (OnePost E w d (fun i=>i=br∨i=o) (hdJ E br o at_) (aggP l)):=by
  have HR:=hid (h.alloc termO)
  have H:=hid h
  have lb:=h.lb
  have lg:=h.lg
  have lr:=Go.Proofs.YtjlnpdpkobpkiaaGreatDoor.blk_lt hj.1
  have lo:=Go.Proofs.YtjlnpdpkobpkiaaGreatDoor.blk_lt hj.2
  have hJ:=hid hj
  have hlen:=E.len
  have hlt:=h.lt
  have hj2:j+2≤30002:=by omega
  have b0:(w.alloc termO).cell? ⟨br,0,none⟩=some (.pointer (some ⟨E.b,0,none⟩)):=(cell_blk ((Lib.alloc_old w termO br lr).trans hj.1) 0)
  obtain ⟨n0,hn0⟩:∃n:Int,((pk l 0).num:Int)=n:=⟨_,rfl⟩
  obtain ⟨p0,hp0⟩:∃n:Int,((pk l 0).start:Int)=n:=⟨_,rfl⟩
  obtain ⟨x0,hx0⟩:∃x,bL (pk l 0).text=x:=⟨_,rfl⟩
  obtain ⟨a0,ha0⟩:∃n:Int,((pk l 0).kind:Int)=n:=⟨_,rfl⟩
  have HX:=hid hx0
  clear hlt hj
  by_cases h1:(pk l 0).kind=1
  · obtain rfl : (1 : Int) = a0 := by omega
    have HP0:=hid (peek_at HR.out 0 (by decide) ha0 hx0 hn0 hp0)
    obtain ⟨ag,hag⟩:∃ag,aggOf (pk l 0).text=ag:=⟨_,rfl⟩
    have HAG:=hid hag
    by_cases hg:ag=0
    · have HN : Hid (aggP l = plainP l) := by show _ = _; rw [aggP, if_pos (.inr (.inl (hag.trans hg)))]
      subst hg
      clear h h1 hx0 hn0 hp0 ha0 hag
      go_enter Tryz.func106,Tryz.ntmps106
      go_wp2_with fail
      refine HP0.out.mono ?_
      rintro e w2 ⟨rfl,hb2⟩
      have HB2:=hid hb2
      have A2:=hid ((HR.out.below hb2).alloc (tokO 1 x0 n0 p0))
      have HOf:=hid (show Calls Tryz.prog 107 #[.string x0] (w2.alloc (tokO 1 x0 n0 p0)) (RetB (w2.alloc (tokO 1 x0 n0 p0)) (.int .i64 0)) from by rw [←HX.out];rw [←HAG.out];exact Of_any _ _)
      have s2:=HB2.out.size
      simp at s2
      clear hb2
      go_wp2_with fail
      refine HOf.out.mono ?_
      rintro e w3 ⟨rfl,hb3⟩
      have HB3:=hid hb3
      have A3:=hid (A2.out.below hb3)
      have s3:=HB3.out.size
      simp at s3
      have k5:=(HB3.out.block w2.heap.size (by simp)).trans (heap_alloc_new w2 (tokO 1 x0 n0 p0))
      obtain ⟨z0,z1,z2,z3,f0,f1,f2,f3⟩:=blk4 k5
      have F3:Hid (Fr (fun _=>False) w w3):=(((((Fr.refl _ w).alloc termO).old HB2.out).alloc _).old HB3.out)
      have J3:=hid (hJ.out.keep F3.out (fun h=>h) (fun h=>h))
      have kr:Hid (w3.heap[w.heap.size]? =some termO):=by
        show _=_
        rw [hb3.block _ (by simp;omega),Below.heap_alloc _ _ _ (by omega),HB2.out.block _ (by simp),heap_alloc_new]
      have b3:w3.cell? ⟨br,0,none⟩=some (.pointer (some ⟨E.b,0,none⟩)):=cell_blk J3.out.1 0
      clear hb3 k5
      have HPl:=hid (plain_any A3.out)
      go_wp2_with fail
      refine HPl.out.mono ?_
      intro e w5 hp
      cases hr:plainP l with
      |ok v=>
        obtain ⟨⟨⟨v0,v1,v2⟩,g⟩,l'⟩:=v
        obtain rfl:g=0:=plain_zero hr
        have HQ:=hid hr
        rw [hr] at hp
        obtain ⟨j',rfl,hA,hF⟩:=hp
        have K:=hid (And.intro hA hF)
        have s5:=hF.size
        obtain ⟨r0,r1,r2,q0,q1,q2⟩:=blk3 ((hF.block _ (Go.Proofs.YtjlnpdpkobpkiaaGreatDoor.blk_lt kr.out) (by omega)).trans kr.out)
        clear hA hF hr
        go_wp2
        refine bodyPost_ret (v:= .tuple #[tmV ⟨v0,v1,v2⟩,.bool false,.nilIface]) (by simp [results,Tryz.results106,go_sem,r0,r1,r2]) rfl ?_
        rw [HN.out,HQ.out]
        refine ⟨j',rfl,?_,?_,?_⟩
        · exact K.out.1.put3 (by omega) (by omega)
        · exact (J3.out.keep K.out.2 (by omega) (by omega)).keep Fr.self3 (by omega) (by omega)
        · exact ((F3.out.mono (fun i _ e=>e.elim)).trans K.out.2 (fun i _ e=> .inl e)).put3 (Nat.le_refl _)
      |error v=>
        obtain ⟨t,p⟩:=v
        have HQ:=hid hr
        rw [hr] at hp
        obtain ⟨f,what,rfl,hFa,hlf,hF⟩:=hp
        have K:=hid (And.intro hFa hF)
        have s5:=hF.size
        obtain ⟨r0,r1,r2,q0,q1,q2⟩:=blk3 ((hF.block _ (Go.Proofs.YtjlnpdpkobpkiaaGreatDoor.blk_lt kr.out) (by omega)).trans kr.out)
        clear hFa hF hr
        go_wp2
        refine bodyPost_ret (v:= .tuple #[tmZ,.bool false,faultV f]) (by simp [results,Tryz.results106,go_sem,r0,r1,r2]) rfl ?_
        rw [HN.out,HQ.out]
        refine ⟨f,what,_,_,_,_,rfl,?_,by omega,?_,0,?_⟩
        · exact K.out.1.put3 (by omega)
        · exact ((F3.out.mono (fun i _ e=>e.elim)).trans K.out.2 (fun i _ e=> .inl e)).put3 (Nat.le_refl _)
        · exact (J3.out.keep K.out.2 (by omega) (by omega)).keep Fr.self3 (by omega) (by omega)
    · have hg1 : (ag == 0) = false := beq_false_of_ne hg
      have HG:=hid hg
      cases hs:isS l 1 [60] with
      |false=>
        have HIS:=hid hs
        have HN:Hid (aggP l=plainP l):=by show _=_;rw [aggP,if_pos (.inr (.inr hs))]
        clear h h1 hx0 hn0 hp0 ha0 hag hs
        go_enter Tryz.func106,Tryz.ntmps106
        go_wp2_with fail
        refine HP0.out.mono ?_
        rintro e w2 ⟨rfl,hb2⟩
        have HB2:=hid hb2
        have A2:=hid ((HR.out.below hb2).alloc (tokO 1 x0 n0 p0))
        have HOf:=hid (show Calls Tryz.prog 107 #[.string x0] (w2.alloc (tokO 1 x0 n0 p0)) (RetB (w2.alloc (tokO 1 x0 n0 p0)) (.int .i64 ag)) from by rw [←HX.out];rw [←HAG.out];exact Of_any _ _)
        have s2:=HB2.out.size
        simp at s2
        clear hb2
        go_wp2_with fail
        refine HOf.out.mono ?_
        rintro e w3 ⟨rfl,hb3⟩
        have HB3:=hid hb3
        have A3:=hid (A2.out.below hb3)
        have s3:=HB3.out.size
        simp at s3
        have k5:=(HB3.out.block w2.heap.size (by simp)).trans (heap_alloc_new w2 (tokO 1 x0 n0 p0))
        obtain ⟨z0,z1,z2,z3,f0,f1,f2,f3⟩:=blk4 k5
        have F3:Hid (Fr (fun _=>False) w w3):=(((((Fr.refl _ w).alloc termO).old HB2.out).alloc _).old HB3.out)
        have J3:=hid (hJ.out.keep F3.out (fun h=>h) (fun h=>h))
        have kr:Hid (w3.heap[w.heap.size]? =some termO):=by
          show _=_
          rw [hb3.block _ (by simp;omega),Below.heap_alloc _ _ _ (by omega),HB2.out.block _ (by simp),heap_alloc_new]
        have b3:w3.cell? ⟨br,0,none⟩=some (.pointer (some ⟨E.b,0,none⟩)):=cell_blk J3.out.1 0
        clear hb3 k5
        have HI:=hid (is_any A3.out 1 (by decide) [60])
        rw [show isS l 1 [60]=false from HIS.out] at HI
        go_wp2_with fail
        refine HI.out.mono ?_
        rintro e w4 ⟨rfl,hb4⟩
        have HB4:=hid hb4
        have A4:=hid (A3.out.below hb4)
        have s4:=hb4.size
        have F4:Hid (Fr (fun _=>False) w w4):=F3.out.old hb4
        have J4:=hid (hJ.out.keep F4.out (fun h=>h) (fun h=>h))
        have kr4:Hid (w4.heap[w.heap.size]? =some termO):=(hb4.block _ (Go.Proofs.YtjlnpdpkobpkiaaGreatDoor.blk_lt kr.out)).trans kr.out
        have b4:w4.cell? ⟨br,0,none⟩=some (.pointer (some ⟨E.b,0,none⟩)):=cell_blk J4.out.1 0
        clear hb4
        have HPl:=hid (plain_any A4.out)
        go_wp2_with fail
        refine HPl.out.mono ?_
        intro e w5 hp
        cases hr:plainP l with
        |ok v=>
          obtain ⟨⟨⟨v0,v1,v2⟩,g⟩,l'⟩:=v
          obtain rfl:g=0:=plain_zero hr
          have HQ:=hid hr
          rw [hr] at hp
          obtain ⟨j',rfl,hA,hF⟩:=hp
          have K:=hid (And.intro hA hF)
          have s5:=hF.size
          obtain ⟨r0,r1,r2,q0,q1,q2⟩:=blk3 ((hF.block _ (Go.Proofs.YtjlnpdpkobpkiaaGreatDoor.blk_lt kr4.out) (by omega)).trans kr4.out)
          clear hA hF hr
          go_wp2
          refine bodyPost_ret (v:= .tuple #[tmV ⟨v0,v1,v2⟩,.bool false,.nilIface]) (by simp [results,Tryz.results106,go_sem,r0,r1,r2]) rfl ?_
          rw [HN.out,HQ.out]
          refine ⟨j',rfl,?_,?_,?_⟩
          · exact K.out.1.put3 (by omega) (by omega)
          · exact (J4.out.keep K.out.2 (by omega) (by omega)).keep Fr.self3 (by omega) (by omega)
          · exact ((F4.out.mono (fun i _ e=>e.elim)).trans K.out.2 (fun i _ e=> .inl e)).put3 (Nat.le_refl _)
        |error v=>
          obtain ⟨t,p⟩:=v
          have HQ:=hid hr
          rw [hr] at hp
          obtain ⟨f,what,rfl,hFa,hlf,hF⟩:=hp
          have K:=hid (And.intro hFa hF)
          have s5:=hF.size
          obtain ⟨r0,r1,r2,q0,q1,q2⟩:=blk3 ((hF.block _ (Go.Proofs.YtjlnpdpkobpkiaaGreatDoor.blk_lt kr4.out) (by omega)).trans kr4.out)
          clear hFa hF hr
          go_wp2
          refine bodyPost_ret (v:= .tuple #[tmZ,.bool false,faultV f]) (by simp [results,Tryz.results106,go_sem,r0,r1,r2]) rfl ?_
          rw [HN.out,HQ.out]
          refine ⟨f,what,_,_,_,_,rfl,?_,by omega,?_,0,?_⟩
          · exact K.out.1.put3 (by omega)
          · exact ((F4.out.mono (fun i _ e=>e.elim)).trans K.out.2 (fun i _ e=> .inl e)).put3 (Nat.le_refl _)
          · exact (J4.out.keep K.out.2 (by omega) (by omega)).keep Fr.self3 (by omega) (by omega)
      |true=>
        have HIS:=hid hs
        have HN:Hid (aggP l=if (pk (l.drop 2) 0).kind=2 then bnd (wantP [62]) (fun _ l'=> .ok ((mkT 0 (pk (l.drop 2) 0).text 0,ag),l')) (l.drop 3) else bad 1 (l.drop 2)):=by
          show _=_
          rw [aggP,if_neg (by rw [hag,hs];intro e;rcases e with e|e|e;exact e h1;exact hg e;cases e),hag]
        have hx2:=h.two (by rw [h1];decide) (fun e=>by unfold isS at hs;rw [e] at hs;cases hs)
        clear h h1 hx0 hn0 hp0 ha0 hag hs hg
        go_enter Tryz.func106,Tryz.ntmps106
        go_wp2_with fail
        refine HP0.out.mono ?_
        rintro e w2 ⟨rfl,hb2⟩
        have HB2:=hid hb2
        have A2:=hid ((HR.out.below hb2).alloc (tokO 1 x0 n0 p0))
        have HOf:=hid (show Calls Tryz.prog 107 #[.string x0] (w2.alloc (tokO 1 x0 n0 p0)) (RetB (w2.alloc (tokO 1 x0 n0 p0)) (.int .i64 ag)) from by rw [←HX.out];rw [←HAG.out];exact Of_any _ _)
        have s2:=HB2.out.size
        simp at s2
        clear hb2
        go_wp2_with fail
        refine HOf.out.mono ?_
        rintro e w3 ⟨rfl,hb3⟩
        have HB3:=hid hb3
        have A3:=hid (A2.out.below hb3)
        have s3:=HB3.out.size
        simp at s3
        have k5:=(HB3.out.block w2.heap.size (by simp)).trans (heap_alloc_new w2 (tokO 1 x0 n0 p0))
        obtain ⟨z0,z1,z2,z3,f0,f1,f2,f3⟩:=blk4 k5
        have F3:Hid (Fr (fun _=>False) w w3):=(((((Fr.refl _ w).alloc termO).old HB2.out).alloc _).old HB3.out)
        have J3:=hid (hJ.out.keep F3.out (fun h=>h) (fun h=>h))
        have kr:Hid (w3.heap[w.heap.size]? =some termO):=by
          show _=_
          rw [hb3.block _ (by simp;omega),Below.heap_alloc _ _ _ (by omega),HB2.out.block _ (by simp),heap_alloc_new]
        have b3:w3.cell? ⟨br,0,none⟩=some (.pointer (some ⟨E.b,0,none⟩)):=cell_blk J3.out.1 0
        clear hb3 k5
        have HI:=hid (is_any A3.out 1 (by decide) [60])
        rw [show isS l 1 [60]=true from HIS.out] at HI
        go_wp2_with fail
        refine HI.out.mono ?_
        rintro e w4 ⟨rfl,hb4⟩
        have HB4:=hid hb4
        have A4:=hid (A3.out.below hb4)
        have s4:=hb4.size
        have F4:Hid (Fr (fun _=>False) w w4):=F3.out.old hb4
        have J4:=hid (hJ.out.keep F4.out (fun h=>h) (fun h=>h))
        have kr4:Hid (w4.heap[w.heap.size]? =some termO):=(hb4.block _ (Go.Proofs.YtjlnpdpkobpkiaaGreatDoor.blk_lt kr.out)).trans kr.out
        have b4:w4.cell? ⟨br,0,none⟩=some (.pointer (some ⟨E.b,0,none⟩)):=cell_blk J4.out.1 0
        clear hb4
        obtain ⟨c1,g1⟩:=A4.out.c1
        have A5:Hid (At E (w4.setCell ⟨E.b,1,none⟩ (.int .i64 ((j:Int)+2))) (j+2) d (l.drop 2)):=A4.out.onk 2 _ (by omega) (by omega)
        have F5:Hid (Fr (fun i=>i=E.b) w (w4.setCell ⟨E.b,1,none⟩ (.int .i64 ((j:Int)+2)))):=Fr.putF (F:=fun i=>i=E.b) (F4.out.mono (fun i _ e=>e.elim)) _ rfl _
        have J5:=hid (hJ.out.keep F5.out (by omega) (by omega))
        have b5:(w4.setCell ⟨E.b,1,none⟩ (.int .i64 ((j:Int)+2))).cell? ⟨br,0,none⟩=some (.pointer (some ⟨E.b,0,none⟩)):=cell_blk J5.out.1 0
        have kr5:Hid ((w4.setCell ⟨E.b,1,none⟩ (.int .i64 ((j:Int)+2))).heap[w.heap.size]? =some termO):=((Fr.setCell w4 ⟨E.b,1,none⟩ _).block _ (Go.Proofs.YtjlnpdpkobpkiaaGreatDoor.blk_lt kr4.out) (fun e=>by dsimp only at e;omega)).trans kr4.out
        have HV:=hid (variable_any A5.out)
        go_wp2_with fail
        refine HV.out.mono ?_
        intro e w6 hv
        by_cases hk2:(pk (l.drop 2) 0).kind=2
        · obtain ⟨rfl, hA, hF⟩ := hv.1 hk2
          have HK2:=hid hk2
          have A6:=hid hA
          have F6:Hid (Fr (fun i=>i=E.b) w w6):=F5.out.trans hF (fun i _ e=>e)
          have s6:=hF.size
          simp [World.setCell] at s6
          have J6:=hid (hJ.out.keep F6.out (by omega) (by omega))
          have b6:w6.cell? ⟨br,0,none⟩=some (.pointer (some ⟨E.b,0,none⟩)):=cell_blk J6.out.1 0
          have o6:w6.cell? ⟨o,2,none⟩=some (.int .i64 0):=cell_blk J6.out.2 2
          have o7:=Lib.frozen_of_heap J6.out.2 2
          have b7:(w6.setCell ⟨o,2,none⟩ (.int .i64 ag)).cell? ⟨br,0,none⟩=some (.pointer (some ⟨E.b,0,none⟩)):=(Fr.setCell w6 ⟨o,2,none⟩ _).cell b6 (fun e=>by dsimp only at e;omega)
          have A7:Hid (At E (w6.setCell ⟨o,2,none⟩ (.int .i64 ag)) (j+2+1) d ((l.drop 2).drop 1)):=A6.out.keep (Fr.setCell w6 ⟨o,2,none⟩ _) (fun e=>by dsimp only at e;omega) (fun e=>by dsimp only at e;omega)
          have J7:Hid (hdJ E br o at_ ag (w6.setCell ⟨o,2,none⟩ (.int .i64 ag))):=by
            refine ⟨((Fr.setCell w6 ⟨o,2,none⟩ _).block br (Go.Proofs.YtjlnpdpkobpkiaaGreatDoor.blk_lt J6.out.1) (fun e=>by dsimp only at e;omega)).trans J6.out.1,?_⟩
            have:=Go.Proofs.YtjlnpdpkobpkiaaGreatDoor.blk_set (o:=2) J6.out.2 (.int .i64 ag)
            rw [this]
            simp
          have F7:Hid (Fr (fun i=>i=E.b∨i=br∨i=o) w (w6.setCell ⟨o,2,none⟩ (.int .i64 ag))):=Fr.putF (F:=fun i=>i=E.b∨i=br∨i=o) (F6.out.mono (fun i _ e=> .inl e)) _ (.inr (.inr rfl)) _
          have kr7:Hid ((w6.setCell ⟨o,2,none⟩ (.int .i64 ag)).heap[w.heap.size]? =some termO):=((Fr.setCell w6 ⟨o,2,none⟩ _).block _ (by omega) (fun e=>by dsimp only at e;omega)).trans ((hF.block _ (Go.Proofs.YtjlnpdpkobpkiaaGreatDoor.blk_lt kr5.out) (by omega)).trans kr5.out)
          have HW:=hid (want_any A7.out [62])
          clear hA hF hv hk2
          go_wp2_with fail
          refine HW.out.mono ?_
          intro e w8 hp
          cases hr:wantP [62] ((l.drop 2).drop 1) with
          |ok v=>
            obtain ⟨u,l'⟩:=v
            have HQ:Hid (aggP l= .ok ((mkT 0 (pk (l.drop 2) 0).text 0,ag),l')):=by
              show _=_
              rw [HN.out,if_pos HK2.out,show l.drop 3=(l.drop 2).drop 1 by rw [List.drop_drop],bnd,hr]
            rw [hr] at hp
            obtain ⟨j',rfl,hA,hF⟩:=hp
            have K:=hid (And.intro hA hF)
            have s8:=hF.size
            simp [World.setCell] at s8
            obtain ⟨r0,r1,r2,q0,q1,q2⟩:=blk3 ((hF.block _ (Go.Proofs.YtjlnpdpkobpkiaaGreatDoor.blk_lt kr7.out) (by omega)).trans kr7.out)
            clear hA hF hr
            go_wp2
            refine bodyPost_ret (v:= .tuple #[tmV (mkT 0 (pk (l.drop 2) 0).text 0),.bool true,.nilIface]) (by simp [results,Tryz.results106,go_sem,r0,r1,r2,mkT]) rfl ?_
            rw [HQ.out]
            refine ⟨j',by rw [decide_eq_true HG.out],?_,?_,?_⟩
            · exact K.out.1.put3 (by omega) (by omega)
            · exact (J7.out.keep K.out.2 (by omega) (by omega)).keep Fr.self3 (by omega) (by omega)
            · exact (F7.out.trans K.out.2 (fun i _ e=> .inl e)).put3 (Nat.le_refl _)
          |error v=>
            obtain ⟨t,p⟩:=v
            have HQ:Hid (aggP l= .error (t,p)):=by
              show _=_
              rw [HN.out,if_pos HK2.out,show l.drop 3=(l.drop 2).drop 1 by rw [List.drop_drop],bnd,hr]
            rw [hr] at hp
            obtain ⟨f,what,rfl,hFa,hlf,hF⟩:=hp
            have K:=hid (And.intro hFa hF)
            have s8:=hF.size
            simp [World.setCell] at s8 hlf
            obtain ⟨r0,r1,r2,q0,q1,q2⟩:=blk3 ((hF.block _ (Go.Proofs.YtjlnpdpkobpkiaaGreatDoor.blk_lt kr7.out) (by omega)).trans kr7.out)
            clear hFa hF hr
            go_wp2
            refine bodyPost_ret (v:= .tuple #[tmV (mkT 0 (pk (l.drop 2) 0).text 0),.bool true,faultV f]) (by simp [results,Tryz.results106,go_sem,r0,r1,r2,mkT]) rfl ?_
            rw [HQ.out]
            refine ⟨f,what,_,_,_,_,rfl,?_,by omega,?_,ag,?_⟩
            · exact K.out.1.put3 (by omega)
            · exact (F7.out.trans K.out.2 (fun i _ e=> .inl e)).put3 (Nat.le_refl _)
            · exact (J7.out.keep K.out.2 (by omega) (by omega)).keep Fr.self3 (by omega) (by omega)
        · obtain ⟨rfl, hb6⟩ := hv.2 hk2
          have HQ:Hid (aggP l=bad 1 (l.drop 2)):=by
            show _=_
            rw [HN.out,if_neg hk2]
          have A6:=hid (A5.out.below hb6)
          have F6:Hid (Fr (fun i=>i=E.b) w w6):=F5.out.old hb6
          have s6:=hb6.size
          simp [World.setCell] at s6
          have J6:=hid (hJ.out.keep F6.out (by omega) (by omega))
          have b6:w6.cell? ⟨br,0,none⟩=some (.pointer (some ⟨E.b,0,none⟩)):=cell_blk J6.out.1 0
          have kr6:Hid (w6.heap[w.heap.size]? =some termO):=(hb6.block _ (Go.Proofs.YtjlnpdpkobpkiaaGreatDoor.blk_lt kr5.out)).trans kr5.out
          have HF:=hid (fail_any A6.out 1 ⟨#[118,97,114,105,97,98,108,101]⟩)
          clear hb6 hv hk2
          go_wp2_with fail
          refine HF.out.mono ?_
          rintro e w8 ⟨f,what,rfl,hFa,hlf,hb8⟩
          obtain ⟨r0,r1,r2,q0,q1,q2⟩:=blk3 ((hb8.block _ (Go.Proofs.YtjlnpdpkobpkiaaGreatDoor.blk_lt kr6.out)).trans kr6.out)
          have K:=hid (And.intro hFa hb8)
          clear hFa hb8
          go_wp2
          refine bodyPost_ret (v:= .tuple #[tmZ,.bool false,faultV f]) (by simp [results,Tryz.results106,go_sem,r0,r1,r2]) rfl ?_
          rw [HQ.out]
          refine ⟨f,what,_,_,_,_,rfl,?_,by omega,?_,0,?_⟩
          · exact K.out.1.put3 (by omega)
          · exact ((F6.out.mono (fun i _ e=> .inl e)).old K.out.2).put3 (Nat.le_refl _)
          · exact (J6.out.keep (Fr.ofB (F:=fun _=>False) K.out.2) (fun h=>h) (fun h=>h)).keep Fr.self3 (by omega) (by omega)
  · have ha1 : (a0 == 1) = false := beq_false_of_ne (by omega)
    have ha2:¬a0=1:=by omega
    have HP0:=hid (peek_at HR.out 0 (by decide) ha0 hx0 hn0 hp0)
    have HN:Hid (aggP l=plainP l):=by show _=_;rw [aggP,if_pos (.inl h1)]
    clear h h1 hx0 hn0 hp0 ha0
    go_enter Tryz.func106,Tryz.ntmps106
    go_wp2_with fail
    refine HP0.out.mono ?_
    rintro e w2 ⟨rfl,hb2⟩
    have HB2:=hid hb2
    have A2:=hid ((HR.out.below hb2).alloc (tokO a0 x0 n0 p0))
    have HOf:=hid (show Calls Tryz.prog 107 #[.string x0] (w2.alloc (tokO a0 x0 n0 p0)) (RetB (w2.alloc (tokO a0 x0 n0 p0)) (.int .i64 (aggOf (pk l 0).text))) from by rw [←HX.out];exact Of_any _ _)
    have s2:=HB2.out.size
    simp at s2
    clear hb2
    go_wp2_with fail
    refine HOf.out.mono ?_
    rintro e w3 ⟨rfl,hb3⟩
    have HB3:=hid hb3
    have A3:=hid (A2.out.below hb3)
    have s3:=HB3.out.size
    simp at s3
    have k5:=(HB3.out.block w2.heap.size (by simp)).trans (heap_alloc_new w2 (tokO a0 x0 n0 p0))
    obtain ⟨z0,z1,z2,z3,f0,f1,f2,f3⟩:=blk4 k5
    have F3:Hid (Fr (fun _=>False) w w3):=(((((Fr.refl _ w).alloc termO).old HB2.out).alloc _).old HB3.out)
    have J3:=hid (hJ.out.keep F3.out (fun h=>h) (fun h=>h))
    have kr:Hid (w3.heap[w.heap.size]? =some termO):=by
      show _=_
      rw [hb3.block _ (by simp;omega),Below.heap_alloc _ _ _ (by omega),HB2.out.block _ (by simp),heap_alloc_new]
    have b3:w3.cell? ⟨br,0,none⟩=some (.pointer (some ⟨E.b,0,none⟩)):=cell_blk J3.out.1 0
    clear hb3 k5
    have HPl:=hid (plain_any A3.out)
    go_wp2_with fail
    refine HPl.out.mono ?_
    intro e w5 hp
    cases hr:plainP l with
    |ok v=>
      obtain ⟨⟨⟨v0,v1,v2⟩,g⟩,l'⟩:=v
      obtain rfl:g=0:=plain_zero hr
      have HQ:=hid hr
      rw [hr] at hp
      obtain ⟨j',rfl,hA,hF⟩:=hp
      have K:=hid (And.intro hA hF)
      have s5:=hF.size
      obtain ⟨r0,r1,r2,q0,q1,q2⟩:=blk3 ((hF.block _ (Go.Proofs.YtjlnpdpkobpkiaaGreatDoor.blk_lt kr.out) (by omega)).trans kr.out)
      clear hA hF hr
      go_wp2
      refine bodyPost_ret (v:= .tuple #[tmV ⟨v0,v1,v2⟩,.bool false,.nilIface]) (by simp [results,Tryz.results106,go_sem,r0,r1,r2]) rfl ?_
      rw [HN.out,HQ.out]
      refine ⟨j',rfl,?_,?_,?_⟩
      · exact K.out.1.put3 (by omega) (by omega)
      · exact (J3.out.keep K.out.2 (by omega) (by omega)).keep Fr.self3 (by omega) (by omega)
      · exact ((F3.out.mono (fun i _ e=>e.elim)).trans K.out.2 (fun i _ e=> .inl e)).put3 (Nat.le_refl _)
    |error v=>
      obtain ⟨t,p⟩:=v
      have HQ:=hid hr
      rw [hr] at hp
      obtain ⟨f,what,rfl,hFa,hlf,hF⟩:=hp
      have K:=hid (And.intro hFa hF)
      have s5:=hF.size
      obtain ⟨r0,r1,r2,q0,q1,q2⟩:=blk3 ((hF.block _ (Go.Proofs.YtjlnpdpkobpkiaaGreatDoor.blk_lt kr.out) (by omega)).trans kr.out)
      clear hFa hF hr
      go_wp2
      refine bodyPost_ret (v:= .tuple #[tmZ,.bool false,faultV f]) (by simp [results,Tryz.results106,go_sem,r0,r1,r2]) rfl ?_
      rw [HN.out,HQ.out]
      refine ⟨f,what,_,_,_,_,rfl,?_,by omega,?_,0,?_⟩
      · exact K.out.1.put3 (by omega)
      · exact ((F3.out.mono (fun i _ e=>e.elim)).trans K.out.2 (fun i _ e=> .inl e)).put3 (Nat.le_refl _)
      · exact (J3.out.keep K.out.2 (by omega) (by omega)).keep Fr.self3 (by omega) (by omega)
end Go.Proofs.YtjlnpdpkobpkiaaGreatDoorPSP
