import Derived.Test.YtjlnpdpkobpkiaaGreatDoorZ2Pr4
import Derived.Test.YtjlnpdpkobpkiaaGreatDoorZ2W1
set_option linter.unusedVariables false
set_option linter.unusedSimpArgs false
namespace Go.Proofs.YtjlnpdpkobpkiaaGreatDoorPSP
open Go.RowKit Go.Extern.Stop Go.Stop Go.Extern Go.Proofs.YtjlnpdpkobpkiaaGreatDoorW.PrintWords Go.Proofs.YtjlnpdpkobpkiaaGreatDoor
theorem infoTm:(Tryz.prog.info? 98).map (fun i=>(i.zero,i.size,i.bytes))=some (some (.agg #[.int .i64 0,.string ⟨#[]⟩,.int .i64 0]),3,32):=by kernel_rfl
def OnePost (E:Env) (w:World) (d:Nat) (P:Nat→Prop) (J:Int→World→Prop) (r:Rs (Tm×Int)) (e:Ending) (w':World):Prop:=match r with
  | .ok (v,l')=>∃j',e= .returned (.tuple #[tmV v.1,.bool (decide (v.2≠0)),.nilIface])∧At E w' j' d l'∧J v.2 w'∧Fr (fun i=>i=E.b∨P i) w w'
  | .error (t,p)=>∃f what a x n b,e= .returned (.tuple #[.agg #[.int .i64 a,.string x,.int .i64 n],.bool b,faultV f])∧FaultAt w' f (t:Int) (p:Int) what .nilIface∧w.heap.size≤f∧Fr (fun i=>i=E.b∨P i) w w'∧∃g,J g w'
def ArgsPost (E:Env) (w:World) (d:Nat) (P:Nat→Prop) (J:Int→World→Prop) (r:Rs (List Tm×Int)) (e:Ending) (w':World):Prop:=match r with
  | .ok (v,l')=>∃j' A c,e= .returned (.tuple #[.slice A v.1.length c,.nilIface])∧At E w' j' d l'∧J v.2 w'∧v.1.length≤c∧Kd.F k98 w' (fun i=>w.heap.size≤i) A v.1.length v.1∧Fr (fun i=>i=E.b∨P i) w w'
  | .error (t,p)=>∃f what A n c,e= .returned (.tuple #[.slice A n c,faultV f])∧FaultAt w' f (t:Int) (p:Int) what .nilIface∧w.heap.size≤f∧Fr (fun i=>i=E.b∨P i) w w'∧∃g,J g w'
structure JOk (E:Env) (w:World) (P:Nat→Prop) (J:Int→World→Prop):Prop where
  lt:∀i,P i→i<w.heap.size
  ne:∀i,P i→i≠E.b∧i≠E.g
  keep:∀g w1 w2,(∀i,P i→w2.heap[i]? =w1.heap[i]?)→J g w1→J g w2
theorem app_keep {E:Env} {w w2 w5:World} {j3 d m c:Nat} {l3:List Tk} {A:Option Addr} {acc:List Tm} {tt:Tm} {o:Obj} {v5:Value} {P:Nat→Prop} (hA:At E w2 j3 d l3) (lb:E.b<w.heap.size) (lg:E.g<w.heap.size) (hsz:w.heap.size≤w2.heap.size)
    (hF:Fr (fun i=>i=E.b∨P i) w w2) (hR:Kd.R k98 98 w5 w.heap.size (fun i=>w.heap.size≤i) v5 (acc++[tt])) (hg:(w2.alloc o).grownBy w5 (Value.slice A m c).ownBlock) (hm:m=acc.length)
    (hown:∀i,(Value.slice A m c).ownBlock=some i→w.heap.size≤i):
    ∃A3 n3 c3,v5= .slice A3 n3 c3∧Hid (Kd.R k98 98 w5 w.heap.size (fun i=>w.heap.size≤i) (.slice A3 n3 c3) (acc++[tt]))∧Hid (n3=(acc++[tt]).length)∧Hid (At E w5 j3 d l3)∧Hid (Fr (fun i=>i=E.b∨P i) w w5)∧Hid (w.heap.size≤w5.heap.size)∧Hid (∀i,i<w.heap.size→w5.heap[i]? =w2.heap[i]?):=by
  obtain ⟨A3,c3,rfl⟩:=Kd.R_slice hR
  have hf:=(Fr.refl (fun i=>(Value.slice A m c).ownBlock=some i) w2).alloc o |>.trans (Fr.grown hg) (fun i _ e=>e)
  refine ⟨A3,_,c3,rfl,hid hR,hid rfl,hid (hA.keep hf (fun e=>by have:=hown _ e;omega) (fun e=>by have:=hown _ e;omega)),hid (hF.trans hf (fun i hi e=>by have:=hown _ e;omega)),hid (Nat.le_trans hsz hf.size),hid (fun i hi=>hf.block i (by omega) (fun e=>by have:=hown _ e;omega))⟩
theorem argsL_s (one:List Tk→Rs (Tm×Int)) (n:Nat) (acc:List Tm):argsL one (n+1) acc=bnd one (fun x l'=>if x.2≠0 then .ok ((acc++[x.1],x.2),l') else if isS l' 0 [44]=true then argsL one n (acc++[x.1]) (l'.drop 1) else .ok ((acc++[x.1],0),l')):=rfl
set_option maxHeartbeats 4000000 in
set_option maxRecDepth 100000 in
theorem args_any {E:Env} {w:World} {j d:Nat} {l:List Tk} (h:At E w j d l) (k:Nat) (first cap:Array Value) (one:List Tk→Rs (Tm×Int)) (P:Nat→Prop) (J:Int→World→Prop) (hJ:JOk E w P J) (hj0:J 0 w) (hen:∀args w,(callFunc k args).run Tryz.prog w= .ok (.enter k args) w)
    (hone:∀w1 j1 l1,w.heap.size≤w1.heap.size→At E w1 j1 d l1→J 0 w1→Calls Tryz.prog k (first++cap) w1 (OnePost E w1 d P J (one l1))):
    Calls Tryz.prog 97 #[.pointer (some ⟨E.b,0,none⟩),.func (.func k) first cap] w (ArgsPost E w d P J (argsP one l)):=by
  have H:=hid h
  have HJ:=hid hJ
  have HJ0:=hid hj0
  have HO:=hid hone
  have HW:=hid (want_any h [40])
  have lb:=h.lb
  have lg:=h.lg
  clear h hJ hj0 hone
  go_enter Tryz.func97,Tryz.ntmps97
  go_wp2_with fail
  refine HW.out.mono ?_
  intro e w1 hp
  cases hr:wantP [40] l with
  |error v=>
    obtain ⟨t,p⟩:=v
    have HN:Hid (argsP one l= .error (t,p)):=by show _=_;unfold argsP bnd;rw [hr]
    rw [hr] at hp
    obtain ⟨f,what,rfl,hFa,hlf,hF⟩:=hp
    have K:=hid (And.intro hFa (And.intro hlf hF))
    clear hFa hlf hF hr
    go_wp2
    go_ret2
    rw [HN.out]
    exact ⟨f,what,none,0,0,rfl,K.out.1,K.out.2.1,K.out.2.2.mono (fun i _ e=> .inl e),0,HJ.out.keep _ _ _ (fun i hi=>K.out.2.2.block i (HJ.out.lt i hi) (HJ.out.ne i hi).1) HJ0.out⟩
  |ok v=>
    obtain ⟨u,l1⟩:=v
    rw [hr] at hp
    obtain ⟨j1,rfl,hA,hF⟩:=hp
    have HN:Hid (argsP one l=bnd (argsL one 6 []) (fun r=>bnd (wantP [41]) (fun _ l'=> .ok (r,l'))) l1):=by show _=_;unfold argsP;rw [bnd,hr]
    have K:=hid (And.intro hA hF)
    have hz:=hF.size
    have HJ1:Hid (J 0 w1):=HJ.out.keep _ _ _ (fun i hi=>hF.block i (HJ.out.lt i hi) (HJ.out.ne i hi).1) HJ0.out
    clear hA hF hr
    go_wp2_with fail
    go_loopg [7] 7 (fun g v wr=>∃(acc:List Tm) (j':Nat) (l':List Tk) (A:Option Addr) (c:Nat),v= .slice A acc.length c∧acc.length≤6∧6-acc.length<g∧w.heap.size≤wr.heap.size∧Hid (At E wr j' d l')∧Hid (Kd.R k98 98 wr w.heap.size (fun i=>w.heap.size≤i) (.slice A acc.length c) acc)∧Hid (J 0 wr)∧Hid (Fr (fun i=>i=E.b∨P i) w wr)∧Hid (argsP one l=bnd (argsL one (6-acc.length) acc) (fun r=>bnd (wantP [41]) (fun _ l'=> .ok (r,l'))) l'))
    case atStart=>exact ⟨[],j1,l1,none,0,rfl,by simp,by simp,hz,K.out.1,hid (Kd.R_nil _ _ _ _ _),HJ1,hid (K.out.2.mono (fun i _ e=> .inl e)),HN⟩
    case round=>
      clear K HJ1 HN hz HW
      obtain ⟨acc,j',l',A,c,rfl,hacc,hg,hsz,HA,HR,HJ1,HF,HN⟩:=hrel
      obtain ⟨wo,rfl⟩:∃x:World,x=wr:=⟨_,rfl⟩
      obtain ⟨m,hm⟩:∃m,m=acc.length:=⟨_,rfl⟩
      rw [←hm] at hacc hg ⊢
      have HM:=hid hm
      clear hm
      by_cases h6:m=6
      · subst h6
        have HE:Hid (argsP one l=bad 3 l'):=by show _=_;rw [HN.out,←HM.out];rfl
        have HFl:=hid (fail_any HA.out 3 ⟨#[116,101,114,109,115]⟩)
        go_wp2_with fail
        refine HFl.out.mono ?_
        rintro e w2 ⟨f,what,rfl,hFa,hlf,hb⟩
        have K:=hid (And.intro hFa (And.intro hlf hb))
        clear hFa hlf hb
        go_wp2
        go_ret2
        rw [HE.out]
        exact ⟨f,what,none,0,0,rfl,K.out.1,Nat.le_trans hsz K.out.2.1,HF.out.old K.out.2.2,0,HJ.out.keep _ _ _ (fun i hi=>K.out.2.2.block i (Nat.lt_of_lt_of_le (HJ.out.lt i hi) hsz)) HJ1.out⟩
      · have hlt : m < 6 := by omega
        have HC:=hid (HO.out wo j' l' hsz HA.out HJ1.out)
        go_wp2_with fail
        refine HC.out.mono ?_
        intro e w2 hp
        cases hr:one l' with
        |error v=>
          obtain ⟨t,p⟩:=v
          have HE:Hid (argsP one l= .error (t,p)):=by
            show _=_
            rw [HN.out,show 6-acc.length=(5-acc.length)+1 by have:=HM.out;omega,argsL_s]
            unfold bnd
            rw [hr]
          rw [hr] at hp
          obtain ⟨f,what,a,x,n,b,rfl,hFa,hlf,hF,gj,hjj⟩:=hp
          have K:=hid (And.intro hFa (And.intro hlf hF))
          have KJ:=hid hjj
          clear hFa hlf hF hr hjj
          go_wp2
          go_ret2
          rw [HE.out]
          exact ⟨f,what,none,0,0,rfl,(Lib.alloc_old w2 _ f (Go.Proofs.YtjlnpdpkobpkiaaGreatDoor.blk_lt K.out.1)).trans K.out.1,Nat.le_trans hsz K.out.2.1,(HF.out.trans K.out.2.2 (fun i _ e=>e)).alloc _,gj,HJ.out.keep _ _ _ (fun i hi=>Lib.alloc_old w2 _ i (Nat.lt_of_lt_of_le (HJ.out.lt i hi) (Nat.le_trans hsz K.out.2.2.size))) KJ.out⟩
        |ok v=>
          obtain ⟨⟨tt,gg⟩,l3⟩:=v
          have HE:Hid (argsP one l=bnd (fun l'=>if gg≠0 then .ok ((acc++[tt],gg),l') else if isS l' 0 [44]=true then argsL one (5-acc.length) (acc++[tt]) (l'.drop 1) else .ok ((acc++[tt],0),l')) (fun r=>bnd (wantP [41]) (fun _ l'=> .ok (r,l'))) l3):=by
            show _=_
            rw [HN.out,show 6-acc.length=(5-acc.length)+1 by have:=HM.out;omega,argsL_s]
            unfold bnd
            rw [hr]
          rw [hr] at hp
          obtain ⟨j3,rfl,hA,hJ2,hF⟩:=hp
          have K:=hid (And.intro hA (And.intro hJ2 hF))
          have hsz2:w.heap.size≤w2.heap.size:=Nat.le_trans hsz hF.size
          have R2:Hid (Kd.R k98 98 w2 w.heap.size (fun i=>w.heap.size≤i) (.slice A acc.length c) acc):=Kd.R_step HR.out (fun i hi hlt=>hF.block i hlt (fun e=>by
            have:=hi
            rcases e with e|e
            · omega
            · have := HJ.out.lt i e
              omega))
          have F2:Hid (Fr (fun i=>i=E.b∨P i) w w2):=HF.out.trans hF (fun i _ e=>e)
          clear hA hJ2 hF hr
          have HLe:Hid ((acc.length+1)*32≤140737488355328):=by have:=HM.out;show _≤_;omega
          have hz3:(w2.alloc (.cells #[.int .i64 tt.f0,.string tt.f1,.int .i64 tt.f2] 98)).heap.size=w2.heap.size+1:=by simp
          have HG:=hid (show gg=gg from rfl)
          by_cases hg0:gg=0
          · subst hg0
            have HE1:Hid (argsP one l=bnd (fun l'=>if isS l' 0 [44]=true then argsL one (5-acc.length) (acc++[tt]) (l'.drop 1) else .ok ((acc++[tt],0),l')) (fun r=>bnd (wantP [41]) (fun _ l'=> .ok (r,l'))) l3):=HE.out
            clear HE HG
            go_wp2_with (at_builtin;go_must (refine Kd.R_append k98 (w0:=w2.alloc (.cells #[.int .i64 tt.f0,.string tt.f1,.int .i64 tt.f2] 98)) w.heap.size rfl _ _ 31 98 (.agg #[.int .i64 0,.string ⟨#[]⟩,.int .i64 0]) 32 rfl Tryz.underlying31 infoTm rfl (by decide) (by decide) (.slice A m c) acc tt [.int .i64 tt.f0,.string tt.f1,.int .i64 tt.f2] (fun i=>w.heap.size≤i) (fun _=>False) rfl (by rw [hz3];rfl) (k98_mkM _ _ _ tt) (fun _ h=>h.elim) (fun i hi=>by have:=hi;simp at this;omega) (by rw [HM.out];exact Kd.R_alloc R2.out _) (Below.refl _ _) (by simp;omega) HLe.out ?_);intro v5 w5 hR hB hg5 hat;have hq:=app_keep (E:=E) (P:=P) K.out.1 (by omega) (by omega) hsz2 F2.out hR hg5 HM.out (fun i hi=>by rw [HM.out] at hi;exact R2.out.1 i hi);obtain ⟨A3,n3,c3,rfl,RT,HL,AT,FT,SZ,BL⟩:=hq;have JT:Hid (J 0 w5):=HJ.out.keep _ _ _ (fun i hi=>BL.out i (HJ.out.lt i hi)) K.out.2.1;clear hR hB hg5 hat)
            have HT:=hid (take_any AT.out [44])
            go_wp2_with fail
            refine HT.out.mono ?_
            rintro e w7 ⟨rfl,t1,t2⟩
            cases hs:isS l3 0 [44] with
            |true=>
              have HS:=hid hs
              have T1:=hid (t1 hs)
              have HE2:Hid (argsP one l=bnd (argsL one (5-acc.length) (acc++[tt])) (fun r=>bnd (wantP [41]) (fun _ l'=> .ok (r,l'))) (l3.drop 1)):=by
                show _=_
                rw [HE1.out]
                simp only [bnd,HS.out,if_true]
              clear t1 t2 hs
              go_wp2
              go_roundg (6-m)
              case measure=>omega
              case rel=>
                refine ⟨acc++[tt],j3+1,l3.drop 1,A3,c3,by rw [HL.out],?_,?_,Nat.le_trans SZ.out T1.out.2.size,T1.out.1,?_,?_,FT.out.trans T1.out.2 (fun i _ e=> .inl e),?_⟩
                · rw [List.length_append,←HM.out];simp;omega
                · rw [List.length_append,←HM.out];simp;omega
                · have := RT.out
                  rw [HL.out] at this
                  exact Kd.R_step this (fun i hi hlt=>T1.out.2.block i hlt (by have:=hi;omega))
                · exact HJ.out.keep _ _ _ (fun i hi=>T1.out.2.block i (Nat.lt_of_lt_of_le (HJ.out.lt i hi) SZ.out) (HJ.out.ne i hi).1) JT.out
                · show _ = _
                  rw [HE2.out,List.length_append,List.length_singleton,show 6-(acc.length+1)=5-acc.length by omega]
            |false=>
              have HS:=hid hs
              have T2:=hid (t2 hs)
              have HN2:Hid (argsP one l=bnd (wantP [41]) (fun _ l'=> .ok ((acc++[tt],0),l')) l3):=by
                show _=_
                rw [HE1.out]
                simp only [bnd,HS.out]
                rfl
              clear t1 t2 hs
              have AT:=hid (AT.out.below T2.out)
              have FT:=hid (FT.out.old T2.out)
              have JT:Hid (J 0 w7):=HJ.out.keep _ _ _ (fun i hi=>T2.out.block i (Nat.lt_of_lt_of_le (HJ.out.lt i hi) SZ.out)) JT.out
              have SZ:=hid (Nat.le_trans SZ.out T2.out.size)
              have RT:=hid (Kd.R_below RT.out T2.out)
              have HWt:=hid (want_any AT.out [41])
              go_wp2_with fail
              refine HWt.out.mono ?_
              intro e w6 hp
              cases hr2:wantP [41] l3 with
              |error v=>
                obtain ⟨t,p⟩:=v
                have HQ:=hid hr2
                rw [hr2] at hp
                obtain ⟨f,what,rfl,hFa,hlf,hF⟩:=hp
                have K6:=hid (And.intro hFa (And.intro hlf hF))
                clear hFa hlf hF hr2
                go_wp2
                go_ret2
                rw [HN2.out,bnd,HQ.out]
                exact ⟨f,what,_,_,_,rfl,K6.out.1,Nat.le_trans SZ.out K6.out.2.1,FT.out.trans K6.out.2.2 (fun i _ e=> .inl e),_,HJ.out.keep _ _ _ (fun i hi=>K6.out.2.2.block i (Nat.lt_of_lt_of_le (HJ.out.lt i hi) SZ.out) (HJ.out.ne i hi).1) JT.out⟩
              |ok v=>
                obtain ⟨u,l4⟩:=v
                have HQ:=hid hr2
                rw [hr2] at hp
                obtain ⟨j6,rfl,hA6,hF⟩:=hp
                have K6:=hid (And.intro hA6 hF)
                have HJ6:Hid (J 0 w6):=HJ.out.keep _ _ _ (fun i hi=>hF.block i (Nat.lt_of_lt_of_le (HJ.out.lt i hi) SZ.out) (HJ.out.ne i hi).1) JT.out
                have HF6:Hid (Kd.F k98 w6 (fun i=>w.heap.size≤i) A3 (acc++[tt]).length (acc++[tt])):=Kd.F_step (Kd.R_F (cc:=c3) (by have hq:=RT.out;rw [(Kd.R_reads' hq).1] at hq;exact hq)) (fun i hi hlt=>hF.block i hlt (by have:=hi;omega))
                have HC6:Hid ((acc++[tt]).length≤c3):=by
                    have hq:=(Kd.R_reads' RT.out)
                    show _≤_
                    omega
                have HL:Hid ((acc++[tt]).length=n3):=(Kd.R_reads' RT.out).1.symm
                clear hA6 hF hr2
                go_wp2
                go_ret2
                rw [HN2.out,bnd,HQ.out]
                exact ⟨j6,A3,c3,by rw [HL.out];rfl,K6.out.1,HJ6.out,HC6.out,HF6.out,FT.out.trans K6.out.2 (fun i _ e=> .inl e)⟩
          · have HN2:Hid (argsP one l=bnd (wantP [41]) (fun _ l'=> .ok ((acc++[tt],gg),l')) l3):=by
              show _=_
              rw [HE.out]
              simp only [bnd,if_pos hg0]
            have hdec:decide (gg≠0)=true:=decide_eq_true hg0
            have hgg:(gg=0)=False:=eq_false hg0
            clear HE
            go_wp2_with (at_builtin;go_must (refine Kd.R_append k98 (w0:=w2.alloc (.cells #[.int .i64 tt.f0,.string tt.f1,.int .i64 tt.f2] 98)) w.heap.size rfl _ _ 31 98 (.agg #[.int .i64 0,.string ⟨#[]⟩,.int .i64 0]) 32 rfl Tryz.underlying31 infoTm rfl (by decide) (by decide) (.slice A m c) acc tt [.int .i64 tt.f0,.string tt.f1,.int .i64 tt.f2] (fun i=>w.heap.size≤i) (fun _=>False) rfl (by rw [hz3];rfl) (k98_mkM _ _ _ tt) (fun _ h=>h.elim) (fun i hi=>by have:=hi;simp at this;omega) (by rw [HM.out];exact Kd.R_alloc R2.out _) (Below.refl _ _) (by simp;omega) HLe.out ?_);intro v5 w5 hR hB hg5 hat;have hq:=app_keep (E:=E) (P:=P) K.out.1 (by omega) (by omega) hsz2 F2.out hR hg5 HM.out (fun i hi=>by rw [HM.out] at hi;exact R2.out.1 i hi);obtain ⟨A3,n3,c3,rfl,RT,HL,AT,FT,SZ,BL⟩:=hq;have JT:Hid (J gg w5):=HJ.out.keep _ _ _ (fun i hi=>BL.out i (HJ.out.lt i hi)) K.out.2.1;clear hR hB hg5 hat)
            have HWt:=hid (want_any AT.out [41])
            go_wp2_with fail
            refine HWt.out.mono ?_
            intro e w6 hp
            cases hr2:wantP [41] l3 with
            |error v=>
              obtain ⟨t,p⟩:=v
              have HQ:=hid hr2
              rw [hr2] at hp
              obtain ⟨f,what,rfl,hFa,hlf,hF⟩:=hp
              have K6:=hid (And.intro hFa (And.intro hlf hF))
              clear hFa hlf hF hr2
              go_wp2
              go_ret2
              rw [HN2.out,bnd,HQ.out]
              exact ⟨f,what,_,_,_,rfl,K6.out.1,Nat.le_trans SZ.out K6.out.2.1,FT.out.trans K6.out.2.2 (fun i _ e=> .inl e),_,HJ.out.keep _ _ _ (fun i hi=>K6.out.2.2.block i (Nat.lt_of_lt_of_le (HJ.out.lt i hi) SZ.out) (HJ.out.ne i hi).1) JT.out⟩
            |ok v=>
              obtain ⟨u,l4⟩:=v
              have HQ:=hid hr2
              rw [hr2] at hp
              obtain ⟨j6,rfl,hA6,hF⟩:=hp
              have K6:=hid (And.intro hA6 hF)
              have HJ6:Hid (J gg w6):=HJ.out.keep _ _ _ (fun i hi=>hF.block i (Nat.lt_of_lt_of_le (HJ.out.lt i hi) SZ.out) (HJ.out.ne i hi).1) JT.out
              have HF6:Hid (Kd.F k98 w6 (fun i=>w.heap.size≤i) A3 (acc++[tt]).length (acc++[tt])):=Kd.F_step (Kd.R_F (cc:=c3) (by have hq:=RT.out;rw [(Kd.R_reads' hq).1] at hq;exact hq)) (fun i hi hlt=>hF.block i hlt (by have:=hi;omega))
              have HC6:Hid ((acc++[tt]).length≤c3):=by
                    have hq:=(Kd.R_reads' RT.out)
                    show _≤_
                    omega
              have HL:Hid ((acc++[tt]).length=n3):=(Kd.R_reads' RT.out).1.symm
              clear hA6 hF hr2
              go_wp2
              go_ret2
              rw [HN2.out,bnd,HQ.out]
              exact ⟨j6,A3,c3,by rw [HL.out];rfl,K6.out.1,HJ6.out,HC6.out,HF6.out,FT.out.trans K6.out.2 (fun i _ e=> .inl e)⟩
end Go.Proofs.YtjlnpdpkobpkiaaGreatDoorPSP
set_option linter.unusedVariables false
set_option linter.unusedSimpArgs false
namespace Go.Proofs.YtjlnpdpkobpkiaaGreatDoorPSP
open Go.RowKit Go.Extern.Stop Go.Stop Go.Extern Go.Proofs.YtjlnpdpkobpkiaaGreatDoorW.PrintWords Go.Proofs.YtjlnpdpkobpkiaaGreatDoor
def arithL:List (List UInt8):=[[43],[45],[42],[47],[37]]
def columnL:List (List UInt8):=[[61],[33,61],[60],[60,61],[62],[62,61]]
def aggL:List (List UInt8):=[[],[99,111,117,110,116],[115,117,109],[109,105,110],[109,97,120]]
set_option maxHeartbeats 4000000 in
set_option maxRecDepth 100000 in
theorem arith_in (n:Nat) (hn:n≤4) (w:World):Calls Tryz.prog 119 #[.int .i64 (n:Int)] w (RetB w (.string (bL (arithL.getD n [])))):=by
  have hc:n=0∨n=1∨n=2∨n=3∨n=4:=by omega
  rcases hc with rfl|rfl|rfl|rfl|rfl
  all_goals
    go_enter Tryz.func119,Tryz.ntmps119
    go_wp2
    go_ret
    exact ⟨rfl,(Below.refl _ _).alloc (Nat.le_refl _) _⟩
set_option maxHeartbeats 4000000 in
set_option maxRecDepth 100000 in
theorem column_in (n:Nat) (hn:n≤5) (w:World):Calls Tryz.prog 102 #[.int .i64 (n:Int)] w (RetB w (.string (bL (columnL.getD n [])))):=by
  have hc:n=0∨n=1∨n=2∨n=3∨n=4∨n=5:=by omega
  rcases hc with rfl|rfl|rfl|rfl|rfl|rfl
  all_goals
    go_enter Tryz.func102,Tryz.ntmps102
    go_wp2
    go_ret
    exact ⟨rfl,(Below.refl _ _).alloc (Nat.le_refl _) _⟩
set_option maxHeartbeats 4000000 in
set_option maxRecDepth 100000 in
theorem agg_in (n:Nat) (hn:n≤4) (w:World):Calls Tryz.prog 75 #[.int .i64 (n:Int)] w (RetB w (.string (bL (aggL.getD n [])))):=by
  have hc:n=0∨n=1∨n=2∨n=3∨n=4:=by omega
  rcases hc with rfl|rfl|rfl|rfl|rfl
  all_goals
    go_enter Tryz.func75,Tryz.ntmps75
    go_wp2
    go_ret
    exact ⟨rfl,(Below.refl _ _).alloc (Nat.le_refl _) _⟩
theorem str_lit (x:ByteArray) (l:List UInt8) (h:¬x=bL l):(l==x.toList)=false:=by
  refine beq_false_of_ne (fun e=>h ?_)
  subst e
  apply ByteArray.ext
  simp [ByteArray.toList_eq]
set_option maxHeartbeats 4000000 in
set_option maxRecDepth 100000 in
theorem Of_any (t:List UInt8) (w:World):Calls Tryz.prog 107 #[.string (bL t)] w (RetB w (.int .i64 (aggOf t))):=by
  obtain ⟨x,hx⟩:∃x,x=bL t:=⟨_,rfl⟩
  have ht:∀l:List UInt8,x=bL l→t=l:=fun l e=>by
    have:=congrArg (fun z:ByteArray=>z.data.toList) (hx.symm.trans e)
    simpa using this
  have hf:∀l:List UInt8,¬x=bL l→t≠l:=fun l e h=>e (by rw [hx,h])
  rw [←hx]
  have HT:=hid ht
  have HF:=hid hf
  clear ht hf hx
  go_enter Tryz.func107,Tryz.ntmps107
  go_wp2_with fail
  go_loopg [3] 5 (fun g a wr=>∃n:Nat,a= .int .i64 (n:Int)∧1≤n∧n≤5∧5-n<g∧Hid (Below w.heap.size w wr)∧Hid (∀m,1≤m→m<n→¬x=bL (aggL.getD m [])))
  case atStart=>exact ⟨1,rfl,by decide,by decide,by decide,hid (Below.refl _ _),hid (fun m h1 h2=>by omega)⟩
  case round=>
    obtain ⟨n,rfl,h1,h5,hg,HB,HM⟩:=hrel
    obtain ⟨wo,rfl⟩:∃y:World,y=wr:=⟨_,rfl⟩
    have hc:n=1∨n=2∨n=3∨n=4∨n=5:=by omega
    rcases hc with rfl|rfl|rfl|rfl|rfl
    · by_cases he : x = bL [99, 111, 117, 110, 116]
      · subst he
        have HA:Hid (aggOf t=1):=by show _=_;rw [HT.out _ rfl];rfl
        go_wp2_with fail
        refine (show Calls Tryz.prog 75 #[.int .i64 1] wo (RetB wo (.string (bL [99,111,117,110,116]))) from agg_in 1 (by decide) wo).mono ?_
        rintro e w1 ⟨rfl,hb⟩
        have HB1:=hid hb
        clear hb
        go_wp2
        go_ret
        exact ⟨by rw [HA.out];rfl,HB.out.trans (HB1.out.mono HB.out.size)⟩
      · have hn := str_lit x [99, 111, 117, 110, 116] he
        have HE:=hid he
        clear he
        go_wp2_with fail
        refine (show Calls Tryz.prog 75 #[.int .i64 1] wo (RetB wo (.string (bL [99,111,117,110,116]))) from agg_in 1 (by decide) wo).mono ?_
        rintro e w1 ⟨rfl,hb⟩
        have HB1:=hid hb
        clear hb
        go_wp2
        go_roundg 4
        case measure=>omega
        case rel=>
          refine ⟨2,rfl,by decide,by decide,by decide,hid (HB.out.trans (HB1.out.mono HB.out.size)),hid (fun m h1 h2=> ?_)⟩
          by_cases hm:m=1
          · subst hm;exact HE.out
          · exact HM.out m h1 (by omega)
    · by_cases he : x = bL [115, 117, 109]
      · subst he
        have HA:Hid (aggOf t=2):=by show _=_;rw [HT.out _ rfl];rfl
        go_wp2_with fail
        refine (show Calls Tryz.prog 75 #[.int .i64 2] wo (RetB wo (.string (bL [115,117,109]))) from agg_in 2 (by decide) wo).mono ?_
        rintro e w1 ⟨rfl,hb⟩
        have HB1:=hid hb
        clear hb
        go_wp2
        go_ret
        exact ⟨by rw [HA.out];rfl,HB.out.trans (HB1.out.mono HB.out.size)⟩
      · have hn := str_lit x [115, 117, 109] he
        have HE:=hid he
        clear he
        go_wp2_with fail
        refine (show Calls Tryz.prog 75 #[.int .i64 2] wo (RetB wo (.string (bL [115,117,109]))) from agg_in 2 (by decide) wo).mono ?_
        rintro e w1 ⟨rfl,hb⟩
        have HB1:=hid hb
        clear hb
        go_wp2
        go_roundg 3
        case measure=>omega
        case rel=>
          refine ⟨3,rfl,by decide,by decide,by decide,hid (HB.out.trans (HB1.out.mono HB.out.size)),hid (fun m h1 h2=> ?_)⟩
          by_cases hm:m=2
          · subst hm;exact HE.out
          · exact HM.out m h1 (by omega)
    · by_cases he : x = bL [109, 105, 110]
      · subst he
        have HA:Hid (aggOf t=3):=by show _=_;rw [HT.out _ rfl];rfl
        go_wp2_with fail
        refine (show Calls Tryz.prog 75 #[.int .i64 3] wo (RetB wo (.string (bL [109,105,110]))) from agg_in 3 (by decide) wo).mono ?_
        rintro e w1 ⟨rfl,hb⟩
        have HB1:=hid hb
        clear hb
        go_wp2
        go_ret
        exact ⟨by rw [HA.out];rfl,HB.out.trans (HB1.out.mono HB.out.size)⟩
      · have hn := str_lit x [109, 105, 110] he
        have HE:=hid he
        clear he
        go_wp2_with fail
        refine (show Calls Tryz.prog 75 #[.int .i64 3] wo (RetB wo (.string (bL [109,105,110]))) from agg_in 3 (by decide) wo).mono ?_
        rintro e w1 ⟨rfl,hb⟩
        have HB1:=hid hb
        clear hb
        go_wp2
        go_roundg 2
        case measure=>omega
        case rel=>
          refine ⟨4,rfl,by decide,by decide,by decide,hid (HB.out.trans (HB1.out.mono HB.out.size)),hid (fun m h1 h2=> ?_)⟩
          by_cases hm:m=3
          · subst hm;exact HE.out
          · exact HM.out m h1 (by omega)
    · by_cases he : x = bL [109, 97, 120]
      · subst he
        have HA:Hid (aggOf t=4):=by show _=_;rw [HT.out _ rfl];rfl
        go_wp2_with fail
        refine (show Calls Tryz.prog 75 #[.int .i64 4] wo (RetB wo (.string (bL [109,97,120]))) from agg_in 4 (by decide) wo).mono ?_
        rintro e w1 ⟨rfl,hb⟩
        have HB1:=hid hb
        clear hb
        go_wp2
        go_ret
        exact ⟨by rw [HA.out];rfl,HB.out.trans (HB1.out.mono HB.out.size)⟩
      · have hn := str_lit x [109, 97, 120] he
        have HE:=hid he
        clear he
        go_wp2_with fail
        refine (show Calls Tryz.prog 75 #[.int .i64 4] wo (RetB wo (.string (bL [109,97,120]))) from agg_in 4 (by decide) wo).mono ?_
        rintro e w1 ⟨rfl,hb⟩
        have HB1:=hid hb
        clear hb
        go_wp2
        go_roundg 1
        case measure=>omega
        case rel=>
          refine ⟨5,rfl,by decide,by decide,by decide,hid (HB.out.trans (HB1.out.mono HB.out.size)),hid (fun m h1 h2=> ?_)⟩
          by_cases hm:m=4
          · subst hm;exact HE.out
          · exact HM.out m h1 (by omega)
    · have HA:Hid (aggOf t=0):=by
        show _=_
        unfold aggOf
        rw [if_neg (HF.out [99,111,117,110,116] (HM.out 1 (by decide) (by decide))),if_neg (HF.out [115,117,109] (HM.out 2 (by decide) (by decide))),if_neg (HF.out [109,105,110] (HM.out 3 (by decide) (by decide))),if_neg (HF.out [109,97,120] (HM.out 4 (by decide) (by decide)))]
      go_wp2
      go_ret
      exact ⟨by rw [HA.out];rfl,HB.out⟩
end Go.Proofs.YtjlnpdpkobpkiaaGreatDoorPSP
set_option linter.unusedVariables false
set_option linter.unusedSimpArgs false
namespace Go.Proofs.YtjlnpdpkobpkiaaGreatDoorPSP
open Go.RowKit Go.Extern.Stop Go.Stop Go.Extern Go.Proofs.YtjlnpdpkobpkiaaGreatDoorW.PrintWords Go.Proofs.YtjlnpdpkobpkiaaGreatDoor
abbrev atomO:Obj:= .cells #[.string ⟨#[]⟩,.slice none 0 0] 33
theorem blk2 {w:World} {b:Nat} {a0 a1:Value} {t:TypeId} (h:w.heap[b]? =some (.cells #[a0,a1] t (0,0))):
    w.cell? ⟨b,0,none⟩=some a0∧w.cell? ⟨b,1,none⟩=some a1∧w.frozen? ⟨b,0,none⟩=false∧w.frozen? ⟨b,1,none⟩=false:=
  ⟨cell_blk h 0,cell_blk h 1,Lib.frozen_of_heap h 0,Lib.frozen_of_heap h 1⟩
def AtomPost (E:Env) (w:World) (d:Nat) (r:Rs Am) (e:Ending) (w':World):Prop:=match r with
  | .ok (v,l')=>∃j' A c,e= .returned (.tuple #[.agg #[.string v.f0,.slice A v.f1.length c],.nilIface])∧At E w' j' d l'∧v.f1.length≤c∧Kd.F k98 w' (fun i=>w.heap.size≤i) A v.f1.length v.f1∧Fr (fun i=>i=E.b) w w'
  | .error (t,p)=>∃f what x A n c,e= .returned (.tuple #[.agg #[.string x,.slice A n c],faultV f])∧FaultAt w' f (t:Int) (p:Int) what .nilIface∧w.heap.size≤f∧Fr (fun i=>i=E.b) w w'
theorem enter_plain (args:Array Value) (w:World):(callFunc 98 args).run Tryz.prog w= .ok (.enter 98 args) w:=enters_of Tryz.func98 (by kernel_rfl) rfl args w
theorem plain_one {E:Env} {w:World} {j d:Nat} {l:List Tk} (h:At E w j d l):
    Calls Tryz.prog 98 (#[.pointer (some ⟨E.b,0,none⟩)]++ #[]) w (OnePost E w d (fun _=>False) (fun _ _=>True) (plainP l)):=by
  refine (show Calls Tryz.prog 98 (#[.pointer (some ⟨E.b,0,none⟩)]++ #[]) w (PlainPost E w d (plainP l)) from plain_any h).mono ?_
  intro e w' hp
  cases hr:plainP l with
  |ok v=>
    obtain ⟨v,l'⟩:=v
    rw [hr] at hp
    obtain ⟨j',rfl,hA,hF⟩:=hp
    exact ⟨j',rfl,hA,trivial,hF.mono (fun i _ e=> .inl e)⟩
  |error v=>
    obtain ⟨t,p⟩:=v
    rw [hr] at hp
    obtain ⟨f,what,rfl,hFa,hl,hF⟩:=hp
    exact ⟨f,what,0,⟨#[]⟩,0,false,rfl,hFa,hl,hF.mono (fun i _ e=> .inl e),0,trivial⟩
set_option maxHeartbeats 4000000 in
set_option maxRecDepth 100000 in
theorem atom_any {E:Env} {w:World} {j d:Nat} {l:List Tk} (h:At E w j d l):
    Calls Tryz.prog 59 #[.pointer (some ⟨E.b,0,none⟩)] w (AtomPost E w d (atomP l)):=by
  have HR:=hid (h.alloc atomO)
  have H:=hid h
  have lb:=h.lb
  have lg:=h.lg
  have HV:=hid (name_any HR.out)
  clear h
  go_enter Tryz.func59,Tryz.ntmps59
  go_wp2_with fail
  refine HV.out.mono ?_
  intro e w1 hp
  cases hr:nameP l with
  |error v=>
    obtain ⟨t,p⟩:=v
    have HN:Hid (atomP l= .error (t,p)):=by show _=_;unfold atomP bnd;rw [hr]
    rw [hr] at hp
    obtain ⟨f,what,rfl,hFa,hlf,hF⟩:=hp
    have K:=hid (And.intro hFa hF)
    have s4:=hF.size
    simp at s4 hlf
    obtain ⟨r0,r1,q0,q1⟩:=blk2 ((hF.block _ (by simp) (by omega)).trans (heap_alloc_new w atomO))
    clear hFa hF hr
    go_wp2
    refine bodyPost_ret (v:= .tuple #[.agg #[.string ⟨#[]⟩,.slice none 0 0],faultV f]) (by simp [results,Tryz.results59,go_sem,r0,r1]) rfl ?_
    rw [HN.out]
    refine ⟨f,what,_,_,_,_,rfl,?_,by omega,?_⟩
    · exact K.out.1.put2 (by omega)
    · exact (((Fr.refl _ w).alloc atomO).trans K.out.2 (fun i _ e=>e)).put2 (Nat.le_refl _)
  |ok v=>
    obtain ⟨s,l1⟩:=v
    have HN:Hid (atomP l=bnd (argsP plainP) (fun r l'=> .ok (mkA s r.1,l')) l1):=by show _=_;unfold atomP;rw [bnd,hr]
    rw [hr] at hp
    obtain ⟨j1,rfl,hA,hF⟩:=hp
    have K:=hid (And.intro hA hF)
    have s4:=hF.size
    simp at s4
    have kr:Hid (w1.heap[w.heap.size]? =some atomO):=(hF.block _ (by simp) (by omega)).trans (heap_alloc_new w atomO)
    have HG:=hid (args_any hA 98 #[.pointer (some ⟨E.b,0,none⟩)] #[] plainP (fun _=>False) (fun _ _=>True) ⟨fun _ h=>h.elim,fun _ h=>h.elim,fun _ _ _ _ _=>trivial⟩ trivial enter_plain (fun w1 j1 l1 _ h1 _=>plain_one h1))
    clear hA hF hr
    go_wp2_with fail
    refine HG.out.mono ?_
    intro e w2 hp
    cases hr:argsP plainP l1 with
    |error v=>
      obtain ⟨t,p⟩:=v
      have HQ:=hid hr
      rw [hr] at hp
      obtain ⟨f,what,A,n,c,rfl,hFa,hlf,hF,_⟩:=hp
      have K2:=hid (And.intro hFa hF)
      have s5:=hF.size
      obtain ⟨r0,r1,q0,q1⟩:=blk2 ((hF.block _ (Go.Proofs.YtjlnpdpkobpkiaaGreatDoor.blk_lt kr.out) (by intro e;rcases e with e|e;omega;exact e)).trans kr.out)
      clear hFa hF hr
      go_wp2
      refine bodyPost_ret (v:= .tuple #[.agg #[.string (bL s),.slice A n c],faultV f]) (by simp [results,Tryz.results59,go_sem,r0,r1]) rfl ?_
      rw [HN.out,bnd,HQ.out]
      refine ⟨f,what,_,_,_,_,rfl,?_,by omega,?_⟩
      · exact K2.out.1.put2 (by omega)
      · exact ((((Fr.refl _ w).alloc atomO).trans K.out.2 (fun i _ e=>e)).trans K2.out.2 (fun i _ e=>e.elim id False.elim)).put2 (Nat.le_refl _)
    |ok v=>
      obtain ⟨r,l2⟩:=v
      have HQ:=hid hr
      rw [hr] at hp
      obtain ⟨j2,A,c,rfl,hA,_,hc,hK,hF⟩:=hp
      have K2:=hid (And.intro hA (And.intro hF hK))
      have HC:=hid hc
      have s5:=hF.size
      obtain ⟨r0,r1,q0,q1⟩:=blk2 ((hF.block _ (Go.Proofs.YtjlnpdpkobpkiaaGreatDoor.blk_lt kr.out) (by intro e;rcases e with e|e;omega;exact e)).trans kr.out)
      clear hA hF hr hc hK
      go_wp2
      refine bodyPost_ret (v:= .tuple #[.agg #[.string (bL s),.slice A r.1.length c],.nilIface]) (by simp [results,Tryz.results59,go_sem,r0,r1]) rfl ?_
      rw [HN.out,bnd,HQ.out]
      refine ⟨j2,A,c,rfl,?_,HC.out,?_,?_⟩
      · exact K2.out.1.put2 (by omega) (by omega)
      · exact Kd.F_mono (Kd.F_step K2.out.2.2 (fun i hi hlt=>(Fr.self2 (b:=w.heap.size)).block i hlt (by have:=hi;omega))) (fun i hi=>by have:=hi;omega)
      · exact ((((Fr.refl _ w).alloc atomO).trans K.out.2 (fun i _ e=>e)).trans K2.out.2.1 (fun i _ e=>e.elim id False.elim)).put2 (Nat.le_refl _)
end Go.Proofs.YtjlnpdpkobpkiaaGreatDoorPSP
