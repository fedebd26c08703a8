import Derived.Orders
import Derived.RegionTactic
import Derived.Test.YtjlnpdpkobpkiaaGreatDoorZ2LexA
import Derived.Test.YtjlnpdpkobpkiaaGreatDoorZ2W1
import Derived.Maps.OwnOps
import Derived.Shelf.Abstract
import Derived.Test.YtjlnpdpkobpkiaaGreatDoorZ2PSPx4
import Derived.Test.YtjlnpdpkobpkiaaGreatDoorZ2PSPx2
set_option linter.unusedVariables false
set_option linter.unusedSimpArgs false
namespace Go.Proofs.YtjlnpdpkobpkiaaGreatDoor
open Go
def upd (l:Nat→Bool) (i:Nat):Nat→Bool:=fun j=>if j=i then true else l j
def RStep (P:Program) (ops:Array Oper) (Q:Exit→Act→World→Prop) (Inv:(Nat→Bool)→Act→World→Prop) (i:Nat) (o:Oper):Prop:=
  ∀(l:Nat→Bool) (a:Act) (w:World),Inv l a w→l i=false→(∀e∈o.after,Region.binds .any e=true→l e.on=true) →
    ∀K:Act→World→Prop,(∀a' w',Inv (upd l i) a' w'→K a' w')→if Region.wanted o (yielded ops a.tmps) then Oper.wp P o a w K Q else K (a.put o.dst undef) w
inductive RSteps (P:Program) (ops:Array Oper) (Q:Exit→Act→World→Prop) (Inv:(Nat→Bool)→Act→World→Prop):Nat→List Oper→Prop where
  |nil {i:Nat}:RSteps P ops Q Inv i []
  |cons {i:Nat} {o:Oper} {os:List Oper} (h:RStep P ops Q Inv i o) (hs:RSteps P ops Q Inv (i+1) os):RSteps P ops Q Inv i (o::os)
theorem RSteps.get {P:Program} {ops:Array Oper} {Q:Exit→Act→World→Prop} {Inv:(Nat→Bool)→Act→World→Prop} {k:Nat} {os:List Oper} (h:RSteps P ops Q Inv k os):
    ∀i o,os[i]? =some o→RStep P ops Q Inv (k+i) o:=by
  induction h with
  |nil=>intro i o h;simp at h
  |cons h hs ih=>
    intro i o ho
    cases i with
    |zero=>
      simp at ho
      subst ho
      exact h
    |succ i=>
      have:=ih i o (by simpa using ho)
      rw [Nat.add_assoc,Nat.add_comm 1 i] at this
      exact this
end Go.Proofs.YtjlnpdpkobpkiaaGreatDoor
set_option linter.unusedVariables false
set_option linter.unusedSimpArgs false
namespace Go.Proofs.YtjlnpdpkobpkiaaGreatDoorPSP
open Go.Proofs.YtjlnpdpkobpkiaaGreatDoor
def knows (l:List ByteArray) (v:ByteArray):Bool:=l.any fun u=>u.toList==v.toList
theorem knows_app (l m:List ByteArray) (v:ByteArray):knows (l++m) v=(knows l v||knows m v):=by
  unfold knows
  rw [List.any_append]
theorem knows_of {l:List ByteArray} {v:ByteArray} (h:v∈l):knows l v=true:=by
  unfold knows
  rw [List.any_eq_true]
  exact ⟨v,h,by simp⟩
def lackL (kn:List ByteArray):List ByteArray→ByteArray
  |[]=>⟨#[]⟩
  |v::vs=>if knows kn v=true then lackL kn vs else v
structure Ents where
  n:Nat
  nd:Nat→List ByteArray
  vs:Nat→List ByteArray
def knownOf (E:Ents) (out:List Nat):List ByteArray:=out.flatMap E.vs
def ready (E:Ents) (out:List Nat) (i:Nat):Bool:= !(out.contains i) && (lackL (knownOf E out) (E.nd i)).size==0
inductive Der (E:Ents):Nat→Prop where
  |mk (i:Nat) (hi:i<E.n) (f:ByteArray→Nat) (h:∀v∈E.nd i,Der E (f v)) (hk:∀v∈E.nd i,knows (E.vs (f v)) v=true):Der E i
theorem Der.of {E:Ents} {i:Nat} (hi:i<E.n) (h:∀v∈E.nd i,∃j,Der E j∧knows (E.vs j) v=true):Der E i:=by
  have:∀v:ByteArray,∃j:Nat,v∈E.nd i→Der E j∧knows (E.vs j) v=true:=by
    intro v
    by_cases hv:v∈E.nd i
    · obtain ⟨j, hj⟩ := h v hv
      exact ⟨j,fun _=>hj⟩
    · exact ⟨0,fun h=>absurd h hv⟩
  obtain ⟨f,hf⟩:=Classical.axiomOfChoice this
  exact .mk i hi f (fun v hv=>(hf v hv).1) (fun v hv=>(hf v hv).2)
theorem Der.lt {E:Ents} {i:Nat} (h:Der E i):i<E.n:=by
  cases h with
  |mk i hi _ _ _=>exact hi
end Go.Proofs.YtjlnpdpkobpkiaaGreatDoorPSP
set_option linter.unusedVariables false
set_option linter.unusedSimpArgs false
namespace Go.Proofs.YtjlnpdpkobpkiaaGreatDoorPSP
open Go.RowKit Go.Maps Go.Extern.Stop Go.Stop Go.Extern Go.Proofs.YtjlnpdpkobpkiaaGreatDoorW.PrintWords Go.Proofs.YtjlnpdpkobpkiaaGreatDoor
def KnD (D:DataW Unit) (kn:List ByteArray):Prop:=∀s:ByteArray,D.atKey (.string s.data.toList) (.lit (.int .i64 0))= .lit (.int .i64 (if knows kn s=true then 1 else 0))
theorem KnD.nil:KnD (.map []) []:=fun s=>rfl
theorem sbytes_inj {s t:ByteArray} (h:s.data.toList=t.data.toList):s=t:=by
  cases s;cases t;simp only [ByteArray.mk.injEq];exact Array.toList_inj.1 h
theorem KnD.put {D:DataW Unit} {kn:List ByteArray} (h:KnD D kn) (hD:Maps.IsMap D) (s:ByteArray):KnD (D.put (.string s.data.toList) (.lit (.int .i64 1))) (kn++[s]):=by
  intro t
  by_cases e:t=s
  · subst e
    rw [Maps.atKey_put_same hD (by trivial),knows_app,if_pos]
    rw [knows_of (l:=[t]) (v:=t) (by simp),Bool.or_true]
  · have hne : (Lit.string t.data.toList) ≠ .string s.data.toList := fun h => e (sbytes_inj (by injection h))
    rw [Maps.atKey_put_other hne,h t,knows_app]
    have:knows [s] t=false:=by
      unfold knows
      simp only [List.any_cons,List.any_nil,Bool.or_false]
      have:=str_ne_mk (x:=s) (s:=t) (fun h=>e h.symm)
      exact this
    rw [this,Bool.or_false]
def KnM (w:World) (m:Nat) (kn:List ByteArray):Prop:=∃(n:Nat) (D:DataW Unit),n≤kn.length∧w.ownsMap Tryz.prog 9 (plainElem Tryz.prog 3) m n D∧KnD D kn
theorem KnM.keep {F:Nat→Prop} {w w':World} {m:Nat} {kn:List ByteArray} (h:KnM w m kn) (hf:Fr F w w') (hm:¬F m):KnM w' m kn:=by
  obtain ⟨n,D,h1,h2,h3⟩:=h
  exact ⟨n,D,h1,hf.map h2 hm,h3⟩
theorem KnM.below {w w':World} {m:Nat} {kn:List ByteArray} (h:KnM w m kn) (hb:Below w.heap.size w w'):KnM w' m kn:=by
  obtain ⟨n,D,h1,h2,h3⟩:=h
  exact ⟨n,D,h1,h2.kept (Go.Proofs.YtjlnpdpkobpkiaaGreatDoor.grown_of_below hb none) (by simp),h3⟩
end Go.Proofs.YtjlnpdpkobpkiaaGreatDoorPSP
set_option linter.unusedVariables false
set_option linter.unusedSimpArgs false
namespace Go.Proofs.YtjlnpdpkobpkiaaGreatDoorPSP
open Go.RowKit Go.Maps Go.Extern.Stop Go.Stop Go.Extern Go.Proofs.YtjlnpdpkobpkiaaGreatDoorW.PrintWords Go.Proofs.YtjlnpdpkobpkiaaGreatDoor
abbrev SfP:=S106
abbrev SfX:=S104
abbrev pvF (p:SfP):=syntax_Part_Vars.f 2000000 p.f0 p.f1.f0 p.f1.f1 p.f2 p.f3.f0 p.f3.f1 p.f3.f2 p.f4.f0 p.f4.f1 p.f4.f2 p.f5 p.f6.f0.f0 p.f6.f0.f1 p.f6.f0.f2 p.f6.f1 p.f6.f2
abbrev xvF (x:SfX):=syntax_Expr_Vars.f 2000000 x.f0.f0 x.f0.f1 x.f0.f2 x.f1 x.f2
def partV (p:SfP):List ByteArray:=(pvF p).getD []
def exprV (x:SfX):List ByteArray:=(xvF x).getD []
def needV (p:SfP):List ByteArray:=if p.f0=0 then [] else if p.f0=3 then exprV p.f6 else partV p
structure PGood (p:SfP):Prop where
  v:pvF p=some (partV p)
  e:p.f0=3→xvF p.f6=some (exprV p.f6)
  lv:(partV p).length≤100000
  ln:(needV p).length≤100000
  sv:∀u∈partV p,u.size≤maxLen
  sn:∀u∈needV p,u.size≤maxLen
abbrev ptV (p:SfP) (A1:Option Addr) (c1:Nat) (A2:Option Addr) (c2:Nat):Value:= .agg #[.int .i64 p.f0,.string p.f1.f0,.slice A1 p.f1.f1.length c1,.int .i64 p.f2,.int .i64 p.f3.f0,.string p.f3.f1,.int .i64 p.f3.f2,.int .i64 p.f4.f0,.string p.f4.f1,.int .i64 p.f4.f2,.string p.f5,.int .i64 p.f6.f0.f0,.string p.f6.f0.f1,.int .i64 p.f6.f0.f2,.int .i64 p.f6.f1,.slice A2 p.f6.f2.length c2]
def RetL (w:World) (l:List ByteArray) (e:Ending) (w':World):Prop:=∃(A:Option Addr) (c:Nat),e= .returned (.slice A l.length c)∧Kd.C Kd.string w' A l.length l∧Below w.heap.size w w'
theorem RetL.of {w w':World} {l:List ByteArray} {e:Ending} (h:∃v0_:Value,e= .returned (v0_)∧Kd.R Kd.string 9 w' w.heap.size (fun _=>True) v0_ l∧Below w.heap.size w w'):RetL w l e w':=by
  obtain ⟨v,rfl,hR,hb⟩:=h
  obtain ⟨A,c,rfl,_,hC⟩:=Kd.R_reads hR
  exact ⟨A,c,rfl,hC,hb⟩
theorem partVars_any {p:SfP} (hp:PGood p) {w:World} {A1 A2:Option Addr} {c1 c2:Nat} (h1:Kd.C k98 w A1 p.f1.f1.length p.f1.f1) (l1:p.f1.f1.length≤c1) (h2:Kd.C k104 w A2 p.f6.f2.length p.f6.f2) (l2:p.f6.f2.length≤c2):
    Calls Tryz.prog 36 #[ptV p A1 c1 A2 c2] w (RetL w (partV p)):=
  (syntax_Part_Vars.calls 2000000 p.f0 p.f1.f0 A1 c1 p.f1.f1 p.f2 p.f3.f0 p.f3.f1 p.f3.f2 p.f4.f0 p.f4.f1 p.f4.f2 p.f5 p.f6.f0.f0 p.f6.f0.f1 p.f6.f0.f2 p.f6.f1 A2 c2 p.f6.f2 _ w h1 l1 h2 l2 hp.v).mono fun e w' h=>RetL.of h
set_option maxRecDepth 100000 in
set_option maxHeartbeats 4000000 in
theorem needs_any {p:SfP} (hp:PGood p) {w:World} {A1 A2:Option Addr} {c1 c2:Nat} (h1:Kd.C k98 w A1 p.f1.f1.length p.f1.f1) (l1:p.f1.f1.length≤c1) (h2:Kd.C k104 w A2 p.f6.f2.length p.f6.f2) (l2:p.f6.f2.length≤c2):
    Calls Tryz.prog 39 #[ptV p A1 c1 A2 c2] w (RetL w (needV p)):=by
  have HV:Hid (∀W,Below w.heap.size w W→Calls Tryz.prog 36 #[ptV p A1 c1 A2 c2] W (RetL W (partV p))):=fun W hW=>partVars_any hp (Kd.C_below h1 hW) l1 (Kd.C_below h2 hW) l2
  have HX:Hid (p.f0=3→∀W,Below w.heap.size w W→Calls Tryz.prog 66 #[.agg #[.int .i64 p.f6.f0.f0,.string p.f6.f0.f1,.int .i64 p.f6.f0.f2,.int .i64 p.f6.f1,.slice A2 p.f6.f2.length c2]] W (RetL W (exprV p.f6))):=
    fun h0 W hW=>(syntax_Expr_Vars.calls 2000000 p.f6.f0.f0 p.f6.f0.f1 p.f6.f0.f2 p.f6.f1 A2 c2 p.f6.f2 _ W (Kd.C_below h2 hW) l2 (hp.e h0)).mono fun e w' h=>RetL.of h
  have HL:Hid (needV p=if p.f0=0 then [] else if p.f0=3 then exprV p.f6 else partV p):=rfl
  clear h1 h2 l1 l2 hp
  unfold ptV at HV ⊢
  generalize partV p=lv at *
  generalize needV p=ln at *
  generalize exprV p.f6=lx at *
  obtain ⟨f0,⟨f1,t1⟩,f3,⟨f4,f5,f6⟩,⟨f7,f8,f9⟩,f10,⟨⟨f11,f12,f13⟩,f14,t15⟩⟩:=p
  simp only at HV HX HL ⊢
  generalize t1.length=n1 at *
  generalize t15.length=n2 at *
  by_cases h0:f0=0
  · subst h0
    go_enter Tryz.func39,Tryz.ntmps39
    go_wp2
    go_ret
    have:ln=[]:=by simpa using HL.out
    subst this
    exact ⟨none,0,rfl,Kd.C_nil _ _,(Below.refl _ _).alloc (Nat.le_refl _) _⟩
  · by_cases h3 : f0 = 3
    · subst h3
      go_enter Tryz.func39,Tryz.ntmps39
      go_wp2_with fail
      refine (HX.out trivial _ ((Below.refl _ _).alloc (Nat.le_refl _) _)).mono ?_
      rintro e w2 ⟨A,c,rfl,hC,hb2⟩
      have H2:=hid hC
      have HB2:=hid (below_step ((Below.refl w.heap.size w).alloc (Nat.le_refl _) _) hb2)
      clear hC hb2
      go_wp2
      go_ret
      have:ln=lx:=by simpa using HL.out
      subst this
      exact ⟨A,c,rfl,H2.out,HB2.out⟩
    · go_enter Tryz.func39, Tryz.ntmps39
      go_wp2_with fail
      refine (HV.out _ ((Below.refl _ _).alloc (Nat.le_refl _) _)).mono ?_
      rintro e w2 ⟨A,c,rfl,hC,hb2⟩
      have H2:=hid hC
      have HB2:=hid (below_step ((Below.refl w.heap.size w).alloc (Nat.le_refl _) _) hb2)
      clear hC hb2
      go_wp2
      go_ret
      have:ln=lv:=by simpa [h0,h3] using HL.out
      subst this
      exact ⟨A,c,rfl,H2.out,HB2.out⟩
end Go.Proofs.YtjlnpdpkobpkiaaGreatDoorPSP
set_option linter.unusedVariables false
set_option linter.unusedSimpArgs false
namespace Go.Proofs.YtjlnpdpkobpkiaaGreatDoorPSP
open Go.RowKit Go.Maps Go.Extern.Stop Go.Stop Go.Extern Go.Proofs.YtjlnpdpkobpkiaaGreatDoorW.PrintWords Go.Proofs.YtjlnpdpkobpkiaaGreatDoor
def doneA (n:Nat) (out:List Nat):Array Value:=((List.range n).map fun i=>Value.int .i64 (if out.contains i then 1 else 0)).toArray
theorem doneA_at {n i:Nat} {out:List Nat} (hi:i<n):(doneA n out)[i]? =some (.int .i64 (if out.contains i then 1 else 0)):=by
  unfold doneA
  rw [List.getElem?_toArray,List.getElem?_map,List.getElem?_range hi]
  rfl
theorem doneA_zero (n:Nat):(Array.replicate n (Value.int .i64 0))=doneA n []:=by
  apply Array.ext_getElem?
  intro i
  by_cases hi:i<n
  · rw [doneA_at hi, Array.getElem?_replicate, if_pos hi]
    rfl
  · unfold doneA
    rw [Array.getElem?_replicate,if_neg hi,List.getElem?_toArray,List.getElem?_map,List.getElem?_eq_none (by simpa using hi)]
    rfl
theorem doneA_set {n i:Nat} {out:List Nat} (hi:i<n):(doneA n out).setIfInBounds i (.int .i64 1)=doneA n (out++[i]):=by
  have hs:∀o,(doneA n o).size=n:=fun o=>by unfold doneA;simp
  apply Array.ext_getElem?
  intro j
  rw [Array.getElem?_setIfInBounds,hs]
  by_cases hj:j<n
  · rw [doneA_at hj, doneA_at hj]
    by_cases e:i=j
    · subst e
      rw [if_pos rfl,if_pos hj]
      simp
    · rw [if_neg e]
      have:(out++[i]).contains j=out.contains j:=by
        have h1:(j==i)=false:=by simpa using fun h=>e h.symm
        simp [h1]
        omega
      rw [this]
  · rw [if_neg (by omega),Array.getElem?_eq_none (by rw [hs];omega),Array.getElem?_eq_none (by rw [hs];omega)]
def outV (out:List Nat):List Value:=out.map fun (i:Nat)=>Value.int .i64 (i:Int)
structure OrOk (w:World) (n:Nat) (rv:Array Value) (K:List ByteArray) (D out:List Nat) (v:Value) (wr:World):Prop where
  be:Below w.heap.size w wr
  rb:wr.heap[w.heap.size]? =some (.cells rv 37 (0,0))
  kn:KnM wr (w.heap.size+1) K
  dn:wr.heap[w.heap.size+2]? =some (.cells (doneA n D) 3 (0,0))
  ow:wr.ownsRow (w.heap.size+3) 3 1 v out.length (outV out)
section
variable {w:World} {n:Nat} {rv:Array Value} {K:List ByteArray} {D out:List Nat} {v:Value} {wr w':World}
theorem OrOk.below (h:OrOk w n rv K D out v wr) (hb:Below wr.heap.size wr w'):OrOk w n rv K D out v w':=
  ⟨below_step h.be hb,blk_below h.rb hb,h.kn.below hb,blk_below h.dn hb,Go.Proofs.YtjlnpdpkobpkiaaGreatDoor.own_below h.ow hb⟩
theorem OrOk.start {v0 v1 v2 v3 v4:Value}:OrOk w n #[v0,v1,v2,v3,v4] [] [] [] (.slice none 0 0) (((w.alloc (.cells #[v0,v1,v2,v3,v4] 37)).alloc (.map #[] 0)).alloc (.cells (Array.replicate n (.int .i64 0)) 3)):=by
  have b1:Below w.heap.size w (w.alloc (.cells #[v0,v1,v2,v3,v4] 37)):=(Below.refl _ _).alloc (Nat.le_refl _) _
  have s1:(w.alloc (.cells #[v0,v1,v2,v3,v4] 37)).heap.size=w.heap.size+1:=by simp
  generalize hw1:w.alloc (.cells #[v0,v1,v2,v3,v4] 37)=w1 at *
  have k1:w1.heap[w.heap.size]? =some (.cells #[v0,v1,v2,v3,v4] 37 (0,0)):=by rw [←hw1];exact heap_alloc_new _ _
  have b2:Below w1.heap.size w1 (w1.alloc (.map #[] 0)):=(Below.refl _ _).alloc (Nat.le_refl _) _
  have s2:(w1.alloc (.map #[] 0)).heap.size=w.heap.size+2:=by simp [s1]
  have m2:(w1.alloc (.map #[] 0)).ownsMap Tryz.prog 9 (plainElem (H:=Unit) Tryz.prog 3) (w.heap.size+1) 0 (.map []):=by
    have:=World.ownsMap_made (H:=Unit) w1 Tryz.prog 9 (plainElem Tryz.prog 3)
    rwa [s1] at this
  generalize hw2:w1.alloc (.map #[] 0)=w2 at *
  have b3:Below w2.heap.size w2 (w2.alloc (.cells (Array.replicate n (.int .i64 0)) 3)):=(Below.refl _ _).alloc (Nat.le_refl _) _
  have k3:(w2.alloc (.cells (Array.replicate n (.int .i64 0)) 3)).heap[w.heap.size+2]? =some (.cells (doneA n []) 3 (0,0)):=by
    have:=heap_alloc_new w2 (.cells (Array.replicate n (.int .i64 0)) 3)
    rw [s2] at this
    rw [this,doneA_zero]
  exact ⟨below_step (below_step b1 b2) b3,blk_below (blk_below k1 b2) b3,KnM.below ⟨0,_,Nat.zero_le _,m2,KnD.nil⟩ b3,k3,Go.Proofs.YtjlnpdpkobpkiaaGreatDoor.own_nil _ _ _ _⟩
theorem OrOk.fr {F:Nat→Prop} (h:OrOk w n rv K D out v wr) (hf:Fr F wr w') (hF:∀i,F i→w.heap.size≤i):Below w.heap.size w w':=h.be.trans (hf.below h.be.size hF)
theorem OrOk.set (h:OrOk w n rv K D out v wr) {i:Nat} (hi:i<n):OrOk w n rv K (D++[i]) out v (wr.setCell ⟨w.heap.size+2,i,none⟩ (.int .i64 1)):=by
  have hS:Fr (fun k=>k=w.heap.size+2) wr (wr.setCell ⟨w.heap.size+2,i,none⟩ (.int .i64 1)):=Fr.setCell wr ⟨w.heap.size+2,i,none⟩ _
  refine ⟨h.fr hS (fun k e=>by omega),(hS.block _ (Go.Proofs.YtjlnpdpkobpkiaaGreatDoor.blk_lt h.rb) (by omega)).trans h.rb,h.kn.keep hS (by omega),?_,hS.own h.ow (fun g hg=>by have:=(Go.Proofs.YtjlnpdpkobpkiaaGreatDoor.own_lt h.ow g hg).2;omega)⟩
  have:=Go.Proofs.YtjlnpdpkobpkiaaGreatDoor.blk_set (o:=i) h.dn (.int .i64 1)
  rw [this,doneA_set hi]
theorem OrOk.app (h:OrOk w n rv K D out v wr) {i:Nat} {v':Value} (hown:w'.ownsRow (w.heap.size+3) 3 1 v' (out.length+1) (outV out++[.int .i64 (i:Int)])) (hg:wr.grownBy w' v.ownBlock):OrOk w n rv K D (out++[i]) v' w':=by
  have hS:=Fr.grown hg
  have ho:∀k,v.ownBlock=some k→w.heap.size+3≤k:=fun k hk=>(Go.Proofs.YtjlnpdpkobpkiaaGreatDoor.own_lt h.ow k hk).2
  refine ⟨h.fr hS (fun k e=>by have:=ho k e;omega),(hS.block _ (Go.Proofs.YtjlnpdpkobpkiaaGreatDoor.blk_lt h.rb) (fun e=>by have:=ho _ e;omega)).trans h.rb,h.kn.keep hS (fun e=>by have:=ho _ e;omega),(hS.block _ (Go.Proofs.YtjlnpdpkobpkiaaGreatDoor.blk_lt h.dn) (fun e=>by have:=ho _ e;omega)).trans h.dn,?_⟩
  unfold outV at hown ⊢
  rw [List.length_append,List.map_append]
  exact hown
end
end Go.Proofs.YtjlnpdpkobpkiaaGreatDoorPSP
