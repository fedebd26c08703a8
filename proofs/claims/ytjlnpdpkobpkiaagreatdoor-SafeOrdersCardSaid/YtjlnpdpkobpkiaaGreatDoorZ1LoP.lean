import Derived.Orders
import Derived.RegionTactic
set_option linter.unusedVariables false
set_option linter.unusedSimpArgs false
namespace Go.Proofs.YtjlnpdpkobpkiaaGreatDoor
open Go
def upd (l:Nat→Bool) (i:Nat):Nat→Bool:=fun j=>if j=i then true else l j
def unl (l:Nat→Bool):Nat→Nat
 |0=>0
 |n+1=>unl l n+if l n then 0 else 1
theorem unl_upd {l:Nat→Bool} {i n:Nat} (hi:i<n) (h:l i=false):unl (upd l i) n+1=unl l n:=by
 induction n with
 |zero=>omega
 |succ n ih=>
  unfold unl
  by_cases e:i=n
  ·subst e
   have same:∀m,m≤i→unl (upd l i) m=unl l m:=by
    intro m
    induction m with
    |zero=>intro _;rfl
    |succ m ihm=>
     intro hm
     unfold unl
     rw [ihm (by omega)]
     have:upd l i m=l m:=by unfold upd;rw [if_neg (by omega)]
     rw [this]
   rw [same i (Nat.le_refl _)]
   have:upd l i i=true:=by unfold upd;rw [if_pos rfl]
   rw [this,h]
   simp
  ·have h1 := ih (by omega)
   have:upd l i n=l n:=by unfold upd;rw [if_neg (Ne.symm e)]
   rw [this]
   omega
def RStep (P:Program) (ops:Array Oper) (Q:Exit→Act→World→Prop) (Inv:(Nat→Bool)→Act→World→Prop) (i:Nat) (o:Oper):Prop:=
 ∀(l:Nat→Bool) (a:Act) (w:World),Inv l a w→l i=false→(∀e∈o.after,Region.binds .any e=true→l e.on=true) →
  ∀K:Act→World→Prop,(∀a' w',Inv (upd l i) a' w'→K a' w')→if Region.wanted o (yielded ops a.tmps) then Oper.wp P o a w K Q else K (a.put o.dst undef) w
inductive RSteps (P:Program) (ops:Array Oper) (Q:Exit→Act→World→Prop) (Inv:(Nat→Bool)→Act→World→Prop):Nat→List Oper→Prop where
 |nil {i:Nat}:RSteps P ops Q Inv i []
 |cons {i:Nat} {o:Oper} {os:List Oper} (h:RStep P ops Q Inv i o) (hs:RSteps P ops Q Inv (i+1) os):RSteps P ops Q Inv i (o::os)
theorem RSteps.get {P:Program} {ops:Array Oper} {Q:Exit→Act→World→Prop} {Inv:(Nat→Bool)→Act→World→Prop} {k:Nat} {os:List Oper} (h:RSteps P ops Q Inv k os):
  ∀i o,os[i]? =some o→RStep P ops Q Inv (k+i) o:=by
 induction h with
 |nil=>intro i o h;simp at h
 |cons h hs ih=>
  intro i o ho
  cases i with
  |zero=>
   simp at ho
   subst ho
   exact h
  |succ i=>
   have:=ih i o (by simpa using ho)
   rw [Nat.add_assoc,Nat.add_comm 1 i] at this
   exact this
end Go.Proofs.YtjlnpdpkobpkiaaGreatDoor
set_option linter.unusedVariables false
set_option linter.unusedSimpArgs false
namespace Go.Proofs.YtjlnpdpkobpkiaaGreatDoorPSP
open Go.Proofs.YtjlnpdpkobpkiaaGreatDoor
def knows (l:List ByteArray) (v:ByteArray):Bool:=l.any fun u=>u.toList==v.toList
theorem knows_app (l m:List ByteArray) (v:ByteArray):knows (l++m) v=(knows l v||knows m v):=by
 unfold knows
 rw [List.any_append]
theorem knows_of {l:List ByteArray} {v:ByteArray} (h:v∈l):knows l v=true:=by
 unfold knows
 rw [List.any_eq_true]
 exact ⟨v,h,by simp⟩
def lackL (kn:List ByteArray):List ByteArray→ByteArray
 |[]=>⟨#[]⟩
 |v::vs=>if knows kn v=true then lackL kn vs else v
structure Ents where
 n:Nat
 nd:Nat→List ByteArray
 vs:Nat→List ByteArray
def knownOf (E:Ents) (out:List Nat):List ByteArray:=out.flatMap E.vs
def ready (E:Ents) (out:List Nat) (i:Nat):Bool:= !(out.contains i) && (lackL (knownOf E out) (E.nd i)).size==0
def nextP (E:Ents) (out:List Nat):Option Nat:=(List.range E.n).find? (ready E out)
def firstP (E:Ents) (out:List Nat):Nat:=((List.range E.n).find? (fun i=> !(out.contains i))).getD 0
def goP (E:Ents):Nat→List Nat→Except (Nat×ByteArray) (List Nat)
 |0,out=> .ok out
 |k+1,out=>match nextP E out with
  |some i=>goP E k (out++[i])
  |none=> .error (firstP E out,lackL (knownOf E out) (E.nd (firstP E out)))
def orderP (E:Ents) (hv:List ByteArray):Except (Nat×ByteArray) (List Nat):=match goP E E.n [] with
 | .error e=> .error e
 | .ok out=>if (lackL (knownOf E out) hv).size=0 then .ok out else .error (E.n,lackL (knownOf E out) hv)
theorem nextP_some {E:Ents} {out:List Nat} {i:Nat} (h:nextP E out=some i):i<E.n∧ready E out i=true:=by
 unfold nextP at h
 exact ⟨List.mem_range.1 (List.mem_of_find?_eq_some h),List.find?_some h⟩
theorem ready_iff {E:Ents} {out:List Nat} {i:Nat}:ready E out i=true↔i∉out∧(lackL (knownOf E out) (E.nd i)).size=0:=by
 unfold ready
 simp
theorem goP_ok {E:Ents}:∀(k:Nat) (out r:List Nat),goP E k out= .ok r→∃t,r=out++t∧t.length=k∧∀j x,t[j]? =some x→x<E.n∧x∉out++t.take j∧(lackL (knownOf E (out++t.take j)) (E.nd x)).size=0:=by
 intro k
 induction k with
 |zero=>
  intro out r h
  rw [goP] at h
  cases h
  exact ⟨[],by simp,rfl,fun j x h=>by simp at h⟩
 |succ k ih=>
  intro out r h
  rw [goP] at h
  cases hn:nextP E out with
  |none=>rw [hn] at h;cases h
  |some i=>
   rw [hn] at h
   simp only at h
   obtain ⟨h1,h2⟩:=nextP_some hn
   obtain ⟨h3,h4⟩:=ready_iff.1 h2
   obtain ⟨t,rfl,hl,ht⟩:=ih _ _ h
   refine ⟨i::t,by simp,by simp [hl],fun j x hx=> ?_⟩
   cases j with
   |zero=>
    simp at hx
    subst hx
    exact ⟨h1,by simpa using h3,by rw [List.take_zero,List.append_nil];exact h4⟩
   |succ j=>
    have:=ht j x (by simpa using hx)
    simpa using this
theorem orderP_ok {E:Ents} {hv:List ByteArray} {r:List Nat} (h:orderP E hv= .ok r):r.length=E.n∧(∀j x,r[j]? =some x→x<E.n∧x∉r.take j∧(lackL (knownOf E (r.take j)) (E.nd x)).size=0)∧(lackL (knownOf E r) hv).size=0:=by
 unfold orderP at h
 cases hg:goP E E.n [] with
 |error e=>rw [hg] at h;cases h
 |ok out=>
  rw [hg] at h
  simp only at h
  split at h
  ·rename_i hl
   cases h
   obtain ⟨t,rfl,h1,h2⟩:=goP_ok _ _ _ hg
   simp only [List.nil_append] at hl h2 ⊢
   exact ⟨h1,h2,hl⟩
  ·cases h
inductive Der (E:Ents):Nat→Prop where
 |mk (i:Nat) (hi:i<E.n) (f:ByteArray→Nat) (h:∀v∈E.nd i,Der E (f v)) (hk:∀v∈E.nd i,knows (E.vs (f v)) v=true):Der E i
theorem Der.of {E:Ents} {i:Nat} (hi:i<E.n) (h:∀v∈E.nd i,∃j,Der E j∧knows (E.vs j) v=true):Der E i:=by
 have:∀v:ByteArray,∃j:Nat,v∈E.nd i→Der E j∧knows (E.vs j) v=true:=by
  intro v
  by_cases hv:v∈E.nd i
  ·obtain ⟨j, hj⟩ := h v hv
   exact ⟨j,fun _=>hj⟩
  ·exact ⟨0, fun h => absurd h hv⟩
 obtain ⟨f,hf⟩:=Classical.axiomOfChoice this
 exact .mk i hi f (fun v hv=>(hf v hv).1) (fun v hv=>(hf v hv).2)
theorem Der.lt {E:Ents} {i:Nat} (h:Der E i):i<E.n:=by
 cases h with
 |mk i hi _ _ _=>exact hi
def outB (out:List Nat):Nat→Bool:=fun i=>out.contains i
theorem outB_app (out:List Nat) (i:Nat):outB (out++[i])=upd (outB out) i:=by
 funext j
 unfold outB upd
 by_cases h:j=i
 ·subst h; simp
 ·rw [if_neg h]; simp [h]
theorem unl_none (n:Nat):unl (outB []) n=n:=by
 induction n with
 |zero=>rfl
 |succ n ih=>unfold unl;rw [ih];rfl
theorem unl_pos {l:Nat→Bool} {n:Nat} (h:0<unl l n):∃i,i<n∧l i=false:=by
 induction n with
 |zero=>exact absurd h (Nat.lt_irrefl _)
 |succ n ih=>
  unfold unl at h
  cases hl:l n with
  |false=>exact ⟨n,Nat.lt_succ_self _,hl⟩
  |true=>
   rw [hl] at h
   obtain ⟨i,h1,h2⟩:=ih (by simpa using h)
   exact ⟨i,by omega,h2⟩
end Go.Proofs.YtjlnpdpkobpkiaaGreatDoorPSP
set_option linter.unusedVariables false
set_option linter.unusedSimpArgs false
namespace Go.Proofs.YtjlnpdpkobpkiaaGreatDoorPSP
open Go.Proofs.YtjlnpdpkobpkiaaGreatDoor
def leftL (n:Nat) (out:List Nat):List Nat:=(List.range n).filter fun i=> !(out.contains i)
theorem leftL_nil (n:Nat):leftL n []=List.range n:=by
 unfold leftL
 exact List.filter_eq_self.2 fun i _=>rfl
theorem leftL_mem {n:Nat} {out:List Nat} {i:Nat} (h:i∈leftL n out):i<n∧i∉out:=by
 unfold leftL at h
 obtain ⟨h1,h2⟩:=List.mem_filter.1 h
 exact ⟨List.mem_range.1 h1,by simpa using h2⟩
theorem leftL_nodup (n:Nat) (out:List Nat):(leftL n out).Nodup:=List.nodup_range.sublist List.filter_sublist
theorem lfilter_ne {l:List Nat} (h:l.Nodup):∀{k:Nat} {x:Nat},l[k]? =some x→l.filter (fun i=> !(i==x))=l.take k++l.drop (k+1):=by
 induction l with
 |nil=>intro k x hx;simp at hx
 |cons a l ih=>
  intro k x hx
  obtain ⟨h1,h2⟩:=List.nodup_cons.1 h
  cases k with
  |zero=>
   simp at hx
   subst hx
   rw [List.filter_cons_of_neg (by simp)]
   simp only [List.take_zero,List.nil_append,List.drop_succ_cons,List.drop_zero]
   exact List.filter_eq_self.2 fun i hi=>by simp;rintro rfl;exact h1 hi
  |succ k=>
   have hx':l[k]? =some x:=by simpa using hx
   have hne:a≠x:=fun e=>h1 (by rw [e];exact List.mem_of_getElem? hx')
   rw [List.filter_cons_of_pos (by simpa using hne),ih h2 hx']
   simp
theorem leftL_step {n:Nat} {out:List Nat} {k x:Nat} (h:(leftL n out)[k]? =some x):leftL n (out++[x])=(leftL n out).take k++(leftL n out).drop (k+1):=by
 rw [←lfilter_ne (leftL_nodup n out) h]
 unfold leftL
 rw [List.filter_filter]
 apply List.filter_congr
 intro i _
 by_cases e:i=x <;>simp [e]
def lackB (E:Ents) (out:List Nat) (i:Nat):Bool:=(lackL (knownOf E out) (E.nd i)).size==0
theorem next_left (E:Ents) (out:List Nat):nextP E out=(leftL E.n out).find? (lackB E out):=by
 unfold nextP leftL
 rw [List.find?_filter]
 congr 1
 funext i
 unfold ready lackB
 generalize ((lackL (knownOf E out) (E.nd i)).size==0)=b
 generalize out.contains i=c
 cases b <;>cases c <;>rfl
theorem first_left (E:Ents) (out:List Nat):firstP E out=(leftL E.n out).headD 0:=by
 unfold firstP leftL
 rw [←List.head?_filter]
 cases (List.filter (fun i=> !out.contains i) (List.range E.n)) <;>rfl
theorem lfind_at {l:List Nat} {p:Nat→Bool} {k x:Nat} (hk:∀j y,j<k→l[j]? =some y→p y=false) (hx:l[k]? =some x) (hp:p x=true):l.find? p=some x:=by
 induction l generalizing k with
 |nil=>simp at hx
 |cons a l ih=>
  cases k with
  |zero=>
   simp at hx
   subst hx
   rw [List.find?_cons_of_pos hp]
  |succ k=>
   rw [List.find?_cons_of_neg (by rw [hk 0 a (Nat.succ_pos _) rfl];decide)]
   exact ih (fun j y hj hy=>hk (j+1) y (Nat.succ_lt_succ hj) (by simpa using hy)) (by simpa using hx)
theorem lfind_no {l:List Nat} {p:Nat→Bool} (hk:∀j y,j<l.length→l[j]? =some y→p y=false):l.find? p=none:=by
 rw [List.find?_eq_none]
 intro y hy
 obtain ⟨j,hj⟩:=List.mem_iff_getElem?.1 hy
 rw [hk j y (List.getElem?_eq_some_iff.1 hj).1 hj]
 decide
def restP (E:Ents) (hv:List ByteArray) (out:List Nat):Except (Nat×ByteArray) (List Nat):=match goP E (leftL E.n out).length out with
 | .error e=> .error e
 | .ok out=>if (lackL (knownOf E out) hv).size=0 then .ok out else .error (E.n,lackL (knownOf E out) hv)
theorem restP_nil (E:Ents) (hv:List ByteArray):restP E hv []=orderP E hv:=by
 unfold restP orderP
 first|(rw [leftL_nil,List.length_range];done)|(rw [leftL_nil,List.length_range];rfl)
theorem restP_done {E:Ents} {hv:List ByteArray} {out:List Nat} (h:leftL E.n out=[]):restP E hv out=if (lackL (knownOf E out) hv).size=0 then .ok out else .error (E.n,lackL (knownOf E out) hv):=by
 unfold restP
 rw [h]
 rfl
theorem restP_step {E:Ents} {hv:List ByteArray} {out:List Nat} {k x:Nat} (hk:∀j y,j<k→(leftL E.n out)[j]? =some y→lackB E out y=false) (hx:(leftL E.n out)[k]? =some x) (hp:lackB E out x=true):restP E hv out=restP E hv (out++[x]):=by
 have hlt:k<(leftL E.n out).length:=(List.getElem?_eq_some_iff.1 hx).1
 have e1:(leftL E.n out).length=(leftL E.n (out++[x])).length+1:=by
  rw [leftL_step hx,List.length_append,List.length_take,List.length_drop]
  omega
 unfold restP
 rw [e1,goP,next_left,lfind_at hk hx hp]
theorem restP_stuck {E:Ents} {hv:List ByteArray} {out:List Nat} (hk:∀j y,j<(leftL E.n out).length→(leftL E.n out)[j]? =some y→lackB E out y=false) {x:Nat} (hx:(leftL E.n out)[0]? =some x):restP E hv out= .error (x,lackL (knownOf E out) (E.nd x)):=by
 have hlt:0<(leftL E.n out).length:=(List.getElem?_eq_some_iff.1 hx).1
 obtain ⟨m,hm⟩:∃m,(leftL E.n out).length=m+1:=⟨(leftL E.n out).length-1,by omega⟩
 have hf:firstP E out=x:=by
  rw [first_left]
  cases hl:leftL E.n out with
  |nil=>rw [hl] at hx;simp at hx
  |cons a l=>rw [hl] at hx;simpa using hx
 unfold restP
 rw [hm,goP,next_left,lfind_no hk,hf]
end Go.Proofs.YtjlnpdpkobpkiaaGreatDoorPSP
