import Derived.Test.YtjlnpdpkobpkiaaGreatDoorZ2LexJ
import Derived.Test.YtjlnpdpkobpkiaaGreatDoorZ2PSPx2
set_option linter.unusedVariables false
set_option linter.unusedSimpArgs false
namespace Go.Proofs.YtjlnpdpkobpkiaaGreatDoorPSP
open Go.RowKit Go.Extern.Stop Go.Stop Go.Extern Go.Proofs.YtjlnpdpkobpkiaaGreatDoorW.PrintWords Go.Proofs.YtjlnpdpkobpkiaaGreatDoor
abbrev Tm:=S98
abbrev Am:=S33
abbrev Xp:=S104
abbrev Pt:=S106
structure Rul where
  f0:Am
  f1:Int
  f2:List Pt
  f3:Int
structure Dcl where
  f0:ByteArray
  f1:Bool
  f2:Int
abbrev Rl:=Rul
abbrev Dl:=Dcl
abbrev Rs (α:Type):=Except (Nat×Nat) (α×List Tk)
abbrev bL (l:List UInt8):ByteArray:=bytesOf l
def tk0:Tk:=⟨0,[],0,0⟩
def pk (l:List Tk) (k:Nat):Tk:=l.getD (min k (l.length-1)) tk0
def isS (l:List Tk) (k:Nat) (s:List UInt8):Bool:=(pk l k).kind==5 && (pk l k).text==s
def bad {α:Type} (tag:Nat) (l:List Tk):Rs α:= .error (tag,(pk l 0).start)
def bnd {α β:Type} (f:List Tk→Rs α) (g:α→List Tk→Rs β) (l:List Tk):Rs β:=match f l with
  | .error e=> .error e
  | .ok (v,l')=>g v l'
def notL:List UInt8:=[110,111,116]
def wantP (s:List UInt8) (l:List Tk):Rs Unit:=if isS l 0 s=true then .ok ((),l.drop 1) else bad 1 l
def nameP (l:List Tk):Rs (List UInt8):=if (pk l 0).kind=1∧(pk l 0).text≠notL then .ok ((pk l 0).text,l.drop 1) else bad 1 l
def posN (n:Nat):Int:=wrap64 (n:Int)
def negN (n:Nat):Int:=wrap64 (IntKind.u64.wrap (-(n:Int)))
def mkT (k:Int) (s:List UInt8) (n:Int):Tm:=⟨k,bL s,n⟩
def mkX (t:Tm):Xp:=⟨t,0,[]⟩
def mkY (o:Int) (x y:Xp):Xp:=⟨mkT 0 [] 0,o,[x,y]⟩
def numP (l:List Tk):Rs Tm:=
  if isS l 0 [45]=true then (if (pk l 1).kind=3 then .ok (mkT 1 [] (negN (pk l 1).num),l.drop 2) else bad 1 l)
  else if (pk l 0).kind=3∧(pk l 0).num≤9223372036854775807 then .ok (mkT 1 [] (posN (pk l 0).num),l.drop 1) else bad 1 l
def termP (l:List Tk):Rs Tm:=
  if (pk l 0).kind=2 then .ok (mkT 0 (pk l 0).text 0,l.drop 1)
  else if (pk l 0).kind=4∨(pk l 0).kind=1∧(pk l 0).text≠notL then .ok (mkT 2 (pk l 0).text 0,l.drop 1)
  else if (pk l 0).kind=3∨isS l 0 [45]=true then numP l else bad 1 l
def plainP (l:List Tk):Rs (Tm×Int):=bnd termP (fun t l'=> .ok ((t,0),l')) l
def argsL (one:List Tk→Rs (Tm×Int)):Nat→List Tm→List Tk→Rs (List Tm×Int)
  |0,_,l=>bad 3 l
  |n+1,acc,l=>bnd one (fun x l'=>if x.2≠0 then .ok ((acc++[x.1],x.2),l') else if isS l' 0 [44]=true then argsL one n (acc++[x.1]) (l'.drop 1) else .ok ((acc++[x.1],0),l')) l
def argsP (one:List Tk→Rs (Tm×Int)) (l:List Tk):Rs (List Tm×Int):=
  bnd (wantP [40]) (fun _=>bnd (argsL one 6 []) (fun r=>bnd (wantP [41]) (fun _ l'=> .ok (r,l')))) l
def mkA (s:List UInt8) (ts:List Tm):Am:=⟨bL s,ts⟩
def atomP (l:List Tk):Rs Am:=bnd nameP (fun s=>bnd (argsP plainP) (fun r l'=> .ok (mkA s r.1,l'))) l
def chainL (one:List Tk→Rs Xp) (ops:List (Int×List UInt8)):Nat→Xp→List Tk→Rs Xp
  |0,_,l=>bad 0 l
  |n+1,x,l=>match ops.find? (fun o=>isS l 0 o.2) with
    |none=> .ok (x,l)
    |some o=>bnd one (fun y l'=>chainL one ops n (mkY o.1 x y) l') (l.drop 1)
def chainP (one:List Tk→Rs Xp) (ops:List (Int×List UInt8)) (l:List Tk):Rs Xp:=bnd one (chainL one ops 100000) l
def mulOps:List (Int×List UInt8):=[(2,[42]),(3,[47]),(4,[37])]
def addOps:List (Int×List UInt8):=[(0,[43]),(1,[45])]
def sumOf (unit:List Tk→Rs Xp):List Tk→Rs Xp:=chainP (chainP unit mulOps) addOps
def leafP (l:List Tk):Rs Xp:=if (pk l 0).kind=2 then .ok (mkX (mkT 0 (pk l 0).text 0),l.drop 1) else bnd numP (fun t l'=> .ok (mkX t,l')) l
def unitP:Nat→List Tk→Rs Xp
  |0,l=>if isS l 0 [40]=true then bad 2 l else leafP l
  |n+1,l=>if isS l 0 [40]=true then bnd (sumOf (unitP n)) (fun x=>bnd (wantP [41]) (fun _ l'=> .ok (x,l'))) (l.drop 1) else leafP l
def cmpOps:List (Int×List UInt8):=[(0,[61]),(1,[33,61]),(2,[60]),(3,[60,61]),(4,[62]),(5,[62,61])]
def compareP (l:List Tk):Rs Int:=match cmpOps.find? (fun o=>isS l 0 o.2) with
  |none=>bad 1 l
  |some o=> .ok (o.1,l.drop 1)
def zT:Tm:=mkT 0 [] 0
def zA:Am:=mkA [] []
def zX:Xp:=mkX zT
def partP (l:List Tk):Rs Pt:=
  if (pk l 0).kind=1∧(pk l 0).text=notL then bnd atomP (fun a l'=> .ok (⟨1,a,0,zT,zT,bL [],zX⟩,l')) (l.drop 1)
  else if (pk l 0).kind=1∧isS l 1 [40]=true then bnd atomP (fun a l'=> .ok (⟨0,a,0,zT,zT,bL [],zX⟩,l')) l
  else if (pk l 0).kind=2∧isS l 1 [58,61]=true then bnd (sumOf (unitP 20)) (fun x l'=> .ok (⟨3,zA,0,zT,zT,bL (pk l 0).text,x⟩,l')) (l.drop 2)
  else bnd termP (fun a=>bnd compareP (fun o=>bnd termP (fun b l'=> .ok (⟨2,zA,o,a,b,bL [],zX⟩,l')))) l
def aggOf (s:List UInt8):Int:=if s=[99,111,117,110,116] then 1 else if s=[115,117,109] then 2 else if s=[109,105,110] then 3 else if s=[109,97,120] then 4 else 0
def aggP (l:List Tk):Rs (Tm×Int):=
  if (pk l 0).kind≠1∨aggOf (pk l 0).text=0∨isS l 1 [60]=false then plainP l
  else if (pk (l.drop 2) 0).kind=2 then bnd (wantP [62]) (fun _ l'=> .ok ((mkT 0 (pk (l.drop 2) 0).text 0,aggOf (pk l 0).text),l')) (l.drop 3) else bad 1 (l.drop 2)
def partsL:Nat→List Pt→List Tk→Rs (List Pt)
  |0,_,l=>bad 3 l
  |n+1,acc,l=>bnd partP (fun p l'=>if isS l' 0 [44]=true then partsL n (acc++[p]) (l'.drop 1) else .ok (acc++[p],l')) l
def headP (l:List Tk):Rs (Am×Int):=bnd nameP (fun s=>bnd (argsP aggP) (fun r l'=> .ok ((mkA s r.1,r.2),l'))) l
def bodyP (l:List Tk):Rs (List Pt):=if isS l 0 [58,45]=true then partsL 12 [] (l.drop 1) else .ok ([],l)
def ruleC (l:List Tk):Rs (Am×Int×List Pt):=bnd headP (fun h=>bnd bodyP (fun b=>bnd (wantP [46]) (fun _ l'=> .ok ((h.1,h.2,b),l')))) l
def ruleP (nv:Rl→Nat) (l:List Tk):Rs Rl:=match ruleC l with
  | .error e=> .error e
  | .ok ((h,g,b),l')=>if 16<nv ⟨h,g,b,((pk l 0).start:Int)⟩ then .error (3,(pk l 0).start) else .ok (⟨h,g,b,((pk l 0).start:Int)⟩,l')
def minL:List UInt8:=[109,105,110]
def maxL:List UInt8:=[109,97,120]
def declC (l:List Tk):Rs (List UInt8×Bool):=
  if (pk l 0).kind=1∧((pk l 0).text=minL∨(pk l 0).text=maxL) then bnd nameP (fun s=>bnd (wantP [46]) (fun _ l'=> .ok ((s,decide ((pk l 0).text=maxL)),l'))) (l.drop 1) else bad 1 l
def declP (l:List Tk):Rs Dl:=match declC (l.drop 1) with
  | .error e=> .error e
  | .ok ((s,m),l')=> .ok (⟨bL s,m,((pk l 0).start:Int)⟩,l')
def progL (nv:Rl→Nat):Nat→List Tk→Except (Nat×Nat) (List Dl×List Rl)
  |n,l=>if (pk l 0).kind=0 then .ok ([],[]) else match n with
    |0=> .error (3,(pk l 0).start)
    |n+1=>if isS l 0 [64]=true then (match declP l with
        | .error e=> .error e
        | .ok (d,l')=>(progL nv n l').map (fun r=>(d::r.1,r.2)))
      else match ruleP nv l with
        | .error e=> .error e
        | .ok (x,l')=>(progL nv n l').map (fun r=>(r.1,x::r.2))
def placed (sz:Nat) (ts:List Tk):List Tk:=ts.map fun t=>⟨t.kind,t.text,t.num,sz-t.start⟩
def progP (nv:Rl→Nat) (s:List UInt8):Except (Nat×Nat) (List Dl×List Rl):=
  if 20000<s.length then .error (3,0) else match lexAll s with
  | .error (t,p)=> .error (t,s.length-p)
  | .ok ts=>progL nv 200 (placed s.length ts)
def Sf {α:Type} (f:List Tk→Rs α):Prop:=∀l v l',f l= .ok (v,l')→∃k,l'=l.drop k
theorem Sf.thn {α β:Type} {f:List Tk→Rs α} {g:α→List Tk→Rs β} (h:Sf f) (k:∀v,Sf (g v)):Sf (bnd f g):=fun l v l' hf=>by
  unfold bnd at hf
  cases hr:f l with
  |error e=>rw [hr] at hf;cases hf
  |ok x=>
    obtain ⟨w,l1⟩:=x
    rw [hr] at hf
    obtain ⟨a,rfl⟩:=h l w l1 hr
    obtain ⟨b,rfl⟩:=k w _ v l' hf
    exact ⟨a+b,by rw [List.drop_drop]⟩
theorem Sf.ret {α:Type} (v:α):Sf (fun l=>(.ok (v,l):Rs α)):=fun l v' l' hf=>by
  injection hf with hf
  injection hf with h1 h2
  exact ⟨0,h2.symm⟩
theorem sf_ok {α:Type} {l:List Tk} {k:Nat} {v v':α} {l':List Tk} (h:(.ok (v,l.drop k):Rs α)= .ok (v',l')):∃k,l'=l.drop k:=by
  injection h with h
  injection h with h1 h2
  exact ⟨k,h2.symm⟩
theorem Sf.drop {α:Type} {f:List Tk→Rs α} (h:Sf f) {l:List Tk} {n:Nat} {v:α} {l':List Tk} (hf:f (l.drop n)= .ok (v,l')):∃k,l'=l.drop k:=by
  obtain ⟨k,rfl⟩:=h _ _ _ hf
  exact ⟨n+k,by rw [List.drop_drop]⟩
theorem want_sf (s:List UInt8):Sf (wantP s):=fun l v l' hf=>by
  unfold wantP at hf;split at hf;exact sf_ok hf;cases hf
theorem num_sf:Sf numP:=fun l v l' hf=>by
  unfold numP at hf
  split at hf
  · split at hf
    · exact sf_ok hf
    · cases hf
  · split at hf
    · exact sf_ok hf
    · cases hf
theorem chainL_sf {one:List Tk→Rs Xp} (ho:Sf one) (ops:List (Int×List UInt8)):∀(n:Nat) (x:Xp),Sf (chainL one ops n x):=by
  intro n
  induction n with
  |zero=>intro x l v l' hf;cases hf
  |succ n ih=>
    intro x l v l' hf
    rw [chainL] at hf
    split at hf
    · exact sf_ok (k:=0) hf
    · exact (ho.thn (fun y=>ih _)).drop hf
theorem sum_sf {unit:List Tk→Rs Xp} (ho:Sf unit):Sf (sumOf unit):=by
  have h1:Sf (chainP unit mulOps):=ho.thn (fun x=>chainL_sf ho _ _ x)
  exact h1.thn (fun x=>chainL_sf h1 _ _ x)
theorem leaf_sf:Sf leafP:=fun l v l' hf=>by
  unfold leafP at hf
  split at hf
  · exact sf_ok hf
  · exact (num_sf.thn (fun t=>Sf.ret (mkX t))) _ _ _ hf
theorem unit_sf:∀n,Sf (unitP n):=by
  intro n
  induction n with
  |zero=>
    intro l v l' hf
    rw [unitP] at hf
    split at hf
    · cases hf
    · exact leaf_sf _ _ _ hf
  |succ n ih=>
    intro l v l' hf
    rw [unitP] at hf
    split at hf
    · exact ((sum_sf ih).thn (fun x=>(want_sf _).thn (fun _=>Sf.ret x))).drop hf
    · exact leaf_sf _ _ _ hf
def Wk {α:Type} (f:List Tk→Rs α):Prop:=∀(m:Nat) (X Z:List Tk) (e:Tk) (v:α) (l':List Tk),e.kind=0→Z≠[]→f (X++[e])= .ok (v,l') →
  ∃Y,l'=Y++[e]∧Y.length<X.length∧(Y≠[]→f (X.map (Tk.up m)++Z)= .ok (v,Y.map (Tk.up m)++Z))
def St {α:Type} (f:List Tk→Rs α):Prop:=∀(m:Nat) (X Z:List Tk) (e:Tk) (v:α) (l':List Tk),e.kind=0→Z≠[]→f (X++[e])= .ok (v,l') →
  ∃Y,l'=Y++[e]∧Y.length<X.length∧f (X.map (Tk.up m)++Z)= .ok (v,Y.map (Tk.up m)++Z)
def Zr {α:Type} (f:List Tk→Rs α):Prop:=∀(m:Nat) (X Z:List Tk) (e:Tk) (v:α) (l':List Tk),e.kind=0→Z≠[]→f (X++[e])= .ok (v,l') →
  ∃Y,l'=Y++[e]∧Y.length≤X.length∧(Y≠[]→f (X.map (Tk.up m)++Z)= .ok (v,Y.map (Tk.up m)++Z))
theorem St.wk {α:Type} {f:List Tk→Rs α} (h:St f):Wk f:=fun m X Z e v l' he hz hf=>by
  obtain ⟨Y,h1,h2,h3⟩:=h m X Z e v l' he hz hf
  exact ⟨Y,h1,h2,fun _=>h3⟩
theorem Wk.zr {α:Type} {f:List Tk→Rs α} (h:Wk f):Zr f:=fun m X Z e v l' he hz hf=>by
  obtain ⟨Y,h1,h2,h3⟩:=h m X Z e v l' he hz hf
  exact ⟨Y,h1,by omega,h3⟩
theorem Zr.pure {α:Type} (v:α):Zr (fun l=>(.ok (v,l):Rs α)):=fun m X Z e v' l' he hz hf=>by
  injection hf with hf
  injection hf with h1 h2
  subst h1 h2
  exact ⟨X,rfl,Nat.le_refl _,fun _=>rfl⟩
theorem Zr.st {α β:Type} {f:List Tk→Rs α} {g:α→List Tk→Rs β} (h:Zr f) (k:∀v,St (g v)):St (bnd f g):=fun m X Z e v l' he hz hf=>by
  unfold bnd at hf ⊢
  cases hr:f (X++[e]) with
  |error x=>rw [hr] at hf;cases hf
  |ok x=>
    obtain ⟨w,l1⟩:=x
    rw [hr] at hf
    obtain ⟨Y,g1,g2,g3⟩:=h m X Z e w _ he hz hr
    subst g1
    obtain ⟨Y',k1,k2,k3⟩:=k w m Y Z e v _ he hz hf
    refine ⟨Y',k1,by omega,?_⟩
    rw [g3 (fun h=>by subst h;simp at k2)]
    exact k3
theorem Wk.st {α β:Type} {f:List Tk→Rs α} {g:α→List Tk→Rs β} (h:Wk f) (k:∀v,St (g v)):St (bnd f g):=h.zr.st k
theorem St.st {α β:Type} {f:List Tk→Rs α} {g:α→List Tk→Rs β} (h:St f) (k:∀v,St (g v)):St (bnd f g):=h.wk.zr.st k
theorem Wk.zrs {α β:Type} {f:List Tk→Rs α} {g:α→List Tk→Rs β} (h:Wk f) (k:∀v,Zr (g v)):Wk (bnd f g):=fun m X Z e v l' he hz hf=>by
  unfold bnd at hf ⊢
  cases hr:f (X++[e]) with
  |error x=>rw [hr] at hf;cases hf
  |ok x=>
    obtain ⟨w,l1⟩:=x
    rw [hr] at hf
    obtain ⟨Y,g1,g2,g3⟩:=h m X Z e w _ he hz hr
    subst g1
    obtain ⟨Y',k1,k2,k3⟩:=k w m Y Z e v _ he hz hf
    refine ⟨Y',k1,by omega,fun hn=> ?_⟩
    rw [g3 (fun h=>by subst h;simp at k2;exact hn k2)]
    exact k3 hn
theorem St.ret {α β:Type} {f:List Tk→Rs α} (h:St f) (g:α→β):St (bnd f (fun v l'=> .ok (g v,l'))):=fun m X Z e v l' he hz hf=>by
  unfold bnd at hf ⊢
  cases hr:f (X++[e]) with
  |error x=>rw [hr] at hf;cases hf
  |ok x=>
    obtain ⟨w,l1⟩:=x
    rw [hr] at hf
    injection hf with hf
    injection hf with h1 h2
    subst h1 h2
    obtain ⟨Y,g1,g2,g3⟩:=h m X Z e w _ he hz hr
    exact ⟨Y,g1,g2,by rw [g3]⟩
def cmpP:List Tk→Rs Pt:=bnd termP (fun a=>bnd compareP (fun o=>bnd termP (fun b l'=> .ok (⟨2,zA,o,a,b,bL [],zX⟩,l'))))
theorem Wk.ret {α β:Type} {f:List Tk→Rs α} (h:Wk f) (g:α→β):Wk (bnd f (fun v l'=> .ok (g v,l'))):=h.zrs (fun v=>Zr.pure (g v))
def Rl.up (m:Nat) (r:Rl):Rl:=⟨r.f0,r.f1,r.f2,r.f3+m⟩
def Dl.up (m:Nat) (d:Dl):Dl:=⟨d.f0,d.f1,d.f2+m⟩
end Go.Proofs.YtjlnpdpkobpkiaaGreatDoorPSP
set_option linter.unusedVariables false
set_option linter.unusedSimpArgs false
namespace Go.Proofs.YtjlnpdpkobpkiaaGreatDoorPSP
open Go.RowKit Go.Extern.Stop Go.Stop Go.Extern Go.Proofs.YtjlnpdpkobpkiaaGreatDoorW.PrintWords Go.Proofs.YtjlnpdpkobpkiaaGreatDoor
inductive XS:Nat→Xp→Prop where
  |leaf (n:Nat) (t:Tm) (o:Int) (h:1≤n):XS n ⟨t,o,[]⟩
  |node (n a b:Nat) (t:Tm) (o:Int) (x y:Xp) (hx:XS a x) (hy:XS b y) (h:a+b+1≤n):XS n ⟨t,o,[x,y]⟩
theorem XS.le {n m:Nat} {x:Xp} (h:XS n x) (hm:n≤m):XS m x:=by
  cases h with
  |leaf n t o h=>exact .leaf _ _ _ (by omega)
  |node n a b t o x y hx hy h=>exact .node _ a b _ _ _ _ hx hy (by omega)
theorem bnd_ok {α β:Type} {f:List Tk→Rs α} {g:α→List Tk→Rs β} {l l':List Tk} {v:β} (h:bnd f g l= .ok (v,l')):∃w l1,f l= .ok (w,l1)∧g w l1= .ok (v,l'):=by
  unfold bnd at h
  cases hr:f l with
  |error e=>rw [hr] at h;cases h
  |ok y=>
    obtain ⟨w,l1⟩:=y
    rw [hr] at h
    exact ⟨w,l1,rfl,h⟩
theorem ok_inj {α:Type} {v w:α} {l l':List Tk} (h:(.ok (v,l):Rs α)= .ok (w,l')):v=w∧l=l':=by
  injection h with h
  injection h with h1 h2
  exact ⟨h1,h2⟩
theorem pk_nil (k:Nat):pk [] k=tk0:=by simp [pk]
def Cs {α:Type} (f:List Tk→Rs α):Prop:=∀l v l',f l= .ok (v,l')→l'.length<l.length
theorem cs_ok {α:Type} {l:List Tk} {v v':α} {l':List Tk} {k:Nat} (h:(.ok (v,l.drop k):Rs α)= .ok (v',l')) (hk:1≤k) (hl:l≠[]):l'.length<l.length:=by
  injection h with h
  injection h with h1 h2
  subst h2
  have:0<l.length:=List.length_pos_iff.2 hl
  simp
  omega
theorem ne_kind {l:List Tk} (h:(pk l 0).kind≠0):l≠[]:=by
  intro e
  subst e
  rw [pk_nil] at h
  exact h rfl
theorem ne_sign {l:List Tk} {s:List UInt8} (h:isS l 0 s=true):l≠[]:=by
  intro e
  subst e
  unfold isS at h
  rw [pk_nil] at h
  cases h
theorem Cs.thn {α β:Type} {f:List Tk→Rs α} {g:α→List Tk→Rs β} (h:Cs f) (k:∀v l w l',g v l= .ok (w,l')→l'.length≤l.length):Cs (bnd f g):=fun l v l' hf=>by
  unfold bnd at hf
  cases hr:f l with
  |error e=>rw [hr] at hf;cases hf
  |ok x=>
    obtain ⟨w,l1⟩:=x
    rw [hr] at hf
    have h1:=h _ _ _ hr
    have h2:=k _ _ _ _ hf
    omega
theorem Sf.le {α:Type} {f:List Tk→Rs α} (h:Sf f) {l:List Tk} {v:α} {l':List Tk} (hf:f l= .ok (v,l')):l'.length≤l.length:=by
  obtain ⟨k,rfl⟩:=h _ _ _ hf
  simp
theorem num_cs:Cs numP:=fun l v l' hf=>by
  unfold numP at hf
  split at hf
  · rename_i h
    split at hf
    · exact cs_ok hf (by omega) (ne_sign h)
    · cases hf
  · split at hf
    · rename_i h
      exact cs_ok hf (by omega) (ne_kind (by omega))
    · cases hf
theorem leaf_x {l:List Tk} {v:Xp} {l':List Tk} (hf:leafP l= .ok (v,l')):l'.length<l.length∧XS (l.length-l'.length) v:=by
  have key:l'.length<l.length∧∃t,v=mkX t:=by
    unfold leafP at hf
    split at hf
    · rename_i h
      refine ⟨cs_ok hf (by omega) (ne_kind (by omega)),?_⟩
      injection hf with hf
      injection hf with h1 h2
      exact ⟨_,h1.symm⟩
    · unfold bnd at hf
      cases hr:numP l with
      |error e=>rw [hr] at hf;cases hf
      |ok x=>
        obtain ⟨w,l1⟩:=x
        rw [hr] at hf
        injection hf with hf
        injection hf with h1 h2
        subst h2
        exact ⟨num_cs _ _ _ hr,w,h1.symm⟩
  obtain ⟨h,t,rfl⟩:=key
  exact ⟨h,.leaf _ _ _ (by omega)⟩
def Xc (f:List Tk→Rs Xp):Prop:=∀l v l',f l= .ok (v,l')→l'.length<l.length∧XS (l.length-l'.length) v
theorem chainL_x {one:List Tk→Rs Xp} (ho:Xc one) (ops:List (Int×List UInt8)):∀(n:Nat) (x:Xp) (c:Nat) (l:List Tk) (v:Xp) (l':List Tk),XS c x→chainL one ops n x l= .ok (v,l')→l'.length≤l.length∧XS (c+(l.length-l'.length)) v:=by
  intro n
  induction n with
  |zero=>intro x c l v l' hx hf;cases hf
  |succ n ih=>
    intro x c l v l' hx hf
    rw [chainL] at hf
    cases hc:ops.find? (fun o=>isS l 0 o.2) with
    |none=>
      rw [hc] at hf
      injection hf with hf
      injection hf with h1 h2
      subst h1 h2
      exact ⟨Nat.le_refl _,hx.le (by omega)⟩
    |some o=>
      rw [hc] at hf
      have hl:l≠[]:=ne_sign (s:=o.2) (by have:=List.find?_some hc;exact this)
      have hl2:0<l.length:=List.length_pos_iff.2 hl
      simp only [bnd] at hf
      cases hr:one (l.drop 1) with
      |error e=>rw [hr] at hf;cases hf
      |ok y=>
        obtain ⟨w,l1⟩:=y
        rw [hr] at hf
        obtain ⟨k1,k2⟩:=ho _ _ _ hr
        rw [List.length_drop] at k1 k2
        obtain ⟨j1,j2⟩:=ih (mkY o.1 x w) (c+(l.length-1-l1.length)+1) l1 v l' (.node _ _ _ _ _ _ _ hx k2 (Nat.le_refl _)) hf
        exact ⟨by omega,j2.le (by omega)⟩
theorem chain_x {one:List Tk→Rs Xp} (ho:Xc one) (ops:List (Int×List UInt8)):Xc (chainP one ops):=fun l v l' hf=>by
  unfold chainP bnd at hf
  cases hr:one l with
  |error e=>rw [hr] at hf;cases hf
  |ok y=>
    obtain ⟨w,l1⟩:=y
    rw [hr] at hf
    obtain ⟨k1,k2⟩:=ho _ _ _ hr
    obtain ⟨j1,j2⟩:=chainL_x ho ops _ _ _ _ _ _ k2 hf
    exact ⟨by omega,j2.le (by omega)⟩
theorem sum_x {unit:List Tk→Rs Xp} (ho:Xc unit):Xc (sumOf unit):=chain_x (chain_x ho mulOps) addOps
theorem unit_x:∀n,Xc (unitP n):=by
  intro n
  induction n with
  |zero=>
    intro l v l' hf
    rw [unitP] at hf
    split at hf
    · cases hf
    · exact leaf_x hf
  |succ n ih=>
    intro l v l' hf
    rw [unitP] at hf
    split at hf
    · simp only [bnd] at hf
      cases hr:sumOf (unitP n) (l.drop 1) with
      |error e=>rw [hr] at hf;cases hf
      |ok y=>
        obtain ⟨w,l1⟩:=y
        rw [hr] at hf
        obtain ⟨k1,k2⟩:=sum_x ih _ _ _ hr
        rw [List.length_drop] at k1 k2
        simp only at hf
        cases hq:wantP [41] l1 with
        |error e=>rw [hq] at hf;cases hf
        |ok y=>
          obtain ⟨u,l2⟩:=y
          rw [hq] at hf
          have:=(want_sf _).le hq
          injection hf with hf
          injection hf with h1 h2
          subst h1 h2
          exact ⟨by omega,k2.le (by omega)⟩
    · exact leaf_x hf
theorem argsL_len {one:List Tk→Rs (Tm×Int)}:∀(n:Nat) (acc:List Tm) (l:List Tk) (v:List Tm×Int) (l':List Tk),argsL one n acc l= .ok (v,l')→v.1.length≤acc.length+n:=by
  intro n
  induction n with
  |zero=>intro acc l v l' hf;cases hf
  |succ n ih=>
    intro acc l v l' hf
    rw [argsL] at hf
    obtain ⟨w,l1,hr,hf⟩:=bnd_ok hf
    split at hf
    · obtain ⟨rfl, rfl⟩ := ok_inj hf
      simp
    · split at hf
      · have := ih _ _ _ _ hf
        simp at this
        omega
      · obtain ⟨rfl, rfl⟩ := ok_inj hf
        simp
theorem args_len {one:List Tk→Rs (Tm×Int)} {l:List Tk} {v:List Tm×Int} {l':List Tk} (hf:argsP one l= .ok (v,l')):v.1.length≤6:=by
  unfold argsP at hf
  obtain ⟨w,l1,hr,hf⟩:=bnd_ok hf
  obtain ⟨r,l2,hq,hf⟩:=bnd_ok hf
  obtain ⟨u,l3,hp,hf⟩:=bnd_ok hf
  obtain ⟨rfl,rfl⟩:=ok_inj hf
  have:=argsL_len _ _ _ _ _ hq
  simp at this
  exact this
theorem atom_len {l:List Tk} {v:Am} {l':List Tk} (hf:atomP l= .ok (v,l')):v.f1.length≤6:=by
  unfold atomP at hf
  obtain ⟨w,l1,hr,hf⟩:=bnd_ok hf
  obtain ⟨r,l2,hq,hf⟩:=bnd_ok hf
  obtain ⟨rfl,rfl⟩:=ok_inj hf
  exact args_len hq
def PS (n:Nat) (p:Pt):Prop:=((p.f0=0∨p.f0=1)∧p.f1.f1.length≤6)∨p.f0=2∨(p.f0=3∧XS n p.f6)
theorem part_x {l:List Tk} {v:Pt} {l':List Tk} (hf:partP l= .ok (v,l')):PS l.length v:=by
  unfold partP at hf
  split at hf
  · obtain ⟨a, l1, hr, hf⟩ := bnd_ok hf
    obtain ⟨rfl,rfl⟩:=ok_inj hf
    exact .inl ⟨.inr rfl,atom_len hr⟩
  · split at hf
    · obtain ⟨a, l1, hr, hf⟩ := bnd_ok hf
      obtain ⟨rfl,rfl⟩:=ok_inj hf
      exact .inl ⟨.inl rfl,atom_len hr⟩
    · split at hf
      · obtain ⟨x, l1, hr, hf⟩ := bnd_ok hf
        obtain ⟨rfl,rfl⟩:=ok_inj hf
        have:=sum_x (unit_x 20) _ _ _ hr
        exact .inr (.inr ⟨rfl,this.2.le (by rw [List.length_drop];omega)⟩)
      · obtain ⟨x, l1, hr, hf⟩ := bnd_ok hf
        obtain ⟨o,l2,hq,hf⟩:=bnd_ok hf
        obtain ⟨y,l3,hp,hf⟩:=bnd_ok hf
        obtain ⟨rfl,rfl⟩:=ok_inj hf
        exact .inr (.inl rfl)
theorem PS.le {n m:Nat} {p:Pt} (h:PS n p) (hm:n≤m):PS m p:=by
  rcases h with h|h|h
  · exact .inl h
  · exact .inr (.inl h)
  · exact .inr (.inr ⟨h.1,h.2.le hm⟩)
end Go.Proofs.YtjlnpdpkobpkiaaGreatDoorPSP
