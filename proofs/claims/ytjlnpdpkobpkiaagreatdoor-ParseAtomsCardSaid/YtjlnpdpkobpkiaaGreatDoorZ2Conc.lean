import Derived.Deep.Slices
import Derived.ChangeArms
import Derived.ChangeSame
import Derived.ChangeSlices
import Derived.SizedLaws
import Derived.Test.YtjlnpdpkobpkiaaGreatDoorProg
import Derived.Test.YtjlnpdpkobpkiaaGreatDoorZ2Lib
import Derived.Test.YtjlnpdpkobpkiaaGreatDoorZ2W1
set_option linter.unusedVariables false
set_option linter.unusedSimpArgs false
namespace Go.Proofs.YtjlnpdpkobpkiaaGreatDoor
open Go Go.Deep Go.ChangeShapes Go.WideShapes
def OpensAt (P:Program) (n:Nat) (t:TypeId) {α:Type} (R:World→α→List Value→Prop) (ok:α→Prop):Prop:=
  ∀{H:Type} {enc:TypeId×Value→H} {w:World} {base:Nat} {spare:Nat→Bool} {held:Bool} {fuel:Nat} {cs:List Value} {x:DataW H×List MemPlace},
    fuel≤n→DataW.trod enc P w base spare held fuel t cs=some x→∃a,R w a cs∧ok a
theorem OpensAt.le {P:Program} {n m:Nat} {t:TypeId} {α:Type} {R:World→α→List Value→Prop} {ok:α→Prop} (h:OpensAt P n t R ok) (hm:m≤n):OpensAt P m t R ok:=fun hf hx=>h (Nat.le_trans hf hm) hx
theorem OpensAt.imp {P:Program} {n:Nat} {t:TypeId} {α β:Type} {R:World→α→List Value→Prop} {ok:α→Prop} {R':World→β→List Value→Prop} {ok':β→Prop} (h:OpensAt P n t R ok) (g:α→β)
    (hR:∀w a cs,R w a cs→ok a→R' w (g a) cs) (hk:∀a,ok a→ok' (g a)):OpensAt P n t R' ok':=fun hf hx=>by
  obtain ⟨a,h1,h2⟩:=h hf hx
  exact ⟨g a,hR _ _ _ h1 h2,hk _ h2⟩
theorem opens_int {P:Program} {n:Nat} {t:TypeId} {k:IntKind} (ht:P.underlying t=some (.int k)):OpensAt P n t (fun _ (x:Int) cs=>cs=[.int k x]) (fun x=>(Lit.int k x).wf=true):=fun _ h=>by
  obtain ⟨m,h1,_,h2⟩:=DataW.trod_int ht h
  exact ⟨m,h1,h2⟩
def RowOf {α:Type} (R:α→List Value→Prop) (sz:Nat) (w:World) (A:Option Addr) (n:Nat) (ps:List α):Prop:=
  ps.length=n∧n≤9223372036854775807∧(0<n→∃ad,A=some ad∧∀j p,ps[j]? =some p→∃c,c.length=sz∧R p c∧∀i u,c[i]? =some u→w.cell? (ad.add (j*sz+i))=some u)
theorem RowOf.addr {α:Type} {R:α→List Value→Prop} {sz:Nat} {w:World} {A:Option Addr} {n:Nat} {ps:List α} (h:RowOf R sz w A n ps) (hn:0<n) (hz:0<sz):
    ∃b off,A=some ⟨b,off,none⟩∧∀j p,ps[j]? =some p→∃c,c.length=sz∧R p c∧∀i u,c[i]? =some u→w.cell? ⟨b,off+(j*sz+i),none⟩=some u:=by
  obtain ⟨hl,_,h⟩:=h
  obtain ⟨⟨b,off,s⟩,rfl,hc⟩:=h hn
  obtain ⟨c,hcl,_,hcell⟩:=hc 0 _ (List.getElem?_eq_getElem (by omega))
  have k:=hcell 0 _ (List.getElem?_eq_getElem (by omega))
  have hs:s=none:=by
    rw [Nat.zero_mul,Nat.zero_add] at k
    unfold Addr.add World.cell? at k
    rw [if_pos rfl] at k
    split at k
    · split at k
      · cases k
      · rename_i hs;simpa using hs
    · cases k
  subst hs
  refine ⟨b,off,rfl,fun j p hp=> ?_⟩
  obtain ⟨c,h1,h2,h3⟩:=hc j p hp
  refine ⟨c,h1,h2,fun i u hu=> ?_⟩
  have:=h3 i u hu
  unfold Addr.add at this
  split at this
  · rename_i h0;rw [h0];exact this
  · exact this
def RSlice {α:Type} (R:World→α→List Value→Prop) (sz:Nat) (w:World) (xs:List α) (cs:List Value):Prop:=∃A c,cs=[.slice A xs.length c]∧xs.length≤c∧RowOf (R w) sz w A xs.length xs
theorem list_of {α:Type} {p:Nat→α→Prop} (n:Nat) (h:∀i,i<n→∃a,p i a):∃xs:List α,xs.length=n∧∀j a,xs[j]? =some a→p j a:=by
  induction n with
  |zero=>exact ⟨[],rfl,fun j a h=>by simp at h⟩
  |succ n ih=>
    obtain ⟨xs,hl,hx⟩:=ih (fun i hi=>h i (by omega))
    obtain ⟨a,ha⟩:=h n (by omega)
    refine ⟨xs++[a],by simp [hl],fun j b hb=> ?_⟩
    by_cases hj:j<n
    · rw [List.getElem?_append_left (by omega)] at hb
      exact hx j b hb
    · rw [List.getElem?_append_right (by omega), hl] at hb
      have:j=n:=by
        have:=(List.getElem?_eq_some_iff.1 hb).1
        simp at this
        omega
      subst this
      simp at hb
      subst hb
      exact ha
theorem opens_slice {P:Program} {n:Nat} {t e:TypeId} {sz:Nat} {α:Type} {R:World→α→List Value→Prop} {ok:α→Prop} (ht:P.underlying t=some (.slice e)) (hc:P.cellsOf e=sz) (h:OpensAt P n e R ok):
    OpensAt P (n+1) t (RSlice R sz) (fun xs=>xs.length≤maxLen∧∀x∈xs,ok x):=fun {H enc w base spare held fuel cs x} hf hx=>by
  rcases DataW.trod_slice ht hx with ⟨rfl,_⟩|⟨a,len,cap,elems,rest,m,hfm,rfl,rfl,hb,hl,hm,hlen,hel,_,_⟩
  · exact ⟨[],⟨none,0,rfl,Nat.le_refl _,rfl,by simp,fun h=>by simp at h⟩,by simp,by simp⟩
  · have each:∀i,i<len→∃q:α,ok q∧∃c,c.length=sz∧R w q c∧∀k u,c[k]? =some u→w.cell? (a.add (i*sz+k))=some u:=fun i hi=>by
      have h1:=hel i hi
      rw [List.getElem?_eq_getElem (by omega)] at h1
      obtain ⟨cs',h2,h3⟩:=Option.bind_eq_some_iff.1 h1
      obtain ⟨q,hR,hk⟩:=h (by omega) h3
      obtain ⟨_,hl2,hcell⟩:=World.cells?_some h2
      rw [hc] at hl2 hcell
      refine ⟨q,hk,cs',hl2,hR,fun k u hu=> ?_⟩
      have hk2:k<sz:=by have:=(List.getElem?_eq_some_iff.1 hu).1;omega
      have:=hcell k hk2
      rw [add_add] at this
      rw [this,←hu]
    obtain ⟨xs,hxl,hxs⟩:=list_of len each
    subst hxl
    refine ⟨xs,⟨some a,cap,rfl,hl,rfl,by unfold maxLen at hm;omega,fun _=>⟨a,rfl,fun j p hp=>(hxs j p hp).2⟩⟩,by omega,fun y hy=> ?_⟩
    obtain ⟨j,hj⟩:=List.mem_iff_getElem?.1 hy
    exact (hxs j y hj).1
def RPair {α β:Type} (R:World→α→List Value→Prop) (S:World→β→List Value→Prop) (w:World) (x:α×β) (cs:List Value):Prop:=∃c0 c1,cs=c0++c1∧R w x.1 c0∧S w x.2 c1
inductive OpensF (P:Program) (n:Nat):List Field→Nat→Nat→(α:Type)→(World→α→List Value→Prop)→(α→Prop)→Prop where
  |one {f:Field} {off sz:Nat} {α:Type} {R:World→α→List Value→Prop} {ok:α→Prop} (ho:f.offset=off) (hc:P.cellsOf f.type=sz) (h:OpensAt P n f.type R ok):OpensF P n [f] off sz α R ok
  |cons {f:Field} {fs:List Field} {off s0 s1:Nat} {α β:Type} {R:World→α→List Value→Prop} {ok:α→Prop} {S:World→β→List Value→Prop} {oks:β→Prop} (ho:f.offset=off) (hc:P.cellsOf f.type=s0) (h:OpensAt P n f.type R ok)
      (hs:OpensF P n fs (off+s0) s1 β S oks):OpensF P n (f::fs) off (s0+s1) (α×β) (RPair R S) (fun x=>ok x.1∧oks x.2)
theorem OpensF.get {P:Program} {n:Nat} {fs:List Field} {off sz:Nat} {α:Type} {R:World→α→List Value→Prop} {ok:α→Prop} (h:OpensF P n fs off sz α R ok):
    ∀{H:Type} {enc:TypeId×Value→H} {w:World} {base:Nat} {spare:Nat→Bool} {held:Bool} {fuel:Nat} {cs:List Value},fuel≤n→cs.length=off+sz →
      (∀(i:Nat) (f:Field),fs[i]? =some f→∃x,DataW.trod enc P w base spare held fuel f.type ((cs.drop f.offset).take (P.cellsOf f.type))=some x)→∃a,R w a (cs.drop off)∧ok a:=by
  induction h with
  |one ho hc h=>
    intro H enc w base spare held fuel cs hf hl hx
    obtain ⟨x,hx⟩:=hx 0 _ rfl
    rw [ho,hc,List.take_of_length_le (by simp;omega)] at hx
    exact h hf hx
  | @cons f fs off s0 s1 α β R ok S oks ho hc h hs ih=>
    intro H enc w base spare held fuel cs hf hl hx
    obtain ⟨x,hx0⟩:=hx 0 _ rfl
    rw [ho,hc] at hx0
    obtain ⟨a,hR,hk⟩:=h hf hx0
    obtain ⟨b,hS,hks⟩:=ih hf (by omega) (fun i f' hi=>hx (i+1) f' (by simpa using hi))
    refine ⟨(a,b),⟨_,_,?_,hR,hS⟩,hk,hks⟩
    rw [←List.drop_drop,List.take_append_drop]
theorem opens_struct {P:Program} {n:Nat} {t:TypeId} {fs:Array Field} {sz:Nat} {α:Type} {R:World→α→List Value→Prop} {ok:α→Prop} (ht:P.underlying t=some (.struct fs)) (hc:P.cellsOf t=sz) (h:OpensF P n fs.toList 0 sz α R ok):
    OpensAt P (n+1) t R ok:=fun {H enc w base spare held fuel cs x} hf hx=>by
  obtain ⟨xs,m,hm,_,hl,hxl,hget⟩:=DataW.trod_struct ht hx
  have:=h.get (enc:=enc) (w:=w) (base:=base) (spare:=spare) (held:=held) (fuel:=m) (cs:=cs) (by omega) (by omega) (fun i f hi=>by
    have h1:=hget i f (by simpa using hi)
    have h2:i<xs.length:=by
      have:=(List.getElem?_eq_some_iff.1 hi).1
      simp at this
      omega
    exact ⟨xs[i],by rw [h1,List.getElem?_eq_getElem h2]⟩)
  simpa using this
end Go.Proofs.YtjlnpdpkobpkiaaGreatDoor
set_option linter.unusedVariables false
set_option linter.unusedSimpArgs false
namespace Go.Proofs.YtjlnpdpkobpkiaaGreatDoorPSP
open Go.RowKit Go.Extern.Stop Go.Stop Go.Extern Go.Proofs.YtjlnpdpkobpkiaaGreatDoorW.PrintWords Go.Proofs.YtjlnpdpkobpkiaaGreatDoor
set_option maxHeartbeats 4000000 in
set_option maxRecDepth 100000 in
theorem Grow_nil (n:Nat) (w:World) (hn:n≤1000000):Calls Tryz.prog 118 #[.slice none 0 0,.int .i64 (n:Int)] w (fun e w'=>∃v,e= .returned v∧Kd.R Kd.string 9 w' w.heap.size (fun _=>True) v []∧Below w.heap.size w w'):=by
  by_cases h0:n=0
  · subst h0
    go_enter Tryz.func118,Tryz.ntmps118
    go_wp2
    go_ret
    exact ⟨_,rfl,Kd.R_nil _ _ _ _ _,Below.refl _ _⟩
  · have h1 : (0 : Int) < n := by omega
    have h2:¬(n:Int)<0:=by omega
    go_enter Tryz.func118,Tryz.ntmps118
    go_wp2_with (at_builtin;go_must (refine Kd.R_append_zeros Kd.string (w0:=w) w.heap.size rfl _ _ 74 3 9 (.string ⟨#[]⟩) 16 rfl Tryz.underlying74 Tryz.underlying3 (by kernel_rfl) rfl (by decide) (by decide) (.slice none 0 0) [] (⟨#[]⟩:ByteArray) (n:Int) (fun _=>True) rfl rfl rfl (fun _ _=>trivial) (Kd.R_nil _ _ _ _ _) (by omega) (Below.refl _ _) (Nat.le_refl _) (by simp;omega) ?_);intro v1 w1 hR hB _ _;obtain ⟨A1,c1,rfl⟩:=Kd.R_slice hR;have HR:=hid hR;have HB:=hid hB;clear hR hB)
    go_ret
    exact ⟨_,rfl,by simpa using Kd.R_take (m:=0) HR.out (Nat.zero_le _),HB.out⟩
theorem Kd.C_addr {α:Type} {d:Kd α} {w:World} {A:Option Addr} {n:Nat} {xs:List α} (h:Kd.C d w A n xs) (hn:0<n) (hz:0<d.sz):
    ∃b off,A=some ⟨b,off,none⟩∧∀j p,xs[j]? =some p→∃c,c.length=d.sz∧d.K w p c∧∀i u,c[i]? =some u→w.cell? ⟨b,off+(j*d.sz+i),none⟩=some u:=
  RowOf.addr (R:=d.K w) (sz:=d.sz) h hn hz
def slices_Concat_string_string.f (l:List (List ByteArray)):Option (List ByteArray):=if l.length≤1000∧l.flatten.length≤1000000 then some l.flatten else none
theorem flat_take {α:Type} (l:List (List α)) (i:Nat) (h:i<l.length):(l.take (i+1)).flatten=(l.take i).flatten++l[i]:=by
  rw [List.take_succ_eq_append_getElem h,List.flatten_append]
  simp
theorem flat_take_le {α:Type} (l:List (List α)) (i:Nat):(l.take i).flatten.length≤l.flatten.length:=by
  have:=congrArg (fun z=>z.flatten.length) (List.take_append_drop i l)
  simp only [List.flatten_append,List.length_append] at this
  omega
set_option maxHeartbeats 4000000 in
set_option maxRecDepth 100000 in
theorem slices_Concat_string_string.calls (A:Option Addr) (c:Nat) (l:List (List ByteArray)) (r:List ByteArray) (w:World) (hr:Kd.C (Kd.slice 9 Kd.string) w A l.length l) (hc:l.length≤c) (h:slices_Concat_string_string.f l=some r):
    Calls Tryz.prog 99 #[.slice A l.length c] w fun e w'=>∃v,e= .returned v∧Kd.R Kd.string 9 w' w.heap.size (fun _=>True) v r∧Below w.heap.size w w':=by
  unfold slices_Concat_string_string.f at h
  split at h
  case isFalse=>cases h
  case isTrue hk=>
  obtain ⟨hk1,hk2⟩:=hk
  obtain rfl:=Option.some.inj h
  clear h
  have HRD:=hid hr
  have HC:=hid hc
  clear hr hc
  go_enter Tryz.func99,Tryz.ntmps99
  go_wp2_with fail
  go_loopg [3,11] l.length (fun g t3 t11 wr=>∃i:Nat,t3= .int .i64 (((l.take i).flatten.length:Nat):Int)∧t11= .int .i64 (i:Int)∧i≤l.length∧l.length-i≤g∧wr=w)
  case atStart=>exact ⟨0,rfl,rfl,by omega,by omega,rfl⟩
  case round=>
    obtain ⟨i,rfl,rfl,hi,hg,hw⟩:=hrel
    subst wr
    have hle:=flat_take_le l i
    by_cases hlt:i<l.length
    · have hlt' : (i : Int) < (l.length : Int) := by omega
      obtain ⟨b,off,rfl,hcl⟩:=Kd.C_addr HRD.out (by omega) (by decide)
      obtain ⟨cs,_,hK,hcell⟩:=hcl i _ (List.getElem?_eq_getElem hlt)
      obtain ⟨A',c',rfl,hl',hr'⟩:=hK
      have k0:=hcell 0 _ rfl
      have e1:(Kd.slice 9 Kd.string).sz=1:=rfl
      rw [e1,Nat.mul_one] at k0
      have k1:w.cell? ⟨b,off+i,none⟩=some (.slice A' l[i].length c'):=k0
      have hft:=flat_take l i hlt
      have hfl:=congrArg List.length hft
      rw [List.length_append] at hfl
      have hle2:=flat_take_le l (i+1)
      have hsz:((l.take i).flatten.length:Int)+(l[i].length:Int)=((l.take (i+1)).flatten.length:Nat):=by omega
      have hww:wrap64 (((l.take i).flatten.length:Int)+(l[i].length:Int))=(((l.take (i+1)).flatten.length:Nat):Int):=by rw [hsz];unfold wrap64;omega
      clear hsz hfl hft hle hle2
      have hnn:¬(((l.take (i+1)).flatten.length:Nat):Int)<0:=by omega
      generalize (l.take i).flatten.length=p at *
      obtain ⟨q,hq⟩:∃q,q=(l.take (i+1)).flatten.length:=⟨_,rfl⟩
      rw [←hq] at hww hnn
      have HQ:=hid hq
      clear hq
      generalize l[i].length=m at *
      clear hcell hcl hr' k0
      go_wp2
      go_roundg (l.length-(i+1))
      case measure=>omega
      case rel=>exact ⟨i+1,by rw [HQ.out],rfl,by omega,Nat.le_refl _,rfl⟩
    · have hie : i = l.length := by omega
      subst hie
      rw [List.take_length]
      clear hle
      have HK1:=hid hk1
      have HK2:=hid hk2
      obtain ⟨N,hN⟩:∃N,N=l.flatten.length:=⟨_,rfl⟩
      rw [←hN]
      have HN:=hid hN
      clear hk1 hk2 hN hlt hi hg
      have Q0:Hid (Kd.R Kd.string 9 w w.heap.size (fun _=>True) (.slice none 0 0) []):=hid (Kd.R_nil _ _ _ _ _)
      go_wp2_with fail
      refine (Grow_nil N w (by rw [HN.out];exact HK2.out)).mono ?_
      rintro e w1 ⟨v0,rfl,hR,hB⟩
      have R0:=hid hR
      have B0:=hid hB
      clear hR hB
      go_wp2_with fail
      go_loopg [6,27] l.length (fun g t6 t27 wr=>∃(j:Nat),t27= .int .i64 (j:Int)∧j≤l.length∧l.length-j≤g∧Hid (Kd.R Kd.string 9 wr w.heap.size (fun _=>True) t6 (l.take j).flatten)∧Hid (Below w.heap.size w wr))
      case atStart=>exact ⟨0,rfl,by omega,by omega,R0,B0⟩
      case round=>
        clear R0 B0 Q0
        obtain ⟨j,rfl,hj,hgj,HR,HB⟩:=hrel
        obtain ⟨wp,rfl⟩:∃x:World,x=wr:=⟨_,rfl⟩
        obtain ⟨A1,c1,rfl⟩:=Kd.R_slice HR.out
        by_cases hlt:j<l.length
        · have hlt' : (j : Int) < (l.length : Int) := by omega
          have hk1:=HK1.out
          obtain ⟨b,off,rfl,hcl⟩:=Kd.C_addr HRD.out (by omega) (by decide)
          obtain ⟨cs,_,hK,hcell⟩:=hcl j _ (List.getElem?_eq_getElem hlt)
          obtain ⟨A',c',rfl,hl',hr'⟩:=hK
          have k0:=hcell 0 _ rfl
          have e1:(Kd.slice 9 Kd.string).sz=1:=rfl
          rw [e1,Nat.mul_one] at k0
          have k1:wp.cell? ⟨b,off+j,none⟩=some (.slice A' l[j].length c'):=(HB.out.cell (World.block_lt_of_cell? w _ k0)).trans k0
          have HA:=hid (Kd.C_below hr' HB.out)
          have HFT:=hid (flat_take l j hlt)
          have hle:=flat_take_le l (j+1)
          rw [HFT.out,List.length_append] at hle
          obtain ⟨x,hx⟩:∃x,x=l[j]:=⟨_,rfl⟩
          rw [←hx] at k1 HA HFT hle
          obtain ⟨L2,hL2⟩:∃L2,L2=(l.take (j+1)).flatten:=⟨_,rfl⟩
          rw [←hL2] at HFT
          have HL2:=hid hL2
          clear hL2
          have HS:=hid (HB.out.size)
          have hk2:=HK2.out
          have HLE:Hid (((l.take j).flatten.length+x.length)*16≤140737488355328):=hid (by omega)
          clear hk2 hle
          clear hcell hcl hr' k0 hx hl'
          go_wp2_with (at_builtin;go_must (refine Kd.R_append_rows Kd.string (w0:=w) w.heap.size rfl _ _ 74 9 (.string ⟨#[]⟩) 16 rfl Tryz.underlying74 (by kernel_rfl) rfl (by decide) (by decide) _ _ x _ _ _ (fun _=>True) (fun _=>False) rfl rfl HR.out HA.out (fun _ _ h=>h) (fun _ h=>h.elim) (fun _ _=>trivial) HB.out HS.out HLE.out ?_);intro v1 w1 hR hB _ _;rw [←HFT.out] at hR;obtain ⟨A2,c2,rfl⟩:=Kd.R_slice hR;have HR2:=hid hR;have HB2:=hid hB;clear hR hB)
          go_roundg (l.length-(j+1))
          case measure=>omega
          case rel=>exact ⟨j+1,rfl,by omega,Nat.le_refl _,by rw [←HL2.out];exact HR2,HB2⟩
        · have hje : j = l.length := by omega
          subst hje
          have hR:=HR.out
          rw [List.take_length] at hR
          rw [List.take_length]
          have HR2:=hid hR
          clear hR HR
          go_wp2
          go_ret
          exact ⟨_,rfl,HR2.out,HB.out⟩
end Go.Proofs.YtjlnpdpkobpkiaaGreatDoorPSP
