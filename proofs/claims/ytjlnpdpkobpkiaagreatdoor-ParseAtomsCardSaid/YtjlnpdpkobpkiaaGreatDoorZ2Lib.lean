import Derived.Maps.OwnSet
import Derived.Maps.AppendAt
import Derived.Deep.DeepCutAuto
import Derived.Deep.LoopGhost
import Derived.Deep.QuietTactic
import Derived.Deep.RegionWith
import Derived.Deep.RegionHeld3
import Derived.BigQuiet
import Derived.WalkSpells
import Derived.WalkLawsBesides
import Derived.Deep.DeepFit
import Derived.WalkSmall
import Derived.Deep.AppendLies
import Derived.Laws.AppendOwnNone
import Derived.Laws.Rows
import Derived.Laws.Strings
import Derived.Laws.BitsLemmas
import Derived.WalkKit
set_option linter.unusedVariables false
set_option linter.unusedSimpArgs false
namespace Go.Proofs.YtjlnpdpkobpkiaaGreatDoor
open Go.RowKit
instance bytesLawful:LawfulBEq ByteArray where
  eq_of_beq {a b} h:=by
    cases a with|mk a=>cases b with|mk b=>
    have:(a==b)=true:=h
    simp at this
    rw [this]
  rfl {a}:=by
    cases a with|mk a=>
    show (a==a)=true
    simp
theorem hid {p:Prop} (h:p):Hid p:=h
theorem str_eq {x s:ByteArray} (h:(x.toList==s.toList)=true):x=s:=by
  have h1:x.toList=s.toList:=by simpa using h
  rw [ByteArray.toList_eq,ByteArray.toList_eq] at h1
  cases x;cases s
  simp only [ByteArray.mk.injEq]
  exact Array.toList_inj.1 h1
theorem str_ne_mk {x s:ByteArray} (h:¬x=s):(x.toList==s.toList)=false:=by
  cases e:(x.toList==s.toList) with
  |false=>rfl
  |true=>exact absurd (str_eq e) h
theorem addr_add (b o i:Nat):(⟨b,o,none⟩:Addr).add i=⟨b,o+i,none⟩:=by unfold Addr.add;split <;>simp_all
theorem blk_lt {w:World} {b:Nat} {o:Obj} (h:w.heap[b]? =some o):b<w.heap.size:=(Array.getElem?_eq_some_iff.1 h).1
theorem cell_blk {w:World} {b:Nat} {cs:Array Value} {t:TypeId} {fz:Nat×Nat} (h:w.heap[b]? =some (.cells cs t fz)) (o:Nat):w.cell? ⟨b,o,none⟩=cs[o]? :=by
  simp [World.cell?,h]
theorem frozen_blk {w:World} {b:Nat} {cs:Array Value} {t:TypeId} (h:w.heap[b]? =some (.cells cs t (0,0))) (o:Nat):w.frozen? ⟨b,o,none⟩=false:=by
  simp [World.frozen?,h]
theorem blk_set {w:World} {b o:Nat} {cs:Array Value} {t:TypeId} {fz:Nat×Nat} (h:w.heap[b]? =some (.cells cs t fz)) (u:Value):(w.setCell ⟨b,o,none⟩ u).heap[b]? =some (.cells (cs.setIfInBounds o u) t fz):=by
  simp [World.setCell,Array.getElem?_modify,h]
theorem own_lt {w:World} {base:Nat} {e:TypeId} {size n:Nat} {v:Value} {xs:List Value} (h:w.ownsRow base e size v n xs) (k:Nat) (hk:v.ownBlock=some k):k<w.heap.size∧base≤k:=by
  rcases h.2 with ⟨rfl,_⟩|⟨g,cap,cur,rfl,hb,hh,_⟩
  · simp [Value.ownBlock] at hk
  · have : g = k := by simpa [Value.ownBlock] using hk
    subst this
    exact ⟨(Array.getElem?_eq_some_iff.1 hh).1,hb⟩
theorem own_blk {w:World} {base:Nat} {e:TypeId} {size n:Nat} {v:Value} {xs:List Value} (h:w.ownsRow base e size v n xs) {k:Nat} (hk:v.ownBlock=some k):∃cur,w.heap[k]? =some (.cells cur e (0,0)):=by
  rcases h.2 with ⟨rfl,_⟩|⟨g,cap,cur,rfl,hb,hh,_⟩
  · simp [Value.ownBlock] at hk
  · have : g = k := by simpa [Value.ownBlock] using hk
    subst this
    exact ⟨cur,hh⟩
theorem own_ne {w:World} {base:Nat} {e t:TypeId} {size n:Nat} {v:Value} {xs:List Value} (h:w.ownsRow base e size v n xs) {b:Nat} {cs:Array Value} {fz:Nat×Nat} (hb:w.heap[b]? =some (.cells cs t fz)) (hne:t≠e):some b≠v.ownBlock:=by
  intro hk
  obtain ⟨cur,hh⟩:=own_blk h hk.symm
  rw [hb] at hh
  injection hh with hh
  injection hh with _ ht
  exact hne ht
theorem own_slice {w:World} {base n:Nat} {e:TypeId} {size:Nat} {v:Value} {xs:List Value} (h:w.ownsRow base e size v n xs):∃A c,v= .slice A n c:=by
  rcases h.2 with ⟨rfl,rfl⟩|⟨g,cap,cur,rfl,_⟩
  · exact ⟨none,0,rfl⟩
  · exact ⟨_,cap,rfl⟩
theorem grown_of_below {w w1:World} (h:Below w.heap.size w w1) (row:Option Nat):w.grownBy w1 row:=⟨h.os,h.tape,h.output,h.size,fun i hi _=>h.block i hi⟩
theorem own_below {w w1:World} {base:Nat} {e:TypeId} {size n:Nat} {v:Value} {xs:List Value} (h:w.ownsRow base e size v n xs) (hb:Below w.heap.size w w1):w1.ownsRow base e size v n xs:=
  h.kept (grown_of_below hb none) (by cases v.ownBlock <;>simp)
theorem own_nil (W:World) (base:Nat) (e:TypeId) (size:Nat):W.ownsRow base e size (.slice none 0 0) 0 []:=⟨by simp,.inl ⟨rfl,rfl⟩⟩
section
variable {P:Program} {ops:Array Oper} {rest:List Oper} {o:Oper} {a:Act} {Q:Exit→Act→World→Prop}
theorem wp_app1 {W:World} (base:Nat) (hgd:o.guard=none) (s x:Operand) (t e:TypeId) (z:Value) (sz bytes:Nat)
    (ho:o.op= .call {callee:= .builtin .append,args:= #[s,x],argTypes:= #[t,t]})
    (ht:P.underlying t=some (.slice e)) (hinfo:(P.info? e).map (fun i=>(i.zero,i.size,i.bytes))=some (some z,sz,bytes)) (hz:z.cells.size=sz) (h0:0<sz) (hb0:0<bytes)
    (v:Value) (n:Nat) (xs news:List Value) (hs:a.eval s=v) (hx:a.eval x= .slice (some ⟨W.heap.size,0,none⟩) 1 1) (hl:news.length=sz) (h1:∀u∈news,u.oneCell'=true)
    (HO:W.ownsRow base e sz v n xs) (hbase:base≤W.heap.size) (hlim:(n+1)*bytes≤140737488355328)
    (h:∀g c w1,w1.ownsRow base e sz (.slice (some ⟨g,0,none⟩) (n+1) c) (n+1) (xs++news)→W.grownBy w1 v.ownBlock→(v.ownBlock=some g∨W.heap.size≤g)→wpList P ops Q rest (a.put o.dst (.slice (some ⟨g,0,none⟩) (n+1) c)) w1):
    wpList P ops Q (o::rest) a (W.alloc (.cells news.toArray e)):=by
  obtain ⟨i0,hi,hzz⟩:=Option.map_eq_some_iff.1 hinfo
  simp only [Prod.mk.injEq] at hzz
  obtain ⟨hz0,hz1,hz2⟩:=hzz
  have hlen:n+1≤140737488355328:=Nat.le_trans (Nat.le_mul_of_pos_right _ hb0) hlim
  refine wpList_append_own_at (W.alloc (.cells news.toArray e)) hgd s x t ho base e i0 z sz bytes ht hi hz0 hz1 hz2 hz h0 v n xs hs (HO.alloc _) ⟨W.heap.size, 0, none⟩ 1 1 news hx (by simpa using hl)
    (World.news_of_block (cs:=news.toArray) (t:=e) (fr:=(0,0)) (heap_alloc_new W _)) h1 (by simp only [maxLen];omega) hlim (by simp;omega) ?_
  intro v1 w1 hown hg _ hat
  have hg':=World.grownBy.trans (World.grownBy_alloc W (.cells news.toArray e) v.ownBlock) hg
  rcases hown.2 with ⟨rfl,hh⟩|⟨g,cap,cur,rfl,_⟩
  · omega
  · refine h g cap w1 hown hg' ?_
    rcases hat with hat|hat
    · exact .inl (by rw [←hat];rfl)
    · right
      have:g=W.heap.size+1:=by simpa [Value.ownBlock] using hat
      omega
end
def Rd (w:World) (v:Value) (n sz:Nat) (cells:List Value):Prop:=
  ∃A c,v= .slice A n c∧(n≤c∧(A=none→c=0))∧n≤140737488355328∧cells.length=n*sz∧∀j,j<n*sz→∃b off,A=some ⟨b,off,none⟩∧∀i u,cells[i]? =some u→w.cell? ⟨b,off+i,none⟩=some u
theorem Rd.cells {w:World} {A:Option Addr} {c n sz:Nat} {cells:List Value} {j:Nat} (h:Rd w (.slice A n c) n sz cells) (hj:j<n*sz):∃b off,A=some ⟨b,off,none⟩∧∀i u,cells[i]? =some u→w.cell? ⟨b,off+i,none⟩=some u:=by
  obtain ⟨A',c',e,_,_,_,h⟩:=h
  injection e with e1 e2 e3
  subst e1
  exact h j hj
theorem Rd.below {w w1:World} {v:Value} {n sz:Nat} {cells:List Value} (h:Rd w v n sz cells) (hb:Below w.heap.size w w1):Rd w1 v n sz cells:=by
  obtain ⟨A,c,rfl,h1,h2,h3,h4⟩:=h
  refine ⟨A,c,rfl,h1,h2,h3,fun j hj=> ?_⟩
  obtain ⟨b,off,e,hc⟩:=h4 j hj
  exact ⟨b,off,e,fun i u hu=>(hb.cell (World.block_lt_of_cell? w _ (hc i u hu))).trans (hc i u hu)⟩
theorem Rd.grown {w w1:World} {v:Value} {n sz:Nat} {cells:List Value} (h:Rd w v n sz cells) {B:Nat} (hv:∀A m c,v= .slice A m c→∀a,A=some a→a.block<B) (hb:Below B w w1):Rd w1 v n sz cells:=by
  obtain ⟨A,c,rfl,h1,h2,h3,h4⟩:=h
  refine ⟨A,c,rfl,h1,h2,h3,fun j hj=> ?_⟩
  obtain ⟨b,off,e,hc⟩:=h4 j hj
  exact ⟨b,off,e,fun i u hu=>(hb.cell (p:=⟨b,off+i,none⟩) (hv A _ _ rfl ⟨b,off,none⟩ e)).trans (hc i u hu)⟩
theorem Rd.own {w:World} {base:Nat} {e:TypeId} {v:Value} {n sz:Nat} {cells:List Value} (h:w.ownsRow base e sz v n cells) (hn:n≤140737488355328):Rd w v n sz cells:=by
  have hl:=h.1
  rcases h.2 with ⟨rfl,rfl⟩|⟨g,cap,cur,rfl,_,_,hc,_⟩
  · exact ⟨none,0,rfl,⟨Nat.le_refl _,fun _=>rfl⟩,hn,hl,fun j hj=>by omega⟩
  · refine ⟨_, cap, rfl, ⟨hc, fun h => by cases h⟩, hn, hl, fun j hj => ⟨g, 0, rfl, fun i u hu => ?_⟩⟩
    have hk:=h.cells (g:=g) rfl i u hu
    have e:(⟨g,0,none⟩:Addr).add i=⟨g,0+i,none⟩:=by unfold Addr.add;split <;>simp_all
    rwa [e] at hk
structure Fr (F:Nat→Prop) (w w':World):Prop where
  os:w'.os=w.os
  tape:w'.tape=w.tape
  output:w'.output=w.output
  size:w.heap.size≤w'.heap.size
  block:∀i,i<w.heap.size→¬F i→w'.heap[i]? =w.heap[i]?
theorem Fr.refl (F:Nat→Prop) (w:World):Fr F w w:=⟨rfl,rfl,rfl,Nat.le_refl _,fun _ _ _=>rfl⟩
theorem Fr.trans {F G:Nat→Prop} {a b c:World} (h:Fr F a b) (k:Fr G b c) (hG:∀i,i<a.heap.size→G i→F i):Fr F a c:=
  ⟨k.os.trans h.os,k.tape.trans h.tape,k.output.trans h.output,Nat.le_trans h.size k.size,fun i hi hn=>(k.block i (Nat.lt_of_lt_of_le hi h.size) (fun g=>hn (hG i hi g))).trans (h.block i hi hn)⟩
theorem Fr.mono {F G:Nat→Prop} {a b:World} (h:Fr F a b) (hF:∀i,i<a.heap.size→F i→G i):Fr G a b:=⟨h.os,h.tape,h.output,h.size,fun i hi hn=>h.block i hi (fun f=>hn (hF i hi f))⟩
theorem Fr.below {F:Nat→Prop} {B:Nat} {w w':World} (h:Fr F w w') (hB:B≤w.heap.size) (hF:∀i,F i→B≤i):Below B w w':=
  ⟨h.os,h.tape,h.output,h.size,fun i hi=>h.block i (by omega) (fun f=>by have:=hF i f;omega)⟩
theorem Fr.of_below {B:Nat} {w w':World} (h:Below B w w') (hs:w.heap.size≤w'.heap.size):Fr (fun i=>B≤i) w w':=⟨h.os,h.tape,h.output,hs,fun i _ hn=>h.block i (by omega)⟩
theorem Fr.grown {w w':World} {row:Option Nat} (h:w.grownBy w' row):Fr (fun i=>row=some i) w w':=⟨h.os,h.tape,h.output,h.size,fun i hi hn=>h.block i hi (fun e=>hn e.symm)⟩
theorem Fr.setCell (w:World) (a:Addr) (u:Value):Fr (fun i=>i=a.block) w (w.setCell a u):=⟨rfl,rfl,rfl,by simp [World.setCell],fun i _ hn=>Below.heap_setCell _ _ _ _ hn⟩
theorem Fr.alloc {F:Nat→Prop} {a w:World} (h:Fr F a w) (o:Obj):Fr F a (w.alloc o):=
  h.trans (G:=fun _=>False) ⟨rfl,rfl,rfl,by simp,fun k hk _=>Below.heap_alloc _ _ _ hk⟩ (fun _ _ f=>f.elim)
theorem Fr.drewN {F:Nat→Prop} {a w:World} (h:Fr F a w) (n:Nat):Fr F a (w.drewN n):=⟨h.os,h.tape,h.output,h.size,h.block⟩
theorem Fr.drew {F:Nat→Prop} {a w:World} (h:Fr F a w):Fr F a w.drew:=⟨h.os,h.tape,h.output,h.size,h.block⟩
theorem Fr.cell {F:Nat→Prop} {w w':World} (h:Fr F w w') {b o:Nat} {u:Value} (hc:w.cell? ⟨b,o,none⟩=some u) (hb:¬F b):w'.cell? ⟨b,o,none⟩=some u:=by
  have:=h.block b (World.block_lt_of_cell? w _ hc) hb
  simpa [World.cell?,this] using hc
theorem Fr.rd {w w':World} (h:Fr (fun _=>False) w w') {v:Value} {n sz:Nat} {cells:List Value} (hr:Rd w v n sz cells):Rd w' v n sz cells:=hr.below (h.below (Nat.le_refl _) (fun _ f=>f.elim))
theorem Fr.own {F:Nat→Prop} {w w1:World} {base:Nat} {e:TypeId} {size n:Nat} {v:Value} {xs:List Value} (hf:Fr F w w1) (h:w.ownsRow base e size v n xs) (hv:∀g,v.ownBlock=some g→¬F g):w1.ownsRow base e size v n xs:=by
  cases hk:v.ownBlock with
  |none=>
    rcases h.2 with ⟨rfl,hh⟩|⟨g,cap,cur,rfl,_⟩
    · exact ⟨h.1,.inl ⟨rfl,hh⟩⟩
    · simp [Value.ownBlock] at hk
  |some k=>
    obtain ⟨h1,h2⟩:=h
    refine ⟨h1,?_⟩
    rcases h2 with h2|⟨g,cap,cur,hv',hg,hh,r⟩
    · exact .inl h2
    · refine .inr ⟨g, cap, cur, hv', hg, ?_, r⟩
      rw [hf.block g (Array.getElem?_eq_some_iff.1 hh).1 (hv g (by rw [hv'];rfl))]
      exact hh
theorem Fr.map {H:Type} {F:Nat→Prop} {w w1:World} {P:Program} {k:TypeId} {R:Value→Option (DataW H×List MemPlace)} {b n:Nat} {D:DataW H} (hf:Fr F w w1) (h:w.ownsMap P k R b n D) (hb:¬F b):w1.ownsMap P k R b n D:=by
  have hlt:=h.lt
  obtain ⟨es,clock,hb',F',hs,hD⟩:=h
  exact ⟨es,clock,(hf.block b hlt hb).trans hb',F',hs,hD⟩
theorem own_base {w:World} {base base':Nat} {e:TypeId} {size n:Nat} {v:Value} {xs:List Value} (h:w.ownsRow base e size v n xs) (hb:∀g,v.ownBlock=some g→base'≤g):w.ownsRow base' e size v n xs:=by
  obtain ⟨h1,h2⟩:=h
  refine ⟨h1,?_⟩
  rcases h2 with h2|⟨g,cap,cur,hv,hg,hh,r⟩
  · exact .inl h2
  · exact .inr ⟨g,cap,cur,hv,hb g (by rw [hv];rfl),hh,r⟩
theorem and_le (x:Int) (y:Nat) (hy:y<9223372036854775808):0≤bits .and .i64 x (y:Int)∧bits .and .i64 x (y:Int)≤(y:Int):=by
  have h:(BitVec.ofInt 64 x &&& BitVec.ofInt 64 (y:Int)).toNat≤y:=by
    rw [BitVec.toNat_and]
    refine Nat.le_trans Nat.and_le_right ?_
    rw [BitVec.ofInt_natCast,BitVec.toNat_ofNat]
    exact Nat.mod_le _ _
  have e:bits .and .i64 x (y:Int)=IntKind.i64.wrap ((BitVec.ofInt 64 x &&& BitVec.ofInt 64 (y:Int)).toNat:Int):=rfl
  rw [e,IntKind.wrap_i64]
  omega
section
variable {P:Program} {ops:Array Oper} {rest:List Oper} {o:Oper} {a:Act} {Q:Exit→Act→World→Prop}
end
end Go.Proofs.YtjlnpdpkobpkiaaGreatDoor
