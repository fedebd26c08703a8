import Derived.Test.YtjlnpdpkobpkiaaGreatDoorZ1Hf16
import Derived.Test.YtjlnpdpkobpkiaaGreatDoorZ1OpS
import Derived.Test.YtjlnpdpkobpkiaaGreatDoorZ1PSQx8
import Derived.Test.YtjlnpdpkobpkiaaGreatDoorZ1LoP
import Derived.Deep.RegionHeld3
import Derived.Deep.RegionLaw
set_option linter.unusedVariables false
set_option linter.unusedSimpArgs false
namespace Go.Proofs.YtjlnpdpkobpkiaaGreatDoorPSP
open Go.RowKit Go.Extern.Stop Go.Stop Go.Extern Go.Proofs.YtjlnpdpkobpkiaaGreatDoorW.PrintWords Go.Proofs.YtjlnpdpkobpkiaaGreatDoor
theorem in_l0 (l:List ByteArray) (v:ByteArray) (hl:l.length≤1000000):∀(d i k:Nat),i+d=l.length→d<k→ergolaw16_in.l0 k v l (l.length:Int) (i:Int)=some (knows (l.drop i) v):=by
 intro d
 induction d with
 |zero=>
  intro i k hi hk
  obtain ⟨k,rfl⟩:∃m,k=m+1:=⟨k-1,by omega⟩
  rw [ergolaw16_in.l0,if_neg (by omega),List.drop_eq_nil_of_le (by omega)]
  rfl
 |succ d ih=>
  intro i k hi hk
  obtain ⟨k,rfl⟩:∃m,k=m+1:=⟨k-1,by omega⟩
  have hlt:i<l.length:=by omega
  rw [ergolaw16_in.l0,if_pos (by omega),if_pos (by omega),if_pos (by omega),rdOf_at l i hlt,w64 i (by omega),List.drop_eq_getElem_cons hlt]
  have e:knows (l[i]::l.drop (i+1)) v=(l[i].toList==v.toList||knows (l.drop (i+1)) v):=by unfold knows;rw [List.any_cons]
  rw [e]
  by_cases h0:l[i].toList=v.toList
  ·rw [if_pos h0, show (l[i].toList == v.toList) = true by simpa using h0, Bool.true_or]
  ·rw [if_neg h0, show (l[i].toList == v.toList) = false by simpa using h0, Bool.false_or]
   exact ih (i+1) k (by omega) (by omega)
theorem in_is (l:List ByteArray) (v:ByteArray) (hl:l.length≤1000000) (k:Nat) (hk:l.length<k):ergolaw16_in.f k l v=some (knows l v):=by
 have:=in_l0 l v hl l.length 0 k (by omega) hk
 unfold ergolaw16_in.f
 rw [show ((0:Nat):Int)=0 from rfl] at this
 rw [this]
 simp
theorem lacks_l0 (kn l:List ByteArray) (hk:kn.length≤1000000) (hl:l.length≤1000000):∀(d i k:Nat),i+d=l.length→d+kn.length+1<k→ergolaw16_lacks.l0 k kn l (l.length:Int) (i:Int)=some (lackL kn (l.drop i)):=by
 intro d
 induction d with
 |zero=>
  intro i k hi hk
  obtain ⟨k,rfl⟩:∃m,k=m+1:=⟨k-1,by omega⟩
  rw [ergolaw16_lacks.l0,if_neg (by omega),List.drop_eq_nil_of_le (by omega)]
  rfl
 |succ d ih=>
  intro i k hi hkk
  obtain ⟨k,rfl⟩:∃m,k=m+1:=⟨k-1,by omega⟩
  have hlt:i<l.length:=by omega
  rw [ergolaw16_lacks.l0,if_pos (by omega),if_pos (by omega),if_pos (by omega),rdOf_at l i hlt,w64 i (by omega),List.drop_eq_getElem_cons hlt,in_is kn _ hk k (by omega)]
  simp only [Option.bind_some]
  rw [lackL]
  by_cases h:knows kn l[i]=true
  ·rw [if_pos h, if_pos h]
   exact ih (i+1) k (by omega) (by omega)
  ·rw [if_neg h, if_neg h]
theorem lacks_is (kn l:List ByteArray) (hk:kn.length≤1000000) (hl:l.length≤1000000):ergolaw16_lacks.f 3000000 kn l=some (lackL kn l):=by
 have:=lacks_l0 kn l hk hl l.length 0 3000000 (by omega) (by omega)
 unfold ergolaw16_lacks.f
 rw [show ((0:Nat):Int)=0 from rfl] at this
 rw [this]
 simp
theorem needs_is {p:SfP} (hp:PGood p):ergolaw16_needs.f 2000000 p.f0 p.f1.f0 p.f1.f1 p.f2 p.f3.f0 p.f3.f1 p.f3.f2 p.f4.f0 p.f4.f1 p.f4.f2 p.f5 p.f6.f0.f0 p.f6.f0.f1 p.f6.f0.f2 p.f6.f1 p.f6.f2=some (needV p):=by
 unfold ergolaw16_needs.f needV
 split
 ·rfl
 ·split
  ·rename_i h3
   have:=hp.e h3
   unfold xvF at this
   rw [this]
   rfl
  ·have := hp.v
   unfold pvF at this
   rw [this]
   rfl
theorem needs16_any {p:SfP} (hp:PGood p) {w:World} {A1 A2:Option Addr} {c1 c2:Nat} (h1:Kd.C k98 w A1 p.f1.f1.length p.f1.f1) (l1:p.f1.f1.length≤c1) (h2:Kd.C k104 w A2 p.f6.f2.length p.f6.f2) (l2:p.f6.f2.length≤c2):
  Calls Tryz.prog 35 #[ptV p A1 c1 A2 c2] w (fun e w'=>∃(A:Option Addr) (c:Nat),e= .returned (.slice A (needV p).length c)∧(needV p).length≤c∧Kd.C Kd.string w' A (needV p).length (needV p)∧Below w.heap.size w w'):=
 (ergolaw16_needs.calls 2000000 p.f0 p.f1.f0 A1 c1 p.f1.f1 p.f2 p.f3.f0 p.f3.f1 p.f3.f2 p.f4.f0 p.f4.f1 p.f4.f2 p.f5 p.f6.f0.f0 p.f6.f0.f1 p.f6.f0.f2 p.f6.f1 A2 c2 p.f6.f2 _ w h1 l1 h2 l2 (needs_is hp)).mono fun e w' h=>by
  obtain ⟨v,rfl,hR,hb⟩:=h
  obtain ⟨A,c,rfl,hl,hC⟩:=Kd.R_reads hR
  exact ⟨A,c,rfl,hl,hC,hb⟩
def seenL (n:Nat) (S:List Nat):List Bool:=(List.range n).map fun i=>S.contains i
theorem seenL_len (n:Nat) (S:List Nat):(seenL n S).length=n:=by unfold seenL;simp
theorem seenL_at {n i:Nat} (S:List Nat) (h:i<n):rdOf false (seenL n S) (i:Int)=S.contains i:=by
 unfold rdOf seenL
 rw [Int.toNat_natCast,List.getD_eq_getElem?_getD,List.getElem?_map,List.getElem?_range h]
 rfl
theorem seenL_set {n i:Nat} (S:List Nat) (h:i<n):(seenL n S).set i true=seenL n (S++[i]):=by
 apply List.ext_getElem?
 intro j
 rw [List.getElem?_set,seenL_len]
 unfold seenL
 by_cases e:i=j
 ·subst e
  rw [if_pos rfl,if_pos h,List.getElem?_map,List.getElem?_range h]
  simp
 ·rw [if_neg e]
  by_cases hj:j<n
  ·rw [List.getElem?_map, List.getElem?_map, List.getElem?_range hj]
   have h1:(j==i)=false:=by simpa using fun h=>e h.symm
   simp [h1]
   omega
  ·rw [List.getElem?_map, List.getElem?_map, List.getElem?_eq_none (by simpa using hj)]; rfl
structure EvOk (w:World) (n:Nat) (S:List Nat) (K:List ByteArray) (v6:Value) (g7 c7:Nat) (wr:World):Prop where
 be:Below w.heap.size w wr
 kn:Kd.R Kd.string 9 wr w.heap.size (fun _=>True) v6 K
 se:Kd.R Kd.bool 4 wr w.heap.size (fun _=>True) (.slice (some ⟨g7,0,none⟩) n c7) (seenL n S)
section
variable {w:World} {n:Nat} {S:List Nat} {K:List ByteArray} {v6:Value} {g7 c7:Nat} {wr w':World}
theorem EvOk.below (h:EvOk w n S K v6 g7 c7 wr) (hb:Below wr.heap.size wr w'):EvOk w n S K v6 g7 c7 w':=⟨lT_ h.be hb,Kd.R_below h.kn hb,Kd.R_below h.se hb⟩
theorem EvOk.cell (h:EvOk w n S K v6 g7 c7 wr) {i:Nat} (hi:i<n):wr.cell? ⟨g7,i,none⟩=some (.bool (S.contains i))∧wr.frozen? ⟨g7,i,none⟩=false:=by
 have hs:=h.se
 have:=Kd.R_celln false hs (i:Int) (by omega) (by omega)
 rw [Int.toNat_natCast,seenL_at S hi] at this
 exact this
theorem EvOk.set (h:EvOk w n S K v6 g7 c7 wr) {i:Nat} (hi:i<n):EvOk w n (S++[i]) K v6 g7 c7 (wr.setCell ⟨g7,i,none⟩ (.bool true)):=by
 have hp:=Kd.R_putn h.se (i:Int) true
 rw [Int.toNat_natCast,seenL_set S hi] at hp
 have hS:Fr (fun k=>k=g7) wr (wr.setCell ⟨g7,i,none⟩ (.bool true)):=Fr.setCell wr ⟨g7,i,none⟩ _
 have hb:=Kd.R_base h.se g7 rfl
 obtain ⟨cells,ht⟩:=Kd.R_typed h.se g7 rfl
 refine ⟨h.be.trans (hS.below h.be.size (fun k e=>by omega)),?_,hp⟩
 have hne:=Kd.R_ne h.kn ht (by decide)
 refine Kd.R_reok (ok1:=fun k=>some k=v6.ownBlock) rfl (Kd.R_step (Kd.R_tight2 rfl h.kn|>fun q=>Kd.R_mono q (fun k hk=>hk.1)) (fun k hk hlt=>hS.block k hlt (fun e=>hne (by rw [←hk,e])))) (fun _ _=>trivial)
theorem EvOk.app (h:EvOk w n S K v6 g7 c7 wr) {v':Value} {K':List ByteArray} (hR:Kd.R Kd.string 9 w' w.heap.size (fun _=>True) v' K') (hB:Below w.heap.size w w') (hg:wr.grownBy w' v6.ownBlock):EvOk w n S K' v' g7 c7 w':=by
 refine ⟨hB,hR,?_⟩
 obtain ⟨cells,ht⟩:=Kd.R_typed h.se g7 rfl
 have hne:=Kd.R_ne h.kn ht (by decide)
 exact Kd.R_grown1 h.se rfl hg (fun e=>hne (by rw [e];rfl))
end
theorem at_out {w:World} {A:Option Addr} {n:Nat} {out:List Nat} (h:Kd.C (Kd.int .i64) w A n (out.map fun (i:Nat)=>(i:Int))) (j:Nat) (hj:j<n):∃ad x,A=some ad∧out[j]? =some x∧w.cell? (ad.add j)=some (.int .i64 (x:Int)):=by
 have hl:=Kd.C_len h
 rw [List.length_map] at hl
 obtain ⟨ad,e,hc⟩:=Kd.at_int h (j:Int) (by omega) (by omega)
 have hx:out[j]? =some out[j]:=List.getElem?_eq_getElem (by omega)
 refine ⟨ad,out[j],e,hx,?_⟩
 rw [Int.toNat_natCast] at hc
 rw [hc]
 congr 2
 unfold rd
 rw [Int.toNat_natCast,List.getD_eq_getElem?_getD,List.getElem?_map,hx]
 rfl
theorem evcap {ps:List SfP} (h:∀p∈ps,PGood p) {out:List Nat} {n:Nat} (ho:out.length≤n) (hn:n≤8) {p:SfP} (hp:PGood p):((knownOf (entsOf ps) out).length+(partV p).length)*16≤140737488355328∧(knownOf (entsOf ps) out).length≤1000000:=by
 have h1:=knownOf_len (entsOf_len h) out
 have h2:=hp.lv
 have h3:(knownOf (entsOf ps) out).length≤800000:=Nat.le_trans h1 (by omega)
 exact ⟨by omega,by omega⟩
theorem evcap2 {ps:List SfP} (h:∀p∈ps,PGood p) {out:List Nat} {n:Nat} (ho:out.length≤n) (hn:n≤8):(knownOf (entsOf ps) out).length≤1000000:=by
 have h1:=knownOf_len (entsOf_len h) out
 exact Nat.le_trans h1 (by omega)
structure EvPre (w:World) (v6:Value) (g7 c7 i:Nat) (wr:World):Prop where
 be:Below w.heap.size w wr
 kn:Kd.R Kd.string 9 wr w.heap.size (fun _=>True) v6 []
 se:wr.ownsRow w.heap.size 4 1 (.slice (some ⟨g7,0,none⟩) i c7) i (List.replicate i (.bool false))
theorem EvPre.start (w:World):EvPre w (.slice (some ⟨w.heap.size,0,none⟩) 0 0) (w.heap.size+1) 0 0 ((w.alloc (.cells #[] 9)).alloc (.cells #[] 4)):=by
 have s1:(w.alloc (.cells #[] 9)).heap.size=w.heap.size+1:=by simp
 have b1:Below w.heap.size w (w.alloc (.cells #[] 9)):=(Below.refl _ _).alloc (Nat.le_refl _) _
 have r1:Kd.R Kd.string 9 (w.alloc (.cells #[] 9)) w.heap.size (fun _=>True) (.slice (some ⟨w.heap.size,0,none⟩) 0 0) []:=⟨fun _ _=>trivial,[],Go.Proofs.YtjlnpdpkobpkiaaGreatDoor.own_lit0 _ _ _ (Nat.le_refl _),rfl,fun j p hj=>by simp at hj⟩
 have o1:=Go.Proofs.YtjlnpdpkobpkiaaGreatDoor.own_lit0 (base:=w.heap.size) (w.alloc (.cells #[] 9)) 4 1 (by omega)
 rw [s1] at o1
 exact ⟨lA_ b1 _,Kd.R_alloc r1 _,o1⟩
theorem EvPre.app {w:World} {v6:Value} {g7 c7 i:Nat} {wr w':World} (h:EvPre w v6 g7 c7 i wr) {g8 c8:Nat} (hown:w'.ownsRow w.heap.size 4 1 (.slice (some ⟨g8,0,none⟩) (i+1) c8) (i+1) (List.replicate i (.bool false)++[.bool false])) (hg:wr.grownBy w' (Value.slice (some ⟨g7,0,none⟩) i c7).ownBlock):EvPre w v6 g8 c8 (i+1) w':=by
 have hS:=Fr.grown hg
 have ho:∀k,(Value.slice (some ⟨g7,0,none⟩) i c7).ownBlock=some k→w.heap.size≤k:=fun k hk=>(Go.Proofs.YtjlnpdpkobpkiaaGreatDoor.own_lt h.se k hk).2
 obtain ⟨cur,hcur⟩:=Go.Proofs.YtjlnpdpkobpkiaaGreatDoor.own_blk h.se (k:=g7) rfl
 refine ⟨h.be.trans (hS.below h.be.size (fun k e=>ho k e)),Kd.R_grown1 h.kn rfl hg (Kd.R_ne h.kn hcur (by decide)),?_⟩
 rwa [←List.replicate_succ'] at hown
end Go.Proofs.YtjlnpdpkobpkiaaGreatDoorPSP
set_option linter.unusedVariables false
set_option linter.unusedSimpArgs false
namespace Go.Proofs.YtjlnpdpkobpkiaaGreatDoorPSP
open Go.RowKit Go.Extern.Stop Go.Stop Go.Extern Go.Proofs.YtjlnpdpkobpkiaaGreatDoorW.PrintWords Go.Proofs.YtjlnpdpkobpkiaaGreatDoorW.PrintLast Go.Proofs.YtjlnpdpkobpkiaaGreatDoor
abbrev ints (l:List Nat):List Int:=l.map fun (i:Nat)=>(i:Int)
structure LoOk (W:World) (L:List Nat) (K:List ByteArray) (out:List Nat) (v5 v7 v8:Value) (wr:World):Prop where
 be:Below W.heap.size W wr
 lf:Kd.R (Kd.int .i64) 3 wr W.heap.size (fun _=>True) v5 (ints L)
 kn:Kd.R Kd.string 9 wr W.heap.size (fun _=>True) v7 K
 ou:Kd.R (Kd.int .i64) 3 wr W.heap.size (fun _=>True) v8 (ints out)
 s7:∃g,v7.ownBlock=some g
 s8:∃g,v8.ownBlock=some g
 ne:v8.ownBlock≠v5.ownBlock
section
variable {W:World} {L out:List Nat} {K:List ByteArray} {v5 v7 v8:Value} {wr w':World}
theorem LoOk.below (h:LoOk W L K out v5 v7 v8 wr) (hb:Below wr.heap.size wr w'):LoOk W L K out v5 v7 v8 w':=
 ⟨lT_ h.be hb,Kd.R_below h.lf hb,Kd.R_below h.kn hb,Kd.R_below h.ou hb,h.s7,h.s8,h.ne⟩
theorem LoOk.appO (h:LoOk W L K out v5 v7 v8 wr) {x:Nat} {v1:Value} (hR:Kd.R (Kd.int .i64) 3 w' W.heap.size (fun _=>True) v1 (ints out++[(x:Int)])) (hB:Below W.heap.size W w') (hg:wr.grownBy w' v8.ownBlock) (hat:v1.ownBlock=v8.ownBlock∨∃b,v1.ownBlock=some b∧wr.heap.size≤b):
  LoOk W L K (out++[x]) v5 v7 v1 w':=by
 obtain ⟨g8,e8⟩:=h.s8
 obtain ⟨cells,ht⟩:=Kd.R_typed h.ou g8 e8
 refine ⟨hB,Kd.R_grown1 h.lf rfl hg h.ne,Kd.R_grown1 h.kn rfl hg (by rw [e8];exact Kd.R_ne h.kn ht (by decide)),by unfold ints at hR ⊢;rw [List.map_append];exact hR,h.s7,?_,?_⟩
 ·rcases hat with hat | ⟨b, hb, _⟩
  ·exact ⟨g8, hat.trans e8⟩
  ·exact ⟨b, hb⟩
 ·rcases hat with hat | ⟨b, hb, hle⟩
  ·rw [hat]; exact h.ne
  ·intro e
   have:=Kd.R_lt h.lf b (by rw [←e,hb])
   omega
theorem LoOk.appK (h:LoOk W L K out v5 v7 v8 wr) {K':List ByteArray} {v1:Value} (hR:Kd.R Kd.string 9 w' W.heap.size (fun _=>True) v1 K') (hB:Below W.heap.size W w') (hg:wr.grownBy w' v7.ownBlock) (hat:v1.ownBlock=v7.ownBlock∨∃b,v1.ownBlock=some b∧wr.heap.size≤b):
  LoOk W L K' out v5 v1 v8 w':=by
 obtain ⟨g7,e7⟩:=h.s7
 obtain ⟨cells,ht⟩:=Kd.R_typed h.kn g7 e7
 refine ⟨hB,Kd.R_grown1 h.lf rfl hg (by rw [e7];exact Kd.R_ne h.lf ht (by decide)),hR,Kd.R_grown1 h.ou rfl hg (by rw [e7];exact Kd.R_ne h.ou ht (by decide)),?_,h.s8,h.ne⟩
 rcases hat with hat|⟨b,hb,_⟩
 ·exact ⟨g7, hat.trans e7⟩
 ·exact ⟨b, hb⟩
theorem LoOk.newL (h:LoOk W L K out v5 v7 v8 wr) {L':List Nat} {v1:Value} (hb:Below wr.heap.size wr w') (hR:Kd.R (Kd.int .i64) 3 w' W.heap.size (fun _=>True) v1 (ints L')) (hf:∃b,v1.ownBlock=some b∧wr.heap.size≤b):LoOk W L' K out v1 v7 v8 w':=by
 refine ⟨lT_ h.be hb,hR,Kd.R_below h.kn hb,Kd.R_below h.ou hb,h.s7,h.s8,fun e=> ?_⟩
 obtain ⟨b,hb1,hle⟩:=hf
 have:=Kd.R_lt h.ou b (by rw [e,hb1])
 omega
end
theorem LoOk.start {W wr:World} {L:List Nat} {v5:Value} (hB:Below W.heap.size W wr) (hR:Kd.R (Kd.int .i64) 3 wr W.heap.size (fun _=>True) v5 (ints L)) (hs:W.heap.size≤wr.heap.size):
  LoOk W L [] [] v5 (.slice (some ⟨wr.heap.size,0,none⟩) 0 0) (.slice (some ⟨wr.heap.size+1,0,none⟩) 0 0) ((wr.alloc (.cells #[] 9)).alloc (.cells #[] 3)):=by
 have s1:(wr.alloc (.cells #[] 9)).heap.size=wr.heap.size+1:=by simp
 have b1:Below wr.heap.size wr (wr.alloc (.cells #[] 9)):=(Below.refl _ _).alloc (Nat.le_refl _) _
 have b2:Below wr.heap.size wr ((wr.alloc (.cells #[] 9)).alloc (.cells #[] 3)):=lA_ b1 _
 have r1:Kd.R Kd.string 9 (wr.alloc (.cells #[] 9)) W.heap.size (fun _=>True) (.slice (some ⟨wr.heap.size,0,none⟩) 0 0) []:=⟨fun _ _=>trivial,[],Go.Proofs.YtjlnpdpkobpkiaaGreatDoor.own_lit0 _ _ _ hs,rfl,fun j p hj=>by simp at hj⟩
 have r2:Kd.R (Kd.int .i64) 3 ((wr.alloc (.cells #[] 9)).alloc (.cells #[] 3)) W.heap.size (fun _=>True) (.slice (some ⟨wr.heap.size+1,0,none⟩) 0 0) (ints []):=by
  refine ⟨fun _ _=>trivial,[],?_,rfl,fun j p hj=>by simp at hj⟩
  have:=Go.Proofs.YtjlnpdpkobpkiaaGreatDoor.own_lit0 (base:=W.heap.size) (wr.alloc (.cells #[] 9)) 3 1 (by omega)
  rw [s1] at this
  exact this
 refine ⟨lT_ hB b2,Kd.R_below hR b2,Kd.R_alloc r1 _,r2,⟨_,rfl⟩,⟨_,rfl⟩,fun e=> ?_⟩
 have:=Kd.R_lt hR (wr.heap.size+1) (by rw [←e];rfl)
 omega
def LwPost (w:World) (r:Except (Nat×ByteArray) (List Nat)) (e:Ending) (w':World):Prop:=match r with
 | .ok out=>∃(A:Option Addr) (c:Nat),e= .returned (.tuple #[.slice A out.length c,.int .i64 (-1),.string ⟨#[]⟩])∧out.length≤c∧(Kd.int .i64).C w' A out.length (out.map fun (i:Nat)=>(i:Int))∧Below w.heap.size w w'
 | .error (p,v)=>e= .returned (.tuple #[.slice none 0 0,.int .i64 (p:Int),.string v])∧Below w.heap.size w w'
theorem lack16_any {wr:World} {W:World} {L out:List Nat} {K:List ByteArray} {v5 v8:Value} {A7:Option Addr} {m7 c7:Nat} (h:LoOk W L K out v5 (.slice A7 m7 c7) v8 wr) (hk:K.length≤1000000) {w':World} (hb:Below wr.heap.size wr w') {A:Option Addr} {n c:Nat} {l:List ByteArray} (hC:Kd.C Kd.string w' A n l) (hn:n=l.length) (hl:n≤c) (hm:l.length≤1000000):
  Calls Tryz.prog 34 #[.slice A7 m7 c7,.slice A n c] w' (RetB w' (.string (lackL K l))):=by
 subst hn
 have hR:=Kd.R_reads' (Kd.R_below h.kn hb)
 obtain ⟨e1,e2,e3⟩:=hR
 subst e1
 exact (ergolaw16_lacks.calls 3000000 A7 c7 K A c l (lackL K l) w' e3 e2 hC hl (lacks_is _ _ hk hm)).mono fun e w2 h=>by
  obtain ⟨rfl,hd⟩:=h
  exact ⟨rfl,hd.below⟩
end Go.Proofs.YtjlnpdpkobpkiaaGreatDoorPSP
set_option linter.unusedVariables false
set_option linter.unusedSimpArgs false
namespace Go.Proofs.YtjlnpdpkobpkiaaGreatDoorPSP
open Go.RowKit Go.Extern.Stop Go.Stop Go.Extern Go.Proofs.YtjlnpdpkobpkiaaGreatDoorW.PrintWords Go.Proofs.YtjlnpdpkobpkiaaGreatDoorW.PrintLast Go.Proofs.YtjlnpdpkobpkiaaGreatDoor
structure PreOk (W:World) (i:Nat) (v5:Value) (wr:World):Prop where
 be:Below W.heap.size W wr
 lf:Kd.R (Kd.int .i64) 3 wr W.heap.size (fun _=>True) v5 (ints (List.range i))
theorem PreOk.start (W:World):PreOk W 0 (.slice (some ⟨W.heap.size,0,none⟩) 0 0) (W.alloc (.cells #[] 3)):=
 ⟨(Below.refl _ _).alloc (Nat.le_refl _) _,fun _ _=>trivial,[],Go.Proofs.YtjlnpdpkobpkiaaGreatDoor.own_lit0 _ _ _ (Nat.le_refl _),rfl,fun j p hj=>by simp at hj⟩
theorem ints_range (i:Nat):ints (List.range i)++[(i:Int)]=ints (List.range (i+1)):=by
 unfold ints
 rw [List.range_succ,List.map_append]
 rfl
theorem keepc {w w':World} (hb:Below w.heap.size w w') {p:Addr} {v:Value} (h:w.cell? p=some v):w'.cell? p=some v:=(hb.cell (World.block_lt_of_cell? w _ h)).trans h
theorem ints_len (l:List Nat):(ints l).length=l.length:=by unfold ints;rw [List.length_map]
theorem ints_app (a b:List Nat):ints (a++b)=ints a++ints b:=by unfold ints;rw [List.map_append]
theorem ints_take (l:List Nat) (k:Nat):(ints l).take k=ints (l.take k):=by unfold ints;rw [List.map_take]
theorem ints_drop (l:List Nat) (k:Nat):(ints l).drop k=ints (l.drop k):=by unfold ints;rw [List.map_drop]
theorem lo_app {w Y w':World} {v v1:Value} (hY:Below w.heap.size w Y) (hv:∃b,v.ownBlock=some b∧w.heap.size≤b) (hg:Y.grownBy w' v.ownBlock) (hat:v1.ownBlock=v.ownBlock∨∃b,v1.ownBlock=some b∧Y.heap.size≤b):
  Below w.heap.size w w'∧∃b,v1.ownBlock=some b∧w.heap.size≤b:=by
 obtain ⟨b,hb,hle⟩:=hv
 have hS:=Fr.grown hg
 refine ⟨hY.trans (hS.below hY.size (fun i e=> ?_)),?_⟩
 ·rw [hb] at e
  injection e with e
  omega
 ·rcases hat with hat | ⟨c, hc, hcl⟩
  ·exact ⟨b, hat.trans hb, hle⟩
  ·exact ⟨c, hc, Nat.le_trans hY.size hcl⟩
theorem nil_empty:(⟨#[]⟩:ByteArray).toList.isEmpty=true:=by rw [ByteArray.toList_eq];rfl
theorem lackB_of {E:Ents} {out:List Nat} {x:Nat} {l:List ByteArray} {lv:ByteArray} {b:Bool} (hnd:E.nd x=l) (hlv:lv=lackL (knownOf E out) l) (hb:lv.toList.isEmpty=b):lackB E out x=b:=by
 unfold lackB
 rw [hnd,←hlv]
 by_cases h:lv.size=0
 ·obtain rfl := bytes_nil h
  rw [←hb,nil_empty]
  rfl
 ·rw [← hb, ne_isEmpty h]
  simpa using h
set_option maxHeartbeats 8000000 in
set_option maxRecDepth 100000 in
theorem LwOrder_any (s:ByteArray) (ts:List S98) (g:Int) (ps:List SfP) (at_:Int) (hps:∀p∈ps,PGood p) (hh:avF s ts=some (headV s ts)) (hhl:(headV s ts).length≤100000) (hn:ps.length≤8)
  {w:World} {A1 A3:Option Addr} {c1 c3:Nat} (g1:Kd.C k98 w A1 ts.length ts) (l1:ts.length≤c1) (g3:Kd.C k106 w A3 ps.length ps) (l3:ps.length≤c3):
  Calls Tryz.prog 10 #[.agg #[.string s,.slice A1 ts.length c1,.int .i64 g,.slice A3 ps.length c3,.int .i64 at_]] w (LwPost w (orderP (entsOf ps) (headV s ts))):=by
 have HP:=hid hps
 have HH:=hid hh
 have HL:=hid hhl
 have HR0:=hid (restP_nil (entsOf ps) (headV s ts))
 obtain ⟨hv,hhv⟩:∃hv,hv=headV s ts:=⟨_,rfl⟩
 obtain ⟨n,hnl⟩:∃n,n=ps.length:=⟨_,rfl⟩
 rw [←hnl] at hn g3 l3 ⊢
 rw [←hhv] at HH HL HR0 ⊢
 have HN:=hid hnl
 have HNL:=hid hn
 have L1:=hid l1
 have L3:=hid l3
 have X0:Hid (Below w.heap.size w (w.alloc (.cells #[.string s,.slice A1 ts.length c1,.int .i64 g,.slice A3 n c3,.int .i64 at_] 37))):=hid ((Below.refl _ _).alloc (Nat.le_refl _) _)
 have K0:Hid ((w.alloc (.cells #[.string s,.slice A1 ts.length c1,.int .i64 g,.slice A3 n c3,.int .i64 at_] 37)).heap[w.heap.size]? =some (.cells #[.string s,.slice A1 ts.length c1,.int .i64 g,.slice A3 n c3,.int .i64 at_] 37 (0,0))):=hid (heap_alloc_new w _)
 have G1:=hid (Kd.C_below g1 X0.out)
 have G3:=hid (Kd.C_below g3 X0.out)
 clear hps hh hhl hn g1 g3 l1 l3 hhv hnl
 go_enter Tryz.func10,Tryz.ntmps10
 go_upto_region 1 with fail
 generalize w.alloc (.cells #[.string s,.slice A1 ts.length c1,.int .i64 g,.slice A3 n c3,.int .i64 at_] 37)=W at X0 K0 G1 G3 ⊢
 generalize w.heap.size=b3 at K0 ⊢
 have b3lt:b3<W.heap.size:=Go.Proofs.YtjlnpdpkobpkiaaGreatDoor.blk_lt K0.out
 have e3:W.cell? ⟨b3,3,none⟩=some (.slice A3 n c3):=(bC K0.out 3).trans rfl
 have V0:=hid (PreOk.start W)
 go_wp2
 clear e3 b3lt
 go_loopg [5,15] (n+1) (fun gk v5 v15 wr=>∃(i:Nat) (A5:Option Addr) (m5 c5:Nat),v5= .slice A5 m5 c5∧v15= .int .i64 (i:Int)∧Hid (i≤n)∧Hid (n-i<gk)∧Hid (PreOk W i (.slice A5 m5 c5) wr))
 case atStart=>exact ⟨0,_,_,_,rfl,rfl,hid (Nat.zero_le _),hid (Nat.lt_succ_of_le (Nat.sub_le n 0)),V0⟩
 case round=>
  clear V0
  obtain ⟨i,A5,m5,c5,rfl,rfl,HI,HGK,V⟩:=hrel
  obtain ⟨wo,rfl⟩:∃y:World,y=wr:=⟨_,rfl⟩
  by_cases hi:i<n
  ·have hi2 := sflt hi
   have w1i:=sfw2 hi (Nat.le_trans HNL.out (by decide))
   have HIL:=hid hi
   have hcap:((ints (List.range i)).length+1)*8≤140737488355328:=by have:=HNL.out;rw [ints_len,List.length_range];omega
   clear hi
   go_wp2_with (at_builtin;go_must (refine Kd.R_append (Kd.int .i64) (w0:=W) W.heap.size rfl _ _ 39 3 (.int .i64 0) 8 rfl Tryz.underlying39 sfinfo rfl (by decide) (by decide) (.slice A5 m5 c5) (ints (List.range i)) (i:Int) [.int .i64 (i:Int)] (fun _=>True) (fun _=>False) rfl rfl rfl (fun _ h=>h.elim) (fun _ _=>trivial) V.out.lf V.out.be V.out.be.size hcap ?_);intro v9 w9 hR9 hB9 hg9 hat9;have V9:Hid (PreOk W (i+1) v9 w9):=hid ⟨hB9,by rw [←ints_range];exact hR9⟩;clear hR9 hB9 hg9 hat9)
   obtain ⟨A9,c9,rfl⟩:=Kd.R_slice V9.out.lf
   go_roundg (n-i)
   case measure=>exact HGK.out
   case rel=>exact ⟨i+1,A9,_,c9,rfl,by first|rfl|(rw [w1i];done)|(simp [w1i];done),hid HIL.out,hid (sfmeas HGK.out HIL.out),V9⟩
  ·obtain rfl : n = i := Nat.le_antisymm (Nat.not_lt.1 hi) HI.out
   obtain rfl:n=m5:=by have:=(Kd.R_reads' V.out.lf).1;rw [ints_len,List.length_range] at this;exact this.symm
   have V2:=hid (LoOk.start V.out.be V.out.lf V.out.be.size)
   clear hi V
   go_wp2
   go_loopg [5,7,8] (n+1) (fun gk v5 v7 v8 wr=>∃(out:List Nat) (A5:Option Addr) (m5 d5:Nat) (A7:Option Addr) (m7 d7:Nat) (A8:Option Addr) (m8 d8:Nat),v5= .slice A5 m5 d5∧v7= .slice A7 m7 d7∧v8= .slice A8 m8 d8∧Hid (out.length+(leftL (entsOf ps).n out).length=n)∧Hid (m5<gk)∧Hid (restP (entsOf ps) hv out=orderP (entsOf ps) hv)∧Hid (LoOk W (leftL (entsOf ps).n out) (knownOf (entsOf ps) out) out (.slice A5 m5 d5) (.slice A7 m7 d7) (.slice A8 m8 d8) wr))
   case atStart=>
    have hEn:(entsOf ps).n=n:=HN.out.symm
    refine ⟨[],A5,_,c5,_,_,_,_,_,_,rfl,rfl,rfl,hid ?_,hid (Nat.lt_succ_self _),HR0,?_⟩
    ·rw [leftL_nil, List.length_range, hEn]; simp
    ·rw [leftL_nil, hEn]; exact V2
   case round=>
    clear V2 HR0
    obtain ⟨out,A5,m5,d5,A7,m7,d7,A8,m8,d8,rfl,rfl,rfl,HLN,HG5,HR,V⟩:=hrel
    obtain ⟨wo,rfl⟩:∃y:World,y=wr:=⟨_,rfl⟩
    obtain ⟨L,hL⟩:∃L,L=leftL (entsOf ps).n out:=⟨_,rfl⟩
    rw [←hL] at HLN V
    have HLe:=hid hL
    have hm5:m5=L.length:=by have:=(Kd.R_reads' V.out.lf).1;rw [ints_len] at this;exact this
    have HM5:=hid hm5
    have HKl:=hid (evcap2 (out:=out) HP.out (by have:=HLN.out;omega:out.length≤n) HNL.out)
    clear hL hm5
    by_cases h0:0<m5
    ·have h02 : (0 : Int) < (m5 : Int) := by omega
     have hd0:decide (0<m5)=true:=decide_eq_true h0
     have H0:=hid h0
     clear h0
     go_wp2
     clear hd0
     go_loopg [9] (m5+1) (fun gk9 v9 wr=>∃(k:Nat),v9= .int .i64 (k:Int)∧Hid (k≤m5)∧Hid (m5-k<gk9)∧Hid (∀j y,j<k→L[j]? =some y→lackB (entsOf ps) out y=false)∧Hid (LoOk W L (knownOf (entsOf ps) out) out (.slice A5 m5 d5) (.slice A7 m7 d7) (.slice A8 m8 d8) wr))
     case atStart=>exact ⟨0,rfl,hid (Nat.zero_le _),hid (by omega),hid (fun j y hj=>absurd hj (Nat.not_lt_zero _)),V⟩
     case round=>
      clear V
      obtain ⟨k,rfl,HK,HG9,HNo,V⟩:=hrel
      obtain ⟨wi,rfl⟩:∃y:World,y=wr:=⟨_,rfl⟩
      have e3:wi.cell? ⟨b3,3,none⟩=some (.slice A3 n c3):=(bC (bB K0.out V.out.be) 3).trans rfl
      by_cases hk:k<m5
      ·have hlfC := (Kd.R_reads' V.out.lf).2.2
       rw [ints_len] at hlfC
       obtain ⟨ad5,x,rfl,hx,cL⟩:=at_out hlfC k (by rw [←HM5.out];exact hk)
       have hxn:x<n:=by
        have:=(leftL_mem (by rw [←HLe.out];exact List.mem_of_getElem? hx)).1
        exact Nat.lt_of_lt_of_eq this HN.out.symm
       obtain ⟨p,ad,Q1,q1,Q2,q2,rfl,hp,hnd,hvs,h0,h1,h2,h3,h4,h5,h6,h7,h8,h9,h10,h11,h12,h13,h14,h15,l1,k1,l2,k2⟩:=sf_at HP.out (Kd.C_below G3.out V.out.be) HN.out x hxn
       have HX:=hid hx
       have HXN:=hid hxn
       have HKM:=hid hk
       have HND:=hid hnd
       have HQ:=hid hp
       have hk2:=sflt hk
       have hk3:decide ((k:Int)<(m5:Int))=true:=decide_eq_true hk2
       have hk4:(0:Int)≤(k:Int):=Int.natCast_nonneg k
       have hx0:(0:Int)≤(x:Int):=Int.natCast_nonneg x
       have hx2:=sflt hxn
       have HNd:=hid (fun Y (hV:Below wi.heap.size wi Y)=>needs16_any hp (Kd.C_below k1 hV) l1 (Kd.C_below k2 hV) l2)
       have HKn:=hid (fun Y (hV:Below wi.heap.size wi Y) A nn cc (hC:Kd.C Kd.string Y A nn (needV p)) (hnn:nn=(needV p).length) (hcc:nn≤cc)=>lack16_any V.out HKl.out hV hC hnn hcc (Nat.le_trans HQ.out.ln (by decide)))
       obtain ⟨lv,hlv⟩:∃lv,lv=lackL (knownOf (entsOf ps) out) (needV p):=⟨_,rfl⟩
       rw [←hlv] at HKn
       have HLV:=hid hlv
       obtain ⟨bz,hbz⟩:∃b,lv.toList.isEmpty=b:=⟨_,rfl⟩
       have HBZ:=hid hbz
       have B0:Below wi.heap.size wi wi.drew:=below_drew (Below.refl _ _)
       clear hlfC hx hxn hp hnd hvs l1 k1 l2 k2 hlv hk
       go_wp2_with fail
       go_region_held3 (fun V=>V.cell? ⟨b3,3,none⟩=some (.slice (some ad) n c3)∧V.cell? (ad5.add k)=some (.int .i64 (x:Int))∧V.cell? (ad.add (x*16))=some (.int .i64 p.f0)∧V.cell? ⟨(ad.add (x*16)).block,(ad.add (x*16)).off+1,none⟩=some (.string p.f1.f0)∧V.cell? ⟨(ad.add (x*16)).block,(ad.add (x*16)).off+2,none⟩=some (.slice Q1 p.f1.f1.length q1)∧V.cell? ⟨(ad.add (x*16)).block,(ad.add (x*16)).off+3,none⟩=some (.int .i64 p.f2)∧V.cell? ⟨(ad.add (x*16)).block,(ad.add (x*16)).off+4,none⟩=some (.int .i64 p.f3.f0)∧V.cell? ⟨(ad.add (x*16)).block,(ad.add (x*16)).off+5,none⟩=some (.string p.f3.f1)∧V.cell? ⟨(ad.add (x*16)).block,(ad.add (x*16)).off+6,none⟩=some (.int .i64 p.f3.f2)∧V.cell? ⟨(ad.add (x*16)).block,(ad.add (x*16)).off+7,none⟩=some (.int .i64 p.f4.f0)∧V.cell? ⟨(ad.add (x*16)).block,(ad.add (x*16)).off+8,none⟩=some (.string p.f4.f1)∧V.cell? ⟨(ad.add (x*16)).block,(ad.add (x*16)).off+9,none⟩=some (.int .i64 p.f4.f2)∧V.cell? ⟨(ad.add (x*16)).block,(ad.add (x*16)).off+10,none⟩=some (.string p.f5)∧V.cell? ⟨(ad.add (x*16)).block,(ad.add (x*16)).off+11,none⟩=some (.int .i64 p.f6.f0.f0)∧V.cell? ⟨(ad.add (x*16)).block,(ad.add (x*16)).off+12,none⟩=some (.string p.f6.f0.f1)∧V.cell? ⟨(ad.add (x*16)).block,(ad.add (x*16)).off+13,none⟩=some (.int .i64 p.f6.f0.f2)∧V.cell? ⟨(ad.add (x*16)).block,(ad.add (x*16)).off+14,none⟩=some (.int .i64 p.f6.f1)∧V.cell? ⟨(ad.add (x*16)).block,(ad.add (x*16)).off+15,none⟩=some (.slice Q2 p.f6.f2.length q2))
        (first
         |(exact ⟨keepc B0 e3,keepc B0 cL,keepc B0 h0,keepc B0 h1,keepc B0 h2,keepc B0 h3,keepc B0 h4,keepc B0 h5,keepc B0 h6,keepc B0 h7,keepc B0 h8,keepc B0 h9,keepc B0 h10,keepc B0 h11,keepc B0 h12,keepc B0 h13,keepc B0 h14,keepc B0 h15⟩)
         |(exact ⟨keepc B2 e3,keepc B2 cL,keepc B2 h0,keepc B2 h1,keepc B2 h2,keepc B2 h3,keepc B2 h4,keepc B2 h5,keepc B2 h6,keepc B2 h7,keepc B2 h8,keepc B2 h9,keepc B2 h10,keepc B2 h11,keepc B2 h12,keepc B2 h13,keepc B2 h14,keepc B2 h15⟩)
         |(exact ⟨keepc B1 e3,keepc B1 cL,keepc B1 h0,keepc B1 h1,keepc B1 h2,keepc B1 h3,keepc B1 h4,keepc B1 h5,keepc B1 h6,keepc B1 h7,keepc B1 h8,keepc B1 h9,keepc B1 h10,keepc B1 h11,keepc B1 h12,keepc B1 h13,keepc B1 h14,keepc B1 h15⟩))
        (first
         |(go_at_call 35;refine (HNd.out _ B0).mono ?_;rintro e w6 ⟨N1,nq,rfl,hlq,hC,hb6⟩;have B1:Below wi.heap.size wi w6:=lT_ B0 hb6)
         |(go_at_call 34;refine (HKn.out _ B1 _ _ _ hC rfl hlq).mono ?_;rintro e w7 ⟨rfl,hb7⟩;have B2:Below wi.heap.size wi w7:=lT_ B1 hb7))
       have V7:=hid (V.out.below B2)
       have HLB:=hid (lackB_of HND.out HLV.out HBZ.out)
       clear B0 B1 B2 e3 cL h0 h1 h2 h3 h4 h5 h6 h7 h8 h9 h10 h11 h12 h13 h14 h15 HNd HKn hC hlq hb6 hb7 V
       cases bz
       ·have w1k := sfw2 HKM.out (by have := HLN.out; have := HM5.out; have := HNL.out; omega)
        go_wp2
        go_roundg (m5-k)
        case measure=>exact HG9.out
        case rel=>
         refine ⟨k+1,by first|rfl|(rw [w1k];done)|(simp [w1k];done),hid HKM.out,hid (sfmeas HG9.out HKM.out),hid (fun j y hj hy=> ?_),V7⟩
         by_cases e:j<k
         ·exact HNo.out j y e hy
         ·obtain rfl : j = k := by omega
          rw [HX.out] at hy
          injection hy with hy
          subst hy
          exact HLB.out
       ·have hne : (((k : Int)) == (m5 : Int)) = false := beq_false_of_ne (by have := HKM.out; omega)
        go_upto_region 15 with fail
        have hlfC:=(Kd.R_reads' V7.out.lf).2.2
        rw [ints_len] at hlfC
        obtain ⟨ad5',x',hadd,hx',cL⟩:=at_out hlfC k (by rw [←HM5.out];exact HKM.out)
        cases hadd
        obtain rfl:x=x':=by have:=HX.out;rw [this] at hx';exact Option.some.inj hx'
        have hcap:((ints out).length+1)*8≤140737488355328:=by have h1:=HLN.out;have h2:=HNL.out;rw [ints_len];omega
        clear hlfC hx' hne
        go_wp2_with (at_builtin;go_must (refine Kd.R_append (Kd.int .i64) (w0:=W) W.heap.size rfl _ _ 39 3 (.int .i64 0) 8 rfl Tryz.underlying39 sfinfo rfl (by decide) (by decide) (.slice A8 m8 d8) (ints out) (x:Int) [.int .i64 (x:Int)] (fun _=>True) (fun _=>False) rfl rfl rfl (fun _ h=>h.elim) (fun _ _=>trivial) V7.out.ou V7.out.be V7.out.be.size hcap ?_);intro v9 w9 hR9 hB9 hg9 hat9;have V9:=hid (V7.out.appO hR9 hB9 hg9 hat9);clear hR9 hB9 hg9 hat9)
        clear cL hcap V7
        obtain ⟨A9,m9,c9,rfl⟩:∃A m c,v9= .slice A m c:=let ⟨A,c,e⟩:=Kd.R_slice V9.out.ou;⟨A,_,c,e⟩
        have e3:w9.cell? ⟨b3,3,none⟩=some (.slice (some ad) n c3):=(bC (bB K0.out V9.out.be) 3).trans rfl
        have hlfC:=(Kd.R_reads' V9.out.lf).2.2
        rw [ints_len] at hlfC
        obtain ⟨ad5',x',hadd,hx',cL⟩:=at_out hlfC k (by rw [←HM5.out];exact HKM.out)
        cases hadd
        obtain rfl:x=x':=by have:=HX.out;rw [this] at hx';exact Option.some.inj hx'
        obtain ⟨p',ad',Q1',q1',Q2',q2',hadd,hp',hnd',hvs',h0,h1,h2,h3,h4,h5,h6,h7,h8,h9,h10,h11,h12,h13,h14,h15,l1,k1,l2,k2⟩:=sf_at HP.out (Kd.C_below G3.out V9.out.be) HN.out x HXN.out
        cases hadd
        have HVc:=hid (fun Y (hV:Below w9.heap.size w9 Y)=>syntax_Part_Vars.calls 2000000 p'.f0 p'.f1.f0 Q1' q1' p'.f1.f1 p'.f2 p'.f3.f0 p'.f3.f1 p'.f3.f2 p'.f4.f0 p'.f4.f1 p'.f4.f2 p'.f5 p'.f6.f0.f0 p'.f6.f0.f1 p'.f6.f0.f2 p'.f6.f1 Q2' q2' p'.f6.f2 _ Y (Kd.C_below k1 hV) l1 (Kd.C_below k2 hV) l2 hp'.v)
        have HVS':=hid hvs'
        have HLen:=hid (evcap (out:=out) HP.out (by have:=HLN.out;omega:out.length≤n) HNL.out hp').1
        have hx0:(0:Int)≤(x:Int):=Int.natCast_nonneg x
        have hx2:=sflt HXN.out
        clear hlfC hx' hp' hnd' hvs' k1 k2 l1 l2
        have B0:Below w9.heap.size w9 w9.drew:=below_drew (Below.refl _ _)
        go_wp2_with fail
        go_region_law (first
         |(refine Kd.Rars Kd.string (w0:=W) W.heap.size (by rfl) (.tmp 72) (.tmp 81) 74 9 (.string ⟨#[]⟩) 16 rfl Tryz.underlying74 (by kernel_rfl) rfl (by decide) (by decide) (.slice A7 m7 d7) (knownOf (entsOf ps) out) (partV p') _ _ _ (fun _=>True) (fun _=>False) rfl rfl V10.out.kn (Kd.R_reads' R10.out).2.2 (fun _ _ h=>h) (fun _ h=>h.elim) (fun _ _=>trivial) V10.out.be V10.out.be.size HLen.out ?_;intro v11 w11 hR11 hB11 hg11 hat11;have V11:=hid (V10.out.appK hR11 hB11 hg11 hat11);clear hR11 hB11 hg11 hat11)
         |(go_simp;go_at_call 36;refine (HVc.out _ B0).mono ?_;rintro e w10 ⟨v10,rfl,hR10,hb10⟩;obtain ⟨A10,a10,rfl⟩:=Kd.R_slice hR10;have R10:=hid hR10;have V10:=hid (V9.out.below (lT_ B0 hb10));clear hR10 hb10))
        all_goals
         obtain ⟨A11,m11,c11,rfl⟩:∃A m c,v11= .slice A m c:=let ⟨A,c,e⟩:=Kd.R_slice V11.out.kn;⟨A,_,c,e⟩
         have w1k:=sfw2 HKM.out (by have:=HLN.out;have:=HM5.out;have:=HNL.out;omega)
         have w1k':IntKind.i64.wrap ((k:Int)+1)=((k+1:Nat):Int):=by have:=HLN.out;have:=HM5.out;have:=HNL.out;have:=HKM.out;rw [IntKind.wrap_i64];omega
         have hd5:=(Kd.R_reads' V11.out.lf).2.1
         have hkd:(k:Int)≤(d5:Int):=by have:=HKM.out;omega
         have hk1:((k+1:Nat):Int)≤(m5:Int):=by have:=HKM.out;omega
         have hmd:(m5:Int)≤(d5:Int):=by omega
         clear hd5
         have hlen:=HM5.out
         have hsm:(L.take k).length=k∧(L.drop (k+1)).length=m5-(k+1)∧m5≤8:=by have:=HLN.out;have:=HM5.out;have:=HNL.out;have:=HKM.out;rw [List.length_take,List.length_drop];omega
         have hlfC:=(Kd.R_reads' V11.out.lf).2.2
         have hlf0:=Kd.C_take (m:=k) hlfC (by rw [ints_len];have:=HKM.out;omega)
         have hlf1:=Kd.C_drop (m:=k+1) (c:=d5) hlfC (by rw [ints_len];have:=HKM.out;omega) (by rw [ints_len];omega)
         rw [ints_take,ints_len,hsm.1] at hlf0
         rw [ints_drop,ints_len,hsm.2.1] at hlf1
         obtain ⟨g5,e5⟩:=Kd.R_head V11.out.lf
         have ea:(some ad5).map (·.add ((k+1)*(Kd.int .i64).sz))=some ⟨ad5.block,ad5.off+(k+1),none⟩:=by
          rw [e5]
          show some (Addr.add ⟨g5,0,none⟩ ((k+1)*1))=_
          rw [Nat.mul_one,addr_add]
         rw [ea] at hlf1
         have hk0:(0:Int)≤(k:Int)+1:=by omega
         have hk1':(k:Int)+1≤(m5:Int):=by have:=HKM.out;omega
         have HSM:=hid hsm
         have B83:Hid (Below w11.heap.size w11 (w11.alloc (.cells #[] 3)).drew):=hid (below_drew (lA_ (Below.refl _ _) _))
         have R83:Hid (Kd.R (Kd.int .i64) 3 (w11.alloc (.cells #[] 3)).drew W.heap.size (fun _=>True) (.slice (some ⟨w11.heap.size,0,none⟩) 0 0) []):=hid ⟨fun _ _=>trivial,[],Go.Proofs.YtjlnpdpkobpkiaaGreatDoor.own_lit0 w11 _ _ V11.out.be.size,rfl,fun j p hj=>by simp at hj⟩
         have C86:=hid (Kd.C_below hlf0 B83.out)
         have C91:=hid hlf1
         have X83:=hid (lT_ V11.out.be B83.out)
         have hc1:(([]:List Int).length+k)*8≤140737488355328:=by show (0+k)*8≤_;have:=HKM.out;omega
         have hc2:(([]++ints (L.take k):List Int).length+(m5-(k+1)))*8≤140737488355328:=by rw [List.nil_append,ints_len,hsm.1];omega
         clear hlfC hlf0 hlf1 hlen hsm ea e5
         go_wp2_with fail
         go_region_law (first
          |(refine Kd.Rars (Kd.int .i64) (w0:=W) W.heap.size (by rfl) (.tmp 83) (.tmp 86) 39 3 (.int .i64 0) 8 rfl Tryz.underlying39 sfinfo rfl (by decide) (by decide) (.slice (some ⟨w11.heap.size,0,none⟩) 0 0) [] (ints (L.take k)) (some ad5) k d5 (fun _=>True) (fun _=>False) rfl rfl R83.out C86.out (fun _ _ h=>h) (fun _ h=>h.elim) (fun _ _=>trivial) X83.out X83.out.size hc1 ?_;intro v12 w12 hR12 hB12 hg12 hat12;have J12:=hid (lo_app B83.out ⟨_,rfl,Nat.le_refl _⟩ hg12 hat12);have R12:=hid hR12;have X12:=hid hB12;clear hR12 hB12 hg12 hat12)
          |(refine Kd.Rars (Kd.int .i64) (w0:=W) W.heap.size (by rfl) (.tmp 87) (.tmp 91) 39 3 (.int .i64 0) 8 rfl Tryz.underlying39 sfinfo rfl (by decide) (by decide) v12 ([]++ints (L.take k)) (ints (L.drop (k+1))) _ _ _ (fun _=>True) (fun _=>False) rfl rfl R12.out (by first|exact Kd.C_below C91.out J12.out.1|simpa using Kd.C_below C91.out J12.out.1) (fun _ _ h=>h) (fun _ h=>h.elim) (fun _ _=>trivial) X12.out X12.out.size (by first|exact hc2|simpa using hc2) ?_;intro v13 w13 hR13 hB13 hg13 hat13;have J13:=hid (lo_app J12.out.1 J12.out.2 hg13 hat13);have V13:=hid (V11.out.newL (L':=L.take k++L.drop (k+1)) J13.out.1 (by rw [ints_app];exact hR13) J13.out.2);clear hR13 hB13 hg13 hat13))
         obtain ⟨A13,m13,c13,rfl⟩:∃A m c,v13= .slice A m c:=let ⟨A,c,e⟩:=Kd.R_slice V13.out.lf;⟨A,_,c,e⟩
         have hm13:m13<m5:=by rw [(Kd.R_reads' V13.out.lf).1,ints_len,List.length_append,HSM.out.1,HSM.out.2.1];have:=HKM.out;omega
         generalize (if d5=k+1 then some ad5 else some (⟨ad5.block,ad5.off+(k+1),none⟩:Addr))=q91
         have HM13:=hid hm13
         clear hm13
         go_wp2_with fail
         go_roundg m5
         case measure=>exact HG5.out
         case rel=>
          have hx:=HX.out
          rw [HLe.out] at hx
          have hst:=leftL_step hx
          rw [←HLe.out] at hst
          refine ⟨out++[x],A13,_,c13,A11,_,c11,A9,_,c9,rfl,rfl,rfl,hid ?_,HM13,hid ?_,?_⟩
          ·rw [hst, List.length_append, List.length_append, HSM.out.1, HSM.out.2.1]
           have:=HLN.out;have:=HM5.out;have:=HKM.out
           show out.length+1+_=n
           omega
          ·rw [← HR.out]
           exact (restP_step (fun j y hj hy=>HNo.out j y hj (by rw [HLe.out];exact hy)) hx HLB.out).symm
          ·rw [hst, knownOf_app, HVS'.out]
           exact V13
      ·obtain rfl : m5 = k := Nat.le_antisymm (Nat.not_lt.1 hk) HK.out
       clear hk
       have hlfC:=(Kd.R_reads' V.out.lf).2.2
       rw [ints_len] at hlfC
       obtain ⟨ad5,x,rfl,hx,cL0⟩:=at_out hlfC 0 (by rw [←HM5.out];exact H0.out)
       obtain ⟨g5,rfl⟩:=Kd.R_head V.out.lf
       have cL:wi.cell? ⟨g5,0,none⟩=some (.int .i64 (x:Int)):=cL0
       have hxn:x<n:=by
        have:=(leftL_mem (by rw [←HLe.out];exact List.mem_of_getElem? hx)).1
        exact Nat.lt_of_lt_of_eq this HN.out.symm
       obtain ⟨p,ad,Q1,q1,Q2,q2,rfl,hp,hnd,hvs,h0,h1,h2,h3,h4,h5,h6,h7,h8,h9,h10,h11,h12,h13,h14,h15,l1,k1,l2,k2⟩:=sf_at HP.out (Kd.C_below G3.out V.out.be) HN.out x hxn
       have HX:=hid hx
       have HND:=hid hnd
       have HQ:=hid hp
       have hx0:(0:Int)≤(x:Int):=Int.natCast_nonneg x
       have hx2:=sflt hxn
       have hm2:(0:Int)<(m5:Int):=by have:=H0.out;omega
       have hm3:0<m5:=H0.out
       have HNd:=hid (fun Y (hV:Below wi.heap.size wi Y)=>needs16_any hp (Kd.C_below k1 hV) l1 (Kd.C_below k2 hV) l2)
       have HKn:=hid (fun Y (hV:Below wi.heap.size wi Y) A nn cc (hC:Kd.C Kd.string Y A nn (needV p)) (hnn:nn=(needV p).length) (hcc:nn≤cc)=>lack16_any V.out HKl.out hV hC hnn hcc (Nat.le_trans HQ.out.ln (by decide)))
       obtain ⟨lv,hlv⟩:∃lv,lv=lackL (knownOf (entsOf ps) out) (needV p):=⟨_,rfl⟩
       rw [←hlv] at HKn
       have HLV:=hid hlv
       have hg1:((m5:Int)<(m5:Int))=False:=eq_false (by omega)
       clear hlfC hx hxn hp hnd hvs l1 k1 l2 k2 hlv cL0
       go_wp2_with fail
       go_quiet (fail)
       have BQ:Below wi.heap.size wi (wi.drewN nq):=pD (Below.refl _ _) _
       have B0:Below wi.heap.size wi (wi.drewN nq).drew:=below_drew BQ
       go_wp2_with fail
       go_region_held3 (fun V=>V.cell? ⟨b3,3,none⟩=some (.slice (some ad) n c3)∧V.cell? ⟨g5,0,none⟩=some (.int .i64 (x:Int))∧V.cell? (ad.add (x*16))=some (.int .i64 p.f0)∧V.cell? ⟨(ad.add (x*16)).block,(ad.add (x*16)).off+1,none⟩=some (.string p.f1.f0)∧V.cell? ⟨(ad.add (x*16)).block,(ad.add (x*16)).off+2,none⟩=some (.slice Q1 p.f1.f1.length q1)∧V.cell? ⟨(ad.add (x*16)).block,(ad.add (x*16)).off+3,none⟩=some (.int .i64 p.f2)∧V.cell? ⟨(ad.add (x*16)).block,(ad.add (x*16)).off+4,none⟩=some (.int .i64 p.f3.f0)∧V.cell? ⟨(ad.add (x*16)).block,(ad.add (x*16)).off+5,none⟩=some (.string p.f3.f1)∧V.cell? ⟨(ad.add (x*16)).block,(ad.add (x*16)).off+6,none⟩=some (.int .i64 p.f3.f2)∧V.cell? ⟨(ad.add (x*16)).block,(ad.add (x*16)).off+7,none⟩=some (.int .i64 p.f4.f0)∧V.cell? ⟨(ad.add (x*16)).block,(ad.add (x*16)).off+8,none⟩=some (.string p.f4.f1)∧V.cell? ⟨(ad.add (x*16)).block,(ad.add (x*16)).off+9,none⟩=some (.int .i64 p.f4.f2)∧V.cell? ⟨(ad.add (x*16)).block,(ad.add (x*16)).off+10,none⟩=some (.string p.f5)∧V.cell? ⟨(ad.add (x*16)).block,(ad.add (x*16)).off+11,none⟩=some (.int .i64 p.f6.f0.f0)∧V.cell? ⟨(ad.add (x*16)).block,(ad.add (x*16)).off+12,none⟩=some (.string p.f6.f0.f1)∧V.cell? ⟨(ad.add (x*16)).block,(ad.add (x*16)).off+13,none⟩=some (.int .i64 p.f6.f0.f2)∧V.cell? ⟨(ad.add (x*16)).block,(ad.add (x*16)).off+14,none⟩=some (.int .i64 p.f6.f1)∧V.cell? ⟨(ad.add (x*16)).block,(ad.add (x*16)).off+15,none⟩=some (.slice Q2 p.f6.f2.length q2))
        (first
         |(exact ⟨keepc B0 e3,keepc B0 cL,keepc B0 h0,keepc B0 h1,keepc B0 h2,keepc B0 h3,keepc B0 h4,keepc B0 h5,keepc B0 h6,keepc B0 h7,keepc B0 h8,keepc B0 h9,keepc B0 h10,keepc B0 h11,keepc B0 h12,keepc B0 h13,keepc B0 h14,keepc B0 h15⟩)
         |(exact ⟨keepc B2 e3,keepc B2 cL,keepc B2 h0,keepc B2 h1,keepc B2 h2,keepc B2 h3,keepc B2 h4,keepc B2 h5,keepc B2 h6,keepc B2 h7,keepc B2 h8,keepc B2 h9,keepc B2 h10,keepc B2 h11,keepc B2 h12,keepc B2 h13,keepc B2 h14,keepc B2 h15⟩)
         |(exact ⟨keepc B1 e3,keepc B1 cL,keepc B1 h0,keepc B1 h1,keepc B1 h2,keepc B1 h3,keepc B1 h4,keepc B1 h5,keepc B1 h6,keepc B1 h7,keepc B1 h8,keepc B1 h9,keepc B1 h10,keepc B1 h11,keepc B1 h12,keepc B1 h13,keepc B1 h14,keepc B1 h15⟩))
        (first
         |(go_at_call 35;refine (HNd.out _ B0).mono ?_;rintro e w6 ⟨N1,nq1,rfl,hlq,hC,hb6⟩;have B1:Below wi.heap.size wi w6:=lT_ B0 hb6)
         |(go_at_call 34;refine (HKn.out _ B1 _ _ _ hC rfl hlq).mono ?_;rintro e w7 ⟨rfl,hb7⟩;have B2:Below wi.heap.size wi w7:=lT_ B1 hb7))
       have XF:=hid (lT_ X0.out (V.out.below B2).be)
       clear B0 B1 B2 BQ e3 cL h0 h1 h2 h3 h4 h5 h6 h7 h8 h9 h10 h11 h12 h13 h14 h15 HNd HKn hC hlq hb6 hb7 V
       go_wp2
       go_ret3
       rw [←HR.out,restP_stuck (x:=x) (fun j y hj hy=>HNo.out j y (by rw [←HLe.out] at hj;rw [HM5.out];exact hj) (by rw [HLe.out];exact hy)) (by rw [←HLe.out];exact HX.out),HND.out,←HLV.out]
       exact ⟨rfl,XF.out⟩
    ·obtain rfl : m5 = 0 := Nat.eq_zero_of_not_pos h0
     clear h0
     have hL0:L=[]:=List.eq_nil_of_length_eq_zero HM5.out.symm
     have HL0:=hid (show leftL (entsOf ps).n out=[] by rw [←HLe.out];exact hL0)
     have e0:wo.cell? ⟨b3,0,none⟩=some (.string s):=(bC (bB K0.out V.out.be) 0).trans rfl
     have e1:wo.cell? ⟨b3,1,none⟩=some (.slice A1 ts.length c1):=(bC (bB K0.out V.out.be) 1).trans rfl
     have HAc:=hid (syntax_Atom_Vars.calls 2000000 s A1 c1 ts hv wo (Kd.C_below G1.out V.out.be) L1.out HH.out)
     clear hL0
     go_wp2_with fail
     refine HAc.out.mono ?_
     rintro e w6 ⟨v9,rfl,hR9,hb9⟩
     obtain ⟨A9,a9,rfl⟩:=Kd.R_slice hR9
     have V9:=hid (V.out.below hb9)
     have HKn:=hid (lack16_any V.out HKl.out hb9 (Kd.R_reads' hR9).2.2 rfl (Kd.R_reads' hR9).2.1 (Nat.le_trans HL.out (by decide)))
     clear hR9 hb9 V e0 e1 HAc
     obtain ⟨lv,hlv⟩:∃lv,lv=lackL (knownOf (entsOf ps) out) hv:=⟨_,rfl⟩
     rw [←hlv] at HKn
     have HLV:=hid hlv
     clear hlv
     go_wp2_with fail
     refine HKn.out.mono ?_
     rintro e w7 ⟨rfl,hd7⟩
     have V7:=hid (V9.out.below hd7)
     have XF:=hid (lT_ X0.out V7.out.be)
     clear hd7 HKn V9
     by_cases hz:lv.size=0
     ·obtain rfl := bytes_nil hz
      have HZ:=hid hz
      clear hz
      go_wp2
      go_ret3
      obtain ⟨r1,r2,r3⟩:=Kd.R_reads' V7.out.ou
      rw [ints_len] at r1 r3
      rw [←HR.out,restP_done HL0.out,←HLV.out,if_pos HZ.out]
      subst r1
      exact ⟨A8,d8,rfl,r2,r3,XF.out⟩
     ·have hne := ne_isEmpty hz
      have HZ:=hid hz
      have e3:w7.cell? ⟨b3,3,none⟩=some (.slice A3 n c3):=(bC (bB K0.out V7.out.be) 3).trans rfl
      clear hz
      go_wp2_with fail
      go_quiet (fail)
      go_wp2
      go_ret3
      rw [←HR.out,restP_done HL0.out,←HLV.out,if_neg HZ.out]
      exact ⟨by rw [show (entsOf ps).n=n from HN.out.symm];rfl,pD XF.out _⟩
end Go.Proofs.YtjlnpdpkobpkiaaGreatDoorPSP
