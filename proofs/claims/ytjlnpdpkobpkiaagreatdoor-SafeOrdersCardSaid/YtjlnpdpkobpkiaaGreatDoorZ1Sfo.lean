import Derived.Test.YtjlnpdpkobpkiaaGreatDoorZ1LoP
import Derived.Test.YtjlnpdpkobpkiaaGreatDoorZ1LexA
import Derived.Test.YtjlnpdpkobpkiaaGreatDoorZ1W1
import Derived.Maps.OwnOps
import Derived.Shelf.Abstract
import Derived.Test.YtjlnpdpkobpkiaaGreatDoorZ1PSPx4
import Derived.Test.YtjlnpdpkobpkiaaGreatDoorZ1PSPx2
set_option linter.unusedVariables false
set_option linter.unusedSimpArgs false
namespace Go.Proofs.YtjlnpdpkobpkiaaGreatDoorPSP
open Go.RowKit Go.Maps Go.Extern.Stop Go.Stop Go.Extern Go.Proofs.YtjlnpdpkobpkiaaGreatDoorW.PrintWords Go.Proofs.YtjlnpdpkobpkiaaGreatDoor
def KnD (D:DataW Unit) (kn:List ByteArray):Prop:=∀s:ByteArray,D.atKey (.string s.data.toList) (.lit (.int .i64 0))= .lit (.int .i64 (if knows kn s=true then 1 else 0))
theorem KnD.nil:KnD (.map []) []:=fun s=>rfl
theorem sbytes_inj {s t:ByteArray} (h:s.data.toList=t.data.toList):s=t:=by
 cases s;cases t;simp only [ByteArray.mk.injEq];exact Array.toList_inj.1 h
theorem KnD.put {D:DataW Unit} {kn:List ByteArray} (h:KnD D kn) (hD:Maps.IsMap D) (s:ByteArray):KnD (D.put (.string s.data.toList) (.lit (.int .i64 1))) (kn++[s]):=by
 intro t
 by_cases e:t=s
 ·subst e
  rw [Maps.atKey_put_same hD (by trivial),knows_app,if_pos]
  rw [knows_of (l:=[t]) (v:=t) (by simp),Bool.or_true]
 ·have hne : (Lit.string t.data.toList) ≠ .string s.data.toList := fun h => e (sbytes_inj (by injection h))
  rw [Maps.atKey_put_other hne,h t,knows_app]
  have:knows [s] t=false:=by
   unfold knows
   simp only [List.any_cons,List.any_nil,Bool.or_false]
   have:=str_ne_mk (x:=s) (s:=t) (fun h=>e h.symm)
   exact this
  rw [this,Bool.or_false]
def KnM (w:World) (m:Nat) (kn:List ByteArray):Prop:=∃(n:Nat) (D:DataW Unit),n≤kn.length∧w.ownsMap Tryz.prog 9 (plainElem Tryz.prog 3) m n D∧KnD D kn
theorem KnM.keep {F:Nat→Prop} {w w':World} {m:Nat} {kn:List ByteArray} (h:KnM w m kn) (hf:Fr F w w') (hm:¬F m):KnM w' m kn:=by
 obtain ⟨n,D,h1,h2,h3⟩:=h
 exact ⟨n,D,h1,hf.map h2 hm,h3⟩
theorem KnM.below {w w':World} {m:Nat} {kn:List ByteArray} (h:KnM w m kn) (hb:Below w.heap.size w w'):KnM w' m kn:=by
 obtain ⟨n,D,h1,h2,h3⟩:=h
 exact ⟨n,D,h1,h2.kept (Go.Proofs.YtjlnpdpkobpkiaaGreatDoor.grown_of_below hb none) (by simp),h3⟩
theorem sflaw:Keyed Tryz.prog 9:=string_keyed Tryz.underlying9
theorem sfzero (w:World):(zeroValue 3).run Tryz.prog w= .ok (.int .i64 0) w:=by kernel_rfl
def BoxM (w:World) (br m:Nat):Prop:=w.heap[br]? =some (.cells #[.map (some m)] 112 (0,0))
theorem enter_lacks1 (args:Array Value) (w:World):(callFunc 69 args).run Tryz.prog w= .ok (.enter 69 args) w:=enters_of Tryz.func69 (by kernel_rfl) rfl args w
set_option maxRecDepth 100000 in
theorem lacks1_any {w:World} {br m:Nat} {kn:List ByteArray} (hb:BoxM w br m) (hk:KnM w m kn) (v:ByteArray) (hv:v.size≤maxLen):
  Calls Tryz.prog 69 #[.string v,.pointer (some ⟨br,0,none⟩)] w (RetB w (.bool (!(knows kn v)))):=by
 have c0:w.cell? ⟨br,0,none⟩=some (.map (some m)):=cell_blk hb 0
 obtain ⟨n,D,_,hmp,hd⟩:=hk
 have HD:=hid hd
 clear hb hd
 go_enter Tryz.func69,Tryz.ntmps69
 go_wp2_with (first
  |(at_lookup;refine wpList_lookup_own_int _ rfl _ _ 112 rfl 9 3 .i64 sflaw Tryz.underlying112 Tryz.underlying3 (sfzero _) m n D rfl hmp _ _ rfl (WideMaps.keyOf_string_mk Tryz.underlying9 hv) ?_;intro c hat hwc;have Hc:=hid hat;clear hat hwc))
 go_ret
 refine ⟨?_,Below.refl _ _⟩
 have hc:=Hc.out
 rw [HD.out v] at hc
 injection hc with hc
 injection hc with _ hc
 rw [←hc]
 cases knows kn v <;>rfl
theorem at_S {w:World} {A:Option Addr} {n:Nat} {xs:List ByteArray} (h:Kd.C Kd.string w A n xs) (i:Nat) (hi:i<n):∃ad,A=some ad∧w.cell? (ad.add i)=some (.string (xs.getD i ⟨#[]⟩)):=by
 obtain ⟨ad,c,e,_,hK,hc0⟩:=Kd.C_get h ⟨#[]⟩ (i:Int) (by omega) (by omega)
 have hc:∀j u,c[j]? =some u→w.cell? (ad.add (i*1+j))=some u:=hc0
 have hK:c=[.string (xs.getD i ⟨#[]⟩)]:=hK
 subst hK
 exact ⟨ad,e,by simpa using hc 0 _ rfl⟩
def IdxL (kn l:List ByteArray) (r:Int):Prop:=(∃i:Nat,i<l.length∧r=(i:Int)∧lackL kn l=l.getD i ⟨#[]⟩)∨(r= -1∧lackL kn l=⟨#[]⟩)
theorem lackL_drop (kn l:List ByteArray) (i:Nat) (h:∀j,j<i→knows kn (l.getD j ⟨#[]⟩)=true) (hi:i≤l.length):lackL kn l=lackL kn (l.drop i):=by
 induction i with
 |zero=>rfl
 |succ i ih=>
  rw [ih (fun j hj=>h j (by omega)) (by omega),List.drop_eq_getElem_cons (by omega:i<l.length),lackL,if_pos]
  have:=h i (Nat.lt_succ_self _)
  rwa [List.getD_eq_getElem?_getD,List.getElem?_eq_getElem (by omega:i<l.length)] at this
theorem lackL_hit (kn l:List ByteArray) (i:Nat) (h:∀j,j<i→knows kn (l.getD j ⟨#[]⟩)=true) (hi:i<l.length) (hn:knows kn (l.getD i ⟨#[]⟩)=false):lackL kn l=l.getD i ⟨#[]⟩:=by
 rw [lackL_drop kn l i h (by omega),List.drop_eq_getElem_cons hi]
 rw [List.getD_eq_getElem?_getD,List.getElem?_eq_getElem hi] at hn ⊢
 rw [lackL,if_neg (by simpa using hn)]
 rfl
set_option maxHeartbeats 4000000 in
set_option maxRecDepth 100000 in
theorem lidx_any {w:World} {br m cp:Nat} {kn l:List ByteArray} {A:Option Addr} (hb:BoxM w br m) (hk:KnM w m kn) (hA:Kd.C Kd.string w A l.length l) (hl:l.length≤1000000) (hs:∀v∈l,v.size≤maxLen):
  Calls Tryz.prog 68 #[.slice A l.length cp,.func (.func 69) #[] #[.pointer (some ⟨br,0,none⟩)]] w (fun e w'=>Below w.heap.size w w'∧∃r,e= .returned (.int .i64 r)∧IdxL kn l r):=by
 have HB:=hid hb
 have HK:=hid hk
 have HA:=hid hA
 have HS:=hid hs
 have hen:=enter_lacks1
 obtain ⟨n,hn⟩:∃n,n=l.length:=⟨_,rfl⟩
 rw [←hn] at hl HA ⊢
 have HN:=hid hn
 clear hb hk hA hs hn
 go_enter Tryz.func68,Tryz.ntmps68
 go_wp2_with fail
 go_loopg [8] (n+1) (fun g v wr=>∃i:Nat,v= .int .i64 (i:Int)∧i≤n∧n-i<g∧Hid (Below w.heap.size w wr)∧Hid (∀j,j<i→knows kn (l.getD j ⟨#[]⟩)=true))
 case atStart=>exact ⟨0,rfl,by omega,by omega,hid (Below.refl _ _),hid (fun m hm=>by omega)⟩
 case round=>
  obtain ⟨i,rfl,hi,hg,HW,HM⟩:=hrel
  obtain ⟨wo,rfl⟩:∃y:World,y=wr:=⟨_,rfl⟩
  by_cases hlt:i<n
  ·obtain ⟨ad, rfl, c0⟩ := at_S (Kd.C_below HA.out HW.out) i hlt
   have HC:=hid (lacks1_any (show BoxM wo br m from (HW.out.block _ (Go.Proofs.YtjlnpdpkobpkiaaGreatDoor.blk_lt HB.out)).trans HB.out) (HK.out.below HW.out) (l.getD i ⟨#[]⟩) (HS.out _ (by rw [List.getD_eq_getElem?_getD,List.getElem?_eq_getElem (by have:=HN.out;omega)];exact List.getElem_mem _)))
   obtain ⟨v,hv⟩:∃v,v=l.getD i ⟨#[]⟩:=⟨_,rfl⟩
   rw [←hv] at c0 HC
   have HV:=hid hv
   clear hv
   have hlt':(i:Int)<(n:Int):=by omega
   have w1:wrap64 ((i:Int)+1)=((i+1:Nat):Int):=by unfold wrap64;omega
   go_wp2_with fail
   refine HC.out.mono ?_
   rintro e w2 ⟨rfl,hb2⟩
   have HB2:=hid (HW.out.trans (hb2.mono HW.out.size))
   clear hb2
   cases hs:knows kn v with
   |false=>
    have HSo:=hid hs
    clear hs
    go_wp2
    go_ret
    exact ⟨HB2.out,_,rfl,.inl ⟨i,by rw [←HN.out];exact hlt,rfl,lackL_hit kn l i HM.out (by rw [←HN.out];exact hlt) (by rw [←HV.out];exact HSo.out)⟩⟩
   |true=>
    have HSo:=hid hs
    clear hs
    go_wp2
    go_roundg (n-i)
    case measure=>omega
    case rel=>
     refine ⟨i+1,by simp,by omega,by omega,HB2,hid (fun j hj=> ?_)⟩
     by_cases he:j=i
     ·subst he
      rw [←HV.out]
      exact HSo.out
     ·exact HM.out j (by omega)
  ·have hlt' : ¬ (i : Int) < (n : Int) := by omega
   have he:i=n:=by omega
   go_wp2
   go_ret
   refine ⟨HW.out,_,rfl,.inr ⟨rfl,?_⟩⟩
   rw [lackL_drop kn l i HM.out (by rw [he,HN.out];exact Nat.le_refl _),List.drop_eq_nil_of_le (by rw [he,HN.out];exact Nat.le_refl _)]
   rfl
set_option maxRecDepth 100000 in
theorem lacks_any {w:World} {m cp:Nat} {kn l:List ByteArray} {A:Option Addr} (hk:KnM w m kn) (hA:Kd.C Kd.string w A l.length l) (hl:l.length≤1000000) (hs:∀v∈l,v.size≤maxLen):
  Calls Tryz.prog 38 #[.map (some m),.slice A l.length cp] w (RetB w (.string (lackL kn l))):=by
 have hbox:BoxM (w.alloc (.cells #[.map (some m)] 112)) w.heap.size m:=heap_alloc_new _ _
 have ha:Below w.heap.size w (w.alloc (.cells #[.map (some m)] 112)):=(Below.refl _ _).alloc (Nat.le_refl _) _
 have HI:=hid (lidx_any (cp:=cp) hbox (hk.below ha) (Kd.C_below hA ha) hl hs)
 have HA:=hid hA
 obtain ⟨n,hn⟩:∃n,n=l.length:=⟨_,rfl⟩
 rw [←hn] at hl HA HI ⊢
 have HN:=hid hn
 clear hbox hk hA hs hn
 have HB:=hid ha
 clear ha
 go_enter Tryz.func38,Tryz.ntmps38
 go_wp2_with fail
 refine HI.out.mono ?_
 rintro e w2 ⟨hb2,r,rfl,hr⟩
 have HB2:=hid (HB.out.trans (hb2.mono (by simp)))
 clear hb2
 rcases hr with ⟨i,hi,rfl,he⟩|⟨rfl,he⟩
 ·rw [← HN.out] at hi
  obtain ⟨ad,rfl,c0⟩:=at_S (Kd.C_below HA.out HB2.out) i hi
  rw [←he] at c0
  have hlt':(i:Int)<(n:Int):=by omega
  have hge:¬(i:Int)<0:=by omega
  clear he
  go_wp2
  go_ret
  exact ⟨rfl,HB2.out⟩
 ·have HE := hid he
  clear he
  go_wp2
  go_ret
  refine ⟨?_,HB2.out⟩
  rw [HE.out]
  rfl
end Go.Proofs.YtjlnpdpkobpkiaaGreatDoorPSP
set_option linter.unusedVariables false
set_option linter.unusedSimpArgs false
namespace Go.Proofs.YtjlnpdpkobpkiaaGreatDoorPSP
open Go.RowKit Go.Maps Go.Extern.Stop Go.Stop Go.Extern Go.Proofs.YtjlnpdpkobpkiaaGreatDoorW.PrintWords Go.Proofs.YtjlnpdpkobpkiaaGreatDoor
abbrev SfP:=S106
abbrev SfX:=S104
abbrev pvF (p:SfP):=syntax_Part_Vars.f 2000000 p.f0 p.f1.f0 p.f1.f1 p.f2 p.f3.f0 p.f3.f1 p.f3.f2 p.f4.f0 p.f4.f1 p.f4.f2 p.f5 p.f6.f0.f0 p.f6.f0.f1 p.f6.f0.f2 p.f6.f1 p.f6.f2
abbrev xvF (x:SfX):=syntax_Expr_Vars.f 2000000 x.f0.f0 x.f0.f1 x.f0.f2 x.f1 x.f2
def partV (p:SfP):List ByteArray:=(pvF p).getD []
def exprV (x:SfX):List ByteArray:=(xvF x).getD []
def needV (p:SfP):List ByteArray:=if p.f0=0 then [] else if p.f0=3 then exprV p.f6 else partV p
structure PGood (p:SfP):Prop where
 v:pvF p=some (partV p)
 e:p.f0=3→xvF p.f6=some (exprV p.f6)
 lv:(partV p).length≤100000
 ln:(needV p).length≤100000
 sv:∀u∈partV p,u.size≤maxLen
 sn:∀u∈needV p,u.size≤maxLen
abbrev ptV (p:SfP) (A1:Option Addr) (c1:Nat) (A2:Option Addr) (c2:Nat):Value:= .agg #[.int .i64 p.f0,.string p.f1.f0,.slice A1 p.f1.f1.length c1,.int .i64 p.f2,.int .i64 p.f3.f0,.string p.f3.f1,.int .i64 p.f3.f2,.int .i64 p.f4.f0,.string p.f4.f1,.int .i64 p.f4.f2,.string p.f5,.int .i64 p.f6.f0.f0,.string p.f6.f0.f1,.int .i64 p.f6.f0.f2,.int .i64 p.f6.f1,.slice A2 p.f6.f2.length c2]
def RetL (w:World) (l:List ByteArray) (e:Ending) (w':World):Prop:=∃(A:Option Addr) (c:Nat),e= .returned (.slice A l.length c)∧Kd.C Kd.string w' A l.length l∧Below w.heap.size w w'
theorem RetL.of {w w':World} {l:List ByteArray} {e:Ending} (h:∃v0_:Value,e= .returned (v0_)∧Kd.R Kd.string 9 w' w.heap.size (fun _=>True) v0_ l∧Below w.heap.size w w'):RetL w l e w':=by
 obtain ⟨v,rfl,hR,hb⟩:=h
 obtain ⟨A,c,rfl,_,hC⟩:=Kd.R_reads hR
 exact ⟨A,c,rfl,hC,hb⟩
theorem partVars_any {p:SfP} (hp:PGood p) {w:World} {A1 A2:Option Addr} {c1 c2:Nat} (h1:Kd.C k98 w A1 p.f1.f1.length p.f1.f1) (l1:p.f1.f1.length≤c1) (h2:Kd.C k104 w A2 p.f6.f2.length p.f6.f2) (l2:p.f6.f2.length≤c2):
  Calls Tryz.prog 36 #[ptV p A1 c1 A2 c2] w (RetL w (partV p)):=
 (syntax_Part_Vars.calls 2000000 p.f0 p.f1.f0 A1 c1 p.f1.f1 p.f2 p.f3.f0 p.f3.f1 p.f3.f2 p.f4.f0 p.f4.f1 p.f4.f2 p.f5 p.f6.f0.f0 p.f6.f0.f1 p.f6.f0.f2 p.f6.f1 A2 c2 p.f6.f2 _ w h1 l1 h2 l2 hp.v).mono fun e w' h=>RetL.of h
set_option maxRecDepth 100000 in
set_option maxHeartbeats 4000000 in
theorem needs_any {p:SfP} (hp:PGood p) {w:World} {A1 A2:Option Addr} {c1 c2:Nat} (h1:Kd.C k98 w A1 p.f1.f1.length p.f1.f1) (l1:p.f1.f1.length≤c1) (h2:Kd.C k104 w A2 p.f6.f2.length p.f6.f2) (l2:p.f6.f2.length≤c2):
  Calls Tryz.prog 39 #[ptV p A1 c1 A2 c2] w (RetL w (needV p)):=by
 have HV:Hid (∀W,Below w.heap.size w W→Calls Tryz.prog 36 #[ptV p A1 c1 A2 c2] W (RetL W (partV p))):=fun W hW=>partVars_any hp (Kd.C_below h1 hW) l1 (Kd.C_below h2 hW) l2
 have HX:Hid (p.f0=3→∀W,Below w.heap.size w W→Calls Tryz.prog 66 #[.agg #[.int .i64 p.f6.f0.f0,.string p.f6.f0.f1,.int .i64 p.f6.f0.f2,.int .i64 p.f6.f1,.slice A2 p.f6.f2.length c2]] W (RetL W (exprV p.f6))):=
  fun h0 W hW=>(syntax_Expr_Vars.calls 2000000 p.f6.f0.f0 p.f6.f0.f1 p.f6.f0.f2 p.f6.f1 A2 c2 p.f6.f2 _ W (Kd.C_below h2 hW) l2 (hp.e h0)).mono fun e w' h=>RetL.of h
 have HL:Hid (needV p=if p.f0=0 then [] else if p.f0=3 then exprV p.f6 else partV p):=rfl
 clear h1 h2 l1 l2 hp
 unfold ptV at HV ⊢
 generalize partV p=lv at *
 generalize needV p=ln at *
 generalize exprV p.f6=lx at *
 obtain ⟨f0,⟨f1,t1⟩,f3,⟨f4,f5,f6⟩,⟨f7,f8,f9⟩,f10,⟨⟨f11,f12,f13⟩,f14,t15⟩⟩:=p
 simp only at HV HX HL ⊢
 generalize t1.length=n1 at *
 generalize t15.length=n2 at *
 by_cases h0:f0=0
 ·subst h0
  go_enter Tryz.func39,Tryz.ntmps39
  go_wp2
  go_ret
  have:ln=[]:=by simpa using HL.out
  subst this
  exact ⟨none,0,rfl,Kd.C_nil _ _,(Below.refl _ _).alloc (Nat.le_refl _) _⟩
 ·by_cases h3 : f0 = 3
  ·subst h3
   go_enter Tryz.func39,Tryz.ntmps39
   go_wp2_with fail
   refine (HX.out trivial _ ((Below.refl _ _).alloc (Nat.le_refl _) _)).mono ?_
   rintro e w2 ⟨A,c,rfl,hC,hb2⟩
   have H2:=hid hC
   have HB2:=hid (lT_ ((Below.refl w.heap.size w).alloc (Nat.le_refl _) _) hb2)
   clear hC hb2
   go_wp2
   go_ret
   have:ln=lx:=by simpa using HL.out
   subst this
   exact ⟨A,c,rfl,H2.out,HB2.out⟩
  ·go_enter Tryz.func39, Tryz.ntmps39
   go_wp2_with fail
   refine (HV.out _ ((Below.refl _ _).alloc (Nat.le_refl _) _)).mono ?_
   rintro e w2 ⟨A,c,rfl,hC,hb2⟩
   have H2:=hid hC
   have HB2:=hid (lT_ ((Below.refl w.heap.size w).alloc (Nat.le_refl _) _) hb2)
   clear hC hb2
   go_wp2
   go_ret
   have:ln=lv:=by simpa [h0,h3] using HL.out
   subst this
   exact ⟨A,c,rfl,H2.out,HB2.out⟩
structure LnOk (w:World) (m:Nat) (kn l:List ByteArray) (n:Nat) (A:Option Addr) (c:Nat) (i:Nat) (wr:World):Prop where
 k:KnM wr m (kn++l.take i)
 f:Fr (fun i=>i=m) w wr
 r:Kd.R Kd.string 9 wr w.heap.size (fun k=>w.heap.size≤k) (.slice A n c) l
theorem ln_start {w W w2:World} {m c:Nat} {kn l:List ByteArray} {A:Option Addr} (hk:KnM w m kn) (hm:m<w.heap.size) (hB:Below w.heap.size w W) (hR:Kd.R Kd.string 9 w2 W.heap.size (fun _=>True) (.slice A l.length c) l) (hb:Below W.heap.size W w2):
  LnOk w m kn l l.length A c 0 w2:=by
 have hB2:=lT_ hB hb
 have hs:=hB.size
 refine ⟨?_,(Fr.of_below hB2 hB2.size).mono (fun i hi h=>by omega),Kd.R_lower (Kd.R_mono (Kd.R_bound hR) (fun k hk=>Nat.le_trans hs hk.2.1)) hs⟩
 rw [List.take_zero,List.append_nil]
 exact hk.below hB2
theorem ln_at {w wo:World} {m c n i:Nat} {kn l:List ByteArray} {A:Option Addr} (L:LnOk w m kn l n A c i wo) (hn:n=l.length) (hi:i<n) (hs:∀u∈l,u.size≤maxLen) (hl:n≤100000) (hkl:kn.length≤1000000000):
  ∃(ad:Addr) (u:ByteArray) (nn:Nat) (D:DataW Unit),A=some ad∧wo.cell? (ad.add i)=some (.string u)∧u.size≤maxLen∧l.take (i+1)=l.take i++[u]∧nn<maxLen∧nn≤(kn++l.take i).length ∧
   wo.ownsMap Tryz.prog 9 (plainElem Tryz.prog 3) m nn D∧KnD D (kn++l.take i):=by
 obtain ⟨ad,e,c0⟩:=at_S (n:=n) (by have:=(Kd.R_reads' L.r).2.2;rwa [←hn] at this) i hi
 obtain ⟨nn,D,hnn,hmp,hd⟩:=L.k
 refine ⟨ad,l.getD i ⟨#[]⟩,nn,D,e,c0,?_,?_,?_,hnn,hmp,hd⟩
 ·refine hs _ ?_
  rw [List.getD_eq_getElem?_getD,List.getElem?_eq_getElem (by omega)]
  exact List.getElem_mem _
 ·rw [List.getD_eq_getElem?_getD, List.getElem?_eq_getElem (by omega), List.take_add_one, List.getElem?_eq_getElem (by omega)]
  rfl
 ·have h1 : (l.take i).length ≤ n := by rw [List.length_take]; omega
  rw [List.length_append] at hnn
  unfold maxLen
  omega
theorem ln_step {w wo w5:World} {m c n i nn:Nat} {kn l:List ByteArray} {A:Option Addr} {u:ByteArray} {D:DataW Unit} (L:LnOk w m kn l n A c i wo) (hm:m<w.heap.size) (ht:l.take (i+1)=l.take i++[u]) (hnn:nn≤(kn++l.take i).length) (hd:KnD D (kn++l.take i)) (hmp:wo.ownsMap Tryz.prog 9 (plainElem Tryz.prog 3) m nn D)
  (hown:w5.ownsMap Tryz.prog 9 (plainElem Tryz.prog 3) m (nn+1) (D.put (.string u.data.toList) (.lit (.int .i64 1)))) (ht5:wo.mapTurned w5 m):LnOk w m kn l n A c (i+1) w5:=by
 have hF:Fr (fun i=>i=m) wo w5:=(Fr.grown ht5.grown).mono (fun i _ e=>by injection e with e;exact e.symm)
 refine ⟨?_,L.f.trans hF (fun i _ e=>e),Kd.R_step L.r (fun k hk hlt=>hF.block k hlt (by omega))⟩
 rw [ht,←List.append_assoc]
 refine ⟨nn+1,_,?_,hown,hd.put hmp.isMap u⟩
 rw [List.length_append]
 exact Nat.succ_le_succ hnn
theorem sfw (i:Nat) (h:i≤1000000000):wrap64 ((i:Int)+1)=((i+1:Nat):Int):=by unfold wrap64;omega
theorem sflt {i n:Nat} (h:i<n):(i:Int)<(n:Int):=by omega
theorem sfval:plainElem (H:=Unit) Tryz.prog 3 (.int .i64 1)=some (.lit (.int .i64 1),[]):=plainElem_int Tryz.underlying3 (by decide)
set_option maxRecDepth 100000 in
set_option maxHeartbeats 400000 in
theorem learn_any {p:SfP} (hp:PGood p) {w:World} {m:Nat} {kn:List ByteArray} (hk:KnM w m kn) (hkl:kn.length≤1000000000) (hm:m<w.heap.size) {A1 A2:Option Addr} {c1 c2:Nat} (h1:Kd.C k98 w A1 p.f1.f1.length p.f1.f1) (l1:p.f1.f1.length≤c1) (h2:Kd.C k104 w A2 p.f6.f2.length p.f6.f2) (l2:p.f6.f2.length≤c2):
  Calls Tryz.prog 41 #[.map (some m),ptV p A1 c1 A2 c2] w (fun e w'=>e= .returned (.tuple #[])∧KnM w' m (kn++partV p)∧Fr (fun i=>i=m) w w'):=by
 have HV:Hid (∀W,Below w.heap.size w W→Calls Tryz.prog 36 #[ptV p A1 c1 A2 c2] W (fun e w'=>∃v0_:Value,e= .returned (v0_)∧Kd.R Kd.string 9 w' W.heap.size (fun _=>True) v0_ (partV p)∧Below W.heap.size W w')):=
  fun W hW=>syntax_Part_Vars.calls 2000000 p.f0 p.f1.f0 A1 c1 p.f1.f1 p.f2 p.f3.f0 p.f3.f1 p.f3.f2 p.f4.f0 p.f4.f1 p.f4.f2 p.f5 p.f6.f0.f0 p.f6.f0.f1 p.f6.f0.f2 p.f6.f1 A2 c2 p.f6.f2 _ W (Kd.C_below h1 hW) l1 (Kd.C_below h2 hW) l2 hp.v
 have HS:=hid hp.sv
 have HLL:=hid hp.lv
 have HK:=hid hk
 have HKL:=hid hkl
 have HM:=hid hm
 clear h1 h2 l1 l2 hp hk hkl hm
 unfold ptV at HV ⊢
 generalize partV p=lv at *
 generalize p.f0=f0 at *
 generalize p.f1.f0=f1 at *
 generalize p.f1.f1.length=n1 at *
 generalize p.f2=f3 at *
 generalize p.f3.f0=f4 at *
 generalize p.f3.f1=f5 at *
 generalize p.f3.f2=f6 at *
 generalize p.f4.f0=f7 at *
 generalize p.f4.f1=f8 at *
 generalize p.f4.f2=f9 at *
 generalize p.f5=f10 at *
 generalize p.f6.f0.f0=f11 at *
 generalize p.f6.f0.f1=f12 at *
 generalize p.f6.f0.f2=f13 at *
 generalize p.f6.f1=f14 at *
 generalize p.f6.f2.length=n2 at *
 clear p
 go_enter Tryz.func41,Tryz.ntmps41
 go_wp2_with fail
 refine (HV.out _ ((Below.refl _ _).alloc (Nat.le_refl _) _)).mono ?_
 rintro e w2 ⟨v0,rfl,hR,hb2⟩
 obtain ⟨A,c,rfl⟩:=Kd.R_slice hR
 have L0:=hid (ln_start HK.out HM.out ((Below.refl _ _).alloc (Nat.le_refl _) _) hR hb2)
 obtain ⟨n,hn⟩:∃n,n=lv.length:=⟨_,rfl⟩
 rw [←hn] at HLL L0 ⊢
 have HN:=hid hn
 clear hR hb2 hn HV
 go_wp2
 go_loopg [9] (n+1) (fun gk v wr=>∃i:Nat,v= .int .i64 (i:Int)∧Hid (i≤n)∧Hid (n-i<gk)∧Hid (LnOk w m kn lv n A c i wr))
 case atStart=>exact ⟨0,rfl,hid (Nat.zero_le _),hid (by omega),L0⟩
 case round=>
  clear L0
  obtain ⟨i,rfl,HI,HG,L⟩:=hrel
  obtain ⟨wo,rfl⟩:∃x:World,x=wr:=⟨_,rfl⟩
  by_cases hi:i<n
  ·have hlt := sflt hi
   obtain ⟨ad,u,nn,D,rfl,c0,hsz,ht,hnl,hnn,hmp,hd⟩:=ln_at L.out HN.out hi HS.out HLL.out HKL.out
   have HT:=hid ht
   have HNN:=hid hnn
   have HD:=hid hd
   have HGI:=hid hi
   have HI2:=hid (show i+1≤n from hi)
   have w1i:=sfw i (by have:=HLL.out;omega)
   have hkey:keyOf Tryz.prog 9 (.string u)=some (.string u.data.toList):=WideMaps.keyOf_string_mk Tryz.underlying9 hsz
   clear ht hnn hd hsz hi
   go_wp2_with (at_mapUpdate;go_must (refine wpList_mapUpdate_in _ rfl _ _ _ 112 rfl 9 3 sflaw Tryz.underlying112 _ m nn D rfl hmp hnl _ _ _ rfl rfl hkey _ [] sfval ?_);intro w5 hown5 hturn5;have L5:=hid (ln_step L.out HM.out HT.out HNN.out HD.out hmp hown5 hturn5);clear hown5 hturn5 hmp)
   go_roundg (n-i)
   case measure=>exact HG.out
   case rel=>exact ⟨i+1,by first|rfl|(rw [w1i];done)|(simp [w1i];done),HI2,hid (by have:=HGI.out;have:=HG.out;show n-(i+1)<n-i;omega),L5⟩
  ·obtain rfl : i = n := by have := HI.out; omega
   clear hi
   go_wp2
   refine bodyPost_end (v:= .tuple #[]) (by kernel_rfl) rfl ⟨rfl,?_,L.out.f⟩
   have:=L.out.k
   rwa [HN.out,List.take_length] at this
end Go.Proofs.YtjlnpdpkobpkiaaGreatDoorPSP
set_option linter.unusedVariables false
set_option linter.unusedSimpArgs false
namespace Go.Proofs.YtjlnpdpkobpkiaaGreatDoorPSP
open Go.RowKit Go.Maps Go.Extern.Stop Go.Stop Go.Extern Go.Proofs.YtjlnpdpkobpkiaaGreatDoorW.PrintWords Go.Proofs.YtjlnpdpkobpkiaaGreatDoor
def entsOf (ps:List SfP):Ents:=⟨ps.length,fun i=>(ps[i]?.map needV).getD [],fun i=>(ps[i]?.map partV).getD []⟩
abbrev avF (s:ByteArray) (ts:List S98):=syntax_Atom_Vars.f 2000000 s ts
def headV (s:ByteArray) (ts:List S98):List ByteArray:=(avF s ts).getD []
def firstV (out:List Nat) (i:Nat):Int:=match (List.range i).find? (fun j=> !(out.contains j)) with
 |some f=>(f:Int)
 |none=> -1
theorem firstV_in {out:List Nat} {i:Nat} (h:out.contains i=true):firstV out (i+1)=firstV out i:=by
 unfold firstV
 rw [List.range_succ,List.find?_append]
 cases (List.range i).find? (fun j=> !(out.contains j)) with
 |some f=>rfl
 |none=>simp only [Option.none_or,List.find?_cons,h,Bool.not_true,List.find?_nil]
theorem firstV_out {out:List Nat} {i:Nat} (h:out.contains i=false):firstV out (i+1)=if firstV out i<0 then (i:Int) else firstV out i:=by
 unfold firstV
 rw [List.range_succ,List.find?_append]
 cases (List.range i).find? (fun j=> !(out.contains j)) with
 |some f=>simp only [Option.some_or];rw [if_neg (by omega)]
 |none=>simp only [Option.none_or,List.find?_cons,h,Bool.not_false];rw [if_pos (by decide)]
theorem firstV_cases (out:List Nat) (i:Nat):firstV out i= -1∨∃f:Nat,f<i∧firstV out i=(f:Int):=by
 unfold firstV
 cases h:(List.range i).find? (fun j=> !(out.contains j)) with
 |some f=>exact .inr ⟨f,List.mem_range.1 (List.mem_of_find?_eq_some h),rfl⟩
 |none=>exact .inl rfl
theorem firstV_pos {out:List Nat} {i j:Nat} (hj:j<i) (h:out.contains j=false):∃f:Nat,f<i∧firstV out i=(f:Int)∧((List.range i).find? (fun j=> !(out.contains j))).getD 0=f:=by
 unfold firstV
 cases hf:(List.range i).find? (fun j=> !(out.contains j)) with
 |some f=>exact ⟨f,List.mem_range.1 (List.mem_of_find?_eq_some hf),rfl,rfl⟩
 |none=>
  have:=List.find?_eq_none.1 hf j (List.mem_range.2 hj)
  rw [h] at this
  exact absurd rfl this
theorem nextP_hit {E:Ents} {out:List Nat} {i:Nat} (hi:i<E.n) (hr:ready E out i=true) (hn:∀j,j<i→ready E out j=false):nextP E out=some i:=by
 unfold nextP
 rw [List.find?_range_eq_some]
 exact ⟨hr,List.mem_range.2 hi,fun j hj=>by rw [hn j hj];rfl⟩
theorem nextP_miss {E:Ents} {out:List Nat} (hn:∀j,j<E.n→ready E out j=false):nextP E out=none:=by
 unfold nextP
 rw [List.find?_eq_none]
 intro x hx
 rw [hn x (List.mem_range.1 hx)]
 decide
def doneA (n:Nat) (out:List Nat):Array Value:=((List.range n).map fun i=>Value.int .i64 (if out.contains i then 1 else 0)).toArray
theorem doneA_at {n i:Nat} {out:List Nat} (hi:i<n):(doneA n out)[i]? =some (.int .i64 (if out.contains i then 1 else 0)):=by
 unfold doneA
 rw [List.getElem?_toArray,List.getElem?_map,List.getElem?_range hi]
 rfl
theorem doneA_zero (n:Nat):(Array.replicate n (Value.int .i64 0))=doneA n []:=by
 apply Array.ext_getElem?
 intro i
 by_cases hi:i<n
 ·rw [doneA_at hi, Array.getElem?_replicate, if_pos hi]
  rfl
 ·unfold doneA
  rw [Array.getElem?_replicate,if_neg hi,List.getElem?_toArray,List.getElem?_map,List.getElem?_eq_none (by simpa using hi)]
  rfl
theorem doneA_set {n i:Nat} {out:List Nat} (hi:i<n):(doneA n out).setIfInBounds i (.int .i64 1)=doneA n (out++[i]):=by
 have hs:∀o,(doneA n o).size=n:=fun o=>by unfold doneA;simp
 apply Array.ext_getElem?
 intro j
 rw [Array.getElem?_setIfInBounds,hs]
 by_cases hj:j<n
 ·rw [doneA_at hj, doneA_at hj]
  by_cases e:i=j
  ·subst e
   rw [if_pos rfl,if_pos hj]
   simp
  ·rw [if_neg e]
   have:(out++[i]).contains j=out.contains j:=by
    have h1:(j==i)=false:=by simpa using fun h=>e h.symm
    simp [h1]
    omega
   rw [this]
 ·rw [if_neg (by omega), Array.getElem?_eq_none (by rw [hs]; omega), Array.getElem?_eq_none (by rw [hs]; omega)]
def outV (out:List Nat):List Value:=out.map fun (i:Nat)=>Value.int .i64 (i:Int)
structure OrOk (w:World) (n:Nat) (rv:Array Value) (K:List ByteArray) (D out:List Nat) (v:Value) (wr:World):Prop where
 be:Below w.heap.size w wr
 rb:wr.heap[w.heap.size]? =some (.cells rv 37 (0,0))
 kn:KnM wr (w.heap.size+1) K
 dn:wr.heap[w.heap.size+2]? =some (.cells (doneA n D) 3 (0,0))
 ow:wr.ownsRow (w.heap.size+3) 3 1 v out.length (outV out)
section
variable {w:World} {n:Nat} {rv:Array Value} {K:List ByteArray} {D out:List Nat} {v:Value} {wr w':World}
theorem OrOk.below (h:OrOk w n rv K D out v wr) (hb:Below wr.heap.size wr w'):OrOk w n rv K D out v w':=
 ⟨lT_ h.be hb,bB h.rb hb,h.kn.below hb,bB h.dn hb,Go.Proofs.YtjlnpdpkobpkiaaGreatDoor.own_below h.ow hb⟩
theorem OrOk.start {v0 v1 v2 v3 v4:Value}:OrOk w n #[v0,v1,v2,v3,v4] [] [] [] (.slice none 0 0) (((w.alloc (.cells #[v0,v1,v2,v3,v4] 37)).alloc (.map #[] 0)).alloc (.cells (Array.replicate n (.int .i64 0)) 3)):=by
 have b1:Below w.heap.size w (w.alloc (.cells #[v0,v1,v2,v3,v4] 37)):=(Below.refl _ _).alloc (Nat.le_refl _) _
 have s1:(w.alloc (.cells #[v0,v1,v2,v3,v4] 37)).heap.size=w.heap.size+1:=by simp
 generalize hw1:w.alloc (.cells #[v0,v1,v2,v3,v4] 37)=w1 at *
 have k1:w1.heap[w.heap.size]? =some (.cells #[v0,v1,v2,v3,v4] 37 (0,0)):=by rw [←hw1];exact heap_alloc_new _ _
 have b2:Below w1.heap.size w1 (w1.alloc (.map #[] 0)):=(Below.refl _ _).alloc (Nat.le_refl _) _
 have s2:(w1.alloc (.map #[] 0)).heap.size=w.heap.size+2:=by simp [s1]
 have m2:(w1.alloc (.map #[] 0)).ownsMap Tryz.prog 9 (plainElem (H:=Unit) Tryz.prog 3) (w.heap.size+1) 0 (.map []):=by
  have:=World.ownsMap_made (H:=Unit) w1 Tryz.prog 9 (plainElem Tryz.prog 3)
  rwa [s1] at this
 generalize hw2:w1.alloc (.map #[] 0)=w2 at *
 have b3:Below w2.heap.size w2 (w2.alloc (.cells (Array.replicate n (.int .i64 0)) 3)):=(Below.refl _ _).alloc (Nat.le_refl _) _
 have k3:(w2.alloc (.cells (Array.replicate n (.int .i64 0)) 3)).heap[w.heap.size+2]? =some (.cells (doneA n []) 3 (0,0)):=by
  have:=heap_alloc_new w2 (.cells (Array.replicate n (.int .i64 0)) 3)
  rw [s2] at this
  rw [this,doneA_zero]
 exact ⟨lT_ (lT_ b1 b2) b3,bB (bB k1 b2) b3,KnM.below ⟨0,_,Nat.zero_le _,m2,KnD.nil⟩ b3,k3,Go.Proofs.YtjlnpdpkobpkiaaGreatDoor.own_nil _ _ _ _⟩
theorem OrOk.fr {F:Nat→Prop} (h:OrOk w n rv K D out v wr) (hf:Fr F wr w') (hF:∀i,F i→w.heap.size≤i):Below w.heap.size w w':=h.be.trans (hf.below h.be.size hF)
theorem OrOk.set (h:OrOk w n rv K D out v wr) {i:Nat} (hi:i<n):OrOk w n rv K (D++[i]) out v (wr.setCell ⟨w.heap.size+2,i,none⟩ (.int .i64 1)):=by
 have hS:Fr (fun k=>k=w.heap.size+2) wr (wr.setCell ⟨w.heap.size+2,i,none⟩ (.int .i64 1)):=Fr.setCell wr ⟨w.heap.size+2,i,none⟩ _
 refine ⟨h.fr hS (fun k e=>by omega),(hS.block _ (Go.Proofs.YtjlnpdpkobpkiaaGreatDoor.blk_lt h.rb) (by omega)).trans h.rb,h.kn.keep hS (by omega),?_,hS.own h.ow (fun g hg=>by have:=(Go.Proofs.YtjlnpdpkobpkiaaGreatDoor.own_lt h.ow g hg).2;omega)⟩
 have:=Go.Proofs.YtjlnpdpkobpkiaaGreatDoor.blk_set (o:=i) h.dn (.int .i64 1)
 rw [this,doneA_set hi]
theorem OrOk.app (h:OrOk w n rv K D out v wr) {i:Nat} {v':Value} (hown:w'.ownsRow (w.heap.size+3) 3 1 v' (out.length+1) (outV out++[.int .i64 (i:Int)])) (hg:wr.grownBy w' v.ownBlock):OrOk w n rv K D (out++[i]) v' w':=by
 have hS:=Fr.grown hg
 have ho:∀k,v.ownBlock=some k→w.heap.size+3≤k:=fun k hk=>(Go.Proofs.YtjlnpdpkobpkiaaGreatDoor.own_lt h.ow k hk).2
 refine ⟨h.fr hS (fun k e=>by have:=ho k e;omega),(hS.block _ (Go.Proofs.YtjlnpdpkobpkiaaGreatDoor.blk_lt h.rb) (fun e=>by have:=ho _ e;omega)).trans h.rb,h.kn.keep hS (fun e=>by have:=ho _ e;omega),(hS.block _ (Go.Proofs.YtjlnpdpkobpkiaaGreatDoor.blk_lt h.dn) (fun e=>by have:=ho _ e;omega)).trans h.dn,?_⟩
 unfold outV at hown ⊢
 rw [List.length_append,List.map_append]
 exact hown
theorem OrOk.learn (h:OrOk w n rv K D out v wr) {K':List ByteArray} (hk:KnM w' (w.heap.size+1) K') (hf:Fr (fun i=>i=w.heap.size+1) wr w'):OrOk w n rv K' D out v w':=
 ⟨h.fr hf (fun k e=>by omega),(hf.block _ (Go.Proofs.YtjlnpdpkobpkiaaGreatDoor.blk_lt h.rb) (by omega)).trans h.rb,hk,(hf.block _ (Go.Proofs.YtjlnpdpkobpkiaaGreatDoor.blk_lt h.dn) (by omega)).trans h.dn,hf.own h.ow (fun g hg=>by have:=(Go.Proofs.YtjlnpdpkobpkiaaGreatDoor.own_lt h.ow g hg).2;omega)⟩
end
theorem sfinfo:(Tryz.prog.info? 3).map (fun i=>(i.zero,i.size,i.bytes))=some (some (.int .i64 0),1,8):=by kernel_rfl
def OrderPost (w:World) (r:Except (Nat×ByteArray) (List Nat)) (e:Ending) (w':World):Prop:=match r with
 | .ok out=>∃(A:Option Addr) (c:Nat),e= .returned (.tuple #[.slice A out.length c,.nilIface])∧out.length≤c∧(Kd.int .i64).C w' A out.length (out.map fun (i:Nat)=>(i:Int))∧Below w.heap.size w w'
 | .error (p,v)=>∃f,e= .returned (.tuple #[.slice none 0 0,faultV f])∧FaultAt w' f 6 (p:Int) v .nilIface∧Below w.heap.size w w'
end Go.Proofs.YtjlnpdpkobpkiaaGreatDoorPSP
