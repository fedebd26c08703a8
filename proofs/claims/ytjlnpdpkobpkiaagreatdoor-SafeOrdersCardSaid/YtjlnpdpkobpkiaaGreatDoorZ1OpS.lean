import Derived.Test.YtjlnpdpkobpkiaaGreatDoorZ1PSQx4
import Derived.Test.YtjlnpdpkobpkiaaGreatDoorZ1PSQx3
import Derived.Test.YtjlnpdpkobpkiaaGreatDoorZ1Prv
import Derived.Test.YtjlnpdpkobpkiaaGreatDoorZ1Sfo
import Derived.Test.YtjlnpdpkobpkiaaGreatDoorZ1Conc
set_option linter.unusedVariables false
set_option linter.unusedSimpArgs false
namespace Go.Proofs.YtjlnpdpkobpkiaaGreatDoorPSP.Mk
open Go.RowKit Go.Extern.Stop Go.Stop Go.Extern Go.Proofs.YtjlnpdpkobpkiaaGreatDoorW.PrintWords Go.Proofs.YtjlnpdpkobpkiaaGreatDoor
def TOk (t:S98):Prop:=
 (t.f0=1∧ -9223372036854775808≤t.f2∧t.f2≤9223372036854775807)∨(t.f0=0∧∃n,n<6∧t.f1=bytesL (varL.getD n []))∨(t.f0=2∧∃n,n<6∧t.f1=bytesL (symL.getD n []))
theorem term_ok (K N B:Int) (h0: -9223372036854775808≤B) (h1:B≤9223372036854775807):TOk ⟨(termV K N B).1,(termV K N B).2.1,(termV K N B).2.2⟩:=by
 obtain ⟨hn,_⟩:=md_is N 6 (by decide) (by decide)
 unfold termV
 generalize md N 6=n at hn ⊢
 split
 ·refine .inl ⟨rfl, ?_⟩
  show -9223372036854775808≤(if (Go.bits .and .i64 N 64==64)=true then B else (n:Int)-2)∧(if (Go.bits .and .i64 N 64==64)=true then B else (n:Int)-2)≤9223372036854775807
  split <;>omega
 ·split
  ·exact .inr (.inr ⟨rfl, n, by omega, rfl⟩)
  ·exact .inr (.inl ⟨rfl, n, by omega, rfl⟩)
theorem w64 (n:Nat) (h:n<1000000):wrap64 ((n:Int)+1)=((n+1:Nat):Int):=by unfold wrap64;omega
def EB:Nat→S92→Prop
 |0,_=>False
 |d+1,e=>(-9223372036854775808≤e.f0.f2∧e.f0.f2≤9223372036854775807)∧(e.f2.length<2∨∃a b rest,e.f2=a::b::rest∧EB d a∧EB d b)
def EN:Nat→S92→Prop
 |0,_=>True
 |d+1,e=>(-9223372036854775808≤e.f0.f2∧e.f0.f2≤9223372036854775807)∧∀x∈e.f2,EN d x
theorem rd49_0 (a:S92) (l:List S92):rd_T92 (a::l) 0=a:=rfl
theorem rd49_1 (a b:S92) (l:List S92):rd_T92 (a::b::l) 1=b:=rfl
theorem count_is:∀(d:Nat),d≤7→∀(e:S92),EN (d+1) e→∃r:Nat,r≤128*2 ^ d-1∧1≤r∧(r<100→EB d e) ∧
  ∀k,4*d+4≤k→ergolaw13_E_Count.f k e.f0.f0 e.f0.f1 e.f0.f2 e.f1 e.f2 (7-(d:Int))=some (r:Int):=by
 intro d
 induction d with
 |zero=>
  intro _ e _
  refine ⟨100,by omega,by omega,fun h=>by omega,fun k hk=> ?_⟩
  obtain ⟨k,rfl⟩:∃m,k=m+1:=⟨k-1,by omega⟩
  rw [ergolaw13_E_Count.f,if_pos (by omega)]
  rfl
 |succ d ih=>
  intro hd e he
  obtain ⟨⟨T,P,B⟩,op,kids⟩:=e
  have hp:128*2 ^ (d+1)=2*(128*2 ^ d):=by rw [Nat.pow_succ];omega
  have hb:2 ^ d≤2 ^ 7:=Nat.pow_le_pow_right (by decide) (by omega)
  have hb2:1≤2 ^ d:=Nat.one_le_two_pow
  have hw:wrap64 (7-((d+1:Nat):Int)+1)=7-(d:Int):=by unfold wrap64;omega
  have w1:∀n:Nat,n<100000→∀r:Nat,r<100000→wrap64 ((n:Int)+(r:Int))=((n+r:Nat):Int):=fun n h1 r h2=>by unfold wrap64;omega
  cases kids with
  |nil=>
   refine ⟨1,by omega,by omega,fun _=>⟨he.1,.inl (by simp)⟩,fun k hk=> ?_⟩
   obtain ⟨k,rfl⟩:∃m,k=m+2:=⟨k-2,by omega⟩
   rw [ergolaw13_E_Count.f,if_neg (by omega),ergolaw13_E_Count.l0,if_neg (by simp)]
   rfl
  |cons a l=>
   obtain ⟨r0,h1,h2,h3,h4⟩:=ih (by omega) a (he.2 a List.mem_cons_self)
   cases l with
   |nil=>
    refine ⟨1+r0,by omega,by omega,fun _=>⟨he.1,.inl (by simp)⟩,fun k hk=> ?_⟩
    obtain ⟨k,rfl⟩:∃m,k=m+3:=⟨k-3,by omega⟩
    rw [ergolaw13_E_Count.f,if_neg (by omega),ergolaw13_E_Count.l0,if_pos (by simp),if_pos (by decide),if_pos (by decide),if_pos (by decide),rd49_0,hw,h4 (k+1) (by omega)]
    simp only [Option.bind_some]
    have e1:=w1 1 (by omega) r0 (by omega)
    rw [show ((1:Nat):Int)=1 from rfl] at e1
    rw [e1,show wrap64 (0+1)=1 by unfold wrap64;decide,ergolaw13_E_Count.l0,if_neg (by simp)]
   |cons b rest=>
    obtain ⟨r1,g1,g2,g3,g4⟩:=ih (by omega) b (he.2 b (List.mem_cons_of_mem _ List.mem_cons_self))
    have e1:=w1 1 (by omega) r0 (by omega)
    rw [show ((1:Nat):Int)=1 from rfl] at e1
    by_cases hc:1+r0<100
    ·refine ⟨1 + r0 + r1, by omega, by omega, fun hr => ⟨he.1, .inr ⟨a, b, rest, rfl, h3 (by omega), g3 (by omega)⟩⟩, fun k hk => ?_⟩
     obtain ⟨k,rfl⟩:∃m,k=m+4:=⟨k-4,by omega⟩
     rw [ergolaw13_E_Count.f,if_neg (by omega),ergolaw13_E_Count.l0,if_pos (by simp;omega),if_pos (by decide),if_pos (by decide),if_pos (by decide),rd49_0,hw,h4 (k+2) (by omega)]
     simp only [Option.bind_some]
     rw [e1,show wrap64 (0+1)=1 by unfold wrap64;decide,ergolaw13_E_Count.l0,if_pos (by simp;omega),if_pos (by decide),if_pos (by omega),if_pos (by decide),rd49_1,hw,g4 (k+1) (by omega)]
     simp only [Option.bind_some]
     rw [w1 (1+r0) (by omega) r1 (by omega),show wrap64 (1+1)=2 by unfold wrap64;decide,ergolaw13_E_Count.l0]
     by_cases hl:(2:Int)<((a::b::rest).length:Int)
     ·rw [if_pos hl, if_neg (by decide)]
     ·rw [if_neg hl]
    ·refine ⟨1 + r0, by omega, by omega, fun hr => by omega, fun k hk => ?_⟩
     obtain ⟨k,rfl⟩:∃m,k=m+3:=⟨k-3,by omega⟩
     rw [ergolaw13_E_Count.f,if_neg (by omega),ergolaw13_E_Count.l0,if_pos (by simp;omega),if_pos (by decide),if_pos (by decide),if_pos (by decide),rd49_0,hw,h4 (k+1) (by omega)]
     simp only [Option.bind_some]
     rw [e1,show wrap64 (0+1)=1 by unfold wrap64;decide,ergolaw13_E_Count.l0,if_pos (by simp;omega),if_pos (by decide),if_neg (by omega)]
def XOk:Nat→S104→Prop
 |0,_=>False
 |d+1,x=>(x.f2=[]∧TOk x.f0)∨∃a b,x.f2=[a,b]∧0≤x.f1∧x.f1≤4∧XOk d a∧XOk d b
theorem expr_made:∀(d:Nat) (e:S92),EB d e→∃x:S104,XOk d x∧∀k,d≤k→ergolaw13_E_Expr.f k e.f0.f0 e.f0.f1 e.f0.f2 e.f1 e.f2=some (x.f0.f0,x.f0.f1,x.f0.f2,x.f1,x.f2):=by
 intro d
 induction d with
 |zero=>intro e h;exact h.elim
 |succ d ih=>
  intro e h
  obtain ⟨⟨K,N,B⟩,op,kids⟩:=e
  obtain ⟨⟨hB0,hB1⟩,h⟩:=h
  rcases h with h|⟨a,b,rest,h1,ha,hb⟩
  ·refine ⟨⟨⟨(termV (wrap64 (Int.tmod (IntKind.u64.wrap K) 3)) N B).1, (termV (wrap64 (Int.tmod (IntKind.u64.wrap K) 3)) N B).2.1, (termV (wrap64 (Int.tmod (IntKind.u64.wrap K) 3)) N B).2.2⟩, 0, []⟩, .inl ⟨rfl, term_ok _ N B hB0 hB1⟩, fun k hk => ?_⟩
   obtain ⟨k,rfl⟩:∃m,k=m+1:=⟨k-1,by omega⟩
   replace h:kids.length<2:=h
   show ergolaw13_E_Expr.f (k+1) K N B op kids=_
   rw [ergolaw13_E_Expr.f,if_pos (by omega)]
   rfl
  ·obtain ⟨x, hx, gx⟩ := ih a ha
   obtain ⟨y,hy,gy⟩:=ih b hb
   obtain ⟨x0,x1,x2⟩:=x
   obtain ⟨y0,y1,y2⟩:=y
   simp only at h1
   subst h1
   obtain ⟨ho,ho2⟩:=md_is op 5 (by decide) (by decide)
   refine ⟨⟨⟨0,⟨#[]⟩,0⟩,(md op 5:Int),[⟨x0,x1,x2⟩,⟨y0,y1,y2⟩]⟩,.inr ⟨_,_,rfl,by simp,by simp only;omega,hx,hy⟩,fun k hk=> ?_⟩
   obtain ⟨k,rfl⟩:∃m,k=m+1:=⟨k-1,by omega⟩
   rw [ergolaw13_E_Expr.f,if_neg (by simp;omega),if_pos (by simp;omega),rd49_0,gx k (by omega)]
   simp only [Option.bind_some]
   rw [if_pos (by simp;omega),rd49_1,gy k (by omega)]
   simp only [Option.bind_some]
   rw [ho2]
theorem rd69_0 (a:S104) (l:List S104):rd_T104 (a::l) 0=a:=rfl
theorem rd69_1 (a b:S104) (l:List S104):rd_T104 (a::b::l) 1=b:=rfl
def TN (t:S89):Prop:= -9223372036854775808≤t.f2∧t.f2≤9223372036854775807
def t43 (t:S89):S98:=⟨(termV t.f0 t.f1 t.f2).1,(termV t.f0 t.f1 t.f2).2.1,(termV t.f0 t.f1 t.f2).2.2⟩
theorem t43_ok {t:S89} (h:TN t):TOk (t43 t):=term_ok _ _ _ h.1 h.2
def predL:List (List UInt8):=[[112],[113],[114],[101,100,103,101],[112,97,116,104],[115]]
def predS (n:Int):List UInt8:=predL.getD (md n 6) []
theorem pred_is (n:Int):ergolaw13_Pred.f n=some (bytesL (predS n))∧(predS n).length≤100:=by
 obtain ⟨h,e⟩:=md_is n 6 (by decide) (by decide)
 unfold ergolaw13_Pred.f predS
 rw [e]
 generalize md n 6=i at h
 have hc:i=0∨i=1∨i=2∨i=3∨i=4∨i=5:=by omega
 rcases hc with rfl|rfl|rfl|rfl|rfl|rfl <;>exact ⟨rfl,by decide⟩
def argsOf (l:List S89):List S98:=if l.length=0 then [⟨0,bytesL [88],0⟩] else l.map t43
theorem argsOf_ok {l:List S89} (h:∀t∈l,TN t):∀t∈argsOf l,TOk t:=by
 unfold argsOf
 split
 ·intro t ht
  rw [List.mem_singleton] at ht
  subst ht
  exact .inr (.inl ⟨rfl,0,by decide,rfl⟩)
 ·intro t ht
  obtain ⟨u,hu,rfl⟩:=List.mem_map.1 ht
  exact t43_ok (h u hu)
theorem argsOf_len (l:List S89):(argsOf l).length≤l.length+1:=by
 unfold argsOf
 split <;>simp
theorem rd43 (l:List S89) (i:Nat) (h:i<l.length):rd_T89 l (i:Int)=l[i]:=by
 unfold rd_T89
 rw [Int.toNat_natCast,List.getD_eq_getElem?_getD,List.getElem?_eq_getElem h]
 rfl
theorem A_l0 (l:List S89) (hl:l.length≤100) (p:ByteArray):∀(d i k:Nat),i+d=l.length→d<k→ergolaw13_A_Atom.l0 k l (l.length:Int) (i:Int) p ((l.take i).map t43)=some (p,argsOf l):=by
 intro d
 induction d with
 |zero=>
  intro i k hi hk
  obtain ⟨k,rfl⟩:∃m,k=m+1:=⟨k-1,by omega⟩
  rw [ergolaw13_A_Atom.l0,if_neg (by omega),List.take_of_length_le (by omega)]
  unfold argsOf
  by_cases h0:l.length=0
  ·rw [if_pos (by simpa using h0), if_pos h0]
  ·rw [if_neg (by simpa using h0), if_neg h0]
 |succ d ih=>
  intro i k hi hk
  obtain ⟨k,rfl⟩:∃m,k=m+1:=⟨k-1,by omega⟩
  have hlt:i<l.length:=by omega
  rw [ergolaw13_A_Atom.l0,if_pos (by omega),if_pos (by omega),if_pos (by omega),rd43 l i hlt,w64 i (by omega)]
  unfold ergolaw13_T_Term.f
  simp only [Option.bind_some]
  rw [if_pos (by simp;omega)]
  have e:(l.take i).map t43++[t43 l[i]]=(l.take (i+1)).map t43:=by
   rw [List.take_add_one,List.getElem?_eq_getElem hlt,List.map_append]
   rfl
  have:=ih (i+1) k (by omega) (by omega)
  rw [←e] at this
  exact this
theorem A_is (n:Int) (l:List S89) (hl:l.length≤100):∀k,101≤k→ergolaw13_A_Atom.f k n l=some (bytesL (predS n),argsOf l):=by
 intro k hk
 unfold ergolaw13_A_Atom.f
 rw [(pred_is n).1]
 simp only [Option.bind_some]
 exact A_l0 l hl _ l.length 0 k (by omega) (by omega)
theorem termV_var (N B:Int):TOk ⟨(termV 0 N B).1,(termV 0 N B).2.1,(termV 0 N B).2.2⟩∧0<(termV 0 N B).2.1.size∧(termV 0 N B).2.1.size≤8:=by
 obtain ⟨hn,_⟩:=md_is N 6 (by decide) (by decide)
 have e:md 0 4=0:=by
  obtain ⟨_,h⟩:=md_is 0 4 (by decide) (by decide)
  have:wrap64 (Int.tmod (IntKind.u64.wrap 0) 4)=0:=by unfold wrap64;decide
  omega
 unfold termV
 rw [e,if_neg (by decide),if_neg (by decide)]
 generalize md N 6=i at hn
 refine ⟨.inr (.inl ⟨rfl,i,by omega,rfl⟩),?_⟩
 have hc:i=0∨i=1∨i=2∨i=3∨i=4∨i=5:=by omega
 rcases hc with rfl|rfl|rfl|rfl|rfl|rfl <;>decide
abbrev Tm:=S98
abbrev Xp:=S104
abbrev Pt:=S106
def PShape (p:Pt):Prop:=
 ((p.f0=0∨p.f0=1)∧(∃n,p.f1.f0=bytesL (predS n))∧p.f1.f1.length≤7∧∀t∈p.f1.f1,TOk t)∨(p.f0=2∧(∃o,p.f2=(md o 6:Int))∧TOk p.f3∧TOk p.f4)∨(p.f0=3∧(0<p.f5.size∧p.f5.size≤8)∧XOk 7 p.f6)
def PFields (p:Pt):Int×ByteArray×List Tm×Int×Int×ByteArray×Int×Int×ByteArray×Int×ByteArray×Int×ByteArray×Int×Int×List Xp:=
 (p.f0,p.f1.f0,p.f1.f1,p.f2,p.f3.f0,p.f3.f1,p.f3.f2,p.f4.f0,p.f4.f1,p.f4.f2,p.f5,p.f6.f0.f0,p.f6.f0.f1,p.f6.f0.f2,p.f6.f1,p.f6.f2)
abbrev madeF (k:Nat) (p:S94):=ergolaw13_P_Part.f k p.f0 p.f1 p.f2.f0 p.f2.f1 p.f3.f0 p.f3.f1 p.f3.f2 p.f4.f0 p.f4.f1 p.f4.f2 p.f5.f0.f0 p.f5.f0.f1 p.f5.f0.f2 p.f5.f1 p.f5.f2
def PB (p:S94):Prop:=p.f2.f1.length≤6∧(∀t∈p.f2.f1,TN t)∧TN p.f3∧TN p.f4∧EB 7 p.f5
theorem part_made (p:S94) (h:PB p):∃q:Pt,PShape q∧∀k,2000≤k→madeF k p=some (PFields q):=by
 obtain ⟨fo,op,⟨pr,l⟩,x,y,e⟩:=p
 obtain ⟨hl,hn,hx,hy,he⟩:=h
 simp only at hl hn hx hy he
 obtain ⟨hf,ef⟩:=md_is fo 6 (by decide) (by decide)
 have hargs:=argsOf_ok hn
 have hal:=argsOf_len l
 by_cases h3:md fo 6=3
 ·refine ⟨⟨1, ⟨bytesL (predS pr), argsOf l⟩, 0, ⟨0, ⟨#[]⟩, 0⟩, ⟨0, ⟨#[]⟩, 0⟩, ⟨#[]⟩, ⟨⟨0, ⟨#[]⟩, 0⟩, 0, []⟩⟩, .inl ⟨.inr rfl, ⟨pr, rfl⟩, by simp only; omega, hargs⟩, fun k hk => ?_⟩
  unfold madeF ergolaw13_P_Part.f
  rw [ef,h3,if_pos (by rfl),A_is pr l (by omega) k (by omega)]
  rfl
 ·by_cases h4 : md fo 6 = 4
  ·obtain ⟨ho, eo⟩ := md_is op 6 (by decide) (by decide)
   have tx:=t43_ok hx
   have ty:=t43_ok hy
   refine ⟨⟨2,⟨⟨#[]⟩,[]⟩,(md op 6:Int),t43 x,t43 y,⟨#[]⟩,⟨⟨0,⟨#[]⟩,0⟩,0,[]⟩⟩,.inr (.inl ⟨rfl,⟨op,rfl⟩,tx,ty⟩),fun k hk=> ?_⟩
   unfold madeF ergolaw13_P_Part.f
   rw [ef,h4,if_neg (by decide),if_pos (by rfl),eo]
   rfl
  ·by_cases h5 : md fo 6 = 5
   ·obtain ⟨z, hz, gz⟩ := expr_made 7 e he
    obtain ⟨_,lv⟩:=termV_var x.f1 x.f2
    refine ⟨⟨3,⟨⟨#[]⟩,[]⟩,0,⟨0,⟨#[]⟩,0⟩,⟨0,⟨#[]⟩,0⟩,(termV 0 x.f1 x.f2).2.1,z⟩,.inr (.inr ⟨rfl,lv,hz⟩),fun k hk=> ?_⟩
    unfold madeF ergolaw13_P_Part.f
    rw [ef,h5,if_neg (by decide),if_neg (by decide),if_pos (by rfl),gz k (by omega)]
    rfl
   ·refine ⟨⟨0, ⟨bytesL (predS pr), argsOf l⟩, 0, ⟨0, ⟨#[]⟩, 0⟩, ⟨0, ⟨#[]⟩, 0⟩, ⟨#[]⟩, ⟨⟨0, ⟨#[]⟩, 0⟩, 0, []⟩⟩, .inl ⟨.inl rfl, ⟨pr, rfl⟩, by simp only; omega, hargs⟩, fun k hk => ?_⟩
    unfold madeF ergolaw13_P_Part.f
    rw [ef,if_neg (by omega),if_neg (by omega),if_neg (by omega),A_is pr l (by omega) k (by omega)]
    rfl
abbrev PvM:=S94
abbrev RlM:=S27
theorem rd51 (l:List PvM) (i:Nat) (h:i<l.length):rd_T94 l (i:Int)=l[i]:=by
 unfold rd_T94
 rw [Int.toNat_natCast,List.getD_eq_getElem?_getD,List.getElem?_eq_getElem h]
 rfl
theorem rdR (l:List RlM) (i:Nat) (h:i<l.length):rd_T27 l (i:Int)=l[i]:=by
 unfold rd_T27
 rw [Int.toNat_natCast,List.getD_eq_getElem?_getD,List.getElem?_eq_getElem h]
 rfl
def PvN (p:PvM):Prop:=(∀t∈p.f2.f1,TN t)∧TN p.f3∧TN p.f4∧∀d,EN d p.f5
def RlN (r:RlM):Prop:=(∀t∈r.f0.f1,TN t)∧∀p∈r.f2,PvN p
def RlB (r:RlM):Prop:=r.f0.f1.length≤6∧(∀t∈r.f0.f1,TN t)∧r.f2.length≤8∧∀p∈r.f2,PB p
theorem few_l1 (rs:List RlM) (i:Nat) (hi:i<rs.length) (hl:rs.length≤12) (Q:Bool→Prop) (k0:Nat)
  (next:∀k,k0≤k→∃b,ergolaw13_Few.l0 k rs (rs.length:Int) ((i+1:Nat):Int)=some b∧Q b) (hf:Q false) (ps:List PvM) (hp:∀p∈ps,PvN p) (h8:ps.length≤8):
  ∀(d j k:Nat),j+d=ps.length→k0+40+d≤k→∃b,ergolaw13_Few.l1 k rs (rs.length:Int) (i:Int) ps (ps.length:Int) (j:Int)=some b ∧
   (b=true→∀p∈ps.drop j,PB p)∧Q b:=by
 intro d
 induction d with
 |zero=>
  intro j k hj hk
  obtain ⟨k,rfl⟩:∃m,k=m+1:=⟨k-1,by omega⟩
  obtain ⟨b,h1,h2⟩:=next k (by omega)
  rw [ergolaw13_Few.l1,if_neg (by omega),w64 i (by omega),List.drop_eq_nil_of_le (by omega)]
  exact ⟨b,h1,fun _ p hp=>(by cases hp),h2⟩
 |succ d ih=>
  intro j k hj hk
  obtain ⟨k,rfl⟩:∃m,k=m+1:=⟨k-1,by omega⟩
  have hlt:j<ps.length:=by omega
  rw [ergolaw13_Few.l1,if_pos (by omega),if_pos (by omega),if_pos (by omega),rd51 ps j hlt,w64 j (by omega)]
  obtain ⟨n1,n2,n3,n4⟩:=hp _ (List.getElem_mem hlt)
  by_cases c1:ps[j].f2.f1.length≤6
  ·rw [if_neg (by omega)]
   obtain ⟨r,_,_,hr,hc⟩:=count_is 7 (by decide) ps[j].f5 (n4 8)
   have hc1:ergolaw13_E_Count.f k ps[j].f5.f0.f0 ps[j].f5.f0.f1 ps[j].f5.f0.f2 ps[j].f5.f1 ps[j].f5.f2 0=some (r:Int):=hc k (by omega)
   rw [hc1]
   simp only [Option.bind_some]
   by_cases c2:r≤40
   ·rw [if_neg (by omega)]
    obtain ⟨b,g1,g2,g3⟩:=ih (j+1) k (by omega) (by omega)
    refine ⟨b,g1,fun hb p hpm=> ?_,g3⟩
    rw [List.drop_eq_getElem_cons hlt] at hpm
    rcases List.mem_cons.1 hpm with rfl|hpm
    ·exact ⟨c1, n1, n2, n3, hr (by omega)⟩
    ·exact g2 hb p hpm
   ·rw [if_pos (by omega)]
    exact ⟨false,rfl,(fun h=>by cases h),hf⟩
  ·rw [if_pos (by omega)]
   exact ⟨false,rfl,(fun h=>by cases h),hf⟩
theorem few_l0 (rs:List RlM) (hl:rs.length≤12) (hn:∀r∈rs,RlN r):∀(d i k:Nat),i+d=rs.length→100*d+1≤k →
  ∃b,ergolaw13_Few.l0 k rs (rs.length:Int) (i:Int)=some b∧(b=true→∀r∈rs.drop i,RlB r):=by
 intro d
 induction d with
 |zero=>
  intro i k hi hk
  obtain ⟨k,rfl⟩:∃m,k=m+1:=⟨k-1,by omega⟩
  rw [ergolaw13_Few.l0,if_neg (by omega),List.drop_eq_nil_of_le (by omega)]
  exact ⟨true,rfl,fun _ p hp=>(by cases hp)⟩
 |succ d ih=>
  intro i k hi hk
  obtain ⟨k,rfl⟩:∃m,k=m+2:=⟨k-2,by omega⟩
  have hlt:i<rs.length:=by omega
  rw [ergolaw13_Few.l0,if_pos (by omega),if_pos (by omega),if_pos (by omega),rdR rs i hlt]
  obtain ⟨n1,n2⟩:=hn _ (List.getElem_mem hlt)
  by_cases c1:rs[i].f0.f1.length≤6
  ·rw [if_neg (by omega), ergolaw13_Few.j1]
   by_cases c2:rs[i].f2.length≤8
   ·rw [decide_eq_false (by omega), if_neg (by decide)]
    obtain ⟨b,g1,g2,g3⟩:=few_l1 rs i hlt hl (fun b=>b=true→∀r∈rs.drop (i+1),RlB r) (100*d+1) (fun k hk=>ih (i+1) k (by omega) hk) (fun h=>by cases h) rs[i].f2 n2 c2 rs[i].f2.length 0 k (by omega) (by omega)
    refine ⟨b,g1,fun hb r hrm=> ?_⟩
    rw [List.drop_eq_getElem_cons hlt] at hrm
    rcases List.mem_cons.1 hrm with rfl|hrm
    ·exact ⟨c1, n1, c2, by simpa using g2 hb⟩
    ·exact g3 hb r hrm
   ·rw [decide_eq_true (by omega), if_pos rfl]
    exact ⟨false,rfl,fun h=>by cases h⟩
  ·rw [if_pos (by omega), ergolaw13_Few.j1, if_pos rfl]
   exact ⟨false,rfl,fun h=>by cases h⟩
theorem few_is (rs:List RlM) (hn:∀r∈rs,RlN r):∃b,ergolaw13_Few.f 20000 rs=some b∧(b=true→rs.length≤12∧∀r∈rs,RlB r):=by
 unfold ergolaw13_Few.f
 by_cases c:rs.length≤12
 ·rw [if_neg (by omega)]
  obtain ⟨b,h1,h2⟩:=few_l0 rs c hn rs.length 0 20000 (by omega) (by omega)
  exact ⟨b,h1,fun hb=>⟨c,by simpa using h2 hb⟩⟩
 ·rw [if_pos (by omega)]
  exact ⟨false,rfl,fun h=>by cases h⟩
def partOf (p:PvM):Pt:=match madeF 2000 p with
 |some (a,b,c,d,e,f,g,h,i,j,l,m,n,o,q,r)=>⟨a,⟨b,c⟩,d,⟨e,f,g⟩,⟨h,i,j⟩,l,⟨⟨m,n,o⟩,q,r⟩⟩
 |none=>z106
theorem partOf_is (p:PvM) (h:PB p):PShape (partOf p)∧∀k,2000≤k→madeF k p=some (PFields (partOf p)):=by
 obtain ⟨q,h1,h2⟩:=part_made p h
 have e:partOf p=q:=by
  unfold partOf
  rw [h2 2000 (Nat.le_refl _)]
  obtain ⟨a,⟨b,c⟩,d,⟨e,f,g⟩,⟨h,i,j⟩,l,⟨⟨m,n,o⟩,q,r⟩⟩:=q
  rfl
 rw [e]
 exact ⟨h1,h2⟩
theorem made_l0 (ps:List PvM) (hl:ps.length≤8) (h:∀p∈ps,PB p) (pr:ByteArray) (args:List Tm) (g at_:Int):∀(d i k:Nat) (acc:List Pt),i+d=ps.length→acc.length+d≤100→2100+d≤k →
  ergolaw13_R_Rule.l0 k ps (ps.length:Int) (i:Int) pr args g acc at_=some (pr,args,g,acc++(ps.drop i).map partOf,at_):=by
 intro d
 induction d with
 |zero=>
  intro i k acc hi ha hk
  obtain ⟨k,rfl⟩:∃m,k=m+1:=⟨k-1,by omega⟩
  rw [ergolaw13_R_Rule.l0,if_neg (by omega),List.drop_eq_nil_of_le (by omega)]
  simp
 |succ d ih=>
  intro i k acc hi ha hk
  obtain ⟨k,rfl⟩:∃m,k=m+1:=⟨k-1,by omega⟩
  have hlt:i<ps.length:=by omega
  have e1:=(partOf_is ps[i] (h _ (List.getElem_mem hlt))).2 k (by omega)
  unfold madeF at e1
  rw [ergolaw13_R_Rule.l0,if_pos (by omega),if_pos (by omega),if_pos (by omega),rd51 ps i hlt,w64 i (by omega),e1,List.drop_eq_getElem_cons hlt,List.map_cons]
  simp only [Option.bind_some]
  rw [if_pos (by omega)]
  have e2:=ih (i+1) k (acc++[partOf ps[i]]) (by omega) (by simp;omega) (by omega)
  rw [List.append_assoc,List.singleton_append] at e2
  obtain ⟨q,hq⟩:∃q,q=partOf ps[i]:=⟨_,rfl⟩
  rw [←hq] at e2 ⊢
  obtain ⟨a,⟨b,c⟩,d,⟨e,f,g⟩,⟨h,i,j⟩,l,⟨⟨m,n,o⟩,q,r⟩⟩:=q
  exact e2
theorem set_last_ok {l:List Tm} {i:Nat} (h:∀t∈l,TOk t):∀t∈l.set i ⟨0,bytesL [88],0⟩,TOk t:=by
 intro t ht
 rcases List.mem_or_eq_of_mem_set ht with h1|rfl
 ·exact h t h1
 ·exact .inr (.inl ⟨rfl, 0, by decide, rfl⟩)
theorem rule_made (r:RlM) (h:RlB r):∃(args:List Tm) (g:Int),args.length≤7∧0<args.length∧(∀t∈args,TOk t)∧(g=0∨g=1∨g=2∨g=3∨g=4) ∧
  ∀k,3000≤k→ergolaw13_R_Rule.f k r.f0.f0 r.f0.f1 r.f1 r.f2=some (bytesL (predS r.f0.f0),args,g,r.f2.map partOf,0):=by
 obtain ⟨⟨pr,al⟩,agg,body⟩:=r
 obtain ⟨h1,h2,h3,h4⟩:=h
 simp only at h1 h2 h3 h4
 have ha:=argsOf_ok h2
 have hl:=argsOf_len al
 have hp:0<(argsOf al).length:=by
  unfold argsOf
  split <;>rename_i h
  ·simp
  ·simp; omega
 obtain ⟨n,hn⟩:∃n,(argsOf al).length=n+1:=⟨(argsOf al).length-1,by omega⟩
 have hw:wrap64 (((argsOf al).length:Int)-1)=(n:Int):=by rw [hn];unfold wrap64;omega
 have e0:Go.bits .and .i64 agg 15=Go.bits .and .i64 agg 15:=rfl
 generalize hgg:Go.bits .and .i64 agg 15=g at e0
 have tail:∀(args:List Tm) (g:Int) (k:Nat),2990≤k→ergolaw13_R_Rule.j1 k pr al agg body (bytesL (predS pr)) args g 0=some (bytesL (predS pr),args,g,body.map partOf,0):=by
  intro args g k hk
  obtain ⟨k,rfl⟩:∃m,k=m+1:=⟨k-1,by omega⟩
  rw [ergolaw13_R_Rule.j1]
  have:=made_l0 body h3 h4 (bytesL (predS pr)) args g 0 body.length 0 k [] (by omega) (by simp;omega) (by omega)
  rw [show ((0:Nat):Int)=0 from rfl] at this
  rw [this]
  simp
 by_cases c:1≤g∧g≤4
 ·have hg : g = 0 ∨ g = 1 ∨ g = 2 ∨ g = 3 ∨ g = 4 := by omega
  by_cases hv:(rd_T98 (argsOf al) (n:Int)).f0=0
  ·refine ⟨argsOf al, g, by omega, hp, ha, hg, fun k hk => ?_⟩
   obtain ⟨k,rfl⟩:∃m,k=m+1:=⟨k-1,by omega⟩
   simp only
   unfold ergolaw13_R_Rule.f
   rw [A_is pr al (by omega) (k+1) (by omega),hgg]
   simp only [Option.bind_some]
   rw [if_pos c.1,decide_eq_true c.2,ergolaw13_R_Rule.j0,if_pos rfl,hw,if_pos (by omega),if_pos (by omega),if_pos hv]
   exact tail _ _ k (by omega)
  ·refine ⟨(argsOf al).set n ⟨0, bytesL [88], 0⟩, g, by rw [List.length_set]; omega, by rw [List.length_set]; exact hp, set_last_ok ha, hg, fun k hk => ?_⟩
   obtain ⟨k,rfl⟩:∃m,k=m+1:=⟨k-1,by omega⟩
   simp only
   unfold ergolaw13_R_Rule.f
   rw [A_is pr al (by omega) (k+1) (by omega),hgg]
   simp only [Option.bind_some]
   rw [if_pos c.1,decide_eq_true c.2,ergolaw13_R_Rule.j0,if_pos rfl,hw,if_pos (by omega),if_pos (by omega),if_neg hv]
   exact tail _ _ k (by omega)
 ·refine ⟨argsOf al, 0, by omega, hp, ha, .inl rfl, fun k hk => ?_⟩
  obtain ⟨k,rfl⟩:∃m,k=m+1:=⟨k-1,by omega⟩
  simp only
  unfold ergolaw13_R_Rule.f
  rw [A_is pr al (by omega) (k+1) (by omega),hgg]
  simp only [Option.bind_some]
  have:∀b:Bool,b=false→ergolaw13_R_Rule.j0 (k+1) g b pr al agg body (bytesL (predS pr)) (argsOf al) 0 0=some (bytesL (predS pr),argsOf al,0,body.map partOf,0):=by
   intro b hb
   subst hb
   rw [ergolaw13_R_Rule.j0,if_neg (by decide)]
   exact tail _ _ k (by omega)
  by_cases c1:g≥1
  ·rw [if_pos c1]
   exact this _ (decide_eq_false (by omega))
  ·rw [if_neg c1]
   exact this _ rfl
def Nm (u:ByteArray):Prop:=0<u.size∧u.size≤8
theorem names_ok {ts:List Tm} (h:∀t∈ts,TOk t):∀u∈namesL ts,Nm u:=by
 intro u hu
 unfold namesL at hu
 obtain ⟨t,ht,rfl⟩:=List.mem_map.1 hu
 obtain ⟨ht,h0⟩:=List.mem_filter.1 ht
 have h0:t.f0=0:=of_decide_eq_true h0
 rcases h t ht with ⟨h1,_⟩|⟨_,n,hn,e⟩|⟨h1,_⟩
 ·omega
 ·rw [e]
  have hc:n=0∨n=1∨n=2∨n=3∨n=4∨n=5:=by omega
  rcases hc with rfl|rfl|rfl|rfl|rfl|rfl <;>exact ⟨by decide,by decide⟩
 ·omega
theorem mk_expr:∀(d:Nat),d≤7→∀(x:Xp),XOk d x→∃ns:List ByteArray,ns.length≤2 ^ d∧(∀u∈ns,Nm u)∧∀k,d+3≤k→syntax_Expr_Vars.f k x.f0.f0 x.f0.f1 x.f0.f2 x.f1 x.f2=some ns:=by
 intro d
 induction d with
 |zero=>intro _ x h;exact h.elim
 |succ d ih=>
  intro hd x hx
  obtain ⟨⟨T,P,B⟩,op,kids⟩:=x
  have hb:2 ^ d≤2 ^ 7:=Nat.pow_le_pow_right (by decide) (by omega)
  have hb2:1≤2 ^ d:=Nat.one_le_two_pow
  have hb3:2 ^ (d+1)=2 ^ d+2 ^ d:=by rw [Nat.pow_succ];omega
  rcases hx with ⟨hk,ht⟩|⟨a,b,hk,_,_,ha,hbx⟩
  ·simp only at hk
   subst hk
   refine ⟨namesL [⟨T,P,B⟩],?_,names_ok (fun t h=>by obtain rfl:=List.mem_singleton.1 h;exact ht),fun k hk=> ?_⟩
   ·have := namesL_len [(⟨T, P, B⟩ : Tm)]
    rw [List.length_singleton] at this
    omega
   ·obtain ⟨k, rfl⟩ : ∃ m, k = m + 1 := ⟨k - 1, by omega⟩
    have e2:=vars_is [(⟨T,P,B⟩:Tm)] (by simp) k (by simp;omega)
    simp only
    rw [syntax_Expr_Vars.f,if_neg (by simp),e2]
    rfl
  ·simp only at hk
   subst hk
   obtain ⟨na,la,sa,ga⟩:=ih (by omega) a ha
   obtain ⟨nb,lb,sb,gb⟩:=ih (by omega) b hbx
   refine ⟨na++nb,by rw [List.length_append];omega,fun u hu=> ?_,fun k hk=> ?_⟩
   ·rcases List.mem_append.1 hu with hu | hu
    ·exact sa u hu
    ·exact sb u hu
   ·obtain ⟨k, rfl⟩ : ∃ m, k = m + 1 := ⟨k - 1, by omega⟩
    have a2:=ga k (by omega)
    have b2:=gb k (by omega)
    simp only
    rw [syntax_Expr_Vars.f,if_pos (by simp),if_pos (by simp),rd69_0,a2]
    simp only [Option.bind_some]
    rw [if_pos (by simp),rd69_1,b2]
    simp only [Option.bind_some]
    unfold slices_Concat_string_string.f
    rw [if_pos ⟨by simp,by simp;omega⟩]
    simp
theorem nm_max {u:ByteArray} (h:Nm u):u.size≤maxLen:=Nat.le_trans h.2 (by decide)
theorem mk_good (p:Pt) (h:PShape p):PGood p∧(∀u∈partV p,Nm u)∧(∀u∈needV p,Nm u):=by
 have key:∃ns:List ByteArray,ns.length≤200∧(∀u∈ns,Nm u)∧pvF p=some ns∧(p.f0=3→∃ms:List ByteArray,ms.length≤200∧(∀u∈ms,Nm u)∧xvF p.f6=some ms):=by
  rcases h with ⟨h0,_,hl,ht⟩|⟨h0,_,hx,hy⟩|⟨h0,hs,hx⟩
  ·refine ⟨namesL p.f1.f1, by have := namesL_len p.f1.f1; omega, names_ok ht, ?_, fun h3 => by omega⟩
   unfold pvF syntax_Part_Vars.f syntax_Atom_Vars.f
   rw [if_neg (by omega),if_neg (by omega),vars_is _ (by omega) _ (by omega)]
   rfl
  ·refine ⟨namesL [p.f3, p.f4], by have := namesL_len [p.f3, p.f4]; simp at this; omega, names_ok (fun t h => ?_), ?_, fun h3 => by omega⟩
   ·rcases List.mem_cons.1 h with rfl | h
    ·exact hx
    ·obtain rfl := List.mem_singleton.1 h
     exact hy
   ·unfold pvF syntax_Part_Vars.f
    rw [if_pos h0,show [(⟨p.f3.f0,p.f3.f1,p.f3.f2⟩:Tm),(⟨p.f4.f0,p.f4.f1,p.f4.f2⟩:Tm)]=[p.f3,p.f4] from rfl,vars_is _ (by simp) _ (by simp)]
    rfl
  ·obtain ⟨ms, hm, hn, hg⟩ := mk_expr 7 (by decide) p.f6 hx
   have hm2:ms.length≤128:=hm
   refine ⟨[p.f5]++ms,by simp;omega,fun u hu=> ?_,?_,fun _=>⟨ms,by omega,hn,hg 2000000 (by omega)⟩⟩
   ·rcases List.mem_append.1 hu with hu | hu
    ·obtain rfl := List.mem_singleton.1 hu
     exact hs
    ·exact hn u hu
   ·unfold pvF syntax_Part_Vars.f
    rw [if_neg (by omega),if_pos h0,hg 2000000 (by omega)]
    simp only [Option.bind_some]
    rw [if_pos (by simp;omega)]
 obtain ⟨ns,h1,h2,h3,h4⟩:=key
 have e:partV p=ns:=by unfold partV;rw [h3];rfl
 have hv:pvF p=some (partV p):=by rw [e];exact h3
 rw [←e] at h1 h2
 by_cases h0:p.f0=3
 ·obtain ⟨ms, g1, g2, g3⟩ := h4 h0
  have e2:exprV p.f6=ms:=by unfold exprV;rw [g3];rfl
  have e3:needV p=ms:=by unfold needV;rw [if_neg (by omega),if_pos h0,e2]
  refine ⟨⟨hv,fun _=>by rw [e2];exact g3,by omega,by rw [e3];omega,fun u hu=>nm_max (h2 u hu),fun u hu=>nm_max (g2 u (by rwa [e3] at hu))⟩,h2,fun u hu=>g2 u (by rwa [e3] at hu)⟩
 ·have e3 : ∀ u ∈ needV p, u ∈ partV p := fun u hu => by
   unfold needV at hu
   split at hu
   ·cases hu
   ·exact hu
  have e4:(needV p).length≤200:=by
   unfold needV
   split
   ·exact Nat.zero_le _
   ·exact h1
  exact ⟨⟨hv,fun h=>absurd h h0,by omega,by omega,fun u hu=>nm_max (h2 u hu),fun u hu=>nm_max (h2 u (e3 u hu))⟩,h2,fun u hu=>h2 u (e3 u hu)⟩
theorem head_good {s:ByteArray} {ts:List Tm} (hl:ts.length≤100) (h:∀t∈ts,TOk t):avF s ts=some (headV s ts)∧(headV s ts).length≤100000∧∀u∈headV s ts,Nm u:=by
 have e:avF s ts=some (namesL ts):=by
  unfold avF syntax_Atom_Vars.f
  rw [vars_is _ (by omega) _ (by omega)]
  rfl
 have e2:headV s ts=namesL ts:=by unfold headV;rw [e];rfl
 rw [e2]
 exact ⟨e,by have:=namesL_len ts;omega,names_ok h⟩
end Go.Proofs.YtjlnpdpkobpkiaaGreatDoorPSP.Mk
set_option linter.unusedVariables false
set_option linter.unusedSimpArgs false
namespace Go.Proofs.YtjlnpdpkobpkiaaGreatDoorPSP.Mk
open Go Go.Deep Go.ChangeShapes Go.WideShapes Go.RowKit Go.Proofs.YtjlnpdpkobpkiaaGreatDoorW.PrintWords Go.Proofs.YtjlnpdpkobpkiaaGreatDoor
theorem bd64 {x:Int} (h:(Lit.int .i64 x).wf=true): -9223372036854775808≤x∧x≤9223372036854775807:=by
 simpa [Lit.wf,IntKind.min,IntKind.max,IntKind.signed,IntKind.bits] using h
theorem opens_zero {P:Program} {t:TypeId} {α:Type} {R:World→α→List Value→Prop} {ok:α→Prop}:OpensAt P 0 t R ok:=fun hf hx=>by
 obtain rfl:=Nat.le_zero.1 hf
 unfold DataW.trod at hx
 cases hx
theorem opens43 {n:Nat}:OpensAt Tryz.prog n 89 k89.K TN:=
 OpensAt.imp (OpensAt.le (opens_struct (n:=n) (sz:=3) Tryz.underlying89 (by kernel_rfl)
  (.cons (s0:=1) rfl (by kernel_rfl) (opens_int (k:= .i64) Tryz.underlying3) (.cons (s0:=1) rfl (by kernel_rfl) (opens_int (k:= .i64) Tryz.underlying3) (.one (sz:=1) rfl (by kernel_rfl) (opens_int (k:= .i64) Tryz.underlying2))))) (Nat.le_succ n))
  (fun x=>(⟨x.1,x.2.1,x.2.2⟩:S89)) (fun w a cs h _=>by
   obtain ⟨_,_,rfl,rfl,⟨_,_,rfl,rfl,rfl⟩⟩:=h
   exact k89_mk w ⟨a.1,a.2.1,a.2.2⟩) (fun a h=>bd64 h.2.2)
theorem opens44 {n:Nat}:OpensAt Tryz.prog n 22 (RSlice k89.K 3) (fun xs=>∀x∈xs,TN x):=
 OpensAt.imp (OpensAt.le (opens_slice (n:=n) Tryz.underlying22 (by kernel_rfl) opens43) (Nat.le_succ n)) id (fun _ _ _ h _=>h) (fun _ h=>h.2)
def RA (w:World) (x:Int×List S89) (cs:List Value):Prop:=∃A c,cs=[.int .i64 x.1,.slice A x.2.length c]∧x.2.length≤c∧Kd.C k89 w A x.2.length x.2
theorem opens46 {n:Nat}:OpensAt Tryz.prog n 24 RA (fun x=>∀t∈x.2,TN t):=
 OpensAt.imp (OpensAt.le (opens_struct (n:=n) (sz:=2) Tryz.underlying24 (by kernel_rfl)
  (.cons (s0:=1) rfl (by kernel_rfl) (opens_int (k:= .i64) Tryz.underlying3) (.one (sz:=1) rfl (by kernel_rfl) opens44))) (Nat.le_succ n))
  id (fun w a cs h _=>by
   obtain ⟨_,_,rfl,rfl,⟨A,c,rfl,hl,hr⟩⟩:=h
   exact ⟨A,c,rfl,hl,hr⟩) (fun a h=>h.2)
theorem opens49:∀(n:Nat),OpensAt Tryz.prog n 92 k92.K (fun e=>∀d,EN d e):=by
 intro n
 induction n using Nat.strongRecOn with
 |_ n ih=>
  cases n with
  |zero=>exact opens_zero
  |succ n=>
   have hk:OpensAt Tryz.prog n 90 (RSlice k92.K 5) (fun xs=>∀x∈xs,∀d,EN d x):=by
    cases n with
    |zero=>exact opens_zero
    |succ n=>exact OpensAt.imp (opens_slice Tryz.underlying90 (by kernel_rfl) (ih n (by omega))) id (fun _ _ _ h _=>h) (fun _ h=>h.2)
   intro H enc w base spare held fuel cs x hf hx
   exact (OpensAt.imp (ok':=fun e=>∀d,EN d e) (opens_struct (n:=n) (sz:=5) Tryz.underlying92 (by kernel_rfl)
    (.cons (s0:=3) rfl (by kernel_rfl) opens43 (.cons (s0:=1) rfl (by kernel_rfl) (opens_int (k:= .i64) Tryz.underlying3) (.one (sz:=1) rfl (by kernel_rfl) hk))))
    (fun x=>(⟨x.1,x.2.1,x.2.2⟩:S92)) (fun w a cs h _=>by
     obtain ⟨_,_,rfl,h0,⟨_,_,rfl,rfl,⟨A,c,rfl,hl,hr⟩⟩⟩:=h
     obtain rfl:=k89_open h0
     exact k92_mk w ⟨a.1,a.2.1,a.2.2⟩ hl hr) (fun a h d=>by
     cases d with
     |zero=>trivial
     |succ d=>exact ⟨h.1,fun x hx=>h.2.2 x hx d⟩)) hf hx
abbrev PV:=Int×Int×(Int×List S89)×S89×S89×S92
def RP (w:World) (x:PV) (cs:List Value):Prop:=∃A c A' c',cs=[.int .i64 x.1,.int .i64 x.2.1,.int .i64 x.2.2.1.1,.slice A x.2.2.1.2.length c,.int .i64 x.2.2.2.1.f0,.int .i64 x.2.2.2.1.f1,.int .i64 x.2.2.2.1.f2,.int .i64 x.2.2.2.2.1.f0,.int .i64 x.2.2.2.2.1.f1,.int .i64 x.2.2.2.2.1.f2,
  .int .i64 x.2.2.2.2.2.f0.f0,.int .i64 x.2.2.2.2.2.f0.f1,.int .i64 x.2.2.2.2.2.f0.f2,.int .i64 x.2.2.2.2.2.f1,.slice A' x.2.2.2.2.2.f2.length c']∧x.2.2.1.2.length≤c∧Kd.C k89 w A x.2.2.1.2.length x.2.2.1.2∧x.2.2.2.2.2.f2.length≤c'∧Kd.C k92 w A' x.2.2.2.2.2.f2.length x.2.2.2.2.2.f2
def PN (x:PV):Prop:=(∀t∈x.2.2.1.2,TN t)∧TN x.2.2.2.1∧TN x.2.2.2.2.1∧∀d,EN d x.2.2.2.2.2
theorem opens51 {n:Nat}:OpensAt Tryz.prog n 94 RP PN:=
 OpensAt.imp (OpensAt.le (opens_struct (n:=n) (sz:=15) Tryz.underlying94 (by kernel_rfl)
  (.cons (s0:=1) rfl (by kernel_rfl) (opens_int (k:= .i64) Tryz.underlying3) (.cons (s0:=1) rfl (by kernel_rfl) (opens_int (k:= .i64) Tryz.underlying3) (.cons (s0:=2) rfl (by kernel_rfl) opens46
   (.cons (s0:=3) rfl (by kernel_rfl) opens43 (.cons (s0:=3) rfl (by kernel_rfl) opens43 (.one (sz:=5) rfl (by kernel_rfl) (opens49 n)))))))) (Nat.le_succ n))
  id (fun w a cs h _=>by
   obtain ⟨_,_,rfl,rfl,⟨_,_,rfl,rfl,⟨_,_,rfl,⟨A,c,rfl,hl,hr⟩,⟨_,_,rfl,h1,⟨_,_,rfl,h2,h3⟩⟩⟩⟩⟩:=h
   obtain rfl:=k89_open h1
   obtain rfl:=k89_open h2
   obtain ⟨A',c',rfl,hl',hr'⟩:=k92_open h3
   exact ⟨A,c,A',c',rfl,hl,hr,hl',hr'⟩) (fun a h=>⟨h.2.2.1,h.2.2.2.1,h.2.2.2.2.1,h.2.2.2.2.2⟩)
theorem opensPv {n:Nat}:OpensAt Tryz.prog n 94 k94.K PvN:=
 OpensAt.imp opens51 (fun x=>(⟨x.1,x.2.1,⟨x.2.2.1.1,x.2.2.1.2⟩,x.2.2.2.1,x.2.2.2.2.1,x.2.2.2.2.2⟩:PvM)) (fun w a cs h _=>by
  obtain ⟨A,c,A',c',rfl,hl,hr,hl',hr'⟩:=h
  exact k94_mk w ⟨a.1,a.2.1,⟨a.2.2.1.1,a.2.2.1.2⟩,a.2.2.2.1,a.2.2.2.2.1,a.2.2.2.2.2⟩ hl hr hl' hr') (fun a h=>h)
theorem opensPs {n:Nat}:OpensAt Tryz.prog n 25 (RSlice k94.K 15) (fun xs=>∀x∈xs,PvN x):=
 OpensAt.imp (OpensAt.le (opens_slice (n:=n) Tryz.underlying25 (by kernel_rfl) opensPv) (Nat.le_succ n)) id (fun _ _ _ h _=>h) (fun _ h=>h.2)
theorem opensR {n:Nat}:OpensAt Tryz.prog n 27 k27.K RlN:=
 OpensAt.imp (OpensAt.le (opens_struct (n:=n) (sz:=4) Tryz.underlying27 (by kernel_rfl)
  (.cons (s0:=2) rfl (by kernel_rfl) opens46 (.cons (s0:=1) rfl (by kernel_rfl) (opens_int (k:= .i64) Tryz.underlying3) (.one (sz:=1) rfl (by kernel_rfl) opensPs)))) (Nat.le_succ n))
  (fun x=>(⟨⟨x.1.1,x.1.2⟩,x.2.1,x.2.2⟩:RlM)) (fun w a cs h _=>by
   obtain ⟨_,_,rfl,⟨A,c,rfl,hl,hr⟩,⟨_,_,rfl,rfl,⟨A',c',rfl,hl',hr'⟩⟩⟩:=h
   exact k27_mk w ⟨⟨a.1.1,a.1.2⟩,a.2.1,a.2.2⟩ hl hr hl' hr') (fun a h=>⟨h.1,h.2.2⟩)
end Go.Proofs.YtjlnpdpkobpkiaaGreatDoorPSP.Mk
