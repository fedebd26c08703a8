import Derived.Test.YtjlnpdpkobpkiaaGreatDoorZ2PlainS
import Derived.Test.YtjlnpdpkobpkiaaGreatDoorZ2Prc
import Derived.Test.YtjlnpdpkobpkiaaGreatDoorZ2OpS
import Derived.Lib.ItoaNum
import Derived.Lib.Join
import Derived.Test.YtjlnpdpkobpkiaaGreatDoorZ2LeafS
import Derived.Deep.RegionHeld3
import Derived.Test.YtjlnpdpkobpkiaaGreatDoorZ2Hd14
import Derived.Lib.ItoaLen
import Derived.Test.YtjlnpdpkobpkiaaGreatDoorZ2PSPx4
set_option linter.unusedVariables false
set_option linter.unusedSimpArgs false
namespace Go.Proofs.YtjlnpdpkobpkiaaGreatDoorPSP
open Go.RowKit Go.Extern.Stop Go.Stop Go.Extern Go.Proofs.YtjlnpdpkobpkiaaGreatDoorW.PrintWords Go.Proofs.YtjlnpdpkobpkiaaGreatDoor
def spOf (t:Tk):Nat×List UInt8×Nat:=(t.kind,t.text,t.num)
def Okr (r:List UInt8):Prop:=∀c t,r=c::t→innerB c=false
def LxS (b:List UInt8) (sp:List (Nat×List UInt8×Nat)):Prop:=∀r ts,lexAll r= .ok ts→∃us,lexAll (b++r)= .ok (us++ts)∧us.map spOf=sp
def LxW (b:List UInt8) (sp:List (Nat×List UInt8×Nat)):Prop:=∀r ts,Okr r→lexAll r= .ok ts→∃us,lexAll (b++r)= .ok (us++ts)∧us.map spOf=sp
theorem LxS.app {b c:List UInt8} {sp sq:List (Nat×List UInt8×Nat)} (h:LxS b sp) (k:LxS c sq):LxS (b++c) (sp++sq):=by
  intro r ts hr
  obtain ⟨us,h1,h2⟩:=k r ts hr
  obtain ⟨vs,h3,h4⟩:=h _ _ h1
  exact ⟨vs++us,by rw [List.append_assoc,h3,List.append_assoc],by rw [List.map_append,h2,h4]⟩
theorem LxW.app {b:List UInt8} {c:UInt8} {cs:List UInt8} {sp sq:List (Nat×List UInt8×Nat)} (h:LxW b sp) (hc:innerB c=false) (k:LxS (c::cs) sq):LxS (b++c::cs) (sp++sq):=by
  intro r ts hr
  obtain ⟨us,h1,h2⟩:=k r ts hr
  obtain ⟨vs,h3,h4⟩:=h _ _ (fun d t e=>by injection e with e _;rw [←e];exact hc) h1
  exact ⟨vs++us,by rw [List.append_assoc,h3,List.append_assoc],by rw [List.map_append,h2,h4]⟩
theorem LxS.w {b:List UInt8} {sp:List (Nat×List UInt8×Nat)} (h:LxS b sp):LxW b sp:=fun r ts _ hr=>h r ts hr
theorem LxW.pre {b c:List UInt8} {sp sq:List (Nat×List UInt8×Nat)} (h:LxS b sp) (k:LxW c sq):LxW (b++c) (sp++sq):=by
  intro r ts ho hr
  obtain ⟨us,h1,h2⟩:=k r ts ho hr
  obtain ⟨vs,h3,h4⟩:=h _ _ h1
  exact ⟨vs++us,by rw [List.append_assoc,h3,List.append_assoc],by rw [List.map_append,h2,h4]⟩
theorem lex_one {b r:List UInt8} {k m p:Nat} {x:List UInt8} {ts:List Tk} (hk:k≠0) (hn:nextS (b++r)= .tok k x m p r) (hr:lexAll r= .ok ts):lexAll (b++r)= .ok ([⟨k,x,m,p⟩]++ts):=by
  rw [lexAll_step,hn]
  simp only
  rw [if_neg hk,hr]
  rfl
theorem sign_ls {c:UInt8} (h:c=40∨c=41∨c=44∨c=45):LxS [c] [(5,[c],0)]:=by
  intro r ts hr
  refine ⟨[⟨5,[c],0,(c::r).length⟩],lex_one (by decide) ?_ hr,rfl⟩
  rcases h with rfl|rfl|rfl|rfl <;>simp [nextS,tokS,skip,blankB,signS,signL,Lib.hasPrefix,List.isPrefixOf]
theorem takeW_app {f:UInt8→Bool} {b r:List UInt8} (hb:b.all f=true) (hr:∀c t,r=c::t→f c=false):(b++r).takeWhile f=b∧(b++r).dropWhile f=r:=by
  induction b with
  |nil=>
    cases r with
    |nil=>exact ⟨rfl,rfl⟩
    |cons c t=>rw [List.nil_append,List.takeWhile_cons,List.dropWhile_cons,hr c t rfl];exact ⟨rfl,rfl⟩
  |cons a b ih=>
    rw [List.all_cons,Bool.and_eq_true] at hb
    rw [List.cons_append,List.takeWhile_cons,List.dropWhile_cons,if_pos hb.1,if_pos hb.1,(ih hb.2).1,(ih hb.2).2]
    exact ⟨rfl,rfl⟩
theorem word_lw {k:Nat} {c:UInt8} {t:List UInt8} (hk:k≠0) (hs:∀r,nextS (c::t++r)=wordS k (c::t++r)) (ha:(c::t).all innerB=true) (hl:(c::t).length≤40):LxW (c::t) [(k,c::t,0)]:=by
  intro r ts ho hr
  obtain ⟨h1,h2⟩:=takeW_app ha ho
  refine ⟨[⟨k,c::t,0,(c::t++r).length⟩],lex_one hk ?_ hr,rfl⟩
  rw [hs,wordS,h1,h2,if_neg (by omega)]
theorem low_next {c:UInt8} {t:List UInt8} (hc:97≤c.toNat∧c.toNat≤122) (r:List UInt8):nextS (c::t++r)=wordS 1 (c::t++r):=by
  have h1:(c==35)=false:=by simpa using fun e=>by subst e;exact absurd hc.1 (by decide)
  have h2:blankB c=false:=by
    unfold blankB
    have:∀d:UInt8,d.toNat<97→(c==d)=false:=fun d hd=>by simpa using fun e=>by subst e;omega
    rw [this 32 (by decide),this 9 (by decide),this 13 (by decide),this 10 (by decide)]
    rfl
  rw [nextS,List.cons_append,skip,h1,h2,if_neg (by decide),if_neg (by decide),tokS,if_pos hc]
theorem up_next {c:UInt8} {t:List UInt8} (hc:65≤c.toNat∧c.toNat≤90) (r:List UInt8):nextS (c::t++r)=wordS 2 (c::t++r):=by
  have h1:(c==35)=false:=by simpa using fun e=>by subst e;exact absurd hc.1 (by decide)
  have h2:blankB c=false:=by
    unfold blankB
    have:∀d:UInt8,d.toNat<65→(c==d)=false:=fun d hd=>by simpa using fun e=>by subst e;omega
    rw [this 32 (by decide),this 9 (by decide),this 13 (by decide),this 10 (by decide)]
    rfl
  rw [nextS,List.cons_append,skip,h1,h2,if_neg (by decide),if_neg (by decide),tokS,if_neg (by omega),if_pos hc]
theorem quote_ls (l:List UInt8) (h:l.length≤40) (hf:l.all fineB=true):LxS (quoteL l) [(4,l,0)]:=by
  intro r ts hr
  refine ⟨[⟨4,l,0,(quoteL l++r).length⟩],lex_one (by decide) ?_ hr,rfl⟩
  have e:quoteL l++r=34::(escL l++34::r):=by unfold quoteL;simp
  rw [e,nextS,skip34,tokS,if_neg (by decide),if_neg (by decide),if_neg (by decide),if_pos rfl,text_esc _ l r [] (by simpa using h) hf]
  rfl
theorem dig_in {d:Nat} (h:d<10):digB (UInt8.ofNat (48+d))=true∧(UInt8.ofNat (48+d)).toNat-48=d∧48≤(UInt8.ofNat (48+d)).toNat∧(UInt8.ofNat (48+d)).toNat≤57:=by
  have hc:d=0∨d=1∨d=2∨d=3∨d=4∨d=5∨d=6∨d=7∨d=8∨d=9:=by omega
  rcases hc with rfl|rfl|rfl|rfl|rfl|rfl|rfl|rfl|rfl|rfl <;>decide
theorem num_dec (p:Nat):∀(n:Nat),n≤9223372036854775808→∀r,numS p 0 (Lib.decDigits n++r)=numS p n r:=by
  intro n
  induction n using Nat.strongRecOn with
  |_ n ih=>
    intro hn r
    rw [Lib.decDigits]
    split
    · rename_i h
      obtain ⟨h1,h2,_⟩:=dig_in h
      rw [List.cons_append,List.nil_append,numS,if_pos h1,h2,if_neg (by omega)]
      congr 1
      omega
    · rename_i h
      obtain ⟨h1,h2,_⟩:=dig_in (show n % 10<10 by omega)
      rw [List.append_assoc,ih (n / 10) (by omega) (by omega),List.cons_append,List.nil_append,numS,if_pos h1,h2,if_neg (by omega)]
      congr 1
      omega
theorem dec_cons (n:Nat):∃c t,Lib.decDigits n=c::t∧48≤c.toNat∧c.toNat≤57:=by
  induction n using Nat.strongRecOn with
  |_ n ih=>
    rw [Lib.decDigits]
    split
    · rename_i h
      obtain ⟨_,_,h3,h4⟩:=dig_in h
      exact ⟨_,_,rfl,h3,h4⟩
    · rename_i h
      obtain ⟨c,t,e,h1,h2⟩:=ih (n / 10) (by omega)
      rw [e]
      exact ⟨c,_,rfl,h1,h2⟩
theorem num_lw (n:Nat) (hn:n≤9223372036854775808):LxW (Lib.decDigits n) [(3,[],n)]:=by
  intro r ts ho hr
  obtain ⟨c,t,e,h1,h2⟩:=dec_cons n
  refine ⟨[⟨3,[],n,(Lib.decDigits n++r).length⟩],lex_one (by decide) ?_ hr,rfl⟩
  have hd:numS (Lib.decDigits n++r).length n r= .tok 3 [] n (Lib.decDigits n++r).length r:=by
    cases r with
    |nil=>rfl
    |cons d s=>
      have hi:=ho d s rfl
      have:digB d=false:=by
        unfold digB
        unfold innerB at hi
        simp only [Bool.or_eq_false_iff,Bool.and_eq_false_iff,decide_eq_false_iff_not] at hi ⊢
        omega
      rw [numS,this,if_neg (by decide)]
  have hk:=num_dec (Lib.decDigits n++r).length n hn r
  rw [hd] at hk
  rw [←hk]
  rw [e,List.cons_append,nextS]
  have h3:(c==35)=false:=by simpa using fun e=>by subst e;exact absurd h1 (by decide)
  have h4:blankB c=false:=by
    unfold blankB
    have:∀d:UInt8,d.toNat<48→(c==d)=false:=fun d hd=>by simpa using fun e=>by subst e;omega
    rw [this 32 (by decide),this 9 (by decide),this 13 (by decide),this 10 (by decide)]
    rfl
  rw [skip,h3,h4,if_neg (by decide),if_neg (by decide),tokS,if_neg (by omega),if_neg (by omega),if_pos ⟨h1,h2⟩]
end Go.Proofs.YtjlnpdpkobpkiaaGreatDoorPSP
set_option linter.unusedVariables false
set_option linter.unusedSimpArgs false
namespace Go.Proofs.YtjlnpdpkobpkiaaGreatDoorPSP
open Go.RowKit Go.Extern.Stop Go.Stop Go.Extern Go.Proofs.YtjlnpdpkobpkiaaGreatDoorW.PrintWords Go.Proofs.YtjlnpdpkobpkiaaGreatDoor
abbrev Sp:=List (Nat×List UInt8×Nat)
def TOk2 (t:Tm):Prop:=(∃n:Int,-9223372036854775808≤n∧n≤9223372036854775807∧t=mkT 1 [] n)∨(∃l,l∈varL∧t=mkT 0 l 0)∨(∃l,l∈symL∧t=mkT 2 l 0)
theorem getD_mem {l:List (List UInt8)} {i:Nat} (h:i<l.length):l.getD i []∈l:=by
  rw [List.getD_eq_getElem?_getD,List.getElem?_eq_getElem h]
  exact List.getElem_mem _
theorem tok2_made {t:S89} (h:Mk.TN t):TOk2 (Mk.t43 t):=by
  obtain ⟨hn,_⟩:=md_is t.f1 6 (by decide) (by decide)
  unfold Mk.t43 termV
  generalize md t.f1 6=n at hn ⊢
  have hn6:n<6:=by omega
  split
  · refine .inl ⟨_, ?_, ?_, rfl⟩
    · obtain ⟨h1, h2⟩ := h
      simp only
      split <;>omega
    · obtain ⟨h1, h2⟩ := h
      simp only
      split <;>omega
  · split
    · exact .inr (.inr ⟨_,getD_mem (l:=symL) hn6,rfl⟩)
    · exact .inr (.inl ⟨_,getD_mem (l:=varL) hn6,rfl⟩)
theorem tok2_args {l:List S89} (h:∀t∈l,Mk.TN t):∀t∈Mk.argsOf l,TOk2 t:=by
  unfold Mk.argsOf
  split
  · intro t ht
    rw [List.mem_singleton] at ht
    subst ht
    exact .inr (.inl ⟨[88],by decide,rfl⟩)
  · intro t ht
    obtain ⟨u,hu,rfl⟩:=List.mem_map.1 ht
    exact tok2_made (h u hu)
def textT (t:Tm):List UInt8:=if t.f0=1 then Lib.itoa t.f2 else if t.f0=0∨plainB t.f1.data.toList=true then t.f1.data.toList else quoteL t.f1.data.toList
def specT (t:Tm):Sp:=if t.f0=1 then (if t.f2<0 then [(5,[45],0),(3,[],t.f2.natAbs)] else [(3,[],t.f2.toNat)]) else if t.f0=0 then [(2,t.f1.data.toList,0)] else if plainB t.f1.data.toList=true then [(1,t.f1.data.toList,0)] else [(4,t.f1.data.toList,0)]
theorem var_in {l:List UInt8} (h:l∈varL):LxW l [(2,l,0)]:=by
  simp only [varL,List.mem_cons,List.not_mem_nil,or_false] at h
  rcases h with rfl|rfl|rfl|rfl|rfl|rfl
  all_goals exact word_lw (by decide) (up_next (by decide)) (by decide) (by decide)
theorem sym_in {l:List UInt8} (h:l∈symL):(plainB l=true∧LxW l [(1,l,0)]∧l≠notL)∨(plainB l=false∧LxS (quoteL l) [(4,l,0)]):=by
  simp only [symL,List.mem_cons,List.not_mem_nil,or_false] at h
  rcases h with rfl|rfl|rfl|rfl|rfl|rfl
  · exact .inl ⟨by decide,word_lw (by decide) (low_next (by decide)) (by decide) (by decide),by decide⟩
  · exact .inl ⟨by decide,word_lw (by decide) (low_next (by decide)) (by decide) (by decide),by decide⟩
  · exact .inr ⟨by decide,quote_ls _ (by decide) (by decide)⟩
  · exact .inr ⟨by decide,quote_ls _ (by decide) (by decide)⟩
  · exact .inl ⟨by decide,word_lw (by decide) (low_next (by decide)) (by decide) (by decide),by decide⟩
  · exact .inr ⟨by decide,quote_ls _ (by decide) (by decide)⟩
theorem term_lx {t:Tm} (h:TOk2 t):LxW (textT t) (specT t):=by
  rcases h with ⟨n,h1,h2,rfl⟩|⟨l,hl,rfl⟩|⟨l,hl,rfl⟩
  · have e1 : textT (mkT 1 [] n) = Lib.itoa n := rfl
    have e2:specT (mkT 1 [] n)=if n<0 then [(5,[45],0),(3,[],n.natAbs)] else [(3,[],n.toNat)]:=rfl
    rw [e1,e2]
    unfold Lib.itoa
    split
    · exact LxW.pre (sign_ls (.inr (.inr (.inr rfl)))) (num_lw _ (by omega))
    · exact num_lw _ (by omega)
  · have e1 : textT (mkT 0 l 0) = l := rfl
    have e2:specT (mkT 0 l 0)=[(2,l,0)]:=rfl
    rw [e1,e2]
    exact var_in hl
  · have e1:textT (mkT 2 l 0)=if plainB l=true then l else quoteL l:=by
      have h0:textT (mkT 2 l 0)=if (2:Int)=1 then Lib.itoa 0 else if (2:Int)=0∨plainB l=true then l else quoteL l:=rfl
      rw [h0,if_neg (by decide)]
      by_cases hp:plainB l=true
      · rw [if_pos (.inr hp),if_pos hp]
      · rw [if_neg (fun h=>by rcases h with h|h;exact absurd h (by decide);exact hp h),if_neg hp]
    have e2:specT (mkT 2 l 0)=if plainB l=true then [(1,l,0)] else [(4,l,0)]:=rfl
    rw [e1,e2]
    rcases sym_in hl with ⟨hp,hx,_⟩|⟨hp,hx⟩
    · rw [if_pos hp,if_pos hp];exact hx
    · rw [if_neg (by rw [hp];decide),if_neg (by rw [hp];decide)];exact hx.w
theorem pk_0 (a:Tk) (l:List Tk):pk (a::l) 0=a:=by unfold pk;simp
theorem pk_1 (a b:Tk) (l:List Tk):pk (a::b::l) 1=b:=by unfold pk;simp
theorem map1 {us:List Tk} {a:Nat×List UInt8×Nat} (h:us.map spOf=[a]):∃u,us=[u]∧spOf u=a:=by
  cases us with
  |nil=>cases h
  |cons u us=>
    rw [List.map_cons] at h
    injection h with h1 h2
    rw [List.map_eq_nil_iff] at h2
    subst h2
    exact ⟨u,rfl,h1⟩
theorem sp3 {u:Tk} {k n:Nat} {x:List UInt8} (h:spOf u=(k,x,n)):u.kind=k∧u.text=x∧u.num=n:=by
  unfold spOf at h
  injection h with h1 h2
  injection h2 with h2 h3
  exact ⟨h1,h2,h3⟩
theorem isS_at {u:Tk} {l:List Tk} {x y:List UInt8} {n:Nat} (h:spOf u=(5,x,n)):isS (u::l) 0 y=(x==y):=by
  obtain ⟨h1,h2,_⟩:=sp3 h
  unfold isS
  rw [pk_0,h1,h2]
  rfl
theorem isS_no {u:Tk} {l:List Tk} {y:List UInt8} (h:u.kind≠5):isS (u::l) 0 y=false:=by
  unfold isS
  rw [pk_0]
  simp [h]
theorem term_parse {t:Tm} (h:TOk2 t) (us ts:List Tk) (hu:us.map spOf=specT t):termP (us++ts)= .ok (t,ts):=by
  rcases h with ⟨n,h1,h2,rfl⟩|⟨l,hl,rfl⟩|⟨l,hl,rfl⟩
  · have e2 : specT (mkT 1 [] n) = if n < 0 then [(5, [45], 0), (3, [], n.natAbs)] else [(3, [], n.toNat)] := rfl
    rw [e2] at hu
    split at hu
    · rename_i hneg
      cases us with
      |nil=>cases hu
      |cons u us=>
        rw [List.map_cons] at hu
        injection hu with hu1 hu2
        obtain ⟨v,rfl,hv⟩:=map1 hu2
        obtain ⟨k1,k2,k3⟩:=sp3 hu1
        obtain ⟨m1,m2,m3⟩:=sp3 hv
        have hm:isS (u::v::ts) 0 [45]=true:=by rw [isS_at hu1];rfl
        show termP (u::v::ts)=_
        unfold termP
        rw [pk_0,if_neg (by rw [k1];decide),if_neg (by rw [k1];simp),if_pos (.inr hm)]
        unfold numP
        rw [if_pos hm,pk_1,if_pos m1,m3]
        have:negN n.natAbs=n:=by
          unfold negN
          rw [IntKind.wrap_u64]
          unfold wrap64
          omega
        rw [this]
        rfl
    · rename_i hneg
      obtain ⟨v,rfl,hv⟩:=map1 hu
      obtain ⟨m1,m2,m3⟩:=sp3 hv
      have hm:isS (v::ts) 0 [45]=false:=isS_no (by rw [m1];decide)
      show termP (v::ts)=_
      unfold termP
      rw [pk_0,if_neg (by rw [m1];decide),if_neg (by rw [m1];simp),if_pos (.inl m1)]
      unfold numP
      rw [if_neg (by rw [hm];decide),pk_0,if_pos ⟨m1,by rw [m3];omega⟩,m3]
      have:posN n.toNat=n:=by
        unfold posN wrap64
        omega
      rw [this]
      rfl
  · obtain ⟨v, rfl, hv⟩ := map1 (show us.map spOf = [(2, l, 0)] from hu)
    obtain ⟨m1,m2,m3⟩:=sp3 hv
    show termP (v::ts)=_
    unfold termP
    rw [pk_0,if_pos m1,m2]
    rfl
  · have e2 : specT (mkT 2 l 0) = if plainB l = true then [(1, l, 0)] else [(4, l, 0)] := rfl
    rw [e2] at hu
    rcases sym_in hl with ⟨hp,_,hn⟩|⟨hp,_⟩
    · rw [if_pos hp] at hu
      obtain ⟨v,rfl,hv⟩:=map1 hu
      obtain ⟨m1,m2,m3⟩:=sp3 hv
      show termP (v::ts)=_
      unfold termP
      rw [pk_0,if_neg (by rw [m1];decide),if_pos (.inr ⟨m1,by rw [m2];exact hn⟩),m2]
      rfl
    · rw [if_neg (by rw [hp]; decide)] at hu
      obtain ⟨v,rfl,hv⟩:=map1 hu
      obtain ⟨m1,m2,m3⟩:=sp3 hv
      show termP (v::ts)=_
      unfold termP
      rw [pk_0,if_neg (by rw [m1];decide),if_pos (.inl m1),m2]
      rfl
def tailL:List Tm→List UInt8
  |[]=>[41]
  |y::ys=>44::(textT y++tailL ys)
def tailS:List Tm→Sp
  |[]=>[(5,[41],0)]
  |y::ys=>(5,[44],0)::(specT y++tailS ys)
theorem tail_cons (xs:List Tm):∃c cs,tailL xs=c::cs∧innerB c=false:=by
  cases xs with
  |nil=>exact ⟨_,_,rfl,by decide⟩
  |cons y ys=>exact ⟨_,_,rfl,by decide⟩
theorem tail_lx:∀(xs:List Tm),(∀t∈xs,TOk2 t)→LxS (tailL xs) (tailS xs)
  |[],_=>sign_ls (.inr (.inl rfl))
  |y::ys,h=>by
    obtain ⟨c,cs,e,hc⟩:=tail_cons ys
    have ih:=tail_lx ys (fun t ht=>h t (List.mem_cons_of_mem _ ht))
    have h1:=term_lx (h y List.mem_cons_self)
    rw [e] at ih
    have h2:=(sign_ls (c:=44) (.inr (.inr (.inl rfl)))).app (h1.app hc ih)
    rw [←e] at h2
    exact h2
def predL:List (List UInt8):=[[112],[113],[114],[101,100,103,101],[112,97,116,104],[115]]
theorem pred_in {l:List UInt8} (h:l∈predL):LxW l [(1,l,0)]∧l≠notL∧l.length≤8:=by
  simp only [predL,List.mem_cons,List.not_mem_nil,or_false] at h
  rcases h with rfl|rfl|rfl|rfl|rfl|rfl
  all_goals exact ⟨word_lw (by decide) (low_next (by decide)) (by decide) (by decide),by decide,by decide⟩
def atomL (p:List UInt8) (x:Tm) (xs:List Tm):List UInt8:=p++40::(textT x++tailL xs)
def atomSp (p:List UInt8) (x:Tm) (xs:List Tm):Sp:=[(1,p,0)]++([(5,[40],0)]++(specT x++tailS xs))
theorem atom_lx {p:List UInt8} {x:Tm} {xs:List Tm} (hp:p∈predL) (hx:TOk2 x) (hxs:∀t∈xs,TOk2 t):LxS (atomL p x xs) (atomSp p x xs):=by
  obtain ⟨c,cs,e,hc⟩:=tail_cons xs
  have ih:=tail_lx xs hxs
  rw [e] at ih
  have h2:=(sign_ls (c:=40) (.inl rfl)).app ((term_lx hx).app hc ih)
  rw [←e] at h2
  exact (pred_in hp).1.app (by decide) h2
theorem join_tail (x:Tm) (xs:List Tm):Lib.join ((x::xs).map textT) [44]++[41]=textT x++tailL xs:=by
  rw [List.map_cons,Lib.join_cons,List.append_assoc]
  congr 1
  induction xs with
  |nil=>rfl
  |cons y ys ih=>
    unfold Lib.joinTail at ih ⊢
    rw [List.map_cons,List.map_cons,List.flatten_cons,List.append_assoc,ih]
    rfl
theorem map_app {us:List Tk} {a b:Sp} (h:us.map spOf=a++b):∃u v,us=u++v∧u.map spOf=a∧v.map spOf=b:=by
  obtain ⟨u,v,h1,h2,h3⟩:=List.map_eq_append_iff.1 h
  exact ⟨u,v,h1,h2,h3⟩
theorem plain_parse {t:Tm} (h:TOk2 t) (us ts:List Tk) (hu:us.map spOf=specT t):plainP (us++ts)= .ok ((t,0),ts):=by
  unfold plainP bnd
  rw [term_parse h us ts hu]
theorem args_ok:∀(xs:List Tm) (x:Tm) (acc:List Tm) (n:Nat) (us ts:List Tk),TOk2 x→(∀t∈xs,TOk2 t)→us.map spOf=specT x++tailS xs →
    (xs.length+1≤n→∃u,spOf u=(5,[41],0)∧argsL plainP n acc (us++ts)= .ok ((acc++x::xs,0),u::ts))∧(n<xs.length+1→∃q,argsL plainP n acc (us++ts)= .error (3,q))
  |[],x,acc,n,us,ts,hx,hxs,hu=>by
    obtain ⟨u,v,rfl,h1,h2⟩:=map_app hu
    obtain ⟨w,rfl,hw⟩:=map1 (show v.map spOf=[(5,[41],0)] from h2)
    cases n with
    |zero=>exact ⟨fun h=>absurd h (by simp),fun _=>⟨_,rfl⟩⟩
    |succ n=>
      refine ⟨fun _=>⟨w,hw,?_⟩,fun h=>absurd h (by simp)⟩
      rw [argsL,bnd,List.append_assoc,plain_parse hx u ([w]++ts) h1]
      simp only
      rw [if_neg (by decide),if_neg (by rw [List.singleton_append,isS_at hw];decide)]
      rfl
  |y::ys,x,acc,n,us,ts,hx,hxs,hu=>by
    obtain ⟨u,v,rfl,h1,h2⟩:=map_app hu
    cases v with
    |nil=>cases h2
    |cons w v=>
      rw [List.map_cons] at h2
      injection h2 with hw h3
      cases n with
      |zero=>exact ⟨fun h=>absurd h (by simp),fun _=>⟨_,rfl⟩⟩
      |succ n=>
        have ih:=args_ok ys y (acc++[x]) n v ts (hxs y List.mem_cons_self) (fun t ht=>hxs t (List.mem_cons_of_mem _ ht)) h3
        have e:argsL plainP (n+1) acc (u++w::v++ts)=argsL plainP n (acc++[x]) (v++ts):=by
          rw [argsL,bnd,List.append_assoc,plain_parse hx u (w::v++ts) h1]
          simp only
          rw [if_neg (by decide),List.cons_append,if_pos (by rw [isS_at hw];decide)]
          rfl
        rw [e]
        refine ⟨fun h=> ?_,fun h=>ih.2 (by simp at h;omega)⟩
        obtain ⟨z,hz,hz2⟩:=ih.1 (by simp at h;omega)
        exact ⟨z,hz,by rw [hz2];simp⟩
theorem atom_parse {p:List UInt8} {x:Tm} {xs:List Tm} (hp:p∈predL) (hx:TOk2 x) (hxs:∀t∈xs,TOk2 t) (us ts:List Tk) (hu:us.map spOf=atomSp p x xs):
    (xs.length+1≤6→atomP (us++ts)= .ok (mkA p (x::xs),ts))∧(6<xs.length+1→∃q,atomP (us++ts)= .error (3,q)):=by
  obtain ⟨u,v,rfl,h1,h2⟩:=map_app hu
  obtain ⟨u,rfl,hu1⟩:=map1 h1
  obtain ⟨v,w,rfl,h3,h4⟩:=map_app h2
  obtain ⟨v,rfl,hv⟩:=map1 h3
  obtain ⟨k1,k2,k3⟩:=sp3 hu1
  have hargs:=args_ok xs x [] 6 w ts hx hxs h4
  have e:atomP ([u]++([v]++w)++ts)=bnd (argsL plainP 6 []) (fun r=>bnd (wantP [41]) (fun _ l'=> .ok (mkA p r.1,l'))) (w++ts):=by
    show atomP (u::v::(w++ts))=_
    unfold atomP
    rw [bnd]
    unfold nameP
    rw [pk_0,if_pos ⟨k1,by rw [k2];exact (pred_in hp).2.1⟩,k2]
    simp only [List.drop_succ_cons,List.drop_zero]
    unfold argsP
    rw [bnd,bnd]
    unfold wantP
    rw [if_pos (by rw [isS_at hv];decide)]
    simp only [List.drop_succ_cons,List.drop_zero]
    rw [bnd,bnd]
    cases argsL plainP 6 [] (w++ts) with
    |error e=>rfl
    |ok r=>
      obtain ⟨r,l⟩:=r
      simp only
      rw [bnd,bnd]
      split <;>rename_i hh <;>split at hh <;>cases hh <;>rfl
  rw [e]
  constructor
  · intro h
    obtain ⟨z,hz,hz2⟩:=hargs.1 h
    rw [bnd,hz2]
    simp only
    rw [bnd]
    unfold wantP
    rw [if_pos (by rw [isS_at hz];decide)]
    rfl
  · intro h
    obtain ⟨q,hq⟩:=hargs.2 h
    exact ⟨q,by rw [bnd,hq]⟩
end Go.Proofs.YtjlnpdpkobpkiaaGreatDoorPSP
set_option linter.unusedVariables false
set_option linter.unusedSimpArgs false
namespace Go.Proofs.YtjlnpdpkobpkiaaGreatDoorPSP
open Go.RowKit Go.Extern.Stop Go.Stop Go.Extern Go.Proofs.YtjlnpdpkobpkiaaGreatDoorW.PrintWords Go.Proofs.YtjlnpdpkobpkiaaGreatDoor
set_option maxRecDepth 100000 in
theorem TermStr_any {t:Tm} (ht:TOk2 t) {w:World} (hG:TabT w):
    Calls Tryz.prog 57 #[.agg #[.int .i64 t.f0,.string t.f1,.int .i64 t.f2]] w (RetB w (.string (bytesL (textT t)))):=by
  have b1:Hid (Below w.heap.size w (w.alloc (.cells #[.int .i64 t.f0,.string t.f1,.int .i64 t.f2] 98))):=hid ((Below.refl _ _).alloc (Nat.le_refl _) _)
  rcases ht with ⟨n,h1,h2,rfl⟩|⟨l,hl,rfl⟩|⟨l,hl,rfl⟩
  · have HF := hid (strconv_FormatInt.calls n 10 (bytesL (Lib.itoa n)) _ (by unfold strconv_FormatInt.f; rw [if_pos ⟨h1, h2, rfl⟩]) (tab_below hG b1.out))
    clear h1 h2 hG
    show Calls Tryz.prog 57 #[.agg #[.int .i64 1,.string (bL []),.int .i64 n]] w (RetB w (.string (bytesL (Lib.itoa n))))
    go_enter Tryz.func57,Tryz.ntmps57
    go_wp2_with fail
    refine HF.out.mono ?_
    rintro e w' ⟨rfl,hb⟩
    have HB:=hid (below_step b1.out hb)
    clear hb
    go_wp2
    go_ret
    exact ⟨rfl,HB.out⟩
  · have hs : textT (mkT 0 l 0) = l := rfl
    rw [hs]
    show Calls Tryz.prog 57 #[.agg #[.int .i64 0,.string (bytesL l),.int .i64 0]] w (RetB w (.string (bytesL l)))
    obtain ⟨x,hx⟩:∃x,x=bytesL l:=⟨_,rfl⟩
    have B1:Hid (Below w.heap.size w (w.alloc (.cells #[.int .i64 0,.string x,.int .i64 0] 98))):=hid ((Below.refl _ _).alloc (Nat.le_refl _) _)
    rw [←hx]
    clear hG hl hx b1 hs
    go_enter Tryz.func57,Tryz.ntmps57
    go_wp2
    go_ret
    exact ⟨rfl,B1.out⟩
  · have hsz:l.length≤100:=by
      simp only [symL,List.mem_cons,List.not_mem_nil,or_false] at hl
      rcases hl with rfl|rfl|rfl|rfl|rfl|rfl <;>decide
    have hs:textT (mkT 2 l 0)=if plainB l=true then l else quoteL l:=by
      have h0:textT (mkT 2 l 0)=if (2:Int)=1 then Lib.itoa 0 else if (2:Int)=0∨plainB l=true then l else quoteL l:=rfl
      rw [h0,if_neg (by decide)]
      by_cases hp:plainB l=true
      · rw [if_pos (.inr hp),if_pos hp]
      · rw [if_neg (fun h=>by rcases h with h|h;exact absurd h (by decide);exact hp h),if_neg hp]
    rw [hs]
    show Calls Tryz.prog 57 #[.agg #[.int .i64 2,.string (bytesL l),.int .i64 0]] w (RetB w (.string (bytesL (if plainB l=true then l else quoteL l))))
    obtain ⟨x,hx⟩:∃x,x=bytesL l:=⟨_,rfl⟩
    have hxs:x.size≤1073741824:=by rw [hx];show l.toArray.size≤_;rw [List.size_toArray];omega
    have hxd:x.data.toList=l:=by rw [hx]
    have B1:Hid (Below w.heap.size w (w.alloc (.cells #[.int .i64 2,.string x,.int .i64 0] 98))):=hid ((Below.refl _ _).alloc (Nat.le_refl _) _)
    have HPl:=hid (fun W=>Plain_any x W hxs)
    rw [hxd] at HPl
    have HQ:=hid (fun W=>lex_Quote.calls x (bytesOf (quoteL l)) W (by unfold lex_Quote.f;rw [if_pos hxs,hxd]))
    have HX:=hid hx
    rw [←hx]
    clear hG hl hx b1 hs hxs hxd hsz
    obtain ⟨bp,hbp⟩:∃b,plainB l=b:=⟨_,rfl⟩
    rw [hbp] at HPl ⊢
    obtain ⟨rs,hrs⟩:∃r,r=bytesL (if bp=true then l else quoteL l):=⟨_,rfl⟩
    have HR:=hid hrs
    rw [←hrs]
    clear hbp hrs
    go_enter Tryz.func57,Tryz.ntmps57
    go_wp2_with fail
    refine (HPl.out _).mono ?_
    rintro e w' ⟨rfl,hw⟩
    subst hw
    cases bp
    · go_wp2_with fail
      refine (HQ.out _).mono ?_
      rintro e w' ⟨rfl,hb⟩
      have HB:=hid (below_step B1.out hb)
      clear hb
      go_wp2
      go_ret
      exact ⟨by rw [HR.out];rfl,HB.out⟩
    · go_wp2
      go_ret
      exact ⟨by rw [HR.out,HX.out];rfl,B1.out⟩
theorem tail_len:∀(xs:List Tm),(∀t∈xs,(textT t).length≤100)→(tailL xs).length≤101*xs.length+1
  |[],_=>Nat.le_refl _
  |y::ys,h=>by
    have h1:=tail_len ys (fun t ht=>h t (List.mem_cons_of_mem _ ht))
    have h2:=h y List.mem_cons_self
    show (44::(textT y++tailL ys)).length≤_
    rw [List.length_cons,List.length_append,List.length_cons]
    omega
theorem join_small (ts:List Tm) (h:∀t∈ts,(textT t).length≤100) (hn:ts.length≤100):(Lib.join (ts.map textT) [44]).length≤20000:=by
  cases ts with
  |nil=>exact Nat.zero_le _
  |cons x xs=>
    have e:=congrArg List.length (join_tail x xs)
    have h1:=tail_len xs (fun t ht=>h t (List.mem_cons_of_mem _ ht))
    have h2:=h x List.mem_cons_self
    rw [List.length_append,List.length_append] at e
    simp at e hn
    simp only [List.map_cons]
    omega
structure StOk (w:World) (ts:List Tm) (i:Nat) (v:Value) (wr:World):Prop where
  be:Below w.heap.size w wr
  ls:Kd.R Kd.string 9 wr w.heap.size (fun _=>True) v ((ts.take i).map fun t=>bytesL (textT t))
set_option maxHeartbeats 4000000 in
set_option maxRecDepth 100000 in
theorem AtomStr_any (s:ByteArray) (ts:List Tm) (ht:∀t∈ts,TOk2 t) (hn:ts.length≤100) (hl:∀t∈ts,(textT t).length≤100) (hs:s.size≤1000) {w:World} (hG:TabT w) {A:Option Addr} {c:Nat} (hA:Kd.C k98 w A ts.length ts) (hc:ts.length≤c):
    Calls Tryz.prog 24 #[.agg #[.string s,.slice A ts.length c]] w (RetB w (.string (s++⟨#[40]⟩++bytesL (Lib.join (ts.map textT) [44])++⟨#[41]⟩))):=by
  have X0:Hid (Below w.heap.size w (w.alloc (.cells #[.string s,.slice A ts.length c] 33))):=hid ((Below.refl _ _).alloc (Nat.le_refl _) _)
  have K0:Hid ((w.alloc (.cells #[.string s,.slice A ts.length c] 33)).heap[w.heap.size]? =some (.cells #[.string s,.slice A ts.length c] 33 (0,0))):=hid (heap_alloc_new w _)
  have GA:=hid (Kd.C_below hA X0.out)
  have GT:=hid (tab_below hG X0.out)
  have HT:=hid ht
  have HS:=hid hs
  have HL:=hid hl
  obtain ⟨n,hnl⟩:∃n,n=ts.length:=⟨_,rfl⟩
  have HN:=hid hnl
  rw [←hnl] at hn X0 K0 GA GT ⊢
  have HNL:=hid hn
  clear hA hG ht hnl hn hc hs hl
  go_enter Tryz.func24,Tryz.ntmps24
  go_upto_region 1 with fail
  generalize w.alloc (.cells #[.string s,.slice A n c] 33)=W at X0 K0 GA GT ⊢
  generalize w.heap.size=b3 at K0 ⊢
  have e1:W.cell? ⟨b3,1,none⟩=some (.slice A n c):=(blk_cell K0.out 1).trans rfl
  have V0:Hid (StOk W ts 0 (.slice none 0 0) W):=hid ⟨Below.refl _ _,Kd.R_nil _ _ _ _ _⟩
  go_wp2
  clear e1
  go_loopg [3,9] (n+1) (fun gk v3 v9 wr=>∃(i:Nat) (A3:Option Addr) (m3 c3:Nat),v3= .slice A3 m3 c3∧v9= .int .i64 (i:Int)∧Hid (i≤n)∧Hid (n-i<gk)∧Hid (StOk W ts i (.slice A3 m3 c3) wr))
  case atStart=>exact ⟨0,_,_,_,rfl,rfl,hid (Nat.zero_le _),hid (by omega),V0⟩
  case round=>
    clear V0
    obtain ⟨i,A3,m3,c3,rfl,rfl,HI,HGK,V⟩:=hrel
    obtain ⟨wo,rfl⟩:∃y:World,y=wr:=⟨_,rfl⟩
    by_cases hi:i<n
    · obtain ⟨ad, rfl, h0, h1, h2⟩ := at_T98 (Kd.C_below GA.out V.out.be) (i : Int) (by omega) (by omega)
      have hi':i<ts.length:=by rw [←HN.out];exact hi
      have hr:=Mk.rd55 ts i hi'
      rw [hr] at h0 h1 h2
      simp only [Int.toNat_natCast] at h0 h1 h2
      have HTS:=hid (fun Y (hY:TabT Y)=>TermStr_any (HT.out ts[i] (List.getElem_mem hi')) hY)
      have htk:((ts.take i).map fun t=>bytesL (textT t))++[bytesL (textT ts[i])]=(ts.take (i+1)).map fun t=>bytesL (textT t):=by rw [List.take_add_one,List.getElem?_eq_getElem hi',List.map_append];rfl
      have HTK:=hid htk
      have hcap:(((ts.take i).map fun t=>bytesL (textT t)).length+1)*16≤140737488355328:=by have:=HNL.out;rw [List.length_map,List.length_take];omega
      have HCP:=hid hcap
      obtain ⟨x,hx⟩:∃x,x=ts[i]:=⟨_,rfl⟩
      rw [←hx] at h0 h1 h2 HTS HTK
      have hi2:(i:Int)<(n:Int):=by omega
      have hi0:(0:Int)≤(i:Int):=by omega
      have HIL:=hid hi
      have w1i:wrap64 ((i:Int)+1)=((i+1:Nat):Int):=Mk.w64 i (by have:=HNL.out;omega)
      obtain ⟨y,hy⟩:∃y,y=bytesL (textT x):=⟨_,rfl⟩
      rw [←hy] at HTS HTK
      clear hi hi' hr htk hcap hx hy
      have VA:=hid (below_step V.out.be (below_alloc (Below.refl _ _) (.cells #[.int .i64 x.f0,.string x.f1,.int .i64 x.f2] 98)))
      have RA:=hid (Kd.R_alloc V.out.ls (.cells #[.int .i64 x.f0,.string x.f1,.int .i64 x.f2] 98))
      have HT2:=hid (HTS.out _ (tab_below GT.out VA.out))
      go_wp2_with fail
      refine HT2.out.mono ?_
      rintro e w6 ⟨rfl,hb6⟩
      have V6:Hid (StOk W ts i (.slice A3 m3 c3) w6):=hid ⟨below_step VA.out hb6,Kd.R_below RA.out hb6⟩
      clear hb6 VA RA V h0 h1 h2 HT2 HTS
      go_wp2_with (at_builtin;go_must (refine Kd.R_append Kd.string (w0:=W) W.heap.size rfl _ _ 74 9 (.string ⟨#[]⟩) 16 rfl Tryz.underlying74 (by kernel_rfl) rfl (by decide) (by decide) (.slice A3 m3 c3) ((ts.take i).map fun t=>bytesL (textT t)) y [.string y] (fun _=>True) (fun _=>False) rfl rfl rfl (fun _ h=>h.elim) (fun _ _=>trivial) V6.out.ls V6.out.be V6.out.be.size HCP.out ?_);intro v9 w9 hR9 hB9 hg9 hat9;have V9:Hid (StOk W ts (i+1) v9 w9):=hid ⟨hB9,by rw [←HTK.out];exact hR9⟩;clear hR9 hB9 hg9 hat9)
      obtain ⟨A9,m9,c9,rfl⟩:∃A m c,v9= .slice A m c:=let ⟨A,c,e⟩:=Kd.R_slice V9.out.ls;⟨A,_,c,e⟩
      go_roundg (n-i)
      case measure=>exact HGK.out
      case rel=>exact ⟨i+1,A9,m9,c9,rfl,by first|rfl|(rw [w1i];done)|(simp [w1i];done),hid HIL.out,hid (by have:=HGK.out;have:=HIL.out;omega),V9⟩
    · obtain rfl : n = i := Nat.le_antisymm (Nat.not_lt.1 hi) HI.out
      clear hi
      have hR:=V.out.ls
      rw [List.take_of_length_le (by rw [←HN.out];exact Nat.le_refl _)] at hR
      have hRd:=Kd.R_reads' hR
      have e0:wo.cell? ⟨b3,0,none⟩=some (.string s):=(blk_cell (blk_below K0.out V.out.be) 0).trans rfl
      obtain ⟨xs,hxs⟩:∃xs,xs=ts.map fun t=>bytesL (textT t):=⟨_,rfl⟩
      rw [←hxs] at hRd
      have hj:xs.map (·.data.toList)=ts.map textT:=by rw [hxs,List.map_map];rfl
      have hxl:xs.length≤100:=by rw [hxs,List.length_map,←HN.out];exact HNL.out
      have hjl:(Lib.join (xs.map (·.data.toList)) [44]).length≤20000:=by
        rw [hj]
        exact join_small ts HL.out (by rw [←HN.out];exact HNL.out)
      have hm3:m3=xs.length:=hRd.1
      have hcx:=hRd.2.1
      have hC3:=hRd.2.2
      rw [←hm3] at hC3
      obtain ⟨j,hjd⟩:∃j,j=bytesL (Lib.join (xs.map (·.data.toList)) [44]):=⟨_,rfl⟩
      have hjs:j.size≤20000:=by rw [hjd];show (List.toArray _).size≤_;rw [List.size_toArray];exact hjl
      have HC:=hid hC3
      have HJ:=hid (fun Y (hY:Below wo.heap.size wo Y)=>strings_Join.calls A3 c3 xs ⟨#[44]⟩ j Y (by have:=Kd.C_below hC3 hY;rw [hm3] at this;exact this) (by rw [←hm3];exact hcx) (by unfold strings_Join.f;rw [if_pos ⟨by omega,by show (Lib.join _ [44]).length≤_;omega⟩,hjd]))
      rw [←hm3] at HJ
      have hss:=HS.out
      have ha:¬s.size+(⟨#[40]⟩:ByteArray).size>9223372036854775807:=by show ¬s.size+1>_;omega
      have hb:¬(s++⟨#[40]⟩:ByteArray).size+j.size>9223372036854775807:=by rw [ByteArray.size_append];show ¬s.size+1+j.size>_;omega
      have hc:¬(s++⟨#[40]⟩++j:ByteArray).size+(⟨#[41]⟩:ByteArray).size>9223372036854775807:=by rw [ByteArray.size_append,ByteArray.size_append];show ¬s.size+1+j.size+1>_;omega
      have ha2:s.size+1≤9223372036854775807:=by omega
      have ha3:¬9223372036854775807<s.size+1:=by omega
      have hb2:s.size+1+j.size≤9223372036854775807:=by omega
      have hb3:¬9223372036854775807<s.size+1+j.size:=by omega
      have hc2:s.size+1+j.size+1≤9223372036854775807:=by omega
      have hc3:¬9223372036854775807<s.size+1+j.size+1:=by omega
      have HJD:=hid (show bytesL (Lib.join (ts.map textT) [44])=j by rw [hjd,hj])
      have XW:=hid (below_step X0.out V.out.be)
      have B0:Below wo.heap.size wo wo.drew:=below_drew (Below.refl _ _)
      clear hR hRd hxs hj hxl hjl hm3 hcx hC3 hjd hjs hss V
      go_wp2_with fail
      go_region_held3 (fun Y=>Y.cell? ⟨b3,0,none⟩=some (.string s)∧Below wo.heap.size wo Y)
        (first
          |(exact ⟨(B0.cell (World.block_lt_of_cell? wo _ e0)).trans e0,B0⟩)
          |(exact ⟨(B1.cell (World.block_lt_of_cell? wo _ e0)).trans e0,B1⟩))
        (first
          |(go_at_call 58;refine (HJ.out _ B0).mono ?_;rintro e w6 ⟨rfl,hb6⟩;have B1:Below wo.heap.size wo w6:=below_step B0 hb6))
      go_wp2
      go_ret
      exact ⟨by first|rfl|(rw [HJD.out];rfl),below_step XW.out B1⟩
end Go.Proofs.YtjlnpdpkobpkiaaGreatDoorPSP
set_option linter.unusedVariables false
set_option linter.unusedSimpArgs false
namespace Go.Proofs.YtjlnpdpkobpkiaaGreatDoorPSP
open Go.RowKit Go.Extern.Stop Go.Stop Go.Extern Go.Proofs.YtjlnpdpkobpkiaaGreatDoorW.PrintWords Go.Proofs.YtjlnpdpkobpkiaaGreatDoor
def topP (s:List UInt8):Except (Nat×Nat) Am:=match tokP s with
  | .error e=> .error e
  | .ok l=>match atomP l with
    | .error e=> .error e
    | .ok (a,l')=>if (pk l' 0).kind=0 then .ok a else .error (1,(pk l' 0).start)
def TopPost (w:World) (r:Except (Nat×Nat) Am) (e:Ending) (w':World):Prop:=match r with
  | .ok v=>∃A c,e= .returned (.tuple #[.agg #[.string v.f0,.slice A v.f1.length c],.nilIface])∧v.f1.length≤c∧Kd.C k98 w' A v.f1.length v.f1∧Below w.heap.size w w'
  | .error (t,p)=>∃f what,e= .returned (.tuple #[.agg #[.string ⟨#[]⟩,.slice none 0 0],faultV f])∧FaultAt w' f (t:Int) (p:Int) what .nilIface∧Below w.heap.size w w'
theorem below_put2 {B:Nat} {w0 w:World} (h:Below B w0 w) {b:Nat} (hb:B≤b) {u0 u1:Value}:Below B w0 ((w.setCell ⟨b,0,none⟩ u0).setCell ⟨b,1,none⟩ u1):=(h.setCell (p:=⟨b,0,none⟩) hb _).setCell (p:=⟨b,1,none⟩) hb _
theorem fault_ne {w:World} {f b:Nat} {t a:Int} {x:ByteArray} {y:Value} {cs:Array Value} (h:FaultAt w f t a x y) (hb:w.heap[b]? =some (.cells cs 33 (0,0))):b≠f:=by
  rintro rfl
  unfold FaultAt at h
  rw [hb] at h
  injection h with h
  injection h with _ h
  exact absurd h (by decide)
set_option maxHeartbeats 4000000 in
set_option maxRecDepth 100000 in
theorem Atom_top (s:ByteArray) (hs:s.size≤1073741824) (w:World):Calls Tryz.prog 25 #[.string s] w (TopPost w (topP s.data.toList)):=by
  have HT:=hid (fun Y=>tokens_any s hs Y)
  have hfk:=field_kind
  have B0:Hid (Below w.heap.size w (w.alloc atomO)):=hid ((Below.refl _ _).alloc (Nat.le_refl _) _)
  have S0:(w.alloc atomO).heap.size=w.heap.size+1:=by simp
  have HS0:=hid S0
  clear hs S0
  go_enter Tryz.func25,Tryz.ntmps25
  go_wp2_with fail
  refine (HT.out _).mono ?_
  intro e w1 hp
  cases hr:tokP s.data.toList with
  |error v=>
    obtain ⟨t,p⟩:=v
    have HQ:Hid (topP s.data.toList= .error (t,p)):=by show _=_;unfold topP;rw [hr]
    rw [hr] at hp
    obtain ⟨f,what,rfl,hFa,hb⟩:=hp
    have hne:=fault_ne hFa ((hb.block w.heap.size (by simp)).trans (heap_alloc_new w atomO))
    obtain ⟨r0,r1,q0,q1⟩:=blk2 ((hb.block _ (by simp)).trans (heap_alloc_new w atomO))
    have K:=hid (And.intro hFa (And.intro hne (below_step B0.out hb)))
    clear hFa hb hr hne
    go_wp2
    refine bodyPost_ret (v:= .tuple #[.agg #[.string ⟨#[]⟩,.slice none 0 0],faultV f]) (by simp [results,Tryz.results25,go_sem,r0,r1,q0,q1]) rfl ?_
    rw [HQ.out]
    exact ⟨f,what,rfl,K.out.1.put2 K.out.2.1,below_put2 K.out.2.2 (Nat.le_refl _)⟩
  |ok ts=>
    have HQ:Hid (topP s.data.toList=match atomP ts with
      | .error e=> .error e
      | .ok (a,l')=>if (pk l' 0).kind=0 then .ok a else .error (1,(pk l' 0).start)):=by show _=_;unfold topP;rw [hr]
    rw [hr] at hp
    obtain ⟨E,rfl,hA,hlb,hlg,hb⟩:=hp
    have HA:=hid (atom_any hA)
    have KR:=hid ((hb.block w.heap.size (by simp)).trans (heap_alloc_new w atomO))
    have X1:=hid (below_step B0.out hb)
    have hEb:w.heap.size<E.b:=by have:=hlb;simp at this;omega
    have hsz1:=hb.size
    clear hA hb hr HT hlg
    go_wp2_with fail
    refine HA.out.mono ?_
    intro e w2 hp
    cases hr:atomP ts with
    |error v=>
      obtain ⟨t,p⟩:=v
      have HR:Hid (topP s.data.toList= .error (t,p)):=by show _=_;rw [HQ.out,hr]
      rw [hr] at hp
      obtain ⟨f,what,x,A,n,c,rfl,hFa,hlf,hF⟩:=hp
      have kr:=(hF.block _ (Go.Proofs.YtjlnpdpkobpkiaaGreatDoor.blk_lt KR.out) (by omega)).trans KR.out
      have hX2:=X1.out.trans (hF.below X1.out.size (fun i hi=>by omega))
      have hne:=fault_ne hFa kr
      have hlt2:=Go.Proofs.YtjlnpdpkobpkiaaGreatDoor.blk_lt kr
      obtain ⟨V,hV⟩:∃V,V=w2.alloc (.cells #[.string x,.slice A n c] 33):=⟨_,rfl⟩
      have hFV:FaultAt V f (t:Int) (p:Int) what .nilIface:=by rw [hV];exact (Lib.alloc_old _ _ f (Go.Proofs.YtjlnpdpkobpkiaaGreatDoor.blk_lt hFa)).trans hFa
      have hXV:Below w.heap.size w V:=by rw [hV];exact below_alloc hX2 _
      have K:=hid (And.intro hFV (And.intro hne hXV))
      obtain ⟨r0,r1,q0,q1⟩:=blk2 (show V.heap[w.heap.size]? =some atomO by rw [hV];exact (Lib.alloc_old _ _ _ hlt2).trans kr)
      clear hFa hF hr kr hX2 hne HQ hFV hXV
      go_upto_region 5 with fail
      rw [←hV]
      clear hV
      go_wp2
      refine bodyPost_ret (v:= .tuple #[.agg #[.string ⟨#[]⟩,.slice none 0 0],faultV f]) (by simp [results,Tryz.results25,go_sem,r0,r1,q0,q1]) rfl ?_
      rw [HR.out]
      exact ⟨f,what,rfl,K.out.1.put2 K.out.2.1,below_put2 K.out.2.2 (Nat.le_refl _)⟩
    |ok v=>
      obtain ⟨v,l'⟩:=v
      have HR:Hid (topP s.data.toList=if (pk l' 0).kind=0 then .ok v else .error (1,(pk l' 0).start)):=by show _=_;rw [HQ.out,hr]
      rw [hr] at hp
      obtain ⟨j',A,c,rfl,hA2,hc,hK,hF⟩:=hp
      have kr:=(hF.block _ (Go.Proofs.YtjlnpdpkobpkiaaGreatDoor.blk_lt KR.out) (by omega)).trans KR.out
      have hX2:=X1.out.trans (hF.below X1.out.size (fun i hi=>by omega))
      have hlt2:=Go.Proofs.YtjlnpdpkobpkiaaGreatDoor.blk_lt kr
      have s2:=hF.size
      obtain ⟨V,hV⟩:∃V,V=w2.alloc (.cells #[.string v.f0,.slice A v.f1.length c] 33):=⟨_,rfl⟩
      have KV:Hid (V.heap[w.heap.size]? =some atomO):=hid (by rw [hV];exact (Lib.alloc_old _ _ _ hlt2).trans kr)
      have KN:Hid (V.heap[w2.heap.size]? =some (.cells #[.string v.f0,.slice A v.f1.length c] 33 (0,0))):=hid (by rw [hV];exact heap_alloc_new w2 _)
      have HA3:Hid (At E V j' 0 l'):=hid (by rw [hV];exact hA2.alloc _)
      have XV:Hid (Below w.heap.size w V):=hid (by rw [hV];exact below_alloc hX2 _)
      have HK:Hid (Kd.F k98 V (fun i=>w1.heap.size≤i) A v.f1.length v.f1):=hid (by rw [hV];exact Kd.F_step hK (fun i hi hlt=>Lib.alloc_old _ _ i hlt))
      have HCc:=hid hc
      obtain ⟨n0,hn0⟩:∃n:Int,((pk l' 0).num:Int)=n:=⟨_,rfl⟩
      obtain ⟨p0,hp0⟩:∃n:Int,((pk l' 0).start:Int)=n:=⟨_,rfl⟩
      obtain ⟨x0,hx0⟩:∃x,bL (pk l' 0).text=x:=⟨_,rfl⟩
      obtain ⟨a0,ha0⟩:∃n:Int,((pk l' 0).kind:Int)=n:=⟨_,rfl⟩
      have HPk:=hid (peek_at HA3.out 0 (by decide) ha0 hx0 hn0 hp0)
      have HA0:=hid ha0
      have hw1:w.heap.size<w1.heap.size:=by have:=hsz1;simp at this;omega
      have HW1:=hid hw1
      clear hA2 hc hK hF hr kr hX2 HQ hn0 hp0 hx0 ha0 hw1 hsz1 s2
      go_upto_region 5 with fail
      rw [←hV]
      have HN2:Hid (w.heap.size<w2.heap.size):=hid hlt2
      generalize w2.heap.size=b2 at KN HN2 hlt2 ⊢
      clear hV
      go_wp2_with fail
      refine HPk.out.mono ?_
      rintro e w3 ⟨rfl,hb3⟩
      have KV3:=hid (blk_below KV.out hb3)
      have KN3:=hid (blk_below KN.out hb3)
      have HA4:=hid (HA3.out.below hb3)
      have XV3:=hid (below_step XV.out hb3)
      have HK3:=hid (Kd.F_step HK.out (fun i hi hlt=>hb3.block i hlt))
      clear hb3 HPk
      by_cases hk:(pk l' 0).kind=0
      · have hz : a0 = 0 := by have := HA0.out; omega
        have HR2:Hid (topP s.data.toList= .ok v):=hid (by rw [HR.out,if_pos hk])
        subst hz
        obtain ⟨r0,r1,q0,q1⟩:=blk2 KV3.out
        obtain ⟨m0,m1,_,_⟩:=blk2 KN3.out
        clear hk
        go_wp2
        refine bodyPost_ret (v:= .tuple #[.agg #[.string v.f0,.slice A v.f1.length c],.nilIface]) (by simp [results,Tryz.results25,go_sem,r0,r1,q0,q1]) rfl ?_
        rw [HR2.out]
        exact ⟨A,c,rfl,HCc.out,Kd.F_now (Kd.F_step HK3.out (fun i hi hlt=>(Fr.self2 (b:=w.heap.size)).block i hlt (by have:=hi;have:=HW1.out;omega))),below_put2 XV3.out (Nat.le_refl _)⟩
      · have hz : (a0 == 0) = false := beq_false_of_ne (by have := HA0.out; omega)
        have hz2:¬a0=0:=by have:=HA0.out;omega
        have HR2:Hid (topP s.data.toList= .error (1,(pk l' 0).start)):=hid (by rw [HR.out,if_neg hk])
        have HFl:=hid (fail_any HA4.out 1 ⟨#[101,110,100]⟩)
        clear hk
        go_wp2_with fail
        refine HFl.out.mono ?_
        rintro e w4 ⟨f,what,rfl,hFa,hlf,hb4⟩
        have kv4:=blk_below KV3.out hb4
        have hne:=fault_ne hFa kv4
        obtain ⟨r0,r1,q0,q1⟩:=blk2 kv4
        have K:=hid (And.intro hFa (And.intro hne (below_step XV3.out hb4)))
        clear hFa hb4 kv4 hne
        go_wp2
        refine bodyPost_ret (v:= .tuple #[.agg #[.string ⟨#[]⟩,.slice none 0 0],faultV f]) (by simp [results,Tryz.results25,go_sem,r0,r1,q0,q1]) rfl ?_
        rw [HR2.out]
        exact ⟨f,what,rfl,K.out.1.put2 K.out.2.1,below_put2 K.out.2.2 (Nat.le_refl _)⟩
end Go.Proofs.YtjlnpdpkobpkiaaGreatDoorPSP
set_option linter.unusedVariables false
set_option linter.unusedSimpArgs false
namespace Go.Proofs.YtjlnpdpkobpkiaaGreatDoorPSP
open Go.RowKit Go.Extern.Stop Go.Stop Go.Extern Go.Proofs.YtjlnpdpkobpkiaaGreatDoorW.PrintWords Go.Proofs.YtjlnpdpkobpkiaaGreatDoor
theorem sameTerms_la (l:List Tm) (hl:l.length≤1000):∀(d i k:Nat),i+d=l.length→d<k→ergolaw14_sameTerms.l0 k l l (l.length:Int) (i:Int)=some true:=by
  intro d
  induction d with
  |zero=>
    intro i k h hk
    obtain ⟨k,rfl⟩:∃m,k=m+1:=⟨k-1,by omega⟩
    rw [ergolaw14_sameTerms.l0,if_neg (by omega)]
  |succ d ih=>
    intro i k h hk
    obtain ⟨k,rfl⟩:∃m,k=m+1:=⟨k-1,by omega⟩
    rw [ergolaw14_sameTerms.l0,if_pos (by omega),if_pos (by omega),if_pos (by omega),if_pos (by omega),if_neg (by simp),Mk.w64 i (by omega)]
    exact ih (i+1) k (by omega) (by omega)
theorem sameAtom_ia (a:ByteArray) (l:List Tm) (hl:l.length≤1000):ergolaw14_SameAtom.f 1001 a l a l=some true:=by
  unfold ergolaw14_SameAtom.f
  rw [if_pos rfl]
  unfold ergolaw14_sameTerms.f
  rw [if_pos rfl]
  have:=sameTerms_la l hl l.length 0 1001 (by omega) (by omega)
  rw [show ((0:Nat):Int)=0 from rfl] at this
  rw [this]
  rfl
theorem text_len {t:Tm} (h:TOk2 t):(textT t).length≤100:=by
  rcases h with ⟨n,h1,h2,rfl⟩|⟨l,hl,rfl⟩|⟨l,hl,rfl⟩
  · have e : textT (mkT 1 [] n) = Lib.itoa n := rfl
    rw [e]
    exact Nat.le_trans (Lib.itoa_length_le n h1 h2) (by decide)
  · have e : textT (mkT 0 l 0) = l := rfl
    rw [e]
    simp only [varL,List.mem_cons,List.not_mem_nil,or_false] at hl
    rcases hl with rfl|rfl|rfl|rfl|rfl|rfl <;>decide
  · simp only [symL, List.mem_cons, List.not_mem_nil, or_false] at hl
    rcases hl with rfl|rfl|rfl|rfl|rfl|rfl <;>decide
theorem atomL_len {p:List UInt8} {x:Tm} {xs:List Tm} (hp:p∈predL) (hx:TOk2 x) (hxs:∀t∈xs,TOk2 t) (hn:xs.length≤8):(atomL p x xs).length≤2000:=by
  unfold atomL
  have h1:=tail_len xs (fun t ht=>text_len (hxs t ht))
  have h2:=text_len hx
  have h3:=(pred_in hp).2.2
  rw [List.length_append,List.length_cons,List.length_append]
  omega
def sfxL:List (List UInt8):=[[46],[32,112],[41],[44]]
theorem placed_ap2 (sz:Nat) (a b:List Tk):placed sz (a++b)=placed sz a++placed sz b:=by unfold placed;rw [List.map_append]
theorem placed_sp (sz:Nat) (a:List Tk):(placed sz a).map spOf=a.map spOf:=by unfold placed;rw [List.map_map];rfl
theorem top_split {T r:List UInt8} {sp:Sp} {ts:List Tk} (h:LxS T sp) (hr:lexAll r= .ok ts) (hl:(T++r).length≤20000):∃us,us.map spOf=sp∧tokP (T++r)= .ok (us++placed (T++r).length ts):=by
  obtain ⟨us,h1,h2⟩:=h r ts hr
  refine ⟨placed (T++r).length us,by rw [placed_sp,h2],?_⟩
  unfold tokP
  rw [if_neg (by omega),h1]
  simp only
  rw [placed_ap2]
theorem top_ok {p:List UInt8} {x:Tm} {xs:List Tm} (hp:p∈predL) (hx:TOk2 x) (hxs:∀t∈xs,TOk2 t) (hn:xs.length+1≤6):topP (atomL p x xs)= .ok (mkA p (x::xs)):=by
  have hlen:=atomL_len hp hx hxs (by omega)
  obtain ⟨us,h1,h2⟩:=top_split (r:=[]) (ts:=[⟨0,[],0,0⟩]) (atom_lx hp hx hxs) rfl (by rw [List.append_nil];omega)
  rw [List.append_nil] at h2
  unfold topP
  rw [h2]
  simp only
  rw [(atom_parse hp hx hxs us _ h1).1 hn]
  rfl
theorem top_many {p:List UInt8} {x:Tm} {xs:List Tm} (hp:p∈predL) (hx:TOk2 x) (hxs:∀t∈xs,TOk2 t) (hn:6<xs.length+1) (hn8:xs.length≤8):∃q,topP (atomL p x xs)= .error (3,q):=by
  have hlen:=atomL_len hp hx hxs hn8
  obtain ⟨us,h1,h2⟩:=top_split (r:=[]) (ts:=[⟨0,[],0,0⟩]) (atom_lx hp hx hxs) rfl (by rw [List.append_nil];omega)
  rw [List.append_nil] at h2
  obtain ⟨q,hq⟩:=(atom_parse hp hx hxs us _ h1).2 hn
  refine ⟨q,?_⟩
  unfold topP
  rw [h2]
  simp only
  rw [hq]
theorem sfx_lex {r:List UInt8} (h:r∈sfxL):∃u v,lexAll r= .ok [u,v]∧u.kind≠0∧u.start=1∧1≤r.length∧r.length≤2:=by
  simp only [sfxL,List.mem_cons,List.not_mem_nil,or_false] at h
  rcases h with rfl|rfl|rfl|rfl
  · exact ⟨⟨5,[46],0,1⟩,⟨0,[],0,0⟩,by kernel_rfl,by decide,rfl,by decide,by decide⟩
  · exact ⟨⟨1,[112],0,1⟩,⟨0,[],0,0⟩,by kernel_rfl,by decide,rfl,by decide,by decide⟩
  · exact ⟨⟨5,[41],0,1⟩,⟨0,[],0,0⟩,by kernel_rfl,by decide,rfl,by decide,by decide⟩
  · exact ⟨⟨5,[44],0,1⟩,⟨0,[],0,0⟩,by kernel_rfl,by decide,rfl,by decide,by decide⟩
theorem top_sfx {p:List UInt8} {x:Tm} {xs:List Tm} (hp:p∈predL) (hx:TOk2 x) (hxs:∀t∈xs,TOk2 t) (hn:xs.length+1≤6) {r:List UInt8} (hr:r∈sfxL):topP (atomL p x xs++r)= .error (1,(atomL p x xs).length+r.length-1):=by
  have hlen:=atomL_len hp hx hxs (by omega)
  obtain ⟨u,v,hl,hk,hs,hr1,hr2⟩:=sfx_lex hr
  obtain ⟨us,h1,h2⟩:=top_split (atom_lx hp hx hxs) hl (by rw [List.length_append];omega)
  unfold topP
  rw [h2]
  simp only
  rw [(atom_parse hp hx hxs us _ h1).1 hn]
  simp only
  have e:pk (placed (atomL p x xs++r).length [u,v]) 0=⟨u.kind,u.text,u.num,(atomL p x xs++r).length-u.start⟩:=rfl
  rw [e,if_neg hk,hs,List.length_append]
theorem pred_mem (n:Int):Mk.predS n∈predL:=by
  obtain ⟨h,_⟩:=md_is n 6 (by decide) (by decide)
  exact getD_mem (l:=predL) (by show md n 6<6;omega)
theorem text_of (p:List UInt8) (x:Tm) (xs:List Tm):(bytesL p++⟨#[40]⟩++bytesL (Lib.join ((x::xs).map textT) [44])++⟨#[41]⟩:ByteArray).data.toList=atomL p x xs:=by
  simp only [ByteArray.data_append,Array.toList_append]
  show p++[40]++Lib.join ((x::xs).map textT) [44]++[41]=_
  rw [List.append_assoc,join_tail]
  unfold atomL
  simp
theorem args_cons (l:List S89):∃x xs,Mk.argsOf l=x::xs∧xs.length+1≤l.length+1:=by
  have hl:=Mk.argsOf_len l
  cases h:Mk.argsOf l with
  |nil=>
    unfold Mk.argsOf at h
    split at h
    · cases h
    · rename_i h0
      rw [List.map_eq_nil_iff] at h
      subst h
      exact absurd rfl h0
  |cons x xs=>
    rw [h] at hl
    exact ⟨x,xs,rfl,by simpa using hl⟩
theorem args_le (l:List S89) (h:l.length≤8):(Mk.argsOf l).length≤8:=by
  unfold Mk.argsOf
  split
  · decide
  · rw [List.length_map];exact h
end Go.Proofs.YtjlnpdpkobpkiaaGreatDoorPSP
