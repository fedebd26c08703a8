import Derived.Test.YtjlnpdpkobpkiaaDoorZ2Prs
set_option linter.unusedVariables false
set_option linter.unusedSimpArgs false
namespace Go.Proofs.YtjlnpdpkobpkiaaDoorPSP
open Go.RowKit Go.Extern.Stop Go.Stop Go.Extern Go.Proofs.YtjlnpdpkobpkiaaDoorW.PrintWords Go.Proofs.YtjlnpdpkobpkiaaDoor
inductive XS:Nat→Xp→Prop where
  |leaf (n:Nat) (t:Tm) (o:Int) (h:1≤n):XS n ⟨t,o,[]⟩
  |node (n a b:Nat) (t:Tm) (o:Int) (x y:Xp) (hx:XS a x) (hy:XS b y) (h:a+b+1≤n):XS n ⟨t,o,[x,y]⟩
theorem XS.le {n m:Nat} {x:Xp} (h:XS n x) (hm:n≤m):XS m x:=by
  cases h with
  |leaf n t o h=>exact .leaf _ _ _ (by omega)
  |node n a b t o x y hx hy h=>exact .node _ a b _ _ _ _ hx hy (by omega)
theorem bnd_ok {α β:Type} {f:List Tk→Rs α} {g:α→List Tk→Rs β} {l l':List Tk} {v:β} (h:bnd f g l= .ok (v,l')):∃w l1,f l= .ok (w,l1)∧g w l1= .ok (v,l'):=by
  unfold bnd at h
  cases hr:f l with
  |error e=>rw [hr] at h;cases h
  |ok y=>
    obtain ⟨w,l1⟩:=y
    rw [hr] at h
    exact ⟨w,l1,rfl,h⟩
theorem ok_inj {α:Type} {v w:α} {l l':List Tk} (h:(.ok (v,l):Rs α)= .ok (w,l')):v=w∧l=l':=by
  injection h with h
  injection h with h1 h2
  exact ⟨h1,h2⟩
theorem pk_nil (k:Nat):pk [] k=tk0:=by simp [pk]
def Cs {α:Type} (f:List Tk→Rs α):Prop:=∀l v l',f l= .ok (v,l')→l'.length<l.length
theorem cs_ok {α:Type} {l:List Tk} {v v':α} {l':List Tk} {k:Nat} (h:(.ok (v,l.drop k):Rs α)= .ok (v',l')) (hk:1≤k) (hl:l≠[]):l'.length<l.length:=by
  injection h with h
  injection h with h1 h2
  subst h2
  have:0<l.length:=List.length_pos_iff.2 hl
  simp
  omega
theorem ne_kind {l:List Tk} (h:(pk l 0).kind≠0):l≠[]:=by
  intro e
  subst e
  rw [pk_nil] at h
  exact h rfl
theorem ne_sign {l:List Tk} {s:List UInt8} (h:isS l 0 s=true):l≠[]:=by
  intro e
  subst e
  unfold isS at h
  rw [pk_nil] at h
  cases h
theorem Cs.thn {α β:Type} {f:List Tk→Rs α} {g:α→List Tk→Rs β} (h:Cs f) (k:∀v l w l',g v l= .ok (w,l')→l'.length≤l.length):Cs (bnd f g):=fun l v l' hf=>by
  unfold bnd at hf
  cases hr:f l with
  |error e=>rw [hr] at hf;cases hf
  |ok x=>
    obtain ⟨w,l1⟩:=x
    rw [hr] at hf
    have h1:=h _ _ _ hr
    have h2:=k _ _ _ _ hf
    omega
theorem Sf.le {α:Type} {f:List Tk→Rs α} (h:Sf f) {l:List Tk} {v:α} {l':List Tk} (hf:f l= .ok (v,l')):l'.length≤l.length:=by
  obtain ⟨k,rfl⟩:=h _ _ _ hf
  simp
theorem num_cs:Cs numP:=fun l v l' hf=>by
  unfold numP at hf
  split at hf
  · rename_i h
    split at hf
    · exact cs_ok hf (by omega) (ne_sign h)
    · cases hf
  · split at hf
    · rename_i h
      exact cs_ok hf (by omega) (ne_kind (by omega))
    · cases hf
theorem leaf_x {l:List Tk} {v:Xp} {l':List Tk} (hf:leafP l= .ok (v,l')):l'.length<l.length∧XS (l.length-l'.length) v:=by
  have key:l'.length<l.length∧∃t,v=mkX t:=by
    unfold leafP at hf
    split at hf
    · rename_i h
      refine ⟨cs_ok hf (by omega) (ne_kind (by omega)),?_⟩
      injection hf with hf
      injection hf with h1 h2
      exact ⟨_,h1.symm⟩
    · unfold bnd at hf
      cases hr:numP l with
      |error e=>rw [hr] at hf;cases hf
      |ok x=>
        obtain ⟨w,l1⟩:=x
        rw [hr] at hf
        injection hf with hf
        injection hf with h1 h2
        subst h2
        exact ⟨num_cs _ _ _ hr,w,h1.symm⟩
  obtain ⟨h,t,rfl⟩:=key
  exact ⟨h,.leaf _ _ _ (by omega)⟩
def Xc (f:List Tk→Rs Xp):Prop:=∀l v l',f l= .ok (v,l')→l'.length<l.length∧XS (l.length-l'.length) v
theorem chainL_x {one:List Tk→Rs Xp} (ho:Xc one) (ops:List (Int×List UInt8)):∀(n:Nat) (x:Xp) (c:Nat) (l:List Tk) (v:Xp) (l':List Tk),XS c x→chainL one ops n x l= .ok (v,l')→l'.length≤l.length∧XS (c+(l.length-l'.length)) v:=by
  intro n
  induction n with
  |zero=>intro x c l v l' hx hf;cases hf
  |succ n ih=>
    intro x c l v l' hx hf
    rw [chainL] at hf
    cases hc:ops.find? (fun o=>isS l 0 o.2) with
    |none=>
      rw [hc] at hf
      injection hf with hf
      injection hf with h1 h2
      subst h1 h2
      exact ⟨Nat.le_refl _,hx.le (by omega)⟩
    |some o=>
      rw [hc] at hf
      have hl:l≠[]:=ne_sign (s:=o.2) (by have:=List.find?_some hc;exact this)
      have hl2:0<l.length:=List.length_pos_iff.2 hl
      simp only [bnd] at hf
      cases hr:one (l.drop 1) with
      |error e=>rw [hr] at hf;cases hf
      |ok y=>
        obtain ⟨w,l1⟩:=y
        rw [hr] at hf
        obtain ⟨k1,k2⟩:=ho _ _ _ hr
        rw [List.length_drop] at k1 k2
        obtain ⟨j1,j2⟩:=ih (mkY o.1 x w) (c+(l.length-1-l1.length)+1) l1 v l' (.node _ _ _ _ _ _ _ hx k2 (Nat.le_refl _)) hf
        exact ⟨by omega,j2.le (by omega)⟩
theorem chain_x {one:List Tk→Rs Xp} (ho:Xc one) (ops:List (Int×List UInt8)):Xc (chainP one ops):=fun l v l' hf=>by
  unfold chainP bnd at hf
  cases hr:one l with
  |error e=>rw [hr] at hf;cases hf
  |ok y=>
    obtain ⟨w,l1⟩:=y
    rw [hr] at hf
    obtain ⟨k1,k2⟩:=ho _ _ _ hr
    obtain ⟨j1,j2⟩:=chainL_x ho ops _ _ _ _ _ _ k2 hf
    exact ⟨by omega,j2.le (by omega)⟩
theorem sum_x {unit:List Tk→Rs Xp} (ho:Xc unit):Xc (sumOf unit):=chain_x (chain_x ho mulOps) addOps
theorem unit_x:∀n,Xc (unitP n):=by
  intro n
  induction n with
  |zero=>
    intro l v l' hf
    rw [unitP] at hf
    split at hf
    · cases hf
    · exact leaf_x hf
  |succ n ih=>
    intro l v l' hf
    rw [unitP] at hf
    split at hf
    · simp only [bnd] at hf
      cases hr:sumOf (unitP n) (l.drop 1) with
      |error e=>rw [hr] at hf;cases hf
      |ok y=>
        obtain ⟨w,l1⟩:=y
        rw [hr] at hf
        obtain ⟨k1,k2⟩:=sum_x ih _ _ _ hr
        rw [List.length_drop] at k1 k2
        simp only at hf
        cases hq:wantP [41] l1 with
        |error e=>rw [hq] at hf;cases hf
        |ok y=>
          obtain ⟨u,l2⟩:=y
          rw [hq] at hf
          have:=(want_sf _).le hq
          injection hf with hf
          injection hf with h1 h2
          subst h1 h2
          exact ⟨by omega,k2.le (by omega)⟩
    · exact leaf_x hf
theorem argsL_len {one:List Tk→Rs (Tm×Int)}:∀(n:Nat) (acc:List Tm) (l:List Tk) (v:List Tm×Int) (l':List Tk),argsL one n acc l= .ok (v,l')→v.1.length≤acc.length+n:=by
  intro n
  induction n with
  |zero=>intro acc l v l' hf;cases hf
  |succ n ih=>
    intro acc l v l' hf
    rw [argsL] at hf
    obtain ⟨w,l1,hr,hf⟩:=bnd_ok hf
    split at hf
    · obtain ⟨rfl, rfl⟩ := ok_inj hf
      simp
    · split at hf
      · have := ih _ _ _ _ hf
        simp at this
        omega
      · obtain ⟨rfl, rfl⟩ := ok_inj hf
        simp
theorem args_len {one:List Tk→Rs (Tm×Int)} {l:List Tk} {v:List Tm×Int} {l':List Tk} (hf:argsP one l= .ok (v,l')):v.1.length≤6:=by
  unfold argsP at hf
  obtain ⟨w,l1,hr,hf⟩:=bnd_ok hf
  obtain ⟨r,l2,hq,hf⟩:=bnd_ok hf
  obtain ⟨u,l3,hp,hf⟩:=bnd_ok hf
  obtain ⟨rfl,rfl⟩:=ok_inj hf
  have:=argsL_len _ _ _ _ _ hq
  simp at this
  exact this
theorem atom_len {l:List Tk} {v:Am} {l':List Tk} (hf:atomP l= .ok (v,l')):v.f1.length≤6:=by
  unfold atomP at hf
  obtain ⟨w,l1,hr,hf⟩:=bnd_ok hf
  obtain ⟨r,l2,hq,hf⟩:=bnd_ok hf
  obtain ⟨rfl,rfl⟩:=ok_inj hf
  exact args_len hq
def PS (n:Nat) (p:Pt):Prop:=((p.f0=0∨p.f0=1)∧p.f1.f1.length≤6)∨p.f0=2∨(p.f0=3∧XS n p.f6)
theorem part_x {l:List Tk} {v:Pt} {l':List Tk} (hf:partP l= .ok (v,l')):PS l.length v:=by
  unfold partP at hf
  split at hf
  · obtain ⟨a, l1, hr, hf⟩ := bnd_ok hf
    obtain ⟨rfl,rfl⟩:=ok_inj hf
    exact .inl ⟨.inr rfl,atom_len hr⟩
  · split at hf
    · obtain ⟨a, l1, hr, hf⟩ := bnd_ok hf
      obtain ⟨rfl,rfl⟩:=ok_inj hf
      exact .inl ⟨.inl rfl,atom_len hr⟩
    · split at hf
      · obtain ⟨x, l1, hr, hf⟩ := bnd_ok hf
        obtain ⟨rfl,rfl⟩:=ok_inj hf
        have:=sum_x (unit_x 20) _ _ _ hr
        exact .inr (.inr ⟨rfl,this.2.le (by rw [List.length_drop];omega)⟩)
      · obtain ⟨x, l1, hr, hf⟩ := bnd_ok hf
        obtain ⟨o,l2,hq,hf⟩:=bnd_ok hf
        obtain ⟨y,l3,hp,hf⟩:=bnd_ok hf
        obtain ⟨rfl,rfl⟩:=ok_inj hf
        exact .inr (.inl rfl)
theorem PS.le {n m:Nat} {p:Pt} (h:PS n p) (hm:n≤m):PS m p:=by
  rcases h with h|h|h
  · exact .inl h
  · exact .inr (.inl h)
  · exact .inr (.inr ⟨h.1,h.2.le hm⟩)
end Go.Proofs.YtjlnpdpkobpkiaaDoorPSP
