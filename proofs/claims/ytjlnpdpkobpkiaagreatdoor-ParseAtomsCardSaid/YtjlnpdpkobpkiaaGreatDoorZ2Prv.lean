import Derived.Test.YtjlnpdpkobpkiaaGreatDoorZ2Prc
import Derived.Test.YtjlnpdpkobpkiaaGreatDoorZ2PSPx4
set_option linter.unusedVariables false
set_option linter.unusedSimpArgs false
namespace Go.Proofs.YtjlnpdpkobpkiaaGreatDoorPSP
open Go.RowKit Go.Extern.Stop Go.Stop Go.Extern Go.Proofs.YtjlnpdpkobpkiaaGreatDoorW.PrintWords Go.Proofs.YtjlnpdpkobpkiaaGreatDoor
theorem w64 (i:Nat) (h:i≤1000000000):wrap64 ((i:Int)+1)=((i+1:Nat):Int):=by unfold wrap64;omega
theorem rdTm (l:List Tm) (i:Nat) (h:i<l.length):rd_T98 l (i:Int)=l[i]:=by
  unfold rd_T98
  rw [Int.toNat_natCast,List.getD_eq_getElem?_getD,List.getElem?_eq_getElem h]
  rfl
theorem rdPt (l:List Pt) (i:Nat) (h:i<l.length):rd_T106 l (i:Int)=l[i]:=by
  unfold rd_T106
  rw [Int.toNat_natCast,List.getD_eq_getElem?_getD,List.getElem?_eq_getElem h]
  rfl
def namesL (ts:List Tm):List ByteArray:=(ts.filter fun t=>decide (t.f0=0)).map (·.f1)
theorem namesL_len (ts:List Tm):(namesL ts).length≤ts.length:=by
  unfold namesL
  rw [List.length_map]
  exact List.length_filter_le _ _
theorem vars_l0 (ts:List Tm) (hl:ts.length≤1000):∀(d i k:Nat) (acc:List ByteArray),i+d=ts.length→d<k→acc.length+d≤100000→syntax_vars.l0 k acc ts (ts.length:Int) (i:Int)=some (acc++namesL (ts.drop i)):=by
  intro d
  induction d with
  |zero=>
    intro i k acc hi hk ha
    obtain ⟨k,rfl⟩:∃m,k=m+1:=⟨k-1,by omega⟩
    rw [syntax_vars.l0,if_neg (by omega),List.drop_eq_nil_of_le (by omega)]
    simp [namesL]
  |succ d ih=>
    intro i k acc hi hk ha
    obtain ⟨k,rfl⟩:∃m,k=m+1:=⟨k-1,by omega⟩
    have hlt:i<ts.length:=by omega
    rw [List.drop_eq_getElem_cons hlt]
    have e2:=ih (i+1) k (if ts[i].f0=0 then acc++[ts[i].f1] else acc) (by omega) (by omega) (by split <;>(try rw [List.length_append]) <;>(try simp) <;>omega)
    rw [syntax_vars.l0,if_pos (by omega),if_pos (by omega),if_pos (by omega),rdTm ts i hlt,w64 i (by omega)]
    by_cases h0:ts[i].f0=0
    · rw [if_pos h0] at e2
      rw [if_pos h0,if_pos (by omega),e2]
      simp [namesL,h0,-List.getElem_cons_drop]
    · rw [if_neg h0] at e2
      rw [if_neg h0,e2]
      simp [namesL,h0,-List.getElem_cons_drop]
theorem vars_is (ts:List Tm) (hl:ts.length≤1000) (k:Nat) (hk:ts.length<k):syntax_vars.f k ts=some (namesL ts):=vars_l0 ts hl ts.length 0 k [] (by omega) hk (by simp;omega)
theorem rdX0 (a b:Xp):rd_T104 [a,b] 0=a:=rfl
theorem rdX1 (a b:Xp):rd_T104 [a,b] 1=b:=rfl
theorem expr_vars {n:Nat} {x:Xp} (h:XS n x):n≤30000→∃ns:List ByteArray,ns.length≤n∧∀k,n+3≤k→syntax_Expr_Vars.f k x.f0.f0 x.f0.f1 x.f0.f2 x.f1 x.f2=some ns:=by
  induction h with
  |leaf n t o h=>
    intro hn
    refine ⟨namesL [t],by have:=namesL_len [t];rw [List.length_singleton] at this;omega,fun k hk=> ?_⟩
    obtain ⟨k,rfl⟩:∃m,k=m+1:=⟨k-1,by omega⟩
    rw [syntax_Expr_Vars.f,if_neg (by simp),show [(⟨t.f0,t.f1,t.f2⟩:Tm)]=[t] from rfl,vars_is [t] (by simp) k (by simp;omega)]
    rfl
  |node n a b t o x y hx hy h ihx ihy=>
    intro hn
    obtain ⟨na,la,ga⟩:=ihx (by omega)
    obtain ⟨nb,lb,gb⟩:=ihy (by omega)
    refine ⟨na++nb,by rw [List.length_append];omega,fun k hk=> ?_⟩
    obtain ⟨k,rfl⟩:∃m,k=m+1:=⟨k-1,by omega⟩
    simp only
    rw [syntax_Expr_Vars.f,if_pos (by simp),if_pos (by simp),rdX0,ga k (by omega)]
    simp only [Option.bind_some]
    rw [if_pos (by simp),rdX1,gb k (by omega)]
    simp only [Option.bind_some]
    unfold slices_Concat_string_string.f
    rw [if_pos ⟨by simp,by simp;omega⟩]
    simp
theorem part_vars {n:Nat} (p:Pt) (h:PS n p) (hn:n≤30000):∃ns:List ByteArray,ns.length≤30001∧∀k,30010≤k →
    syntax_Part_Vars.f k p.f0 p.f1.f0 p.f1.f1 p.f2 p.f3.f0 p.f3.f1 p.f3.f2 p.f4.f0 p.f4.f1 p.f4.f2 p.f5 p.f6.f0.f0 p.f6.f0.f1 p.f6.f0.f2 p.f6.f1 p.f6.f2=some ns:=by
  rcases h with ⟨h0,hl⟩|h0|⟨h0,hx⟩
  · refine ⟨namesL p.f1.f1, by have := namesL_len p.f1.f1; omega, fun k hk => ?_⟩
    unfold syntax_Part_Vars.f syntax_Atom_Vars.f
    rw [if_neg (by omega),if_neg (by omega),vars_is _ (by omega) k (by omega)]
    rfl
  · refine ⟨namesL [p.f3, p.f4], by have := namesL_len [p.f3, p.f4]; simp at this; omega, fun k hk => ?_⟩
    unfold syntax_Part_Vars.f
    rw [if_pos h0,show [(⟨p.f3.f0,p.f3.f1,p.f3.f2⟩:Tm),(⟨p.f4.f0,p.f4.f1,p.f4.f2⟩:Tm)]=[p.f3,p.f4] from rfl,vars_is _ (by simp) k (by simp;omega)]
    rfl
  · obtain ⟨ms, hm, hg⟩ := expr_vars hx hn
    refine ⟨[p.f5]++ms,by simp;omega,fun k hk=> ?_⟩
    unfold syntax_Part_Vars.f
    rw [if_neg (by omega),if_pos h0,hg k (by omega)]
    simp only [Option.bind_some]
    rw [if_pos (by simp;omega)]
theorem rdOf_at (l:List ByteArray) (i:Nat) (h:i<l.length):rdOf ByteArray.empty l (i:Int)=l[i]:=by
  unfold rdOf
  rw [Int.toNat_natCast,List.getD_eq_getElem?_getD,List.getElem?_eq_getElem h]
  rfl
theorem index_l0 (l:List ByteArray) (v:ByteArray) (hl:l.length≤1000000):∀(d i k:Nat),i+d=l.length→d<k→∃r,slices_Index_string_string.l0 k l v (l.length:Int) (i:Int)=some r:=by
  intro d
  induction d with
  |zero=>
    intro i k hi hk
    obtain ⟨k,rfl⟩:∃m,k=m+1:=⟨k-1,by omega⟩
    rw [slices_Index_string_string.l0,if_neg (by omega)]
    exact ⟨-1,rfl⟩
  |succ d ih=>
    intro i k hi hk
    obtain ⟨k,rfl⟩:∃m,k=m+1:=⟨k-1,by omega⟩
    have hlt:i<l.length:=by omega
    rw [slices_Index_string_string.l0,if_pos (by omega),if_pos (by omega),if_pos (by omega),w64 i (by omega)]
    split
    · exact ⟨_,rfl⟩
    · exact ih (i+1) k (by omega) (by omega)
theorem contains_is (l:List ByteArray) (v:ByteArray) (hl:l.length≤1000000) (k:Nat) (hk:l.length<k):∃b,slices_Contains_string_string.f k l v=some b:=by
  obtain ⟨r,h1⟩:=index_l0 l v hl l.length 0 k (by omega) hk
  unfold slices_Contains_string_string.f slices_Index_string_string.f
  rw [show ((0:Nat):Int)=0 from rfl] at h1
  rw [h1]
  exact ⟨_,rfl⟩
theorem rule_l1 (l:List ByteArray) (hl:l.length≤400000):∀(d i k:Nat) (acc:List ByteArray),i+d=l.length→acc.length+d≤400000→400002+d<k→∃ns:List ByteArray,syntax_Rule_Vars.l1 k acc l (l.length:Int) (i:Int)=some ns∧ns.length≤400000:=by
  intro d
  induction d with
  |zero=>
    intro i k acc hi ha hk
    obtain ⟨k,rfl⟩:∃m,k=m+1:=⟨k-1,by omega⟩
    rw [syntax_Rule_Vars.l1,if_neg (by omega)]
    exact ⟨_,rfl,by omega⟩
  |succ d ih=>
    intro i k acc hi ha hk
    obtain ⟨k,rfl⟩:∃m,k=m+1:=⟨k-1,by omega⟩
    have hlt:i<l.length:=by omega
    obtain ⟨b,hb⟩:=contains_is acc l[i] (by omega) k (by omega)
    rw [syntax_Rule_Vars.l1,if_pos (by omega),if_pos (by omega),if_pos (by omega),rdOf_at l i hlt,w64 i (by omega),hb]
    simp only [Option.bind_some]
    split
    · exact ih (i+1) k acc (by omega) (by omega) (by omega)
    · rw [if_pos (by omega)]
      exact ih (i+1) k (acc++[l[i]]) (by omega) (by simp;omega) (by omega)
set_option maxRecDepth 200000 in
theorem rule_l0 (ps:List Pt) (hp:ps.length≤12) (hs:∀p∈ps,PS 30000 p):∀(d i k:Nat) (acc:List ByteArray),i+d=ps.length→acc.length+30001*d≤400000→1000000+d<k→∃ns:List ByteArray,syntax_Rule_Vars.l0 k acc ps (ps.length:Int) (i:Int)=some ns∧ns.length≤400000:=by
  intro d
  induction d with
  |zero=>
    intro i k acc hi ha hk
    obtain ⟨k,rfl⟩:∃m,k=m+1:=⟨k-1,by omega⟩
    rw [syntax_Rule_Vars.l0,if_neg (by omega)]
    exact rule_l1 acc (by omega) acc.length 0 k [] (by omega) (by simp;omega) (by omega)
  |succ d ih=>
    intro i k acc hi ha hk
    obtain ⟨k,rfl⟩:∃m,k=m+1:=⟨k-1,by omega⟩
    have hlt:i<ps.length:=by omega
    obtain ⟨ns,h1,h2⟩:=part_vars ps[i] (hs _ (List.getElem_mem hlt)) (by omega)
    have hk2:30010≤k:=by omega
    have e2:=h2 k hk2
    rw [syntax_Rule_Vars.l0,if_pos (by omega),if_pos (by omega),if_pos (by omega),rdPt ps i hlt,w64 i (by omega),e2]
    simp only [Option.bind_some]
    rw [if_pos (by omega)]
    exact ih (i+1) k (acc++ns) (by omega) (by rw [List.length_append];omega) (by omega)
abbrev varsF (r:Rl):=syntax_Rule_Vars.f 2000000 r.f0.f0 r.f0.f1 r.f1 r.f2 r.f3
def nv (r:Rl):Nat:=((varsF r).getD []).length
theorem rule_varsK (r:Rl) (h1:r.f0.f1.length≤6) (h2:r.f2.length≤12) (h3:∀p∈r.f2,PS 30000 p) (k:Nat) (hk:1100000<k):∃ns:List ByteArray,syntax_Rule_Vars.f k r.f0.f0 r.f0.f1 r.f1 r.f2 r.f3=some ns∧ns.length≤400000:=by
  unfold syntax_Rule_Vars.f syntax_Atom_Vars.f
  rw [vars_is _ (by omega) k (by omega)]
  simp only [Option.bind_some]
  have:=namesL_len r.f0.f1
  exact rule_l0 r.f2 h2 h3 r.f2.length 0 k _ (by omega) (by omega) (by omega)
theorem rule_vars (r:Rl) (h1:r.f0.f1.length≤6) (h2:r.f2.length≤12) (h3:∀p∈r.f2,PS 30000 p):∃ns:List ByteArray,varsF r=some ns∧ns.length≤400000∧nv r=ns.length:=by
  obtain ⟨ns,e1,e2⟩:=rule_varsK r h1 h2 h3 2000000 (by omega)
  exact ⟨ns,e1,e2,by unfold nv varsF;rw [e1];rfl⟩
end Go.Proofs.YtjlnpdpkobpkiaaGreatDoorPSP
