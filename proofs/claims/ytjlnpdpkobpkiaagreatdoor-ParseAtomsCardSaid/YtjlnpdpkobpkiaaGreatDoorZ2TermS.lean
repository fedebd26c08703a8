import Derived.Test.YtjlnpdpkobpkiaaGreatDoorZ2Lib
import Derived.Test.YtjlnpdpkobpkiaaGreatDoorZ2LexA
import Derived.Test.YtjlnpdpkobpkiaaGreatDoorZ2W1
set_option linter.unusedVariables false
set_option linter.unusedSimpArgs false
namespace Go.Proofs.YtjlnpdpkobpkiaaGreatDoor
open Go.RowKit Go.Extern.Stop Go.Stop Go.Extern
abbrev bytesL (l:List UInt8):ByteArray:=⟨l.toArray⟩
end Go.Proofs.YtjlnpdpkobpkiaaGreatDoor
set_option linter.unusedVariables false
set_option linter.unusedSimpArgs false
namespace Go.Proofs.YtjlnpdpkobpkiaaGreatDoorPSP
open Go.RowKit Go.Extern.Stop Go.Stop Go.Extern Go.Proofs.YtjlnpdpkobpkiaaGreatDoorW.PrintWords Go.Proofs.YtjlnpdpkobpkiaaGreatDoor
theorem mod_u64 (x m:Int) (h0:0<m) (h1:m≤256):∃k:Nat,(k:Int)<m∧wrap64 (Int.tmod (IntKind.u64.wrap x) m)=(k:Int):=by
  have e:IntKind.u64.wrap x=x % 18446744073709551616:=rfl
  have h2:0≤x % 18446744073709551616:=Int.emod_nonneg _ (by decide)
  rw [e,Int.tmod_eq_emod_of_nonneg h2]
  have h3:0≤x % 18446744073709551616 % m:=Int.emod_nonneg _ (by omega)
  have h4:x % 18446744073709551616 % m<m:=Int.emod_lt_of_pos _ h0
  refine ⟨(x % 18446744073709551616 % m).toNat,by omega,?_⟩
  rw [Int.toNat_of_nonneg h3]
  unfold wrap64;omega
def varL:List (List UInt8):=[[88],[89],[90],[87],[67,111,115,116],[86,49]]
def symL:List (List UInt8):=[[97],[98],[110,111,116],[65,32,98],[109,105,110],[120,10,34,121,92]]
def md (x m:Int):Nat:=(wrap64 (Int.tmod (IntKind.u64.wrap x) m)).toNat
theorem md_is (x m:Int) (h0:0<m) (h1:m≤256):(md x m:Int)<m∧wrap64 (Int.tmod (IntKind.u64.wrap x) m)=(md x m:Int):=by
  obtain ⟨k,h2,h3⟩:=mod_u64 x m h0 h1
  unfold md
  rw [h3]
  exact ⟨h2,rfl⟩
def termV (K N B:Int):Int×ByteArray×Int:=
  if md K 4=2 then (1,⟨#[]⟩,if (Go.bits .and .i64 N 64==64)=true then B else (md N 6:Int)-2)
  else if md K 4=3 then (2,bytesL (symL.getD (md N 6) []),0)
  else (0,bytesL (varL.getD (md N 6) []),0)
def ergolaw13_T_Term.f (K N B:Int):Option (Int×ByteArray×Int):=some (termV K N B)
set_option maxHeartbeats 4000000 in
set_option maxRecDepth 100000 in
theorem Term_var (K N B:Int) (k n:Nat) (hn6:n<6) (hk1:k<2) (hk:wrap64 (Int.tmod (IntKind.u64.wrap K) 4)=k) (hn:wrap64 (Int.tmod (IntKind.u64.wrap N) 6)=n) (w:World):
    Calls Tryz.prog 56 #[.agg #[.int .i64 K,.int .i64 N,.int .i64 B]] w (RetB w (.agg #[.int .i64 0,.string (bytesL (varL.getD n [])),.int .i64 0])):=by
  have hc:n=0∨n=1∨n=2∨n=3∨n=4∨n=5:=by omega
  have hd:k=0∨k=1:=by omega
  clear hk1
  rcases hd with rfl|rfl
  all_goals
    rcases hc with rfl|rfl|rfl|rfl|rfl|rfl
  all_goals
    clear hn6
    go_enter Tryz.func56,Tryz.ntmps56
    go_wp2
    exact bodyPost_ret (v:= .agg #[_,_,_]) (by simp [results,Tryz.results56,go_sem];rfl) rfl ⟨rfl,(((Below.refl _ _).alloc (Nat.le_refl _) _).alloc (by simp) _).alloc (by simp;omega) _⟩
set_option maxHeartbeats 4000000 in
set_option maxRecDepth 100000 in
theorem Term_sym (K N B:Int) (n:Nat) (hn6:n<6) (hk:wrap64 (Int.tmod (IntKind.u64.wrap K) 4)=3) (hn:wrap64 (Int.tmod (IntKind.u64.wrap N) 6)=n) (w:World):
    Calls Tryz.prog 56 #[.agg #[.int .i64 K,.int .i64 N,.int .i64 B]] w (RetB w (.agg #[.int .i64 2,.string (bytesL (symL.getD n [])),.int .i64 0])):=by
  have hc:n=0∨n=1∨n=2∨n=3∨n=4∨n=5:=by omega
  rcases hc with rfl|rfl|rfl|rfl|rfl|rfl
  all_goals
    clear hn6
    go_enter Tryz.func56,Tryz.ntmps56
    go_wp2
    exact bodyPost_ret (v:= .agg #[_,_,_]) (by simp [results,Tryz.results56,go_sem];rfl) rfl ⟨rfl,(((Below.refl _ _).alloc (Nat.le_refl _) _).alloc (by simp) _).alloc (by simp;omega) _⟩
set_option maxHeartbeats 4000000 in
set_option maxRecDepth 100000 in
theorem Term_num (K N B:Int) (n:Nat) (hn6:n<6) (hk:wrap64 (Int.tmod (IntKind.u64.wrap K) 4)=2) (hn:wrap64 (Int.tmod (IntKind.u64.wrap N) 6)=n) (w:World):
    Calls Tryz.prog 56 #[.agg #[.int .i64 K,.int .i64 N,.int .i64 B]] w (RetB w (.agg #[.int .i64 1,.string ⟨#[]⟩,.int .i64 (if (Go.bits .and .i64 N 64==64)=true then B else (n:Int)-2)])):=by
  have hw2:wrap64 ((n:Int)-2)=(n:Int)-2:=by unfold wrap64;omega
  cases hb:(Go.bits .and .i64 N 64==64)
  all_goals
    clear hn6
    go_enter Tryz.func56,Tryz.ntmps56
    go_wp2
    exact bodyPost_ret (v:= .agg #[_,_,_]) (by simp [results,Tryz.results56,go_sem];exact ⟨rfl,rfl,rfl⟩) rfl ⟨by first|rfl|(simp [hw2];done),((Below.refl _ _).alloc (Nat.le_refl _) _).alloc (by simp) _⟩
theorem ergolaw13_T_Term.calls (K N B r1:Int) (r2:ByteArray) (r3:Int) (w:World) (h:ergolaw13_T_Term.f K N B=some (r1,r2,r3)):
    Calls Tryz.prog 56 #[.agg #[.int .i64 K,.int .i64 N,.int .i64 B]] w fun e w'=>e= .returned (.agg #[.int .i64 r1,.string r2,.int .i64 r3])∧Below w.heap.size w w':=by
  obtain ⟨hk1,hk⟩:=md_is K 4 (by decide) (by decide)
  obtain ⟨hn1,hn⟩:=md_is N 6 (by decide) (by decide)
  have h:=Option.some.inj h
  unfold termV at h
  have hn2:md N 6<6:=by omega
  split at h
  · rename_i h2
    injection h with h3 h4
    injection h4 with h4 h5
    subst h3;subst h4;subst h5
    exact Term_num K N B (md N 6) hn2 (by rw [hk,h2];rfl) hn w
  · rename_i h2
    split at h
    · rename_i h3
      injection h with h3 h4
      injection h4 with h4 h5
      subst h3;subst h4;subst h5
      exact Term_sym K N B (md N 6) hn2 (by rw [hk,‹md K 4=3›];rfl) hn w
    · rename_i h3
      injection h with h3 h4
      injection h4 with h4 h5
      subst h3;subst h4;subst h5
      exact Term_var K N B (md K 4) (md N 6) hn2 (by omega) hk hn w
end Go.Proofs.YtjlnpdpkobpkiaaGreatDoorPSP
