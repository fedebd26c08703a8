import Derived.Test.YtjlnpdpkobpkiaaGreatDoorZ2TermS
import Derived.Test.YtjlnpdpkobpkiaaGreatDoorZ2TiedT
import Derived.Test.YtjlnpdpkobpkiaaGreatDoorZ2PlainS
import Derived.Test.YtjlnpdpkobpkiaaGreatDoorZ2W1
import Derived.Lib.AppendIntMem
set_option linter.unusedVariables false
set_option linter.unusedSimpArgs false
namespace Go.Proofs.YtjlnpdpkobpkiaaGreatDoorPSP
open Go.RowKit Go.Extern.Stop Go.Stop Go.Extern Go.Proofs.YtjlnpdpkobpkiaaGreatDoorW.PrintWords Go.Proofs.YtjlnpdpkobpkiaaGreatDoor
theorem tab_below {w w':World} (h:TabT w) (hb:Below w.heap.size w w'):TabT w':=by
  unfold TabT Lib.TabIs at h ⊢
  have hg:Tryz.prog.globalNamed "internal/strconv.uint64pow10"=some 1:=by kernel_rfl
  have hlt:1<w.heap.size:=by
    have:=World.var?_cell hg h 0
    exact World.block_lt_of_cell? w _ (this.trans rfl)
  exact var?_below hb hg hlt h
def strconv_FormatInt.f (a b:Int):Option ByteArray:=if -9223372036854775808≤a∧a≤9223372036854775807∧b=10 then some (bytesL (Lib.itoa a)) else none
def lex_Quote.f (s:ByteArray):Option ByteArray:=if s.size≤1073741824 then some (bytesOf (quoteL s.data.toList)) else none
def strings_Join.f (xs:List ByteArray) (sep:ByteArray):Option ByteArray:=if xs.length≤140737488355328∧(Lib.join (xs.map (·.data.toList)) sep.data.toList).length≤140737488355328 then some (bytesL (Lib.join (xs.map (·.data.toList)) sep.data.toList)) else none
theorem strconv_FormatInt.calls (a b:Int) (r:ByteArray) (w:World) (h:strconv_FormatInt.f a b=some r) (hG:TabT w):Calls Tryz.prog 94 #[.int .i64 a,.int .i64 b] w fun e w'=>e= .returned (.string r)∧Below w.heap.size w w':=by
  unfold strconv_FormatInt.f at h
  split at h
  · rename_i hc
    obtain ⟨h0,h1,rfl⟩:=hc
    obtain rfl:=Option.some.inj h
    refine (Tryz.strconv_FormatInt_10 a h0 h1 w hG).mono ?_
    rintro e w' ⟨rfl,k,os,rfl⟩
    exact ⟨rfl,Lib.below_grow _ _ (Nat.le_refl _) k os⟩
  · cases h
theorem lex_Quote.calls (s:ByteArray) (r:ByteArray) (w:World) (h:lex_Quote.f s=some r):Calls Tryz.prog 45 #[.string s] w fun e w'=>e= .returned (.string r)∧Below w.heap.size w w':=by
  unfold lex_Quote.f at h
  split at h
  · rename_i hc
    obtain rfl:=Option.some.inj h
    exact Quote_any s w hc
  · cases h
theorem strings_Join.calls (A:Option Addr) (c:Nat) (xs:List ByteArray) (sep:ByteArray) (r:ByteArray) (w:World) (hr:Kd.C Kd.string w A xs.length xs) (hc:xs.length≤c) (h:strings_Join.f xs sep=some r):
    Calls Tryz.prog 58 #[.slice A xs.length c,.string sep] w fun e w'=>e= .returned (.string r)∧Below w.heap.size w w':=by
  unfold strings_Join.f at h
  split at h
  · rename_i hk
    obtain rfl:=Option.some.inj h
    by_cases h0:xs.length=0
    · obtain rfl := List.length_eq_zero_iff.1 h0
      refine (Tryz.strings_Join_none A c sep w).mono ?_
      rintro e w' ⟨rfl,rfl⟩
      exact ⟨rfl,Below.refl _ _⟩
    · obtain ⟨_, _, hr⟩ := hr
      obtain ⟨⟨b,o,s⟩,rfl,hcell⟩:=hr (by omega)
      have hs:s=none:=by
        obtain ⟨q,hq,e,k⟩:=hcell 0 _ (List.getElem?_eq_getElem (by omega))
        obtain rfl:q=[_]:=e
        have k:=k 0 _ rfl
        unfold Addr.add World.cell? at k
        simp only [Nat.zero_mul,Nat.add_zero,if_true] at k
        split at k
        · split at k
          · cases k
          · rename_i hs;simpa using hs
        · cases k
      subst hs
      have hcells:∀(j:Nat) x,xs[j]? =some x→w.cell? ⟨b,o+j,none⟩=some (.string x):=fun j x hx=>by
        obtain ⟨q,hq,e,k⟩:=hcell j x hx
        obtain rfl:q=[_]:=e
        have k:=k 0 _ rfl
        have e1:Kd.string.sz=1:=rfl
        rw [e1,Nat.mul_one,Nat.add_zero] at k
        unfold Addr.add at k
        split at k
        · rename_i hj;rw [hj];exact k
        · exact k
      exact Tryz.strings_Join b o c xs sep w hcells (World.block_lt_of_cell? w _ (hcells 0 _ (List.getElem?_eq_getElem (by omega)))) hk.1 hc hk.2
  · cases h
end Go.Proofs.YtjlnpdpkobpkiaaGreatDoorPSP
