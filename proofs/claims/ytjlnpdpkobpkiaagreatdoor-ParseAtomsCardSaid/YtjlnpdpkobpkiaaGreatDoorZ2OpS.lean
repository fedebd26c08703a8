import Derived.Test.YtjlnpdpkobpkiaaGreatDoorZ2PSQx0
import Derived.Test.YtjlnpdpkobpkiaaGreatDoorZ2PSPx2
import Derived.Test.YtjlnpdpkobpkiaaGreatDoorZ2PSPx4
import Derived.Test.YtjlnpdpkobpkiaaGreatDoorZ2PSQx1
import Derived.Test.YtjlnpdpkobpkiaaGreatDoorZ2Prv
import Derived.Test.YtjlnpdpkobpkiaaGreatDoorZ2Sfo
import Derived.Test.YtjlnpdpkobpkiaaGreatDoorZ2Conc
set_option linter.unusedVariables false
set_option linter.unusedSimpArgs false
namespace Go.Proofs.YtjlnpdpkobpkiaaGreatDoorPSP.Mk
open Go.RowKit Go.Extern.Stop Go.Stop Go.Extern Go.Proofs.YtjlnpdpkobpkiaaGreatDoorW.PrintWords Go.Proofs.YtjlnpdpkobpkiaaGreatDoor
theorem rd55 (l:List S98) (i:Nat) (h:i<l.length):rd_T98 l (i:Int)=l[i]:=by
  unfold rd_T98
  rw [Int.toNat_natCast,List.getD_eq_getElem?_getD,List.getElem?_eq_getElem h]
  rfl
theorem w64 (n:Nat) (h:n<1000000):wrap64 ((n:Int)+1)=((n+1:Nat):Int):=by unfold wrap64;omega
def TN (t:S89):Prop:= -9223372036854775808≤t.f2∧t.f2≤9223372036854775807
def t43 (t:S89):S98:=⟨(termV t.f0 t.f1 t.f2).1,(termV t.f0 t.f1 t.f2).2.1,(termV t.f0 t.f1 t.f2).2.2⟩
def predL:List (List UInt8):=[[112],[113],[114],[101,100,103,101],[112,97,116,104],[115]]
def predS (n:Int):List UInt8:=predL.getD (md n 6) []
theorem pred_is (n:Int):ergolaw13_Pred.f n=some (bytesL (predS n))∧(predS n).length≤100:=by
  obtain ⟨h,e⟩:=md_is n 6 (by decide) (by decide)
  unfold ergolaw13_Pred.f predS
  rw [e]
  generalize md n 6=i at h
  have hc:i=0∨i=1∨i=2∨i=3∨i=4∨i=5:=by omega
  rcases hc with rfl|rfl|rfl|rfl|rfl|rfl <;>exact ⟨rfl,by decide⟩
def argsOf (l:List S89):List S98:=if l.length=0 then [⟨0,bytesL [88],0⟩] else l.map t43
theorem argsOf_len (l:List S89):(argsOf l).length≤l.length+1:=by
  unfold argsOf
  split <;>simp
theorem rd43 (l:List S89) (i:Nat) (h:i<l.length):rd_T89 l (i:Int)=l[i]:=by
  unfold rd_T89
  rw [Int.toNat_natCast,List.getD_eq_getElem?_getD,List.getElem?_eq_getElem h]
  rfl
theorem A_l0 (l:List S89) (hl:l.length≤100) (p:ByteArray):∀(d i k:Nat),i+d=l.length→d<k→ergolaw13_A_Atom.l0 k l (l.length:Int) (i:Int) p ((l.take i).map t43)=some (p,argsOf l):=by
  intro d
  induction d with
  |zero=>
    intro i k hi hk
    obtain ⟨k,rfl⟩:∃m,k=m+1:=⟨k-1,by omega⟩
    rw [ergolaw13_A_Atom.l0,if_neg (by omega),List.take_of_length_le (by omega)]
    unfold argsOf
    by_cases h0:l.length=0
    · rw [if_pos (by simpa using h0),if_pos h0]
    · rw [if_neg (by simpa using h0),if_neg h0]
  |succ d ih=>
    intro i k hi hk
    obtain ⟨k,rfl⟩:∃m,k=m+1:=⟨k-1,by omega⟩
    have hlt:i<l.length:=by omega
    rw [ergolaw13_A_Atom.l0,if_pos (by omega),if_pos (by omega),if_pos (by omega),rd43 l i hlt,w64 i (by omega)]
    unfold ergolaw13_T_Term.f
    simp only [Option.bind_some]
    rw [if_pos (by simp;omega)]
    have e:(l.take i).map t43++[t43 l[i]]=(l.take (i+1)).map t43:=by
      rw [List.take_add_one,List.getElem?_eq_getElem hlt,List.map_append]
      rfl
    have:=ih (i+1) k (by omega) (by omega)
    rw [←e] at this
    exact this
theorem A_is (n:Int) (l:List S89) (hl:l.length≤100):∀k,101≤k→ergolaw13_A_Atom.f k n l=some (bytesL (predS n),argsOf l):=by
  intro k hk
  unfold ergolaw13_A_Atom.f
  rw [(pred_is n).1]
  simp only [Option.bind_some]
  exact A_l0 l hl _ l.length 0 k (by omega) (by omega)
abbrev Tm:=S98
abbrev Xp:=S104
abbrev Pt:=S106
end Go.Proofs.YtjlnpdpkobpkiaaGreatDoorPSP.Mk
set_option linter.unusedVariables false
set_option linter.unusedSimpArgs false
namespace Go.Proofs.YtjlnpdpkobpkiaaGreatDoorPSP.Mk
open Go Go.Deep Go.ChangeShapes Go.WideShapes Go.RowKit Go.Proofs.YtjlnpdpkobpkiaaGreatDoorW.PrintWords Go.Proofs.YtjlnpdpkobpkiaaGreatDoor
theorem bd64 {x:Int} (h:(Lit.int .i64 x).wf=true): -9223372036854775808≤x∧x≤9223372036854775807:=by
  simpa [Lit.wf,IntKind.min,IntKind.max,IntKind.signed,IntKind.bits] using h
theorem opens43 {n:Nat}:OpensAt Tryz.prog n 89 k89.K TN:=
  OpensAt.imp (OpensAt.le (opens_struct (n := n) (sz := 3) Tryz.underlying89 (by kernel_rfl)
    (.cons (s0:=1) rfl (by kernel_rfl) (opens_int (k:= .i64) Tryz.underlying3) (.cons (s0:=1) rfl (by kernel_rfl) (opens_int (k:= .i64) Tryz.underlying3) (.one (sz:=1) rfl (by kernel_rfl) (opens_int (k:= .i64) Tryz.underlying2))))) (Nat.le_succ n))
    (fun x=>(⟨x.1,x.2.1,x.2.2⟩:S89)) (fun w a cs h _=>by
      obtain ⟨_,_,rfl,rfl,⟨_,_,rfl,rfl,rfl⟩⟩:=h
      exact k89_mk w ⟨a.1,a.2.1,a.2.2⟩) (fun a h=>bd64 h.2.2)
theorem opens44 {n:Nat}:OpensAt Tryz.prog n 22 (RSlice k89.K 3) (fun xs=>∀x∈xs,TN x):=
  OpensAt.imp (OpensAt.le (opens_slice (n:=n) Tryz.underlying22 (by kernel_rfl) opens43) (Nat.le_succ n)) id (fun _ _ _ h _=>h) (fun _ h=>h.2)
def RA (w:World) (x:Int×List S89) (cs:List Value):Prop:=∃A c,cs=[.int .i64 x.1,.slice A x.2.length c]∧x.2.length≤c∧Kd.C k89 w A x.2.length x.2
theorem opens46 {n:Nat}:OpensAt Tryz.prog n 24 RA (fun x=>∀t∈x.2,TN t):=
  OpensAt.imp (OpensAt.le (opens_struct (n := n) (sz := 2) Tryz.underlying24 (by kernel_rfl)
    (.cons (s0:=1) rfl (by kernel_rfl) (opens_int (k:= .i64) Tryz.underlying3) (.one (sz:=1) rfl (by kernel_rfl) opens44))) (Nat.le_succ n))
    id (fun w a cs h _=>by
      obtain ⟨_,_,rfl,rfl,⟨A,c,rfl,hl,hr⟩⟩:=h
      exact ⟨A,c,rfl,hl,hr⟩) (fun a h=>h.2)
end Go.Proofs.YtjlnpdpkobpkiaaGreatDoorPSP.Mk
