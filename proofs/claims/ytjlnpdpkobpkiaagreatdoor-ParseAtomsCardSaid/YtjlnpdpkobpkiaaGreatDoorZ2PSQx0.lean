import Derived.Test.YtjlnpdpkobpkiaaGreatDoorProg
import Derived.Below
import Derived.Deep.Draws
import Derived.Deep.AppendLies
import Derived.Maps.AppendAt
import Derived.OwnWalk
import Derived.Laws.BytesArg
import Derived.Laws.MakeOwn
import Derived.Laws.OwnMore
import Derived.Deep.OwnRows
import Derived.Tactics
import Derived.Lib.ConvBytes
import Derived.Laws.Slices
import Derived.WalkKit
import Derived.KernelRfl
import Derived.RowKit3
import Derived.Deep.LoopGhost
import Derived.Deep.QuietTactic
import Derived.BigQuiet
import Derived.WideLaws
import Derived.Deep.DeepCutAuto
import Derived.Deep.CutBlock
import Derived.Deep.RegionHeld3
import Derived.Laws.Rows
import Derived.Lib.AppendStr
import Derived.ArgAppend
import Derived.Laws.IdiomCopy
import Derived.OrdersHeld
import Derived.Laws.BitsLemmas
import Derived.RowKit
import Derived.Test.YtjlnpdpkobpkiaaGreatDoorZ2Conc
import Derived.Test.YtjlnpdpkobpkiaaGreatDoorZ2TermS
import Derived.Test.YtjlnpdpkobpkiaaGreatDoorZ2W1
import Derived.Test.YtjlnpdpkobpkiaaGreatDoorZ2PSPx2
import Derived.Test.YtjlnpdpkobpkiaaGreatDoorZ2PSPx4
namespace Go.Proofs.YtjlnpdpkobpkiaaGreatDoorPSP
open Go.RowKit Go.Proofs.YtjlnpdpkobpkiaaGreatDoorW.PrintWords Go.Proofs.YtjlnpdpkobpkiaaGreatDoorW.PrintLast Go.Proofs.YtjlnpdpkobpkiaaGreatDoorW.PrintMore
attribute [local go_sem] max2_int min2_int max_two min_two max_three min_three max_four min_four   -- for this text's walks alone
set_option linter.unusedVariables false
set_option linter.unusedSimpArgs false
structure S89 where
  f0:Int
  f1:Int
  f2:Int
def z89:S89:=⟨(0:Int),(0:Int),(0:Int)⟩
def k89:Kd S89:=Kd.iso (Kd.pair (Kd.int .i64) (Kd.pair (Kd.int .i64) (Kd.int .i64))) (fun x:S89=>(x.f0,x.f1,x.f2))
theorem k89_open {w:World} {x:S89} {cs:List Value} (h:k89.K w x cs):cs=[.int .i64 x.f0,.int .i64 x.f1,.int .i64 x.f2]:=by
  obtain ⟨_,_,rfl,rfl,⟨_,_,rfl,rfl,rfl⟩⟩:=h
  exact rfl
theorem k89_mk (w:World) (x:S89):k89.K w x [.int .i64 x.f0,.int .i64 x.f1,.int .i64 x.f2]:=⟨[.int .i64 x.f0],[.int .i64 x.f1,.int .i64 x.f2],rfl,rfl,⟨[.int .i64 x.f1],[.int .i64 x.f2],rfl,rfl,rfl⟩⟩
def rd_T89 (xs:List S89) (i:Int):S89:=xs.getD i.toNat z89
theorem at_T89 {w:World} {A:Option Addr} {n:Nat} {xs:List S89} (h:Kd.C k89 w A n xs) (i:Int) (h0:0≤i) (h1:i<n):∃ad,A=some ad∧w.cell? (ad.add (i.toNat*3))=some (.int .i64 (rd_T89 xs i).f0)∧w.cell? ⟨(ad.add (i.toNat*3)).block,(ad.add (i.toNat*3)).off+1,none⟩=some (.int .i64 (rd_T89 xs i).f1)∧w.cell? ⟨(ad.add (i.toNat*3)).block,(ad.add (i.toNat*3)).off+2,none⟩=some (.int .i64 (rd_T89 xs i).f2):=by
  obtain ⟨ad,c,e,_,hK,hc0⟩:=Kd.C_get h z89 i h0 h1
  have hc:∀j u,c[j]? =some u→w.cell? (ad.add (i.toNat*3+j))=some u:=hc0
  obtain rfl:=k89_open hK
  exact ⟨ad,e,hc 0 _ rfl,by rw [←add_field _ _ 1 (by omega)];exact hc 1 _ rfl,by rw [←add_field _ _ 2 (by omega)];exact hc 2 _ rfl⟩
structure S92 where
  f0:S89
  f1:Int
  f2:(List S92)
def F92 (d:Kd S92):Kd S92:=Kd.iso (Kd.pair k89 (Kd.pair (Kd.int .i64) (Kd.slice 92 d))) (fun x:S92=>(x.f0,x.f1,x.f2))
theorem sub92:Kd.Sub F92 [92]:=Kd.sub_iso _ (Kd.sub_pair (Kd.sub_const _ (by decide)) (Kd.sub_pair (Kd.sub_const _ (by decide)) (Kd.sub_slice 92 (by decide) Kd.sub_id)))
theorem sz92:∀n,(Kd.upto F92 5 [92] n).sz=5:=Kd.upto_sz (fun _=>rfl)
def k92:Kd S92:=Kd.fix F92 5 [92] sz92 (Kd.upto_E sub92)
structure S24 where
  f0:Int
  f1:(List S89)
def k24:Kd S24:=Kd.iso (Kd.pair (Kd.int .i64) (Kd.slice 89 k89)) (fun x:S24=>(x.f0,x.f1))
structure S94 where
  f0:Int
  f1:Int
  f2:S24
  f3:S89
  f4:S89
  f5:S92
def k94:Kd S94:=Kd.iso (Kd.pair (Kd.int .i64) (Kd.pair (Kd.int .i64) (Kd.pair k24 (Kd.pair k89 (Kd.pair k89 k92))))) (fun x:S94=>(x.f0,x.f1,x.f2,x.f3,x.f4,x.f5))
structure S27 where
  f0:S24
  f1:Int
  f2:(List S94)
def k27:Kd S27:=Kd.iso (Kd.pair k24 (Kd.pair (Kd.int .i64) (Kd.slice 94 k94))) (fun x:S27=>(x.f0,x.f1,x.f2))
end Go.Proofs.YtjlnpdpkobpkiaaGreatDoorPSP
