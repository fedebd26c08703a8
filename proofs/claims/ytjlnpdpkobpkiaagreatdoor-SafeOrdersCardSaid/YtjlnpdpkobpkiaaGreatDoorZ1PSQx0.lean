import Derived.Test.YtjlnpdpkobpkiaaGreatDoorProg
import Derived.Below
import Derived.Deep.Draws
import Derived.Deep.AppendLies
import Derived.Maps.AppendAt
import Derived.OwnWalk
import Derived.Laws.BytesArg
import Derived.Laws.MakeOwn
import Derived.Laws.OwnMore
import Derived.Deep.OwnRows
import Derived.Tactics
import Derived.Lib.ConvBytes
import Derived.Laws.Slices
import Derived.WalkKit
import Derived.KernelRfl
import Derived.RowKit3
import Derived.Deep.LoopGhost
import Derived.Deep.QuietTactic
import Derived.BigQuiet
import Derived.WideLaws
import Derived.Deep.DeepCutAuto
import Derived.Deep.CutBlock
import Derived.Deep.RegionHeld3
import Derived.Laws.Rows
import Derived.Lib.AppendStr
import Derived.ArgAppend
import Derived.Laws.IdiomCopy
import Derived.OrdersHeld
import Derived.Laws.BitsLemmas
import Derived.RowKit
import Derived.Test.YtjlnpdpkobpkiaaGreatDoorZ1Conc
import Derived.Test.YtjlnpdpkobpkiaaGreatDoorZ1TermS
import Derived.Test.YtjlnpdpkobpkiaaGreatDoorZ1W1
import Derived.Test.YtjlnpdpkobpkiaaGreatDoorZ1PSPx2
import Derived.Test.YtjlnpdpkobpkiaaGreatDoorZ1PSPx4
namespace Go.Proofs.YtjlnpdpkobpkiaaGreatDoorPSP
open Go.RowKit Go.Proofs.YtjlnpdpkobpkiaaGreatDoorW.PrintWords Go.Proofs.YtjlnpdpkobpkiaaGreatDoorW.PrintLast Go.Proofs.YtjlnpdpkobpkiaaGreatDoorW.PrintMore
attribute [local go_sem] max2_int min2_int max_two min_two max_three min_three max_four min_four   -- for this text's walks alone
set_option linter.unusedVariables false
set_option linter.unusedSimpArgs false
theorem info106:(Tryz.prog.info? 106).map (fun i=>(i.zero,i.size,i.bytes))=some (some (.agg #[(.int .i64 0),(.string ⟨#[]⟩),(.slice none 0 0),(.int .i64 0),(.int .i64 0),(.string ⟨#[]⟩),(.int .i64 0),(.int .i64 0),(.string ⟨#[]⟩),(.int .i64 0),(.string ⟨#[]⟩),(.int .i64 0),(.string ⟨#[]⟩),(.int .i64 0),(.int .i64 0),(.slice none 0 0)]),16,200):=by kernel_rfl
structure S89 where
 f0:Int
 f1:Int
 f2:Int
def z89:S89:=⟨(0:Int),(0:Int),(0:Int)⟩
def k89:Kd S89:=Kd.iso (Kd.pair (Kd.int .i64) (Kd.pair (Kd.int .i64) (Kd.int .i64))) (fun x:S89=>(x.f0,x.f1,x.f2))
theorem k89_open {w:World} {x:S89} {cs:List Value} (h:k89.K w x cs):cs=[.int .i64 x.f0,.int .i64 x.f1,.int .i64 x.f2]:=by
 obtain ⟨_,_,rfl,rfl,⟨_,_,rfl,rfl,rfl⟩⟩:=h
 exact rfl
theorem k89_mk (w:World) (x:S89):k89.K w x [.int .i64 x.f0,.int .i64 x.f1,.int .i64 x.f2]:=⟨[.int .i64 x.f0],[.int .i64 x.f1,.int .i64 x.f2],rfl,rfl,⟨[.int .i64 x.f1],[.int .i64 x.f2],rfl,rfl,rfl⟩⟩
def rd_T89 (xs:List S89) (i:Int):S89:=xs.getD i.toNat z89
theorem at_T89 {w:World} {A:Option Addr} {n:Nat} {xs:List S89} (h:Kd.C k89 w A n xs) (i:Int) (h0:0≤i) (h1:i<n):∃ad,A=some ad∧w.cell? (ad.add (i.toNat*3))=some (.int .i64 (rd_T89 xs i).f0)∧w.cell? ⟨(ad.add (i.toNat*3)).block,(ad.add (i.toNat*3)).off+1,none⟩=some (.int .i64 (rd_T89 xs i).f1)∧w.cell? ⟨(ad.add (i.toNat*3)).block,(ad.add (i.toNat*3)).off+2,none⟩=some (.int .i64 (rd_T89 xs i).f2):=by
 obtain ⟨ad,c,e,_,hK,hc0⟩:=Kd.C_get h z89 i h0 h1
 have hc:∀j u,c[j]? =some u→w.cell? (ad.add (i.toNat*3+j))=some u:=hc0
 obtain rfl:=k89_open hK
 exact ⟨ad,e,hc 0 _ rfl,by rw [←add_field _ _ 1 (by omega)];exact hc 1 _ rfl,by rw [←add_field _ _ 2 (by omega)];exact hc 2 _ rfl⟩
structure S92 where
 f0:S89
 f1:Int
 f2:(List S92)
def z92:S92:=⟨z89,(0:Int),([]:List S92)⟩
def F92 (d:Kd S92):Kd S92:=Kd.iso (Kd.pair k89 (Kd.pair (Kd.int .i64) (Kd.slice 92 d))) (fun x:S92=>(x.f0,x.f1,x.f2))
theorem mono92:Kd.Mono F92:=Kd.mono_iso _ (Kd.mono_pair (Kd.mono_const _) (Kd.mono_pair (Kd.mono_const _) (Kd.mono_slice 92 Kd.mono_id)))
theorem sub92:Kd.Sub F92 [92]:=Kd.sub_iso _ (Kd.sub_pair (Kd.sub_const _ (by decide)) (Kd.sub_pair (Kd.sub_const _ (by decide)) (Kd.sub_slice 92 (by decide) Kd.sub_id)))
theorem sz92:∀n,(Kd.upto F92 5 [92] n).sz=5:=Kd.upto_sz (fun _=>rfl)
def k92:Kd S92:=Kd.fix F92 5 [92] sz92 (Kd.upto_E sub92)
theorem k92_open {w:World} {x:S92} {cs:List Value} (h:k92.K w x cs):∃A4 c4,cs=[.int .i64 x.f0.f0,.int .i64 x.f0.f1,.int .i64 x.f0.f2,.int .i64 x.f1,.slice A4 x.f2.length c4]∧x.f2.length≤c4∧k92.C w A4 x.f2.length x.f2:=by
 obtain ⟨n,h⟩:=h
 cases n with
 |zero=>exact h.elim
 |succ n=>
  obtain ⟨_,_,rfl,s0,⟨_,_,rfl,rfl,⟨A4,c4,rfl,l4,g4⟩⟩⟩:=h
  obtain rfl:=k89_open s0
  exact ⟨A4,c4,rfl,l4,Kd.fix_C g4⟩
theorem k92_mk (w:World) (x:S92) {A4:Option Addr} {c4:Nat} (l4:x.f2.length≤c4) (g4:k92.C w A4 x.f2.length x.f2):k92.K w x [.int .i64 x.f0.f0,.int .i64 x.f0.f1,.int .i64 x.f0.f2,.int .i64 x.f1,.slice A4 x.f2.length c4]:=by
 obtain ⟨n4,q4⟩:=Kd.fix_C_back mono92 g4
 have r4:=Kd.upto_C_le mono92 sz92 (show n4≤n4 by omega) q4
 exact ⟨n4+1,⟨[.int .i64 x.f0.f0,.int .i64 x.f0.f1,.int .i64 x.f0.f2],[.int .i64 x.f1,.slice A4 x.f2.length c4],rfl,(k89_mk w x.f0),⟨[.int .i64 x.f1],[.slice A4 x.f2.length c4],rfl,rfl,⟨A4,c4,rfl,l4,r4⟩⟩⟩⟩
def rd_T92 (xs:List S92) (i:Int):S92:=xs.getD i.toNat z92
theorem at_T92 {w:World} {A:Option Addr} {n:Nat} {xs:List S92} (h:Kd.C k92 w A n xs) (i:Int) (h0:0≤i) (h1:i<n):∃ad A4 c4,A=some ad∧w.cell? (ad.add (i.toNat*5))=some (.int .i64 (rd_T92 xs i).f0.f0)∧w.cell? ⟨(ad.add (i.toNat*5)).block,(ad.add (i.toNat*5)).off+1,none⟩=some (.int .i64 (rd_T92 xs i).f0.f1)∧w.cell? ⟨(ad.add (i.toNat*5)).block,(ad.add (i.toNat*5)).off+2,none⟩=some (.int .i64 (rd_T92 xs i).f0.f2)∧w.cell? ⟨(ad.add (i.toNat*5)).block,(ad.add (i.toNat*5)).off+3,none⟩=some (.int .i64 (rd_T92 xs i).f1)∧w.cell? ⟨(ad.add (i.toNat*5)).block,(ad.add (i.toNat*5)).off+4,none⟩=some (.slice A4 (rd_T92 xs i).f2.length c4)∧(rd_T92 xs i).f2.length≤c4∧k92.C w A4 (rd_T92 xs i).f2.length (rd_T92 xs i).f2:=by
 obtain ⟨ad,c,e,_,hK,hc0⟩:=Kd.C_get h z92 i h0 h1
 have hc:∀j u,c[j]? =some u→w.cell? (ad.add (i.toNat*5+j))=some u:=hc0
 obtain ⟨A4,c4,rfl,l4,g4⟩:=k92_open hK
 exact ⟨ad,A4,c4,e,hc 0 _ rfl,by rw [←add_field _ _ 1 (by omega)];exact hc 1 _ rfl,by rw [←add_field _ _ 2 (by omega)];exact hc 2 _ rfl,by rw [←add_field _ _ 3 (by omega)];exact hc 3 _ rfl,by rw [←add_field _ _ 4 (by omega)];exact hc 4 _ rfl,l4,g4⟩
structure S24 where
 f0:Int
 f1:(List S89)
def z24:S24:=⟨(0:Int),([]:List S89)⟩
def k24:Kd S24:=Kd.iso (Kd.pair (Kd.int .i64) (Kd.slice 89 k89)) (fun x:S24=>(x.f0,x.f1))
theorem k24_open {w:World} {x:S24} {cs:List Value} (h:k24.K w x cs):∃A1 c1,cs=[.int .i64 x.f0,.slice A1 x.f1.length c1]∧x.f1.length≤c1∧k89.C w A1 x.f1.length x.f1:=by
 obtain ⟨_,_,rfl,rfl,⟨A1,c1,rfl,l1,g1⟩⟩:=h
 exact ⟨A1,c1,rfl,l1,g1⟩
theorem k24_mk (w:World) (x:S24) {A1:Option Addr} {c1:Nat} (l1:x.f1.length≤c1) (g1:k89.C w A1 x.f1.length x.f1):k24.K w x [.int .i64 x.f0,.slice A1 x.f1.length c1]:=⟨[.int .i64 x.f0],[.slice A1 x.f1.length c1],rfl,rfl,⟨A1,c1,rfl,l1,g1⟩⟩
structure S94 where
 f0:Int
 f1:Int
 f2:S24
 f3:S89
 f4:S89
 f5:S92
def z94:S94:=⟨(0:Int),(0:Int),z24,z89,z89,z92⟩
def k94:Kd S94:=Kd.iso (Kd.pair (Kd.int .i64) (Kd.pair (Kd.int .i64) (Kd.pair k24 (Kd.pair k89 (Kd.pair k89 k92))))) (fun x:S94=>(x.f0,x.f1,x.f2,x.f3,x.f4,x.f5))
theorem k94_open {w:World} {x:S94} {cs:List Value} (h:k94.K w x cs):∃A3 c3 A14 c14,cs=[.int .i64 x.f0,.int .i64 x.f1,.int .i64 x.f2.f0,.slice A3 x.f2.f1.length c3,.int .i64 x.f3.f0,.int .i64 x.f3.f1,.int .i64 x.f3.f2,.int .i64 x.f4.f0,.int .i64 x.f4.f1,.int .i64 x.f4.f2,.int .i64 x.f5.f0.f0,.int .i64 x.f5.f0.f1,.int .i64 x.f5.f0.f2,.int .i64 x.f5.f1,.slice A14 x.f5.f2.length c14]∧x.f2.f1.length≤c3∧k89.C w A3 x.f2.f1.length x.f2.f1∧x.f5.f2.length≤c14∧k92.C w A14 x.f5.f2.length x.f5.f2:=by
 obtain ⟨_,_,rfl,rfl,⟨_,_,rfl,rfl,⟨_,_,rfl,s2,⟨_,_,rfl,s4,⟨_,_,rfl,s7,s10⟩⟩⟩⟩⟩:=h
 obtain ⟨A3,c3,rfl,l3,g3⟩:=k24_open s2
 obtain rfl:=k89_open s4
 obtain rfl:=k89_open s7
 obtain ⟨A14,c14,rfl,l14,g14⟩:=k92_open s10
 exact ⟨A3,c3,A14,c14,rfl,l3,g3,l14,g14⟩
theorem k94_mk (w:World) (x:S94) {A3:Option Addr} {c3:Nat} (l3:x.f2.f1.length≤c3) (g3:k89.C w A3 x.f2.f1.length x.f2.f1) {A14:Option Addr} {c14:Nat} (l14:x.f5.f2.length≤c14) (g14:k92.C w A14 x.f5.f2.length x.f5.f2):k94.K w x [.int .i64 x.f0,.int .i64 x.f1,.int .i64 x.f2.f0,.slice A3 x.f2.f1.length c3,.int .i64 x.f3.f0,.int .i64 x.f3.f1,.int .i64 x.f3.f2,.int .i64 x.f4.f0,.int .i64 x.f4.f1,.int .i64 x.f4.f2,.int .i64 x.f5.f0.f0,.int .i64 x.f5.f0.f1,.int .i64 x.f5.f0.f2,.int .i64 x.f5.f1,.slice A14 x.f5.f2.length c14]:=⟨[.int .i64 x.f0],[.int .i64 x.f1,.int .i64 x.f2.f0,.slice A3 x.f2.f1.length c3,.int .i64 x.f3.f0,.int .i64 x.f3.f1,.int .i64 x.f3.f2,.int .i64 x.f4.f0,.int .i64 x.f4.f1,.int .i64 x.f4.f2,.int .i64 x.f5.f0.f0,.int .i64 x.f5.f0.f1,.int .i64 x.f5.f0.f2,.int .i64 x.f5.f1,.slice A14 x.f5.f2.length c14],rfl,rfl,⟨[.int .i64 x.f1],[.int .i64 x.f2.f0,.slice A3 x.f2.f1.length c3,.int .i64 x.f3.f0,.int .i64 x.f3.f1,.int .i64 x.f3.f2,.int .i64 x.f4.f0,.int .i64 x.f4.f1,.int .i64 x.f4.f2,.int .i64 x.f5.f0.f0,.int .i64 x.f5.f0.f1,.int .i64 x.f5.f0.f2,.int .i64 x.f5.f1,.slice A14 x.f5.f2.length c14],rfl,rfl,⟨[.int .i64 x.f2.f0,.slice A3 x.f2.f1.length c3],[.int .i64 x.f3.f0,.int .i64 x.f3.f1,.int .i64 x.f3.f2,.int .i64 x.f4.f0,.int .i64 x.f4.f1,.int .i64 x.f4.f2,.int .i64 x.f5.f0.f0,.int .i64 x.f5.f0.f1,.int .i64 x.f5.f0.f2,.int .i64 x.f5.f1,.slice A14 x.f5.f2.length c14],rfl,(k24_mk w x.f2 l3 g3),⟨[.int .i64 x.f3.f0,.int .i64 x.f3.f1,.int .i64 x.f3.f2],[.int .i64 x.f4.f0,.int .i64 x.f4.f1,.int .i64 x.f4.f2,.int .i64 x.f5.f0.f0,.int .i64 x.f5.f0.f1,.int .i64 x.f5.f0.f2,.int .i64 x.f5.f1,.slice A14 x.f5.f2.length c14],rfl,(k89_mk w x.f3),⟨[.int .i64 x.f4.f0,.int .i64 x.f4.f1,.int .i64 x.f4.f2],[.int .i64 x.f5.f0.f0,.int .i64 x.f5.f0.f1,.int .i64 x.f5.f0.f2,.int .i64 x.f5.f1,.slice A14 x.f5.f2.length c14],rfl,(k89_mk w x.f4),(k92_mk w x.f5 l14 g14)⟩⟩⟩⟩⟩
def rd_T94 (xs:List S94) (i:Int):S94:=xs.getD i.toNat z94
theorem at_T94 {w:World} {A:Option Addr} {n:Nat} {xs:List S94} (h:Kd.C k94 w A n xs) (i:Int) (h0:0≤i) (h1:i<n):∃ad A3 c3 A14 c14,A=some ad∧w.cell? (ad.add (i.toNat*15))=some (.int .i64 (rd_T94 xs i).f0)∧w.cell? ⟨(ad.add (i.toNat*15)).block,(ad.add (i.toNat*15)).off+1,none⟩=some (.int .i64 (rd_T94 xs i).f1)∧w.cell? ⟨(ad.add (i.toNat*15)).block,(ad.add (i.toNat*15)).off+2,none⟩=some (.int .i64 (rd_T94 xs i).f2.f0)∧w.cell? ⟨(ad.add (i.toNat*15)).block,(ad.add (i.toNat*15)).off+3,none⟩=some (.slice A3 (rd_T94 xs i).f2.f1.length c3)∧w.cell? ⟨(ad.add (i.toNat*15)).block,(ad.add (i.toNat*15)).off+4,none⟩=some (.int .i64 (rd_T94 xs i).f3.f0)∧w.cell? ⟨(ad.add (i.toNat*15)).block,(ad.add (i.toNat*15)).off+5,none⟩=some (.int .i64 (rd_T94 xs i).f3.f1)∧w.cell? ⟨(ad.add (i.toNat*15)).block,(ad.add (i.toNat*15)).off+6,none⟩=some (.int .i64 (rd_T94 xs i).f3.f2)∧w.cell? ⟨(ad.add (i.toNat*15)).block,(ad.add (i.toNat*15)).off+7,none⟩=some (.int .i64 (rd_T94 xs i).f4.f0)∧w.cell? ⟨(ad.add (i.toNat*15)).block,(ad.add (i.toNat*15)).off+8,none⟩=some (.int .i64 (rd_T94 xs i).f4.f1)∧w.cell? ⟨(ad.add (i.toNat*15)).block,(ad.add (i.toNat*15)).off+9,none⟩=some (.int .i64 (rd_T94 xs i).f4.f2)∧w.cell? ⟨(ad.add (i.toNat*15)).block,(ad.add (i.toNat*15)).off+10,none⟩=some (.int .i64 (rd_T94 xs i).f5.f0.f0)∧w.cell? ⟨(ad.add (i.toNat*15)).block,(ad.add (i.toNat*15)).off+11,none⟩=some (.int .i64 (rd_T94 xs i).f5.f0.f1)∧w.cell? ⟨(ad.add (i.toNat*15)).block,(ad.add (i.toNat*15)).off+12,none⟩=some (.int .i64 (rd_T94 xs i).f5.f0.f2)∧w.cell? ⟨(ad.add (i.toNat*15)).block,(ad.add (i.toNat*15)).off+13,none⟩=some (.int .i64 (rd_T94 xs i).f5.f1)∧w.cell? ⟨(ad.add (i.toNat*15)).block,(ad.add (i.toNat*15)).off+14,none⟩=some (.slice A14 (rd_T94 xs i).f5.f2.length c14)∧(rd_T94 xs i).f2.f1.length≤c3∧k89.C w A3 (rd_T94 xs i).f2.f1.length (rd_T94 xs i).f2.f1∧(rd_T94 xs i).f5.f2.length≤c14∧k92.C w A14 (rd_T94 xs i).f5.f2.length (rd_T94 xs i).f5.f2:=by
 obtain ⟨ad,c,e,_,hK,hc0⟩:=Kd.C_get h z94 i h0 h1
 have hc:∀j u,c[j]? =some u→w.cell? (ad.add (i.toNat*15+j))=some u:=hc0
 obtain ⟨A3,c3,A14,c14,rfl,l3,g3,l14,g14⟩:=k94_open hK
 exact ⟨ad,A3,c3,A14,c14,e,hc 0 _ rfl,by rw [←add_field _ _ 1 (by omega)];exact hc 1 _ rfl,by rw [←add_field _ _ 2 (by omega)];exact hc 2 _ rfl,by rw [←add_field _ _ 3 (by omega)];exact hc 3 _ rfl,by rw [←add_field _ _ 4 (by omega)];exact hc 4 _ rfl,by rw [←add_field _ _ 5 (by omega)];exact hc 5 _ rfl,by rw [←add_field _ _ 6 (by omega)];exact hc 6 _ rfl,by rw [←add_field _ _ 7 (by omega)];exact hc 7 _ rfl,by rw [←add_field _ _ 8 (by omega)];exact hc 8 _ rfl,by rw [←add_field _ _ 9 (by omega)];exact hc 9 _ rfl,by rw [←add_field _ _ 10 (by omega)];exact hc 10 _ rfl,by rw [←add_field _ _ 11 (by omega)];exact hc 11 _ rfl,by rw [←add_field _ _ 12 (by omega)];exact hc 12 _ rfl,by rw [←add_field _ _ 13 (by omega)];exact hc 13 _ rfl,by rw [←add_field _ _ 14 (by omega)];exact hc 14 _ rfl,l3,g3,l14,g14⟩
structure S27 where
 f0:S24
 f1:Int
 f2:(List S94)
def z27:S27:=⟨z24,(0:Int),([]:List S94)⟩
def k27:Kd S27:=Kd.iso (Kd.pair k24 (Kd.pair (Kd.int .i64) (Kd.slice 94 k94))) (fun x:S27=>(x.f0,x.f1,x.f2))
theorem k27_open {w:World} {x:S27} {cs:List Value} (h:k27.K w x cs):∃A1 c1 A3 c3,cs=[.int .i64 x.f0.f0,.slice A1 x.f0.f1.length c1,.int .i64 x.f1,.slice A3 x.f2.length c3]∧x.f0.f1.length≤c1∧k89.C w A1 x.f0.f1.length x.f0.f1∧x.f2.length≤c3∧k94.C w A3 x.f2.length x.f2:=by
 obtain ⟨_,_,rfl,s0,⟨_,_,rfl,rfl,⟨A3,c3,rfl,l3,g3⟩⟩⟩:=h
 obtain ⟨A1,c1,rfl,l1,g1⟩:=k24_open s0
 exact ⟨A1,c1,A3,c3,rfl,l1,g1,l3,g3⟩
theorem k27_mk (w:World) (x:S27) {A1:Option Addr} {c1:Nat} (l1:x.f0.f1.length≤c1) (g1:k89.C w A1 x.f0.f1.length x.f0.f1) {A3:Option Addr} {c3:Nat} (l3:x.f2.length≤c3) (g3:k94.C w A3 x.f2.length x.f2):k27.K w x [.int .i64 x.f0.f0,.slice A1 x.f0.f1.length c1,.int .i64 x.f1,.slice A3 x.f2.length c3]:=⟨[.int .i64 x.f0.f0,.slice A1 x.f0.f1.length c1],[.int .i64 x.f1,.slice A3 x.f2.length c3],rfl,(k24_mk w x.f0 l1 g1),⟨[.int .i64 x.f1],[.slice A3 x.f2.length c3],rfl,rfl,⟨A3,c3,rfl,l3,g3⟩⟩⟩
def rd_T27 (xs:List S27) (i:Int):S27:=xs.getD i.toNat z27
theorem at_T27 {w:World} {A:Option Addr} {n:Nat} {xs:List S27} (h:Kd.C k27 w A n xs) (i:Int) (h0:0≤i) (h1:i<n):∃ad A1 c1 A3 c3,A=some ad∧w.cell? (ad.add (i.toNat*4))=some (.int .i64 (rd_T27 xs i).f0.f0)∧w.cell? ⟨(ad.add (i.toNat*4)).block,(ad.add (i.toNat*4)).off+1,none⟩=some (.slice A1 (rd_T27 xs i).f0.f1.length c1)∧w.cell? ⟨(ad.add (i.toNat*4)).block,(ad.add (i.toNat*4)).off+2,none⟩=some (.int .i64 (rd_T27 xs i).f1)∧w.cell? ⟨(ad.add (i.toNat*4)).block,(ad.add (i.toNat*4)).off+3,none⟩=some (.slice A3 (rd_T27 xs i).f2.length c3)∧(rd_T27 xs i).f0.f1.length≤c1∧k89.C w A1 (rd_T27 xs i).f0.f1.length (rd_T27 xs i).f0.f1∧(rd_T27 xs i).f2.length≤c3∧k94.C w A3 (rd_T27 xs i).f2.length (rd_T27 xs i).f2:=by
 obtain ⟨ad,c,e,_,hK,hc0⟩:=Kd.C_get h z27 i h0 h1
 have hc:∀j u,c[j]? =some u→w.cell? (ad.add (i.toNat*4+j))=some u:=hc0
 obtain ⟨A1,c1,A3,c3,rfl,l1,g1,l3,g3⟩:=k27_open hK
 exact ⟨ad,A1,c1,A3,c3,e,hc 0 _ rfl,by rw [←add_field _ _ 1 (by omega)];exact hc 1 _ rfl,by rw [←add_field _ _ 2 (by omega)];exact hc 2 _ rfl,by rw [←add_field _ _ 3 (by omega)];exact hc 3 _ rfl,l1,g1,l3,g3⟩
end Go.Proofs.YtjlnpdpkobpkiaaGreatDoorPSP
