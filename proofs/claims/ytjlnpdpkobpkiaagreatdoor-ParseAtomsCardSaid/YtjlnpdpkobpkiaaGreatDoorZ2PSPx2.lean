import Derived.Test.YtjlnpdpkobpkiaaGreatDoorProg
import Derived.Below
import Derived.Deep.Draws
import Derived.Deep.AppendLies
import Derived.Maps.AppendAt
import Derived.OwnWalk
import Derived.Laws.BytesArg
import Derived.Laws.MakeOwn
import Derived.Laws.OwnMore
import Derived.Deep.OwnRows
import Derived.Tactics
import Derived.Lib.ConvBytes
import Derived.Laws.Slices
import Derived.WalkKit
import Derived.KernelRfl
import Derived.RowKit3
import Derived.Deep.LoopGhost
import Derived.Deep.QuietTactic
import Derived.BigQuiet
import Derived.WideLaws
import Derived.Deep.DeepCutAuto
import Derived.Deep.CutBlock
import Derived.Deep.RegionHeld3
import Derived.Laws.Rows
import Derived.Lib.AppendStr
import Derived.ArgAppend
import Derived.Laws.IdiomCopy
import Derived.OrdersHeld
import Derived.Laws.BitsLemmas
import Derived.RowKit
import Derived.Test.YtjlnpdpkobpkiaaGreatDoorZ2Conc
import Derived.Test.YtjlnpdpkobpkiaaGreatDoorZ2W1
namespace Go.Proofs.YtjlnpdpkobpkiaaGreatDoorPSP
open Go.RowKit Go.Proofs.YtjlnpdpkobpkiaaGreatDoorW.PrintWords Go.Proofs.YtjlnpdpkobpkiaaGreatDoorW.PrintLast Go.Proofs.YtjlnpdpkobpkiaaGreatDoorW.PrintMore
attribute [local go_sem] max2_int min2_int max_two min_two max_three min_three max_four min_four   -- for this text's walks alone
set_option linter.unusedVariables false
set_option linter.unusedSimpArgs false
def errW:Option Int→Value
  |none=> .nilIface
  |some c=> .iface 0 (.int .i64 c)
theorem errW_none:errW none= .nilIface:=rfl
theorem errW_some (c:Int):errW (some c)= .iface 0 (.int .i64 c):=rfl
theorem info9:(Tryz.prog.info? 9).map (fun i=>(i.zero,i.size,i.bytes))=some (some (.string ⟨#[]⟩),1,16):=by kernel_rfl
theorem info98:(Tryz.prog.info? 98).map (fun i=>(i.zero,i.size,i.bytes))=some (some (.agg #[(.int .i64 0),(.string ⟨#[]⟩),(.int .i64 0)]),3,32):=by kernel_rfl
structure S98 where
  f0:Int
  f1:ByteArray
  f2:Int
def z98:S98:=⟨(0:Int),(⟨#[]⟩:ByteArray),(0:Int)⟩
def k98:Kd S98:=Kd.iso (Kd.pair (Kd.int .i64) (Kd.pair Kd.string (Kd.int .i64))) (fun x:S98=>(x.f0,x.f1,x.f2))
theorem k98_open {w:World} {x:S98} {cs:List Value} (h:k98.K w x cs):cs=[.int .i64 x.f0,.string x.f1,.int .i64 x.f2]:=by
  obtain ⟨_,_,rfl,rfl,⟨_,_,rfl,rfl,rfl⟩⟩:=h
  exact rfl
theorem k98_mk (w:World) (x:S98):k98.K w x [.int .i64 x.f0,.string x.f1,.int .i64 x.f2]:=⟨[.int .i64 x.f0],[.string x.f1,.int .i64 x.f2],rfl,rfl,⟨[.string x.f1],[.int .i64 x.f2],rfl,rfl,rfl⟩⟩
theorem k98_mkM (w:World) (base:Nat) (ok:Nat→Prop) (x:S98):k98.M w base ok x [.int .i64 x.f0,.string x.f1,.int .i64 x.f2]:=⟨[.int .i64 x.f0],[.string x.f1,.int .i64 x.f2],rfl,rfl,⟨[.string x.f1],[.int .i64 x.f2],rfl,rfl,rfl⟩⟩
def rd_T98 (xs:List S98) (i:Int):S98:=xs.getD i.toNat z98
theorem at_T98 {w:World} {A:Option Addr} {n:Nat} {xs:List S98} (h:Kd.C k98 w A n xs) (i:Int) (h0:0≤i) (h1:i<n):∃ad,A=some ad∧w.cell? (ad.add (i.toNat*3))=some (.int .i64 (rd_T98 xs i).f0)∧w.cell? ⟨(ad.add (i.toNat*3)).block,(ad.add (i.toNat*3)).off+1,none⟩=some (.string (rd_T98 xs i).f1)∧w.cell? ⟨(ad.add (i.toNat*3)).block,(ad.add (i.toNat*3)).off+2,none⟩=some (.int .i64 (rd_T98 xs i).f2):=by
  obtain ⟨ad,c,e,_,hK,hc0⟩:=Kd.C_get h z98 i h0 h1
  have hc:∀j u,c[j]? =some u→w.cell? (ad.add (i.toNat*3+j))=some u:=hc0
  obtain rfl:=k98_open hK
  exact ⟨ad,e,hc 0 _ rfl,by rw [←add_field _ _ 1 (by omega)];exact hc 1 _ rfl,by rw [←add_field _ _ 2 (by omega)];exact hc 2 _ rfl⟩
structure S104 where
  f0:S98
  f1:Int
  f2:(List S104)
def z104:S104:=⟨z98,(0:Int),([]:List S104)⟩
def F104 (d:Kd S104):Kd S104:=Kd.iso (Kd.pair k98 (Kd.pair (Kd.int .i64) (Kd.slice 104 d))) (fun x:S104=>(x.f0,x.f1,x.f2))
theorem mono104:Kd.Mono F104:=Kd.mono_iso _ (Kd.mono_pair (Kd.mono_const _) (Kd.mono_pair (Kd.mono_const _) (Kd.mono_slice 104 Kd.mono_id)))
theorem sub104:Kd.Sub F104 [104]:=Kd.sub_iso _ (Kd.sub_pair (Kd.sub_const _ (by decide)) (Kd.sub_pair (Kd.sub_const _ (by decide)) (Kd.sub_slice 104 (by decide) Kd.sub_id)))
theorem sz104:∀n,(Kd.upto F104 5 [104] n).sz=5:=Kd.upto_sz (fun _=>rfl)
def k104:Kd S104:=Kd.fix F104 5 [104] sz104 (Kd.upto_E sub104)
theorem k104_open {w:World} {x:S104} {cs:List Value} (h:k104.K w x cs):∃A4 c4,cs=[.int .i64 x.f0.f0,.string x.f0.f1,.int .i64 x.f0.f2,.int .i64 x.f1,.slice A4 x.f2.length c4]∧x.f2.length≤c4∧k104.C w A4 x.f2.length x.f2:=by
  obtain ⟨n,h⟩:=h
  cases n with
  |zero=>exact h.elim
  |succ n=>
    obtain ⟨_,_,rfl,s0,⟨_,_,rfl,rfl,⟨A4,c4,rfl,l4,g4⟩⟩⟩:=h
    obtain rfl:=k98_open s0
    exact ⟨A4,c4,rfl,l4,Kd.fix_C g4⟩
theorem k104_mk (w:World) (x:S104) {A4:Option Addr} {c4:Nat} (l4:x.f2.length≤c4) (g4:k104.C w A4 x.f2.length x.f2):k104.K w x [.int .i64 x.f0.f0,.string x.f0.f1,.int .i64 x.f0.f2,.int .i64 x.f1,.slice A4 x.f2.length c4]:=by
  obtain ⟨n4,q4⟩:=Kd.fix_C_back mono104 g4
  have r4:=Kd.upto_C_le mono104 sz104 (show n4≤n4 by omega) q4
  exact ⟨n4+1,⟨[.int .i64 x.f0.f0,.string x.f0.f1,.int .i64 x.f0.f2],[.int .i64 x.f1,.slice A4 x.f2.length c4],rfl,(k98_mk w x.f0),⟨[.int .i64 x.f1],[.slice A4 x.f2.length c4],rfl,rfl,⟨A4,c4,rfl,l4,r4⟩⟩⟩⟩
def rd_T104 (xs:List S104) (i:Int):S104:=xs.getD i.toNat z104
theorem at_T104 {w:World} {A:Option Addr} {n:Nat} {xs:List S104} (h:Kd.C k104 w A n xs) (i:Int) (h0:0≤i) (h1:i<n):∃ad A4 c4,A=some ad∧w.cell? (ad.add (i.toNat*5))=some (.int .i64 (rd_T104 xs i).f0.f0)∧w.cell? ⟨(ad.add (i.toNat*5)).block,(ad.add (i.toNat*5)).off+1,none⟩=some (.string (rd_T104 xs i).f0.f1)∧w.cell? ⟨(ad.add (i.toNat*5)).block,(ad.add (i.toNat*5)).off+2,none⟩=some (.int .i64 (rd_T104 xs i).f0.f2)∧w.cell? ⟨(ad.add (i.toNat*5)).block,(ad.add (i.toNat*5)).off+3,none⟩=some (.int .i64 (rd_T104 xs i).f1)∧w.cell? ⟨(ad.add (i.toNat*5)).block,(ad.add (i.toNat*5)).off+4,none⟩=some (.slice A4 (rd_T104 xs i).f2.length c4)∧(rd_T104 xs i).f2.length≤c4∧k104.C w A4 (rd_T104 xs i).f2.length (rd_T104 xs i).f2:=by
  obtain ⟨ad,c,e,_,hK,hc0⟩:=Kd.C_get h z104 i h0 h1
  have hc:∀j u,c[j]? =some u→w.cell? (ad.add (i.toNat*5+j))=some u:=hc0
  obtain ⟨A4,c4,rfl,l4,g4⟩:=k104_open hK
  exact ⟨ad,A4,c4,e,hc 0 _ rfl,by rw [←add_field _ _ 1 (by omega)];exact hc 1 _ rfl,by rw [←add_field _ _ 2 (by omega)];exact hc 2 _ rfl,by rw [←add_field _ _ 3 (by omega)];exact hc 3 _ rfl,by rw [←add_field _ _ 4 (by omega)];exact hc 4 _ rfl,l4,g4⟩
structure S33 where
  f0:ByteArray
  f1:(List S98)
def z33:S33:=⟨(⟨#[]⟩:ByteArray),([]:List S98)⟩
def k33:Kd S33:=Kd.iso (Kd.pair Kd.string (Kd.slice 98 k98)) (fun x:S33=>(x.f0,x.f1))
theorem k33_open {w:World} {x:S33} {cs:List Value} (h:k33.K w x cs):∃A1 c1,cs=[.string x.f0,.slice A1 x.f1.length c1]∧x.f1.length≤c1∧k98.C w A1 x.f1.length x.f1:=by
  obtain ⟨_,_,rfl,rfl,⟨A1,c1,rfl,l1,g1⟩⟩:=h
  exact ⟨A1,c1,rfl,l1,g1⟩
theorem k33_mk (w:World) (x:S33) {A1:Option Addr} {c1:Nat} (l1:x.f1.length≤c1) (g1:k98.C w A1 x.f1.length x.f1):k33.K w x [.string x.f0,.slice A1 x.f1.length c1]:=⟨[.string x.f0],[.slice A1 x.f1.length c1],rfl,rfl,⟨A1,c1,rfl,l1,g1⟩⟩
structure S106 where
  f0:Int
  f1:S33
  f2:Int
  f3:S98
  f4:S98
  f5:ByteArray
  f6:S104
def z106:S106:=⟨(0:Int),z33,(0:Int),z98,z98,(⟨#[]⟩:ByteArray),z104⟩
def k106:Kd S106:=Kd.iso (Kd.pair (Kd.int .i64) (Kd.pair k33 (Kd.pair (Kd.int .i64) (Kd.pair k98 (Kd.pair k98 (Kd.pair Kd.string k104)))))) (fun x:S106=>(x.f0,x.f1,x.f2,x.f3,x.f4,x.f5,x.f6))
theorem k106_open {w:World} {x:S106} {cs:List Value} (h:k106.K w x cs):∃A2 c2 A15 c15,cs=[.int .i64 x.f0,.string x.f1.f0,.slice A2 x.f1.f1.length c2,.int .i64 x.f2,.int .i64 x.f3.f0,.string x.f3.f1,.int .i64 x.f3.f2,.int .i64 x.f4.f0,.string x.f4.f1,.int .i64 x.f4.f2,.string x.f5,.int .i64 x.f6.f0.f0,.string x.f6.f0.f1,.int .i64 x.f6.f0.f2,.int .i64 x.f6.f1,.slice A15 x.f6.f2.length c15]∧x.f1.f1.length≤c2∧k98.C w A2 x.f1.f1.length x.f1.f1∧x.f6.f2.length≤c15∧k104.C w A15 x.f6.f2.length x.f6.f2:=by
  obtain ⟨_,_,rfl,rfl,⟨_,_,rfl,s1,⟨_,_,rfl,rfl,⟨_,_,rfl,s4,⟨_,_,rfl,s7,⟨_,_,rfl,rfl,s11⟩⟩⟩⟩⟩⟩:=h
  obtain ⟨A2,c2,rfl,l2,g2⟩:=k33_open s1
  obtain rfl:=k98_open s4
  obtain rfl:=k98_open s7
  obtain ⟨A15,c15,rfl,l15,g15⟩:=k104_open s11
  exact ⟨A2,c2,A15,c15,rfl,l2,g2,l15,g15⟩
theorem k106_mk (w:World) (x:S106) {A2:Option Addr} {c2:Nat} (l2:x.f1.f1.length≤c2) (g2:k98.C w A2 x.f1.f1.length x.f1.f1) {A15:Option Addr} {c15:Nat} (l15:x.f6.f2.length≤c15) (g15:k104.C w A15 x.f6.f2.length x.f6.f2):k106.K w x [.int .i64 x.f0,.string x.f1.f0,.slice A2 x.f1.f1.length c2,.int .i64 x.f2,.int .i64 x.f3.f0,.string x.f3.f1,.int .i64 x.f3.f2,.int .i64 x.f4.f0,.string x.f4.f1,.int .i64 x.f4.f2,.string x.f5,.int .i64 x.f6.f0.f0,.string x.f6.f0.f1,.int .i64 x.f6.f0.f2,.int .i64 x.f6.f1,.slice A15 x.f6.f2.length c15]:=⟨[.int .i64 x.f0],[.string x.f1.f0,.slice A2 x.f1.f1.length c2,.int .i64 x.f2,.int .i64 x.f3.f0,.string x.f3.f1,.int .i64 x.f3.f2,.int .i64 x.f4.f0,.string x.f4.f1,.int .i64 x.f4.f2,.string x.f5,.int .i64 x.f6.f0.f0,.string x.f6.f0.f1,.int .i64 x.f6.f0.f2,.int .i64 x.f6.f1,.slice A15 x.f6.f2.length c15],rfl,rfl,⟨[.string x.f1.f0,.slice A2 x.f1.f1.length c2],[.int .i64 x.f2,.int .i64 x.f3.f0,.string x.f3.f1,.int .i64 x.f3.f2,.int .i64 x.f4.f0,.string x.f4.f1,.int .i64 x.f4.f2,.string x.f5,.int .i64 x.f6.f0.f0,.string x.f6.f0.f1,.int .i64 x.f6.f0.f2,.int .i64 x.f6.f1,.slice A15 x.f6.f2.length c15],rfl,(k33_mk w x.f1 l2 g2),⟨[.int .i64 x.f2],[.int .i64 x.f3.f0,.string x.f3.f1,.int .i64 x.f3.f2,.int .i64 x.f4.f0,.string x.f4.f1,.int .i64 x.f4.f2,.string x.f5,.int .i64 x.f6.f0.f0,.string x.f6.f0.f1,.int .i64 x.f6.f0.f2,.int .i64 x.f6.f1,.slice A15 x.f6.f2.length c15],rfl,rfl,⟨[.int .i64 x.f3.f0,.string x.f3.f1,.int .i64 x.f3.f2],[.int .i64 x.f4.f0,.string x.f4.f1,.int .i64 x.f4.f2,.string x.f5,.int .i64 x.f6.f0.f0,.string x.f6.f0.f1,.int .i64 x.f6.f0.f2,.int .i64 x.f6.f1,.slice A15 x.f6.f2.length c15],rfl,(k98_mk w x.f3),⟨[.int .i64 x.f4.f0,.string x.f4.f1,.int .i64 x.f4.f2],[.string x.f5,.int .i64 x.f6.f0.f0,.string x.f6.f0.f1,.int .i64 x.f6.f0.f2,.int .i64 x.f6.f1,.slice A15 x.f6.f2.length c15],rfl,(k98_mk w x.f4),⟨[.string x.f5],[.int .i64 x.f6.f0.f0,.string x.f6.f0.f1,.int .i64 x.f6.f0.f2,.int .i64 x.f6.f1,.slice A15 x.f6.f2.length c15],rfl,rfl,(k104_mk w x.f6 l15 g15)⟩⟩⟩⟩⟩⟩
theorem k106_mkF (W:World) (ok:Nat→Prop) (x:S106) {A2:Option Addr} {c2:Nat} (l2:x.f1.f1.length≤c2) (g2:Kd.F k98 W ok A2 x.f1.f1.length x.f1.f1) {A15:Option Addr} {c15:Nat} (l15:x.f6.f2.length≤c15) (g15:Kd.F k104 W ok A15 x.f6.f2.length x.f6.f2):Kd.FK k106 W ok x [.int .i64 x.f0,.string x.f1.f0,.slice A2 x.f1.f1.length c2,.int .i64 x.f2,.int .i64 x.f3.f0,.string x.f3.f1,.int .i64 x.f3.f2,.int .i64 x.f4.f0,.string x.f4.f1,.int .i64 x.f4.f2,.string x.f5,.int .i64 x.f6.f0.f0,.string x.f6.f0.f1,.int .i64 x.f6.f0.f2,.int .i64 x.f6.f1,.slice A15 x.f6.f2.length c15]:=fun W2 hW=>k106_mk W2 x l2 (g2 W2 hW) l15 (g15 W2 hW)
def rd_T106 (xs:List S106) (i:Int):S106:=xs.getD i.toNat z106
theorem at_T106 {w:World} {A:Option Addr} {n:Nat} {xs:List S106} (h:Kd.C k106 w A n xs) (i:Int) (h0:0≤i) (h1:i<n):∃ad A2 c2 A15 c15,A=some ad∧w.cell? (ad.add (i.toNat*16))=some (.int .i64 (rd_T106 xs i).f0)∧w.cell? ⟨(ad.add (i.toNat*16)).block,(ad.add (i.toNat*16)).off+1,none⟩=some (.string (rd_T106 xs i).f1.f0)∧w.cell? ⟨(ad.add (i.toNat*16)).block,(ad.add (i.toNat*16)).off+2,none⟩=some (.slice A2 (rd_T106 xs i).f1.f1.length c2)∧w.cell? ⟨(ad.add (i.toNat*16)).block,(ad.add (i.toNat*16)).off+3,none⟩=some (.int .i64 (rd_T106 xs i).f2)∧w.cell? ⟨(ad.add (i.toNat*16)).block,(ad.add (i.toNat*16)).off+4,none⟩=some (.int .i64 (rd_T106 xs i).f3.f0)∧w.cell? ⟨(ad.add (i.toNat*16)).block,(ad.add (i.toNat*16)).off+5,none⟩=some (.string (rd_T106 xs i).f3.f1)∧w.cell? ⟨(ad.add (i.toNat*16)).block,(ad.add (i.toNat*16)).off+6,none⟩=some (.int .i64 (rd_T106 xs i).f3.f2)∧w.cell? ⟨(ad.add (i.toNat*16)).block,(ad.add (i.toNat*16)).off+7,none⟩=some (.int .i64 (rd_T106 xs i).f4.f0)∧w.cell? ⟨(ad.add (i.toNat*16)).block,(ad.add (i.toNat*16)).off+8,none⟩=some (.string (rd_T106 xs i).f4.f1)∧w.cell? ⟨(ad.add (i.toNat*16)).block,(ad.add (i.toNat*16)).off+9,none⟩=some (.int .i64 (rd_T106 xs i).f4.f2)∧w.cell? ⟨(ad.add (i.toNat*16)).block,(ad.add (i.toNat*16)).off+10,none⟩=some (.string (rd_T106 xs i).f5)∧w.cell? ⟨(ad.add (i.toNat*16)).block,(ad.add (i.toNat*16)).off+11,none⟩=some (.int .i64 (rd_T106 xs i).f6.f0.f0)∧w.cell? ⟨(ad.add (i.toNat*16)).block,(ad.add (i.toNat*16)).off+12,none⟩=some (.string (rd_T106 xs i).f6.f0.f1)∧w.cell? ⟨(ad.add (i.toNat*16)).block,(ad.add (i.toNat*16)).off+13,none⟩=some (.int .i64 (rd_T106 xs i).f6.f0.f2)∧w.cell? ⟨(ad.add (i.toNat*16)).block,(ad.add (i.toNat*16)).off+14,none⟩=some (.int .i64 (rd_T106 xs i).f6.f1)∧w.cell? ⟨(ad.add (i.toNat*16)).block,(ad.add (i.toNat*16)).off+15,none⟩=some (.slice A15 (rd_T106 xs i).f6.f2.length c15)∧(rd_T106 xs i).f1.f1.length≤c2∧k98.C w A2 (rd_T106 xs i).f1.f1.length (rd_T106 xs i).f1.f1∧(rd_T106 xs i).f6.f2.length≤c15∧k104.C w A15 (rd_T106 xs i).f6.f2.length (rd_T106 xs i).f6.f2:=by
  obtain ⟨ad,c,e,_,hK,hc0⟩:=Kd.C_get h z106 i h0 h1
  have hc:∀j u,c[j]? =some u→w.cell? (ad.add (i.toNat*16+j))=some u:=hc0
  obtain ⟨A2,c2,A15,c15,rfl,l2,g2,l15,g15⟩:=k106_open hK
  exact ⟨ad,A2,c2,A15,c15,e,hc 0 _ rfl,by rw [←add_field _ _ 1 (by omega)];exact hc 1 _ rfl,by rw [←add_field _ _ 2 (by omega)];exact hc 2 _ rfl,by rw [←add_field _ _ 3 (by omega)];exact hc 3 _ rfl,by rw [←add_field _ _ 4 (by omega)];exact hc 4 _ rfl,by rw [←add_field _ _ 5 (by omega)];exact hc 5 _ rfl,by rw [←add_field _ _ 6 (by omega)];exact hc 6 _ rfl,by rw [←add_field _ _ 7 (by omega)];exact hc 7 _ rfl,by rw [←add_field _ _ 8 (by omega)];exact hc 8 _ rfl,by rw [←add_field _ _ 9 (by omega)];exact hc 9 _ rfl,by rw [←add_field _ _ 10 (by omega)];exact hc 10 _ rfl,by rw [←add_field _ _ 11 (by omega)];exact hc 11 _ rfl,by rw [←add_field _ _ 12 (by omega)];exact hc 12 _ rfl,by rw [←add_field _ _ 13 (by omega)];exact hc 13 _ rfl,by rw [←add_field _ _ 14 (by omega)];exact hc 14 _ rfl,by rw [←add_field _ _ 15 (by omega)];exact hc 15 _ rfl,l2,g2,l15,g15⟩
end Go.Proofs.YtjlnpdpkobpkiaaGreatDoorPSP
namespace Go.Proofs.YtjlnpdpkobpkiaaGreatDoorPSP
open Go.RowKit Go.Proofs.YtjlnpdpkobpkiaaGreatDoorW.PrintWords Go.Proofs.YtjlnpdpkobpkiaaGreatDoorW.PrintLast Go.Proofs.YtjlnpdpkobpkiaaGreatDoorW.PrintMore
attribute [local go_sem] max2_int min2_int max_two min_two max_three min_three max_four min_four   -- for this text's walks alone
set_option linter.unusedVariables false
set_option linter.unusedSimpArgs false
theorem eqA98 (d:Nat) (w:World) (x0 y0:Int) (x1 y1:ByteArray) (x2 y2:Int):
    (Op.equalIn (d+2) 98 (.agg #[.int .i64 x0,.string x1,.int .i64 x2]) (.agg #[.int .i64 y0,.string y1,.int .i64 y2])).run Tryz.prog w= .ok (x0==y0 && (x1.toList==y1.toList && (x2==y2))) w:=by
  refine eqA_of Tryz.underlying98 (by kernel_rfl) ?_
  refine eqf_cons (by rfl) (by go_simp;rfl) (by go_simp;rfl) (by go_simp) ?_
  refine eqf_cons (by rfl) (by go_simp;rfl) (by go_simp;rfl) (by go_simp) ?_
  exact eqf_last (by rfl) (by go_simp;rfl) (by go_simp;rfl) (by go_simp)
end Go.Proofs.YtjlnpdpkobpkiaaGreatDoorPSP
namespace Go.Proofs.YtjlnpdpkobpkiaaGreatDoorPSP
open Go.RowKit Go.Proofs.YtjlnpdpkobpkiaaGreatDoorW.PrintWords Go.Proofs.YtjlnpdpkobpkiaaGreatDoorW.PrintLast Go.Proofs.YtjlnpdpkobpkiaaGreatDoorW.PrintMore
attribute [local go_sem] max2_int min2_int max_two min_two max_three min_three max_four min_four   -- for this text's walks alone
set_option linter.unusedVariables false
set_option linter.unusedSimpArgs false
def IsS143 (w0 W:World) (g:Nat) (f0:ByteArray) (f1:Int):Prop:=W.heap[g]? =some (.cells #[.string f0,.int .i64 f1] 143 (0,0))∧w0.heap.size≤g
theorem IsS143.grown {w0 W:World} {g:Nat} {f0:ByteArray} {f1:Int} {W1:World} {row:Option Nat} (h:IsS143 w0 W g f0 f1) (hw:W.grownBy W1 row) (hne:some g≠row):IsS143 w0 W1 g f0 f1:=by
  obtain ⟨hb,hg⟩:=h
  exact ⟨blk_grown hb hw hne,hg⟩
theorem IsS143.fresh {w0 W:World} {g:Nat} {f0:ByteArray} {f1:Int} (h:IsS143 w0 W g f0 f1):∀k,W.heap.size≤k→k≠g:=by
  obtain ⟨hb,hg⟩:=h
  exact Kd.freshB hb
theorem IsS143.kept {w0 W:World} {g:Nat} {f0:ByteArray} {f1:Int} {W1:World} {S:Nat→Prop} (h:IsS143 w0 W g f0 f1) (hk:Kept W W1 S) (hne:¬S g):IsS143 w0 W1 g f0 f1:=by
  obtain ⟨hb,hg⟩:=h
  exact ⟨blk_kept hb hk hne,hg⟩
theorem IsS143.below {w0 W:World} {g:Nat} {f0:ByteArray} {f1:Int} {W1:World} (h:IsS143 w0 W g f0 f1) (hw:Below W.heap.size W W1):IsS143 w0 W1 g f0 f1:=h.grown (grown_of_below hw none) (by simp)
theorem IsS143.alloc {w0 W:World} {g:Nat} {f0:ByteArray} {f1:Int} (h:IsS143 w0 W g f0 f1) (o:Obj):IsS143 w0 (W.alloc o) g f0 f1:=h.below (below_alloc (Below.refl _ _) o)
theorem IsS143.drewN {w0 W:World} {g:Nat} {f0:ByteArray} {f1:Int} (h:IsS143 w0 W g f0 f1) (m:Nat):IsS143 w0 (W.drewN m) g f0 f1:=h
theorem IsS143.drew {w0 W:World} {g:Nat} {f0:ByteArray} {f1:Int} (h:IsS143 w0 W g f0 f1):IsS143 w0 W.drew g f0 f1:=h
theorem IsS143.at_ {w0 W:World} {g:Nat} {f0:ByteArray} {f1:Int} {w':World} {m:Nat} (hq:W.drewN m=w') (h:IsS143 w0 W g f0 f1):IsS143 w0 w' g f0 f1:=by subst hq;exact IsS143.drewN h m
theorem IsS143.apart {w0 W:World} {g:Nat} {f0:ByteArray} {f1:Int} {α:Type} {d:Kd α} {e:Nat} {base:Nat} {ok:Nat→Prop} {v:Value} {xs:List α} (h:IsS143 w0 W g f0 f1) (ho:d.R e W base ok v xs) (ht:∀q,q∈e::d.E→q≠143):d.R e W base (fun k=>ok k∧k≠g) v xs:=by
  obtain ⟨hb,hg⟩:=h
  exact Kd.R_types ho hb ht
theorem IsS143.own_ne {w0 W:World} {g:Nat} {f0:ByteArray} {f1:Int} {α:Type} {d:Kd α} {e:Nat} {base:Nat} {ok:Nat→Prop} {v:Value} {xs:List α} (h:IsS143 w0 W g f0 f1) (ho:d.R e W base ok v xs) (ht:e≠143):some g≠v.ownBlock:=by
  obtain ⟨hb,hg⟩:=h
  exact Kd.R_ne ho hb ht
theorem IsS143.lt {w0 W:World} {g:Nat} {f0:ByteArray} {f1:Int} (h:IsS143 w0 W g f0 f1):g<W.heap.size:=by
  obtain ⟨hb,hg⟩:=h
  exact blk_lt hb
def stringslite_HasPrefix.f (a0:ByteArray) (a1:ByteArray):Option (Bool):=if (a0.size:Int)≥(a1.size:Int) then (if 0≤(a1.size:Int) then (if (a1.size:Int)≤(a0.size:Int) then (some ((a0.extract 0 ((a1.size:Int):Int).toNat).toList==a1.toList)) else (none)) else (none)) else (some false)
set_option maxHeartbeats 8000000 in
set_option maxRecDepth 100000 in
theorem stringslite_HasPrefix.calls (a0:ByteArray) (a1:ByteArray) (r:Bool) (w:World) (h:stringslite_HasPrefix.f a0 a1=some r):
    Calls Tryz.prog 124 #[.string a0,.string a1] w fun e w'=>e= .returned (.bool r)∧Drawn0 w w':=by
  have H:(if (a0.size:Int)≥(a1.size:Int) then (if 0≤(a1.size:Int) then (if (a1.size:Int)≤(a0.size:Int) then (some ((a0.extract 0 ((a1.size:Int):Int).toNat).toList==a1.toList)) else (none)) else (none)) else (some false))=some r:=h
  clear h
  by_cases c3:(a0.size:Int)≥(a1.size:Int)
  · rw [if_pos c3] at H
    have c3b0:decide ((a1.size:Int)≤(a0.size:Int))=true:=decide_eq_true c3
    have c3b1:decide (a1.size≤a0.size)=true:=decide_eq_true (Int.ofNat_le.mp c3)
    clear c3
    by_cases c4:0≤(a1.size:Int)
    · rw [if_pos c4] at H
      have c4b0:=eq_true c4
      have c4b1:decide (0≤(a1.size:Int))=true:=decide_eq_true c4
      clear c4
      by_cases c5:(a1.size:Int)≤(a0.size:Int)
      · rw [if_pos c5] at H
        have c5b0:=eq_true c5
        have c5b1:decide ((a1.size:Int)≤(a0.size:Int))=true:=decide_eq_true c5
        clear c5
        obtain rfl:=Option.some.inj H
        go_enter Tryz.func124,Tryz.ntmps124
        go_wp2
        go_ret
        exact ⟨by first|rfl|(simp;done)|(simp [*];done),by repeat (first|exact Drawn0.refl _|apply Drawn0.step)⟩
      · rw [if_neg c5] at H
        exact absurd H (by simp)
    · rw [if_neg c4] at H
      exact absurd H (by simp)
  · rw [if_neg c3] at H
    have c3b0:decide ((a1.size:Int)≤(a0.size:Int))=false:=decide_eq_false c3
    have c3b1:decide (a1.size≤a0.size)=false:=decide_eq_false (fun h=>c3 (Int.ofNat_le.mpr h))
    clear c3
    obtain rfl:=Option.some.inj H
    go_enter Tryz.func124,Tryz.ntmps124
    go_wp2
    go_ret
    exact ⟨by first|rfl|(simp;done)|(simp [*];done),by repeat (first|exact Drawn0.refl _|apply Drawn0.step)⟩
def syntax_vars.l0:Nat→List ByteArray→List (S98)→Int→Int→Option (List ByteArray)
  |0,_,_,_,_=>none
  |k+1,x3,x6,x7,x8=>if x8<x7 then (if 0≤x8 then (if x8<(x6.length:Int) then (if ((rd_T98 x6 x8).f0)=0 then (if x3.length<8796093022208 then (syntax_vars.l0 k (x3++[(rd_T98 x6 x8).f1]) x6 x7 (wrap64 (x8+1))) else (none)) else (syntax_vars.l0 k x3 x6 x7 (wrap64 (x8+1)))) else (none)) else (none)) else (some x3)
def syntax_vars.f (k:Nat) (l0:List (S98)):Option (List ByteArray):=syntax_vars.l0 k ([]:List ByteArray) l0 (l0.length:Int) 0
set_option maxHeartbeats 8000000 in
set_option maxRecDepth 100000 in
theorem syntax_vars.calls (k:Nat) (A0:Option Addr) (c0:Nat) (l0:List (S98)) (r:List ByteArray) (w:World) (hr0:Kd.C k98 w A0 l0.length l0) (hc0:l0.length≤c0) (h:syntax_vars.f k l0=some r):
    Calls Tryz.prog 67 #[.slice A0 l0.length c0] w fun e w'=>∃v0_:Value,e= .returned (v0_)∧Kd.R Kd.string 9 w' w.heap.size (fun _=>True) v0_ r∧Below w.heap.size w w':=by
  have hu98:=Tryz.underlying98
  have HR0:=Aside0.mk hr0
  have HC0:=Aside0.mk hc0
  clear hr0 hc0
  have HB:=Aside0.mk (Below.refl w.heap.size w)
  have H:(syntax_vars.l0 k ([]:List ByteArray) l0 (l0.length:Int) 0)=some r:=h
  clear h
  have H':=Aside0.mk H
  clear H
  go_enter Tryz.func67,Tryz.ntmps67
  go_wp2
  go_loopg [3,8] k (fun kq v3 v8 w'=>∃(x3_1:List ByteArray) (x8_1:Int),v8= .int .i64 x8_1∧Aside0 (syntax_vars.l0 kq x3_1 l0 (l0.length:Int) x8_1=some r)∧Aside0 (kq≤k)∧Aside0 (Kd.R Kd.string 9 w' w.heap.size (fun _=>True) v3 x3_1)∧Aside0 (Below w.heap.size w w'))
  case atStart=>exact ⟨(([]:List ByteArray)),(0),(by first|rfl|(simp;done)|(simp [*];done)),H',⟨Nat.le_refl _⟩,⟨by first|exact Kd.R_nil _ _ _ _ _|exact Kd.N_nil _ _ _ _ _|exact Kd.V_nil _ _ _ _ _|exact Kd.Q_nil _ _ _ _ _|exact Kd.S_nil _ _ _ _ _⟩,⟨by repeat (first|(with_reducible first|exact HB.out|apply below_alloc|apply pw_below_drewN|apply below_drew1)|exact HB.out)⟩⟩
  case round=>
    clear H'
    obtain ⟨x3_1,x8_1,rfl,HA,HK1,HO_3,HB⟩:=hrel
    cases gk with
    |zero=>exact absurd HA.out (by simp [syntax_vars.l0])
    |succ k1=>
      have H:=HA.out
      clear HA
      simp only [syntax_vars.l0] at H
      by_cases c2:x8_1<(l0.length:Int)
      · rw [if_pos c2] at H
        have c2b0:decide (x8_1<(l0.length:Int))=true:=decide_eq_true c2
        clear c2
        by_cases c3:0≤x8_1
        · rw [if_pos c3] at H
          have c3b0:decide (0≤x8_1)=true:=decide_eq_true c3
          clear c3
          by_cases c4:x8_1<(l0.length:Int)
          · rw [if_pos c4] at H
            have c4b0:decide (x8_1<(l0.length:Int))=true:=decide_eq_true c4
            clear c4
            by_cases c5:((rd_T98 l0 x8_1).f0)=0
            · rw [if_pos c5] at H
              have c5b0:(((rd_T98 l0 x8_1).f0)==0)=true:=beq_iff_eq.mpr c5
              have c5b1:(((rd_T98 l0 x8_1).f0) !=0)=false:=bne_eq_false_iff_eq.mpr c5
              clear c5
              by_cases c6:x3_1.length<8796093022208
              · rw [if_pos c6] at H
                have LMc6:=Aside0.mk c6
                clear c6
                obtain ⟨y122,hy122⟩:∃y_:List ByteArray,y_=(x3_1++[(rd_T98 l0 x8_1).f1]):=⟨_,rfl⟩
                replace H:(syntax_vars.l0 k1 y122 l0 (l0.length:Int) (wrap64 (x8_1+1)))=some r:=by first|(rw [hy122];with_reducible exact H)|(have H2_:=(Option.bind_some _ _).symm.trans H;rw [hy122];with_reducible exact H2_)|(have H2_:=(Option.bind_some _ _).symm.trans H;with_reducible exact H2_)|with_reducible exact H|(rw [hy122];exact H)|exact H
                have Ny122:=Aside0.mk hy122
                clear hy122
                have H':=Aside0.mk H
                clear H
                have p120:0≤(x8_1:Int):=of_decide_eq_true (by first|(with_reducible assumption)|assumption)
                have q120:x8_1<(l0.length:Int):=of_decide_eq_true (by first|(with_reducible assumption)|assumption)
                obtain ⟨ad120,e120,hx120_0,hx120_1,hx120_2⟩:=at_T98 HR0.out x8_1 p120 q120
                cases e120
                replace hx120_0:=(HB.out.cell (World.block_lt_of_cell? w _ hx120_0)).trans hx120_0
                replace hx120_1:=(HB.out.cell (World.block_lt_of_cell? w _ hx120_1)).trans hx120_1
                replace hx120_2:=(HB.out.cell (World.block_lt_of_cell? w _ hx120_2)).trans hx120_2
                replace p120:=eq_true p120
                replace q120:=eq_true q120
                go_wp2_with (first|((with_reducible refine gate_dst (N:=5) rfl ?_);refine box_event ?hg (N:=5) ?hd (cs:= #[.int .i64 0,.string (⟨#[]⟩:ByteArray),.int .i64 0]) (t:=98) ?hr ?_;(case hd=>rfl);(case hg=>rfl);(case hr=>first|(go_simp;done)|(go_simp;rfl));intro gb121 hg w7 hbox hb;have n0_:=Aside0.mk (Kd.R_below (by (with_reducible repeat (first|apply Kd.R_alloc|apply Kd.R_drewN|apply Kd.R_drew));exact HO_3.out) hb);have n1_:=Aside0.mk (below_step (by repeat (first|(with_reducible first|exact HB.out|apply below_alloc|apply pw_below_drewN|apply below_drew1)|exact HB.out)) hb);have n2_:=Aside0.mk (hbox);have n3_:=Aside0.mk ((by rw [hg];exact (below_size (by repeat (first|(with_reducible first|exact HB.out|apply below_alloc|apply pw_below_drewN|apply below_drew1)|exact HB.out))):w.heap.size≤gb121));have n4_:=Aside0.mk ((by rw [hg];exact (below_size (by repeat (first|(with_reducible first|exact HB.out|apply below_alloc|apply pw_below_drewN|apply below_drew1)|exact HB.out))):w.heap.size≤gb121));clear HO_3;clear HB;have HO_3:=n0_;have HB:=n1_;have BK121:=n2_;have GW121:=n3_;have GE121:=n4_;clear n0_ n1_ n2_ n3_ n4_;clear hb hbox hg;have hcz8_0:w7.cell? ⟨gb121,0,none⟩=some (.int .i64 0):=(blk_cell BK121.out 0).trans rfl;have hcz8_1:w7.cell? ⟨gb121,1,none⟩=some (.string (⟨#[]⟩:ByteArray)):=(blk_cell BK121.out 1).trans rfl;have hcz8_2:w7.cell? ⟨gb121,2,none⟩=some (.int .i64 0):=(blk_cell BK121.out 2).trans rfl;have hfz8_0:=blk_frozen BK121.out 0;have hfz8_1:=blk_frozen BK121.out 1;have hfz8_2:=blk_frozen BK121.out 2)|((with_reducible refine gate_builtin (b:= .append) (xs:= #[.tmp 15,.tmp 18]) rfl ?_);at_builtin;refine Kd.R_append Kd.string (w0:=w) w.heap.size rfl (.tmp 15) (.tmp 18) 74 9 (.string ⟨#[]⟩) 16 rfl Tryz.underlying74 info9 rfl (by decide) (by omega) u3 x3_1 ((rd_T98 l0 x8_1).f1) [.string ((rd_T98 l0 x8_1).f1)] (fun _=>True) (fun _=>False) rfl (by first|(go_simp;done)|(go_simp;rfl)) ?aP (fun _ hk=>hk.elim) ?aF ?aO ?aB ?aS ?aL ?_;(case aP=>exact rfl);(case aB=>exact (by repeat (first|(with_reducible first|exact HB.out|apply below_alloc|apply pw_below_drewN|apply below_drew1|refine below_set ?_ GE121.out)|exact HB.out)));(case aF=>exact (fun _ _=>trivial));(case aO=>exact (by (with_reducible repeat (first|apply Kd.R_alloc|apply Kd.R_drewN|apply Kd.R_drew));exact Kd.R_mono (Kd.R_far (p:=⟨gb121,2,none⟩) (Kd.R_far (p:=⟨gb121,1,none⟩) (Kd.R_far (p:=⟨gb121,0,none⟩) (Kd.R_types HO_3.out BK121.out (by decide)) (fun _ hk=>hk.2) (.int .i64 ((rd_T98 l0 x8_1).f0))) (fun _ hk=>hk.2) (.string ((rd_T98 l0 x8_1).f1))) (fun _ hk=>hk.2) (.int .i64 ((rd_T98 l0 x8_1).f2))) (fun _ hk=>trivial)));(case aS=>exact (below_size (by repeat (first|(with_reducible first|exact HB.out|apply below_alloc|apply pw_below_drewN|apply below_drew1|refine below_set ?_ GE121.out)|exact HB.out))));(case aL=>have:=LMc6.out;omega);intro v123 w9 ho hb hg hat;rw [←Ny122.out] at ho;have n0_:=Aside0.mk (blk_grown (g:=gb121) (o:= .cells #[.int .i64 ((rd_T98 l0 x8_1).f0),.string ((rd_T98 l0 x8_1).f1),.int .i64 ((rd_T98 l0 x8_1).f2)] 98 (0,0)) (by (with_reducible repeat (first|refine blk_drewN ?_ _|refine blk_drew ?_|refine blk_alloc ?_ _));refine blk_put (cs:= #[.int .i64 ((rd_T98 l0 x8_1).f0),.string ((rd_T98 l0 x8_1).f1),.int .i64 0]) ?_ 2 _ rfl;(with_reducible repeat (first|refine blk_drewN ?_ _|refine blk_drew ?_|refine blk_alloc ?_ _));refine blk_put (cs:= #[.int .i64 ((rd_T98 l0 x8_1).f0),.string (⟨#[]⟩:ByteArray),.int .i64 0]) ?_ 1 _ rfl;(with_reducible repeat (first|refine blk_drewN ?_ _|refine blk_drew ?_|refine blk_alloc ?_ _));refine blk_put (cs:= #[.int .i64 0,.string (⟨#[]⟩:ByteArray),.int .i64 0]) ?_ 0 _ rfl;(with_reducible repeat (first|refine blk_drewN ?_ _|refine blk_drew ?_|refine blk_alloc ?_ _));exact BK121.out) hg (Kd.R_ne HO_3.out BK121.out (by decide)));have n1_:=Aside0.mk (hb);have n2_:=Aside0.mk (ho);clear BK121;clear HB;clear HO_3;have BK121:=n0_;have HB:=n1_;have HO124:=n2_;clear n0_ n1_ n2_;clear ho hb hg hat))
                go_roundg k1
                case measure=>have:=HK1.out;omega
                case rel=>exact ⟨(y122),(wrap64 (x8_1+1)),(by first|rfl|(simp;done)|(simp [*];done)),H',⟨by have:=HK1.out;omega⟩,⟨by (with_reducible repeat (first|apply Kd.R_alloc|apply Kd.R_drewN|apply Kd.R_drew));exact HO124.out⟩,⟨by repeat (first|(with_reducible first|exact HB.out|apply below_alloc|apply pw_below_drewN|apply below_drew1|refine below_set ?_ GE121.out)|exact HB.out)⟩⟩
              · rw [if_neg c6] at H
                exact absurd H (by simp)
            · rw [if_neg c5] at H
              have c5b0:(((rd_T98 l0 x8_1).f0)==0)=false:=beq_eq_false_iff_ne.mpr c5
              have c5b1:(((rd_T98 l0 x8_1).f0) !=0)=true:=bne_iff_ne.mpr c5
              have H':=Aside0.mk H
              clear H
              have p120:0≤(x8_1:Int):=of_decide_eq_true (by first|(with_reducible assumption)|assumption)
              have q120:x8_1<(l0.length:Int):=of_decide_eq_true (by first|(with_reducible assumption)|assumption)
              obtain ⟨ad120,e120,hx120_0,hx120_1,hx120_2⟩:=at_T98 HR0.out x8_1 p120 q120
              cases e120
              replace hx120_0:=(HB.out.cell (World.block_lt_of_cell? w _ hx120_0)).trans hx120_0
              replace hx120_1:=(HB.out.cell (World.block_lt_of_cell? w _ hx120_1)).trans hx120_1
              replace hx120_2:=(HB.out.cell (World.block_lt_of_cell? w _ hx120_2)).trans hx120_2
              replace p120:=eq_true p120
              replace q120:=eq_true q120
              go_wp2_with (first|((with_reducible refine gate_dst (N:=5) rfl ?_);refine box_event ?hg (N:=5) ?hd (cs:= #[.int .i64 0,.string (⟨#[]⟩:ByteArray),.int .i64 0]) (t:=98) ?hr ?_;(case hd=>rfl);(case hg=>rfl);(case hr=>first|(go_simp;done)|(go_simp;rfl));intro gb121 hg w10 hbox hb;have n0_:=Aside0.mk (Kd.R_below (by (with_reducible repeat (first|apply Kd.R_alloc|apply Kd.R_drewN|apply Kd.R_drew));exact HO_3.out) hb);have n1_:=Aside0.mk (below_step (by repeat (first|(with_reducible first|exact HB.out|apply below_alloc|apply pw_below_drewN|apply below_drew1)|exact HB.out)) hb);have n2_:=Aside0.mk (hbox);have n3_:=Aside0.mk ((by rw [hg];exact (below_size (by repeat (first|(with_reducible first|exact HB.out|apply below_alloc|apply pw_below_drewN|apply below_drew1)|exact HB.out))):w.heap.size≤gb121));have n4_:=Aside0.mk ((by rw [hg];exact (below_size (by repeat (first|(with_reducible first|exact HB.out|apply below_alloc|apply pw_below_drewN|apply below_drew1)|exact HB.out))):w.heap.size≤gb121));clear HO_3;clear HB;have HO_3:=n0_;have HB:=n1_;have BK121:=n2_;have GW121:=n3_;have GE121:=n4_;clear n0_ n1_ n2_ n3_ n4_;clear hb hbox hg;have hcz11_0:w10.cell? ⟨gb121,0,none⟩=some (.int .i64 0):=(blk_cell BK121.out 0).trans rfl;have hcz11_1:w10.cell? ⟨gb121,1,none⟩=some (.string (⟨#[]⟩:ByteArray)):=(blk_cell BK121.out 1).trans rfl;have hcz11_2:w10.cell? ⟨gb121,2,none⟩=some (.int .i64 0):=(blk_cell BK121.out 2).trans rfl;have hfz11_0:=blk_frozen BK121.out 0;have hfz11_1:=blk_frozen BK121.out 1;have hfz11_2:=blk_frozen BK121.out 2))
              go_roundg k1
              case measure=>have:=HK1.out;omega
              case rel=>exact ⟨(x3_1),(wrap64 (x8_1+1)),(by first|rfl|(simp;done)|(simp [*];done)),H',⟨by have:=HK1.out;omega⟩,⟨by (with_reducible repeat (first|apply Kd.R_alloc|apply Kd.R_drewN|apply Kd.R_drew));exact Kd.R_mono (Kd.R_far (p:=⟨gb121,2,none⟩) (Kd.R_far (p:=⟨gb121,1,none⟩) (Kd.R_far (p:=⟨gb121,0,none⟩) (Kd.R_types HO_3.out BK121.out (by decide)) (fun _ hk=>hk.2) (.int .i64 ((rd_T98 l0 x8_1).f0))) (fun _ hk=>hk.2) (.string ((rd_T98 l0 x8_1).f1))) (fun _ hk=>hk.2) (.int .i64 ((rd_T98 l0 x8_1).f2))) (fun _ hk=>trivial)⟩,⟨by repeat (first|(with_reducible first|exact HB.out|apply below_alloc|apply pw_below_drewN|apply below_drew1|refine below_set ?_ GE121.out)|exact HB.out)⟩⟩
          · rw [if_neg c4] at H
            exact absurd H (by simp)
        · rw [if_neg c3] at H
          exact absurd H (by simp)
      · rw [if_neg c2] at H
        have c2b0:decide (x8_1<(l0.length:Int))=false:=decide_eq_false c2
        clear c2
        obtain rfl:=Option.some.inj H
        go_wp2
        go_ret
        exact ⟨_,by first|rfl|(simp [errW_none,errW_some] <;>rfl)|(simp [*,errW_none,errW_some] <;>rfl),by (with_reducible repeat (first|apply Kd.R_alloc|apply Kd.R_drewN|apply Kd.R_drew));exact HO_3.out,by repeat (first|(with_reducible first|exact HB.out|apply below_alloc|apply pw_below_drewN|apply below_drew1)|exact HB.out)⟩
def syntax_Atom_Vars.f (k:Nat) (a0_0:ByteArray) (l0_1:List (S98)):Option (List ByteArray):=(syntax_vars.f k l0_1).bind fun t126=>(some t126)
set_option maxHeartbeats 8000000 in
set_option maxRecDepth 100000 in
theorem syntax_Atom_Vars.calls (k:Nat) (a0_0:ByteArray) (A0_1:Option Addr) (c0_1:Nat) (l0_1:List (S98)) (r:List ByteArray) (w:World) (hr0_1:Kd.C k98 w A0_1 l0_1.length l0_1) (hc0_1:l0_1.length≤c0_1) (h:syntax_Atom_Vars.f k a0_0 l0_1=some r):
    Calls Tryz.prog 37 #[.agg #[.string a0_0,.slice A0_1 l0_1.length c0_1]] w fun e w'=>∃v0_:Value,e= .returned (v0_)∧Kd.R Kd.string 9 w' w.heap.size (fun _=>True) v0_ r∧Below w.heap.size w w':=by
  have hu33:=Tryz.underlying33
  have HR0_1:=Aside0.mk hr0_1
  have HC0_1:=Aside0.mk hc0_1
  clear hr0_1 hc0_1
  have HB:=Aside0.mk (Below.refl w.heap.size w)
  have H:((syntax_vars.f k l0_1).bind fun t126=>(some t126))=some r:=h
  clear h
  replace H:=Option.bind_eq_some_iff.mp H
  obtain ⟨t126,A20,H⟩:=H
  replace H:(some t126)=some r:=H
  have A2:=Aside0.mk A20
  clear A20
  obtain rfl:=Option.some.inj H
  go_enter Tryz.func37,Tryz.ntmps37
  go_wp2_with (first|((with_reducible refine gate_dst (N:=1) rfl ?_);refine box_event ?hg (N:=1) ?hd (cs:= #[.string a0_0,.slice A0_1 l0_1.length c0_1]) (t:=33) ?hr ?_;(case hd=>rfl);(case hg=>rfl);(case hr=>first|(go_simp;done)|(go_simp;rfl));intro gb125 hg w3 hbox hb;have n0_:=Aside0.mk (below_step (by repeat (first|(with_reducible first|exact HB.out|apply below_alloc|apply pw_below_drewN|apply below_drew1)|exact HB.out)) hb);have n1_:=Aside0.mk (hbox);have n2_:=Aside0.mk ((by rw [hg];exact (below_size (by repeat (first|(with_reducible first|exact HB.out|apply below_alloc|apply pw_below_drewN|apply below_drew1)|exact HB.out))):w.heap.size≤gb125));have n3_:=Aside0.mk ((by rw [hg];exact (below_size (by repeat (first|(with_reducible first|exact HB.out|apply below_alloc|apply pw_below_drewN|apply below_drew1)|exact HB.out))):w.heap.size≤gb125));clear HB;have HB:=n0_;have BK125:=n1_;have GW125:=n2_;have GE125:=n3_;clear n0_ n1_ n2_ n3_;clear hb hbox hg;have hcz4_0:w3.cell? ⟨gb125,0,none⟩=some (.string a0_0):=(blk_cell BK125.out 0).trans rfl;have hcz4_1:w3.cell? ⟨gb125,1,none⟩=some (.slice A0_1 l0_1.length c0_1):=(blk_cell BK125.out 1).trans rfl;have hfz4_0:=blk_frozen BK125.out 0;have hfz4_1:=blk_frozen BK125.out 1)|((with_reducible refine gate_callee (f:=67) rfl ?_);refine goesL_ (some 5) rfl rfl Tryz.func67 (by kernel_rfl) rfl #[.slice A0_1 l0_1.length c0_1] rfl (by (try simp only [List.map_toArray,List.map_cons,List.map_nil]);first|done|rfl|(simp only [List.length_drop,List.length_take];rfl)) ?_;(with_reducible refine (syntax_vars.calls k _ _ l0_1 t126 _ ?side1 ?side2 A2.out).mono ?_);(case side1=>repeat (first|exact (Kd.C_below HR0_1.out HB.out)|(with_reducible refine Kd.C_alloc ?_ _)|(with_reducible refine Kd.C_drewN ?_ _)|(with_reducible refine Kd.C_drew ?_)));(case side2=>exact HC0_1.out);rintro e w5 ⟨v127,rfl,ho0,hb⟩;refine ⟨_,rfl,?_⟩;have n0_:=Aside0.mk (Kd.R_lower ho0 (below_size (by repeat (first|(with_reducible first|exact HB.out|apply below_alloc|apply pw_below_drewN|apply below_drew1|refine below_set ?_ GE125.out)|exact HB.out))));have n1_:=Aside0.mk (blk_below (g:=gb125) (o:= .cells #[.string a0_0,.slice A0_1 l0_1.length c0_1] 33 (0,0)) (by (with_reducible repeat (first|refine blk_drewN ?_ _|refine blk_drew ?_|refine blk_alloc ?_ _));exact BK125.out) hb);have n2_:=Aside0.mk (below_step (by repeat (first|(with_reducible first|exact HB.out|apply below_alloc|apply pw_below_drewN|apply below_drew1|refine below_set ?_ GE125.out)|exact HB.out)) hb);clear BK125;clear HB;have HO128:=n0_;have BK125:=n1_;have HB:=n2_;clear n0_ n1_ n2_;(try clear hb);(try clear hb2);(try clear hk);(try clear hi);(try clear ho0)))
  go_ret
  exact ⟨_,by first|rfl|(simp [errW_none,errW_some] <;>rfl)|(simp [*,errW_none,errW_some] <;>rfl),by (with_reducible repeat (first|apply Kd.R_alloc|apply Kd.R_drewN|apply Kd.R_drew));exact HO128.out,by repeat (first|(with_reducible first|exact HB.out|apply below_alloc|apply pw_below_drewN|apply below_drew1|refine below_set ?_ GE125.out)|exact HB.out)⟩
end Go.Proofs.YtjlnpdpkobpkiaaGreatDoorPSP
