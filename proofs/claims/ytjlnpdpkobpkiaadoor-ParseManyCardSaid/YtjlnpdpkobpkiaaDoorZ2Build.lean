import Derived.Shelf.Strings.Builder1
import Derived.Shelf.Strings.Builder2
import Derived.Shelf.Strings.OnBuilder
import Derived.Shelf.Strings.BuilderF
import Derived.Shelf.Strings.BuilderK
import Derived.Shelf.Strings.Builder2Cap
import Derived.Shelf.Strings.Prefix
import Derived.Shelf.Strings.BuilderCap
import Derived.Shelf.Slices.Turned
import Derived.Test.YtjlnpdpkobpkiaaDoorProg
import Derived.Test.YtjlnpdpkobpkiaaDoorZ2LexA
namespace Go.Proofs
open Go.Shelf
def Tryd.lays170_ren:Go.Shelf.Ren:=⟨fun|170=>110|n=>n,fun|70=>94|3=>3|0=>0|72=>96|37=>78|5=>5|n=>n,fun|n=>n⟩
theorem Tryd.lays170:Go.Proofs.Lays.n170 Tryd.prog Tryd.lays170_ren:={
  mixed:=by kernel_rfl
  f170:=Tryd.func110.trans (congrArg some (by kernel_rfl))
  t0:=Tryd.underlying0
  a0:=Tryd.isAgg0
  z0:=Tryd.sizeOf0
  v0:=Tryd.zeroValue0
  t3:=Tryd.underlying3
  a3:=Tryd.isAgg3
  z3:=Tryd.sizeOf3
  v3:=Tryd.zeroValue3
  t37:=Tryd.underlying78
  a37:=Tryd.isAgg78
  z37:=Tryd.sizeOf78
  v37:=Tryd.zeroValue78
  t70:=Tryd.underlying94
  a70:=Tryd.isAgg94
  z70:=Tryd.sizeOf94
  v70:=Tryd.zeroValue94
  t72:=Tryd.underlying96
  a72:=Tryd.isAgg96
  z72:=Tryd.sizeOf96
  v72:=Tryd.zeroValue96}
open Go.RowKit in
theorem Tryd.Builder_Len (B b:Nat) (bs:List Value) (w:World) (h:Lib.IsBuilder 96 5 B b bs w):
    Calls Tryd.prog 110 #[.pointer (some ⟨b,0,none⟩)] w fun e w'=>e= .returned (.int .i64 bs.length)∧w'=w:=Any.Builder_Len Tryd.lays170 B b bs w h
def Tryd.lays169_ren:Go.Shelf.Ren:=⟨fun|169=>30|n=>n,fun|70=>94|9=>9|0=>0|72=>96|37=>78|127=>128|3=>3|5=>5|n=>n,fun|n=>n⟩
theorem Tryd.lays169:Go.Proofs.Lays.n169 Tryd.prog Tryd.lays169_ren:={
  mixed:=by kernel_rfl
  f169:=Tryd.func30.trans (congrArg some (by kernel_rfl))
  t0:=Tryd.underlying0
  a0:=Tryd.isAgg0
  z0:=Tryd.sizeOf0
  v0:=Tryd.zeroValue0
  t3:=Tryd.underlying3
  a3:=Tryd.isAgg3
  z3:=Tryd.sizeOf3
  v3:=Tryd.zeroValue3
  t9:=Tryd.underlying9
  a9:=Tryd.isAgg9
  z9:=Tryd.sizeOf9
  v9:=Tryd.zeroValue9
  t37:=Tryd.underlying78
  a37:=Tryd.isAgg78
  z37:=Tryd.sizeOf78
  v37:=Tryd.zeroValue78
  t70:=Tryd.underlying94
  a70:=Tryd.isAgg94
  z70:=Tryd.sizeOf94
  v70:=Tryd.zeroValue94
  t72:=Tryd.underlying96
  a72:=Tryd.isAgg96
  z72:=Tryd.sizeOf96
  v72:=Tryd.zeroValue96
  t127:=Tryd.underlying128
  a127:=Tryd.isAgg128
  z127:=Tryd.sizeOf128
  v127:=Tryd.zeroValue128}
theorem Tryd.Builder_Extra_169:Builder.Extra Tryd.prog Tryd.lays169_ren:={
  sizeBuilder:=by kernel_rfl
  liesBuilder:=by kernel_rfl
  t5:=Tryd.underlying5
  a5:=Tryd.isAgg5
  z5:=Tryd.sizeOf5
  v5:=Tryd.zeroValue5
  infoByte:=by kernel_rfl
  cellsByte:=by kernel_rfl
  sizeByte:=by kernel_rfl
  neB5:=by decide}
open Go.RowKit in
theorem Tryd.Builder_String_any (B b:Nat) (l:List UInt8) (w:World) (h:Lib.IsBuilder 96 5 B b (Lib.byteCells l) w) (hBw:B≤w.heap.size):
    Calls Tryd.prog 30 #[.pointer (some ⟨b,0,none⟩)] w fun e w'=>e= .returned (.string ⟨l.toArray⟩)∧Below B w w':=Any.Builder_String_any Tryd.lays169 Tryd.Builder_Extra_169 B b l w h hBw
def Tryd.lays206_ren:Go.Shelf.Ren:=⟨fun|206=>120|n=>n,fun|9=>9|4=>4|3=>3|n=>n,fun|n=>n⟩
theorem Tryd.lays206:Go.Proofs.Lays.n206 Tryd.prog Tryd.lays206_ren:={
  mixed:=by kernel_rfl
  f206:=Tryd.func120.trans (congrArg some (by kernel_rfl))
  t3:=Tryd.underlying3
  a3:=Tryd.isAgg3
  z3:=Tryd.sizeOf3
  v3:=Tryd.zeroValue3
  t4:=Tryd.underlying4
  a4:=Tryd.isAgg4
  z4:=Tryd.sizeOf4
  v4:=Tryd.zeroValue4
  t9:=Tryd.underlying9
  a9:=Tryd.isAgg9
  z9:=Tryd.sizeOf9
  v9:=Tryd.zeroValue9}
open Go.RowKit Go.Lib in
theorem Tryd.stringslite_HasPrefix (s p:ByteArray) (w:World):
    Calls Tryd.prog 120 #[.string s,.string p] w fun e w'=>e= .returned (.bool (Lib.hasPrefix s.data.toList p.data.toList))∧w'=w:=Any.stringslite_HasPrefix Tryd.lays206 s p w
def Tryd.lays99_ren:Go.Shelf.Ren:=⟨fun|99=>111|206=>120|n=>n,fun|9=>9|4=>4|3=>3|n=>n,fun|n=>n⟩
theorem Tryd.lays99:Go.Proofs.Lays.n99 Tryd.prog Tryd.lays99_ren:={
  mixed:=by kernel_rfl
  f99:=Tryd.func111.trans (congrArg some (by kernel_rfl))
  f206:=Tryd.func120.trans (congrArg some (by kernel_rfl))
  t3:=Tryd.underlying3
  a3:=Tryd.isAgg3
  z3:=Tryd.sizeOf3
  v3:=Tryd.zeroValue3
  t4:=Tryd.underlying4
  a4:=Tryd.isAgg4
  z4:=Tryd.sizeOf4
  v4:=Tryd.zeroValue4
  t9:=Tryd.underlying9
  a9:=Tryd.isAgg9
  z9:=Tryd.sizeOf9
  v9:=Tryd.zeroValue9}
open Go.RowKit Go.Lib in
theorem Tryd.strings_HasPrefix (s p:ByteArray) (w:World):
    Calls Tryd.prog 111 #[.string s,.string p] w fun e w'=>e= .returned (.bool (Lib.hasPrefix s.data.toList p.data.toList))∧w'=w:=Any.strings_HasPrefix Tryd.lays99 s p w
end Go.Proofs
set_option linter.unusedVariables false
set_option linter.unusedSimpArgs false
namespace Go.Proofs.YtjlnpdpkobpkiaaDoor
open Go.RowKit
abbrev IsB (B b:Nat) (bs:List Value) (w:World):Prop:=Lib.IsBuilder 96 5 B b bs w
theorem sizeBld:(Tryd.prog.info? 96).map (·.size)=some 2:=by kernel_rfl
theorem infoByte:(Tryd.prog.info? 5).map (fun i=>(i.zero,i.size,i.bytes))=some (some (.int .u8 0),1,1):=by kernel_rfl
theorem liesBld:liesAt Tryd.prog Tryd.prog.depth 96 (2 / Tryd.prog.cellsOf 96) 0 96 1=true:=by kernel_rfl
set_option maxHeartbeats 1000000 in
set_option maxRecDepth 100000 in
theorem copyCheck_used (b:Nat) (w:World) (h0:w.cell? ⟨b,0,none⟩=some (.pointer (some ⟨b,0,none⟩))):
    Calls Tryd.prog 51 #[.pointer (some ⟨b,0,none⟩)] w fun e w'=>e= .returned (.tuple #[])∧w'=w:=by
  obtain ⟨j,hj,_⟩:=Option.map_eq_some_iff.1 sizeBld
  go_enter Tryd.func51,Tryd.ntmps51
  go_wp2
  rw [Lib.run_neq_ptr_same w _ Tryd.underlying94 hj]
  go_wp2
  go_end0
  exact ⟨rfl,rfl⟩
set_option maxHeartbeats 1000000 in
set_option maxRecDepth 100000 in
theorem copyCheck_fresh (b:Nat) (w:World) (h0:w.cell? ⟨b,0,none⟩=some (.pointer none)) (hsh:w.shape? b=some (96,2)) (hfz:w.frozen? ⟨b,0,none⟩=false):
    Calls Tryd.prog 51 #[.pointer (some ⟨b,0,none⟩)] w fun e w'=>e= .returned (.tuple #[])∧w'=w.setCell ⟨b,0,none⟩ (.pointer (some ⟨b,0,none⟩)):=by
  obtain ⟨j,hj,hjs⟩:=Option.map_eq_some_iff.1 sizeBld
  go_enter Tryd.func51,Tryd.ntmps51
  go_wp2
  rw [Lib.run_to_unsafe w ⟨b,0,none⟩ Tryd.underlying94 Tryd.underlying146 hj (by rw [hjs];decide) hsh (Nat.zero_lt_succ 1)]
  simp only [Result.andThen]
  rw [Oper.upon_value]
  go_wp2
  rw [run_callFunc_extern Tryd.func74 (by kernel_rfl) (by kernel_rfl) (by kernel_rfl) (e:=Extern.AbiNoEscape.same) (by kernel_rfl)]
  rw [Lib.run_noEscape]
  simp only [Result.andThen]
  rw [Oper.upon_value]
  go_wp2
  rw [Lib.run_from_unsafe w ⟨b,0,none⟩ Tryd.underlying146 Tryd.underlying94 hj hsh liesBld]
  simp only [Result.andThen]
  rw [Oper.upon_value]
  go_wp2
  go_end0
  exact ⟨rfl,rfl⟩
theorem copyCheck_any (B b:Nat) (bs:List Value) (w:World) (h:IsB B b bs w):
    Calls Tryd.prog 51 #[.pointer (some ⟨b,0,none⟩)] w fun e w'=>e= .returned (.tuple #[])∧(Lib.BuilderAt 96 5 B b (.pointer (some ⟨b,0,none⟩)) bs w'∧Below B w w'):=by
  rcases h with h|h
  · refine (copyCheck_fresh b w h.cell0 h.shape h.frozen0).mono ?_
    rintro e w' ⟨rfl,rfl⟩
    exact ⟨rfl,h.used _,(Below.refl B w).setCell (p:=⟨b,0,none⟩) h.1 _⟩
  · refine (copyCheck_used b w h.cell0).mono ?_
    rintro e w' ⟨rfl,rfl⟩
    exact ⟨rfl,h,Below.refl B _⟩
def BldPost (B b:Nat) (bs:List Value) (v:Value) (w:World) (e:Ending) (w':World):Prop:=e= .returned v∧IsB B b bs w'∧Below B w w'
set_option maxHeartbeats 1000000 in
set_option maxRecDepth 100000 in
theorem WriteByte_any (B b:Nat) (bs:List Value) (c:Int) (w:World) (h:IsB B b bs w) (hlen:bs.length+1≤140737488355328) (hBw:B≤w.heap.size):
    Calls Tryd.prog 91 #[.pointer (some ⟨b,0,none⟩),.int .u8 c] w (BldPost B b (bs++[.int .u8 c]) .nilIface w):=by
  obtain ⟨i0,hi,hz0,hz1,hz2⟩:=info_parts infoByte
  go_enter Tryd.func91,Tryd.ntmps91
  go_wp2_with (go_at_call 51;refine (copyCheck_any B b bs _ h).mono ?_)
  rintro e w1 ⟨rfl,h1,hb1⟩
  obtain ⟨hB,v,hbk,hown,hne⟩:=h1
  have c0:w1.cell? ⟨b,0,none⟩=some (.pointer (some ⟨b,0,none⟩)):=by rw [Lib.cell_of_heap hbk];rfl
  have c1:w1.cell? ⟨b,1,none⟩=some v:=by rw [Lib.cell_of_heap hbk];rfl
  go_wp2_with (at_builtin;refine wpList_append_own _ rfl _ _ 78 rfl B 5 i0 (.int .u8 0) 1 1 Tryd.underlying78 hi hz0 hz1 hz2 rfl (by decide) _ _ _ rfl (hown.alloc _) ⟨w1.heap.size,0,none⟩ 1 1 [.int .u8 c] rfl rfl ?c1 ?c2 ?c3 ?c4 ?c5 ?_)
  case c1=>
    intro j u hj
    match j,hj with
    |0,hj=>simp at hj;subst hj;simp [Addr.add]
  case c2=>intro u hu;simp at hu;subst hu;rfl
  case c3=>unfold maxLen;omega
  case c4=>omega
  case c5=>have:=hb1.size;simp;omega
  intro v' w2 hown' hgrow _
  have hlt:b<w1.heap.size:=blk_lt hbk
  have hb2:w2.heap[b]? =some (.cells #[.pointer (some ⟨b,0,none⟩),v] 96 (0,0)):=by
    rw [hgrow.block b (by simp;omega) (fun e=>hne e.symm),Lib.alloc_old w1 _ b hlt]
    exact hbk
  have d0:w2.cell? ⟨b,0,none⟩=some (.pointer (some ⟨b,0,none⟩)):=by rw [Lib.cell_of_heap hb2];rfl
  have d1:w2.cell? ⟨b,1,none⟩=some v:=by rw [Lib.cell_of_heap hb2];rfl
  have f1:w2.frozen? ⟨b,1,none⟩=false:=Lib.frozen_of_heap hb2 1
  obtain ⟨g,cap,rfl⟩:∃g cap,v'= .slice (some ⟨g,0,none⟩) (bs.length+1) cap:=by
    rcases hown'.2 with ⟨_,h0⟩|⟨g,cap,cur,hv,_⟩
    · omega
    · exact ⟨g,cap,hv⟩
  go_wp2
  go_ret
  refine ⟨rfl,.inr ?_,?_⟩
  · exact Lib.BuilderAt.put (T:=96) (e:=5) hB hb2 (bs':=bs++[.int .u8 c]) (by simpa using hown') (by decide)
  · exact ((hb1.alloc (by have:=hb1.size;omega) _).grown hgrow (by have:=hb1.size;simp;omega) (fun k hk=>(hown.lt k hk).1)).setCell (p:=⟨b,1,none⟩) hB _
end Go.Proofs.YtjlnpdpkobpkiaaDoor
