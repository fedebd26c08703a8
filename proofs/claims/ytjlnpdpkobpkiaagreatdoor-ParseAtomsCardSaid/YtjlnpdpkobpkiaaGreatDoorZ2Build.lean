import Derived.Shelf.Strings.Builder1
import Derived.Shelf.Strings.Builder2
import Derived.Shelf.Strings.OnBuilder
import Derived.Shelf.Strings.BuilderF
import Derived.Shelf.Strings.BuilderK
import Derived.Shelf.Strings.Builder2Cap
import Derived.Shelf.Strings.Prefix
import Derived.Shelf.Strings.BuilderCap
import Derived.Shelf.Slices.Turned
import Derived.Test.YtjlnpdpkobpkiaaGreatDoorProg
import Derived.Test.YtjlnpdpkobpkiaaGreatDoorZ2LexA
namespace Go.Proofs
open Go.Shelf
def Tryz.lays170_ren:Go.Shelf.Ren:=⟨fun|170=>114|n=>n,fun|70=>177|3=>3|0=>0|72=>180|37=>178|5=>5|n=>n,fun|n=>n⟩
theorem Tryz.lays170:Go.Proofs.Lays.n170 Tryz.prog Tryz.lays170_ren:={
  mixed:=by kernel_rfl
  f170:=Tryz.func114.trans (congrArg some (by kernel_rfl))
  t0:=Tryz.underlying0
  a0:=Tryz.isAgg0
  z0:=Tryz.sizeOf0
  v0:=Tryz.zeroValue0
  t3:=Tryz.underlying3
  a3:=Tryz.isAgg3
  z3:=Tryz.sizeOf3
  v3:=Tryz.zeroValue3
  t37:=Tryz.underlying178
  a37:=Tryz.isAgg178
  z37:=Tryz.sizeOf178
  v37:=Tryz.zeroValue178
  t70:=Tryz.underlying177
  a70:=Tryz.isAgg177
  z70:=Tryz.sizeOf177
  v70:=Tryz.zeroValue177
  t72:=Tryz.underlying180
  a72:=Tryz.isAgg180
  z72:=Tryz.sizeOf180
  v72:=Tryz.zeroValue180}
open Go.RowKit in
theorem Tryz.Builder_Len (B b:Nat) (bs:List Value) (w:World) (h:Lib.IsBuilder 180 5 B b bs w):
    Calls Tryz.prog 114 #[.pointer (some ⟨b,0,none⟩)] w fun e w'=>e= .returned (.int .i64 bs.length)∧w'=w:=Any.Builder_Len Tryz.lays170 B b bs w h
def Tryz.lays169_ren:Go.Shelf.Ren:=⟨fun|169=>80|n=>n,fun|70=>177|9=>9|0=>0|72=>180|37=>178|127=>216|3=>3|5=>5|n=>n,fun|n=>n⟩
theorem Tryz.lays169:Go.Proofs.Lays.n169 Tryz.prog Tryz.lays169_ren:={
  mixed:=by kernel_rfl
  f169:=Tryz.func80.trans (congrArg some (by kernel_rfl))
  t0:=Tryz.underlying0
  a0:=Tryz.isAgg0
  z0:=Tryz.sizeOf0
  v0:=Tryz.zeroValue0
  t3:=Tryz.underlying3
  a3:=Tryz.isAgg3
  z3:=Tryz.sizeOf3
  v3:=Tryz.zeroValue3
  t9:=Tryz.underlying9
  a9:=Tryz.isAgg9
  z9:=Tryz.sizeOf9
  v9:=Tryz.zeroValue9
  t37:=Tryz.underlying178
  a37:=Tryz.isAgg178
  z37:=Tryz.sizeOf178
  v37:=Tryz.zeroValue178
  t70:=Tryz.underlying177
  a70:=Tryz.isAgg177
  z70:=Tryz.sizeOf177
  v70:=Tryz.zeroValue177
  t72:=Tryz.underlying180
  a72:=Tryz.isAgg180
  z72:=Tryz.sizeOf180
  v72:=Tryz.zeroValue180
  t127:=Tryz.underlying216
  a127:=Tryz.isAgg216
  z127:=Tryz.sizeOf216
  v127:=Tryz.zeroValue216}
theorem Tryz.Builder_Extra_169:Builder.Extra Tryz.prog Tryz.lays169_ren:={
  sizeBuilder:=by kernel_rfl
  liesBuilder:=by kernel_rfl
  t5:=Tryz.underlying5
  a5:=Tryz.isAgg5
  z5:=Tryz.sizeOf5
  v5:=Tryz.zeroValue5
  infoByte:=by kernel_rfl
  cellsByte:=by kernel_rfl
  sizeByte:=by kernel_rfl
  neB5:=by decide}
open Go.RowKit in
theorem Tryz.Builder_String_any (B b:Nat) (l:List UInt8) (w:World) (h:Lib.IsBuilder 180 5 B b (Lib.byteCells l) w) (hBw:B≤w.heap.size):
    Calls Tryz.prog 80 #[.pointer (some ⟨b,0,none⟩)] w fun e w'=>e= .returned (.string ⟨l.toArray⟩)∧Below B w w':=Any.Builder_String_any Tryz.lays169 Tryz.Builder_Extra_169 B b l w h hBw
def Tryz.lays156_ren:Go.Shelf.Ren:=⟨fun|156=>58|165=>96|166=>79|169=>80|240=>104|241=>117|276=>120|277=>129|n=>n,fun|31=>74|9=>9|3=>3|4=>4|0=>0|20=>20|72=>180|76=>182|70=>177|37=>178|75=>43|127=>216|164=>164|5=>5|80=>71|n=>n,fun|n=>n⟩
theorem Tryz.lays156:Go.Proofs.Lays.n156 Tryz.prog Tryz.lays156_ren:={
  mixed:=by kernel_rfl
  f156:=Tryz.func58.trans (congrArg some (by kernel_rfl))
  f165:=Tryz.func96.trans (congrArg some (by kernel_rfl))
  f166:=Tryz.func79.trans (congrArg some (by kernel_rfl))
  f169:=Tryz.func80.trans (congrArg some (by kernel_rfl))
  f240:=Tryz.func104.trans (congrArg some (by kernel_rfl))
  f241:=Tryz.func117.trans (congrArg some (by kernel_rfl))
  f276:=Tryz.func120.trans (congrArg some (by kernel_rfl))
  f277:=Tryz.func129.trans (congrArg some (by kernel_rfl))
  t0:=Tryz.underlying0
  a0:=Tryz.isAgg0
  z0:=Tryz.sizeOf0
  v0:=Tryz.zeroValue0
  t3:=Tryz.underlying3
  a3:=Tryz.isAgg3
  z3:=Tryz.sizeOf3
  v3:=Tryz.zeroValue3
  t4:=Tryz.underlying4
  a4:=Tryz.isAgg4
  z4:=Tryz.sizeOf4
  v4:=Tryz.zeroValue4
  t9:=Tryz.underlying9
  a9:=Tryz.isAgg9
  z9:=Tryz.sizeOf9
  v9:=Tryz.zeroValue9
  t20:=Tryz.underlying20
  a20:=Tryz.isAgg20
  z20:=Tryz.sizeOf20
  v20:=Tryz.zeroValue20
  t31:=Tryz.underlying74
  a31:=Tryz.isAgg74
  z31:=Tryz.sizeOf74
  v31:=Tryz.zeroValue74
  t37:=Tryz.underlying178
  a37:=Tryz.isAgg178
  z37:=Tryz.sizeOf178
  v37:=Tryz.zeroValue178
  t70:=Tryz.underlying177
  a70:=Tryz.isAgg177
  z70:=Tryz.sizeOf177
  v70:=Tryz.zeroValue177
  t72:=Tryz.underlying180
  a72:=Tryz.isAgg180
  z72:=Tryz.sizeOf180
  v72:=Tryz.zeroValue180
  t75:=Tryz.underlying43
  a75:=Tryz.isAgg43
  z75:=Tryz.sizeOf43
  v75:=Tryz.zeroValue43
  t76:=Tryz.underlying182
  a76:=Tryz.isAgg182
  z76:=Tryz.sizeOf182
  v76:=Tryz.zeroValue182
  t127:=Tryz.underlying216
  a127:=Tryz.isAgg216
  z127:=Tryz.sizeOf216
  v127:=Tryz.zeroValue216
  t164:=Tryz.underlying164
  a164:=Tryz.isAgg164
  z164:=Tryz.sizeOf164
  v164:=Tryz.zeroValue164}
theorem Tryz.Builder_Extra_156:Builder.Extra Tryz.prog Tryz.lays156_ren:={
  sizeBuilder:=by kernel_rfl
  liesBuilder:=by kernel_rfl
  t5:=Tryz.underlying5
  a5:=Tryz.isAgg5
  z5:=Tryz.sizeOf5
  v5:=Tryz.zeroValue5
  infoByte:=by kernel_rfl
  cellsByte:=by kernel_rfl
  sizeByte:=by kernel_rfl
  neB5:=by decide}
open Go.RowKit in
theorem Tryz.strings_Join_none (a:Option Addr) (c:Nat) (sep:ByteArray) (w:World):
    Calls Tryz.prog 58 #[.slice a 0 c,.string sep] w fun e w'=>e= .returned (.string ⟨#[]⟩)∧w'=w:=Any.strings_Join_none Tryz.lays156 Tryz.Builder_Extra_156 a c sep w
open Go.RowKit in
theorem Tryz.strings_Join (bk o c:Nat) (xs:List ByteArray) (sep:ByteArray) (w:World) (hcells:∀(j:Nat) x,xs[j]? =some x→w.cell? ⟨bk,o+j,none⟩=some (.string x)) (hbk:bk<w.heap.size) (hN:xs.length≤140737488355328) (hcap:xs.length≤c) (hlen:(Lib.join (xs.map (·.data.toList)) sep.data.toList).length≤140737488355328):
    Calls Tryz.prog 58 #[.slice (some ⟨bk,o,none⟩) xs.length c,.string sep] w fun e w'=>e= .returned (.string ⟨(Lib.join (xs.map (·.data.toList)) sep.data.toList).toArray⟩)∧Below w.heap.size w w':=Any.strings_Join Tryz.lays156 Tryz.Builder_Extra_156 bk o c xs sep w hcells hbk hN hcap hlen
def Tryz.lays206_ren:Go.Shelf.Ren:=⟨fun|206=>124|n=>n,fun|9=>9|4=>4|3=>3|n=>n,fun|n=>n⟩
theorem Tryz.lays206:Go.Proofs.Lays.n206 Tryz.prog Tryz.lays206_ren:={
  mixed:=by kernel_rfl
  f206:=Tryz.func124.trans (congrArg some (by kernel_rfl))
  t3:=Tryz.underlying3
  a3:=Tryz.isAgg3
  z3:=Tryz.sizeOf3
  v3:=Tryz.zeroValue3
  t4:=Tryz.underlying4
  a4:=Tryz.isAgg4
  z4:=Tryz.sizeOf4
  v4:=Tryz.zeroValue4
  t9:=Tryz.underlying9
  a9:=Tryz.isAgg9
  z9:=Tryz.sizeOf9
  v9:=Tryz.zeroValue9}
open Go.RowKit Go.Lib in
theorem Tryz.stringslite_HasPrefix (s p:ByteArray) (w:World):
    Calls Tryz.prog 124 #[.string s,.string p] w fun e w'=>e= .returned (.bool (Lib.hasPrefix s.data.toList p.data.toList))∧w'=w:=Any.stringslite_HasPrefix Tryz.lays206 s p w
def Tryz.lays99_ren:Go.Shelf.Ren:=⟨fun|99=>115|206=>124|n=>n,fun|9=>9|4=>4|3=>3|n=>n,fun|n=>n⟩
theorem Tryz.lays99:Go.Proofs.Lays.n99 Tryz.prog Tryz.lays99_ren:={
  mixed:=by kernel_rfl
  f99:=Tryz.func115.trans (congrArg some (by kernel_rfl))
  f206:=Tryz.func124.trans (congrArg some (by kernel_rfl))
  t3:=Tryz.underlying3
  a3:=Tryz.isAgg3
  z3:=Tryz.sizeOf3
  v3:=Tryz.zeroValue3
  t4:=Tryz.underlying4
  a4:=Tryz.isAgg4
  z4:=Tryz.sizeOf4
  v4:=Tryz.zeroValue4
  t9:=Tryz.underlying9
  a9:=Tryz.isAgg9
  z9:=Tryz.sizeOf9
  v9:=Tryz.zeroValue9}
open Go.RowKit Go.Lib in
theorem Tryz.strings_HasPrefix (s p:ByteArray) (w:World):
    Calls Tryz.prog 115 #[.string s,.string p] w fun e w'=>e= .returned (.bool (Lib.hasPrefix s.data.toList p.data.toList))∧w'=w:=Any.strings_HasPrefix Tryz.lays99 s p w
end Go.Proofs
set_option linter.unusedVariables false
set_option linter.unusedSimpArgs false
namespace Go.Proofs.YtjlnpdpkobpkiaaGreatDoor
open Go.RowKit
abbrev IsB (B b:Nat) (bs:List Value) (w:World):Prop:=Lib.IsBuilder 180 5 B b bs w
theorem sizeBld:(Tryz.prog.info? 180).map (·.size)=some 2:=by kernel_rfl
theorem infoByte:(Tryz.prog.info? 5).map (fun i=>(i.zero,i.size,i.bytes))=some (some (.int .u8 0),1,1):=by kernel_rfl
theorem liesBld:liesAt Tryz.prog Tryz.prog.depth 180 (2 / Tryz.prog.cellsOf 180) 0 180 1=true:=by kernel_rfl
set_option maxHeartbeats 1000000 in
set_option maxRecDepth 100000 in
theorem copyCheck_used (b:Nat) (w:World) (h0:w.cell? ⟨b,0,none⟩=some (.pointer (some ⟨b,0,none⟩))):
    Calls Tryz.prog 104 #[.pointer (some ⟨b,0,none⟩)] w fun e w'=>e= .returned (.tuple #[])∧w'=w:=by
  obtain ⟨j,hj,_⟩:=Option.map_eq_some_iff.1 sizeBld
  go_enter Tryz.func104,Tryz.ntmps104
  go_wp2
  rw [Lib.run_neq_ptr_same w _ Tryz.underlying177 hj]
  go_wp2
  go_end0
  exact ⟨rfl,rfl⟩
set_option maxHeartbeats 1000000 in
set_option maxRecDepth 100000 in
theorem copyCheck_fresh (b:Nat) (w:World) (h0:w.cell? ⟨b,0,none⟩=some (.pointer none)) (hsh:w.shape? b=some (180,2)) (hfz:w.frozen? ⟨b,0,none⟩=false):
    Calls Tryz.prog 104 #[.pointer (some ⟨b,0,none⟩)] w fun e w'=>e= .returned (.tuple #[])∧w'=w.setCell ⟨b,0,none⟩ (.pointer (some ⟨b,0,none⟩)):=by
  obtain ⟨j,hj,hjs⟩:=Option.map_eq_some_iff.1 sizeBld
  go_enter Tryz.func104,Tryz.ntmps104
  go_wp2
  rw [Lib.run_to_unsafe w ⟨b,0,none⟩ Tryz.underlying177 Tryz.underlying164 hj (by rw [hjs];decide) hsh (Nat.zero_lt_succ 1)]
  simp only [Result.andThen]
  rw [Oper.upon_value]
  go_wp2
  rw [run_callFunc_extern Tryz.func120 (by kernel_rfl) (by kernel_rfl) (by kernel_rfl) (e:=Extern.AbiNoEscape.same) (by kernel_rfl)]
  rw [Lib.run_noEscape]
  simp only [Result.andThen]
  rw [Oper.upon_value]
  go_wp2
  rw [Lib.run_from_unsafe w ⟨b,0,none⟩ Tryz.underlying164 Tryz.underlying177 hj hsh liesBld]
  simp only [Result.andThen]
  rw [Oper.upon_value]
  go_wp2
  go_end0
  exact ⟨rfl,rfl⟩
theorem copyCheck_any (B b:Nat) (bs:List Value) (w:World) (h:IsB B b bs w):
    Calls Tryz.prog 104 #[.pointer (some ⟨b,0,none⟩)] w fun e w'=>e= .returned (.tuple #[])∧(Lib.BuilderAt 180 5 B b (.pointer (some ⟨b,0,none⟩)) bs w'∧Below B w w'):=by
  rcases h with h|h
  · refine (copyCheck_fresh b w h.cell0 h.shape h.frozen0).mono ?_
    rintro e w' ⟨rfl,rfl⟩
    exact ⟨rfl,h.used _,(Below.refl B w).setCell (p:=⟨b,0,none⟩) h.1 _⟩
  · refine (copyCheck_used b w h.cell0).mono ?_
    rintro e w' ⟨rfl,rfl⟩
    exact ⟨rfl,h,Below.refl B _⟩
def BldPost (B b:Nat) (bs:List Value) (v:Value) (w:World) (e:Ending) (w':World):Prop:=e= .returned v∧IsB B b bs w'∧Below B w w'
set_option maxHeartbeats 1000000 in
set_option maxRecDepth 100000 in
theorem WriteByte_any (B b:Nat) (bs:List Value) (c:Int) (w:World) (h:IsB B b bs w) (hlen:bs.length+1≤140737488355328) (hBw:B≤w.heap.size):
    Calls Tryz.prog 78 #[.pointer (some ⟨b,0,none⟩),.int .u8 c] w (BldPost B b (bs++[.int .u8 c]) .nilIface w):=by
  obtain ⟨i0,hi,hz0,hz1,hz2⟩:=info_parts infoByte
  go_enter Tryz.func78,Tryz.ntmps78
  go_wp2_with (go_at_call 104;refine (copyCheck_any B b bs _ h).mono ?_)
  rintro e w1 ⟨rfl,h1,hb1⟩
  obtain ⟨hB,v,hbk,hown,hne⟩:=h1
  have c0:w1.cell? ⟨b,0,none⟩=some (.pointer (some ⟨b,0,none⟩)):=by rw [Lib.cell_of_heap hbk];rfl
  have c1:w1.cell? ⟨b,1,none⟩=some v:=by rw [Lib.cell_of_heap hbk];rfl
  go_wp2_with (at_builtin;refine wpList_append_own _ rfl _ _ 178 rfl B 5 i0 (.int .u8 0) 1 1 Tryz.underlying178 hi hz0 hz1 hz2 rfl (by decide) _ _ _ rfl (hown.alloc _) ⟨w1.heap.size,0,none⟩ 1 1 [.int .u8 c] rfl rfl ?c1 ?c2 ?c3 ?c4 ?c5 ?_)
  case c1=>
    intro j u hj
    match j,hj with
    |0,hj=>simp at hj;subst hj;simp [Addr.add]
  case c2=>intro u hu;simp at hu;subst hu;rfl
  case c3=>unfold maxLen;omega
  case c4=>omega
  case c5=>have:=hb1.size;simp;omega
  intro v' w2 hown' hgrow _
  have hlt:b<w1.heap.size:=blk_lt hbk
  have hb2:w2.heap[b]? =some (.cells #[.pointer (some ⟨b,0,none⟩),v] 180 (0,0)):=by
    rw [hgrow.block b (by simp;omega) (fun e=>hne e.symm),Lib.alloc_old w1 _ b hlt]
    exact hbk
  have d0:w2.cell? ⟨b,0,none⟩=some (.pointer (some ⟨b,0,none⟩)):=by rw [Lib.cell_of_heap hb2];rfl
  have d1:w2.cell? ⟨b,1,none⟩=some v:=by rw [Lib.cell_of_heap hb2];rfl
  have f1:w2.frozen? ⟨b,1,none⟩=false:=Lib.frozen_of_heap hb2 1
  obtain ⟨g,cap,rfl⟩:∃g cap,v'= .slice (some ⟨g,0,none⟩) (bs.length+1) cap:=by
    rcases hown'.2 with ⟨_,h0⟩|⟨g,cap,cur,hv,_⟩
    · omega
    · exact ⟨g,cap,hv⟩
  go_wp2
  go_ret
  refine ⟨rfl,.inr ?_,?_⟩
  · exact Lib.BuilderAt.put (T:=180) (e:=5) hB hb2 (bs':=bs++[.int .u8 c]) (by simpa using hown') (by decide)
  · exact ((hb1.alloc (by have:=hb1.size;omega) _).grown hgrow (by have:=hb1.size;simp;omega) (fun k hk=>(hown.lt k hk).1)).setCell (p:=⟨b,1,none⟩) hB _
end Go.Proofs.YtjlnpdpkobpkiaaGreatDoor
