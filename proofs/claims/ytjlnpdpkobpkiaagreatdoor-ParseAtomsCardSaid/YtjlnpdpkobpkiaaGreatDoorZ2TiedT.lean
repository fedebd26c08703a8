import Derived.Shelf.Strings.Builder1
import Derived.Shelf.Strings.Builder2
import Derived.Shelf.Strings.OnBuilder
import Derived.Shelf.Strings.BuilderF
import Derived.Shelf.Strings.BuilderK
import Derived.Shelf.Strings.Builder2Cap
import Derived.Shelf.Strconv.Itoa0
import Derived.Shelf.Strconv.Itoa1
import Derived.Shelf.LaysM
import Derived.Shelf.Strconv.Itoa2
import Derived.Shelf.Strconv.Itoa3
import Derived.Shelf.Strconv.Itoa4
import Derived.Shelf.Strings.Prefix
import Derived.Shelf.Strings.BuilderCap
import Derived.Shelf.Slices.Turned
import Derived.Test.YtjlnpdpkobpkiaaGreatDoorProg
import Derived.Test.YtjlnpdpkobpkiaaGreatDoorZ2Build
import Derived.Test.YtjlnpdpkobpkiaaGreatDoorRows
import Derived.Test.YtjlnpdpkobpkiaaGreatDoorTie
import Derived.Test.YtjlnpdpkobpkiaaGreatDoorCards
import Derived.Test.YtjlnpdpkobpkiaaGreatDoorZ2Fault
import Derived.Lib.LaidTab
import Derived.Lib.ItoaNum
import Derived.ChangeSame
import Derived.ChangeVars
import Derived.JoinedOf
import Derived.RowKit
import Derived.RowKitTokens
import Derived.LaidLaws
import Derived.LaidHandle
import Derived.Stop.Joined
import Derived.Stop.LaidErr
import Derived.SevenTiedAt
namespace Go.Proofs
open Go.Shelf
def Tryz.laysM173_ren:Go.Shelf.Ren:=⟨fun|173=>94|246=>116|283=>125|284=>126|285=>127|286=>128|129=>134|317=>133|318=>135|319=>136|320=>137|337=>138|338=>139|n=>n,fun|2=>2|3=>3|9=>9|4=>4|171=>239|0=>0|53=>66|37=>178|5=>5|173=>242|212=>249|51=>250|20=>20|213=>251|46=>158|232=>255|233=>256|n=>n,fun|17=>1|18=>3|19=>4|n=>n⟩
theorem Tryz.laysM173:Go.Proofs.LaysM.n173 Tryz.prog Tryz.laysM173_ren:={
  mixed:=by kernel_rfl
  f129:=Tryz.func134.trans (congrArg some (by kernel_rfl))
  f173:=Tryz.func94.trans (congrArg some (by kernel_rfl))
  f246:=Tryz.func116.trans (congrArg some (by kernel_rfl))
  f283:=Tryz.func125.trans (congrArg some (by kernel_rfl))
  f284:=Tryz.func126.trans (congrArg some (by kernel_rfl))
  f285:=Tryz.func127.trans (congrArg some (by kernel_rfl))
  f286:=Tryz.func128.trans (congrArg some (by kernel_rfl))
  f317:=Tryz.func133.trans (congrArg some (by kernel_rfl))
  f318:=Tryz.func135.trans (congrArg some (by kernel_rfl))
  f319:=Tryz.func136.trans (congrArg some (by kernel_rfl))
  f320:=Tryz.func137.trans (congrArg some (by kernel_rfl))
  f337:=Tryz.func138.trans (congrArg some (by kernel_rfl))
  f338:=Tryz.func139.trans (congrArg some (by kernel_rfl))
  t0:=Tryz.underlying0
  a0:=Tryz.isAgg0
  z0:=Tryz.sizeOf0
  v0:=Tryz.zeroValue0
  t2:=Tryz.underlying2
  a2:=Tryz.isAgg2
  z2:=Tryz.sizeOf2
  v2:=Tryz.zeroValue2
  t3:=Tryz.underlying3
  a3:=Tryz.isAgg3
  z3:=Tryz.sizeOf3
  v3:=Tryz.zeroValue3
  t4:=Tryz.underlying4
  a4:=Tryz.isAgg4
  z4:=Tryz.sizeOf4
  v4:=Tryz.zeroValue4
  t5:=Tryz.underlying5
  a5:=Tryz.isAgg5
  z5:=Tryz.sizeOf5
  v5:=Tryz.zeroValue5
  t9:=Tryz.underlying9
  a9:=Tryz.isAgg9
  z9:=Tryz.sizeOf9
  v9:=Tryz.zeroValue9
  t20:=Tryz.underlying20
  a20:=Tryz.isAgg20
  z20:=Tryz.sizeOf20
  v20:=Tryz.zeroValue20
  t37:=Tryz.underlying178
  a37:=Tryz.isAgg178
  z37:=Tryz.sizeOf178
  v37:=Tryz.zeroValue178
  t46:=Tryz.underlying158
  a46:=Tryz.isAgg158
  z46:=Tryz.sizeOf158
  v46:=Tryz.zeroValue158
  t51:=Tryz.underlying250
  a51:=Tryz.isAgg250
  z51:=Tryz.sizeOf250
  v51:=Tryz.zeroValue250
  t53:=Tryz.underlying66
  a53:=Tryz.isAgg66
  z53:=Tryz.sizeOf66
  v53:=Tryz.zeroValue66
  t171:=Tryz.underlying239
  a171:=Tryz.isAgg239
  z171:=Tryz.sizeOf239
  v171:=Tryz.zeroValue239
  t173:=Tryz.underlying242
  a173:=Tryz.isAgg242
  z173:=Tryz.sizeOf242
  v173:=Tryz.zeroValue242
  t212:=Tryz.underlying249
  a212:=Tryz.isAgg249
  z212:=Tryz.sizeOf249
  v212:=Tryz.zeroValue249
  t213:=Tryz.underlying251
  a213:=Tryz.isAgg251
  z213:=Tryz.sizeOf251
  t232:=Tryz.underlying255
  a232:=Tryz.isAgg255
  z232:=Tryz.sizeOf255
  v232:=Tryz.zeroValue255
  t233:=Tryz.underlying256
  a233:=Tryz.isAgg256
  z233:=Tryz.sizeOf256
  v233:=Tryz.zeroValue256
  g17:=by kernel_rfl
  g18:=by kernel_rfl
  g19:=by kernel_rfl
  i0:=by kernel_rfl
  i2:=by kernel_rfl
  i3:=by kernel_rfl
  i4:=by kernel_rfl
  i5:=by kernel_rfl
  i9:=by kernel_rfl
  i20:=by kernel_rfl
  i37:=by kernel_rfl
  i46:=by kernel_rfl
  i51:=by kernel_rfl
  i53:=by kernel_rfl
  i171:=by kernel_rfl
  i173:=by kernel_rfl
  i212:=by kernel_rfl
  i232:=by kernel_rfl
  i233:=by kernel_rfl
  m17:=by kernel_rfl
  m18:=by kernel_rfl
  m19:=by kernel_rfl}
open Go.RowKit Go.Sort Go.Lib in
theorem Tryz.strconv_FormatInt_10 (n:Int) (h0: -9223372036854775808≤n) (h1:n≤9223372036854775807) (w:World) (htab:Lib.TabIs Tryz.prog w "internal/strconv.uint64pow10" .u64 Lib.pow10Tab):
    Calls Tryz.prog 94 #[.int .i64 n,.int .i64 10] w fun e w'=>e= .returned (.string ⟨(Lib.itoa n).toArray⟩)∧∃k os,w'=grow (w.drewN k) os:=Any.strconv_FormatInt_10 Tryz.laysM173 n h0 h1 w htab
end Go.Proofs
set_option linter.unusedVariables false
namespace Go.Proofs.YtjlnpdpkobpkiaaGreatDoor
open Go.ChangeShapes Go.WideShapes Go.RowKit
namespace tied
theorem own:ownKnob Tryz.prog.godebug=none:=by kernel_rfl
theorem laidOut:laidOutB Tryz.prog=true:=by kernel_rfl
theorem etName:Tryz.prog.globalNamed "errors.errorType"=some 0:=by kernel_rfl
theorem rtName:(Tryz.prog.cutTypes.find? (·.1== "internal/reflectlite.rtype")).map (·.2)=some 200:=by kernel_rfl
theorem oneRow:((List.range 284).filter fun t=>Tryz.prog.rowNamed t [101,114,114,111,114])=[43]:=by kernel_rfl
theorem typesSize:Tryz.prog.types.size=284:=by kernel_rfl
end tied
def TabT (w:World):Prop:=Lib.TabIs Tryz.prog w "internal/strconv.uint64pow10" .u64 Lib.pow10Tab
def laidTabs:List (String×DataW Unit):=[("math/bits.deBruijn32tab",Rows.laid_math_bits_deBruijn32tab),("math/bits.deBruijn64tab",Rows.laid_math_bits_deBruijn64tab),("internal/strconv.uint64pow10",Rows.laid_internal_strconv_uint64pow10)]
def laidAll:List (String×DataW Unit):=[("math/bits.deBruijn32tab",Rows.laid_math_bits_deBruijn32tab),("math/bits.deBruijn64tab",Rows.laid_math_bits_deBruijn64tab),("internal/strconv.uint64pow10",Rows.laid_internal_strconv_uint64pow10),("errors.errorType",Rows.laid_errors_errorType)]
theorem tabT_of {W:World} (h:laidMet Tryz.prog laidTabs W):TabT W:=
  Lib.tabIs_of_head (g:=1) (n:=20) (e:=66) (t:=249) (by kernel_rfl) (by kernel_rfl) (by kernel_rfl) (by kernel_rfl) (by kernel_rfl) (by kernel_rfl) (laidMet.tail (laidMet.tail h))
theorem allT_of {W:World} (h:laidMetH Tryz.prog laidAll W):TabT W∧ErrT W:=by
  have h':laidMet Tryz.prog laidTabs W∧handlesMet Tryz.prog [("errors.errorType",Rows.laid_errors_errorType)] W:=h
  refine ⟨tabT_of h'.1,?_⟩
  obtain ⟨name,u,ty,e1,e2,e3,e4,e5⟩:=h'.2 _ (List.mem_singleton.2 rfl)
  have en:name=[101,114,114,111,114]:=(Option.some.inj e1).symm
  subst en
  obtain rfl:=Option.some.inj (tied.rtName.symm.trans e2)
  have hm:ty∈(List.range 284).filter fun t=>Tryz.prog.rowNamed t [101,114,114,111,114]:=List.mem_filter.2 ⟨List.mem_range.2 (by rw [←tied.typesSize];exact e3),e4⟩
  rw [tied.oneRow] at hm
  obtain rfl:=List.mem_singleton.1 hm
  have hh:typeHandle Tryz.prog 43=hnd 43:=by kernel_rfl
  rw [hh] at e5
  have:=World.var?_cell tied.etName e5 0
  show _=_
  simpa using this
def tabCells:DataW Unit→Array Value
  | .agg l=>(l.map fun| .lit (.int k z)=>Value.int k z|_=>undef).toArray
  |_=> #[]
noncomputable def laidWorldT (os:Os):World:=
  let w0:=World.holding Tryz.prog os ⟨#[],#[],[]⟩
  let put (g:Nat) (cs:Array Value) (h:Array Obj):Array Obj:=h.modify g fun
      | .cells _ t frozen=> .cells cs t frozen
      |o=>o
  {w0 with heap:=put 3 (tabCells Rows.laid_math_bits_deBruijn32tab) (put 4 (tabCells Rows.laid_math_bits_deBruijn64tab) (put 1 (tabCells Rows.laid_internal_strconv_uint64pow10) (put 0 #[.iface 200 (.agg #[hnd 43])] w0.heap)))}
theorem laidA_met (os:Os) (args:Array Value):laidMetH Tryz.prog laidAll ((laidWorldT os).forCall (fun _ _=>0) ⟨#[],args,[]⟩).memory:=
  laidMetH_of_parts (laidMet_of_run' 10 (by kernel_rfl) (by kernel_rfl)) (by kernel_rfl)
end Go.Proofs.YtjlnpdpkobpkiaaGreatDoor
