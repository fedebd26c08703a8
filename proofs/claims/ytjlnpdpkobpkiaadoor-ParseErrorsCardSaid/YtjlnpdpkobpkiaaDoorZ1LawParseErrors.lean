import Derived.Test.YtjlnpdpkobpkiaaDoorZ1Hd14
import Derived.Test.YtjlnpdpkobpkiaaDoorZ1Tied
import Derived.ChangeAt
import Derived.ProofKit
import Derived.OpenShut
import Derived.ShutString
import Derived.ChangeOld
set_option linter.unusedVariables false
set_option linter.unusedSimpArgs false
namespace Go.Proofs.YtjlnpdpkobpkiaaDoorPSP
open Go.RowKit Go.Extern.Stop Go.Stop Go.Extern Go.Proofs.YtjlnpdpkobpkiaaDoorW.PrintWords Go.Proofs.YtjlnpdpkobpkiaaDoor
def deepL:List UInt8:=[112,40,88,41,32,58,45,32,88,32,58,61,32]++List.replicate 21 40
def partsL_:List UInt8:=[112,40,49,41,32,58,45,32,113,40,49,41]++(List.replicate 12 [44,32,113,40,49,41]).flatten
def aheadL (i:Nat):List UInt8:=(List.replicate i [112,40,49,41,46,10]).flatten
def peL:List (List UInt8×Nat×Nat):=[([112],1,1),([112,46],1,1),([112,40,41,46],1,2),([112,40,49,41],1,4),([112,40,49,44,41,46],1,4),([88,40,49,41,46],1,0),([110,111,116,40,49,41,46],1,0),([112,40,110,111,116,41,46],1,2),([112,40,49,41,32,58,45,32,46],1,8),([112,40,49,41,32,58,45,32,113,46],1,9),([112,40,49,41,32,58,45,32,88,46],1,9),([112,40,49,41,32,58,45,32,110,111,116,32,88,46],1,12),([112,40,49,41,32,58,45,32,88,32,58,61,32,46],1,13),([112,40,49,41,32,58,45,32,88,32,58,61,32,97,46],1,13),([112,40,49,41,32,58,45,32,88,32,60,32,46],1,12),([112,40,49,41,32,58,45,32,88,32,58,61,32,40,49,46],1,15),([112,40,49,41,32,58,45,32,113,40,49,41,32,114,40,49,41,46],1,13),([112,40,115,117,109,60,88,62,44,89,41,46],1,8),([112,40,115,117,109,60,49,62,41,46],1,6),([112,40,115,117,109,60,88,41,46],1,7),([64,115,117,109,32,112,46],1,1),([64,109,105,110,32,112,40,49,41,46],1,6),([64,109,105,110,32,88,46],1,5),([112,40,57,50,50,51,51,55,50,48,51,54,56,53,52,55,55,53,56,48,56,41,46],1,2),([112,40,45,41,46],1,2),([112,40,45,32,88,41,46],1,2),([112,40,49,44,50,44,51,44,52,44,53,44,54,44,55,41,46],3,14),(deepL,2,33),(partsL_++[46],3,80),([112,40,88,41,32,58,45,32,113,40,65,44,66,44,67,44,68,44,69,44,70,41,44,32,113,40,71,44,72,44,73,44,74,44,75,44,76,41,44,32,113,40,77,44,78,44,79,44,80,44,81,44,82,41,46],3,0),([112,40,49,41,32,58,45,32,110,111,116,32,113,46],1,13),([46,32,112,40,49,41,46],1,0),([112,40,49,41,32,59,32,113,40,49,41,46],1,5)]
def peOk (i:Nat):Bool:=peL.all fun t=>match progP nv (aheadL i++t.1) with
  | .error e=>e.1==t.2.1 && e.2==i*6+t.2.2
  | .ok _=>false
theorem pe_ok0:peOk 0=true:=by kernel_rfl
theorem pe_ok1:peOk 1=true:=by kernel_rfl
theorem pe_ok2:peOk 2=true:=by kernel_rfl
theorem pe_ok3:peOk 3=true:=by kernel_rfl
theorem pe_ok4:peOk 4=true:=by kernel_rfl
theorem pe_ok5:peOk 5=true:=by kernel_rfl
theorem pe_ok6:peOk 6=true:=by kernel_rfl
theorem pe_ok7:peOk 7=true:=by kernel_rfl
theorem pe_ok (i:Nat) (hi:i≤7):peOk i=true:=by
  have hc:i=0∨i=1∨i=2∨i=3∨i=4∨i=5∨i=6∨i=7:=by omega
  rcases hc with rfl|rfl|rfl|rfl|rfl|rfl|rfl|rfl
  · exact pe_ok0
  · exact pe_ok1
  · exact pe_ok2
  · exact pe_ok3
  · exact pe_ok4
  · exact pe_ok5
  · exact pe_ok6
  · exact pe_ok7
theorem pe_bad (i:Nat) (hi:i≤7):∀t∈peL,progP nv (aheadL i++t.1)= .error (t.2.1,i*6+t.2.2):=by
  intro t ht
  have h:=List.all_eq_true.1 (pe_ok i hi) t ht
  split at h
  · rename_i e he
    rw [Bool.and_eq_true,beq_iff_eq,beq_iff_eq] at h
    rw [he,←h.1,←h.2]
  · cases h
theorem pe_fine:∀t∈peL,t.1.length≤100∧t.2.2≤100∧t.2.1≤3:=by decide
def repB (x:ByteArray) (y:ByteArray):Nat→ByteArray
  |0=>x
  |n+1=>repB x y n++y
theorem repB_size (x y:ByteArray) (n:Nat):(repB x y n).size=x.size+n*y.size:=by
  induction n with
  |zero=>simp [repB]
  |succ n ih=>rw [repB,ByteArray.size_append,ih,Nat.add_mul];omega
theorem repB_data (x y:ByteArray) (n:Nat):(repB x y n).data.toList=x.data.toList++(List.replicate n y.data.toList).flatten:=by
  induction n with
  |zero=>simp [repB]
  |succ n ih=>rw [repB,ByteArray.data_append,Array.toList_append,ih,List.replicate_succ',List.flatten_append];simp
theorem idx_of (which:Int) (n:Nat) (hn:0<n) (hn2:n<9223372036854775808):∃i:Nat,wrap64 ((IntKind.u64.wrap which).tmod (n:Int))=(i:Int)∧i<n:=by
  have h0:0≤IntKind.u64.wrap which:=by rw [IntKind.wrap_u64];omega
  have h1:(IntKind.u64.wrap which).tmod (n:Int)=(IntKind.u64.wrap which) % (n:Int):=Int.tmod_eq_emod_of_nonneg h0
  have h2:0≤(IntKind.u64.wrap which) % (n:Int):=Int.emod_nonneg _ (by omega)
  have h3:(IntKind.u64.wrap which) % (n:Int)<(n:Int):=Int.emod_lt_of_pos _ (by omega)
  refine ⟨((IntKind.u64.wrap which) % (n:Int)).toNat,?_,by omega⟩
  rw [h1,Int.toNat_of_nonneg h2]
  unfold wrap64
  omega
def TestsAt (w:World) (g:Nat):Prop:=∀i,i<33→∃t,peL[i]? =some t∧w.cell? ⟨g,i*3,none⟩=some (.string (bytesOf t.1))∧w.cell? ⟨g,i*3+1,none⟩=some (.int .i64 (t.2.1:Int))∧w.cell? ⟨g,i*3+2,none⟩=some (.int .i64 (t.2.2:Int))
abbrev cellsPE (dp pt:ByteArray):Array Value:= #[.string ⟨#[112]⟩,.int .i64 1,.int .i64 1,.string ⟨#[112,46]⟩,.int .i64 1,.int .i64 1,.string ⟨#[112,40,41,46]⟩,.int .i64 1,.int .i64 2,.string ⟨#[112,40,49,41]⟩,.int .i64 1,.int .i64 4,.string ⟨#[112,40,49,44,41,46]⟩,.int .i64 1,.int .i64 4,.string ⟨#[88,40,49,41,46]⟩,.int .i64 1,.int .i64 0,.string ⟨#[110,111,116,40,49,41,46]⟩,.int .i64 1,.int .i64 0,.string ⟨#[112,40,110,111,116,41,46]⟩,.int .i64 1,.int .i64 2,.string ⟨#[112,40,49,41,32,58,45,32,46]⟩,.int .i64 1,.int .i64 8,.string ⟨#[112,40,49,41,32,58,45,32,113,46]⟩,.int .i64 1,.int .i64 9,.string ⟨#[112,40,49,41,32,58,45,32,88,46]⟩,.int .i64 1,.int .i64 9,.string ⟨#[112,40,49,41,32,58,45,32,110,111,116,32,88,46]⟩,.int .i64 1,.int .i64 12,.string ⟨#[112,40,49,41,32,58,45,32,88,32,58,61,32,46]⟩,.int .i64 1,.int .i64 13,.string ⟨#[112,40,49,41,32,58,45,32,88,32,58,61,32,97,46]⟩,.int .i64 1,.int .i64 13,.string ⟨#[112,40,49,41,32,58,45,32,88,32,60,32,46]⟩,.int .i64 1,.int .i64 12,.string ⟨#[112,40,49,41,32,58,45,32,88,32,58,61,32,40,49,46]⟩,.int .i64 1,.int .i64 15,.string ⟨#[112,40,49,41,32,58,45,32,113,40,49,41,32,114,40,49,41,46]⟩,.int .i64 1,.int .i64 13,.string ⟨#[112,40,115,117,109,60,88,62,44,89,41,46]⟩,.int .i64 1,.int .i64 8,.string ⟨#[112,40,115,117,109,60,49,62,41,46]⟩,.int .i64 1,.int .i64 6,.string ⟨#[112,40,115,117,109,60,88,41,46]⟩,.int .i64 1,.int .i64 7,.string ⟨#[64,115,117,109,32,112,46]⟩,.int .i64 1,.int .i64 1,.string ⟨#[64,109,105,110,32,112,40,49,41,46]⟩,.int .i64 1,.int .i64 6,.string ⟨#[64,109,105,110,32,88,46]⟩,.int .i64 1,.int .i64 5,.string ⟨#[112,40,57,50,50,51,51,55,50,48,51,54,56,53,52,55,55,53,56,48,56,41,46]⟩,.int .i64 1,.int .i64 2,.string ⟨#[112,40,45,41,46]⟩,.int .i64 1,.int .i64 2,.string ⟨#[112,40,45,32,88,41,46]⟩,.int .i64 1,.int .i64 2,.string ⟨#[112,40,49,44,50,44,51,44,52,44,53,44,54,44,55,41,46]⟩,.int .i64 3,.int .i64 14,.string dp,.int .i64 2,.int .i64 33,.string (pt++⟨#[46]⟩),.int .i64 3,.int .i64 80,.string ⟨#[112,40,88,41,32,58,45,32,113,40,65,44,66,44,67,44,68,44,69,44,70,41,44,32,113,40,71,44,72,44,73,44,74,44,75,44,76,41,44,32,113,40,77,44,78,44,79,44,80,44,81,44,82,41,46]⟩,.int .i64 3,.int .i64 0,.string ⟨#[112,40,49,41,32,58,45,32,110,111,116,32,113,46]⟩,.int .i64 1,.int .i64 13,.string ⟨#[46,32,112,40,49,41,46]⟩,.int .i64 1,.int .i64 0,.string ⟨#[112,40,49,41,32,59,32,113,40,49,41,46]⟩,.int .i64 1,.int .i64 5]
set_option maxRecDepth 100000 in
theorem tests_at {w:World} {g:Nat} {ty:TypeId} {dp pt:ByteArray} (hdp:dp=bytesOf deepL) (hpt:pt=bytesOf partsL_) (h:w.heap[g]? =some (.cells (cellsPE dp pt) ty (0,0))):TestsAt w g:=by
  subst hdp hpt
  intro i hi
  have k:=fun o=>cell_blk h o
  have hc:i=0∨i=1∨i=2∨i=3∨i=4∨i=5∨i=6∨i=7∨i=8∨i=9∨i=10∨i=11∨i=12∨i=13∨i=14∨i=15∨i=16∨i=17∨i=18∨i=19∨i=20∨i=21∨i=22∨i=23∨i=24∨i=25∨i=26∨i=27∨i=28∨i=29∨i=30∨i=31∨i=32:=by omega
  rcases hc with rfl|rfl|rfl|rfl|rfl|rfl|rfl|rfl|rfl|rfl|rfl|rfl|rfl|rfl|rfl|rfl|rfl|rfl|rfl|rfl|rfl|rfl|rfl|rfl|rfl|rfl|rfl|rfl|rfl|rfl|rfl|rfl|rfl
  all_goals exact ⟨_,rfl,(k _).trans rfl,(k _).trans rfl,(k _).trans rfl⟩
end Go.Proofs.YtjlnpdpkobpkiaaDoorPSP
set_option linter.unusedVariables false
set_option linter.unusedSimpArgs false
namespace Go.Proofs.YtjlnpdpkobpkiaaDoorPSP
open Go.RowKit Go.Extern.Stop Go.Stop Go.Extern Go.Proofs.YtjlnpdpkobpkiaaDoorW.PrintWords Go.Proofs.YtjlnpdpkobpkiaaDoor
theorem pe_text (i:Nat) (hi:i≤7) {t:List UInt8×Nat×Nat} (ht:t∈peL):progP nv (repB ⟨#[]⟩ ⟨#[112,40,49,41,46,10]⟩ i++bytesOf t.1).data.toList= .error (t.2.1,i*6+t.2.2):=by
  rw [ByteArray.data_append,Array.toList_append,repB_data]
  exact pe_bad i hi t ht
theorem pe_size (i:Nat) (hi:i≤7) {t:List UInt8×Nat×Nat} (ht:t∈peL):(bytesOf t.1).size≤100∧(repB ⟨#[]⟩ ⟨#[112,40,49,41,46,10]⟩ i).size=i*6∧(repB ⟨#[]⟩ ⟨#[112,40,49,41,46,10]⟩ i++bytesOf t.1).size≤1073741824∧t.2.2≤100:=by
  have h1:=(pe_fine t ht).1
  have e1:(bytesOf t.1).size=t.1.length:=by simp [Go.Proofs.YtjlnpdpkobpkiaaDoor.bytesOf,ByteArray.size]
  have e2:(repB ⟨#[]⟩ ⟨#[112,40,49,41,46,10]⟩ i).size=i*6:=by rw [repB_size];show 0+i*6=_;omega
  exact ⟨by omega,e2,by rw [ByteArray.size_append,e1,e2];omega,(pe_fine t ht).2.1⟩
set_option maxHeartbeats 8000000 in
set_option maxRecDepth 100000 in
theorem ParseErrors_any {w:World} {which ahead:Int} (hE:ErrT w) (h1: -9223372036854775808≤which) (h2:which≤9223372036854775807) (h3: -9223372036854775808≤ahead) (h4:ahead≤9223372036854775807):
    Calls Tryd.prog 5 #[.int .i64 which,.int .i64 ahead] w (RetB w (.bool true)):=by
  have HE:=hid hE
  clear hE
  obtain ⟨x,hx⟩:∃x,x=bits .and .i64 ahead 7:=⟨_,rfl⟩
  have hb:=and_le ahead 7 (by decide)
  obtain ⟨m,hm⟩:∃m:Nat,(m:Int)=x:=Int.eq_ofNat_of_zero_le (by rw [hx];exact hb.1) |>.imp fun _ h=>h.symm
  have hm7:m≤7:=by have:=hb.2;rw [show ((7:Nat):Int)=7 by rfl,←hx,←hm] at this;omega
  rw [←hm] at hx
  have HX:=hid hx.symm
  clear hm hb hx
  go_enter Tryd.func5,Tryd.ntmps5
  go_wp2_with fail
  refine (head14_any _).mono ?_
  rintro e w1 ⟨rfl,hb1⟩
  have HB:=hid hb1
  clear hb1
  go_wp2_with fail
  go_loopg [5,6] m (fun g t5 t6 wr=>∃i:Nat,t5= .string (repB ⟨#[]⟩ ⟨#[112,40,49,41,46,10]⟩ i)∧t6= .int .i64 (i:Int)∧i≤m∧m-i≤g∧wr=w1)
  case atStart=>exact ⟨0,rfl,rfl,by omega,by omega,rfl⟩
  case round=>
    obtain ⟨i,rfl,rfl,hi,hg,hw⟩:=hrel
    subst hw
    have hx:=HX.out
    by_cases hlt:i<m
    · have hl' : (i : Int) < (m : Int) := by omega
      have hs:¬(repB ⟨#[]⟩ ⟨#[112,40,49,41,46,10]⟩ i).size+(⟨#[112,40,49,41,46,10]⟩:ByteArray).size>9223372036854775807:=by
        rw [repB_size]
        show ¬0+i*6+6>9223372036854775807
        omega
      go_wp2
      go_roundg (m-(i+1))
      case measure=>omega
      case rel=>exact ⟨i+1,rfl,rfl,by omega,Nat.le_refl _,rfl⟩
    · have hl' : ¬ (i : Int) < (m : Int) := by omega
      have hie:i=m:=by omega
      subst hie
      go_wp2_with fail
      clear hx
      go_loopg [7,8] 21 (fun g t7 t8 w2=>∃k:Nat,t7= .string (repB ⟨#[112,40,88,41,32,58,45,32,88,32,58,61,32]⟩ ⟨#[40]⟩ k)∧t8= .int .i64 (k:Int)∧k≤21∧21-k≤g∧w2=wr)
      case atStart=>exact ⟨0,rfl,rfl,by omega,by omega,rfl⟩
      case round=>
        obtain ⟨k,rfl,rfl,hk,hgk,hw⟩:=hrel
        subst hw
        by_cases hlk:k<21
        · have hl' : (k : Int) < 21 := by omega
          have hs:¬(repB ⟨#[112,40,88,41,32,58,45,32,88,32,58,61,32]⟩ ⟨#[40]⟩ k).size+(⟨#[40]⟩:ByteArray).size>9223372036854775807:=by
            rw [repB_size]
            show ¬13+k*1+1>9223372036854775807
            omega
          go_wp2
          go_roundg (21-(k+1))
          case measure=>omega
          case rel=>exact ⟨k+1,rfl,rfl,by omega,Nat.le_refl _,rfl⟩
        · have hl' : ¬ (k : Int) < 21 := by omega
          have hke:k=21:=by omega
          subst hke
          obtain ⟨dp,hdp⟩:∃dp,dp=repB ⟨#[112,40,88,41,32,58,45,32,88,32,58,61,32]⟩ ⟨#[40]⟩ 21:=⟨_,rfl⟩
          rw [←hdp]
          have HDP:=hid hdp
          clear hdp hl'
          go_wp2_with fail
          go_loopg [9,10] 12 (fun g t9 t10 w3=>∃j:Nat,t9= .string (repB ⟨#[112,40,49,41,32,58,45,32,113,40,49,41]⟩ ⟨#[44,32,113,40,49,41]⟩ j)∧t10= .int .i64 (j:Int)∧j≤12∧12-j≤g∧w3=wr)
          case atStart=>exact ⟨0,rfl,rfl,by omega,by omega,rfl⟩
          case round=>
            obtain ⟨j,rfl,rfl,hj,hgj,hw⟩:=hrel
            subst hw
            by_cases hlj:j<12
            · have hl' : (j : Int) < 12 := by omega
              have hs:¬(repB ⟨#[112,40,49,41,32,58,45,32,113,40,49,41]⟩ ⟨#[44,32,113,40,49,41]⟩ j).size+(⟨#[44,32,113,40,49,41]⟩:ByteArray).size>9223372036854775807:=by
                rw [repB_size]
                show ¬12+j*6+6>9223372036854775807
                omega
              go_wp2
              go_roundg (12-(j+1))
              case measure=>omega
              case rel=>exact ⟨j+1,rfl,rfl,by omega,Nat.le_refl _,rfl⟩
            · have hl' : ¬ (j : Int) < 12 := by omega
              have hje:j=12:=by omega
              subst hje
              obtain ⟨pt,hpt⟩:∃pt,pt=repB ⟨#[112,40,49,41,32,58,45,32,113,40,49,41]⟩ ⟨#[44,32,113,40,49,41]⟩ 12:=⟨_,rfl⟩
              obtain ⟨pf,hpf⟩:∃pf,pf=repB ⟨#[]⟩ ⟨#[112,40,49,41,46,10]⟩ i:=⟨_,rfl⟩
              rw [←hpt,←hpf]
              have HPT:=hid hpt
              have HPF:=hid hpf
              have hs1:pt.size=84:=by rw [hpt,repB_size];rfl
              clear hpt hpf
              go_upto_region 20 with (fail)
              obtain ⟨wq,hwq⟩:∃wq,wq=wr.alloc (.cells #[.string ⟨#[112]⟩,.int .i64 1,.int .i64 1,.string ⟨#[112,46]⟩,.int .i64 1,.int .i64 1,.string ⟨#[112,40,41,46]⟩,.int .i64 1,.int .i64 2,.string ⟨#[112,40,49,41]⟩,.int .i64 1,.int .i64 4,.string ⟨#[112,40,49,44,41,46]⟩,.int .i64 1,.int .i64 4,.string ⟨#[88,40,49,41,46]⟩,.int .i64 1,.int .i64 0,.string ⟨#[110,111,116,40,49,41,46]⟩,.int .i64 1,.int .i64 0,.string ⟨#[112,40,110,111,116,41,46]⟩,.int .i64 1,.int .i64 2,.string ⟨#[112,40,49,41,32,58,45,32,46]⟩,.int .i64 1,.int .i64 8,.string ⟨#[112,40,49,41,32,58,45,32,113,46]⟩,.int .i64 1,.int .i64 9,.string ⟨#[112,40,49,41,32,58,45,32,88,46]⟩,.int .i64 1,.int .i64 9,.string ⟨#[112,40,49,41,32,58,45,32,110,111,116,32,88,46]⟩,.int .i64 1,.int .i64 12,.string ⟨#[112,40,49,41,32,58,45,32,88,32,58,61,32,46]⟩,.int .i64 1,.int .i64 13,.string ⟨#[112,40,49,41,32,58,45,32,88,32,58,61,32,97,46]⟩,.int .i64 1,.int .i64 13,.string ⟨#[112,40,49,41,32,58,45,32,88,32,60,32,46]⟩,.int .i64 1,.int .i64 12,.string ⟨#[112,40,49,41,32,58,45,32,88,32,58,61,32,40,49,46]⟩,.int .i64 1,.int .i64 15,.string ⟨#[112,40,49,41,32,58,45,32,113,40,49,41,32,114,40,49,41,46]⟩,.int .i64 1,.int .i64 13,.string ⟨#[112,40,115,117,109,60,88,62,44,89,41,46]⟩,.int .i64 1,.int .i64 8,.string ⟨#[112,40,115,117,109,60,49,62,41,46]⟩,.int .i64 1,.int .i64 6,.string ⟨#[112,40,115,117,109,60,88,41,46]⟩,.int .i64 1,.int .i64 7,.string ⟨#[64,115,117,109,32,112,46]⟩,.int .i64 1,.int .i64 1,.string ⟨#[64,109,105,110,32,112,40,49,41,46]⟩,.int .i64 1,.int .i64 6,.string ⟨#[64,109,105,110,32,88,46]⟩,.int .i64 1,.int .i64 5,.string ⟨#[112,40,57,50,50,51,51,55,50,48,51,54,56,53,52,55,55,53,56,48,56,41,46]⟩,.int .i64 1,.int .i64 2,.string ⟨#[112,40,45,41,46]⟩,.int .i64 1,.int .i64 2,.string ⟨#[112,40,45,32,88,41,46]⟩,.int .i64 1,.int .i64 2,.string ⟨#[112,40,49,44,50,44,51,44,52,44,53,44,54,44,55,41,46]⟩,.int .i64 3,.int .i64 14,.string dp,.int .i64 2,.int .i64 33,.string (pt++⟨#[46]⟩),.int .i64 3,.int .i64 80,.string ⟨#[112,40,88,41,32,58,45,32,113,40,65,44,66,44,67,44,68,44,69,44,70,41,44,32,113,40,71,44,72,44,73,44,74,44,75,44,76,41,44,32,113,40,77,44,78,44,79,44,80,44,81,44,82,41,46]⟩,.int .i64 3,.int .i64 0,.string ⟨#[112,40,49,41,32,58,45,32,110,111,116,32,113,46]⟩,.int .i64 1,.int .i64 13,.string ⟨#[46,32,112,40,49,41,46]⟩,.int .i64 1,.int .i64 0,.string ⟨#[112,40,49,41,32,59,32,113,40,49,41,46]⟩,.int .i64 1,.int .i64 5] 64):=⟨_,rfl⟩
              rw [←hwq]
              have HT:Hid (TestsAt wq wr.heap.size):=tests_at (dp:=dp) (pt:=pt) (by rw [HDP.out];rfl) (by rw [HPT.out];rfl) (by rw [hwq];exact heap_alloc_new wr _)
              have HB2:Hid (Below w.heap.size w wq):=by
                show Below _ _ _
                rw [hwq]
                exact HB.out.alloc HB.out.size _
              have hq:wr.heap.size<wq.heap.size:=by rw [hwq];simp
              clear hwq hs1
              obtain ⟨ix,hix,hix33⟩:=idx_of which 33 (by decide) (by decide)
              have hix':wrap64 ((IntKind.u64.wrap which).tmod 33)=(ix:Int):=hix
              clear hix
              obtain ⟨t,ht,k0,k1,k2⟩:=HT.out ix hix33
              have hmem:=List.mem_of_getElem? ht
              obtain ⟨f1,f2,f3,f4⟩:=pe_size i hm7 hmem
              have HP:Hid (progP nv (pf++bytesOf t.1).data.toList= .error (t.2.1,i*6+t.2.2)):=by
                show _=_
                rw [HPF.out]
                exact pe_text i hm7 hmem
              rw [←HPF.out] at f2 f3
              have hs:¬pf.size+(bytesOf t.1).size>9223372036854775807:=by omega
              have HA:=hid (fun W=>Program_any (pf++bytesOf t.1) f3 W)
              have hadd:wrap64 ((pf.size:Int)+(t.2.2:Int))=((i*6+t.2.2:Nat):Int):=by
                rw [f2]
                unfold wrap64
                omega
              clear f1 f2 f3 f4 hmem ht
              go_wp2_with fail
              refine (HA.out _).mono ?_
              intro e w4 h
              rw [HP.out] at h
              obtain ⟨f,what,rfl,hf,hb4⟩:=h
              have hT4:Hid (w4.cell? ⟨wq.heap.size,1,none⟩=some (.int .i64 (t.2.1:Int))∧w4.cell? ⟨wq.heap.size,2,none⟩=some (.int .i64 (t.2.2:Int))):=by
                have hx:=heap_alloc_new wq (.cells #[.string (bytesOf t.1),.int .i64 (t.2.1:Int),.int .i64 (t.2.2:Int)] 64)
                have hy:=hb4.block wq.heap.size (by simp)
                rw [hx] at hy
                exact ⟨by rw [cell_blk hy];rfl,by rw [cell_blk hy];rfl⟩
              have HB4:Hid (Below w.heap.size w w4):=by
                have h1:=HB2.out.alloc HB2.out.size (.cells #[.string (bytesOf t.1),.int .i64 (t.2.1:Int),.int .i64 (t.2.2:Int)] 64)
                exact h1.trans (hb4.mono h1.size)
              have HF:=hid hf
              clear hf hb4
              have HOF:Hid (∀W,Fr (fun _=>False) w4 W→Calls Tryd.prog 22 #[faultV f] W (RetB W (.int .i64 (t.2.1:Int)))):=
                fun W hW=>Of_fault ((HE.out.below HB4.out).below (hW.below (Nat.le_refl _) (fun _ f=>f.elim))) (HF.out.keep hW (fun f=>f))
              have HAT:Hid (∀W,Fr (fun _=>False) w4 W→Calls Tryd.prog 23 #[faultV f] W (RetB W (.int .i64 ((i*6+t.2.2:Nat):Int)))):=
                fun W hW=>At_fault ((HE.out.below HB4.out).below (hW.below (Nat.le_refl _) (fun _ f=>f.elim))) (HF.out.keep hW (fun f=>f))
              obtain ⟨k1,k2⟩:=hT4.out
              obtain ⟨ap,hap⟩:∃ap:Int,ap=((i*6+t.2.2:Nat):Int):=⟨_,rfl⟩
              rw [←hap] at hadd HAT
              clear hap
              have F0:Fr (fun _=>False) w4 w4.drew:=(Fr.refl _ _).drew
              go_wp2_with fail
              go_region_held3 (fun W=>W.cell? ⟨wq.heap.size,1,none⟩=some (.int .i64 (t.2.1:Int))∧W.cell? ⟨wq.heap.size,2,none⟩=some (.int .i64 (t.2.2:Int))∧Fr (fun _=>False) w4 W)
                (first
                  |(exact ⟨F0.cell k1 (fun f=>f),F0.cell k2 (fun f=>f),F0⟩)
                  |(exact ⟨F2'.cell k1 (fun f=>f),F2'.cell k2 (fun f=>f),F2'⟩)
                  |(exact ⟨F1'.cell k1 (fun f=>f),F1'.cell k2 (fun f=>f),F1'⟩))
                (first
                  |(go_at_call 22;refine (HOF.out _ F0).mono ?_;rintro e w5 ⟨rfl,hb5⟩;have F1':Fr (fun _=>False) w4 w5:=F0.trans (Fr.quiet hb5) (fun _ _ f=>f))
                  |(go_at_call 23;refine (HAT.out _ F1').mono ?_;rintro e w6 ⟨rfl,hb6⟩;have F2':Fr (fun _=>False) w4 w6:=F1'.trans (Fr.quiet hb6) (fun _ _ f=>f)))
              · go_wp2
                go_ret
                exact ⟨ret_bool (by simp),HB4.out.trans (F2'.below HB4.out.size (fun i hi=>hi.elim))⟩
end Go.Proofs.YtjlnpdpkobpkiaaDoorPSP
/- For each of the 33 texts that are no programs, behind up to seven rules: parse.Program answers a fault of the tag and at the place that are told. No condition but those of the card. -/
namespace Go.Proofs.YtjlnpdpkobpkiaaDoor.lawParseErrors
open Go Go.ChangeShapes Go.WideShapes Go.ChangeAt Go.RowKit
open Go.ChangeMaps (open_string shut_string)
set_option linter.unusedVariables false
set_option maxRecDepth 100000 in
theorem lifted (os:Os) (started:os.Started) (H:Type) (enc:TypeId×Value→H):
    ReturnsInHanded {} Tryd.checked os 5 .any (fun w args=>(Rows.parseErrorsSpec.pre enc Tryd.prog Tryd.f5 [] false w args∧laidMetH Tryd.prog laidErr w)∧sizedMet enc Tryd.prog Tryd.f5 (OpenSpec.ofChange Rows.parseErrorsSpec) false w args)
      (Rows.parseErrorsSpec.post enc Tryd.prog Tryd.f5 false true false false):=by
  refine returnsInHanded_of_change_and (C := Tryd.checked) (X := fun w _ => laidMetH Tryd.prog laidErr w) (fun _ _ _ hh h => h.of_heap hh) own started (by kernel_rfl) Tryd.func5
    (ChangeSpec.witness_at (enc:=enc) (C:=Tryd.checked) (os:=os) (X:=fun w _=>laidMetH Tryd.prog laidErr w) false (laidWorld os) #[.int .i64 0,.int .i64 0] 8 rfl (by kernel_rfl) (by kernel_rfl) (by kernel_rfl) (by kernel_rfl) (by kernel_rfl) (laidWorld_met os _)) ?_
  intro W base args ds gs before hval0 hW _ _ hL _
  have hval:∀(j:Nat) t v,Tryd.f5.params[j]? =some t→args[j]? =some v→Value.okWide Tryd.prog W .any base t v:=hval0
  have hW':=hW
  obtain ⟨p,q,hA0,hV,rfl,hfz,hnd⟩:=hW
  have hA:DataW.TrodAll enc Tryd.prog W 0 (fun _=>true) true Tryd.f5.params.toList args.toList ds p:=hA0
  rw [Tryd.params5] at hA hval
  obtain ⟨v0,vs0,d0,ds0,p0,q0,hargs,rfl,rfl,h0,r0⟩:=trodAll_cons hA
  obtain ⟨v1,vs1,d1,ds1,p1,q1,rfl,rfl,rfl,h1,r1⟩:=trodAll_cons r0
  obtain ⟨rfl,rfl,rfl⟩:=trodAll_nil r1
  obtain rfl:args= #[v0,v1]:=by cases args;simp_all
  obtain ⟨rfl,rfl⟩:=trodVars_none hV
  obtain ⟨a0,rfl,rfl,rfl,w0⟩:=open_int Tryd.underlying3 (hval 0 3 v0 rfl rfl) h0
  have b0:=bounds_i64 w0
  obtain ⟨a1,rfl,rfl,rfl,w1⟩:=open_int Tryd.underlying3 (hval 1 3 v1 rfl rfl) h1
  have b1:=bounds_i64 w1
  clear hA0 hval0
  refine (Go.Proofs.YtjlnpdpkobpkiaaDoorPSP.ParseErrors_any (errT_of_laid hL) b0.1 b0.2 b1.1 b1.2).mono fun e W' ⟨he,bel⟩=> ?_
  subst he
  exact ⟨_,rfl,_,_,_,[],_,[],hW',trodAll_mk1 (shut_bool Tryd.underlying4 _),(trodAll_cons_mk (shut_int Tryd.underlying3 w0) (trodAll_cons_mk (shut_int Tryd.underlying3 w1) trodAll_mk0)),rfl,bel.frame _,fun h=>by cases h⟩
theorem over:Rows.parseErrorsRow.holds Tryd.pinned (OpenSpec.ofChange Rows.parseErrorsSpec):=
  OpenClaim.holds_of_wide 5 Tryd.f5 rfl rfl rfl rfl rfl rfl rfl ⟨rfl, rfl, rfl, rfl, rfl⟩ rfl rfl rfl rfl rfl (by kernel_rfl) Tryd.func5 (by kernel_rfl)
    (of_decide_eq_true (by kernel_rfl)) (by unfold Func.isWrapper;first|(rw [if_pos (by decide +kernel)];kernel_rfl)|(rw [if_neg (by decide +kernel)];exact ⟨rfl,rfl⟩))
    (fun os started H enc _=>lifted os started H enc)
theorem proved:Rows.ParseErrorsCardSaid:=
  Claim7.holds_tied_plain_at .later [] [.handle] true (true,"9257455a6aee17f711a4c81afb4f7658fdf78ba957504386e3692b068462cc77") true
    over (fun _ h=>by cases h) (by kernel_rfl) (fun _ h=>by cases h) parseErrors_row_tie rfl ⟨rfl,rfl⟩ (by kernel_rfl) rfl
    (fun f fn hf hfn=>by
      obtain rfl:f=5:=Option.some.inj ((show Tryd.prog.funcNamed "ergo/ergolaw14.ParseErrors"=some 5 by kernel_rfl).symm.trans hf) |>.symm
      obtain rfl:fn=Tryd.f5:=(Option.some.inj (Tryd.func5.symm.trans hfn)).symm
      exact ⟨by kernel_rfl,fun j t ht=>by
        rw [Tryd.params5] at ht
        have hs:t=3:=by
          rcases j with _|j
          · (simp at ht;subst ht;simp)
          rcases j with _|j
          · (simp at ht;subst ht;simp)
          · simp at ht
        subst hs
        exact (show Tryd.prog.wantsStandIn 3=false by kernel_rfl)⟩)
    (by kernel_rfl)
end Go.Proofs.YtjlnpdpkobpkiaaDoor.lawParseErrors
