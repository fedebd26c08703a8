import Derived.Test.YtjlnpdpkobpkiaaDoorZ2Hd14
import Derived.Test.YtjlnpdpkobpkiaaDoorZ2Tied
import Derived.Laws.IdiomStrings
import Derived.ChangeAt
import Derived.ProofKit
import Derived.OpenShut
import Derived.ShutString
import Derived.ChangeOld
set_option linter.unusedVariables false
set_option linter.unusedSimpArgs false
namespace Go.Proofs.YtjlnpdpkobpkiaaDoorPSP
open Go.RowKit Go.Extern.Stop Go.Stop Go.Extern Go.Proofs.YtjlnpdpkobpkiaaDoorW.PrintWords Go.Proofs.YtjlnpdpkobpkiaaDoor
def repB (x:ByteArray) (y:ByteArray):Nat→ByteArray
  |0=>x
  |n+1=>repB x y n++y
theorem repB_size (x y:ByteArray) (n:Nat):(repB x y n).size=x.size+n*y.size:=by
  induction n with
  |zero=>simp [repB]
  |succ n ih=>rw [repB,ByteArray.size_append,ih,Nat.add_mul];omega
theorem repB_data (x y:ByteArray) (n:Nat):(repB x y n).data.toList=x.data.toList++(List.replicate n y.data.toList).flatten:=by
  induction n with
  |zero=>simp [repB]
  |succ n ih=>rw [repB,ByteArray.data_append,Array.toList_append,ih,List.replicate_succ',List.flatten_append];simp
end Go.Proofs.YtjlnpdpkobpkiaaDoorPSP
set_option linter.unusedVariables false
set_option linter.unusedSimpArgs false
namespace Go.Proofs.YtjlnpdpkobpkiaaDoorPSP
open Go.RowKit Go.Extern.Stop Go.Stop Go.Extern Go.Proofs.YtjlnpdpkobpkiaaDoorW.PrintWords Go.Proofs.YtjlnpdpkobpkiaaDoor
def rulesL (n:Nat):List UInt8:=(List.replicate n [112,40,49,41,46]).flatten
def pmOk (n:Nat):Bool:=match progP nv (rulesL n) with
  | .error e=>Nat.blt 200 n && e.1==3 && e.2==1000
  | .ok v=>Nat.ble n 200 && v.2.length==n
theorem pm_ok197:pmOk 197=true:=by kernel_rfl
theorem pm_ok198:pmOk 198=true:=by kernel_rfl
theorem pm_ok199:pmOk 199=true:=by kernel_rfl
theorem pm_ok200:pmOk 200=true:=by kernel_rfl
theorem pm_ok201:pmOk 201=true:=by kernel_rfl
theorem pm_ok202:pmOk 202=true:=by kernel_rfl
theorem pm_ok203:pmOk 203=true:=by kernel_rfl
theorem pm_ok204:pmOk 204=true:=by kernel_rfl
theorem pm_ok (n:Nat) (h1:197≤n) (h2:n≤204):pmOk n=true:=by
  have hc:n=197∨n=198∨n=199∨n=200∨n=201∨n=202∨n=203∨n=204:=by omega
  rcases hc with rfl|rfl|rfl|rfl|rfl|rfl|rfl|rfl
  · exact pm_ok197
  · exact pm_ok198
  · exact pm_ok199
  · exact pm_ok200
  · exact pm_ok201
  · exact pm_ok202
  · exact pm_ok203
  · exact pm_ok204
theorem pm_few (n:Nat) (h1:197≤n) (h2:n≤200):∃ds rs,progP nv (rulesL n)= .ok (ds,rs)∧rs.length=n:=by
  have h:=pm_ok n h1 (by omega)
  unfold pmOk at h
  split at h
  · rw [Bool.and_eq_true, Bool.and_eq_true, Nat.blt_eq] at h
    omega
  · rename_i v hv
    rw [Bool.and_eq_true,beq_iff_eq] at h
    exact ⟨v.1,v.2,hv,h.2⟩
theorem pm_many (n:Nat) (h1:200<n) (h2:n≤204):progP nv (rulesL n)= .error (3,1000):=by
  have h:=pm_ok n (by omega) h2
  unfold pmOk at h
  split at h
  · rename_i e he
    rw [Bool.and_eq_true,Bool.and_eq_true,beq_iff_eq,beq_iff_eq] at h
    rw [he,←h.1.2,←h.2]
  · rw [Bool.and_eq_true, Nat.ble_eq] at h
    omega
def deepN (d:Nat):List UInt8:=[112,40,88,41,32,58,45,32,88,32,58,61,32]++(List.replicate d 40++49::List.replicate d 41)++[46]
def pdOk (d:Nat):Bool:=match progP nv (deepN d) with
  | .error e=>Nat.blt 20 d && e.1==2 && e.2==33
  | .ok _=>Nat.ble d 20
theorem pd_ok17:pdOk 17=true:=by kernel_rfl
theorem pd_ok18:pdOk 18=true:=by kernel_rfl
theorem pd_ok19:pdOk 19=true:=by kernel_rfl
theorem pd_ok20:pdOk 20=true:=by kernel_rfl
theorem pd_ok21:pdOk 21=true:=by kernel_rfl
theorem pd_ok22:pdOk 22=true:=by kernel_rfl
theorem pd_ok23:pdOk 23=true:=by kernel_rfl
theorem pd_ok24:pdOk 24=true:=by kernel_rfl
theorem pd_ok (n:Nat) (h1:17≤n) (h2:n≤24):pdOk n=true:=by
  have hc:n=17∨n=18∨n=19∨n=20∨n=21∨n=22∨n=23∨n=24:=by omega
  rcases hc with rfl|rfl|rfl|rfl|rfl|rfl|rfl|rfl
  · exact pd_ok17
  · exact pd_ok18
  · exact pd_ok19
  · exact pd_ok20
  · exact pd_ok21
  · exact pd_ok22
  · exact pd_ok23
  · exact pd_ok24
theorem pd_few (n:Nat) (h1:17≤n) (h2:n≤20):∃ds rs,progP nv (deepN n)= .ok (ds,rs):=by
  have h:=pd_ok n h1 (by omega)
  unfold pdOk at h
  split at h
  · rw [Bool.and_eq_true, Bool.and_eq_true, Nat.blt_eq] at h
    omega
  · rename_i v hv
    exact ⟨v.1,v.2,hv⟩
theorem pd_many (n:Nat) (h1:20<n) (h2:n≤24):progP nv (deepN n)= .error (2,33):=by
  have h:=pd_ok n (by omega) h2
  unfold pdOk at h
  split at h
  · rename_i e he
    rw [Bool.and_eq_true,Bool.and_eq_true,beq_iff_eq,beq_iff_eq] at h
    rw [he,←h.1.2,←h.2]
  · rw [Nat.ble_eq] at h
    omega
theorem skip_blanks (m:Nat):skip false (List.replicate m 32)=[]:=by
  induction m with
  |zero=>rfl
  |succ m ih=>rw [List.replicate_succ,skip,if_neg (by decide),if_pos (by decide),ih]
theorem blanks_few (m:Nat) (h:m≤20000):progP nv (List.replicate m 32)= .ok ([],[]):=by
  have h1:lexAll (List.replicate m 32)= .ok [⟨0,[],0,0⟩]:=by
    rw [lexAll_step]
    have:nextS (List.replicate m 32)= .tok 0 [] 0 0 []:=by rw [nextS,skip_blanks,tokS]
    rw [this]
    rfl
  rw [progP,if_neg (by rw [List.length_replicate];omega),h1]
  exact progL_0 rfl
theorem blanks_many (m:Nat) (h:20000<m):progP nv (List.replicate m 32)= .error (3,0):=by
  rw [progP,if_pos (by rw [List.length_replicate];exact h)]
def parB:Nat→ByteArray
  |0=>⟨#[49]⟩
  |n+1=>⟨#[40]⟩++parB n++⟨#[41]⟩
theorem parB_size (n:Nat):(parB n).size=1+n*2:=by
  induction n with
  |zero=>rfl
  |succ n ih=>
    have e1:(⟨#[40]⟩:ByteArray).size=1:=rfl
    have e2:(⟨#[41]⟩:ByteArray).size=1:=rfl
    rw [parB,ByteArray.size_append,ByteArray.size_append,ih,e1,e2]
    omega
theorem parB_data (n:Nat):(parB n).data.toList=List.replicate n 40++49::List.replicate n 41:=by
  induction n with
  |zero=>rfl
  |succ n ih=>
    rw [parB,ByteArray.data_append,Array.toList_append,ByteArray.data_append,Array.toList_append,ih]
    show [40]++(List.replicate n 40++49::List.replicate n 41)++[41]=_
    rw [List.replicate_succ,List.replicate_succ' (n:=n) (a:=41)]
    simp
end Go.Proofs.YtjlnpdpkobpkiaaDoorPSP
set_option linter.unusedVariables false
set_option linter.unusedSimpArgs false
namespace Go.Proofs.YtjlnpdpkobpkiaaDoorPSP
open Go.RowKit Go.Extern.Stop Go.Stop Go.Extern Go.Proofs.YtjlnpdpkobpkiaaDoorW.PrintWords Go.Proofs.YtjlnpdpkobpkiaaDoor
theorem and7 (x:Int):∃m:Nat,bits .and .i64 x 7=(m:Int)∧m≤7:=by
  have hb:=and_le x 7 (by decide)
  have hb1:0≤bits .and .i64 x 7:=hb.1
  have hb2:bits .and .i64 x 7≤7:=hb.2
  obtain ⟨m,hm⟩:=Int.eq_ofNat_of_zero_le hb1
  exact ⟨m,hm,by omega⟩
theorem pmw (c m n:Nat) (h:n=c+m) (hb:n≤100000):IntKind.i64.wrap ((c:Int)+(m:Int))=(n:Int):=by rw [IntKind.wrap_i64];omega
theorem pminfo:(Tryd.prog.info? 5).map (fun i=>(i.zero,i.size,i.bytes))=some (some (.int .u8 0),1,1):=by kernel_rfl
theorem pmmake (n:Nat) (h:n≤100000) (W:World):(Instr.makeSlice 78 (.int .i64 (n:Int)) (.int .i64 (n:Int))).run Tryd.prog W= .ok (.slice (some ⟨W.heap.size,0,none⟩) n n) (W.alloc (.cells (Array.replicate n (.int .u8 0)) 5)):=by
  obtain ⟨i,hi,hzz⟩:=Option.map_eq_some_iff.1 pminfo
  simp only [Prod.mk.injEq] at hzz
  obtain ⟨hz,hs,hb⟩:=hzz
  have:=run_make W (P:=Tryd.prog) 78 5 i _ Tryd.underlying78 hi hz .i64 .i64 (n:Int) (n:Int) (by omega) (Int.le_refl _) (by rw [hb];omega) (by omega)
  rw [this]
  have e:madeCells (Value.int .u8 0).cells ((n:Int).toNat*i.size)=Array.replicate n (.int .u8 0):=by
    apply Array.toList_inj.1
    rw [show (Value.int .u8 0).cells= #[.int .u8 0] from rfl,toList_madeCells_one,hs]
    simp
  rw [e]
  simp
structure BlOk (w:World) (b n i:Nat) (wr:World):Prop where
  be:Below w.heap.size w wr
  hb:w.heap.size≤b
  ce:∃cs:Array Value,wr.heap[b]? =some (.cells cs 5 (0,0))∧cs.size=n∧∀j,j<i→cs[j]? =some (.int .u8 32)
theorem BlOk.start {w:World} {n:Nat}:BlOk w w.heap.size n 0 (w.alloc (.cells (Array.replicate n (.int .u8 0)) 5)):=
  ⟨(Below.refl _ _).alloc (Nat.le_refl _) _,Nat.le_refl _,_,heap_alloc_new w _,by simp,fun j h=>by omega⟩
theorem BlOk.lt {w:World} {b n i:Nat} {wr:World} (h:BlOk w b n i wr):b<wr.heap.size:=by
  obtain ⟨cs,h1,_⟩:=h.ce
  exact Go.Proofs.YtjlnpdpkobpkiaaDoor.blk_lt h1
theorem BlOk.cell {w:World} {b n i:Nat} {wr:World} (h:BlOk w b n i wr) (hi:i<n):∃v,wr.cell? ⟨b,i,none⟩=some v∧wr.frozen? ⟨b,i,none⟩=false:=by
  obtain ⟨cs,h1,h2,_⟩:=h.ce
  exact ⟨cs[i],by rw [Go.Proofs.YtjlnpdpkobpkiaaDoor.cell_blk h1,Array.getElem?_eq_getElem (by omega)],Go.Proofs.YtjlnpdpkobpkiaaDoor.frozen_blk h1 i⟩
theorem BlOk.step {w:World} {b n i:Nat} {wr:World} (h:BlOk w b n i wr) (hi:i<n):BlOk w b n (i+1) (wr.setCell ⟨b,i,none⟩ (.int .u8 32)):=by
  obtain ⟨cs,h1,h2,h3⟩:=h.ce
  have hS:Fr (fun k=>k=b) wr (wr.setCell ⟨b,i,none⟩ (.int .u8 32)):=Fr.setCell wr ⟨b,i,none⟩ _
  refine ⟨h.be.trans (hS.below h.be.size (fun k e=>by have:=h.hb;omega)),h.hb,_,Go.Proofs.YtjlnpdpkobpkiaaDoor.blk_set (o:=i) h1 (.int .u8 32),by simp [h2],fun j hj=> ?_⟩
  by_cases e:i=j
  · subst e
    simp [h2,hi]
  · rw [Array.getElem?_setIfInBounds_ne e]
    exact h3 j (by omega)
abbrev blB (n:Nat):ByteArray:=⟨(List.replicate n 32).toArray⟩
theorem BlOk.text {w:World} {b n:Nat} {wr:World} (h:BlOk w b n n wr):(convert 78 9 (.slice (some ⟨b,0,none⟩) n n)).run Tryd.prog wr= .ok (.string (blB n)) wr:=by
  obtain ⟨cs,h1,h2,h3⟩:=h.ce
  have:=run_convert_bytes_back (P:=Tryd.prog) wr 78 9 5 ⟨b,0,none⟩ n (List.replicate n 32) Tryd.underlying78 Tryd.underlying5 Tryd.underlying9 (fun j hj=>by
    rw [List.length_replicate] at hj
    rw [addr_add,Go.Proofs.YtjlnpdpkobpkiaaDoor.cell_blk h1]
    simp only [Nat.zero_add]
    rw [h3 j hj]
    simp)
  rw [List.length_replicate] at this
  exact this
set_option maxHeartbeats 8000000 in
set_option maxRecDepth 100000 in
theorem ParseMany_any {w:World} {rules bytes deep:Int} (hE:ErrT w) (h1: -9223372036854775808≤rules) (h2:rules≤9223372036854775807) (h3: -9223372036854775808≤bytes) (h4:bytes≤9223372036854775807) (h5: -9223372036854775808≤deep) (h6:deep≤9223372036854775807):
    Calls Tryd.prog 6 #[.int .i64 rules,.int .i64 bytes,.int .i64 deep] w (RetB w (.bool true)):=by
  have HE:=hid hE
  clear hE h1 h2 h3 h4 h5 h6
  obtain ⟨m1,hm1,b1⟩:=and7 rules
  obtain ⟨m2,hm2,b2⟩:=and7 bytes
  obtain ⟨m3,hm3,b3⟩:=and7 deep
  obtain ⟨n1,hn1⟩:∃n,n=197+m1:=⟨_,rfl⟩
  obtain ⟨n2,hn2⟩:∃n,n=19996+m2:=⟨_,rfl⟩
  obtain ⟨n3,hn3⟩:∃n,n=17+m3:=⟨_,rfl⟩
  have B1:Hid (197≤n1∧n1≤204):=hid ⟨by omega,by omega⟩
  have B2:Hid (19996≤n2∧n2≤20003):=hid ⟨by omega,by omega⟩
  have B3:Hid (17≤n3∧n3≤24):=hid ⟨by omega,by omega⟩
  have E1:Hid (IntKind.i64.wrap (197+(m1:Int))=(n1:Int)):=hid (pmw 197 m1 n1 hn1 (by omega))
  have E2:Hid (IntKind.i64.wrap (19996+(m2:Int))=(n2:Int)):=hid (pmw 19996 m2 n2 hn2 (by omega))
  have E3:Hid (IntKind.i64.wrap (17+(m3:Int))=(n3:Int)):=hid (pmw 17 m3 n3 hn3 (by omega))
  have M1:=hid hm1
  have M2:=hid hm2
  have M3:=hid hm3
  clear b1 b2 b3 hn1 hn2 hn3 hm1 hm2 hm3
  go_enter Tryd.func6,Tryd.ntmps6
  go_wp2_with fail
  refine (head14_any _).mono ?_
  rintro e w1 ⟨rfl,hb1⟩
  have HB:=hid hb1
  clear hb1
  have e1:=E1.out
  have hm1:=M1.out
  go_upto_region 5 with fail
  clear e1 hm1
  go_wp2_with fail
  go_loopg [8,9] n1 (fun g t8 t9 wr=>∃i:Nat,t8= .string (repB ⟨#[]⟩ ⟨#[112,40,49,41,46]⟩ i)∧t9= .int .i64 (i:Int)∧i≤n1∧n1-i≤g∧wr=w1)
  case atStart=>exact ⟨0,rfl,rfl,by omega,by omega,rfl⟩
  case round=>
    obtain ⟨i,rfl,rfl,hi,hg,hw⟩:=hrel
    subst hw
    have hB1:=B1.out
    by_cases hlt:i<n1
    · have hl' : (i : Int) < (n1 : Int) := by omega
      have hs:¬(repB ⟨#[]⟩ ⟨#[112,40,49,41,46]⟩ i).size+(⟨#[112,40,49,41,46]⟩:ByteArray).size>9223372036854775807:=by
        rw [repB_size]
        show ¬0+i*5+5>9223372036854775807
        omega
      go_wp2
      go_roundg (n1-(i+1))
      case measure=>omega
      case rel=>exact ⟨i+1,rfl,rfl,by omega,Nat.le_refl _,rfl⟩
    · have hl' : ¬ (i : Int) < (n1 : Int) := by omega
      have hie:i=n1:=by omega
      subst hie
      obtain ⟨tx,htx⟩:∃tx,tx=repB ⟨#[]⟩ ⟨#[112,40,49,41,46]⟩ i:=⟨_,rfl⟩
      have hsz:tx.size≤1073741824:=by rw [htx,repB_size];show 0+i*5≤_;omega
      have HTX:Hid (tx.data.toList=rulesL i):=by show _=_;rw [htx,repB_data];rfl
      rw [←htx]
      have HP:=hid (Program_any tx hsz wr)
      rw [HTX.out] at HP
      clear htx hsz hl' hB1
      go_wp2_with fail
      refine HP.out.mono ?_
      intro e w2 hp
      rcases Nat.lt_or_ge 200 i with hn|hn
      focus
        rw [pm_many i hn B1.out.2] at hp
        obtain ⟨f,what,rfl,hf,hb⟩:=hp
        have HB2:=hid (below_step HB.out hb)
        have HOF:=hid (Of_fault (HE.out.below HB2.out) hf)
        have HAT:=hid (fun W (hW:Below w2.heap.size w2 W)=>At_fault (HE.out.below (below_step HB2.out hW)) (hf.below hW))
        have d1:decide ((i:Int)≤200)=false:=decide_eq_false (by omega)
        have d2:decide ((200:Int)<(i:Int))=true:=decide_eq_true (by omega)
        clear hf hb hn
        go_wp2_with fail
        refine HOF.out.mono ?_
        rintro e w3 ⟨rfl,hb3⟩
        have HA2:=hid (HAT.out w3 hb3)
        have HB3:=hid (below_step HB2.out hb3)
        clear hb3 HAT HOF HB2
        go_wp2_with fail
        refine HA2.out.mono ?_
        rintro e w4 ⟨rfl,hb4⟩
        have HW:=hid (below_step HB3.out hb4)
        clear hb4 HA2 HB3
        go_upto_region 12 with fail
        clear d1 d2
      rotate_left
      focus
        obtain ⟨ds,rs,hpr,hln⟩:=pm_few i B1.out.1 hn
        rw [hpr] at hp
        obtain ⟨bo,D,R,cD,cR,rfl,hbo,hk,lD,fD,lR,fR,hb⟩:=hp
        rw [hln] at hk
        obtain ⟨p0,p1,_,_⟩:=blk2 hk
        obtain ⟨w4,rfl⟩:∃x:World,x=w2:=⟨_,rfl⟩
        have HW:=hid (below_step HB.out hb)
        have d1:decide ((i:Int)≤200)=true:=decide_eq_true (by omega)
        have d2:decide ((200:Int)<(i:Int))=false:=decide_eq_false (by omega)
        clear hpr hln hbo hk lD fD lR fR hb p0 hn
        go_upto_region 12 with fail
        clear d1 d2 p1
      all_goals
        have hm2:=M2.out
        have e2:=E2.out
        have hmk:=pmmake n2 (by have:=B2.out;omega)
        go_upto_region 14 with fail
        clear hm2 e2 hmk
        have V0:Hid (BlOk w4 w4.heap.size n2 0 (w4.alloc (.cells (Array.replicate n2 (.int .u8 0)) 5))):=hid BlOk.start
        go_loopg [73] (n2+1) (fun gk t73 wr=>∃j:Nat,t73= .int .i64 (j:Int)∧Hid (j≤n2)∧n2-j<gk∧Hid (BlOk w4 w4.heap.size n2 j wr))
        case atStart=>exact ⟨0,rfl,hid (Nat.zero_le _),by omega,V0⟩
        case round=>
          clear V0
          obtain ⟨j,rfl,HJ,hgj,V⟩:=hrel
          obtain ⟨wi,rfl⟩:∃y:World,y=wr:=⟨_,rfl⟩
          by_cases hj:j<n2
          · have hl' : (j : Int) < (n2 : Int) := by omega
            have HJL:=hid hj
            obtain ⟨ov,c0,f0⟩:=V.out.cell hj
            have V2:=hid (V.out.step hj)
            have hlt:=V.out.lt
            have w1j:IntKind.i64.wrap ((j:Int)+1)=((j+1:Nat):Int):=by have:=B2.out.2;rw [IntKind.wrap_i64];omega
            clear V hj
            go_wp2
            go_roundg (n2-j)
            case measure=>exact hgj
            case rel=>exact ⟨j+1,by first|rfl|(simp;done),hid HJL.out,by have:=HJL.out;omega,V2⟩
          · have hl' : ¬ (j : Int) < (n2 : Int) := by omega
            obtain rfl:j=n2:=by have:=HJ.out;omega
            have hcv:=V.out.text
            have HW2:=hid (below_step HW.out V.out.be)
            have HPB:=hid (fun W=>Program_any (blB j) (by have:=B2.out;simp [ByteArray.size];omega) W)
            have hbl:(blB j).data.toList=List.replicate j 32:=by simp
            rw [hbl] at HPB
            clear hbl V
            go_wp2_with fail
            refine (HPB.out _).mono ?_
            intro e w5 hp
            clear HPB hcv hl' hgj
            rcases Nat.lt_or_ge 20000 j with hn|hn
            focus
              rw [blanks_many j hn] at hp
              obtain ⟨f5,what5,rfl,hf,hb⟩:=hp
              have HB5:=hid (below_step HW2.out hb)
              have HOF:=hid (Of_fault (HE.out.below HB5.out) hf)
              have HAT:=hid (fun W (hW:Below w5.heap.size w5 W)=>At_fault (HE.out.below (below_step HB5.out hW)) (hf.below hW))
              have d1:decide ((j:Int)≤20000)=false:=decide_eq_false (by omega)
              have d2:decide ((20000:Int)<(j:Int))=true:=decide_eq_true (by omega)
              clear hf hb hn
              go_wp2_with fail
              refine HOF.out.mono ?_
              rintro e w6 ⟨rfl,hb3⟩
              have HA2:=hid (HAT.out w6 hb3)
              have HB3:=hid (below_step HB5.out hb3)
              clear hb3 HAT HOF HB5
              go_wp2_with fail
              refine HA2.out.mono ?_
              rintro e w7 ⟨rfl,hb4⟩
              have HW7:=hid (below_step HB3.out hb4)
              clear hb4 HA2 HB3
              go_upto_region 21 with fail
              clear d1 d2
            rotate_left
            focus
              rw [blanks_few j hn] at hp
              obtain ⟨bo,D,R,cD,cR,rfl,hbo,hk,lD,fD,lR,fR,hb⟩:=hp
              obtain ⟨p0,p1,_,_⟩:=blk2 hk
              obtain ⟨w7,rfl⟩:∃x:World,x=w5:=⟨_,rfl⟩
              have HW7:=hid (below_step HW2.out hb)
              have d1:decide ((j:Int)≤20000)=true:=decide_eq_true (by omega)
              have d2:decide ((20000:Int)<(j:Int))=false:=decide_eq_false (by omega)
              clear hbo hk lD fD lR fR hb p0 hn
              go_upto_region 21 with fail
              clear d1 d2 p1
            all_goals
              have hm3:=M3.out
              have e3:=E3.out
              go_upto_region 23 with fail
              clear hm3 e3
              go_wp2_with fail
              go_loopg [17,18] n3 (fun gk t17 t18 w8=>∃k:Nat,t17= .string (parB k)∧t18= .int .i64 (k:Int)∧k≤n3∧n3-k≤gk∧w8=w7)
              case atStart=>exact ⟨0,rfl,rfl,by omega,by omega,rfl⟩
              case round=>
                obtain ⟨k,rfl,rfl,hk,hgk,hw8⟩:=hrel
                subst hw8
                have hB3:=B3.out
                by_cases hlk:k<n3
                · have hl' : (k : Int) < (n3 : Int) := by omega
                  have hs1:¬(⟨#[40]⟩:ByteArray).size+(parB k).size>9223372036854775807:=by
                    rw [parB_size]
                    show ¬1+(1+k*2)>9223372036854775807
                    omega
                  have hs2:¬(⟨#[40]⟩++parB k:ByteArray).size+(⟨#[41]⟩:ByteArray).size>9223372036854775807:=by
                    rw [ByteArray.size_append,parB_size]
                    show ¬1+(1+k*2)+1>9223372036854775807
                    omega
                  go_wp2
                  go_roundg (n3-(k+1))
                  case measure=>omega
                  case rel=>exact ⟨k+1,rfl,rfl,by omega,Nat.le_refl _,rfl⟩
                · have hl' : ¬ (k : Int) < (n3 : Int) := by omega
                  obtain rfl:k=n3:=by omega
                  have hpz:=parB_size k
                  have hpd:=parB_data k
                  obtain ⟨px,hpx⟩:∃px,px=parB k:=⟨_,rfl⟩
                  rw [←hpx] at hpz hpd ⊢
                  have hs1:¬(⟨#[112,40,88,41,32,58,45,32,88,32,58,61,32]⟩:ByteArray).size+px.size>9223372036854775807:=by
                    rw [hpz]
                    show ¬13+(1+k*2)>9223372036854775807
                    omega
                  have hs2:¬(⟨#[112,40,88,41,32,58,45,32,88,32,58,61,32]⟩++px:ByteArray).size+(⟨#[46]⟩:ByteArray).size>9223372036854775807:=by
                    rw [ByteArray.size_append,hpz]
                    show ¬13+(1+k*2)+1>9223372036854775807
                    omega
                  have hsz:(⟨#[112,40,88,41,32,58,45,32,88,32,58,61,32]⟩++px++⟨#[46]⟩:ByteArray).size≤1073741824:=by
                    rw [ByteArray.size_append,ByteArray.size_append,hpz]
                    show 13+(1+k*2)+1≤_
                    omega
                  have HP3:=hid (fun W=>Program_any (⟨#[112,40,88,41,32,58,45,32,88,32,58,61,32]⟩++px++⟨#[46]⟩) hsz W)
                  have htx:(⟨#[112,40,88,41,32,58,45,32,88,32,58,61,32]⟩++px++⟨#[46]⟩:ByteArray).data.toList=deepN k:=by
                    rw [ByteArray.data_append,Array.toList_append,ByteArray.data_append,Array.toList_append,hpd]
                    rfl
                  rw [htx] at HP3
                  clear htx hsz hpd hpz hpx hl' hgk
                  go_wp2_with fail
                  refine (HP3.out _).mono ?_
                  intro e w9 hp
                  clear HP3
                  rcases Nat.lt_or_ge 20 k with hn|hn
                  · rw [pd_many k hn hB3.2] at hp
                    obtain ⟨f9,what9,rfl,hf,hb⟩:=hp
                    have HB5:=hid (below_step HW7.out hb)
                    have HOF:=hid (Of_fault (HE.out.below HB5.out) hf)
                    have HAT:=hid (fun W (hW:Below w9.heap.size w9 W)=>At_fault (HE.out.below (below_step HB5.out hW)) (hf.below hW))
                    have d1:decide ((k:Int)≤20)=false:=decide_eq_false (by omega)
                    clear hf hb hn hB3
                    go_wp2_with fail
                    refine HOF.out.mono ?_
                    rintro e w6 ⟨rfl,hb3⟩
                    have HA2:=hid (HAT.out w6 hb3)
                    have HB3:=hid (below_step HB5.out hb3)
                    clear hb3 HAT HOF HB5
                    go_wp2_with fail
                    refine HA2.out.mono ?_
                    rintro e w7 ⟨rfl,hb4⟩
                    have HW9:=hid (below_step HB3.out hb4)
                    clear hb4 HA2 HB3
                    go_wp2
                    go_ret
                    exact ⟨rfl,HW9.out⟩
                  · obtain ⟨ds, rs, hpr⟩ := pd_few k hB3.1 hn
                    rw [hpr] at hp
                    obtain ⟨bo,D,R,cD,cR,rfl,hbo,hk,lD,fD,lR,fR,hb⟩:=hp
                    have HW9:=hid (below_step HW7.out hb)
                    have d1:decide ((k:Int)≤20)=true:=decide_eq_true (by omega)
                    clear hpr hbo hk lD fD lR fR hb hn hB3
                    go_wp2
                    go_ret
                    exact ⟨rfl,HW9.out⟩
end Go.Proofs.YtjlnpdpkobpkiaaDoorPSP
/- As many rules, bytes and parentheses as may be are read, and more are a fault of the tag and at the place that are told: for any three numbers. No condition but those of the card. -/
namespace Go.Proofs.YtjlnpdpkobpkiaaDoor.lawParseMany
open Go Go.ChangeShapes Go.WideShapes Go.ChangeAt Go.RowKit
open Go.ChangeMaps (open_string shut_string)
set_option linter.unusedVariables false
set_option maxRecDepth 100000 in
theorem lifted (os:Os) (started:os.Started) (H:Type) (enc:TypeId×Value→H):
    ReturnsInHanded {} Tryd.checked os 6 .any (fun w args=>(Rows.parseManySpec.pre enc Tryd.prog Tryd.f6 [] false w args∧laidMetH Tryd.prog laidErr w)∧sizedMet enc Tryd.prog Tryd.f6 (OpenSpec.ofChange Rows.parseManySpec) false w args)
      (Rows.parseManySpec.post enc Tryd.prog Tryd.f6 false true false false):=by
  refine returnsInHanded_of_change_and (C := Tryd.checked) (X := fun w _ => laidMetH Tryd.prog laidErr w) (fun _ _ _ hh h => h.of_heap hh) own started (by kernel_rfl) Tryd.func6
    (ChangeSpec.witness_at (enc:=enc) (C:=Tryd.checked) (os:=os) (X:=fun w _=>laidMetH Tryd.prog laidErr w) false (laidWorld os) #[.int .i64 0,.int .i64 0,.int .i64 0] 8 rfl (by kernel_rfl) (by kernel_rfl) (by kernel_rfl) (by kernel_rfl) (by kernel_rfl) (laidWorld_met os _)) ?_
  intro W base args ds gs before hval0 hW _ _ hL _
  have hval:∀(j:Nat) t v,Tryd.f6.params[j]? =some t→args[j]? =some v→Value.okWide Tryd.prog W .any base t v:=hval0
  have hW':=hW
  obtain ⟨p,q,hA0,hV,rfl,hfz,hnd⟩:=hW
  have hA:DataW.TrodAll enc Tryd.prog W 0 (fun _=>true) true Tryd.f6.params.toList args.toList ds p:=hA0
  rw [Tryd.params6] at hA hval
  obtain ⟨v0,vs0,d0,ds0,p0,q0,hargs,rfl,rfl,h0,r0⟩:=trodAll_cons hA
  obtain ⟨v1,vs1,d1,ds1,p1,q1,rfl,rfl,rfl,h1,r1⟩:=trodAll_cons r0
  obtain ⟨v2,vs2,d2,ds2,p2,q2,rfl,rfl,rfl,h2,r2⟩:=trodAll_cons r1
  obtain ⟨rfl,rfl,rfl⟩:=trodAll_nil r2
  obtain rfl:args= #[v0,v1,v2]:=by cases args;simp_all
  obtain ⟨rfl,rfl⟩:=trodVars_none hV
  obtain ⟨a0,rfl,rfl,rfl,w0⟩:=open_int Tryd.underlying3 (hval 0 3 v0 rfl rfl) h0
  have b0:=bounds_i64 w0
  obtain ⟨a1,rfl,rfl,rfl,w1⟩:=open_int Tryd.underlying3 (hval 1 3 v1 rfl rfl) h1
  have b1:=bounds_i64 w1
  obtain ⟨a2,rfl,rfl,rfl,w2⟩:=open_int Tryd.underlying3 (hval 2 3 v2 rfl rfl) h2
  have b2:=bounds_i64 w2
  clear hA0 hval0
  refine (Go.Proofs.YtjlnpdpkobpkiaaDoorPSP.ParseMany_any (errT_of_laid hL) b0.1 b0.2 b1.1 b1.2 b2.1 b2.2).mono fun e W' ⟨he,bel⟩=> ?_
  subst he
  exact ⟨_,rfl,_,_,_,[],_,[],hW',trodAll_mk1 (shut_bool Tryd.underlying4 _),(trodAll_cons_mk (shut_int Tryd.underlying3 w0) (trodAll_cons_mk (shut_int Tryd.underlying3 w1) (trodAll_cons_mk (shut_int Tryd.underlying3 w2) trodAll_mk0))),rfl,bel.frame _,fun h=>by cases h⟩
theorem over:Rows.parseManyRow.holds Tryd.pinned (OpenSpec.ofChange Rows.parseManySpec):=
  OpenClaim.holds_of_wide 6 Tryd.f6 rfl rfl rfl rfl rfl rfl rfl ⟨rfl, rfl, rfl, rfl, rfl⟩ rfl rfl rfl rfl rfl (by kernel_rfl) Tryd.func6 (by kernel_rfl)
    (of_decide_eq_true (by kernel_rfl)) (by unfold Func.isWrapper;first|(rw [if_pos (by decide +kernel)];kernel_rfl)|(rw [if_neg (by decide +kernel)];exact ⟨rfl,rfl⟩))
    (fun os started H enc _=>lifted os started H enc)
theorem proved:Rows.ParseManyCardSaid:=
  Claim7.holds_tied_plain_at .later [] [.handle] true (true,"9257455a6aee17f711a4c81afb4f7658fdf78ba957504386e3692b068462cc77") true
    over (fun _ h=>by cases h) (by kernel_rfl) (fun _ h=>by cases h) parseMany_row_tie rfl ⟨rfl,rfl⟩ (by kernel_rfl) rfl
    (fun f fn hf hfn=>by
      obtain rfl:f=6:=Option.some.inj ((show Tryd.prog.funcNamed "ergo/ergolaw14.ParseMany"=some 6 by kernel_rfl).symm.trans hf) |>.symm
      obtain rfl:fn=Tryd.f6:=(Option.some.inj (Tryd.func6.symm.trans hfn)).symm
      exact ⟨by kernel_rfl,fun j t ht=>by
        rw [Tryd.params6] at ht
        have hs:t=3:=by
          rcases j with _|j
          · (simp at ht;subst ht;simp)
          rcases j with _|j
          · (simp at ht;subst ht;simp)
          rcases j with _|j
          · (simp at ht;subst ht;simp)
          · simp at ht
        subst hs
        exact (show Tryd.prog.wantsStandIn 3=false by kernel_rfl)⟩)
    (by kernel_rfl)
end Go.Proofs.YtjlnpdpkobpkiaaDoor.lawParseMany
