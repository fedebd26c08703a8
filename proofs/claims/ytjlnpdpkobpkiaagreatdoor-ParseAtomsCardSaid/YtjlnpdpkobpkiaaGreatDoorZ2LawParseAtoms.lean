import Derived.Test.YtjlnpdpkobpkiaaGreatDoorZ2AtL
import Derived.Test.YtjlnpdpkobpkiaaGreatDoorZ2Hd14
import Derived.Test.YtjlnpdpkobpkiaaGreatDoorZ2Fault
import Derived.Test.YtjlnpdpkobpkiaaGreatDoorZ2OpS
import Derived.Test.YtjlnpdpkobpkiaaGreatDoorZ2TiedT
import Derived.ChangeAt
import Derived.ProofKit
import Derived.OpenShut
import Derived.ShutString
import Derived.ChangeOld
set_option linter.unusedVariables false
set_option linter.unusedSimpArgs false
namespace Go.Proofs.YtjlnpdpkobpkiaaGreatDoorPSP
open Go.RowKit Go.Extern.Stop Go.Stop Go.Extern Go.Proofs.YtjlnpdpkobpkiaaGreatDoorW.PrintWords Go.Proofs.YtjlnpdpkobpkiaaGreatDoor
theorem and3 (x:Int):∃m:Nat,bits .and .i64 x 3=(m:Int)∧m≤3:=by
  have hb:=and_le x 3 (by decide)
  have hb1:0≤bits .and .i64 x 3:=hb.1
  have hb2:bits .and .i64 x 3≤3:=hb.2
  obtain ⟨m,hm⟩:=Int.eq_ofNat_of_zero_le hb1
  exact ⟨m,hm,by omega⟩
set_option maxHeartbeats 8000000 in
set_option maxRecDepth 100000 in
theorem ParseAtoms_any {w:World} (hG:TabT w) (hE:ErrT w) (pr more:Int) (al:List S89) (hal:∀t∈al,Mk.TN t) {A:Option Addr} {c:Nat} (kA:Kd.C k89 w A al.length al) (lA:al.length≤c):
    Calls Tryz.prog 5 #[.agg #[.int .i64 pr,.slice A al.length c],.int .i64 more] w (RetB w (.bool true)):=by
  have HG:=hid hG
  have HE:=hid hE
  have HA:=hid kA
  have LA:=hid lA
  have HN:=hid hal
  obtain ⟨m,hm,hm3⟩:=and3 more
  have HM:=hid hm
  have HM3:=hid hm3
  obtain ⟨n,hn⟩:∃n,n=al.length:=⟨_,rfl⟩
  have HL:=hid hn
  rw [←hn] at HA LA ⊢
  clear hG hE kA lA hal hm hm3 hn
  have X0:Hid (Below w.heap.size w (w.alloc (.cells #[.int .i64 pr,.slice A n c] 24))):=hid ((Below.refl _ _).alloc (Nat.le_refl _) _)
  have K0:Hid ((w.alloc (.cells #[.int .i64 pr,.slice A n c] 24)).heap[w.heap.size]? =some (.cells #[.int .i64 pr,.slice A n c] 24 (0,0))):=hid (heap_alloc_new w _)
  go_enter Tryz.func5,Tryz.ntmps5
  go_wp2_with fail
  refine (head14_any _).mono ?_
  rintro e w1 ⟨rfl,hb⟩
  have X1:=hid (below_step X0.out hb)
  have K1:=hid (blk_below K0.out hb)
  clear hb X0 K0
  have c0:w1.cell? ⟨w.heap.size,0,none⟩=some (.int .i64 pr):=(blk_cell K1.out 0).trans rfl
  have c1:w1.cell? ⟨w.heap.size,1,none⟩=some (.slice A n c):=(blk_cell K1.out 1).trans rfl
  by_cases h8:8<n
  · have hd : decide ((8 : Int) < (n : Int)) = true := decide_eq_true (by omega)
    have hd2:(8:Int)<(n:Int):=by omega
    go_wp2
    go_ret
    exact ⟨rfl,X1.out⟩
  have hd:decide ((8:Int)<(n:Int))=false:=decide_eq_false (by omega)
  have hd2:¬(8:Int)<(n:Int):=by omega
  obtain ⟨x,xs,hargs,hxl⟩:=args_cons al
  have hn8:xs.length+1≤8:=by have:=args_le al (by rw [←HL.out];omega);rw [hargs] at this;simpa using this
  have hok:∀t∈x::xs,TOk2 t:=by rw [←hargs];exact tok2_args HN.out
  obtain ⟨p,hp⟩:∃p,p=Mk.predS pr:=⟨_,rfl⟩
  have hpm:p∈predL:=by rw [hp];exact pred_mem pr
  have HAt:=hid (fun Y (hY:Below w.heap.size w Y)=>ergolaw13_A_Atom.calls 20000 pr A c al (bytesL p) (x::xs) Y (by have:=Kd.C_below HA.out hY;rw [HL.out] at this;exact this) (by rw [←HL.out];exact LA.out) (by rw [hp,←hargs];exact Mk.A_is pr al (by rw [←HL.out];omega) 20000 (by omega)))
  rw [←HL.out] at HAt
  have HOK:=hid hok
  have HPM:=hid hpm
  have HN8:=hid hn8
  clear h8 hargs hxl hn8 hok hp hpm
  go_wp2_with fail
  refine (HAt.out _ X1.out).mono ?_
  rintro e w2 ⟨v1,rfl,hR,hb⟩
  have X2:=hid (below_step X1.out hb)
  obtain ⟨D,nd,d,rfl⟩:∃D nd d,v1= .slice D nd d:=let ⟨D,d,e⟩:=Kd.R_slice hR;⟨D,_,d,e⟩
  obtain ⟨e1,e2,e3⟩:=Kd.R_reads' hR
  have HD:=hid e3
  have HDL:Hid (nd≤d):=hid e2
  have HND:Hid (nd=(x::xs).length):=hid e1
  obtain ⟨pb,hpb⟩:∃pb,pb=bytesL p:=⟨_,rfl⟩
  rw [←hpb]
  have HPB:=hid hpb
  clear hb hR e1 e2 e3 c0 c1 hd hd2 HAt X1 K1 hpb
  obtain ⟨W5,hW5⟩:∃W,W=w2.alloc (.cells #[.string pb,.slice D nd d] 33):=⟨_,rfl⟩
  have X5:Hid (Below w.heap.size w W5):=hid (by rw [hW5];exact below_alloc X2.out _)
  have K5:Hid (W5.heap[w2.heap.size]? =some (.cells #[.string pb,.slice D nd d] 33 (0,0))):=hid (by rw [hW5];exact heap_alloc_new w2 _)
  have HD5:Hid (Kd.C k98 W5 D (x::xs).length (x::xs)):=hid (by rw [hW5];exact Kd.C_alloc HD.out _)
  have HSt:=hid (AtomStr_any pb (x::xs) HOK.out (by have:=HN8.out;simp;omega) (fun t ht=>text_len (HOK.out t ht)) (by rw [HPB.out];have:=(pred_in HPM.out).2.2;show (List.toArray p).size≤_;rw [List.size_toArray];omega) (tab_below HG.out X5.out) (c:=d) HD5.out (by rw [←HND.out];exact HDL.out))
  rw [←HND.out] at HSt HD5
  obtain ⟨T,hT⟩:∃T,T=pb++⟨#[40]⟩++bytesL (Lib.join ((x::xs).map textT) [44])++⟨#[41]⟩:=⟨_,rfl⟩
  have hTd:T.data.toList=atomL p x xs:=by rw [hT,HPB.out];exact text_of p x xs
  rw [←hT] at HSt
  have HTd:=hid hTd
  clear hT hTd
  go_upto_region 6 with fail
  rw [←hW5]
  generalize w2.heap.size=b5 at K5 ⊢
  have c0:W5.cell? ⟨b5,0,none⟩=some (.string pb):=(blk_cell K5.out 0).trans rfl
  have c1:W5.cell? ⟨b5,1,none⟩=some (.slice D nd d):=(blk_cell K5.out 1).trans rfl
  clear hW5
  go_wp2_with fail
  refine HSt.out.mono ?_
  rintro e w6 ⟨rfl,hb⟩
  have X6:=hid (below_step X5.out hb)
  have K6:=hid (blk_below K5.out hb)
  have HD6:=hid (Kd.C_below HD5.out hb)
  clear hb c0 c1 HSt X5 K5 HD5 X2 HD
  have hTl:T.size≤2000:=by
    have:=atomL_len HPM.out (HOK.out x List.mem_cons_self) (fun t ht=>HOK.out t (List.mem_cons_of_mem _ ht)) (by have:=HN8.out;omega)
    rw [←HTd.out,Array.length_toList] at this
    exact this
  have HTl:=hid hTl
  have HAt:=hid (Atom_top T (by omega) w6)
  rw [HTd.out] at HAt
  clear hTl
  go_wp2_with fail
  refine HAt.out.mono ?_
  intro e w7 hp
  clear HAt
  have hx:=HOK.out x List.mem_cons_self
  have hxs:=fun t ht=>HOK.out t (List.mem_cons_of_mem x ht)
  have hnd:nd=xs.length+1:=by rw [HND.out];rfl
  by_cases h6:6<xs.length+1
  · as_aux_lemma=>
      obtain ⟨q,hq⟩:=top_many HPM.out hx hxs h6 (by have:=HN8.out;omega)
      rw [hq] at hp
      obtain ⟨f,what,rfl,hF,hb⟩:=hp
      have X7:=hid (below_step X6.out hb)
      have K7:=hid (blk_below K6.out hb)
      obtain ⟨W,hW⟩:∃W,W=w7.alloc (.cells #[.string ⟨#[]⟩,.slice none 0 0] 33):=⟨_,rfl⟩
      have XW:Hid (Below w.heap.size w W):=hid (by rw [hW];exact below_alloc X7.out _)
      have KW:Hid (W.heap[b5]? =some (.cells #[.string pb,.slice D nd d] 33 (0,0))):=hid (by rw [hW];exact blk_alloc K7.out _)
      have KN:Hid (W.heap[w7.heap.size]? =some (.cells #[.string ⟨#[]⟩,.slice none 0 0] 33 (0,0))):=hid (by rw [hW];exact heap_alloc_new w7 _)
      have HOF:=hid (Of_fault (HE.out.below XW.out) (show FaultAt W f _ _ _ _ by rw [hW];exact (Lib.alloc_old _ _ f (Go.Proofs.YtjlnpdpkobpkiaaGreatDoor.blk_lt hF)).trans hF))
      have hg:decide ((6:Int)<(nd:Int))=true:=decide_eq_true (by omega)
      have hg2:(6:Int)<(nd:Int):=by omega
      clear hq hF hb X6 K6 HD6 hx hxs hnd h6
      go_upto_region 8 with fail
      rw [←hW]
      generalize w7.heap.size=b7 at KN ⊢
      have c1:W.cell? ⟨b5,1,none⟩=some (.slice D nd d):=(blk_cell KW.out 1).trans rfl
      clear hW
      go_wp2_with fail
      refine HOF.out.mono ?_
      rintro e w8 ⟨rfl,hb8⟩
      have XF:=hid (below_step XW.out hb8)
      have c2:w8.cell? ⟨b7,0,none⟩=some (.string ⟨#[]⟩):=(blk_cell (blk_below KN.out hb8) 0).trans rfl
      have c3:w8.cell? ⟨b7,1,none⟩=some (.slice none 0 0):=(blk_cell (blk_below KN.out hb8) 1).trans rfl
      clear hb8 c1
      go_wp2
      go_ret
      exact ⟨rfl,XF.out⟩
  · as_aux_lemma=>
      have h6':xs.length+1≤6:=by omega
      rw [top_ok HPM.out hx hxs h6'] at hp
      obtain ⟨B,b,rfl,hbl,hC,hb⟩:=hp
      have X7:=hid (below_step X6.out hb)
      have K7:=hid (blk_below K6.out hb)
      have HD7:=hid (Kd.C_below HD6.out hb)
      have hpbL:bL p=pb:=HPB.out.symm
      have hBl:(mkA p (x::xs)).f1.length=nd:=by rw [hnd];rfl
      have hBx:(mkA p (x::xs)).f1=x::xs:=rfl
      have hBp:(mkA p (x::xs)).f0=pb:=hpbL
      rw [hBl] at hbl hC
      rw [hBx] at hC
      rw [hBl,hBp]
      obtain ⟨W,hW⟩:∃W,W=w7.alloc (.cells #[.string pb,.slice B nd b] 33):=⟨_,rfl⟩
      have XW:Hid (Below w.heap.size w W):=hid (by rw [hW];exact below_alloc X7.out _)
      have KW:Hid (W.heap[b5]? =some (.cells #[.string pb,.slice D nd d] 33 (0,0))):=hid (by rw [hW];exact blk_alloc K7.out _)
      have KN:Hid (W.heap[w7.heap.size]? =some (.cells #[.string pb,.slice B nd b] 33 (0,0))):=hid (by rw [hW];exact heap_alloc_new w7 _)
      have CD:Hid (Kd.C k98 W D nd (x::xs)):=hid (by rw [hW];exact Kd.C_alloc HD7.out _)
      have CB:Hid (Kd.C k98 W B nd (x::xs)):=hid (by rw [hW];exact Kd.C_alloc hC _)
      have HBL:=hid hbl
      have hg:decide ((6:Int)<(nd:Int))=false:=decide_eq_false (by omega)
      have hg2:¬(6:Int)<(nd:Int):=by omega
      have HTS:=hid (fun (r:List UInt8) (hr:r∈sfxL) Y=>Atom_top (T++bytesL r) (by have h1:=HTl.out;obtain ⟨_,_,_,_,_,_,h2⟩:=sfx_lex hr;rw [ByteArray.size_append];show T.size+(List.toArray r).size≤_;rw [List.size_toArray];omega) Y)
      have HTP:=hid (fun (r:List UInt8) (hr:r∈sfxL)=>show topP (T++bytesL r).data.toList= .error (1,T.size+r.length-1) by
        rw [ByteArray.data_append,Array.toList_append,HTd.out]
        have:=top_sfx HPM.out hx hxs h6' hr
        rw [←HTd.out,Array.length_toList] at this
        rw [HTd.out] at this
        exact this)
      have HSA:=hid (sameAtom_ia pb (x::xs) (by have:=HN8.out;simp;omega))
      clear hbl hC hb X6 K6 HD6 hx hxs hnd h6 h6' hpbL hBl hBx hBp X7 K7 HD7
      go_upto_region 8 with fail
      rw [←hW]
      generalize w7.heap.size=b7 at KN ⊢
      have c1:W.cell? ⟨b5,1,none⟩=some (.slice D nd d):=(blk_cell KW.out 1).trans rfl
      clear hW
      go_upto_region 10 with fail
      clear c1 hg hg2
      have hT2:=HTl.out
      have hM:=HM.out
      have hs1:¬T.size+(⟨#[46]⟩:ByteArray).size>9223372036854775807:=by show ¬T.size+1>_;omega
      have hs2:¬T.size+(⟨#[32,112]⟩:ByteArray).size>9223372036854775807:=by show ¬T.size+2>_;omega
      have hs3:¬T.size+(⟨#[41]⟩:ByteArray).size>9223372036854775807:=by show ¬T.size+1>_;omega
      have hs4:¬T.size+(⟨#[44]⟩:ByteArray).size>9223372036854775807:=by show ¬T.size+1>_;omega
      have hm4:m=0∨m=1∨m=2∨m=3:=by have:=HM3.out;omega
      rcases hm4 with rfl|rfl|rfl|rfl
      focus
        go_wp2_with fail
        refine (HTS.out [46] (by decide) _).mono ?_
        intro e w8 hp
        rw [HTP.out [46] (by decide),show T.size+([46]:List UInt8).length-1=T.size from by simp] at hp
      rotate_left
      focus
        go_wp2_with fail
        refine (HTS.out [32,112] (by decide) _).mono ?_
        intro e w8 hp
        rw [HTP.out [32,112] (by decide),show T.size+([32,112]:List UInt8).length-1=T.size+1 from by simp] at hp
      rotate_left
      focus
        go_wp2_with fail
        refine (HTS.out [41] (by decide) _).mono ?_
        intro e w8 hp
        rw [HTP.out [41] (by decide),show T.size+([41]:List UInt8).length-1=T.size from by simp] at hp
      rotate_left
      focus
        go_wp2_with fail
        refine (HTS.out [44] (by decide) _).mono ?_
        intro e w8 hp
        rw [HTP.out [44] (by decide),show T.size+([44]:List UInt8).length-1=T.size from by simp] at hp
      all_goals
        obtain ⟨f,what,rfl,hF,hb⟩:=hp
        have X8:=hid (below_step XW.out (below_step (below_alloc (Below.refl _ _) _) hb))
        have K8:=hid (blk_below (blk_alloc KW.out _) hb)
        have N8:=hid (blk_below (blk_alloc KN.out _) hb)
        have CD8:=hid (Kd.C_below (Kd.C_alloc CD.out _) hb)
        have CB8:=hid (Kd.C_below (Kd.C_alloc CB.out _) hb)
        have HF8:=hid hF
        clear hF hb hs1 hs2 hs3 hs4 HTS HTP
        obtain ⟨U,hU⟩:∃W,W=w8.alloc (.cells #[.string ⟨#[]⟩,.slice none 0 0] 33):=⟨_,rfl⟩
        have XU:Hid (Below w.heap.size w U):=hid (by rw [hU];exact below_alloc X8.out _)
        have KU:Hid (U.heap[b5]? =some (.cells #[.string pb,.slice D nd d] 33 (0,0))):=hid (by rw [hU];exact blk_alloc K8.out _)
        have NU:Hid (U.heap[b7]? =some (.cells #[.string pb,.slice B nd b] 33 (0,0))):=hid (by rw [hU];exact blk_alloc N8.out _)
        have ZU:Hid (U.heap[w8.heap.size]? =some (.cells #[.string ⟨#[]⟩,.slice none 0 0] 33 (0,0))):=hid (by rw [hU];exact heap_alloc_new w8 _)
        have CDU:=hid (show Kd.C k98 U D nd (x::xs) by rw [hU];exact Kd.C_alloc CD8.out _)
        have CBU:=hid (show Kd.C k98 U B nd (x::xs) by rw [hU];exact Kd.C_alloc CB8.out _)
        have HFU:=hid (show FaultAt U f _ _ _ _ by rw [hU];exact (Lib.alloc_old _ _ f (Go.Proofs.YtjlnpdpkobpkiaaGreatDoor.blk_lt HF8.out)).trans HF8.out)
        have hw:IntKind.i64.wrap ((T.size:Int)+1)=((T.size+1:Nat):Int):=by rw [IntKind.wrap_i64];omega
        go_upto_region 11 with fail
        rw [←hU]
        generalize w8.heap.size=b9 at ZU ⊢
        have a0:U.cell? ⟨b5,0,none⟩=some (.string pb):=(blk_cell KU.out 0).trans rfl
        have a1:U.cell? ⟨b5,1,none⟩=some (.slice D nd d):=(blk_cell KU.out 1).trans rfl
        have n0:U.cell? ⟨b7,0,none⟩=some (.string pb):=(blk_cell NU.out 0).trans rfl
        have n1:U.cell? ⟨b7,1,none⟩=some (.slice B nd b):=(blk_cell NU.out 1).trans rfl
        have HSm:=hid (ergolaw14_SameAtom.calls 1001 pb B b (x::xs) pb D d (x::xs) true U (by have:=CBU.out;rw [HND.out] at this;exact this) (by rw [←HND.out];exact HBL.out) (by have:=CDU.out;rw [HND.out] at this;exact this) (by rw [←HND.out];exact HDL.out) HSA.out)
        rw [←HND.out] at HSm
        clear hU hT2
        go_wp2_with fail
        refine HSm.out.mono ?_
        rintro e w9 ⟨rfl,hb9⟩
        have X9:=hid (below_step XU.out hb9)
        have HF9:=hid (HFU.out.below hb9)
        have Z9:=hid (blk_below ZU.out hb9)
        have HOF:=hid (Of_fault (HE.out.below X9.out) HF9.out)
        clear hb9 a0 a1 n0 n1 HSm hw hM
        go_wp2_with fail
        refine HOF.out.mono ?_
        rintro e w10 ⟨rfl,hb9⟩
        have X10:=hid (below_step X9.out hb9)
        have HF10:=hid (HF9.out.below hb9)
        have Z10:=hid (blk_below Z9.out hb9)
        have HAT:=hid (At_fault (HE.out.below X10.out) HF10.out)
        clear hb9 HOF
        go_wp2_with fail
        refine HAT.out.mono ?_
        rintro e w11 ⟨rfl,hb9⟩
        have X11:=hid (below_step X10.out hb9)
        have z0:w11.cell? ⟨b9,0,none⟩=some (.string ⟨#[]⟩):=(blk_cell (blk_below Z10.out hb9) 0).trans rfl
        have z1:w11.cell? ⟨b9,1,none⟩=some (.slice none 0 0):=(blk_cell (blk_below Z10.out hb9) 1).trans rfl
        clear hb9 HAT
        go_wp2
        go_ret
        exact ⟨rfl,X11.out⟩
end Go.Proofs.YtjlnpdpkobpkiaaGreatDoorPSP
set_option linter.unusedVariables false
namespace Go.Proofs.YtjlnpdpkobpkiaaGreatDoor
open Go Go.Deep Go.ChangeShapes Go.WideShapes Go.RowKit Go.Proofs.YtjlnpdpkobpkiaaGreatDoorPSP Go.Proofs.YtjlnpdpkobpkiaaGreatDoorW.PrintWords
theorem opensA {n:Nat}:OpensAt Tryz.prog n 24 Mk.RA (fun x=>∀t∈x.2,Mk.TN t):=Mk.opens46
abbrev zeroA:Value:= .agg #[.int .i64 0,.slice none 0 0]
theorem ParseAtoms_row {w:World} (hG:TabT w) (hE:ErrT w) {r:Int×List S89} {c0:Array Value} (R0:Mk.RA w r c0.toList) (o0:∀t∈r.2,Mk.TN t) {more:Int} (h1: -9223372036854775808≤more) (h2:more≤9223372036854775807):
    Calls Tryz.prog 5 #[.agg c0,.int .i64 more] w (RetB w (.bool true)):=by
  obtain ⟨A,c,h,hl,hC⟩:=R0
  obtain rfl:c0=_:=by rw [←Array.toArray_toList (xs:=c0),h]
  exact ParseAtoms_any hG hE r.1 more r.2 o0 hC hl
end Go.Proofs.YtjlnpdpkobpkiaaGreatDoor
/- For any atom that is made: its text is read as that atom, and what may not stand behind it is a fault at its place. No condition but those of the card. -/
namespace Go.Proofs.YtjlnpdpkobpkiaaGreatDoor.lawParseAtoms
open Go Go.ChangeShapes Go.WideShapes Go.ChangeAt Go.RowKit
open Go.ChangeMaps (open_string shut_string)
set_option linter.unusedVariables false
set_option maxRecDepth 100000 in
theorem lifted (os:Os) (started:os.Started) (H:Type) (enc:TypeId×Value→H):
    ReturnsInHanded {} Tryz.checked os 5 .any (fun w args=>(Rows.parseAtomsSpec.pre enc Tryz.prog Tryz.f5 [] false w args∧laidMetH Tryz.prog laidAll w)∧sizedMet enc Tryz.prog Tryz.f5 (OpenSpec.ofChange Rows.parseAtomsSpec) false w args)
      (Rows.parseAtomsSpec.post enc Tryz.prog Tryz.f5 false true false false):=by
  refine returnsInHanded_of_change_and (C := Tryz.checked) (X := fun w _ => laidMetH Tryz.prog laidAll w) (fun _ _ _ hh h => h.of_heap hh) tied.own started (by kernel_rfl) Tryz.func5
    (ChangeSpec.witness_at (enc:=enc) (C:=Tryz.checked) (os:=os) (X:=fun w _=>laidMetH Tryz.prog laidAll w) false (laidWorldT os) #[zeroA,.int .i64 0] 8 rfl (by kernel_rfl) (by kernel_rfl) (by kernel_rfl) (by kernel_rfl) (by kernel_rfl) (laidA_met os _)) ?_
  intro W base args ds gs before hval0 hW _ _ hL _
  have hval:∀(j:Nat) t v,Tryz.f5.params[j]? =some t→args[j]? =some v→Value.okWide Tryz.prog W .any base t v:=hval0
  have hW':=hW
  obtain ⟨p,q,hA0,hV,rfl,hfz,hnd⟩:=hW
  have hA:DataW.TrodAll enc Tryz.prog W 0 (fun _=>true) true Tryz.f5.params.toList args.toList ds p:=hA0
  rw [Tryz.params5] at hA hval
  obtain ⟨v0,vs0,d0,ds0,p0,q0,hargs,rfl,rfl,h0,r0⟩:=trodAll_cons hA
  obtain ⟨v1,vs1,d1,ds1,p1,q1,rfl,rfl,rfl,h1,r1⟩:=trodAll_cons r0
  obtain ⟨rfl,rfl,rfl⟩:=trodAll_nil r1
  obtain rfl:args= #[v0,v1]:=by cases args;simp_all
  obtain ⟨rfl,rfl⟩:=trodVars_none hV
  obtain ⟨cs0,rfl,_⟩:=okWide_struct Tryz.underlying24 (hval 0 24 v0 rfl rfl)
  have k0:=h0
  have lt0:∀x∈p0,x.block<W.heap.size:=by obtain ⟨m,hm⟩:=k0;exact DataW.trod_lt m _ _ _ hm
  obtain ⟨fuel0,hf0⟩:=h0
  obtain ⟨x0,R0,o0⟩:=opensA (Nat.le_refl _) hf0
  obtain ⟨a1,rfl,rfl,rfl,w1⟩:=open_int Tryz.underlying3 (hval 1 3 v1 rfl rfl) h1
  have b1:=bounds_i64 w1
  clear hA0 hval0
  refine (ParseAtoms_row (allT_of hL).1 (allT_of hL).2 R0 o0 b1.1 b1.2).mono fun e W' ⟨he,bel⟩=> ?_
  subst he
  exact ⟨_,rfl,_,_,_,[],_,[],hW',trodAll_mk1 (shut_bool Tryz.underlying4 _),(trodAll_cons_mk (Below.trod tied.laidOut (by kernel_rfl) (of_decide_eq_true (by kernel_rfl)) k0 bel lt0) (trodAll_cons_mk (shut_int Tryz.underlying3 w1) trodAll_mk0)),rfl,bel.frame _,fun h=>by cases h⟩
theorem over:Rows.parseAtomsRow.holds Tryz.pinned (OpenSpec.ofChange Rows.parseAtomsSpec):=
  OpenClaim.holds_of_wide 5 Tryz.f5 rfl rfl rfl rfl rfl rfl rfl ⟨rfl, rfl, rfl, rfl, rfl⟩ rfl rfl rfl rfl rfl (by kernel_rfl) Tryz.func5 (by kernel_rfl)
    (of_decide_eq_true (by kernel_rfl)) (by unfold Func.isWrapper;first|(rw [if_pos (by decide +kernel)];kernel_rfl)|(rw [if_neg (by decide +kernel)];exact ⟨rfl,rfl⟩))
    (fun os started H enc _=>lifted os started H enc)
theorem proved:Rows.ParseAtomsCardSaid:=
  Claim7.holds_tied_plain_at .later [] [.data,.data,.data,.handle] true (true,"0fed13266e6dc0697ab1322ff528e0a7262387ad492780328dec8e90daa64cc9") true
    over (fun _ h=>by cases h) (by kernel_rfl) (fun _ h=>by cases h) parseAtoms_row_tie rfl ⟨rfl,rfl⟩ (by kernel_rfl) rfl
    (fun f fn hf hfn=>by
      obtain rfl:f=5:=Option.some.inj ((show Tryz.prog.funcNamed "ergo/ergolaw14.ParseAtoms"=some 5 by kernel_rfl).symm.trans hf) |>.symm
      obtain rfl:fn=Tryz.f5:=(Option.some.inj (Tryz.func5.symm.trans hfn)).symm
      exact ⟨by kernel_rfl,fun j t ht=>by
        rw [Tryz.params5] at ht
        have hs:t=24∨t=3:=by
          rcases j with _|j
          · (simp at ht;subst ht;simp)
          rcases j with _|j
          · (simp at ht;subst ht;simp)
          · simp at ht
        rcases hs with rfl|rfl
        all_goals exact (show Tryz.prog.wantsStandIn _=false by kernel_rfl)⟩)
    (by kernel_rfl)
end Go.Proofs.YtjlnpdpkobpkiaaGreatDoor.lawParseAtoms
