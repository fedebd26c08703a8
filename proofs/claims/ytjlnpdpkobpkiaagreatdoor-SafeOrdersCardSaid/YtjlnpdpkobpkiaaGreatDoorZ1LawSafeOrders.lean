import Derived.Test.YtjlnpdpkobpkiaaGreatDoorZ1LwOw
import Derived.Test.YtjlnpdpkobpkiaaGreatDoorZ1Tied
import Derived.Test.YtjlnpdpkobpkiaaGreatDoorZ1OpS
import Derived.ChangeAt
import Derived.ProofKit
import Derived.OpenShut
import Derived.ShutString
import Derived.ChangeOld
set_option linter.unusedVariables false
set_option linter.unusedSimpArgs false
namespace Go.Proofs.YtjlnpdpkobpkiaaGreatDoorPSP
open Go.RowKit Go.Extern.Stop Go.Stop Go.Extern Go.Proofs.YtjlnpdpkobpkiaaGreatDoorW.PrintWords Go.Proofs.YtjlnpdpkobpkiaaGreatDoorW.PrintLast Go.Proofs.YtjlnpdpkobpkiaaGreatDoor
theorem What_fault {w:World} {b:Nat} {tag at_:Int} {what:ByteArray} {err:Value} (hg:ErrT w) (h:FaultAt w b tag at_ what err):
  Calls Tryz.prog 14 #[faultV b] w (RetB w (.string what)):=by
 have b1:Below w.heap.size w (w.alloc (.cells #[.pointer none] 116)):=(Below.refl _ _).alloc (Nat.le_refl _) _
 have hlt:=Go.Proofs.YtjlnpdpkobpkiaaGreatDoor.blk_lt h
 have HA:=hid (as_fault (e:=⟨b,0,none⟩) (hg.below b1) (heap_alloc_new w (.cells #[.pointer none] 116)))
 have HF:=hid (h.below b1)
 have HB:=hid b1
 clear hg h b1
 go_enter Tryz.func14,Tryz.ntmps14
 go_wp2_with fail
 refine HA.out.mono ?_
 rintro e w' ⟨rfl,hF,hc,hf⟩
 have hb':=(hF.block b (by simp;omega) (by omega)).trans HF.out
 have c0:=Go.Proofs.YtjlnpdpkobpkiaaGreatDoor.cell_blk hb' 2
 simp at c0
 have HFr:=hid hF
 clear hF hf hb'
 go_wp2
 go_ret
 exact ⟨rfl,HB.out.trans (HFr.out.below (by simp) (fun i hi=>by omega))⟩
theorem same_l (l:List Int) (hl:l.length≤1000):∀(d i k:Nat),i+d=l.length→d<k→ergolaw16_same.l0 k l l (l.length:Int) (i:Int)=some true:=by
 intro d
 induction d with
 |zero=>
  intro i k hi hk
  obtain ⟨k,rfl⟩:∃m,k=m+1:=⟨k-1,by omega⟩
  rw [ergolaw16_same.l0,if_neg (by omega)]
 |succ d ih=>
  intro i k hi hk
  obtain ⟨k,rfl⟩:∃m,k=m+1:=⟨k-1,by omega⟩
  rw [ergolaw16_same.l0,if_pos (by omega),if_pos (by omega),if_pos (by omega),if_pos (by omega),if_pos rfl,w64 i (by omega)]
  exact ih (i+1) k (by omega) (by omega)
theorem same16_true {w:World} {A B:Option Addr} {c b:Nat} {out:List Nat} (h1:(Kd.int .i64).C w A out.length (out.map fun (i:Nat)=>(i:Int))) (l1:out.length≤c) (h2:(Kd.int .i64).C w B out.length (out.map fun (i:Nat)=>(i:Int))) (l2:out.length≤b) (hn:out.length≤8):
  Calls Tryz.prog 15 #[.slice A out.length c,.slice B out.length b] w (fun e w'=>e= .returned (.bool true)∧Below w.heap.size w w'):=by
 have hs:ergolaw16_same.f 100 (ints out) (ints out)=some true:=by
  unfold ergolaw16_same.f
  rw [if_pos rfl]
  have:=same_l (ints out) (by rw [ints_len];omega) (ints out).length 0 100 (by omega) (by rw [ints_len];omega)
  exact this
 have:=ergolaw16_same.calls 100 A c (ints out) B b (ints out) true w (by rw [ints_len];exact h1) (by rw [ints_len];exact l1) (by rw [ints_len];exact h2) (by rw [ints_len];exact l2) hs
 rw [ints_len] at this
 exact this.mono fun e w' h=>⟨h.1,h.2.below⟩
def TruePost16 (w:World) (e:Ending) (w':World):Prop:=e= .returned (.bool true)∧Below w.heap.size w w'
set_option maxHeartbeats 8000000 in
set_option maxRecDepth 100000 in
theorem Orders_any {w:World} (hE:ErrT w) (pr agg:Int) (al:List S89) (body:List Mk.PvM) (hr:Mk.RlN ⟨⟨pr,al⟩,agg,body⟩) {A A':Option Addr} {c c':Nat} (kA:Kd.C k89 w A al.length al) (lA:al.length≤c)
  (kB:Kd.C k94 w A' body.length body) (lB:body.length≤c'):
  Calls Tryz.prog 3 #[.agg #[.int .i64 pr,.slice A al.length c,.int .i64 agg,.slice A' body.length c']] w (TruePost16 w):=by
 have HE:=hid hE
 clear hE
 have HA:=hid kA
 have HB:=hid kB
 have LA:=hid lA
 have LB:=hid lB
 obtain ⟨bf,hf1,hf2⟩:=Mk.few_is [⟨⟨pr,al⟩,agg,body⟩] (fun r h=>by rw [List.mem_singleton] at h;subst h;exact hr)
 have HF:=hid hf1
 have HF2:=hid hf2
 clear hf1 hf2 hr kA kB lA lB
 have X0:Hid (Below w.heap.size w (w.alloc (.cells #[.int .i64 pr,.slice A al.length c,.int .i64 agg,.slice A' body.length c'] 27))):=hid ((Below.refl _ _).alloc (Nat.le_refl _) _)
 have K0:Hid ((w.alloc (.cells #[.int .i64 pr,.slice A al.length c,.int .i64 agg,.slice A' body.length c'] 27)).heap[w.heap.size]? =some (.cells #[.int .i64 pr,.slice A al.length c,.int .i64 agg,.slice A' body.length c'] 27)):=hid (heap_alloc_new w _)
 go_enter Tryz.func3,Tryz.ntmps3
 go_wp2_with fail
 refine (head16_any _).mono ?_
 rintro e0 w1 ⟨rfl,hb⟩
 have X1:=hid (lT_ X0.out hb)
 have K1:=hid (bB K0.out hb)
 clear hb X0 K0
 have c0:w1.cell? ⟨w.heap.size,0,none⟩=some (.int .i64 pr):=(bC K1.out 0).trans rfl
 have c1:w1.cell? ⟨w.heap.size,1,none⟩=some (.slice A al.length c):=(bC K1.out 1).trans rfl
 have c2:w1.cell? ⟨w.heap.size,2,none⟩=some (.int .i64 agg):=(bC K1.out 2).trans rfl
 have c3:w1.cell? ⟨w.heap.size,3,none⟩=some (.slice A' body.length c'):=(bC K1.out 3).trans rfl
 go_wp2_with fail
 have X1a:=hid (lA_ X1.out (.cells #[.int .i64 pr,.slice A al.length c,.int .i64 agg,.slice A' body.length c'] 27))
 refine (ergolaw13_Few.calls 20000 (some ⟨w1.heap.size,0,none⟩) 1 [⟨⟨pr,al⟩,agg,body⟩] bf _
  (C_one k27 (heap_alloc_new w1 _) ⟨⟨pr,al⟩,agg,body⟩ _ (k27_mk _ ⟨⟨pr,al⟩,agg,body⟩ LA.out (Kd.C_below HA.out X1a.out) LB.out (Kd.C_below HB.out X1a.out)) rfl) (by simp) HF.out).mono ?_
 rintro e0 w2 ⟨rfl,hb⟩
 have X2:=hid (lT_ X1a.out hb)
 have K2:=hid (bB (bA K1.out _) hb)
 clear hb c0 c1 c2 c3 X1 X1a K1
 cases bf
 ·go_wp2
  go_ret
  exact ⟨rfl,X2.out⟩
 have hrb:Mk.RlB ⟨⟨pr,al⟩,agg,body⟩:=(HF2.out rfl).2 _ List.mem_cons_self
 obtain ⟨args,g,ha1,ha2,ha3,hg,hmade⟩:=Mk.rule_made _ hrb
 have HM:=hid (hmade 20000 (by omega))
 obtain ⟨ps,hps⟩:∃ps,ps=body.map Mk.partOf:=⟨_,rfl⟩
 have hpl:ps.length≤8:=by rw [hps,List.length_map];exact hrb.2.2.1
 have hpsh:∀p∈ps,PGood p:=fun p hp=>by
  rw [hps] at hp
  obtain ⟨q,hq,rfl⟩:=List.mem_map.1 hp
  exact (Mk.mk_good _ (Mk.partOf_is q (hrb.2.2.2 q hq)).1).1
 obtain ⟨pb,hpb⟩:∃pb,pb=bytesL (Mk.predS pr):=⟨_,rfl⟩
 simp only at HM
 rw [←hps,←hpb] at HM
 obtain ⟨hh1,hh2,hh3⟩:=Mk.head_good (s:=pb) (by omega) ha3
 have HH1:=hid hh1
 have HH2:=hid hh2
 have HH3:=hid hh3
 have HPS:=hid hpsh
 have HPL:=hid hpl
 have HA1:=hid ha1
 clear hmade hps hpl hpsh hrb ha1 ha2 ha3 hg HF HF2 hpb hh1 hh2 hh3
 have c0:w2.cell? ⟨w.heap.size,0,none⟩=some (.int .i64 pr):=(bC K2.out 0).trans rfl
 have c1:w2.cell? ⟨w.heap.size,1,none⟩=some (.slice A al.length c):=(bC K2.out 1).trans rfl
 have c2:w2.cell? ⟨w.heap.size,2,none⟩=some (.int .i64 agg):=(bC K2.out 2).trans rfl
 have c3:w2.cell? ⟨w.heap.size,3,none⟩=some (.slice A' body.length c'):=(bC K2.out 3).trans rfl
 go_wp2_with fail
 refine (ergolaw13_R_Rule.calls 20000 pr A c al agg A' c' body pb args g ps 0 _ (Kd.C_below HA.out X2.out) LA.out (Kd.C_below HB.out X2.out) LB.out HM.out).mono ?_
 rintro e0 w3 ⟨v1,v3,rfl,hR,hN,hb⟩
 obtain ⟨D,d,rfl,hdl,hD⟩:=Kd.R_reads hR
 obtain ⟨B,b,rfl,hbl,hBk⟩:=Kd.N_reads hN
 have X3:=hid (lT_ X2.out hb)
 have HD:=hid hD
 have HBK:=hid hBk
 have HDL:=hid hdl
 have HBL:=hid hbl
 clear hR hN hb hD hBk hdl hbl c0 c1 c2 c3 X2 K2 HM HA HB LA LB
 go_wp2_with fail
 have X4:=hid (lA_ X3.out (.cells #[.string pb,.slice D args.length d,.int .i64 g,.slice B ps.length b,.int .i64 0] 37))
 have HD4:=hid (Kd.C_below HD.out (lA_ (Below.refl _ _) (.cells #[.string pb,.slice D args.length d,.int .i64 g,.slice B ps.length b,.int .i64 0] 37)))
 have HB4:=hid (Kd.C_below HBK.out (lA_ (Below.refl _ _) (.cells #[.string pb,.slice D args.length d,.int .i64 g,.slice B ps.length b,.int .i64 0] 37)))
 have K4:=hid (heap_alloc_new w3 (.cells #[.string pb,.slice D args.length d,.int .i64 g,.slice B ps.length b,.int .i64 0] 37))
 clear X3 HD HBK
 generalize w3.alloc (.cells #[.string pb,.slice D args.length d,.int .i64 g,.slice B ps.length b,.int .i64 0] 37)=W4 at X4 HD4 HB4 K4 ⊢
 generalize w3.heap.size=b3 at K4 ⊢
 clear w3
 have HO:=hid (fun W (hW:Below W4.heap.size W4 W)=>Order_any pb args g ps 0 HPS.out HH1.out HH2.out (fun u hu=>Mk.nm_max (HH3.out u hu)) (Nat.le_trans HPL.out (by decide)) (Kd.C_below HD4.out hW) HDL.out (Kd.C_below HB4.out hW) HBL.out)
 refine (LwOrder_any pb args g ps 0 HPS.out HH1.out HH2.out HPL.out HD4.out HDL.out HB4.out HBL.out).mono ?_
 intro e w5 ho
 obtain ⟨hv,hhv⟩:∃hv,hv=headV pb args:=⟨_,rfl⟩
 rw [←hhv] at ho HO
 clear hhv HH1 HH2 HH3
 cases hor:orderP (entsOf ps) hv with
 |error er=>
  rw [hor] at ho HO
  obtain ⟨pp,vv⟩:=er
  obtain ⟨rfl,hb5⟩:=ho
  have X5:=hid (lT_ X4.out hb5)
  have K5:=hid (bB K4.out hb5)
  have HO5:=hid (HO.out w5 hb5)
  have hpp:decide ((0:Int)≤(pp:Int))=true:=decide_eq_true (by omega)
  have hpn:(0:Int)≤(pp:Int):=by omega
  have e0:w5.cell? ⟨b3,0,none⟩=some (.string pb):=(bC K5.out 0).trans rfl
  have e1:w5.cell? ⟨b3,1,none⟩=some (.slice D args.length d):=(bC K5.out 1).trans rfl
  have e2:w5.cell? ⟨b3,2,none⟩=some (.int .i64 g):=(bC K5.out 2).trans rfl
  have e3:w5.cell? ⟨b3,3,none⟩=some (.slice B ps.length b):=(bC K5.out 3).trans rfl
  have e4:w5.cell? ⟨b3,4,none⟩=some (.int .i64 0):=(bC K5.out 4).trans rfl
  clear hb5 hor HO
  go_wp2_with fail
  refine HO5.out.mono ?_
  rintro e w6 ⟨f,rfl,hF,hb6⟩
  have X6:=hid (lT_ X5.out hb6)
  have HF:=hid hF
  have HOF:=hid (Of_fault (HE.out.below X6.out) hF)
  clear hF hb6 e0 e1 e2 e3 e4
  go_wp2_with fail
  refine HOF.out.mono ?_
  rintro e w7 ⟨rfl,hb7⟩
  have X7:=hid (lT_ X6.out hb7)
  have HF7:=hid (HF.out.below hb7)
  have HAT:=hid (At_fault (HE.out.below X7.out) HF7.out)
  clear hb7
  go_wp2_with fail
  refine HAT.out.mono ?_
  rintro e w8 ⟨rfl,hb8⟩
  have X8:=hid (lT_ X7.out hb8)
  have HF8:=hid (HF7.out.below hb8)
  have HWH:=hid (What_fault (HE.out.below X8.out) HF8.out)
  clear hb8
  go_wp2_with fail
  refine HWH.out.mono ?_
  rintro e w9 ⟨rfl,hb9⟩
  have X9:=hid (lT_ X8.out hb9)
  clear hb9
  go_wp2
  go_ret
  exact ⟨rfl,X9.out⟩
 |ok out=>
  rw [hor] at ho HO
  obtain ⟨O,oc,rfl,hol,hO,hb5⟩:=ho
  have X5:=hid (lT_ X4.out hb5)
  have K5:=hid (bB K4.out hb5)
  have HO5:=hid (HO.out w5 hb5)
  have HOC:=hid hO
  have HOL:=hid hol
  have P1:Hid (out.length≤8):=hid (by rw [(orderP_ok hor).1];exact HPL.out)
  have e0:w5.cell? ⟨b3,0,none⟩=some (.string pb):=(bC K5.out 0).trans rfl
  have e1:w5.cell? ⟨b3,1,none⟩=some (.slice D args.length d):=(bC K5.out 1).trans rfl
  have e2:w5.cell? ⟨b3,2,none⟩=some (.int .i64 g):=(bC K5.out 2).trans rfl
  have e3:w5.cell? ⟨b3,3,none⟩=some (.slice B ps.length b):=(bC K5.out 3).trans rfl
  have e4:w5.cell? ⟨b3,4,none⟩=some (.int .i64 0):=(bC K5.out 4).trans rfl
  clear hb5 hor HO hO hol
  go_wp2_with fail
  refine HO5.out.mono ?_
  rintro e w6 ⟨O',oc',rfl,hol',hO',hb6⟩
  have X6:=hid (lT_ X5.out hb6)
  have HS:=hid (same16_true hO' hol' (Kd.C_below HOC.out hb6) HOL.out P1.out)
  clear hb6 hO' hol' e0 e1 e2 e3 e4
  go_wp2_with fail
  refine HS.out.mono ?_
  rintro e w7 ⟨rfl,hb7⟩
  have X7:=hid (lT_ X6.out hb7)
  clear hb7
  go_wp2
  go_ret
  exact ⟨rfl,X7.out⟩
end Go.Proofs.YtjlnpdpkobpkiaaGreatDoorPSP
set_option linter.unusedVariables false
namespace Go.Proofs.YtjlnpdpkobpkiaaGreatDoor
open Go Go.Deep Go.ChangeShapes Go.WideShapes Go.RowKit Go.Proofs.YtjlnpdpkobpkiaaGreatDoorPSP Go.Proofs.YtjlnpdpkobpkiaaGreatDoorW.PrintWords
theorem opensR {n:Nat}:OpensAt Tryz.prog n 27 k27.K Mk.RlN:=Mk.opensR
abbrev zeroR:Value:= .agg #[.int .i64 0,.slice none 0 0,.int .i64 0,.slice none 0 0]
theorem SafeOrders_row {w:World} (hE:ErrT w) {r:Mk.RlM} {c0:Array Value} (R0:k27.K w r c0.toList) (o0:Mk.RlN r):Calls Tryz.prog 3 #[.agg c0] w (fun e w'=>e= .returned (.bool true)∧Below w.heap.size w w'):=by
 obtain ⟨A1,c1,A3,c3,h,l1,g1,l3,g3⟩:=k27_open R0
 obtain rfl:c0=_:=by rw [←Array.toArray_toList (xs:=c0),h]
 exact Orders_any hE r.f0.f0 r.f1 r.f0.f1 r.f2 o0 g1 l1 g3 l3
end Go.Proofs.YtjlnpdpkobpkiaaGreatDoor
/- For any rule that is made: its evaluation order, or the variable that is missing and its place, as the statement reckons them. No condition but those of the card. -/
namespace Go.Proofs.YtjlnpdpkobpkiaaGreatDoor.lawSafeOrders
open Go Go.ChangeShapes Go.WideShapes Go.ChangeAt Go.RowKit
open Go.ChangeMaps (open_string shut_string)
set_option linter.unusedVariables false
set_option maxRecDepth 100000 in
theorem lifted (os:Os) (started:os.Started) (H:Type) (enc:TypeId×Value→H):
  ReturnsInHanded {} Tryz.checked os 3 .any (fun w args=>(Rows.safeOrdersSpec.pre enc Tryz.prog Tryz.f3 [] false w args∧laidMetH Tryz.prog laidErr w)∧sizedMet enc Tryz.prog Tryz.f3 (OpenSpec.ofChange Rows.safeOrdersSpec) false w args)
   (Rows.safeOrdersSpec.post enc Tryz.prog Tryz.f3 false true false false):=by
 refine returnsInHanded_of_change_and (C:=Tryz.checked) (X:=fun w _=>laidMetH Tryz.prog laidErr w) (fun _ _ _ hh h=>h.of_heap hh) own started (by kernel_rfl) Tryz.func3
  (ChangeSpec.witness_at (enc:=enc) (C:=Tryz.checked) (os:=os) (X:=fun w _=>laidMetH Tryz.prog laidErr w) false (laidWorld os) #[zeroR] 8 rfl (by kernel_rfl) (by kernel_rfl) (by kernel_rfl) (by kernel_rfl) (by kernel_rfl) (laidWorld_met os _)) ?_
 intro W base args ds gs before hval0 hW _ _ hL _
 have hval:∀(j:Nat) t v,Tryz.f3.params[j]? =some t→args[j]? =some v→Value.okWide Tryz.prog W .any base t v:=hval0
 have hW':=hW
 obtain ⟨p,q,hA0,hV,rfl,hfz,hnd⟩:=hW
 have hA:DataW.TrodAll enc Tryz.prog W 0 (fun _=>true) true Tryz.f3.params.toList args.toList ds p:=hA0
 rw [Tryz.params3] at hA hval
 obtain ⟨v0,vs0,d0,ds0,p0,q0,hargs,rfl,rfl,h0,r0⟩:=trodAll_cons hA
 obtain ⟨rfl,rfl,rfl⟩:=trodAll_nil r0
 obtain rfl:args= #[v0]:=by cases args;simp_all
 obtain ⟨rfl,rfl⟩:=trodVars_none hV
 obtain ⟨cs0,rfl,_⟩:=okWide_struct Tryz.underlying27 (hval 0 27 v0 rfl rfl)
 have k0:=h0
 have lt0:∀x∈p0,x.block<W.heap.size:=by obtain ⟨m,hm⟩:=k0;exact DataW.trod_lt m _ _ _ hm
 obtain ⟨fuel0,hf0⟩:=h0
 obtain ⟨x0,R0,o0⟩:=opensR (Nat.le_refl _) hf0
 clear hA0 hval0
 refine (SafeOrders_row (errT_of_laid hL) R0 o0).mono fun e W' ⟨he,bel⟩=> ?_
 subst he
 exact ⟨_,rfl,_,_,_,[],_,[],hW',trodAll_mk1 (shut_bool Tryz.underlying4 _),(trodAll_cons_mk (Below.trod laidOut (by kernel_rfl) (of_decide_eq_true (by kernel_rfl)) k0 bel lt0) trodAll_mk0),rfl,bel.frame _,fun h=>by cases h⟩
theorem over:Rows.safeOrdersRow.holds Tryz.pinned (OpenSpec.ofChange Rows.safeOrdersSpec):=
 OpenClaim.holds_of_wide 3 Tryz.f3 rfl rfl rfl rfl rfl rfl rfl ⟨rfl,rfl,rfl,rfl,rfl⟩ rfl rfl rfl rfl rfl (by kernel_rfl) Tryz.func3 (by kernel_rfl)
  (of_decide_eq_true (by kernel_rfl)) (by unfold Func.isWrapper;first|(rw [if_pos (by decide +kernel)];kernel_rfl)|(rw [if_neg (by decide +kernel)];exact ⟨rfl,rfl⟩))
  (fun os started H enc _=>lifted os started H enc)
theorem proved:Rows.SafeOrdersCardSaid:=
 Claim7.holds_tied_plain_at .later [] [.handle] true (true,"0fed13266e6dc0697ab1322ff528e0a7262387ad492780328dec8e90daa64cc9") true
  over (fun _ h=>by cases h) (by kernel_rfl) (fun _ h=>by cases h) safeOrders_row_tie rfl ⟨rfl,rfl⟩ (by kernel_rfl) rfl
  (fun f fn hf hfn=>by
   obtain rfl:f=3:=Option.some.inj ((show Tryz.prog.funcNamed "ergo/ergolaw16.SafeOrders"=some 3 by kernel_rfl).symm.trans hf) |>.symm
   obtain rfl:fn=Tryz.f3:=(Option.some.inj (Tryz.func3.symm.trans hfn)).symm
   exact ⟨by kernel_rfl,fun j t ht=>by
    rw [Tryz.params3] at ht
    have hs:t=27:=by
     rcases j with _|j
     ·(simp at ht; subst ht; simp)
     ·simp at ht
    subst hs
    exact (show Tryz.prog.wantsStandIn 27=false by kernel_rfl)⟩)
  (by kernel_rfl)
end Go.Proofs.YtjlnpdpkobpkiaaGreatDoor.lawSafeOrders
