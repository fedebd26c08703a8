import Derived.Test.YtjlnpdpkobpkiaaGreatDoorZ1Sfo
import Derived.Laws.OwnMore
set_option linter.unusedVariables false
set_option linter.unusedSimpArgs false
namespace Go.Proofs.YtjlnpdpkobpkiaaGreatDoorPSP
open Go.RowKit Go.Maps Go.Extern.Stop Go.Stop Go.Extern Go.Proofs.YtjlnpdpkobpkiaaGreatDoorW.PrintWords Go.Proofs.YtjlnpdpkobpkiaaGreatDoor
theorem sf_at {ps:List SfP} (hps:∀p∈ps,PGood p) {W:World} {A:Option Addr} {n:Nat} (hC:Kd.C k106 W A n ps) (hn:n=ps.length) (i:Nat) (hi:i<n):
  ∃(p:SfP) (ad:Addr) (A1:Option Addr) (c1:Nat) (A2:Option Addr) (c2:Nat),A=some ad∧PGood p∧(entsOf ps).nd i=needV p∧(entsOf ps).vs i=partV p∧W.cell? (ad.add (i*16))=some (.int .i64 p.f0)∧W.cell? ⟨(ad.add (i*16)).block,(ad.add (i*16)).off+1,none⟩=some (.string p.f1.f0)∧W.cell? ⟨(ad.add (i*16)).block,(ad.add (i*16)).off+2,none⟩=some (.slice A1 p.f1.f1.length c1)∧W.cell? ⟨(ad.add (i*16)).block,(ad.add (i*16)).off+3,none⟩=some (.int .i64 p.f2)∧W.cell? ⟨(ad.add (i*16)).block,(ad.add (i*16)).off+4,none⟩=some (.int .i64 p.f3.f0)∧W.cell? ⟨(ad.add (i*16)).block,(ad.add (i*16)).off+5,none⟩=some (.string p.f3.f1)∧W.cell? ⟨(ad.add (i*16)).block,(ad.add (i*16)).off+6,none⟩=some (.int .i64 p.f3.f2)∧W.cell? ⟨(ad.add (i*16)).block,(ad.add (i*16)).off+7,none⟩=some (.int .i64 p.f4.f0)∧W.cell? ⟨(ad.add (i*16)).block,(ad.add (i*16)).off+8,none⟩=some (.string p.f4.f1)∧W.cell? ⟨(ad.add (i*16)).block,(ad.add (i*16)).off+9,none⟩=some (.int .i64 p.f4.f2)∧W.cell? ⟨(ad.add (i*16)).block,(ad.add (i*16)).off+10,none⟩=some (.string p.f5)∧W.cell? ⟨(ad.add (i*16)).block,(ad.add (i*16)).off+11,none⟩=some (.int .i64 p.f6.f0.f0)∧W.cell? ⟨(ad.add (i*16)).block,(ad.add (i*16)).off+12,none⟩=some (.string p.f6.f0.f1)∧W.cell? ⟨(ad.add (i*16)).block,(ad.add (i*16)).off+13,none⟩=some (.int .i64 p.f6.f0.f2)∧W.cell? ⟨(ad.add (i*16)).block,(ad.add (i*16)).off+14,none⟩=some (.int .i64 p.f6.f1)∧W.cell? ⟨(ad.add (i*16)).block,(ad.add (i*16)).off+15,none⟩=some (.slice A2 p.f6.f2.length c2) ∧
   p.f1.f1.length≤c1∧Kd.C k98 W A1 p.f1.f1.length p.f1.f1∧p.f6.f2.length≤c2∧Kd.C k104 W A2 p.f6.f2.length p.f6.f2:=by
 obtain ⟨ad,A1,c1,A2,c2,e,h0,h1,h2,h3,h4,h5,h6,h7,h8,h9,h10,h11,h12,h13,h14,h15,l1,g1,l2,g2⟩:=at_T106 hC (i:Int) (by omega) (by omega)
 have hp:ps[i]? =some (rd_T106 ps (i:Int)):=by
  unfold rd_T106
  rw [Int.toNat_natCast,List.getD_eq_getElem?_getD,List.getElem?_eq_getElem (by omega)]
  rfl
 generalize rd_T106 ps (i:Int)=p at *
 simp only [Int.toNat_natCast] at h0 h1 h2 h3 h4 h5 h6 h7 h8 h9 h10 h11 h12 h13 h14 h15
 refine ⟨p,ad,A1,c1,A2,c2,e,hps p (List.mem_of_getElem? hp),?_,?_,h0,h1,h2,h3,h4,h5,h6,h7,h8,h9,h10,h11,h12,h13,h14,h15,l1,g1,l2,g2⟩
 ·show (ps[i]?.map needV).getD [] = needV p
  rw [hp];rfl
 ·show (ps[i]?.map partV).getD [] = partV p
  rw [hp];rfl
theorem ne_isEmpty {x:ByteArray} (h:¬x.size=0):x.toList.isEmpty=false:=by
 cases e:x.toList.isEmpty with
 |false=>rfl
 |true=>
  have h1:x.toList=[]:=List.isEmpty_iff.1 e
  rw [ByteArray.toList_eq] at h1
  have h2:x.data= #[]:=Array.toList_eq_nil_iff.1 h1
  exact absurd (show x.data.size=0 by rw [h2];rfl) h
theorem sfw2 {i n:Nat} (h:i<n) (hn:n≤1000):wrap64 ((i:Int)+1)=((i+1:Nat):Int):=sfw i (by omega)
theorem bytes_nil {x:ByteArray} (h:x.size=0):x=⟨#[]⟩:=by
 obtain ⟨d⟩:=x
 have:d= #[]:=Array.eq_empty_of_size_eq_zero h
 rw [this]
theorem ready_eq {E:Ents} {out:List Nat} {i:Nat} (hc:out.contains i=false):ready E out i=((lackL (knownOf E out) (E.nd i)).size==0):=by
 unfold ready
 rw [hc]
 rfl
theorem ready_done {E:Ents} {out:List Nat} {i:Nat} (hc:out.contains i=true):ready E out i=false:=by
 unfold ready
 rw [hc]
 rfl
theorem upto_step {q:Nat→Bool} {i:Nat} (h:∀j,j<i→q j=false) (hi:q i=false):∀j,j<i+1→q j=false:=fun j hj=>by
 by_cases e:j=i
 ·subst e; exact hi
 ·exact h j (by omega)
theorem sfmeas {n i g:Nat} (h:n-i<g) (hi:i<n):n-(i+1)<n-i:=by omega
theorem OrOk.base {w:World} {n:Nat} {rv:Array Value} {K:List ByteArray} {D out:List Nat} {v:Value} {wr:World} (h:OrOk w n rv K D out v wr):w.heap.size+3≤wr.heap.size:=Go.Proofs.YtjlnpdpkobpkiaaGreatDoor.blk_lt h.dn
theorem knownOf_app (E:Ents) (out:List Nat) (i:Nat):knownOf E (out++[i])=knownOf E out++E.vs i:=by unfold knownOf;simp
theorem knownOf_len {E:Ents} (h:∀i,(E.vs i).length≤100000) (out:List Nat):(knownOf E out).length≤out.length*100000:=by
 induction out with
 |nil=>exact Nat.le_refl _
 |cons i out ih=>
  unfold knownOf at ih ⊢
  rw [List.flatMap_cons,List.length_append,List.length_cons,Nat.add_mul]
  have:=h i
  omega
theorem entsOf_len {ps:List SfP} (h:∀p∈ps,PGood p) (i:Nat):((entsOf ps).vs i).length≤100000:=by
 show ((ps[i]?.map partV).getD []).length≤_
 cases hp:ps[i]? with
 |none=>exact Nat.zero_le _
 |some p=>exact (h p (List.mem_of_getElem? hp)).lv
theorem sfknown {ps:List SfP} (h:∀p∈ps,PGood p) {out:List Nat} {n:Nat} (ho:out.length≤n) (hn:n≤1000):(knownOf (entsOf ps) out).length≤1000000000:=by
 have:=knownOf_len (entsOf_len h) out
 omega
theorem or_round {E:Ents} {n i:Nat} {out:List Nat} {R:Except (Nat×ByteArray) (List Nat)} (hE:E.n=n) (hlt:out.length<n) (hi:i<n) (hc:out.contains i=false) (hz:(lackL (knownOf E out) (E.nd i)).size=0) (hnr:∀j,j<i→ready E out j=false)
  (hR:goP E (n-out.length) out=R) (hU:unl (outB out) n=n-out.length):goP E (n-(out++[i]).length) (out++[i])=R∧unl (outB (out++[i])) n=n-(out++[i]).length∧(out++[i]).length≤n:=by
 subst hE
 have e:(out++[i]).length=out.length+1:=by simp
 rw [e]
 obtain ⟨k,hk⟩:∃k,E.n-out.length=k+1:=⟨E.n-out.length-1,by omega⟩
 have hk2:E.n-(out.length+1)=k:=by omega
 rw [hk,goP,nextP_hit hi (by rw [ready_eq hc,hz];rfl) hnr] at hR
 rw [hk2]
 refine ⟨hR,?_,by omega⟩
 have:=unl_upd (l:=outB out) hi hc
 rw [outB_app]
 omega
theorem sfmeas2 {n g:Nat} {out:List Nat} {i:Nat} (h:n-out.length<g) (hlt:out.length<n):n-(out++[i]).length<n-out.length:=by
 rw [List.length_append,List.length_singleton]
 omega
theorem or_stuck {E:Ents} {n:Nat} {out:List Nat} {hv:List ByteArray} (hE:E.n=n) (hlt:out.length<n) (hnr:∀j,j<n→ready E out j=false) (hR:goP E (n-out.length) out=goP E n []):orderP E hv= .error (firstP E out,lackL (knownOf E out) (E.nd (firstP E out))):=by
 subst hE
 obtain ⟨k,hk⟩:∃k,E.n-out.length=k+1:=⟨E.n-out.length-1,by omega⟩
 rw [hk,goP,nextP_miss hnr] at hR
 unfold orderP
 rw [←hR]
theorem or_first {E:Ents} {n:Nat} {out:List Nat} (hE:E.n=n) (hlt:out.length<n) (hU:unl (outB out) n=n-out.length):∃f:Nat,f<n∧firstV out n=(f:Int)∧firstP E out=f:=by
 subst hE
 obtain ⟨j,hj,hc⟩:=unl_pos (l:=outB out) (n:=E.n) (by omega)
 exact firstV_pos hj hc
theorem or_end {E:Ents} {n:Nat} {out:List Nat} {hv:List ByteArray} (hE:E.n=n) (hl:out.length=n) (hR:goP E (n-out.length) out=goP E n []):orderP E hv=if (lackL (knownOf E out) hv).size=0 then .ok out else .error (n,lackL (knownOf E out) hv):=by
 subst hE
 rw [hl,Nat.sub_self,goP] at hR
 unfold orderP
 rw [←hR]
theorem sfmake (n:Nat) (h:n≤1000) (W:World):(Instr.makeSlice 39 (.int .i64 (n:Int)) (.int .i64 (n:Int))).run Tryz.prog W= .ok (.slice (some ⟨W.heap.size,0,none⟩) n n) (W.alloc (.cells (Array.replicate n (.int .i64 0)) 3)):=by
 obtain ⟨i,hi,hz,hs,hb⟩:=info_parts sfinfo
 have:=run_make W (P:=Tryz.prog) 39 3 i _ Tryz.underlying39 hi hz .i64 .i64 (n:Int) (n:Int) (by omega) (Int.le_refl _) (by rw [hb];omega) (by omega)
 rw [this]
 have e:madeCells (Value.int .i64 0).cells ((n:Int).toNat*i.size)=Array.replicate n (.int .i64 0):=by
  apply Array.toList_inj.1
  rw [show (Value.int .i64 0).cells= #[.int .i64 0] from rfl,toList_madeCells_one,hs]
  simp
 rw [e]
 simp
set_option maxRecDepth 100000 in
set_option maxHeartbeats 1000000 in
theorem Order_any (s:ByteArray) (ts:List S98) (g:Int) (ps:List SfP) (at_:Int) (hps:∀p∈ps,PGood p) (hh:avF s ts=some (headV s ts)) (hhl:(headV s ts).length≤100000) (hhs:∀u∈headV s ts,u.size≤maxLen) (hn:ps.length≤1000)
  {w:World} {A1 A3:Option Addr} {c1 c3:Nat} (g1:Kd.C k98 w A1 ts.length ts) (l1:ts.length≤c1) (g3:Kd.C k106 w A3 ps.length ps) (l3:ps.length≤c3):
  Calls Tryz.prog 11 #[.agg #[.string s,.slice A1 ts.length c1,.int .i64 g,.slice A3 ps.length c3,.int .i64 at_]] w (OrderPost w (orderP (entsOf ps) (headV s ts))):=by
 have HH:Hid (∀W,Below w.heap.size w W→Calls Tryz.prog 37 #[.agg #[.string s,.slice A1 ts.length c1]] W (RetL W (headV s ts))):=
  fun W hW=>(syntax_Atom_Vars.calls 2000000 s A1 c1 ts _ W (Kd.C_below g1 hW) l1 hh).mono fun e w' h=>RetL.of h
 have HS:=hid hhs
 have HL:=hid hhl
 have HP:=hid hps
 have HG:=hid g3
 obtain ⟨E,hE⟩:∃E,E=entsOf ps:=⟨_,rfl⟩
 obtain ⟨hv,hhv⟩:∃hv,hv=headV s ts:=⟨_,rfl⟩
 obtain ⟨n,hnn⟩:∃n,n=ps.length:=⟨_,rfl⟩
 obtain ⟨m,hm⟩:∃m,m=ts.length:=⟨_,rfl⟩
 rw [←hE,←hhv,←hnn,←hm]
 rw [←hhv,←hm] at HH
 rw [←hhv] at HS HL
 rw [←hnn] at HG
 have HE:=hid hE
 have HN:=hid hnn
 have O0:Hid (OrOk w n #[.string s,.slice A1 m c1,.int .i64 g,.slice A3 n c3,.int .i64 at_] [] [] [] (.slice none 0 0) _):=hid OrOk.start
 have hnl:Hid (n≤1000):=hid (by rw [hnn];exact hn)
 clear g1 l1 g3 l3 hps hh hhl hhs hn hE hhv hnn hm
 have hmm:= @run_makeMap Tryz.prog
 have hms:=sfmake n hnl.out
 go_enter Tryz.func11,Tryz.ntmps11
 go_wp2
 go_loopg [5] (n+1) (fun gk v5 wr=>∃(out:List Nat) (A:Option Addr) (c:Nat),v5= .slice A out.length c∧Hid (out.length≤n)∧Hid (n-out.length<gk)∧Hid (goP E (n-out.length) out=goP E n [])∧Hid (unl (outB out) n=n-out.length)∧Hid (OrOk w n #[.string s,.slice A1 m c1,.int .i64 g,.slice A3 n c3,.int .i64 at_] (knownOf E out) out out (.slice A out.length c) wr))
 case atStart=>exact ⟨[],none,0,rfl,hid (Nat.zero_le _),hid (Nat.lt_succ_of_le (Nat.sub_le n 0)),hid rfl,hid (unl_none n),O0⟩
 case round=>
  clear O0 hms hmm
  obtain ⟨out,A,c,rfl,HO,HGK,HR,HU,O⟩:=hrel
  obtain ⟨wo,rfl⟩:∃x:World,x=wr:=⟨_,rfl⟩
  have r3:wo.cell? ⟨w.heap.size,3,none⟩=some (.slice A3 n c3):=cell_blk O.out.rb 3
  by_cases hlt:out.length<n
  ·have HLT := hid hlt
   have hi2:=sflt hlt
   clear hlt
   go_wp2
   clear hi2 r3
   go_loopg [7,8,26] (n+1) (fun gk2 v7 v8 v26 wr=>∃i:Nat,v7= .int .i64 (-1)∧v8= .int .i64 (firstV out i)∧v26= .int .i64 (i:Int)∧Hid (i≤n)∧Hid (n-i<gk2)∧Hid (∀j,j<i→ready E out j=false)∧Hid (OrOk w n #[.string s,.slice A1 m c1,.int .i64 g,.slice A3 n c3,.int .i64 at_] (knownOf E out) out out (.slice A out.length c) wr))
   case atStart=>exact ⟨0,rfl,rfl,rfl,hid (Nat.zero_le _),hid (Nat.lt_succ_of_le (Nat.sub_le n 0)),hid (fun j hj=>absurd hj (Nat.not_lt_zero _)),O⟩
   case round=>
    clear O
    obtain ⟨i,rfl,rfl,rfl,HI,HG2,HNR,O⟩:=hrel
    obtain ⟨wi,rfl⟩:∃x:World,x=wr:=⟨_,rfl⟩
    by_cases hi:i<n
    ·obtain ⟨p, ad, P1, e1, P2, e2, rfl, hp, hnd, hvs, h0, h1, h2, h3, h4, h5, h6, h7, h8, h9, h10, h11, h12, h13, h14, h15, l1, k1, l2, k2⟩ := sf_at HP.out (Kd.C_below HG.out O.out.be) HN.out i hi
     rw [←HE.out] at hnd hvs
     have HQ:=hid hp
     have HV:=hid hnd
     have HW:=hid hvs
     have HK1:=hid k1
     have HK2:=hid k2
     have HL1:=hid l1
     have HL2:=hid l2
     have HIL:=hid hi
     have hi0:(0:Int)≤(i:Int):=Int.natCast_nonneg i
     have hi2:=sflt hi
     have w1i:=sfw2 hi hnl.out
     have d0:wi.cell? ⟨w.heap.size+1+1,i,none⟩=some (.int .i64 (if out.contains i then 1 else 0)):=(Go.Proofs.YtjlnpdpkobpkiaaGreatDoor.cell_blk O.out.dn i).trans (doneA_at hi)
     have bd:w.heap.size+1+1<wi.heap.size:=Go.Proofs.YtjlnpdpkobpkiaaGreatDoor.blk_lt O.out.dn
     clear hp hnd hvs k1 k2 l1 l2 hi
     cases hc:out.contains i with
     |true=>
      rw [hc,if_pos rfl] at d0
      have HC:=hid hc
      clear hc
      go_wp2
      go_roundg (n-i)
      case measure=>exact HG2.out
      case rel=>exact ⟨i+1,rfl,by rw [firstV_in HC.out],by first|rfl|(rw [w1i];done)|(simp [w1i];done),hid HIL.out,hid (sfmeas HG2.out HIL.out),hid (upto_step HNR.out (ready_done HC.out)),hid (O.out.below ((Below.refl _ _).alloc (Nat.le_refl _) _))⟩
     |false=>
      rw [hc,if_neg (by decide)] at d0
      have HC:=hid hc
      clear hc
      have HNd:Hid (∀W,Below wi.heap.size wi W→Calls Tryz.prog 39 #[ptV p P1 e1 P2 e2] W (RetL W (needV p))):=fun W hW=>needs_any HQ.out (Kd.C_below HK1.out hW) HL1.out (Kd.C_below HK2.out hW) HL2.out
      go_upto_if 37 with fail
      go_cut [8] (fun v8 wx=>v8= .int .i64 (firstV out (i+1))∧wx=wi.alloc (.cells #[.int .i64 p.f0,.string p.f1.f0,.slice P1 p.f1.f1.length e1,.int .i64 p.f2,.int .i64 p.f3.f0,.string p.f3.f1,.int .i64 p.f3.f2,.int .i64 p.f4.f0,.string p.f4.f1,.int .i64 p.f4.f2,.string p.f5,.int .i64 p.f6.f0.f0,.string p.f6.f0.f1,.int .i64 p.f6.f0.f2,.int .i64 p.f6.f1,.slice P2 p.f6.f2.length e2] 106))
      case first=>
       rcases firstV_cases out i with hf|⟨f,hfi,hf⟩
       ·have HF := hid hf
        rw [hf]
        clear hf
        go_wp2_with fail
        go_meet
        case rel=>exact ⟨by rw [firstV_out HC.out,HF.out,if_pos (by decide)],rfl⟩
       ·have HF := hid hf
        have hf0:¬((f:Int)<0):=Int.not_lt.2 (Int.natCast_nonneg f)
        rw [hf]
        clear hf hfi
        go_wp2_with fail
        go_meet
        case rel=>exact ⟨by rw [firstV_out HC.out,HF.out,if_neg (Int.not_lt.2 (Int.natCast_nonneg f))],rfl⟩
      case rest=>
       obtain ⟨rfl,rfl⟩:=hcut
       go_wp2_with fail
       refine (HNd.out _ ((Below.refl _ _).alloc (Nat.le_refl _) _)).mono ?_
       rintro e w2 ⟨N1,q1,rfl,hC,hb2⟩
       have O2:=hid (O.out.below (lT_ ((Below.refl wi.heap.size wi).alloc (Nat.le_refl _) _) hb2))
       have HLk:=hid (lacks_any (cp:=q1) O2.out.kn hC (Nat.le_trans HQ.out.ln (by decide)) HQ.out.sn)
       clear hC hb2 h0 h1 h2 h3 h4 h5 h6 h7 h8 h9 h10 h11 h12 h13 h14 h15 d0 bd HNd O
       go_wp2_with fail
       refine HLk.out.mono ?_
       rintro e w3 ⟨rfl,hb3⟩
       have O3:=hid (O2.out.below hb3)
       clear hb3
       obtain ⟨x,hx⟩:∃x,x=lackL (knownOf E out) (needV p):=⟨_,rfl⟩
       rw [←hx]
       by_cases hz:x.size=0
       ·as_aux_lemma =>
         have HX:=hid hx
         have HZ:=hid hz
         obtain rfl:=bytes_nil hz
         clear hx hz
         have d3:w3.cell? ⟨w.heap.size+1+1,i,none⟩=some (.int .i64 (if out.contains i then 1 else 0)):=(Go.Proofs.YtjlnpdpkobpkiaaGreatDoor.cell_blk O3.out.dn i).trans (doneA_at HIL.out)
         rw [HC.out,if_neg (by decide)] at d3
         have f3:w3.frozen? ⟨w.heap.size+1+1,i,none⟩=false:=Go.Proofs.YtjlnpdpkobpkiaaGreatDoor.frozen_blk O3.out.dn i
         have O4:Hid (OrOk w n #[.string s,.slice A1 m c1,.int .i64 g,.slice (some ad) n c3,.int .i64 at_] (knownOf E out) (out++[i]) out (.slice A out.length c) (w3.setCell ⟨w.heap.size+1+1,i,none⟩ (.int .i64 1))):=hid (O3.out.set HIL.out)
         go_upto_region 18 with fail
         obtain ⟨w4,hw4⟩:∃x,x=w3.setCell ⟨w.heap.size+1+1,i,none⟩ (.int .i64 1):=⟨_,rfl⟩
         rw [←hw4] at O4 ⊢
         clear hw4 d3 f3
         have hrow:=O4.out.ow
         have hbase:=O4.out.base
         have hcap:out.length+1≤1000000:=Nat.le_trans HLT.out (Nat.le_trans hnl.out (by decide))
         clear O2 O3
         go_upto_region 19 with (at_builtin;go_must (refine wp_app1 (w.heap.size+3) rfl _ _ 39 3 (.int .i64 0) 1 8 rfl Tryz.underlying39 sfinfo rfl (by decide) (by decide) (.slice A out.length c) out.length (outV out) [.int .i64 (i:Int)] rfl rfl rfl (by simp [Value.oneCell']) hrow hbase (by omega) ?_);intro g5 cp5 w5 hown5 hg5 hor5;have O5:=hid (O4.out.app hown5 hg5);clear hown5 hg5 hor5 hrow hbase O4 hcap)
         have r5:w5.cell? ⟨w.heap.size,3,none⟩=some (.slice (some ad) n c3):=cell_blk O5.out.rb 3
         obtain ⟨p',ad',P1',e1',P2',e2',hadd,hp',hnd',hvs',h0,h1,h2,h3,h4,h5,h6,h7,h8,h9,h10,h11,h12,h13,h14,h15,l1,k1,l2,k2⟩:=sf_at HP.out (Kd.C_below HG.out O5.out.be) HN.out i HIL.out
         cases hadd
         rw [←HE.out] at hvs'
         have HV':=hid hvs'
         have HLn:=hid (learn_any hp' O5.out.kn (by rw [HE.out];exact sfknown HP.out HO.out hnl.out) (Nat.lt_of_lt_of_le (Nat.lt_succ_of_lt (Nat.lt_succ_self _)) O5.out.base) k1 l1 k2 l2)
         clear hp' hnd' hvs' k1 l1 k2 l2
         go_wp2_with fail
         refine HLn.out.mono ?_
         rintro e w6 ⟨rfl,hk6,hf6⟩
         have O6:=hid (O5.out.learn hk6 hf6)
         clear hk6 hf6 h0 h1 h2 h3 h4 h5 h6 h7 h8 h9 h10 h11 h12 h13 h14 h15 r5
         have HRd:=hid (or_round (E:=E) (by rw [HE.out,HN.out];rfl) HLT.out HIL.out HC.out (by rw [HV.out,←HX.out];rfl) HNR.out HR.out HU.out)
         go_wp2
         go_roundg (n-out.length)
         case measure=>exact HGK.out
         case rel=>
          obtain ⟨q1,q2,q3⟩:=HRd.out
          refine ⟨out++[i],_,_,by rw [List.length_append];rfl,hid q3,hid (sfmeas2 HGK.out HLT.out),hid q1,hid q2,?_⟩
          have:=O6.out
          rw [knownOf_app,HV'.out,List.length_append]
          exact this
       ·as_aux_lemma =>
         have HX:=hid hx
         have HZ:=hid hz
         have hne:=ne_isEmpty hz
         clear hx hz
         go_wp2
         go_roundg (n-i)
         case measure=>exact HG2.out
         case rel=>exact ⟨i+1,rfl,rfl,by first|rfl|(rw [w1i];done)|(simp [w1i];done),hid HIL.out,hid (sfmeas HG2.out HIL.out),hid (upto_step HNR.out (by rw [ready_eq HC.out,HV.out,←HX.out];simpa using HZ.out)),O3⟩
    ·as_aux_lemma =>
      obtain rfl:i=n:=Nat.le_antisymm HI.out (Nat.not_lt.1 hi)
      obtain ⟨f,hfl,hfv,hfp⟩:=or_first (E:=E) (by rw [HE.out,HN.out];rfl) HLT.out HU.out
      have HST:=hid (or_stuck (E:=E) (hv:=hv) (by rw [HE.out,HN.out];rfl) HLT.out HNR.out HR.out)
      rw [hfp] at HST
      have r3:wi.cell? ⟨w.heap.size,3,none⟩=some (.slice A3 i c3):=cell_blk O.out.rb 3
      obtain ⟨p,ad,P1,e1,P2,e2,rfl,hp,hnd,hvs,h0,h1,h2,h3,h4,h5,h6,h7,h8,h9,h10,h11,h12,h13,h14,h15,l1,k1,l2,k2⟩:=sf_at HP.out (Kd.C_below HG.out O.out.be) HN.out f hfl
      rw [←HE.out] at hnd
      rw [hnd] at HST
      have HQ:=hid hp
      have hi0:(0:Int)≤(f:Int):=Int.natCast_nonneg f
      have hi2:=sflt hfl
      have HNd:=hid (needs_any hp k1 l1 k2 l2)
      rw [hfv]
      clear hp hnd hvs k1 k2 l1 l2 hi hfl hfv hfp
      go_wp2_with fail
      refine HNd.out.mono ?_
      rintro e w2 ⟨N1,q1,rfl,hC,hb2⟩
      have O2:=hid (O.out.below hb2)
      have HLk:=hid (lacks_any (cp:=q1) O2.out.kn hC (Nat.le_trans HQ.out.ln (by decide)) HQ.out.sn)
      clear hC hb2 h0 h1 h2 h3 h4 h5 h6 h7 h8 h9 h10 h11 h12 h13 h14 h15 HNd O
      go_wp2_with fail
      refine HLk.out.mono ?_
      rintro e w3 ⟨rfl,hb3⟩
      have O3:=hid (O2.out.below hb3)
      clear hb3
      go_wp2_with fail
      refine (FNew_any 6 (f:Int) _ w3).mono ?_
      rintro e w4 ⟨bf,rfl,hF,hbf,hb4⟩
      have HF:=hid hF
      have HB4:=hid (O3.out.below hb4).be
      clear hF hb4
      go_wp2
      go_ret2
      rw [HST.out]
      exact ⟨bf,rfl,HF.out,HB4.out⟩
  ·as_aux_lemma =>
    have hol:out.length=n:=Nat.le_antisymm HO.out (Nat.not_lt.1 hlt)
    have HEN:=hid (or_end (E:=E) (hv:=hv) (by rw [HE.out,HN.out];rfl) hol HR.out)
    have r0:wo.cell? ⟨w.heap.size,0,none⟩=some (.string s):=cell_blk O.out.rb 0
    have r1:wo.cell? ⟨w.heap.size,1,none⟩=some (.slice A1 m c1):=cell_blk O.out.rb 1
    have HOL:=hid hol
    have HHo:=hid (HH.out _ O.out.be)
    have hlt2:¬((out.length:Int)<(n:Int)):=by rw [hol];exact Int.lt_irrefl _
    clear hlt hol
    go_wp2_with fail
    refine HHo.out.mono ?_
    rintro e w2 ⟨N1,q1,rfl,hC,hb2⟩
    have O2:=hid (O.out.below hb2)
    have HLk:=hid (lacks_any (cp:=q1) O2.out.kn hC (Nat.le_trans HL.out (by decide)) HS.out)
    clear hC hb2 r0 r1 O HHo
    go_wp2_with fail
    refine HLk.out.mono ?_
    rintro e w3 ⟨rfl,hb3⟩
    have O3:=hid (O2.out.below hb3)
    clear hb3
    have HEN2:=HEN.out
    obtain ⟨x,hx⟩:∃x,x=lackL (knownOf E out) hv:=⟨_,rfl⟩
    rw [←hx] at HEN2 ⊢
    by_cases hz:x.size=0
    ·rw [if_pos hz] at HEN2
     have HY:=hid HEN2
     obtain rfl:=bytes_nil hz
     clear HEN2 hx hz
     go_wp2
     go_ret2
     rw [HY.out]
     have hR:=Kd.R_of_own (h1:=fun _=>rfl) (enc:=fun x:Int=>Value.int .i64 x) (xs:=out.map fun (i:Nat)=>(i:Int)) (ok:=fun _=>True) (by have:=O3.out.ow;unfold outV at this;rw [List.length_map];unfold encs;rw [List.map_map];exact this) (fun _ _=>trivial)
     obtain ⟨h1,h2,h3⟩:=Kd.R_reads' hR
     rw [List.length_map] at h1 h3
     exact ⟨A,c,rfl,h2,h3,O3.out.be⟩
    ·rw [if_neg hz] at HEN2
     have HY:=hid HEN2
     have hne:=ne_isEmpty hz
     have r3:w3.cell? ⟨w.heap.size,3,none⟩=some (.slice A3 n c3):=cell_blk O3.out.rb 3
     clear HEN2 hx hz
     go_wp2_with fail
     refine (FNew_any 6 (n:Int) _ w3).mono ?_
     rintro e w4 ⟨bf,rfl,hF,hbf,hb4⟩
     have HF:=hid hF
     have HB4:=hid (O3.out.below hb4).be
     clear hF hb4
     go_wp2
     go_ret2
     rw [HY.out]
     exact ⟨bf,rfl,HF.out,HB4.out⟩
end Go.Proofs.YtjlnpdpkobpkiaaGreatDoorPSP
