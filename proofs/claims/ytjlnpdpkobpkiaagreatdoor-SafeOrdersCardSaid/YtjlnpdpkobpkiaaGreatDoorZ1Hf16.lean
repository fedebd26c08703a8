import Derived.Test.YtjlnpdpkobpkiaaGreatDoorZ1AtR
import Derived.Test.YtjlnpdpkobpkiaaGreatDoorZ1Sfw
import Derived.Test.YtjlnpdpkobpkiaaGreatDoorZ1PSQx8
set_option linter.unusedVariables false
set_option linter.unusedSimpArgs false
namespace Go.Proofs.YtjlnpdpkobpkiaaGreatDoorPSP
open Go.RowKit Go.Extern.Stop Go.Stop Go.Extern Go.Proofs.YtjlnpdpkobpkiaaGreatDoorW.PrintWords Go.Proofs.YtjlnpdpkobpkiaaGreatDoor
def goodB (p:SfP):Bool:=(pvF p).isSome && (decide (p.f0≠3)||(xvF p.f6).isSome) && decide ((partV p).length≤100000) && decide ((needV p).length≤100000) && (partV p).all (fun u=>decide (u.size≤100)) && (needV p).all (fun u=>decide (u.size≤100))
theorem goodB_is {p:SfP} (h:goodB p=true):PGood p:=by
 unfold goodB at h
 simp only [Bool.and_eq_true,Bool.or_eq_true,decide_eq_true_eq,List.all_eq_true] at h
 obtain ⟨⟨⟨⟨⟨h1,h2⟩,h3⟩,h4⟩,h5⟩,h6⟩:=h
 refine ⟨?_,fun h0=> ?_,h3,h4,fun u hu=>Nat.le_trans (h5 u hu) (by decide),fun u hu=>Nat.le_trans (h6 u hu) (by decide)⟩
 ·obtain ⟨v, hv⟩ := Option.isSome_iff_exists.1 h1
  unfold partV
  rw [hv]
  rfl
 ·rcases h2 with h2 | h2
  ·exact absurd h0 h2
  ·obtain ⟨v, hv⟩ := Option.isSome_iff_exists.1 h2
   unfold exprV
   rw [hv]
   rfl
def headGoodB (s:ByteArray) (ts:List S98):Bool:=(avF s ts).isSome && decide ((headV s ts).length≤100000) && (headV s ts).all (fun u=>decide (u.size≤100))
theorem headGoodB_is {s:ByteArray} {ts:List S98} (h:headGoodB s ts=true):avF s ts=some (headV s ts)∧(headV s ts).length≤100000∧∀u∈headV s ts,u.size≤maxLen:=by
 unfold headGoodB at h
 simp only [Bool.and_eq_true,decide_eq_true_eq,List.all_eq_true] at h
 obtain ⟨⟨h1,h2⟩,h3⟩:=h
 obtain ⟨v,hv⟩:=Option.isSome_iff_exists.1 h1
 exact ⟨by unfold headV;rw [hv];rfl,h2,fun u hu=>Nat.le_trans (h3 u hu) (by decide)⟩
def head16T:List UInt8:=[112,40,88,41,32,58,45,32,89,32,60,32,51,44,32,113,40,88,44,89,41,44,32,110,111,116,32,114,40,89,41,46]
def head16Ok:Bool:=match progP nv head16T with
 | .ok (_,[r])=>r.f2.all goodB && headGoodB r.f0.f0 r.f0.f1 && decide (r.f2.length≤1000) && (match orderP (entsOf r.f2) (headV r.f0.f0 r.f0.f1) with
  | .ok l=>l==[1,0,2]
  | .error _=>false)
 |_=>false
theorem head16_ok:head16Ok=true:=by kernel_rfl
theorem head16_prog:∃ds r,progP nv head16T= .ok (ds,[r])∧(∀p∈r.f2,PGood p)∧(avF r.f0.f0 r.f0.f1=some (headV r.f0.f0 r.f0.f1)∧(headV r.f0.f0 r.f0.f1).length≤100000∧∀u∈headV r.f0.f0 r.f0.f1,u.size≤maxLen)∧r.f2.length≤1000∧orderP (entsOf r.f2) (headV r.f0.f0 r.f0.f1)= .ok [1,0,2]:=by
 have h:=head16_ok
 unfold head16Ok at h
 split at h
 ·rename_i ds r e
  simp only [Bool.and_eq_true,decide_eq_true_eq,List.all_eq_true] at h
  obtain ⟨⟨⟨h1,h2⟩,h3⟩,h4⟩:=h
  refine ⟨ds,r,e,fun p hp=>goodB_is (h1 p hp),headGoodB_is h2,h3,?_⟩
  cases ho:orderP (entsOf r.f2) (headV r.f0.f0 r.f0.f1) with
  |error e=>rw [ho] at h4;cases h4
  |ok l=>rw [ho] at h4;rw [eq_of_beq h4]
 ·cases h
end Go.Proofs.YtjlnpdpkobpkiaaGreatDoorPSP
set_option linter.unusedVariables false
set_option linter.unusedSimpArgs false
namespace Go.Proofs.YtjlnpdpkobpkiaaGreatDoorPSP
open Go.RowKit Go.Extern.Stop Go.Stop Go.Extern Go.Proofs.YtjlnpdpkobpkiaaGreatDoorW.PrintWords Go.Proofs.YtjlnpdpkobpkiaaGreatDoor
theorem at_RF {w:World} {ok:Nat→Prop} {A:Option Addr} {n:Nat} {xs:List Rl} (h:Kd.F kR w ok A n xs) (i:Nat) (hi:i<n):∃ad A1 c1 A3 c3,A=some ad∧w.cell? (ad.add (i*5))=some (.string (xs.getD i zR).f0.f0)∧w.cell? ⟨(ad.add (i*5)).block,(ad.add (i*5)).off+1,none⟩=some (.slice A1 (xs.getD i zR).f0.f1.length c1)∧w.cell? ⟨(ad.add (i*5)).block,(ad.add (i*5)).off+2,none⟩=some (.int .i64 (xs.getD i zR).f1)∧w.cell? ⟨(ad.add (i*5)).block,(ad.add (i*5)).off+3,none⟩=some (.slice A3 (xs.getD i zR).f2.length c3)∧w.cell? ⟨(ad.add (i*5)).block,(ad.add (i*5)).off+4,none⟩=some (.int .i64 (xs.getD i zR).f3)∧(xs.getD i zR).f0.f1.length≤c1∧(xs.getD i zR).f2.length≤c3 ∧
  ∀W':World,(∀k,ok k→k<w.heap.size→W'.heap[k]? =w.heap[k]?)→Kd.C k98 W' A1 (xs.getD i zR).f0.f1.length (xs.getD i zR).f0.f1∧Kd.C k106 W' A3 (xs.getD i zR).f2.length (xs.getD i zR).f2:=by
 obtain ⟨ad,c,e,_,hK,hc0,_⟩:=Kd.F_get h zR (i:Int) (by omega) (by omega)
 have hc:∀j u,c[j]? =some u→w.cell? (ad.add (i*5+j))=some u:=hc0
 have hKi:Kd.FK kR w ok (xs.getD i zR) c:=hK
 obtain ⟨A1,c1,A3,c3,rfl,l1,g1,l3,g3⟩:=kR_open (hKi w (fun _ _ _=>rfl))
 refine ⟨ad,A1,c1,A3,c3,e,hc 0 _ rfl,by rw [←add_field _ _ 1 (by omega)];exact hc 1 _ rfl,by rw [←add_field _ _ 2 (by omega)];exact hc 2 _ rfl,by rw [←add_field _ _ 3 (by omega)];exact hc 3 _ rfl,by rw [←add_field _ _ 4 (by omega)];exact hc 4 _ rfl,l1,l3,fun W' hW=> ?_⟩
 obtain ⟨B1,b1,B3,b3,he,_,k1,_,k3⟩:=kR_open (hKi W' hW)
 injection he with _ he
 injection he with he1 he
 injection he with _ he
 injection he with he3 _
 injection he1 with e1 _ _
 injection he3 with e3 _ _
 subst e1 e3
 exact ⟨k1,k3⟩
def OnePost16 (w:World) (r:Rl) (e:Ending) (w':World):Prop:=∃(A1:Option Addr) (c1:Nat) (A3:Option Addr) (c3:Nat),e= .returned (.tuple #[.agg #[.string r.f0.f0,.slice A1 r.f0.f1.length c1,.int .i64 r.f1,.slice A3 r.f2.length c3,.int .i64 r.f3],.bool true]) ∧
 Kd.C k98 w' A1 r.f0.f1.length r.f0.f1∧r.f0.f1.length≤c1∧Kd.C k106 w' A3 r.f2.length r.f2∧r.f2.length≤c3∧Below w.heap.size w w'
set_option maxRecDepth 100000 in
set_option maxHeartbeats 1000000 in
theorem rule_one {t:List UInt8} (ht:t.length≤1000) {ds:List Dl} {r:Rl} (hp:progP nv t= .ok (ds,[r])) (w:World):Calls Tryz.prog 31 #[.string ⟨⟨t⟩⟩] w (OnePost16 w r):=by
 have hsz:(⟨⟨t⟩⟩:ByteArray).size≤1073741824:=Nat.le_trans (show t.length≤1000 from ht) (by decide)
 have HP:=hid (fun W=>Program_any ⟨⟨t⟩⟩ hsz W)
 have HH:=hid hp
 clear hp ht hsz
 obtain ⟨u,hu⟩:∃u:ByteArray,u=⟨⟨t⟩⟩:=⟨_,rfl⟩
 rw [←hu] at HP ⊢
 have HU:=hid hu
 clear hu
 go_enter Tryz.func31,Tryz.ntmps31
 go_wp2_with fail
 have hk0:(w.alloc (.cells #[.string ⟨#[]⟩,.slice none 0 0,.int .i64 0,.slice none 0 0,.int .i64 0] 37)).heap[w.heap.size]? =some (.cells #[.string ⟨#[]⟩,.slice none 0 0,.int .i64 0,.slice none 0 0,.int .i64 0] 37 (0,0)):=heap_alloc_new w _
 have ha0:Below w.heap.size w (w.alloc (.cells #[.string ⟨#[]⟩,.slice none 0 0,.int .i64 0,.slice none 0 0,.int .i64 0] 37)):=(Below.refl _ _).alloc (Nat.le_refl _) _
 have hk0':=hid hk0
 have ha0':=hid ha0
 clear hk0 ha0
 refine (HP.out _).mono ?_
 intro e w2 hp
 have hpr:progP nv u.data.toList= .ok (ds,[r]):=by rw [HU.out];exact HH.out
 rw [hpr] at hp
 obtain ⟨bo,D,R,cD,cR,rfl,hbo,hk,lD,fD,lR,fR,hb⟩:=hp
 have HK:=hid (bB hk0'.out hb)
 have HB:=hid (lT_ ha0'.out hb)
 obtain ⟨p0,p1,_,_⟩:=blk2 hk
 obtain ⟨ad1,A1,c1,A3,c3,rfl,x0,x1,x2,x3,x4,xl1,xl3,xg⟩:=at_RF fR 0 (by simp)
 rw [show [r].getD 0 zR=r from rfl] at x0 x1 x2 x3 x4 xl1 xl3 xg
 have x0':w2.cell? ad1=some (.string r.f0.f0):=by
  have e:ad1.add (0*5)=ad1:=by unfold Addr.add;simp
  rwa [e] at x0
 have x1':w2.cell? ⟨ad1.block,ad1.off+1,none⟩=some (.slice A1 r.f0.f1.length c1):=x1
 have x2':w2.cell? ⟨ad1.block,ad1.off+2,none⟩=some (.int .i64 r.f1):=x2
 have x3':w2.cell? ⟨ad1.block,ad1.off+3,none⟩=some (.slice A3 r.f2.length c3):=x3
 have x4':w2.cell? ⟨ad1.block,ad1.off+4,none⟩=some (.int .i64 r.f3):=x4
 have HL1:=hid xl1
 have HG:=hid xg
 have HL3:=hid xl3
 have q0:w2.cell? ⟨w.heap.size,0,none⟩=some (.string ⟨#[]⟩):=cell_blk HK.out 0
 have q1:w2.cell? ⟨w.heap.size,1,none⟩=some (.slice none 0 0):=cell_blk HK.out 1
 have q2:w2.cell? ⟨w.heap.size,2,none⟩=some (.int .i64 0):=cell_blk HK.out 2
 have q3:w2.cell? ⟨w.heap.size,3,none⟩=some (.slice none 0 0):=cell_blk HK.out 3
 have q4:w2.cell? ⟨w.heap.size,4,none⟩=some (.int .i64 0):=cell_blk HK.out 4
 have z0:w2.frozen? ⟨w.heap.size,0,none⟩=false:=Go.Proofs.YtjlnpdpkobpkiaaGreatDoor.frozen_blk HK.out 0
 have z1:w2.frozen? ⟨w.heap.size,1,none⟩=false:=Go.Proofs.YtjlnpdpkobpkiaaGreatDoor.frozen_blk HK.out 1
 have z2:w2.frozen? ⟨w.heap.size,2,none⟩=false:=Go.Proofs.YtjlnpdpkobpkiaaGreatDoor.frozen_blk HK.out 2
 have z3:w2.frozen? ⟨w.heap.size,3,none⟩=false:=Go.Proofs.YtjlnpdpkobpkiaaGreatDoor.frozen_blk HK.out 3
 have z4:w2.frozen? ⟨w.heap.size,4,none⟩=false:=Go.Proofs.YtjlnpdpkobpkiaaGreatDoor.frozen_blk HK.out 4
 clear hk hbo lD fD lR fR hb xl1 xl3 xg x0 x1 x2 x3 x4 hpr
 go_wp2_with fail
 have hS:Fr (fun k=>k=w.heap.size) w2 (((((w2.setCell ⟨w.heap.size,0,none⟩ (.string r.f0.f0)).setCell ⟨w.heap.size,1,none⟩ (.slice A1 r.f0.f1.length c1)).setCell ⟨w.heap.size,2,none⟩ (.int .i64 r.f1)).setCell ⟨w.heap.size,3,none⟩ (.slice A3 r.f2.length c3)).setCell ⟨w.heap.size,4,none⟩ (.int .i64 r.f3)):=
  ((((Fr.setCell w2 ⟨w.heap.size,0,none⟩ _).trans (Fr.setCell _ ⟨w.heap.size,1,none⟩ _) (fun i _ e=>e)).trans (Fr.setCell _ ⟨w.heap.size,2,none⟩ _) (fun i _ e=>e)).trans (Fr.setCell _ ⟨w.heap.size,3,none⟩ _) (fun i _ e=>e)).trans (Fr.setCell _ ⟨w.heap.size,4,none⟩ _) (fun i _ e=>e)
 have hk1:=Go.Proofs.YtjlnpdpkobpkiaaGreatDoor.blk_set (o:=0) HK.out (.string r.f0.f0)
 have hk2:=Go.Proofs.YtjlnpdpkobpkiaaGreatDoor.blk_set (o:=1) hk1 (.slice A1 r.f0.f1.length c1)
 have hk3:=Go.Proofs.YtjlnpdpkobpkiaaGreatDoor.blk_set (o:=2) hk2 (.int .i64 r.f1)
 have hk4:=Go.Proofs.YtjlnpdpkobpkiaaGreatDoor.blk_set (o:=3) hk3 (.slice A3 r.f2.length c3)
 have hk5:=Go.Proofs.YtjlnpdpkobpkiaaGreatDoor.blk_set (o:=4) hk4 (.int .i64 r.f3)
 obtain ⟨wf,hwf⟩:∃x,x=((((w2.setCell ⟨w.heap.size,0,none⟩ (.string r.f0.f0)).setCell ⟨w.heap.size,1,none⟩ (.slice A1 r.f0.f1.length c1)).setCell ⟨w.heap.size,2,none⟩ (.int .i64 r.f1)).setCell ⟨w.heap.size,3,none⟩ (.slice A3 r.f2.length c3)).setCell ⟨w.heap.size,4,none⟩ (.int .i64 r.f3):=⟨_,rfl⟩
 rw [←hwf] at hS hk5 ⊢
 obtain ⟨⟨r0,r1,r2,r3,r4⟩,_⟩:=blk5 (hk5.trans rfl)
 obtain ⟨g1,g3⟩:=HG.out wf (fun k hk hlt=>hS.block k hlt (by have hk':(w.alloc _).heap.size≤k:=hk;simp at hk';omega))
 refine bodyPost_ret (v:= .tuple #[.agg #[.string r.f0.f0,.slice A1 r.f0.f1.length c1,.int .i64 r.f1,.slice A3 r.f2.length c3,.int .i64 r.f3],.bool true]) (by simp [results,Tryz.results31,go_sem,r0,r1,r2,r3,r4]) rfl ?_
 exact ⟨A1,c1,A3,c3,rfl,g1,HL1.out,g3,HL3.out,HB.out.trans (hS.below HB.out.size (fun i e=>by omega))⟩
end Go.Proofs.YtjlnpdpkobpkiaaGreatDoorPSP
set_option linter.unusedVariables false
set_option linter.unusedSimpArgs false
namespace Go.Proofs.YtjlnpdpkobpkiaaGreatDoorPSP
open Go.RowKit Go.Extern.Stop Go.Stop Go.Extern Go.Proofs.YtjlnpdpkobpkiaaGreatDoorW.PrintWords Go.Proofs.YtjlnpdpkobpkiaaGreatDoor
theorem C_one {α:Type} (d:Kd α) {w:World} {b t:Nat} {cs:Array Value} (hb:w.heap[b]? =some (.cells cs t)) (x0:α) (c0:List Value) (h0:d.K w x0 c0) (hcs:cs.toList=c0):
  Kd.C d w (some ⟨b,0,none⟩) [x0].length [x0]:=by
 have l0:=d.K_len h0
 refine ⟨rfl,(show 1≤9223372036854775807 by decide),fun _=>⟨_,rfl,fun j p hp=> ?_⟩⟩
 cases j with
 |zero=>
  obtain rfl:=Option.some.inj hp
  refine ⟨c0,l0,h0,fun i u hu=> ?_⟩
  rw [Nat.zero_mul,Nat.zero_add]
  have e:cs[i]? =some u:=by rw [←hcs] at hu;simpa using hu
  have:=bC hb i
  rw [e] at this
  unfold Addr.add
  split
  ·rename_i h; subst h; exact this
  ·rw [Nat.zero_add]; exact this
 |succ j=>simp at hp
theorem C_ints {w:World} {b t:Nat} (xs:List Int) (hl:xs.length≤1000) (hb:w.heap[b]? =some (.cells (xs.map fun x=>Value.int .i64 x).toArray t (0,0))):Kd.C (Kd.int .i64) w (some ⟨b,0,none⟩) xs.length xs:=by
 refine ⟨rfl,by omega,fun _=>⟨_,rfl,fun j p hp=>⟨[.int .i64 p],rfl,rfl,fun i u hu=> ?_⟩⟩⟩
 have hj:=(List.getElem?_eq_some_iff.1 hp).1
 have hi:i=0:=by
  have:=(List.getElem?_eq_some_iff.1 hu).1
  simpa using this
 subst hi
 have hu':u= .int .i64 p:=by simpa using hu.symm
 rw [hu',Go.Proofs.YtjlnpdpkobpkiaaGreatDoor.addr_add,Go.Proofs.YtjlnpdpkobpkiaaGreatDoor.cell_blk hb]
 simp [hp,Kd.int,Kd.scalar]
theorem same_ok:ergolaw16_same.f 100 [1,0,2] [1,0,2]=some true:=by kernel_rfl
set_option maxRecDepth 100000 in
set_option maxHeartbeats 1000000 in
theorem head16_any (w:World):Calls Tryz.prog 7 #[] w fun e w'=>e= .returned (.bool true)∧Below w.heap.size w w':=by
 obtain ⟨ds,r,hp,hg,hh,hl,ho⟩:=head16_prog
 have HR:=hid (fun W=>rule_one (t:=head16T) (by decide) hp W)
 have HO:Hid (∀(W:World) (A1 A3:Option Addr) (c1 c3:Nat),Kd.C k98 W A1 r.f0.f1.length r.f0.f1→r.f0.f1.length≤c1→Kd.C k106 W A3 r.f2.length r.f2→r.f2.length≤c3 →
   Calls Tryz.prog 11 #[.agg #[.string r.f0.f0,.slice A1 r.f0.f1.length c1,.int .i64 r.f1,.slice A3 r.f2.length c3,.int .i64 r.f3]] W (OrderPost W (.ok [1,0,2]))):=fun W A1 A3 c1 c3 g1 l1 g3 l3=>by
  have:=Order_any r.f0.f0 r.f0.f1 r.f1 r.f2 r.f3 hg hh.1 hh.2.1 hh.2.2 hl g1 l1 g3 l3
  rwa [ho] at this
 clear hp hg hh hl ho
 go_enter Tryz.func7,Tryz.ntmps7
 go_wp2_with fail
 refine (HR.out _).mono ?_
 rintro e w1 ⟨A1,c1,A3,c3,rfl,g1,l1,g3,l3,hb1⟩
 have hfd:∀(W:World),True:=fun _=>trivial
 have HB1:=hid hb1
 have ha:=fun (o:Obj)=>(show Below w1.heap.size w1 (w1.alloc o) from (Below.refl _ _).alloc (Nat.le_refl _) _)
 have HC1:=hid (fun o=>Kd.C_below g1 (ha o))
 have HC3:=hid (fun o=>Kd.C_below g3 (ha o))
 have L1:=hid l1
 have L3:=hid l3
 clear hb1 g1 l1 g3 l3 ha hfd
 go_wp2_with fail
 refine (HO.out _ A1 A3 c1 c3 (HC1.out _) L1.out (HC3.out _) L3.out).mono ?_
 rintro e w2 ⟨B,b,rfl,hlb,hC,hb2⟩
 have HB2:=hid (lT_ ((HB1.out).alloc HB1.out.size _) hb2)
 have hC':Kd.C (Kd.int .i64) (w2.alloc (.cells #[.int .i64 1,.int .i64 0,.int .i64 2] 3)) B 3 [1,0,2]:=Kd.C_below hC ((Below.refl _ _).alloc (Nat.le_refl _) _)
 have hI:Kd.C (Kd.int .i64) (w2.alloc (.cells #[.int .i64 1,.int .i64 0,.int .i64 2] 3)) (some ⟨w2.heap.size,0,none⟩) 3 [1,0,2]:=C_ints [1,0,2] (by decide) (heap_alloc_new w2 _)
 have HC:=hid hC'
 have HI:=hid hI
 have HLB:=hid hlb
 have HB3:=hid ((HB2.out).alloc HB2.out.size (.cells #[.int .i64 1,.int .i64 0,.int .i64 2] 3))
 clear hC hC' hI hb2 hlb
 go_wp2_with fail
 refine (ergolaw16_same.calls 100 B b [1,0,2] (some ⟨w2.heap.size,0,none⟩) 3 [1,0,2] true _ HC.out HLB.out HI.out (Nat.le_refl _) same_ok).mono ?_
 rintro e w3 ⟨rfl,hd⟩
 have HB4:=hid (lT_ HB3.out hd.below)
 clear hd
 go_wp2
 go_ret
 exact ⟨rfl,HB4.out⟩
end Go.Proofs.YtjlnpdpkobpkiaaGreatDoorPSP
