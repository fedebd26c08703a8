import Derived.Test.YtjlnpdpkobpkiaaGreatDoorZ2Rq16
set_option linter.unusedVariables false
set_option linter.unusedSimpArgs false
namespace Go.Proofs.YtjlnpdpkobpkiaaGreatDoorPSP
open Go.RowKit Go.Extern.Stop Go.Stop Go.Extern Go.Proofs.YtjlnpdpkobpkiaaGreatDoorW.PrintWords Go.Proofs.YtjlnpdpkobpkiaaGreatDoor
def tokP (s:List UInt8):Except (Nat×Nat) (List Tk):=
  if 20000<s.length then .error (3,0) else match lexAll s with
  | .error (t,p)=> .error (t,s.length-p)
  | .ok ts=> .ok (placed s.length ts)
theorem progP_tok (s:List UInt8):progP nv s=match tokP s with
    | .error e=> .error e
    | .ok ts=>progL nv 200 ts:=by
  unfold progP tokP
  split
  · rfl
  · cases lexAll s with
    |error e=>rfl
    |ok ts=>rfl
def TokPost (w:World) (r:Except (Nat×Nat) (List Tk)) (e:Ending) (w':World):Prop:=match r with
  | .error (t,p)=>∃f what,e= .returned (.tuple #[.pointer none,faultV f])∧FaultAt w' f (t:Int) (p:Int) what .nilIface∧Below w.heap.size w w'
  | .ok ts=>∃E:Env,e= .returned (.tuple #[.pointer (some ⟨E.b,0,none⟩),.nilIface])∧At E w' 0 0 ts∧w.heap.size≤E.b∧w.heap.size≤E.g∧Below w.heap.size w w'
theorem tk_placed {w:World} {g sz:Nat} {ts:List Tk} (h:TksAt w g sz ts):TkAt w g (placed sz ts):=fun i t ht=>by
  unfold placed at ht
  rw [List.getElem?_map] at ht
  obtain ⟨u,hu,rfl⟩:=Option.map_eq_some_iff.1 ht
  exact h i u hu
set_option maxHeartbeats 4000000 in
set_option maxRecDepth 100000 in
theorem tokens_any (s:ByteArray) (hs:s.size≤1073741824) (w:World):
    Calls Tryz.prog 48 #[.string s] w (TokPost w (tokP s.data.toList)):=by
  have hsz:s.size=s.data.toList.length:=by rw [Array.length_toList];rfl
  have HZ:=hid hsz
  clear hsz
  by_cases hb:20000<s.size
  · have HT : Hid (tokP s.data.toList = .error (3, 0)) := by show _ = _; unfold tokP; rw [if_pos (by rw [← HZ.out]; exact hb)]
    have hb':(20000:Int)<(s.size:Int):=by omega
    go_enter Tryz.func48,Tryz.ntmps48
    go_wp2_with fail
    refine (FNew_any _ _ _ _).mono ?_
    rintro e w1 ⟨f,rfl,hF,hlf,hb1⟩
    have K:=hid (And.intro hF hb1)
    clear hF hb1
    go_wp2
    go_ret2
    rw [HT.out]
    exact ⟨f,_,rfl,K.out.1,K.out.2⟩
  · have hb' : ¬ (20000 : Int) < (s.size : Int) := by omega
    have HA:=hid (All_any (w:=w) hs)
    go_enter Tryz.func48,Tryz.ntmps48
    go_wp2_with fail
    refine HA.out.mono ?_
    rintro e w1 ⟨hbl,h⟩
    cases hl:lexAll s.data.toList with
    |error v=>
      obtain ⟨t,p⟩:=v
      have HT:Hid (tokP s.data.toList= .error (t,s.size-p)):=by
        show _=_
        unfold tokP
        rw [if_neg (by rw [←HZ.out];exact hb),hl]
        simp only
        rw [HZ.out]
      rw [hl] at h
      obtain ⟨f,what,rfl,hF⟩:=h
      have K:=hid (And.intro hF hbl)
      clear hF hbl hl
      go_wp2
      go_ret2
      rw [HT.out]
      exact ⟨f,what,rfl,K.out.1,K.out.2⟩
    |ok ts=>
      have HT:Hid (tokP s.data.toList= .ok (placed s.size ts)):=by
        show _=_
        unfold tokP
        rw [if_neg (by rw [←HZ.out];exact hb),hl]
        simp only
        rw [HZ.out]
      have hf:=lex_fine s.data.toList
      rw [hl] at hf h
      obtain ⟨hlen,v,rfl,hown⟩:=h
      obtain ⟨⟨us,hus⟩,_,hk,_⟩:=hf
      have hne:ts≠[]:=by rw [hus];simp
      obtain ⟨g,cap,rfl,hcap,hg,hgb,hat⟩:=toks_at hown hne
      have HL:Hid (ts.length≤30000):=by show _≤_;omega
      have HP:Hid (0<ts.length):=by show 0<_;rw [hus];simp
      have HK:=hid hk
      have HX:=hid (And.intro hbl (And.intro hat (And.intro hg hgb)))
      have HC:=hid hcap
      obtain ⟨n,hn⟩:∃n,n=ts.length:=⟨_,rfl⟩
      rw [←hn]
      have HN:=hid hn
      clear hl hown hk hat hbl hn hus hne hcap hlen
      go_wp2
      go_ret2
      rw [HT.out]
      have hpl:(placed s.size ts).length=ts.length:=by unfold placed;rw [List.length_map]
      refine ⟨⟨w1.heap.size,g,cap,placed s.size ts,by have:=HX.out.2.2.1;omega,by rw [hpl];exact HC.out,by rw [hpl];exact HL.out,fun i t ht=> ?_⟩,rfl,⟨?_,?_,?_,rfl⟩,HX.out.1.size,HX.out.2.2.2,HX.out.1.alloc (HX.out.1.size) _⟩
      · unfold placed at ht
        rw [List.getElem?_map] at ht
        obtain ⟨u,hu,rfl⟩:=Option.map_eq_some_iff.1 ht
        rw [hpl]
        exact (HK.out i u hu).2.2
      · have e : n = (placed s.size ts).length := HN.out.trans hpl.symm
        show (w1.alloc (.cells #[.slice (some ⟨g,0,none⟩) n cap,.int .i64 0,.int .i64 0] 185)).heap[w1.heap.size]? =some (.cells #[.slice (some ⟨g,0,none⟩) (placed s.size ts).length cap,.int .i64 0,.int .i64 0] 185 (0,0))
        rw [heap_alloc_new,e]
      · exact fun i t ht=>by
          obtain ⟨a,b,c,e⟩:=tk_placed HX.out.2.1 i t ht
          have F:Fr (fun _=>False) w1 (w1.alloc (.cells #[.slice (some ⟨g,0,none⟩) n cap,.int .i64 0,.int .i64 0] 185)):=(Fr.refl _ _).alloc _
          exact ⟨F.cell a (fun f=>f),F.cell b (fun f=>f),F.cell c (fun f=>f),F.cell e (fun f=>f)⟩
      · show 0 < (placed s.size ts).length
        rw [hpl]
        exact HP.out
end Go.Proofs.YtjlnpdpkobpkiaaGreatDoorPSP
set_option linter.unusedVariables false
set_option linter.unusedSimpArgs false
namespace Go.Proofs.YtjlnpdpkobpkiaaGreatDoorPSP
open Go.RowKit Go.Extern.Stop Go.Stop Go.Extern Go.Proofs.YtjlnpdpkobpkiaaGreatDoorW.PrintWords Go.Proofs.YtjlnpdpkobpkiaaGreatDoor
theorem field_kind (a:Int) (b c d:Value) (w:World):(Instr.field 68 (.agg #[.int .i64 a,b,c,d]) 0).run Tryz.prog w= .ok (.int .i64 a) w:=by kernel_rfl
structure PgOk (E:Env) (w:World) (bo:Nat) (ds:List Dl) (rs:List Rl) (D:Option Addr) (m cD:Nat) (R:Option Addr) (n cR:Nat) (wr:World) (j:Nat) (l:List Tk):Prop where
  at_:At E wr j 0 l
  ko:wr.heap[bo]? =some (.cells #[.slice D m cD,.slice R n cR] 83 (0,0))
  rd:Kd.N kD 126 wr (bo+1) (fun k=>bo<k∧some k≠(Value.slice R n cR).ownBlock) (.slice D m cD) ds
  rr:Kd.N kR 37 wr (bo+1) (fun k=>bo<k∧some k≠(Value.slice D m cD).ownBlock) (.slice R n cR) rs
  be:Below w.heap.size w wr
theorem PgOk.len {E:Env} {w:World} {bo:Nat} {ds:List Dl} {rs:List Rl} {D:Option Addr} {m cD:Nat} {R:Option Addr} {n cR:Nat} {wr:World} {j:Nat} {l:List Tk} (h:PgOk E w bo ds rs D m cD R n cR wr j l):m=ds.length∧n=rs.length:=
  ⟨(Kd.N_reads' h.rd).1,(Kd.N_reads' h.rr).1⟩
theorem PgOk.step {E:Env} {w:World} {bo:Nat} {ds:List Dl} {rs:List Rl} {D:Option Addr} {m cD:Nat} {R:Option Addr} {n cR:Nat} {wr w':World} {j j':Nat} {l l':List Tk} (h:PgOk E w bo ds rs D m cD R n cR wr j l)
    (lb:w.heap.size≤E.b) (lo:E.b<bo) (hf:Fr (fun i=>i=E.b) wr w') (ha:At E w' j' 0 l'):PgOk E w bo ds rs D m cD R n cR w' j' l':=
  ⟨ha, (hf.block _ (Go.Proofs.YtjlnpdpkobpkiaaGreatDoor.blk_lt h.ko) (by omega)).trans h.ko, Kd.N_step h.rd (fun i hi hlt => hf.block i hlt (by have := hi.1; omega)), Kd.N_step h.rr (fun i hi hlt => hf.block i hlt (by have := hi.1; omega)),
    h.be.trans (hf.below h.be.size (fun i hi=>by omega))⟩
theorem own_far {α:Type} {d:Kd α} {e:TypeId} {W:World} {base:Nat} {ok:Nat→Prop} {v u u1:Value} {xs:List α} {w_:World} {B:Nat} (h:Kd.N d e W base (fun k=>ok k∧some k≠u.ownBlock) v xs) (hf:Fr (fun k=>u.ownBlock=some k) W w_) (hat:u1.ownBlock=u.ownBlock∨∃b,u1.ownBlock=some b∧W.heap.size≤b):
    Kd.N d e w_ base (fun k=>ok k∧some k≠u1.ownBlock) v xs:=by
  refine Kd.N_mono (Kd.N_step (Kd.N_bound h) (fun k hk hlt=>hf.block k hlt (fun e=>hk.1.2 e.symm))) (fun k hk=>⟨hk.1.1,?_⟩)
  rcases hat with hat|⟨b,hb,hle⟩
  · rw [hat];exact hk.1.2
  · rw [hb]
    intro he
    injection he with he
    have:=hk.2
    omega
theorem PgOk.decl {E:Env} {w:World} {bo:Nat} {ds:List Dl} {rs:List Rl} {D D':Option Addr} {m m' cD cD':Nat} {R:Option Addr} {n cR:Nat} {W w_:World} {j:Nat} {l:List Tk} {x:Dl} (h:PgOk E w bo ds rs D m cD R n cR W j l)
    (lb:E.b<bo) (lg:E.g<bo) (lw:w.heap.size≤bo) (hN:Kd.N kD 126 w_ (bo+1) (fun k=>bo<k∧some k≠(Value.slice R n cR).ownBlock) (.slice D' m' cD') (ds++[x])) (hf:Fr (fun k=>(Value.slice D m cD).ownBlock=some k) W w_)
    (hat:(Value.slice D' m' cD').ownBlock=(Value.slice D m cD).ownBlock∨∃b,(Value.slice D' m' cD').ownBlock=some b∧W.heap.size≤b) (hk:w_.heap[bo]? =some (.cells #[.slice D m cD,.slice R n cR] 83 (0,0))):
    PgOk E w bo (ds++[x]) rs D' m' cD' R n cR (w_.setCell ⟨bo,0,none⟩ (.slice D' m' cD')) j l:=by
  have hS:Fr (fun i=>i=bo) w_ (w_.setCell ⟨bo,0,none⟩ (.slice D' m' cD')):=Fr.setCell w_ ⟨bo,0,none⟩ _
  have hown:∀i,(Value.slice D m cD).ownBlock=some i→bo<i:=fun i hi=>(h.rd.1 i hi).1
  refine ⟨(h.at_.keep hf (fun e=>by have:=hown _ e;omega) (fun e=>by have:=hown _ e;omega)).keep hS (by omega) (by omega),?_,Kd.N_step hN (fun i hi hlt=>hS.block i hlt (by have:=hi.1;omega)),Kd.N_step (own_far (B:=0) h.rr hf hat) (fun i hi hlt=>hS.block i hlt (by have:=hi.1;omega)),?_⟩
  · have := Go.Proofs.YtjlnpdpkobpkiaaGreatDoor.blk_set (o := 0) hk (.slice D' m' cD')
    rw [this]
    simp
  · exact h.be.trans (Fr.below ((hf.mono (G:=fun i=>bo≤i) (fun i _ e=>Nat.le_of_lt (hown i e))).trans (hS.mono (G:=fun i=>bo≤i) (fun i _ e=>by omega)) (fun i _ e=>e)) h.be.size (fun i hi=>by omega))
theorem PgOk.rule {E:Env} {w:World} {bo:Nat} {ds:List Dl} {rs:List Rl} {D:Option Addr} {m cD:Nat} {R R':Option Addr} {n n' cR cR':Nat} {W w_:World} {j:Nat} {l:List Tk} {x:Rl} (h:PgOk E w bo ds rs D m cD R n cR W j l)
    (lb:E.b<bo) (lg:E.g<bo) (lw:w.heap.size≤bo) (hN:Kd.N kR 37 w_ (bo+1) (fun k=>bo<k∧some k≠(Value.slice D m cD).ownBlock) (.slice R' n' cR') (rs++[x])) (hf:Fr (fun k=>(Value.slice R n cR).ownBlock=some k) W w_)
    (hat:(Value.slice R' n' cR').ownBlock=(Value.slice R n cR).ownBlock∨∃b,(Value.slice R' n' cR').ownBlock=some b∧W.heap.size≤b) (hk:w_.heap[bo]? =some (.cells #[.slice D m cD,.slice R n cR] 83 (0,0))):
    PgOk E w bo ds (rs++[x]) D m cD R' n' cR' (w_.setCell ⟨bo,1,none⟩ (.slice R' n' cR')) j l:=by
  have hS:Fr (fun i=>i=bo) w_ (w_.setCell ⟨bo,1,none⟩ (.slice R' n' cR')):=Fr.setCell w_ ⟨bo,1,none⟩ _
  have hown:∀i,(Value.slice R n cR).ownBlock=some i→bo<i:=fun i hi=>(h.rr.1 i hi).1
  refine ⟨(h.at_.keep hf (fun e=>by have:=hown _ e;omega) (fun e=>by have:=hown _ e;omega)).keep hS (by omega) (by omega),?_,Kd.N_step (own_far (B:=0) h.rd hf hat) (fun i hi hlt=>hS.block i hlt (by have:=hi.1;omega)),Kd.N_step hN (fun i hi hlt=>hS.block i hlt (by have:=hi.1;omega)),?_⟩
  · have := Go.Proofs.YtjlnpdpkobpkiaaGreatDoor.blk_set (o := 1) hk (.slice R' n' cR')
    rw [this]
    simp
  · exact h.be.trans (Fr.below ((hf.mono (G:=fun i=>bo≤i) (fun i _ e=>Nat.le_of_lt (hown i e))).trans (hS.mono (G:=fun i=>bo≤i) (fun i _ e=>by omega)) (fun i _ e=>e)) h.be.size (fun i hi=>by omega))
theorem PgOk.alloc {E:Env} {w:World} {bo:Nat} {ds:List Dl} {rs:List Rl} {D:Option Addr} {m cD:Nat} {R:Option Addr} {n cR:Nat} {W:World} {j:Nat} {l:List Tk} (h:PgOk E w bo ds rs D m cD R n cR W j l) (lb:w.heap.size≤E.b) (lo:E.b<bo) (o:Obj):PgOk E w bo ds rs D m cD R n cR (W.alloc o) j l:=
  h.step lb lo ((Fr.refl _ W).alloc o) (h.at_.alloc o)
theorem progL_0 {n:Nat} {l:List Tk} (h:(pk l 0).kind=0):progL nv n l= .ok ([],[]):=by cases n <;>rw [progL,if_pos h]
theorem progL_d {n:Nat} {l:List Tk} (h:(pk l 0).kind≠0) (hs:isS l 0 [64]=true):progL nv (n+1) l=(match declP l with
        | .error e=> .error e
        | .ok (d,l')=>(progL nv n l').map (fun r=>(d::r.1,r.2))):=by
  rw [progL,if_neg h,if_pos hs]
  cases declP l <;>rfl
theorem progL_r {n:Nat} {l:List Tk} (h:(pk l 0).kind≠0) (hs:isS l 0 [64]=false):progL nv (n+1) l=(match ruleP nv l with
        | .error e=> .error e
        | .ok (x,l')=>(progL nv n l').map (fun r=>(r.1,x::r.2))):=by
  rw [progL,if_neg h,if_neg (by rw [hs];decide)]
  cases ruleP nv l <;>rfl
def ProgPost (w:World) (r:Except (Nat×Nat) (List Dl×List Rl)) (e:Ending) (w':World):Prop:=match r with
  | .ok (ds,rs)=>∃(bo:Nat) (D R:Option Addr) (cD cR:Nat),e= .returned (.tuple #[.pointer (some ⟨bo,0,none⟩),.nilIface])∧w.heap.size≤bo∧w'.heap[bo]? =some (.cells #[.slice D ds.length cD,.slice R rs.length cR] 83 (0,0)) ∧
      ds.length≤cD∧Kd.F kD w' (fun k=>w.heap.size≤k) D ds.length ds∧rs.length≤cR∧Kd.F kR w' (fun k=>w.heap.size≤k) R rs.length rs∧Below w.heap.size w w'
  | .error (t,p)=>∃f what,e= .returned (.tuple #[.pointer none,faultV f])∧FaultAt w' f (t:Int) (p:Int) what .nilIface∧Below w.heap.size w w'
set_option maxHeartbeats 8000000 in
set_option maxRecDepth 100000 in
theorem Program_any (s:ByteArray) (hs:s.size≤1073741824) (w:World):
    Calls Tryz.prog 20 #[.string s] w (ProgPost w (progP nv s.data.toList)):=by
  have HT:=hid (tokens_any s hs w)
  have hfk:=field_kind
  clear hs
  go_enter Tryz.func20,Tryz.ntmps20
  go_wp2_with fail
  refine HT.out.mono ?_
  intro e w1 hp
  cases hr:tokP s.data.toList with
  |error v=>
    obtain ⟨t,p⟩:=v
    have HQ:Hid (progP nv s.data.toList= .error (t,p)):=by show _=_;rw [progP_tok,hr]
    rw [hr] at hp
    obtain ⟨f,what,rfl,hFa,hb⟩:=hp
    have K:=hid (And.intro hFa hb)
    clear hFa hb hr
    go_wp2
    go_ret2
    rw [HQ.out]
    exact ⟨f,what,rfl,K.out.1,K.out.2⟩
  |ok ts=>
    have HP:Hid (progP nv s.data.toList=progL nv 200 ts):=by show _=_;rw [progP_tok,hr]
    rw [hr] at hp
    obtain ⟨E,rfl,hA,hlb,hlg,hb⟩:=hp
    have lb:=hA.lb
    have lg:=hA.lg
    have S0:Hid (PgOk E w w1.heap.size [] [] none 0 0 none 0 0 (w1.alloc (.cells #[.slice none 0 0,.slice none 0 0] 83)) 0 ts):=hid ⟨hA.alloc _,heap_alloc_new w1 _,Kd.N_nil _ _ _ _ _,Kd.N_nil _ _ _ _ _,hb.alloc hb.size _⟩
    have lw:=hb.size
    have HPl:Hid (progP nv s.data.toList=(progL nv 200 ts).map (fun r=>([]++r.1,[]++r.2))):=by
      show _=_
      rw [HP.out]
      cases progL nv 200 ts <;>rfl
    clear hA hb hr HP HT
    go_wp2_with fail
    go_loopg [8] 202 (fun gk v wr=>w1.heap.size<wr.heap.size∧∃(ds:List Dl) (rs:List Rl) (D R:Option Addr) (m cD n cR q j:Nat) (l:List Tk),m+n+q=200∧q<gk∧Hid (PgOk E w w1.heap.size ds rs D m cD R n cR wr j l)∧Hid (progP nv s.data.toList=(progL nv q l).map (fun r=>(ds++r.1,rs++r.2))))
    case atStart=>exact ⟨by simp,[],[],none,none,0,0,0,0,200,0,ts,by decide,by decide,S0,HPl⟩
    case round=>
      clear S0 HPl
      obtain ⟨hsz,ds,rs,D,R,m,cD,n,cR,q,j,l,hq,hgk,S,HQ0⟩:=hrel
      obtain ⟨wo,rfl⟩:∃x:World,x=wr:=⟨_,rfl⟩
      obtain ⟨n0,hn0⟩:∃n:Int,((pk l 0).num:Int)=n:=⟨_,rfl⟩
      obtain ⟨p0,hp0⟩:∃n:Int,((pk l 0).start:Int)=n:=⟨_,rfl⟩
      obtain ⟨x0,hx0⟩:∃x,bL (pk l 0).text=x:=⟨_,rfl⟩
      obtain ⟨a0,ha0⟩:∃n:Int,((pk l 0).kind:Int)=n:=⟨_,rfl⟩
      have HPk:=hid (peek_at S.out.at_ 0 (by decide) ha0 hx0 hn0 hp0)
      by_cases h0:(pk l 0).kind=0
      · obtain rfl : (0 : Int) = a0 := by omega
        have HR:Hid (progP nv s.data.toList= .ok (ds,rs)):=by
          show _=_
          rw [HQ0.out,progL_0 h0]
          simp [Except.map]
        clear h0 hn0 hp0 hx0 ha0
        go_wp2_with fail
        refine HPk.out.mono ?_
        rintro e w2 ⟨rfl,hb2⟩
        have S2:=hid (S.out.step hlb lb (Fr.ofB hb2) (S.out.at_.below hb2))
        clear hb2
        go_wp2
        go_ret2
        rw [HR.out]
        obtain ⟨em,en⟩:=S2.out.len
        have hD:=Kd.N_F S2.out.rd
        have hR:=Kd.N_F S2.out.rr
        have h1:=(Kd.N_reads' S2.out.rd).2.1
        have h2:=(Kd.N_reads' S2.out.rr).2.1
        have hk:=S2.out.ko
        subst em en
        exact ⟨w1.heap.size,D,R,cD,cR,rfl,lw,hk,h1,Kd.F_mono hD (fun k hk=>by have:=hk.1;omega),h2,Kd.F_mono hR (fun k hk=>by have:=hk.1;omega),S2.out.be⟩
      · have ha1 : (a0 == 0) = false := beq_false_of_ne (by omega)
        have ha2:¬a0=0:=by omega
        have HK0:=hid h0
        clear h0 hn0 hp0 hx0 ha0
        go_wp2_with fail
        refine HPk.out.mono ?_
        rintro e w2 ⟨rfl,hb2⟩
        have S2:=hid (S.out.step hlb lb (Fr.ofB hb2) (S.out.at_.below hb2))
        have s2:=hb2.size
        obtain ⟨k0,k1,_⟩:=blk2 S2.out.ko
        have hm4:m≤200:=by omega
        have hn4:n≤200:=by omega
        clear hb2
        by_cases hq0:q=0
        · subst hq0
          have hsum:((m:Int)+(n:Int)==200)=true:=by simpa using (show (m:Int)+n=200 by omega)
          have HQ:Hid (progP nv s.data.toList= .error (3,(pk l 0).start)):=by
            show _=_
            rw [HQ0.out,progL,if_neg HK0.out]
            rfl
          go_wp2_with fail
          go_quiet (fail)
          have HFl:=hid (fail_any (S2.out.at_.keep (F:=fun _=>False) ((Fr.refl _ w2).drewN nq) (fun f=>f) (fun f=>f)) 3 ⟨#[114,117,108,101,115]⟩)
          go_wp2_with fail
          refine HFl.out.mono ?_
          rintro e w4 ⟨f,what,rfl,hFa,hlf,hb⟩
          have K:=hid (And.intro hFa hb)
          clear hFa hb
          go_wp2
          go_ret2
          rw [HQ.out]
          exact ⟨f,what,rfl,K.out.1,S2.out.be.trans ((((Fr.refl (fun _=>False) w2).drewN nq).old K.out.2).below S2.out.be.size (fun i h=>h.elim))⟩
        · obtain ⟨q1, rfl⟩ : ∃ q1, q = q1 + 1 := ⟨q - 1, by omega⟩
          have hsum:((m:Int)+(n:Int)==200)=false:=beq_false_of_ne (by omega)
          clear hq0
          go_wp2_with fail
          go_quiet (fail)
          have S3:=hid (S2.out.step hlb lb ((Fr.refl _ w2).drewN nq) (S2.out.at_.keep (F:=fun _=>False) ((Fr.refl _ w2).drewN nq) (fun f=>f) (fun f=>f)))
          have HI:=hid (is_any S3.out.at_ 0 (by decide) [64])
          clear k0 k1
          cases hs:isS l 0 [64] with
          |true=>
            have HS:=hid hs
            rw [hs] at HI
            clear hs
            go_wp2_with fail
            refine HI.out.mono ?_
            rintro e w4 ⟨rfl,hb4⟩
            have S4:=hid (S3.out.step hlb lb (Fr.ofB hb4) (S3.out.at_.below hb4))
            have HD:=hid (decl_any S4.out.at_ HS.out)
            clear hb4
            go_wp2_with fail
            refine HD.out.mono ?_
            intro e w5 hp
            cases hr:declP l with
            |error v=>
              obtain ⟨t,p⟩:=v
              have HQ:Hid (progP nv s.data.toList= .error (t,p)):=by
                show _=_
                rw [HQ0.out,progL_d HK0.out HS.out,hr]
                rfl
              rw [hr] at hp
              obtain ⟨f,what,u,rfl,⟨e0,e1,e2,rfl⟩,hFa,hlf,hF⟩:=hp
              have K:=hid (And.intro hFa (S4.out.be.trans (hF.below S4.out.be.size (fun i hi=>by omega))))
              clear hFa hF hr
              go_wp2
              go_ret2
              rw [HQ.out]
              exact ⟨f,what,rfl,(Lib.alloc_old w5 _ f (Go.Proofs.YtjlnpdpkobpkiaaGreatDoor.blk_lt K.out.1)).trans K.out.1,K.out.2.alloc K.out.2.size _⟩
            |ok v=>
              obtain ⟨x,l5⟩:=v
              have HQ1:Hid (progP nv s.data.toList=(progL nv q1 l5).map (fun r=>(ds++[x]++r.1,rs++r.2))):=by
                show _=_
                rw [HQ0.out,progL_d HK0.out HS.out,hr]
                simp only
                cases progL nv q1 l5 <;>simp [Except.map]
              rw [hr] at hp
              obtain ⟨j5,rfl,hA,hF⟩:=hp
              have SX:=hid ((S4.out.step hlb lb hF hA).alloc hlb lb (.cells #[.string x.f0,.bool x.f1,.int .i64 x.f2] 126))
              have s5:=hF.size
              have hlt5:=Go.Proofs.YtjlnpdpkobpkiaaGreatDoor.blk_lt S4.out.ko
              have FX:Hid (Kd.FK kD (w5.alloc (.cells #[.string x.f0,.bool x.f1,.int .i64 x.f2] 126)) (fun _=>False) x [.string x.f0,.bool x.f1,.int .i64 x.f2]):=hid (kD_mkF _ _ _)
              have KX:Hid ((w5.alloc (.cells #[.string x.f0,.bool x.f1,.int .i64 x.f2] 126)).heap[w5.heap.size]? =some (.cells #[.string x.f0,.bool x.f1,.int .i64 x.f2] 126)):=heap_alloc_new w5 _
              have NXo:Hid (∀k,(Value.slice D m cD).ownBlock=some k→k<w4.heap.size):=hid (fun k hk=>Kd.N_lt S4.out.rd k hk)
              have NXp:Hid (∀k,(Value.slice R n cR).ownBlock=some k→k<w4.heap.size):=hid (fun k hk=>Kd.N_lt S4.out.rr k hk)
              have z5:(w5.alloc (.cells #[.string x.f0,.bool x.f1,.int .i64 x.f2] 126)).heap.size=w5.heap.size+1:=by simp
              have hml:=SX.out.len.1
              have HML:=hid hml
              clear hA hF hr hml
              go_wp2_with fail
              rw [HML.out] at SX NXo ⊢
              refine rq12 (base:=w1.heap.size+1) (x:=x) (okp:=fun _=>False) _ _ _ _ _ _ _ _ _ _ _ _ _ _ _ _ _ _ _ _ _ _ _ _ _ _ _ _ _ _ _ _ _ _ _ _ _ _ _ _ _ _ _ _ _ _ _ _ _ _ _ _ _ _ _ _ _ _ _ _ _ _ _ _ _ _ _ _ _ _ _ _ _ _ _ _ _ (fun c a a' w hd h=>by cases a;cases a';simp only at hd;subst hd;exact h) (hid (by rw [z5];omega)) (hid SX.out.ko) KX (hid SX.out.rd) (hid (fun k h=>h.elim)) (hid (fun k hk=>⟨by rw [z5] at hk;omega,fun e=>by have:=NXp.out k e.symm;rw [z5] at hk;omega⟩)) (hid (fun k hk=>by have:=NXo.out k hk;omega)) FX (hid (by have:=HML.out;omega)) ?_
              intro v49 v50 v51 v52 v53 v54 v55 v56 v57 v58 A' c' w_ hN hfr hat hko
              have SN:=hid (SX.out.decl lb lg lw hN hfr hat hko)
              clear hN hfr hat hko
              go_wp2
              go_roundg (q1+1)
              case measure=>omega
              case rel=>
                have e:=HML.out
                exact ⟨Go.Proofs.YtjlnpdpkobpkiaaGreatDoor.blk_lt SN.out.ko,ds++[x],rs,A',R,ds.length+1,c',n,cR,q1,j5,l5,by omega,by omega,SN,HQ1⟩
          |false=>
            have HS:=hid hs
            rw [hs] at HI
            clear hs
            go_wp2_with fail
            refine HI.out.mono ?_
            rintro e w4 ⟨rfl,hb4⟩
            have S4:=hid (S3.out.step hlb lb (Fr.ofB hb4) (S3.out.at_.below hb4))
            have HD:=hid (rule_any S4.out.at_)
            clear hb4
            go_wp2_with fail
            refine HD.out.mono ?_
            intro e w5 hp
            cases hr:ruleP nv l with
            |error v=>
              obtain ⟨t,p⟩:=v
              have HQ:Hid (progP nv s.data.toList= .error (t,p)):=by
                show _=_
                rw [HQ0.out,progL_r HK0.out HS.out,hr]
                rfl
              rw [hr] at hp
              obtain ⟨f,what,u,rfl,⟨e0,A9,n9,c9,e1,B9,m9,d9,e2,rfl⟩,hFa,hlf,hF⟩:=hp
              have K:=hid (And.intro hFa (S4.out.be.trans (hF.below S4.out.be.size (fun i hi=>by omega))))
              clear hFa hF hr
              go_wp2
              go_ret2
              rw [HQ.out]
              exact ⟨f,what,rfl,(Lib.alloc_old w5 _ f (Go.Proofs.YtjlnpdpkobpkiaaGreatDoor.blk_lt K.out.1)).trans K.out.1,K.out.2.alloc K.out.2.size _⟩
            |ok v=>
              obtain ⟨x,l5⟩:=v
              have HQ1:Hid (progP nv s.data.toList=(progL nv q1 l5).map (fun r=>(ds++r.1,rs++[x]++r.2))):=by
                show _=_
                rw [HQ0.out,progL_r HK0.out HS.out,hr]
                simp only
                cases progL nv q1 l5 <;>simp [Except.map]
              rw [hr] at hp
              obtain ⟨j5,Aa,ca,Ab,cb,rfl,hA,hca,hKa,hcb,hKb,hF⟩:=hp
              have SX:=hid ((S4.out.step hlb lb hF hA).alloc hlb lb (.cells #[.string x.f0.f0,.slice Aa x.f0.f1.length ca,.int .i64 x.f1,.slice Ab x.f2.length cb,.int .i64 x.f3] 37))
              have s5:=hF.size
              have hlt5:=Go.Proofs.YtjlnpdpkobpkiaaGreatDoor.blk_lt S4.out.ko
              have FX:Hid (Kd.FK kR (w5.alloc (.cells #[.string x.f0.f0,.slice Aa x.f0.f1.length ca,.int .i64 x.f1,.slice Ab x.f2.length cb,.int .i64 x.f3] 37)) (fun k=>w4.heap.size≤k) x [.string x.f0.f0,.slice Aa x.f0.f1.length ca,.int .i64 x.f1,.slice Ab x.f2.length cb,.int .i64 x.f3]):=hid (kR_mkF _ _ _ hca (Kd.F_alloc hKa _) hcb (Kd.F_alloc hKb _))
              have KX:Hid ((w5.alloc (.cells #[.string x.f0.f0,.slice Aa x.f0.f1.length ca,.int .i64 x.f1,.slice Ab x.f2.length cb,.int .i64 x.f3] 37)).heap[w5.heap.size]? =some (.cells #[.string x.f0.f0,.slice Aa x.f0.f1.length ca,.int .i64 x.f1,.slice Ab x.f2.length cb,.int .i64 x.f3] 37)):=heap_alloc_new w5 _
              have NXo:Hid (∀k,(Value.slice R n cR).ownBlock=some k→k<w4.heap.size):=hid (fun k hk=>Kd.N_lt S4.out.rr k hk)
              have NXp:Hid (∀k,(Value.slice D m cD).ownBlock=some k→k<w4.heap.size):=hid (fun k hk=>Kd.N_lt S4.out.rd k hk)
              have z5:(w5.alloc (.cells #[.string x.f0.f0,.slice Aa x.f0.f1.length ca,.int .i64 x.f1,.slice Ab x.f2.length cb,.int .i64 x.f3] 37)).heap.size=w5.heap.size+1:=by simp
              have hml:=SX.out.len.2
              have HML:=hid hml
              clear hA hF hr hml hca hKa hcb hKb
              go_wp2_with fail
              rw [HML.out] at SX NXo ⊢
              refine rq16 (base:=w1.heap.size+1) (x:=x) (okp:=fun k=>w4.heap.size≤k) _ _ _ _ _ _ _ _ _ _ _ _ _ _ _ _ _ _ _ _ _ _ _ _ _ _ _ _ _ _ _ _ _ _ _ _ _ _ _ _ _ _ _ _ _ _ _ _ _ _ _ _ _ _ _ _ _ _ _ _ _ _ _ _ _ _ _ _ _ _ _ _ _ _ _ _ _ (fun c a a' w hd h=>by cases a;cases a';simp only at hd;subst hd;exact h) (hid (by rw [z5];omega)) (hid SX.out.ko) KX (hid SX.out.rr) (hid (fun k hk=>⟨⟨by omega,fun e=>by have:=NXp.out k e.symm;omega⟩,fun e=>by have:=NXo.out k e.symm;omega⟩)) (hid (fun k hk=>⟨by rw [z5] at hk;omega,fun e=>by have:=NXp.out k e.symm;rw [z5] at hk;omega⟩)) (hid (fun k hk=>by have:=NXo.out k hk;omega)) FX (hid (by have:=HML.out;omega)) ?_
              intro v49 v50 v51 v52 v53 v54 v55 v56 v57 v58 A' c' w_ hN hfr hat hko
              have SN:=hid (SX.out.rule lb lg lw hN hfr hat hko)
              clear hN hfr hat hko
              go_wp2
              go_roundg (q1+1)
              case measure=>omega
              case rel=>
                have e:=HML.out
                exact ⟨Go.Proofs.YtjlnpdpkobpkiaaGreatDoor.blk_lt SN.out.ko,ds,rs++[x],D,A',m,cD,rs.length+1,c',q1,j5,l5,by omega,by omega,SN,HQ1⟩
end Go.Proofs.YtjlnpdpkobpkiaaGreatDoorPSP
set_option linter.unusedVariables false
set_option linter.unusedSimpArgs false
namespace Go.Proofs.YtjlnpdpkobpkiaaGreatDoorPSP
open Go.RowKit Go.Extern.Stop Go.Stop Go.Extern Go.Proofs.YtjlnpdpkobpkiaaGreatDoorW.PrintWords Go.Proofs.YtjlnpdpkobpkiaaGreatDoor
def zR:Rl:=⟨zA,0,[],0⟩
theorem at_R {w:World} {A:Option Addr} {n:Nat} {xs:List Rl} (h:Kd.C kR w A n xs) (i:Nat) (hi:i<n):∃ad A1 c1 A3 c3,A=some ad∧w.cell? (ad.add (i*5))=some (.string (xs.getD i zR).f0.f0)∧w.cell? ⟨(ad.add (i*5)).block,(ad.add (i*5)).off+1,none⟩=some (.slice A1 (xs.getD i zR).f0.f1.length c1)∧w.cell? ⟨(ad.add (i*5)).block,(ad.add (i*5)).off+2,none⟩=some (.int .i64 (xs.getD i zR).f1)∧w.cell? ⟨(ad.add (i*5)).block,(ad.add (i*5)).off+3,none⟩=some (.slice A3 (xs.getD i zR).f2.length c3)∧w.cell? ⟨(ad.add (i*5)).block,(ad.add (i*5)).off+4,none⟩=some (.int .i64 (xs.getD i zR).f3)∧(xs.getD i zR).f0.f1.length≤c1∧Kd.C k98 w A1 (xs.getD i zR).f0.f1.length (xs.getD i zR).f0.f1∧(xs.getD i zR).f2.length≤c3∧Kd.C k106 w A3 (xs.getD i zR).f2.length (xs.getD i zR).f2:=by
  obtain ⟨ad,c,e,_,hK,hc0⟩:=Kd.C_get h zR (i:Int) (by omega) (by omega)
  have hc:∀j u,c[j]? =some u→w.cell? (ad.add (i*5+j))=some u:=hc0
  obtain ⟨A1,c1,A3,c3,rfl,l1,g1,l3,g3⟩:=kR_open hK
  exact ⟨ad,A1,c1,A3,c3,e,hc 0 _ rfl,by rw [←add_field _ _ 1 (by omega)];exact hc 1 _ rfl,by rw [←add_field _ _ 2 (by omega)];exact hc 2 _ rfl,by rw [←add_field _ _ 3 (by omega)];exact hc 3 _ rfl,by rw [←add_field _ _ 4 (by omega)];exact hc 4 _ rfl,l1,g1,l3,g3⟩
end Go.Proofs.YtjlnpdpkobpkiaaGreatDoorPSP
set_option linter.unusedVariables false
set_option linter.unusedSimpArgs false
namespace Go.Proofs.YtjlnpdpkobpkiaaGreatDoorPSP
open Go.RowKit Go.Extern.Stop Go.Stop Go.Extern Go.Proofs.YtjlnpdpkobpkiaaGreatDoorW.PrintWords Go.Proofs.YtjlnpdpkobpkiaaGreatDoor
def headT:List UInt8:=[112,40,88,41,32,58,45,32,113,40,88,44,32,89,41,44,32,89,32,62,32,45,49,46]
def headOk:Bool:=match progP nv headT with
  | .ok (_,[r])=>r.f2.length==2 && (r.f2.getD 1 z106).f4.f2== -1
  |_=>false
theorem head_ok:headOk=true:=by kernel_rfl
theorem head_prog:∃ds r,progP nv headT= .ok (ds,[r])∧r.f2.length=2∧(r.f2.getD 1 z106).f4.f2= -1:=by
  have h:=head_ok
  unfold headOk at h
  split at h
  · rename_i ds r e
    rw [Bool.and_eq_true,beq_iff_eq,beq_iff_eq] at h
    exact ⟨ds,r,e,h.1,h.2⟩
  · cases h
set_option maxRecDepth 100000 in
theorem head14_any (w:World):Calls Tryz.prog 16 #[] w fun e w'=>e= .returned (.bool true)∧Below w.heap.size w w':=by
  obtain ⟨ds,r,hp,h2,hn⟩:=head_prog
  have HP:=hid (Program_any ⟨⟨headT⟩⟩ (by decide) w)
  have HH:=hid hp
  have HN:=hid hn
  have H2:=hid h2
  clear hp hn h2
  go_enter Tryz.func16,Tryz.ntmps16
  go_wp2_with fail
  refine HP.out.mono ?_
  intro e w1 hp
  simp only [HH.out] at hp
  obtain ⟨bo,D,R,cD,cR,rfl,hbo,hk,lD,fD,lR,fR,hb⟩:=hp
  have HB:=hid hb
  obtain ⟨p0,p1,_,_⟩:=blk2 hk
  obtain ⟨ad1,A1,c1,A3,c3,rfl,x0,x1,x2,x3,x4,xl1,xg1,xl3,xg3⟩:=at_R (Kd.F_now fR) 0 (by simp)
  rw [show [r].getD 0 zR=r from rfl] at x0 x1 x2 x3 x4 xl1 xg1 xl3 xg3
  rw [H2.out] at x3 xl3 xg3
  obtain ⟨ad2,A2,c2,A15,c15,rfl,y0,y1,y2,y3,y4,y5,y6,y7,y8,y9,y10,y11,y12,y13,y14,y15,l2,g2,l15,g15⟩:=at_T106 xg3 1 (by decide) (by decide)
  have hn:(rd_T106 r.f2 1).f4.f2= -1:=HN.out
  rw [hn] at y9
  clear xg1 xg3 g2 g15 y0 y1 y2 y3 y4 y5 y6 y7 y8 y10 y11 y12 y13 y14 y15 hn hb fD fR
  have x3':w1.cell? ⟨ad1.block,ad1.off+3,none⟩=some (.slice (some ad2) 2 c3):=x3
  have y9':w1.cell? ⟨ad2.block,ad2.off+16+7+2,none⟩=some (.int .i64 (-1)):=y9
  clear x3 y9
  go_wp2_with fail
  go_ret
  exact ⟨rfl,HB.out⟩
end Go.Proofs.YtjlnpdpkobpkiaaGreatDoorPSP
