import Derived.Test.YtjlnpdpkobpkiaaGreatDoorZ2Pr19
import Derived.Test.YtjlnpdpkobpkiaaGreatDoorZ2W1
set_option linter.unusedVariables false
set_option linter.unusedSimpArgs false
namespace Go.Proofs.YtjlnpdpkobpkiaaGreatDoorPSP
open Go.RowKit Go.Extern.Stop Go.Stop Go.Extern Go.Proofs.YtjlnpdpkobpkiaaGreatDoorW.PrintWords Go.Proofs.YtjlnpdpkobpkiaaGreatDoorW.PrintLast Go.Proofs.YtjlnpdpkobpkiaaGreatDoor
def kD:Kd Dl:=Kd.iso (Kd.pair Kd.string (Kd.pair Kd.bool (Kd.int .i64))) (fun x:Dl=>(x.f0,x.f1,x.f2))
theorem kD_mk (w:World) (x:Dl):kD.K w x [.string x.f0,.bool x.f1,.int .i64 x.f2]:=⟨[.string x.f0],[.bool x.f1,.int .i64 x.f2],rfl,rfl,⟨[.bool x.f1],[.int .i64 x.f2],rfl,rfl,rfl⟩⟩
theorem kD_mkF (W:World) (ok:Nat→Prop) (x:Dl):Kd.FK kD W ok x [.string x.f0,.bool x.f1,.int .i64 x.f2]:=fun W2 _=>kD_mk W2 x
def kR:Kd Rl:=Kd.iso (Kd.pair k33 (Kd.pair (Kd.int .i64) (Kd.pair (Kd.slice 106 k106) (Kd.int .i64)))) (fun x:Rl=>(x.f0,x.f1,x.f2,x.f3))
theorem kR_open {w:World} {x:Rl} {cs:List Value} (h:kR.K w x cs):∃A1 c1 A3 c3,cs=[.string x.f0.f0,.slice A1 x.f0.f1.length c1,.int .i64 x.f1,.slice A3 x.f2.length c3,.int .i64 x.f3]∧x.f0.f1.length≤c1∧Kd.C k98 w A1 x.f0.f1.length x.f0.f1∧x.f2.length≤c3∧Kd.C k106 w A3 x.f2.length x.f2:=by
  obtain ⟨_,_,rfl,s1,⟨_,_,rfl,rfl,⟨_,_,rfl,⟨A3,c3,rfl,l3,g3⟩,rfl⟩⟩⟩:=h
  obtain ⟨A1,c1,rfl,l1,g1⟩:=k33_open s1
  exact ⟨A1,c1,A3,c3,rfl,l1,g1,l3,g3⟩
theorem kR_mk (w:World) (x:Rl) {A1 A3:Option Addr} {c1 c3:Nat} (l1:x.f0.f1.length≤c1) (g1:Kd.C k98 w A1 x.f0.f1.length x.f0.f1) (l3:x.f2.length≤c3) (g3:Kd.C k106 w A3 x.f2.length x.f2):
    kR.K w x [.string x.f0.f0,.slice A1 x.f0.f1.length c1,.int .i64 x.f1,.slice A3 x.f2.length c3,.int .i64 x.f3]:=
  ⟨[.string x.f0.f0,.slice A1 x.f0.f1.length c1],[.int .i64 x.f1,.slice A3 x.f2.length c3,.int .i64 x.f3],rfl,k33_mk w x.f0 l1 g1,⟨[.int .i64 x.f1],[.slice A3 x.f2.length c3,.int .i64 x.f3],rfl,rfl,⟨[.slice A3 x.f2.length c3],[.int .i64 x.f3],rfl,⟨A3,c3,rfl,l3,g3⟩,rfl⟩⟩⟩
theorem kR_mkF (W:World) (ok:Nat→Prop) (x:Rl) {A1 A3:Option Addr} {c1 c3:Nat} (l1:x.f0.f1.length≤c1) (g1:Kd.F k98 W ok A1 x.f0.f1.length x.f0.f1) (l3:x.f2.length≤c3) (g3:Kd.F k106 W ok A3 x.f2.length x.f2):
    Kd.FK kR W ok x [.string x.f0.f0,.slice A1 x.f0.f1.length c1,.int .i64 x.f1,.slice A3 x.f2.length c3,.int .i64 x.f3]:=fun W2 hW=>kR_mk W2 x l1 (g1 W2 hW) l3 (g3 W2 hW)
def rq12_T:Bool×List (List Nat×List Nat):=(true,[([],[]),([],[]),([1],[1]),([2],[2]),([3],[3]),([],[]),([5],[5]),([4,6],[4,6]),([0,0,1,2,3,4,5,6,7],[0]),([8,0,1,2,3,4,5,6,7],[8]),([9,7,7,0,1,2,3,4,5,6,7],[7,9])])
def rq12_B:List Nat:=[0,0,2,6,14,0,32,126,255,511,1023]
theorem rq12_tab:rtab .any (opsOf Tryz.f20 12)=rq12_T:=by kernel_rfl
theorem rq12_bits:waitsOk rq12_T.2 rq12_B=true:=by kernel_rfl
set_option maxHeartbeats 4000000 in
set_option maxRecDepth 100000 in
theorem rq12 {Q:Exit→Act→World→Prop} {w:World} {bo bx base:Nat} {A:Option Addr} {c:Nat} {vR:Value} {xs:List Dl} {x:Dl} {ok okp:Nat→Prop}
    (u0 u1 u2 u3 u4 u5 u8 u9 u10 u11 u12 u13 u14 u15 u16 u17 u18 u19 u20 u21 u22 u23 u24 u25 u26 u27 u28 u29 u30 u31 u32 u33 u34 u35 u36 u37 u38 u39 u40 u41 u42 u43 u44 u45 u46 u47 u48 u49 u50 u51 u52 u53 u54 u55 u56 u57 u58 u59 u60 u61 u62 u63 u64 u65 u66 u67 u68 u69 u70 u71 u72 u73 u74 u75 u76 u77:Value) (df:List Deferred) (hP:∀c (a a':Act) w,a.defers=a'.defers→Q (.panic c) a w→Q (.panic c) a' w)
    (HBO0:Hid (base≤w.heap.size)) (KO0:Hid (w.heap[bo]? =some (.cells #[.slice A xs.length c,vR] 83))) (KX0:Hid (w.heap[bx]? =some (.cells #[.string x.f0,.bool x.f1,.int .i64 x.f2] 126)))
    (RN0:Hid (Kd.N kD 126 w base ok (.slice A xs.length c) xs)) (HOKP:Hid (∀k,okp k→ok k∧some k≠(Value.slice A xs.length c).ownBlock)) (HFR0:Hid (∀k,w.heap.size≤k→ok k)) (NX:Hid (∀k,(Value.slice A xs.length c).ownBlock=some k→k≠bx))
    (FX0:Hid (Kd.FK kD w okp x [.string x.f0,.bool x.f1,.int .i64 x.f2])) (HL:Hid ((xs.length+1)*32≤140737488355328))
    (hQ:∀(v49 v50 v51 v52 v53 v54 v55 v56 v57 v58:Value) (A':Option Addr) (c':Nat) (w_:World),Kd.N kD 126 w_ base ok (.slice A' (xs.length+1) c') (xs++[x])→Fr (fun k=>(Value.slice A xs.length c).ownBlock=some k) w w_→((Value.slice A' (xs.length+1) c').ownBlock=(Value.slice A xs.length c).ownBlock∨∃b,(Value.slice A' (xs.length+1) c').ownBlock=some b∧w.heap.size≤b)→w_.heap[bo]? =some (.cells #[.slice A xs.length c,vR] 83) →
      Q .normal ⟨#[u0,u1,u2,u3,u4,u5,Value.pointer (some ⟨bo,0,none⟩),Value.pointer (some ⟨bx,0,none⟩),u8,u9,u10,u11,u12,u13,u14,u15,u16,u17,u18,u19,u20,u21,u22,u23,u24,u25,u26,u27,u28,u29,u30,u31,u32,u33,u34,u35,u36,u37,u38,u39,u40,u41,u42,u43,u44,u45,u46,u47,u48,v49,v50,v51,v52,v53,v54,v55,v56,v57,v58,u59,u60,u61,u62,u63,u64,u65,u66,u67,u68,u69,u70,u71,u72,u73,u74,u75,u76,u77],df⟩ (w_.setCell ⟨bo,0,none⟩ (.slice A' (xs.length+1) c'))):
    (Code.region 12 (opsOf Tryz.f20 12) true).wp Tryz.prog Q ⟨#[u0,u1,u2,u3,u4,u5,Value.pointer (some ⟨bo,0,none⟩),Value.pointer (some ⟨bx,0,none⟩),u8,u9,u10,u11,u12,u13,u14,u15,u16,u17,u18,u19,u20,u21,u22,u23,u24,u25,u26,u27,u28,u29,u30,u31,u32,u33,u34,u35,u36,u37,u38,u39,u40,u41,u42,u43,u44,u45,u46,u47,u48,u49,u50,u51,u52,u53,u54,u55,u56,u57,u58,u59,u60,u61,u62,u63,u64,u65,u66,u67,u68,u69,u70,u71,u72,u73,u74,u75,u76,u77],df⟩ w:=by
  conv in (opsOf _ _)=>whnf
  refine start_ (n:=11) (S:=fun W=>W.cell? ⟨bo,0,none⟩=some (.slice A xs.length c)∧W.cell? ⟨bx,0,none⟩=some (.string x.f0)∧W.cell? ⟨bx,1,none⟩=some (.bool x.f1)∧W.cell? ⟨bx,2,none⟩=some (.int .i64 x.f2)) (ds:=[10]) #[false,false,false,false,false,false,false,false,false,false,false] (by kernel_rfl) rfl rfl ⟨(blk_cell (blk_drew KO0.out) 0).trans rfl,(blk_cell (blk_drew KX0.out) 0).trans rfl,(blk_cell (blk_drew KX0.out) 1).trans rfl,(blk_cell (blk_drew KX0.out) 2).trans rfl⟩ (fun hHeld=> ?_)
  have KO:=hid (blk_drew KO0.out)
  have KX:=hid (blk_drew KX0.out)
  have RN:=hid (Kd.N_drew RN0.out)
  have FX:=hid (Kd.FK_below FX0.out (below_drew (Below.refl _ _)))
  have HBO:Hid (base≤w.drew.heap.size):=hid HBO0.out
  have SZ0:Hid (w.heap.size≤w.drew.heap.size):=hid (Nat.le_refl _)
  have HFR:Hid (∀k,w.drew.heap.size≤k→ok k):=hid HFR0.out
  have F0:Hid (Fr (fun k=>(Value.slice A xs.length c).ownBlock=some k) w w.drew):=hid ((Fr.refl _ _).drew)
  clear KO0 KX0 RN0 FX0 HBO0 HFR0
  generalize w.drew=wD at KO KX RN FX HBO SZ0 HFR F0 hHeld ⊢
  refine with_tabW rq12_tab rq12_bits (fun HT_ HW_=> ?_)
  refine pure_ (i:=0) (N:=some 49) (v:= ?_) (a':= ?_) #[true,false,false,false,false,false,false,false,false,false,false] rfl rfl (any_of HT_.out (by kernel_rfl)) (fun _ _ _ h=>hP _ _ _ _ (by rfl) h) (Or.inl ⟨by rfl,?_⟩) ?_ ?_
  rotate_left
  · intro w'
    go_simp
    with_reducible rfl
  rotate_left
  · simp only [Act.put, List.setIfInBounds_toArray, List.set_cons_zero, List.set_cons_succ, i64_w, i32_w]
    rfl
  refine pure_ (i:=1) (N:=some 50) (v:= ?_) (a':= ?_) #[true,true,false,false,false,false,false,false,false,false,false] rfl rfl (any_of HT_.out (by kernel_rfl)) (fun _ _ _ h=>hP _ _ _ _ (by rfl) h) (Or.inl ⟨by rfl,?_⟩) ?_ ?_
  rotate_left
  · intro w'
    go_simp
    with_reducible rfl
  rotate_left
  · simp only [Act.put, List.setIfInBounds_toArray, List.set_cons_zero, List.set_cons_succ, i64_w, i32_w]
    rfl
  refine pure_ (i:=2) (N:=some 51) (v:= ?_) (a':= ?_) #[true,true,true,false,false,false,false,false,false,false,false] rfl rfl (any_of HT_.out (by kernel_rfl)) (fun _ _ _ h=>hP _ _ _ _ (by rfl) h) (Or.inl ⟨by rfl,?_⟩) ?_ ?_
  rotate_left
  · intro w'
    go_simp
    with_reducible rfl
  rotate_left
  · simp only [Act.put, List.setIfInBounds_toArray, List.set_cons_zero, List.set_cons_succ, i64_w, i32_w]
    rfl
  refine pure_ (i:=3) (N:=some 52) (v:= ?_) (a':= ?_) #[true,true,true,true,false,false,false,false,false,false,false] rfl rfl (any_of HT_.out (by kernel_rfl)) (fun _ _ _ h=>hP _ _ _ _ (by rfl) h) (Or.inl ⟨by rfl,?_⟩) ?_ ?_
  rotate_left
  · intro w'
    go_simp
    with_reducible rfl
  rotate_left
  · simp only [Act.put, List.setIfInBounds_toArray, List.set_cons_zero, List.set_cons_succ, i64_w, i32_w]
    rfl
  refine take_ (i:=4) (N:=some 53) (v:= ?_) (a':= ?_) #[true,true,true,true,true,false,false,false,false,false,false] rfl rfl (take_ofW HT_.out HW_.out (by kernel_rfl)) (fun _ _ _ h=>hP _ _ _ _ (by rfl) h) (Or.inl ⟨by rfl,?_⟩) hHeld ?_ ?_
  rotate_left
  · rintro w' ⟨s0, s1, s2, s3⟩
    go_simp
    with_reducible rfl
  rotate_left
  · simp only [Act.put, List.setIfInBounds_toArray, List.set_cons_zero, List.set_cons_succ, i64_w, i32_w]
    rfl
  refine take_ (i:=5) (N:=some 54) (v:= ?_) (a':= ?_) #[true,true,true,true,true,true,false,false,false,false,false] rfl rfl (take_ofW HT_.out HW_.out (by kernel_rfl)) (fun _ _ _ h=>hP _ _ _ _ (by rfl) h) (Or.inl ⟨by rfl,?_⟩) hHeld ?_ ?_
  rotate_left
  · rintro w' ⟨s0, s1, s2, s3⟩
    go_simp
    with_reducible rfl
  rotate_left
  · simp only [Act.put, List.setIfInBounds_toArray, List.set_cons_zero, List.set_cons_succ, i64_w, i32_w]
    rfl
  refine one_ (i:=6) (N:=some 55) #[true,true,true,true,true,true,true,false,false,false,false] rfl rfl (one_of HT_.out (by kernel_rfl)) (by decide) (fun K hK=> ?_)
  refine value_ (w1:= ?_) (v:= ?_) (by rfl) rfl ?_ ?_
  rotate_left 2
  · go_simp
    constructor
    · rfl
    · rfl
  refine hK.out _ _ ⟨(blk_cell (blk_alloc KO.out _) 0).trans rfl,(blk_cell (blk_alloc KX.out _) 0).trans rfl,(blk_cell (blk_alloc KX.out _) 1).trans rfl,(blk_cell (blk_alloc KX.out _) 2).trans rfl⟩ (fun hHeld=> ?_)
  clear hK K
  refine norm_ (a':= ?_) ?_ ?_
  rotate_left
  · show Act.put _ (some 55) _ = _
    simp only [Act.put,List.setIfInBounds_toArray,List.set_cons_zero,List.set_cons_succ,i64_w,i32_w]
    rfl
  refine one_ (i:=7) (N:=some 56) #[true,true,true,true,true,true,true,true,false,false,false] rfl rfl (one_of HT_.out (by kernel_rfl)) (by decide) (fun K hK=> ?_)
  refine Kd.N_append_step kD (w0:=wD) base (by rfl) (.tmp 53) (.tmp 55) 80 126 (.agg #[.string ⟨#[]⟩,.bool false,.int .i64 0]) 32 rfl Tryz.underlying80 (by kernel_rfl) rfl (by decide) (by decide) (.slice A xs.length c) xs x [.string x.f0,.bool x.f1,.int .i64 x.f2] ok okp rfl rfl FX.out HOKP.out HFR.out RN.out (Below.refl _ _) HBO.out HL.out ?_
  intro v_ w_ hR hB hg hat
  have KO1:=hid (blk_grown KO.out hg (Kd.N_ne RN.out KO.out (by decide)))
  have KX1:=hid (blk_grown KX.out hg (fun e=>NX.out _ e.symm rfl))
  obtain ⟨A1,c1,hv⟩:=Kd.N_slice hR
  rw [List.length_append,List.length_singleton] at hv
  subst hv
  have RN1:=hid hR
  have HATT:Hid ((Value.slice A1 (xs.length+1) c1).ownBlock=(Value.slice A xs.length c).ownBlock∨∃b,(Value.slice A1 (xs.length+1) c1).ownBlock=some b∧w.heap.size≤b):=hid (by rcases hat with hat|⟨b,h1,h2⟩;exact .inl hat;exact .inr ⟨b,h1,by have:=SZ0.out;omega⟩)
  have FR1:Hid (Fr (fun k=>(Value.slice A xs.length c).ownBlock=some k) w w_):=hid ((F0.out.trans (Fr.grown hg) (fun i _ e=>e)))
  clear hR hB hg hat KO KX RN FX
  refine hK.out _ _ ⟨(blk_cell KO1.out 0).trans rfl,(blk_cell KX1.out 0).trans rfl,(blk_cell KX1.out 1).trans rfl,(blk_cell KX1.out 2).trans rfl⟩ (fun hHeld=> ?_)
  clear hK K
  refine norm_ (a':= ?_) ?_ ?_
  rotate_left
  · show Act.put _ (some 56) _ = _
    simp only [Act.put,List.setIfInBounds_toArray,List.set_cons_zero,List.set_cons_succ,i64_w,i32_w]
    rfl
  refine pure_ (i:=8) (N:=some 57) (v:= ?_) (a':= ?_) #[true,true,true,true,true,true,true,true,true,false,false] rfl rfl (any_of HT_.out (by kernel_rfl)) (fun _ _ _ h=>hP _ _ _ _ (by rfl) h) (Or.inl ⟨by rfl,?_⟩) ?_ ?_
  rotate_left
  · intro w'
    go_simp
    with_reducible rfl
  rotate_left
  · simp only [Act.put, List.setIfInBounds_toArray, List.set_cons_zero, List.set_cons_succ, i64_w, i32_w]
    rfl
  refine pure_ (i:=9) (N:=some 58) (v:= ?_) (a':= ?_) #[true,true,true,true,true,true,true,true,true,true,false] rfl rfl (any_of HT_.out (by kernel_rfl)) (fun _ _ _ h=>hP _ _ _ _ (by rfl) h) (Or.inl ⟨by rfl,?_⟩) ?_ ?_
  rotate_left
  · intro w'
    go_simp
    with_reducible rfl
  rotate_left
  · simp only [Act.put, List.setIfInBounds_toArray, List.set_cons_zero, List.set_cons_succ, i64_w, i32_w]
    rfl
  refine last_ (i:=10) (N:=none) #[true,true,true,true,true,true,true,true,true,true,true] rfl rfl (one_of HT_.out (by kernel_rfl)) (by decide) (fun K hK=> ?_)
  have hs:w_.cell? ⟨bo,0,none⟩=some (.slice A xs.length c):=(blk_cell KO1.out 0).trans rfl
  have hf:=blk_frozen KO1.out 0
  refine skip_ (w1:= ?_) (by rfl) rfl ?_ ?_
  rotate_left
  · go_simp
    rfl
  refine hK.out _ _ ?_
  clear hK K
  refine done_ (done_of HT_.out (by kernel_rfl)) ?_
  exact hQ _ _ _ _ _ _ _ _ _ _ A1 c1 _ RN1.out FR1.out HATT.out KO1.out
end Go.Proofs.YtjlnpdpkobpkiaaGreatDoorPSP
set_option linter.unusedVariables false
set_option linter.unusedSimpArgs false
namespace Go.Proofs.YtjlnpdpkobpkiaaGreatDoorPSP
open Go.RowKit Go.Extern.Stop Go.Stop Go.Extern Go.Proofs.YtjlnpdpkobpkiaaGreatDoorW.PrintWords Go.Proofs.YtjlnpdpkobpkiaaGreatDoorW.PrintLast Go.Proofs.YtjlnpdpkobpkiaaGreatDoor
def rq16_T:Bool×List (List Nat×List Nat):=(true,[([],[]),([],[]),([1],[1]),([2],[2]),([3],[3]),([],[]),([5],[5]),([4,6],[4,6]),([0,0,1,2,3,4,5,6,7],[0]),([8,0,1,2,3,4,5,6,7],[8]),([9,7,7,0,1,2,3,4,5,6,7],[7,9])])
def rq16_B:List Nat:=[0,0,2,6,14,0,32,126,255,511,1023]
theorem rq16_tab:rtab .any (opsOf Tryz.f20 16)=rq16_T:=by kernel_rfl
theorem rq16_bits:waitsOk rq16_T.2 rq16_B=true:=by kernel_rfl
set_option maxHeartbeats 4000000 in
set_option maxRecDepth 100000 in
theorem rq16 {Q:Exit→Act→World→Prop} {w:World} {bo bx base:Nat} {A:Option Addr} {c:Nat} {vD:Value} {xs:List Rl} {x:Rl} {ok okp:Nat→Prop} {Aa Ab:Option Addr} {ca cb:Nat}
    (u0 u1 u2 u3 u4 u5 u7 u8 u10 u11 u12 u13 u14 u15 u16 u17 u18 u19 u20 u21 u22 u23 u24 u25 u26 u27 u28 u29 u30 u31 u32 u33 u34 u35 u36 u37 u38 u39 u40 u41 u42 u43 u44 u45 u46 u47 u48 u49 u50 u51 u52 u53 u54 u55 u56 u57 u58 u59 u60 u61 u62 u63 u64 u65 u66 u67 u68 u69 u70 u71 u72 u73 u74 u75 u76 u77:Value) (df:List Deferred) (hP:∀c (a a':Act) w,a.defers=a'.defers→Q (.panic c) a w→Q (.panic c) a' w)
    (HBO0:Hid (base≤w.heap.size)) (KO0:Hid (w.heap[bo]? =some (.cells #[vD,.slice A xs.length c] 83))) (KX0:Hid (w.heap[bx]? =some (.cells #[.string x.f0.f0,.slice Aa x.f0.f1.length ca,.int .i64 x.f1,.slice Ab x.f2.length cb,.int .i64 x.f3] 37)))
    (RN0:Hid (Kd.N kR 37 w base ok (.slice A xs.length c) xs)) (HOKP:Hid (∀k,okp k→ok k∧some k≠(Value.slice A xs.length c).ownBlock)) (HFR0:Hid (∀k,w.heap.size≤k→ok k)) (NX:Hid (∀k,(Value.slice A xs.length c).ownBlock=some k→k≠bx))
    (FX0:Hid (Kd.FK kR w okp x [.string x.f0.f0,.slice Aa x.f0.f1.length ca,.int .i64 x.f1,.slice Ab x.f2.length cb,.int .i64 x.f3])) (HL:Hid ((xs.length+1)*80≤140737488355328))
    (hQ:∀(v67 v68 v69 v70 v71 v72 v73 v74 v75 v76:Value) (A':Option Addr) (c':Nat) (w_:World),Kd.N kR 37 w_ base ok (.slice A' (xs.length+1) c') (xs++[x])→Fr (fun k=>(Value.slice A xs.length c).ownBlock=some k) w w_→((Value.slice A' (xs.length+1) c').ownBlock=(Value.slice A xs.length c).ownBlock∨∃b,(Value.slice A' (xs.length+1) c').ownBlock=some b∧w.heap.size≤b)→w_.heap[bo]? =some (.cells #[vD,.slice A xs.length c] 83) →
      Q .normal ⟨#[u0,u1,u2,u3,u4,u5,Value.pointer (some ⟨bo,0,none⟩),u7,u8,Value.pointer (some ⟨bx,0,none⟩),u10,u11,u12,u13,u14,u15,u16,u17,u18,u19,u20,u21,u22,u23,u24,u25,u26,u27,u28,u29,u30,u31,u32,u33,u34,u35,u36,u37,u38,u39,u40,u41,u42,u43,u44,u45,u46,u47,u48,u49,u50,u51,u52,u53,u54,u55,u56,u57,u58,u59,u60,u61,u62,u63,u64,u65,u66,v67,v68,v69,v70,v71,v72,v73,v74,v75,v76,u77],df⟩ (w_.setCell ⟨bo,1,none⟩ (.slice A' (xs.length+1) c'))):
    (Code.region 16 (opsOf Tryz.f20 16) true).wp Tryz.prog Q ⟨#[u0,u1,u2,u3,u4,u5,Value.pointer (some ⟨bo,0,none⟩),u7,u8,Value.pointer (some ⟨bx,0,none⟩),u10,u11,u12,u13,u14,u15,u16,u17,u18,u19,u20,u21,u22,u23,u24,u25,u26,u27,u28,u29,u30,u31,u32,u33,u34,u35,u36,u37,u38,u39,u40,u41,u42,u43,u44,u45,u46,u47,u48,u49,u50,u51,u52,u53,u54,u55,u56,u57,u58,u59,u60,u61,u62,u63,u64,u65,u66,u67,u68,u69,u70,u71,u72,u73,u74,u75,u76,u77],df⟩ w:=by
  conv in (opsOf _ _)=>whnf
  refine start_ (n:=11) (S:=fun W=>W.cell? ⟨bo,1,none⟩=some (.slice A xs.length c)∧W.cell? ⟨bx,0,none⟩=some (.string x.f0.f0)∧W.cell? ⟨bx,1,none⟩=some (.slice Aa x.f0.f1.length ca)∧W.cell? ⟨bx,2,none⟩=some (.int .i64 x.f1)∧W.cell? ⟨bx,3,none⟩=some (.slice Ab x.f2.length cb)∧W.cell? ⟨bx,4,none⟩=some (.int .i64 x.f3)) (ds:=[10]) #[false,false,false,false,false,false,false,false,false,false,false] (by kernel_rfl) rfl rfl ⟨(blk_cell (blk_drew KO0.out) 1).trans rfl,(blk_cell (blk_drew KX0.out) 0).trans rfl,(blk_cell (blk_drew KX0.out) 1).trans rfl,(blk_cell (blk_drew KX0.out) 2).trans rfl,(blk_cell (blk_drew KX0.out) 3).trans rfl,(blk_cell (blk_drew KX0.out) 4).trans rfl⟩ (fun hHeld=> ?_)
  have KO:=hid (blk_drew KO0.out)
  have KX:=hid (blk_drew KX0.out)
  have RN:=hid (Kd.N_drew RN0.out)
  have FX:=hid (Kd.FK_below FX0.out (below_drew (Below.refl _ _)))
  have HBO:Hid (base≤w.drew.heap.size):=hid HBO0.out
  have SZ0:Hid (w.heap.size≤w.drew.heap.size):=hid (Nat.le_refl _)
  have HFR:Hid (∀k,w.drew.heap.size≤k→ok k):=hid HFR0.out
  have F0:Hid (Fr (fun k=>(Value.slice A xs.length c).ownBlock=some k) w w.drew):=hid ((Fr.refl _ _).drew)
  clear KO0 KX0 RN0 FX0 HBO0 HFR0
  generalize w.drew=wD at KO KX RN FX HBO SZ0 HFR F0 hHeld ⊢
  refine with_tabW rq16_tab rq16_bits (fun HT_ HW_=> ?_)
  refine pure_ (i:=0) (N:=some 67) (v:= ?_) (a':= ?_) #[true,false,false,false,false,false,false,false,false,false,false] rfl rfl (any_of HT_.out (by kernel_rfl)) (fun _ _ _ h=>hP _ _ _ _ (by rfl) h) (Or.inl ⟨by rfl,?_⟩) ?_ ?_
  rotate_left
  · intro w'
    go_simp
    with_reducible rfl
  rotate_left
  · simp only [Act.put, List.setIfInBounds_toArray, List.set_cons_zero, List.set_cons_succ, i64_w, i32_w]
    rfl
  refine pure_ (i:=1) (N:=some 68) (v:= ?_) (a':= ?_) #[true,true,false,false,false,false,false,false,false,false,false] rfl rfl (any_of HT_.out (by kernel_rfl)) (fun _ _ _ h=>hP _ _ _ _ (by rfl) h) (Or.inl ⟨by rfl,?_⟩) ?_ ?_
  rotate_left
  · intro w'
    go_simp
    with_reducible rfl
  rotate_left
  · simp only [Act.put, List.setIfInBounds_toArray, List.set_cons_zero, List.set_cons_succ, i64_w, i32_w]
    rfl
  refine pure_ (i:=2) (N:=some 69) (v:= ?_) (a':= ?_) #[true,true,true,false,false,false,false,false,false,false,false] rfl rfl (any_of HT_.out (by kernel_rfl)) (fun _ _ _ h=>hP _ _ _ _ (by rfl) h) (Or.inl ⟨by rfl,?_⟩) ?_ ?_
  rotate_left
  · intro w'
    go_simp
    with_reducible rfl
  rotate_left
  · simp only [Act.put, List.setIfInBounds_toArray, List.set_cons_zero, List.set_cons_succ, i64_w, i32_w]
    rfl
  refine pure_ (i:=3) (N:=some 70) (v:= ?_) (a':= ?_) #[true,true,true,true,false,false,false,false,false,false,false] rfl rfl (any_of HT_.out (by kernel_rfl)) (fun _ _ _ h=>hP _ _ _ _ (by rfl) h) (Or.inl ⟨by rfl,?_⟩) ?_ ?_
  rotate_left
  · intro w'
    go_simp
    with_reducible rfl
  rotate_left
  · simp only [Act.put, List.setIfInBounds_toArray, List.set_cons_zero, List.set_cons_succ, i64_w, i32_w]
    rfl
  refine take_ (i:=4) (N:=some 71) (v:= ?_) (a':= ?_) #[true,true,true,true,true,false,false,false,false,false,false] rfl rfl (take_ofW HT_.out HW_.out (by kernel_rfl)) (fun _ _ _ h=>hP _ _ _ _ (by rfl) h) (Or.inl ⟨by rfl,?_⟩) hHeld ?_ ?_
  rotate_left
  · rintro w' ⟨s0, s1, s2, s3, s4, s5⟩
    go_simp
    with_reducible rfl
  rotate_left
  · simp only [Act.put, List.setIfInBounds_toArray, List.set_cons_zero, List.set_cons_succ, i64_w, i32_w]
    rfl
  refine take_ (i:=5) (N:=some 72) (v:= ?_) (a':= ?_) #[true,true,true,true,true,true,false,false,false,false,false] rfl rfl (take_ofW HT_.out HW_.out (by kernel_rfl)) (fun _ _ _ h=>hP _ _ _ _ (by rfl) h) (Or.inl ⟨by rfl,?_⟩) hHeld ?_ ?_
  rotate_left
  · rintro w' ⟨s0, s1, s2, s3, s4, s5⟩
    go_simp
    with_reducible rfl
  rotate_left
  · simp only [Act.put, List.setIfInBounds_toArray, List.set_cons_zero, List.set_cons_succ, i64_w, i32_w]
    rfl
  refine one_ (i:=6) (N:=some 73) #[true,true,true,true,true,true,true,false,false,false,false] rfl rfl (one_of HT_.out (by kernel_rfl)) (by decide) (fun K hK=> ?_)
  refine value_ (w1:= ?_) (v:= ?_) (by rfl) rfl ?_ ?_
  rotate_left 2
  · go_simp
    constructor
    · rfl
    · rfl
  refine hK.out _ _ ⟨(blk_cell (blk_alloc KO.out _) 1).trans rfl,(blk_cell (blk_alloc KX.out _) 0).trans rfl,(blk_cell (blk_alloc KX.out _) 1).trans rfl,(blk_cell (blk_alloc KX.out _) 2).trans rfl,(blk_cell (blk_alloc KX.out _) 3).trans rfl,(blk_cell (blk_alloc KX.out _) 4).trans rfl⟩ (fun hHeld=> ?_)
  clear hK K
  refine norm_ (a':= ?_) ?_ ?_
  rotate_left
  · show Act.put _ (some 73) _ = _
    simp only [Act.put,List.setIfInBounds_toArray,List.set_cons_zero,List.set_cons_succ,i64_w,i32_w]
    rfl
  refine one_ (i:=7) (N:=some 74) #[true,true,true,true,true,true,true,true,false,false,false] rfl rfl (one_of HT_.out (by kernel_rfl)) (by decide) (fun K hK=> ?_)
  refine Kd.N_append_step kR (w0:=wD) base (by rfl) (.tmp 71) (.tmp 73) 81 37 (.agg #[.string ⟨#[]⟩,.slice none 0 0,.int .i64 0,.slice none 0 0,.int .i64 0]) 80 rfl Tryz.underlying81 (by kernel_rfl) rfl (by decide) (by decide) (.slice A xs.length c) xs x [.string x.f0.f0,.slice Aa x.f0.f1.length ca,.int .i64 x.f1,.slice Ab x.f2.length cb,.int .i64 x.f3] ok okp rfl rfl FX.out HOKP.out HFR.out RN.out (Below.refl _ _) HBO.out HL.out ?_
  intro v_ w_ hR hB hg hat
  have KO1:=hid (blk_grown KO.out hg (Kd.N_ne RN.out KO.out (by decide)))
  have KX1:=hid (blk_grown KX.out hg (fun e=>NX.out _ e.symm rfl))
  obtain ⟨A1,c1,hv⟩:=Kd.N_slice hR
  rw [List.length_append,List.length_singleton] at hv
  subst hv
  have RN1:=hid hR
  have HATT:Hid ((Value.slice A1 (xs.length+1) c1).ownBlock=(Value.slice A xs.length c).ownBlock∨∃b,(Value.slice A1 (xs.length+1) c1).ownBlock=some b∧w.heap.size≤b):=hid (by rcases hat with hat|⟨b,h1,h2⟩;exact .inl hat;exact .inr ⟨b,h1,by have:=SZ0.out;omega⟩)
  have FR1:Hid (Fr (fun k=>(Value.slice A xs.length c).ownBlock=some k) w w_):=hid ((F0.out.trans (Fr.grown hg) (fun i _ e=>e)))
  clear hR hB hg hat KO KX RN FX
  refine hK.out _ _ ⟨(blk_cell KO1.out 1).trans rfl,(blk_cell KX1.out 0).trans rfl,(blk_cell KX1.out 1).trans rfl,(blk_cell KX1.out 2).trans rfl,(blk_cell KX1.out 3).trans rfl,(blk_cell KX1.out 4).trans rfl⟩ (fun hHeld=> ?_)
  clear hK K
  refine norm_ (a':= ?_) ?_ ?_
  rotate_left
  · show Act.put _ (some 74) _ = _
    simp only [Act.put,List.setIfInBounds_toArray,List.set_cons_zero,List.set_cons_succ,i64_w,i32_w]
    rfl
  refine pure_ (i:=8) (N:=some 75) (v:= ?_) (a':= ?_) #[true,true,true,true,true,true,true,true,true,false,false] rfl rfl (any_of HT_.out (by kernel_rfl)) (fun _ _ _ h=>hP _ _ _ _ (by rfl) h) (Or.inl ⟨by rfl,?_⟩) ?_ ?_
  rotate_left
  · intro w'
    go_simp
    with_reducible rfl
  rotate_left
  · simp only [Act.put, List.setIfInBounds_toArray, List.set_cons_zero, List.set_cons_succ, i64_w, i32_w]
    rfl
  refine pure_ (i:=9) (N:=some 76) (v:= ?_) (a':= ?_) #[true,true,true,true,true,true,true,true,true,true,false] rfl rfl (any_of HT_.out (by kernel_rfl)) (fun _ _ _ h=>hP _ _ _ _ (by rfl) h) (Or.inl ⟨by rfl,?_⟩) ?_ ?_
  rotate_left
  · intro w'
    go_simp
    with_reducible rfl
  rotate_left
  · simp only [Act.put, List.setIfInBounds_toArray, List.set_cons_zero, List.set_cons_succ, i64_w, i32_w]
    rfl
  refine last_ (i:=10) (N:=none) #[true,true,true,true,true,true,true,true,true,true,true] rfl rfl (one_of HT_.out (by kernel_rfl)) (by decide) (fun K hK=> ?_)
  have hs:w_.cell? ⟨bo,1,none⟩=some (.slice A xs.length c):=(blk_cell KO1.out 1).trans rfl
  have hf:=blk_frozen KO1.out 1
  refine skip_ (w1:= ?_) (by rfl) rfl ?_ ?_
  rotate_left
  · go_simp
    rfl
  refine hK.out _ _ ?_
  clear hK K
  refine done_ (done_of HT_.out (by kernel_rfl)) ?_
  exact hQ _ _ _ _ _ _ _ _ _ _ A1 c1 _ RN1.out FR1.out HATT.out KO1.out
end Go.Proofs.YtjlnpdpkobpkiaaGreatDoorPSP
