import Derived.Test.YtdbpboipiceifaaDoorZ1Hd13
import Derived.Test.YtdbpboipiceifaaDoorZ1Op13
import Derived.Test.YtdbpboipiceifaaDoorZ1PlR
import Derived.Test.YtdbpboipiceifaaDoorZ1PrS
set_option linter.unusedVariables false
set_option linter.unusedSimpArgs false
namespace Go.Proofs.YtdbpboipiceifaaDoorPSP
open Go.RowKit Go.Extern.Stop Go.Stop Go.Extern Go.Proofs.YtdbpboipiceifaaDoorW.PrintWords Go.Proofs.YtdbpboipiceifaaDoorW.PrintLast Go.Proofs.YtdbpboipiceifaaDoor
structure Vx (W4 : World) (b6 : Nat) (cs : Array Value) (v : Value) (L : List ByteArray) (W : World) : Prop where
  bel : Below W4.heap.size W4 W
  bk : W.heap[b6]? = some (.cells cs 59)
  row : Kd.R Kd.string 9 W W4.heap.size (fun _ => True) v L
theorem Vx.step {W4 : World} {b6 : Nat} {cs : Array Value} {v : Value} {L : List ByteArray} {W W' : World} (h : Vx W4 b6 cs v L W) (hb : Below W.heap.size W W') : Vx W4 b6 cs v L W' :=
  ⟨h.bel.trans (hb.mono h.bel.size), bB h.bk hb, Kd.R_below h.row hb⟩
end Go.Proofs.YtdbpboipiceifaaDoorPSP
set_option linter.unusedVariables false
set_option linter.unusedSimpArgs false
namespace Go.Proofs.YtdbpboipiceifaaDoorPSP
open Go.RowKit Go.Extern.Stop Go.Stop Go.Extern Go.Proofs.YtdbpboipiceifaaDoorW.PrintWords Go.Proofs.YtdbpboipiceifaaDoorW.PrintLast Go.Proofs.YtdbpboipiceifaaDoor
def pr7_T : Bool × List (List Nat × List Nat) := (true, [([], []), ([], []), ([1], [1]), ([2], [2]), ([3], [3]), ([], []), ([5], [5]), ([4, 6], [4, 6]), ([0, 0, 1, 2, 3, 4, 5, 6, 7], [0]), ([8, 0, 1, 2, 3, 4, 5, 6, 7], [8]), ([9, 7, 7, 0, 1, 2, 3, 4, 5, 6, 7], [7, 9])])
def pr7_B : List Nat := [0, 0, 2, 6, 14, 0, 32, 126, 255, 511, 1023]
theorem pr7_tab : rtab .any (opsOf Tryd.f9 7) = pr7_T := by kernel_rfl
theorem pr7_bits : waitsOk pr7_T.2 pr7_B = true := by kernel_rfl
theorem kd_mkM (w : World) (bs : Nat) (ok : Nat → Prop) (x : S92) : k92.M w bs ok x [.string x.f0, .bool x.f1, .int .i64 x.f2] := ⟨[.string x.f0], [.bool x.f1, .int .i64 x.f2], rfl, rfl, ⟨[.bool x.f1], [.int .i64 x.f2], rfl, rfl, rfl⟩⟩
set_option maxHeartbeats 4000000 in
set_option maxRecDepth 100000 in
theorem rg7 {Q : Exit → Act → World → Prop} {w w0 : World} {bo bx : Nat} {A : Option Addr} {c : Nat} {vR : Value} {ds : List S92} {p : ByteArray} {m : Bool} {at_ : Int}
    (u0 u1 u2 u3 u4 u5 u7 u8 u9 u11 u12 u13 u14 u15 u16 u17 u18 u19 u20 u21 u22 u23 u24 u25 u26 u27 u28 u29 u30 u31 u32 u33 u34 u35 u36 u37 u38 u39 u40 u41 u42 u43 u44 u45 u46 u47 u48 u49 u50 u51 u52 u53 u54 u55 u56 u57 u58 u59 u60 u61 u62 u63 u64 u65 u66 u67 u68 u69 u70 u71 u72 u73 u74 u75 u76 u77 u78 u79 u80 u81 u82 u83 : Value) (df : List Deferred) (hP : ∀ c (a a' : Act) w, a.defers = a'.defers → Q (.panic c) a w → Q (.panic c) a' w)
    (HB0 : Hid (Below w0.heap.size w0 w)) (HBO : Hid (w0.heap.size ≤ bo)) (NE : Hid (bx ≠ bo)) (KO0 : Hid (w.heap[bo]? = some (.cells #[.slice A ds.length c, vR] 77))) (KX0 : Hid (w.heap[bx]? = some (.cells #[.string p, .bool m, .int .i64 at_] 92)))
    (RD0 : Hid (Kd.R k92 92 w w0.heap.size (fun k => k ≠ bo ∧ k ≠ bx) (.slice A ds.length c) ds)) (HL : Hid (ds.length ≤ 100))
    (hQ : ∀ (v30 v31 v32 v33 v34 v35 v36 v37 v38 v39 : Value) (A' : Option Addr) (c' : Nat) (W : World), Below w0.heap.size w0 W → W.heap[bo]? = some (.cells #[.slice A' (ds.length + 1) c', vR] 77) → W.heap[bx]? = some (.cells #[.string p, .bool m, .int .i64 at_] 92) →
      Kd.R k92 92 W w0.heap.size (fun k => k ≠ bo ∧ k ≠ bx) (.slice A' (ds.length + 1) c') (ds ++ [⟨p, m, at_⟩]) → (∀ (b : Nat) (cs : Array Value) (t : TypeId), w.heap[b]? = some (.cells cs t) → b ≠ bo → 92 ≠ t → W.heap[b]? = some (.cells cs t)) → Q .normal ⟨#[u0, u1, u2, u3, u4, u5, Value.pointer (some ⟨bo, 0, none⟩), u7, u8, u9, Value.pointer (some ⟨bx, 0, none⟩), u11, u12, u13, u14, u15, u16, u17, u18, u19, u20, u21, u22, u23, u24, u25, u26, u27, u28, u29, v30, v31, v32, v33, v34, v35, v36, v37, v38, v39, u40, u41, u42, u43, u44, u45, u46, u47, u48, u49, u50, u51, u52, u53, u54, u55, u56, u57, u58, u59, u60, u61, u62, u63, u64, u65, u66, u67, u68, u69, u70, u71, u72, u73, u74, u75, u76, u77, u78, u79, u80, u81, u82, u83], df⟩ W) :
    (Code.region 7 (opsOf Tryd.f9 7) true).wp Tryd.prog Q ⟨#[u0, u1, u2, u3, u4, u5, Value.pointer (some ⟨bo, 0, none⟩), u7, u8, u9, Value.pointer (some ⟨bx, 0, none⟩), u11, u12, u13, u14, u15, u16, u17, u18, u19, u20, u21, u22, u23, u24, u25, u26, u27, u28, u29, u30, u31, u32, u33, u34, u35, u36, u37, u38, u39, u40, u41, u42, u43, u44, u45, u46, u47, u48, u49, u50, u51, u52, u53, u54, u55, u56, u57, u58, u59, u60, u61, u62, u63, u64, u65, u66, u67, u68, u69, u70, u71, u72, u73, u74, u75, u76, u77, u78, u79, u80, u81, u82, u83], df⟩ w := by
  conv in (opsOf _ _) => whnf
  have LO0 := Go.Proofs.YtdbpboipiceifaaDoor.blk_lt KO0.out
  have LX0 := Go.Proofs.YtdbpboipiceifaaDoor.blk_lt KX0.out
  refine start_ (n := 11) (S := fun W => W.cell? ⟨bo, 0, none⟩ = some (.slice A ds.length c) ∧ W.cell? ⟨bx, 0, none⟩ = some (.string p) ∧ W.cell? ⟨bx, 1, none⟩ = some (.bool m) ∧ W.cell? ⟨bx, 2, none⟩ = some (.int .i64 at_)) (ds := [10]) #[false, false, false, false, false, false, false, false, false, false, false] (by kernel_rfl) rfl rfl ⟨(bC (bD KO0.out) 0).trans rfl, (bC (bD KX0.out) 0).trans rfl, (bC (bD KX0.out) 1).trans rfl, (bC (bD KX0.out) 2).trans rfl⟩ (fun hHeld => ?_)
  have KO := hid (bD KO0.out)
  have KX := hid (bD KX0.out)
  have RD := hid (Kd.R_drew RD0.out)
  have HB := hid (below_drew HB0.out)
  have LO : Hid (bo < w.drew.heap.size) := hid LO0
  have LX : Hid (bx < w.drew.heap.size) := hid LX0
  have HW : Hid (∀ b : Nat, w.drew.heap[b]? = w.heap[b]?) := hid (fun _ => rfl)
  clear KO0 KX0 RD0 HB0 LO0 LX0
  generalize w.drew = wD at KO KX RD HB LO LX HW hHeld ⊢
  refine with_tabW pr7_tab pr7_bits (fun HT_ HW_ => ?_)
  refine pure_ (i := 0) (N := some 30) (v := ?_) (a' := ?_) #[true, false, false, false, false, false, false, false, false, false, false] rfl rfl (any_of HT_.out (by kernel_rfl)) (fun _ _ _ h => hP _ _ _ _ (by rfl) h) (Or.inl ⟨by rfl, ?_⟩) ?_ ?_
  rotate_left
  · intro w'
    go_simp
    with_reducible rfl
  rotate_left
  · simp only [Act.put, List.setIfInBounds_toArray, List.set_cons_zero, List.set_cons_succ, i64_w, i32_w]
    rfl
  refine pure_ (i := 1) (N := some 31) (v := ?_) (a' := ?_) #[true, true, false, false, false, false, false, false, false, false, false] rfl rfl (any_of HT_.out (by kernel_rfl)) (fun _ _ _ h => hP _ _ _ _ (by rfl) h) (Or.inl ⟨by rfl, ?_⟩) ?_ ?_
  rotate_left
  · intro w'
    go_simp
    with_reducible rfl
  rotate_left
  · simp only [Act.put, List.setIfInBounds_toArray, List.set_cons_zero, List.set_cons_succ, i64_w, i32_w]
    rfl
  refine pure_ (i := 2) (N := some 32) (v := ?_) (a' := ?_) #[true, true, true, false, false, false, false, false, false, false, false] rfl rfl (any_of HT_.out (by kernel_rfl)) (fun _ _ _ h => hP _ _ _ _ (by rfl) h) (Or.inl ⟨by rfl, ?_⟩) ?_ ?_
  rotate_left
  · intro w'
    go_simp
    with_reducible rfl
  rotate_left
  · simp only [Act.put, List.setIfInBounds_toArray, List.set_cons_zero, List.set_cons_succ, i64_w, i32_w]
    rfl
  refine pure_ (i := 3) (N := some 33) (v := ?_) (a' := ?_) #[true, true, true, true, false, false, false, false, false, false, false] rfl rfl (any_of HT_.out (by kernel_rfl)) (fun _ _ _ h => hP _ _ _ _ (by rfl) h) (Or.inl ⟨by rfl, ?_⟩) ?_ ?_
  rotate_left
  · intro w'
    go_simp
    with_reducible rfl
  rotate_left
  · simp only [Act.put, List.setIfInBounds_toArray, List.set_cons_zero, List.set_cons_succ, i64_w, i32_w]
    rfl
  refine take_ (i := 4) (N := some 34) (v := ?_) (a' := ?_) #[true, true, true, true, true, false, false, false, false, false, false] rfl rfl (take_ofW HT_.out HW_.out (by kernel_rfl)) (fun _ _ _ h => hP _ _ _ _ (by rfl) h) (Or.inl ⟨by rfl, ?_⟩) hHeld ?_ ?_
  rotate_left
  · rintro w' ⟨s0, s1, s2, s3⟩
    go_simp
    with_reducible rfl
  rotate_left
  · simp only [Act.put, List.setIfInBounds_toArray, List.set_cons_zero, List.set_cons_succ, i64_w, i32_w]
    rfl
  refine take_ (i := 5) (N := some 35) (v := ?_) (a' := ?_) #[true, true, true, true, true, true, false, false, false, false, false] rfl rfl (take_ofW HT_.out HW_.out (by kernel_rfl)) (fun _ _ _ h => hP _ _ _ _ (by rfl) h) (Or.inl ⟨by rfl, ?_⟩) hHeld ?_ ?_
  rotate_left
  · rintro w' ⟨s0, s1, s2, s3⟩
    go_simp
    with_reducible rfl
  rotate_left
  · simp only [Act.put, List.setIfInBounds_toArray, List.set_cons_zero, List.set_cons_succ, i64_w, i32_w]
    rfl
  refine one_ (i := 6) (N := some 36) #[true, true, true, true, true, true, true, false, false, false, false] rfl rfl (one_of HT_.out (by kernel_rfl)) (by decide) (fun K hK => ?_)
  refine value_ (w1 := ?_) (v := ?_) (by rfl) rfl ?_ ?_
  rotate_left 2
  · go_simp
    constructor
    · rfl
    · rfl
  refine hK.out _ _ ⟨(bC (bA KO.out _) 0).trans rfl, (bC (bA KX.out _) 0).trans rfl, (bC (bA KX.out _) 1).trans rfl, (bC (bA KX.out _) 2).trans rfl⟩ (fun hHeld => ?_)
  clear hK K
  refine norm_ (a' := ?_) ?_ ?_
  rotate_left
  · show Act.put _ (some 36) _ = _
    simp only [Act.put, List.setIfInBounds_toArray, List.set_cons_zero, List.set_cons_succ, i64_w, i32_w]
    rfl
  refine one_ (i := 7) (N := some 37) #[true, true, true, true, true, true, true, true, false, false, false] rfl rfl (one_of HT_.out (by kernel_rfl)) (by decide) (fun K hK => ?_)
  refine Kd.Ras k92 (w0 := w0) w0.heap.size (by rfl) (.tmp 34) (.tmp 36) 74 92 (.agg #[.string ⟨#[]⟩, .bool false, .int .i64 0]) 32 rfl Tryd.underlying74 (by kernel_rfl) rfl (by decide) (by decide) (.slice A ds.length c) ds ⟨p, m, at_⟩ [.string p, .bool m, .int .i64 at_] (fun k => k ≠ bo ∧ k ≠ bx) (fun _ => False) rfl rfl (kd_mkM _ _ _ _) (fun _ h => h.elim) (fun k hk => ⟨by have := LO.out; omega, by have := LX.out; omega⟩) RD.out HB.out (by have := LO.out; have := HBO.out; omega) (by have := HL.out; omega) ?_
  intro v_ w_ hR hB hg hat
  have KO1 := hid (bG_ KO.out hg (Kd.R_ne RD.out KO.out (by decide)))
  have KX1 := hid (bG_ KX.out hg (fun e => (RD.out.1 _ e.symm).2 rfl))
  have FR1 := hid (fun (b : Nat) (cs : Array Value) (t : TypeId) (h : w.heap[b]? = some (.cells cs t)) (ht : 92 ≠ t) => bG_ ((HW.out b).trans h) hg (Kd.R_ne RD.out ((HW.out b).trans h) ht))
  have HB1 := hid hB
  obtain ⟨A1, c1, hv⟩ := Kd.R_slice hR
  rw [List.length_append, List.length_singleton] at hv
  subst hv
  have RD1 := hid hR
  clear hR hB hg hat KO KX RD HB
  refine hK.out _ _ ⟨(bC KO1.out 0).trans rfl, (bC KX1.out 0).trans rfl, (bC KX1.out 1).trans rfl, (bC KX1.out 2).trans rfl⟩ (fun hHeld => ?_)
  clear hK K
  refine norm_ (a' := ?_) ?_ ?_
  rotate_left
  · show Act.put _ (some 37) _ = _
    simp only [Act.put, List.setIfInBounds_toArray, List.set_cons_zero, List.set_cons_succ, i64_w, i32_w]
    rfl
  refine pure_ (i := 8) (N := some 38) (v := ?_) (a' := ?_) #[true, true, true, true, true, true, true, true, true, false, false] rfl rfl (any_of HT_.out (by kernel_rfl)) (fun _ _ _ h => hP _ _ _ _ (by rfl) h) (Or.inl ⟨by rfl, ?_⟩) ?_ ?_
  rotate_left
  · intro w'
    go_simp
    with_reducible rfl
  rotate_left
  · simp only [Act.put, List.setIfInBounds_toArray, List.set_cons_zero, List.set_cons_succ, i64_w, i32_w]
    rfl
  refine pure_ (i := 9) (N := some 39) (v := ?_) (a' := ?_) #[true, true, true, true, true, true, true, true, true, true, false] rfl rfl (any_of HT_.out (by kernel_rfl)) (fun _ _ _ h => hP _ _ _ _ (by rfl) h) (Or.inl ⟨by rfl, ?_⟩) ?_ ?_
  rotate_left
  · intro w'
    go_simp
    with_reducible rfl
  rotate_left
  · simp only [Act.put, List.setIfInBounds_toArray, List.set_cons_zero, List.set_cons_succ, i64_w, i32_w]
    rfl
  refine last_ (i := 10) (N := none) #[true, true, true, true, true, true, true, true, true, true, true] rfl rfl (one_of HT_.out (by kernel_rfl)) (by decide) (fun K hK => ?_)
  have hs : w_.cell? ⟨bo, 0, none⟩ = some (.slice A ds.length c) := (bC KO1.out 0).trans rfl
  have hf := bF KO1.out 0
  refine skip_ (w1 := ?_) (by rfl) rfl ?_ ?_
  rotate_left
  · go_simp
    rfl
  refine hK.out _ _ ?_
  clear hK K
  refine done_ (done_of HT_.out (by kernel_rfl)) ?_
  have KO2 := blk_put KO1.out 0 (.slice A1 (ds.length + 1) c1) rfl
  have KX2 := blk_far (p := ⟨bo, 0, none⟩) KX1.out NE.out (.slice A1 (ds.length + 1) c1)
  have RD2 := Kd.R_far RD1.out (p := ⟨bo, 0, none⟩) (fun k hk => hk.1) (.slice A1 (ds.length + 1) c1)
  exact hQ _ _ _ _ _ _ _ _ _ _ A1 c1 _ (lS_ HB1.out HBO.out) KO2 KX2 RD2 (fun b cs t h hb ht => blk_far (p := ⟨bo, 0, none⟩) (FR1.out b cs t h ht) hb _)
end Go.Proofs.YtdbpboipiceifaaDoorPSP
set_option linter.unusedVariables false
set_option linter.unusedSimpArgs false
namespace Go.Proofs.YtdbpboipiceifaaDoorPSP
open Go.RowKit Go.Extern.Stop Go.Stop Go.Extern Go.Proofs.YtdbpboipiceifaaDoorW.PrintWords Go.Proofs.YtdbpboipiceifaaDoorW.PrintLast Go.Proofs.YtdbpboipiceifaaDoor
def pr17_T : Bool × List (List Nat × List Nat) := pr7_T
theorem pr17_tab : rtab .any (opsOf Tryd.f9 17) = pr17_T := by kernel_rfl
theorem pr17_bits : waitsOk pr17_T.2 pr7_B = true := by kernel_rfl
theorem kr_mk (w : World) (x : R43) {A1 A3 : Option Addr} {c1 c3 : Nat} (l1 : x.f0.f1.length ≤ c1) (g1 : Kd.C k53 w A1 x.f0.f1.length x.f0.f1) (l3 : x.f2.length ≤ c3) (g3 : Kd.C k59 w A3 x.f2.length x.f2) :
    kr43.K w x [.string x.f0.f0, .slice A1 x.f0.f1.length c1, .int .i64 x.f1, .slice A3 x.f2.length c3, .int .i64 x.f3] :=
  ⟨[.string x.f0.f0, .slice A1 x.f0.f1.length c1], [.int .i64 x.f1, .slice A3 x.f2.length c3, .int .i64 x.f3], rfl, k39_mk w x.f0 l1 g1, ⟨[.int .i64 x.f1], [.slice A3 x.f2.length c3, .int .i64 x.f3], rfl, rfl, ⟨[.slice A3 x.f2.length c3], [.int .i64 x.f3], rfl, ⟨A3, c3, rfl, l3, g3⟩, rfl⟩⟩⟩
theorem kr_mkF (W : World) (ok : Nat → Prop) (x : R43) {A1 A3 : Option Addr} {c1 c3 : Nat} (l1 : x.f0.f1.length ≤ c1) (g1 : Kd.F k53 W ok A1 x.f0.f1.length x.f0.f1) (l3 : x.f2.length ≤ c3) (g3 : Kd.F k59 W ok A3 x.f2.length x.f2) :
    Kd.FK kr43 W ok x [.string x.f0.f0, .slice A1 x.f0.f1.length c1, .int .i64 x.f1, .slice A3 x.f2.length c3, .int .i64 x.f3] := fun W2 hW => kr_mk W2 x l1 (g1 W2 hW) l3 (g3 W2 hW)
set_option maxHeartbeats 4000000 in
set_option maxRecDepth 100000 in
theorem rg17 {Q : Exit → Act → World → Prop} {w w0 : World} {bo bx : Nat} {A Aa Ab : Option Addr} {c ca cb : Nat} {vD : Value} {ds : List S92} {rs : List R43} {r : R43}
    (u0 u1 u2 u3 u4 u5 u7 u8 u9 u10 u11 u12 u14 u15 u16 u17 u18 u19 u20 u21 u22 u23 u24 u25 u26 u27 u28 u29 u30 u31 u32 u33 u34 u35 u36 u37 u38 u39 u40 u41 u42 u43 u44 u45 u46 u47 u48 u49 u50 u51 u52 u53 u54 u55 u56 u57 u58 u59 u60 u61 u62 u63 u64 u65 u66 u67 u68 u69 u70 u71 u72 u73 u74 u75 u76 u77 u78 u79 u80 u81 u82 u83 : Value) (df : List Deferred) (hP : ∀ c (a a' : Act) w, a.defers = a'.defers → Q (.panic c) a w → Q (.panic c) a' w)
    (HB0 : Hid (Below w0.heap.size w0 w)) (HBO : Hid (w0.heap.size ≤ bo)) (NE : Hid (bx ≠ bo)) (KO0 : Hid (w.heap[bo]? = some (.cells #[vD, .slice A rs.length c] 77))) (KX0 : Hid (w.heap[bx]? = some (.cells #[.string r.f0.f0, .slice Aa r.f0.f1.length ca, .int .i64 r.f1, .slice Ab r.f2.length cb, .int .i64 r.f3] 43)))
    (RD0 : Hid (Kd.R k92 92 w w0.heap.size (fun k => k ≠ bo ∧ some k ≠ (Value.slice A rs.length c).ownBlock) vD ds)) (RN0 : Hid (Kd.N kr43 43 w w0.heap.size (fun k => k ≠ bo) (.slice A rs.length c) rs)) (NX : Hid (∀ k, (Value.slice A rs.length c).ownBlock = some k → k ≠ bx))
    (LA : Hid (r.f0.f1.length ≤ ca)) (FA0 : Hid (Kd.F k53 w (fun k => k ≠ bo ∧ some k ≠ (Value.slice A rs.length c).ownBlock) Aa r.f0.f1.length r.f0.f1)) (LB : Hid (r.f2.length ≤ cb)) (FB0 : Hid (Kd.F k59 w (fun k => k ≠ bo ∧ some k ≠ (Value.slice A rs.length c).ownBlock) Ab r.f2.length r.f2)) (HL : Hid (rs.length ≤ 100))
    (hQ : ∀ (v66 v67 v68 v69 v70 v71 v72 v73 v74 v75 : Value) (A' : Option Addr) (c' : Nat) (W : World), Below w0.heap.size w0 W → W.heap[bo]? = some (.cells #[vD, .slice A' (rs.length + 1) c'] 77) → W.heap[bx]? = some (.cells #[.string r.f0.f0, .slice Aa r.f0.f1.length ca, .int .i64 r.f1, .slice Ab r.f2.length cb, .int .i64 r.f3] 43) →
      Kd.R k92 92 W w0.heap.size (fun k => k ≠ bo) vD ds → Kd.N kr43 43 W w0.heap.size (fun k => k ≠ bo) (.slice A' (rs.length + 1) c') (rs ++ [r]) → w.heap.size ≤ W.heap.size → (∀ k : Nat, k ≠ bo → some k ≠ (Value.slice A rs.length c).ownBlock → k < w.heap.size → W.heap[k]? = w.heap[k]?) → Q .normal ⟨#[u0, u1, u2, u3, u4, u5, Value.pointer (some ⟨bo, 0, none⟩), u7, u8, u9, u10, u11, u12, Value.pointer (some ⟨bx, 0, none⟩), u14, u15, u16, u17, u18, u19, u20, u21, u22, u23, u24, u25, u26, u27, u28, u29, u30, u31, u32, u33, u34, u35, u36, u37, u38, u39, u40, u41, u42, u43, u44, u45, u46, u47, u48, u49, u50, u51, u52, u53, u54, u55, u56, u57, u58, u59, u60, u61, u62, u63, u64, u65, v66, v67, v68, v69, v70, v71, v72, v73, v74, v75, u76, u77, u78, u79, u80, u81, u82, u83], df⟩ W) :
    (Code.region 17 (opsOf Tryd.f9 17) true).wp Tryd.prog Q ⟨#[u0, u1, u2, u3, u4, u5, Value.pointer (some ⟨bo, 0, none⟩), u7, u8, u9, u10, u11, u12, Value.pointer (some ⟨bx, 0, none⟩), u14, u15, u16, u17, u18, u19, u20, u21, u22, u23, u24, u25, u26, u27, u28, u29, u30, u31, u32, u33, u34, u35, u36, u37, u38, u39, u40, u41, u42, u43, u44, u45, u46, u47, u48, u49, u50, u51, u52, u53, u54, u55, u56, u57, u58, u59, u60, u61, u62, u63, u64, u65, u66, u67, u68, u69, u70, u71, u72, u73, u74, u75, u76, u77, u78, u79, u80, u81, u82, u83], df⟩ w := by
  conv in (opsOf _ _) => whnf
  have LO0 := Go.Proofs.YtdbpboipiceifaaDoor.blk_lt KO0.out
  have LX0 := Go.Proofs.YtdbpboipiceifaaDoor.blk_lt KX0.out
  refine start_ (n := 11) (S := fun W => W.cell? ⟨bo, 1, none⟩ = some (.slice A rs.length c) ∧ W.cell? ⟨bx, 0, none⟩ = some (.string r.f0.f0) ∧ W.cell? ⟨bx, 1, none⟩ = some (.slice Aa r.f0.f1.length ca) ∧ W.cell? ⟨bx, 2, none⟩ = some (.int .i64 r.f1) ∧ W.cell? ⟨bx, 3, none⟩ = some (.slice Ab r.f2.length cb) ∧ W.cell? ⟨bx, 4, none⟩ = some (.int .i64 r.f3)) (ds := [10]) #[false, false, false, false, false, false, false, false, false, false, false] (by kernel_rfl) rfl rfl ⟨(bC (bD KO0.out) 1).trans rfl, (bC (bD KX0.out) 0).trans rfl, (bC (bD KX0.out) 1).trans rfl, (bC (bD KX0.out) 2).trans rfl, (bC (bD KX0.out) 3).trans rfl, (bC (bD KX0.out) 4).trans rfl⟩ (fun hHeld => ?_)
  have KO := hid (bD KO0.out)
  have KX := hid (bD KX0.out)
  have RD := hid (Kd.R_drew RD0.out)
  have RN := hid (Kd.N_drew RN0.out)
  have FA := hid (Kd.F_below FA0.out (below_drew (Below.refl _ _)))
  have FB := hid (Kd.F_below FB0.out (below_drew (Below.refl _ _)))
  have HB := hid (below_drew HB0.out)
  have LO : Hid (bo < w.drew.heap.size) := hid LO0
  have LX : Hid (bx < w.drew.heap.size) := hid LX0
  have SZ0 : Hid (w.heap.size ≤ w.drew.heap.size) := hid (Nat.le_refl _)
  have HW : Hid (∀ b : Nat, w.drew.heap[b]? = w.heap[b]?) := hid (fun _ => rfl)
  clear KO0 KX0 RD0 RN0 FA0 FB0 HB0 LO0 LX0
  generalize w.drew = wD at KO KX RD RN FA FB HB LO LX SZ0 HW hHeld ⊢
  refine with_tabW pr17_tab pr17_bits (fun HT_ HW_ => ?_)
  refine pure_ (i := 0) (N := some 66) (v := ?_) (a' := ?_) #[true, false, false, false, false, false, false, false, false, false, false] rfl rfl (any_of HT_.out (by kernel_rfl)) (fun _ _ _ h => hP _ _ _ _ (by rfl) h) (Or.inl ⟨by rfl, ?_⟩) ?_ ?_
  rotate_left
  · intro w'
    go_simp
    with_reducible rfl
  rotate_left
  · simp only [Act.put, List.setIfInBounds_toArray, List.set_cons_zero, List.set_cons_succ, i64_w, i32_w]
    rfl
  refine pure_ (i := 1) (N := some 67) (v := ?_) (a' := ?_) #[true, true, false, false, false, false, false, false, false, false, false] rfl rfl (any_of HT_.out (by kernel_rfl)) (fun _ _ _ h => hP _ _ _ _ (by rfl) h) (Or.inl ⟨by rfl, ?_⟩) ?_ ?_
  rotate_left
  · intro w'
    go_simp
    with_reducible rfl
  rotate_left
  · simp only [Act.put, List.setIfInBounds_toArray, List.set_cons_zero, List.set_cons_succ, i64_w, i32_w]
    rfl
  refine pure_ (i := 2) (N := some 68) (v := ?_) (a' := ?_) #[true, true, true, false, false, false, false, false, false, false, false] rfl rfl (any_of HT_.out (by kernel_rfl)) (fun _ _ _ h => hP _ _ _ _ (by rfl) h) (Or.inl ⟨by rfl, ?_⟩) ?_ ?_
  rotate_left
  · intro w'
    go_simp
    with_reducible rfl
  rotate_left
  · simp only [Act.put, List.setIfInBounds_toArray, List.set_cons_zero, List.set_cons_succ, i64_w, i32_w]
    rfl
  refine pure_ (i := 3) (N := some 69) (v := ?_) (a' := ?_) #[true, true, true, true, false, false, false, false, false, false, false] rfl rfl (any_of HT_.out (by kernel_rfl)) (fun _ _ _ h => hP _ _ _ _ (by rfl) h) (Or.inl ⟨by rfl, ?_⟩) ?_ ?_
  rotate_left
  · intro w'
    go_simp
    with_reducible rfl
  rotate_left
  · simp only [Act.put, List.setIfInBounds_toArray, List.set_cons_zero, List.set_cons_succ, i64_w, i32_w]
    rfl
  refine take_ (i := 4) (N := some 70) (v := ?_) (a' := ?_) #[true, true, true, true, true, false, false, false, false, false, false] rfl rfl (take_ofW HT_.out HW_.out (by kernel_rfl)) (fun _ _ _ h => hP _ _ _ _ (by rfl) h) (Or.inl ⟨by rfl, ?_⟩) hHeld ?_ ?_
  rotate_left
  · rintro w' ⟨s0, s1, s2, s3, s4, s5⟩
    go_simp
    with_reducible rfl
  rotate_left
  · simp only [Act.put, List.setIfInBounds_toArray, List.set_cons_zero, List.set_cons_succ, i64_w, i32_w]
    rfl
  refine take_ (i := 5) (N := some 71) (v := ?_) (a' := ?_) #[true, true, true, true, true, true, false, false, false, false, false] rfl rfl (take_ofW HT_.out HW_.out (by kernel_rfl)) (fun _ _ _ h => hP _ _ _ _ (by rfl) h) (Or.inl ⟨by rfl, ?_⟩) hHeld ?_ ?_
  rotate_left
  · rintro w' ⟨s0, s1, s2, s3, s4, s5⟩
    go_simp
    with_reducible rfl
  rotate_left
  · simp only [Act.put, List.setIfInBounds_toArray, List.set_cons_zero, List.set_cons_succ, i64_w, i32_w]
    rfl
  refine one_ (i := 6) (N := some 72) #[true, true, true, true, true, true, true, false, false, false, false] rfl rfl (one_of HT_.out (by kernel_rfl)) (by decide) (fun K hK => ?_)
  refine value_ (w1 := ?_) (v := ?_) (by rfl) rfl ?_ ?_
  rotate_left 2
  · go_simp
    constructor
    · rfl
    · rfl
  refine hK.out _ _ ⟨(bC (bA KO.out _) 1).trans rfl, (bC (bA KX.out _) 0).trans rfl, (bC (bA KX.out _) 1).trans rfl, (bC (bA KX.out _) 2).trans rfl, (bC (bA KX.out _) 3).trans rfl, (bC (bA KX.out _) 4).trans rfl⟩ (fun hHeld => ?_)
  clear hK K
  refine norm_ (a' := ?_) ?_ ?_
  rotate_left
  · show Act.put _ (some 72) _ = _
    simp only [Act.put, List.setIfInBounds_toArray, List.set_cons_zero, List.set_cons_succ, i64_w, i32_w]
    rfl
  refine one_ (i := 7) (N := some 73) #[true, true, true, true, true, true, true, true, false, false, false] rfl rfl (one_of HT_.out (by kernel_rfl)) (by decide) (fun K hK => ?_)
  refine Kd.N_append_step kr43 (w0 := w0) w0.heap.size (by rfl) (.tmp 70) (.tmp 72) 75 43 (.agg #[.string ⟨#[]⟩, .slice none 0 0, .int .i64 0, .slice none 0 0, .int .i64 0]) 80 rfl Tryd.underlying75 (by kernel_rfl) rfl (by decide) (by decide) (.slice A rs.length c) rs r [.string r.f0.f0, .slice Aa r.f0.f1.length ca, .int .i64 r.f1, .slice Ab r.f2.length cb, .int .i64 r.f3] (fun k => k ≠ bo) (fun k => k ≠ bo ∧ some k ≠ (Value.slice A rs.length c).ownBlock) rfl rfl (kr_mkF _ _ r LA.out FA.out LB.out FB.out) (fun _ h => h) (fun k hk => by have := LO.out; omega) RN.out HB.out (by have := LO.out; have := HBO.out; omega) (by have := HL.out; omega) ?_
  intro v_ w_ hR hB hg hat
  have KO1 := hid (bG_ KO.out hg (Kd.N_ne RN.out KO.out (by decide)))
  have KX1 := hid (bG_ KX.out hg (fun e => NX.out _ e.symm rfl))
  have RD1 := hid (Kd.R_grown RD.out hg (fun k hk => hk.2))
  have FR1 := hid (fun (k : Nat) (hr : some k ≠ (Value.slice A rs.length c).ownBlock) (hl : k < w.heap.size) => (hg.block k (Nat.lt_of_lt_of_le hl SZ0.out) hr).trans (HW.out k))
  have HB1 := hid hB
  have SZ : Hid (w.heap.size ≤ w_.heap.size) := hid (Nat.le_trans SZ0.out hg.size)
  obtain ⟨A1, c1, hv⟩ := Kd.N_slice hR
  rw [List.length_append, List.length_singleton] at hv
  subst hv
  have RN1 := hid hR
  clear hR hB hg hat KO KX RD HB RN FA FB
  refine hK.out _ _ ⟨(bC KO1.out 1).trans rfl, (bC KX1.out 0).trans rfl, (bC KX1.out 1).trans rfl, (bC KX1.out 2).trans rfl, (bC KX1.out 3).trans rfl, (bC KX1.out 4).trans rfl⟩ (fun hHeld => ?_)
  clear hK K
  refine norm_ (a' := ?_) ?_ ?_
  rotate_left
  · show Act.put _ (some 73) _ = _
    simp only [Act.put, List.setIfInBounds_toArray, List.set_cons_zero, List.set_cons_succ, i64_w, i32_w]
    rfl
  refine pure_ (i := 8) (N := some 74) (v := ?_) (a' := ?_) #[true, true, true, true, true, true, true, true, true, false, false] rfl rfl (any_of HT_.out (by kernel_rfl)) (fun _ _ _ h => hP _ _ _ _ (by rfl) h) (Or.inl ⟨by rfl, ?_⟩) ?_ ?_
  rotate_left
  · intro w'
    go_simp
    with_reducible rfl
  rotate_left
  · simp only [Act.put, List.setIfInBounds_toArray, List.set_cons_zero, List.set_cons_succ, i64_w, i32_w]
    rfl
  refine pure_ (i := 9) (N := some 75) (v := ?_) (a' := ?_) #[true, true, true, true, true, true, true, true, true, true, false] rfl rfl (any_of HT_.out (by kernel_rfl)) (fun _ _ _ h => hP _ _ _ _ (by rfl) h) (Or.inl ⟨by rfl, ?_⟩) ?_ ?_
  rotate_left
  · intro w'
    go_simp
    with_reducible rfl
  rotate_left
  · simp only [Act.put, List.setIfInBounds_toArray, List.set_cons_zero, List.set_cons_succ, i64_w, i32_w]
    rfl
  refine last_ (i := 10) (N := none) #[true, true, true, true, true, true, true, true, true, true, true] rfl rfl (one_of HT_.out (by kernel_rfl)) (by decide) (fun K hK => ?_)
  have hs : w_.cell? ⟨bo, 1, none⟩ = some (.slice A rs.length c) := (bC KO1.out 1).trans rfl
  have hf := bF KO1.out 1
  refine skip_ (w1 := ?_) (by rfl) rfl ?_ ?_
  rotate_left
  · go_simp
    rfl
  refine hK.out _ _ ?_
  clear hK K
  refine done_ (done_of HT_.out (by kernel_rfl)) ?_
  have KO2 := blk_put KO1.out 1 (.slice A1 (rs.length + 1) c1) rfl
  have KX2 := blk_far (p := ⟨bo, 1, none⟩) KX1.out NE.out (.slice A1 (rs.length + 1) c1)
  have RD2 := Kd.R_mono (Kd.R_far RD1.out (p := ⟨bo, 1, none⟩) (fun k hk => hk.1) (.slice A1 (rs.length + 1) c1)) (ok' := (fun k => k ≠ bo)) (fun k hk => hk.1)
  have RN2 := Kd.N_far RN1.out (p := ⟨bo, 1, none⟩) (fun k hk => hk) (.slice A1 (rs.length + 1) c1)
  exact hQ _ _ _ _ _ _ _ _ _ _ A1 c1 _ (lS_ HB1.out HBO.out) KO2 KX2 RD2 RN2 (Nat.le_trans SZ.out (by simp [World.setCell])) (fun k hb hr hl => (Below.heap_setCell _ _ _ _ hb).trans (FR1.out k hr hl))
end Go.Proofs.YtdbpboipiceifaaDoorPSP
set_option linter.unusedVariables false
set_option linter.unusedSimpArgs false
namespace Go.Proofs.YtdbpboipiceifaaDoorPSP
open Go.RowKit Go.Extern.Stop Go.Stop Go.Extern Go.Proofs.YtdbpboipiceifaaDoorW.PrintWords Go.Proofs.YtdbpboipiceifaaDoorW.PrintLast Go.Proofs.YtdbpboipiceifaaDoor
def pr6_T : Bool × List (List Nat × List Nat) := (true, [([], []), ([0], [0]), ([1], [1]), ([], []), ([3], [3]), ([], []), ([5], [5]), ([2, 4, 6], [2, 4, 6]), ([], []), ([8, 7, 2, 0, 1, 2, 3, 4, 5, 6, 7, 8], [7, 8])])
def pr6_B : List Nat := [0, 1, 3, 0, 8, 0, 32, 127, 0, 511]
theorem pr6_tab : rtab .any (opsOf Tryd.f9 6) = pr6_T := by kernel_rfl
theorem pr6_bits : waitsOk pr6_T.2 pr6_B = true := by kernel_rfl
set_option maxHeartbeats 4000000 in
set_option maxRecDepth 100000 in
theorem rg6 {Q : Exit → Act → World → Prop} {w : World} {b9 : Nat} {n : Int} {m : Bool} {s pd : ByteArray}
    (u0 u1 u2 u3 u4 u5 u6 u8 u10 u11 u12 u13 u14 u15 u16 u17 u18 u19 u20 u21 u22 u23 u24 u25 u26 u27 u28 u29 u30 u31 u32 u33 u34 u35 u36 u37 u38 u39 u40 u41 u42 u43 u44 u45 u46 u47 u48 u49 u50 u51 u52 u53 u54 u55 u56 u57 u58 u59 u60 u61 u62 u63 u64 u65 u66 u67 u68 u69 u70 u71 u72 u73 u74 u75 u76 u77 u78 u79 u80 u81 u82 u83 : Value) (df : List Deferred) (hP : ∀ c (a a' : Act) w, a.defers = a'.defers → Q (.panic c) a w → Q (.panic c) a' w)
    (K9 : Hid (w.heap[b9]? = some (.cells #[.int .i64 n, .bool m] 89))) (HPD : Hid (ergolaw13_Pred.f n = some pd))
    (hQ : ∀ (v22 v23 v24 v25 v26 v27 v28 v29 : Value) (bx : Nat) (W : World), Below w.heap.size w W → w.heap.size ≤ bx → W.heap[bx]? = some (.cells #[.string pd, .bool m, .int .i64 (s.size : Int)] 92) → Q .normal ⟨#[u0, u1, u2, u3, u4, u5, u6, Value.string s, u8, Value.pointer (some ⟨b9, 0, none⟩), Value.pointer (some ⟨bx, 0, none⟩), u11, u12, u13, u14, u15, u16, u17, u18, u19, u20, u21, v22, v23, v24, v25, v26, v27, v28, v29, u30, u31, u32, u33, u34, u35, u36, u37, u38, u39, u40, u41, u42, u43, u44, u45, u46, u47, u48, u49, u50, u51, u52, u53, u54, u55, u56, u57, u58, u59, u60, u61, u62, u63, u64, u65, u66, u67, u68, u69, u70, u71, u72, u73, u74, u75, u76, u77, u78, u79, u80, u81, u82, u83], df⟩ W) :
    (Code.region 6 (opsOf Tryd.f9 6) true).wp Tryd.prog Q ⟨#[u0, u1, u2, u3, u4, u5, u6, Value.string s, u8, Value.pointer (some ⟨b9, 0, none⟩), u10, u11, u12, u13, u14, u15, u16, u17, u18, u19, u20, u21, u22, u23, u24, u25, u26, u27, u28, u29, u30, u31, u32, u33, u34, u35, u36, u37, u38, u39, u40, u41, u42, u43, u44, u45, u46, u47, u48, u49, u50, u51, u52, u53, u54, u55, u56, u57, u58, u59, u60, u61, u62, u63, u64, u65, u66, u67, u68, u69, u70, u71, u72, u73, u74, u75, u76, u77, u78, u79, u80, u81, u82, u83], df⟩ w := by
  conv in (opsOf _ _) => whnf
  refine start_ (n := 10) (S := fun W => W.cell? ⟨b9, 0, none⟩ = some (.int .i64 n) ∧ W.cell? ⟨b9, 1, none⟩ = some (.bool m)) (ds := [9]) #[false, false, false, false, false, false, false, false, false, false] (by kernel_rfl) rfl rfl ⟨(bC (bD K9.out) 0).trans rfl, (bC (bD K9.out) 1).trans rfl⟩ (fun hHeld => ?_)
  refine with_tabW pr6_tab pr6_bits (fun HT_ HW_ => ?_)
  refine pure_ (i := 0) (N := some 22) (v := ?_) (a' := ?_) #[true, false, false, false, false, false, false, false, false, false] rfl rfl (any_of HT_.out (by kernel_rfl)) (fun _ _ _ h => hP _ _ _ _ (by rfl) h) (Or.inl ⟨by rfl, ?_⟩) ?_ ?_
  rotate_left
  · intro w'
    go_simp
    with_reducible rfl
  rotate_left
  · simp only [Act.put, List.setIfInBounds_toArray, List.set_cons_zero, List.set_cons_succ, i64_w, i32_w]
    rfl
  refine pure_ (i := 3) (N := some 25) (v := ?_) (a' := ?_) #[true, false, false, true, false, false, false, false, false, false] rfl rfl (any_of HT_.out (by kernel_rfl)) (fun _ _ _ h => hP _ _ _ _ (by rfl) h) (Or.inl ⟨by rfl, ?_⟩) ?_ ?_
  rotate_left
  · intro w'
    go_simp
    with_reducible rfl
  rotate_left
  · simp only [Act.put, List.setIfInBounds_toArray, List.set_cons_zero, List.set_cons_succ, i64_w, i32_w]
    rfl
  refine pure_ (i := 5) (N := some 27) (v := ?_) (a' := ?_) #[true, false, false, true, false, true, false, false, false, false] rfl rfl (any_of HT_.out (by kernel_rfl)) (fun _ _ _ h => hP _ _ _ _ (by rfl) h) (Or.inl ⟨by rfl, ?_⟩) ?_ ?_
  rotate_left
  · intro w'
    go_simp
    with_reducible rfl
  rotate_left
  · simp only [Act.put, List.setIfInBounds_toArray, List.set_cons_zero, List.set_cons_succ, i64_w, i32_w]
    rfl
  refine take_ (i := 1) (N := some 23) (v := ?_) (a' := ?_) #[true, true, false, true, false, true, false, false, false, false] rfl rfl (take_ofW HT_.out HW_.out (by kernel_rfl)) (fun _ _ _ h => hP _ _ _ _ (by rfl) h) (Or.inl ⟨by rfl, ?_⟩) hHeld ?_ ?_
  rotate_left
  · rintro w' ⟨s0, s1⟩
    go_simp
    with_reducible rfl
  rotate_left
  · simp only [Act.put, List.setIfInBounds_toArray, List.set_cons_zero, List.set_cons_succ, i64_w, i32_w]
    rfl
  refine take_ (i := 4) (N := some 26) (v := ?_) (a' := ?_) #[true, true, false, true, true, true, false, false, false, false] rfl rfl (take_ofW HT_.out HW_.out (by kernel_rfl)) (fun _ _ _ h => hP _ _ _ _ (by rfl) h) (Or.inl ⟨by rfl, ?_⟩) hHeld ?_ ?_
  rotate_left
  · rintro w' ⟨s0, s1⟩
    go_simp
    with_reducible rfl
  rotate_left
  · simp only [Act.put, List.setIfInBounds_toArray, List.set_cons_zero, List.set_cons_succ, i64_w, i32_w]
    rfl
  refine pure_ (i := 6) (N := some 28) (v := ?_) (a' := ?_) #[true, true, false, true, true, true, true, false, false, false] rfl rfl (any_of HT_.out (by kernel_rfl)) (fun _ _ _ h => hP _ _ _ _ (by rfl) h) (Or.inl ⟨by rfl, ?_⟩) ?_ ?_
  rotate_left
  · intro w'
    go_simp
    with_reducible rfl
  rotate_left
  · simp only [Act.put, List.setIfInBounds_toArray, List.set_cons_zero, List.set_cons_succ, i64_w, i32_w]
    rfl

  refine two_ (i := 2) (j := 8) (Ni := some 24) (Nj := some 10) #[true, true, true, true, true, true, true, false, false, false] #[true, true, false, true, true, true, true, false, true, false] rfl rfl rfl rfl (two_of HT_.out (by kernel_rfl)) (by decide) (by decide) (fun K hK => ?_) (fun K hK => ?_)
  · have Y0 : Hid (Below w.heap.size w w.drew) := hid (below_drew (Below.refl _ _))
    have KD := hid (bD K9.out)
    refine goes_ Tryd.func26 (by kernel_rfl) rfl #[.int .i64 n] (by rfl) rfl rfl (by (try simp only [List.map_toArray, List.map_cons, List.map_nil]); first | done | rfl) ?_
    refine (ergolaw13_Pred.calls n pd _ HPD.out).mono ?_
    rintro e_ w_ ⟨rfl, hb⟩
    have K1 := hid (bB KD.out hb)
    have Y1 := hid (lT_ Y0.out hb)
    clear hb
    refine ⟨_, rfl, ?_⟩
    refine hK.out _ _ ⟨(bC K1.out 0).trans rfl, (bC K1.out 1).trans rfl⟩ (fun hHeld => ?_)
    clear hK K
    refine norm_ (a' := ?_) ?_ ?_
    rotate_left
    · show Act.put _ (some 24) _ = _
      simp only [Act.put, List.setIfInBounds_toArray, List.set_cons_zero, List.set_cons_succ, i64_w, i32_w]
      rfl
    refine pure_ (i := 7) (N := some 29) (v := ?_) (a' := ?_) #[true, true, true, true, true, true, true, true, false, false] rfl rfl (any_of HT_.out (by kernel_rfl)) (fun _ _ _ h => hP _ _ _ _ (by rfl) h) (Or.inl ⟨by rfl, ?_⟩) ?_ ?_
    rotate_left
    · intro w'
      go_simp
      with_reducible rfl
    rotate_left
    · simp only [Act.put, List.setIfInBounds_toArray, List.set_cons_zero, List.set_cons_succ, i64_w, i32_w]
      rfl
    refine one_ (i := 8) (N := some 10) #[true, true, true, true, true, true, true, true, true, false] rfl rfl (one_of HT_.out (by kernel_rfl)) (by decide) (fun K hK => ?_)
    have KX := hid (heap_alloc_new w_ (.cells #[.string ⟨#[]⟩, .bool false, .int .i64 0] 92))
    refine value_ (w1 := ?_) (v := ?_) (by rfl) rfl ?_ ?_
    rotate_left 2
    · go_simp
      constructor
      · rfl
      · rfl
    refine hK.out _ _ ⟨(bC (bA K1.out _) 0).trans rfl, (bC (bA K1.out _) 1).trans rfl⟩ (fun hHeld => ?_)
    clear hK K
    refine norm_ (a' := ?_) ?_ ?_
    rotate_left
    · show Act.put _ (some 10) _ = _
      simp only [Act.put, List.setIfInBounds_toArray, List.set_cons_zero, List.set_cons_succ, i64_w, i32_w]
      rfl
    refine last_ (i := 9) (N := none) #[true, true, true, true, true, true, true, true, true, true] rfl rfl (one_of HT_.out (by kernel_rfl)) (by decide) (fun K hK => ?_)
    have hs0 : (w_.alloc (.cells #[.string ⟨#[]⟩, .bool false, .int .i64 0] 92)).cell? ⟨w_.heap.size, 0, none⟩ = some (.string ⟨#[]⟩) := (bC KX.out 0).trans rfl
    have hs1 : (w_.alloc (.cells #[.string ⟨#[]⟩, .bool false, .int .i64 0] 92)).cell? ⟨w_.heap.size, 1, none⟩ = some (.bool false) := (bC KX.out 1).trans rfl
    have hs2 : (w_.alloc (.cells #[.string ⟨#[]⟩, .bool false, .int .i64 0] 92)).cell? ⟨w_.heap.size, 2, none⟩ = some (.int .i64 0) := (bC KX.out 2).trans rfl
    have hf0 := bF KX.out 0
    have hf1 := bF KX.out 1
    have hf2 := bF KX.out 2
    refine skip_ (w1 := ?_) (by rfl) rfl ?_ ?_
    rotate_left
    · go_simp
      rfl
    refine hK.out _ _ ?_
    clear hK K
    refine done_ (done_of HT_.out (by kernel_rfl)) ?_
    exact hQ _ _ _ _ _ _ _ _ _ _ (lA_ Y1.out _) Y1.out.size (heap_alloc_new w_ _)
  · have Y0 : Hid (Below w.heap.size w (w.drew.alloc (.cells #[.string ⟨#[]⟩, .bool false, .int .i64 0] 92))) := hid (lA_ (below_drew (Below.refl _ _)) _)
    have KX0 := hid (heap_alloc_new w.drew (.cells #[.string ⟨#[]⟩, .bool false, .int .i64 0] 92))
    have KD := hid (bA (bD K9.out) (.cells #[.string ⟨#[]⟩, .bool false, .int .i64 0] 92))
    refine value_ (w1 := ?_) (v := ?_) (by rfl) rfl ?_ ?_
    rotate_left 2
    · go_simp
      constructor
      · rfl
      · rfl
    refine hK.out _ _ ⟨(bC KD.out 0).trans rfl, (bC KD.out 1).trans rfl⟩ (fun hHeld => ?_)
    clear hK K
    refine norm_ (a' := ?_) ?_ ?_
    rotate_left
    · show Act.put _ (some 10) _ = _
      simp only [Act.put, List.setIfInBounds_toArray, List.set_cons_zero, List.set_cons_succ, i64_w, i32_w]
      rfl
    refine one_ (i := 2) (N := some 24) #[true, true, true, true, true, true, true, false, true, false] rfl rfl (one_of HT_.out (by kernel_rfl)) (by decide) (fun K hK => ?_)
    refine goes_ Tryd.func26 (by kernel_rfl) rfl #[.int .i64 n] (by rfl) rfl rfl (by (try simp only [List.map_toArray, List.map_cons, List.map_nil]); first | done | rfl) ?_
    refine (ergolaw13_Pred.calls n pd _ HPD.out).mono ?_
    rintro e_ w_ ⟨rfl, hb⟩
    have K1 := hid (bB KD.out hb)
    have Y1 := hid (lT_ Y0.out hb)
    have KX := hid (bB KX0.out hb)
    clear KX0
    clear hb
    refine ⟨_, rfl, ?_⟩
    refine hK.out _ _ ⟨(bC K1.out 0).trans rfl, (bC K1.out 1).trans rfl⟩ (fun hHeld => ?_)
    clear hK K
    refine norm_ (a' := ?_) ?_ ?_
    rotate_left
    · show Act.put _ (some 24) _ = _
      simp only [Act.put, List.setIfInBounds_toArray, List.set_cons_zero, List.set_cons_succ, i64_w, i32_w]
      rfl
    refine pure_ (i := 7) (N := some 29) (v := ?_) (a' := ?_) #[true, true, true, true, true, true, true, true, true, false] rfl rfl (any_of HT_.out (by kernel_rfl)) (fun _ _ _ h => hP _ _ _ _ (by rfl) h) (Or.inl ⟨by rfl, ?_⟩) ?_ ?_
    rotate_left
    · intro w'
      go_simp
      with_reducible rfl
    rotate_left
    · simp only [Act.put, List.setIfInBounds_toArray, List.set_cons_zero, List.set_cons_succ, i64_w, i32_w]
      rfl
    have KX := hid (show w_.heap[w.heap.size]? = some (.cells #[.string ⟨#[]⟩, .bool false, .int .i64 0] 92) from KX.out)
    refine last_ (i := 9) (N := none) #[true, true, true, true, true, true, true, true, true, true] rfl rfl (one_of HT_.out (by kernel_rfl)) (by decide) (fun K hK => ?_)
    have hs0 : (w_).cell? ⟨w.heap.size, 0, none⟩ = some (.string ⟨#[]⟩) := (bC KX.out 0).trans rfl
    have hs1 : (w_).cell? ⟨w.heap.size, 1, none⟩ = some (.bool false) := (bC KX.out 1).trans rfl
    have hs2 : (w_).cell? ⟨w.heap.size, 2, none⟩ = some (.int .i64 0) := (bC KX.out 2).trans rfl
    have hf0 := bF KX.out 0
    have hf1 := bF KX.out 1
    have hf2 := bF KX.out 2
    refine skip_ (w1 := ?_) (by rfl) rfl ?_ ?_
    rotate_left
    · go_simp
      rfl
    refine hK.out _ _ ?_
    clear hK K
    refine done_ (done_of HT_.out (by kernel_rfl)) ?_
    exact hQ _ _ _ _ _ _ _ _ _ _ (lS_ (lS_ (lS_ Y1.out (Nat.le_refl w.heap.size)) (Nat.le_refl w.heap.size)) (Nat.le_refl w.heap.size)) (Nat.le_refl w.heap.size) (blk_put (blk_put (blk_put KX.out 0 _ rfl) 1 _ rfl) 2 _ rfl)
end Go.Proofs.YtdbpboipiceifaaDoorPSP
