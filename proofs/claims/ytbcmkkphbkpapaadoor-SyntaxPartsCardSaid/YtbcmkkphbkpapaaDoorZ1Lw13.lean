import Derived.Test.YtbcmkkphbkpapaaDoorZ1Hd13
import Derived.Test.YtbcmkkphbkpapaaDoorZ1Op13
import Derived.Test.YtbcmkkphbkpapaaDoorZ1Reg
set_option linter.unusedVariables false
set_option linter.unusedSimpArgs false
namespace Go.Proofs.YtbcmkkphbkpapaaDoorPSP
open Go.RowKit Go.Extern.Stop Go.Stop Go.Extern Go.Proofs.YtbcmkkphbkpapaaDoorW.PrintWords Go.Proofs.YtbcmkkphbkpapaaDoor
theorem inOut_0 (x : S69) (s : List UInt8) : inOut x s 0 = s := by
  have : decide (lev x.f1 < 0) = false := by
    refine decide_eq_false ?_
    unfold lev
    split
    · decide
    · split <;> decide
  unfold inOut
  rw [this, Bool.and_false]
  rfl
structure Bx (b : Nat) (w : World) (t0 t1 t2 t3 : Array Value) (W : World) : Prop where
  bel : Below b w W
  hb : b ≤ W.heap.size
  b0 : W.heap[b]? = some (.cells t0 43)
  b1 : W.heap[b + 1]? = some (.cells t1 46)
  b2 : W.heap[b + 1 + 1]? = some (.cells t2 51)
  b3 : W.heap[b + 1 + 1 + 1]? = some (.cells t3 49)
theorem Bx.step {b : Nat} {w W W' : World} {t0 t1 t2 t3 : Array Value} (h : Bx b w t0 t1 t2 t3 W) (hb : Below W.heap.size W W') : Bx b w t0 t1 t2 t3 W' :=
  ⟨h.bel.trans (hb.mono h.hb), Nat.le_trans h.hb hb.size, blk_below h.b0 hb, blk_below h.b1 hb, blk_below h.b2 hb, blk_below h.b3 hb⟩
theorem Bx.mk0 (w : World) (t0 t1 t2 t3 : Array Value) : Bx w.heap.size w t0 t1 t2 t3 ((((w.alloc (.cells t0 43)).alloc (.cells t1 46)).alloc (.cells t2 51)).alloc (.cells t3 49)) := by
  have new : ∀ (v : World) (o : Obj) (n : Nat), n = v.heap.size → (v.alloc o).heap[n]? = some o := fun v o n e => by subst e; exact heap_alloc_new v o
  have sz : ∀ (v : World) (o : Obj), (v.alloc o).heap.size = v.heap.size + 1 := fun v o => Array.size_push o
  refine ⟨below_alloc (below_alloc (below_alloc (below_alloc (Below.refl _ _) _) _) _) _, by simp only [sz]; omega, ?_, ?_, ?_, ?_⟩
  · exact blk_alloc (blk_alloc (blk_alloc (new _ _ _ rfl) _) _) _
  · exact blk_alloc (blk_alloc (new _ _ _ (by simp only [sz])) _) _
  · exact blk_alloc (new _ _ _ (by simp only [sz])) _
  · exact new _ _ _ (by simp only [sz])
set_option maxHeartbeats 4000000 in
set_option maxRecDepth 100000 in
theorem Parts_any {w : World} (hG : TabT w) (K N B ap fo op pr : Int) (al pl : List S43) (A A1 A2 A3 : Option Addr) (c c1 c2 c3 : Nat) (px py : S43) (pe e : S49)
    (hB0 : -9223372036854775808 ≤ B) (hB1 : B ≤ 9223372036854775807) (hal : ∀ t ∈ al, TN t) (hpl : ∀ t ∈ pl, TN t) (hpx : TN px) (hpy : TN py) (hpe : ∀ d, EN d pe) (he : ∀ d, EN d e)
    (kA : Kd.C k43 w A al.length al) (lA : al.length ≤ c) (kP : Kd.C k43 w A1 pl.length pl) (lP : pl.length ≤ c1) (kE : Kd.C k49 w A2 pe.f2.length pe.f2) (lE : pe.f2.length ≤ c2) (kF : Kd.C k49 w A3 e.f2.length e.f2) (lF : e.f2.length ≤ c3) :
    Calls Tryd.prog 7 #[.agg #[.int .i64 K, .int .i64 N, .int .i64 B], .agg #[.int .i64 ap, .slice A al.length c],
      .agg #[.int .i64 fo, .int .i64 op, .int .i64 pr, .slice A1 pl.length c1, .int .i64 px.f0, .int .i64 px.f1, .int .i64 px.f2, .int .i64 py.f0, .int .i64 py.f1, .int .i64 py.f2, .int .i64 pe.f0.f0, .int .i64 pe.f0.f1, .int .i64 pe.f0.f2, .int .i64 pe.f1, .slice A2 pe.f2.length c2],
      .agg #[.int .i64 e.f0.f0, .int .i64 e.f0.f1, .int .i64 e.f0.f2, .int .i64 e.f1, .slice A3 e.f2.length c3]] w (RetB w (.bool true)) := by
  have HG := hid hG
  clear hG
  have HKA := hid kA
  have HKP := hid kP
  have HKE := hid kE
  have HKF := hid kF
  clear kA kP kE kF
  obtain ⟨r1, _, _, hr1, hc1⟩ := count_is 7 (by decide) pe (hpe 8)
  obtain ⟨r2, _, _, hr2, hc2⟩ := count_is 7 (by decide) e (he 8)
  have HC1 := hid (hc1 40 (by decide))
  have HC2 := hid (hc2 40 (by decide))
  have HR1 := hid hr1
  have HR2 := hid hr2
  have HAL := hid hal
  have HPL := hid hpl
  have HPE := hid hpe
  have HFE := hid he
  have HPX := hid hpx
  have HPY := hid hpy
  have HB1 := hid hB0
  have HB2 := hid hB1
  clear hr1 hr2 hc1 hc2 hal hpl hpe he hpx hpy hB0 hB1
  go_enter Tryd.func7, Tryd.ntmps7
  go_wp2_with fail
  refine (ergolaw13_head.calls _ (tab_below HG.out (Bx.mk0 w _ _ _ _).bel)).mono ?_
  rintro e0 w1 ⟨rfl, hb⟩
  have X1 := hid ((Bx.mk0 w _ _ _ _).step hb)
  clear hb
  have c11 : w1.cell? ⟨w.heap.size + 1, 1, none⟩ = some (.slice A al.length c) := (blk_cell X1.out.b1 1).trans rfl
  by_cases g1 : 6 < al.length
  · have g1a : decide (6 < (al.length : Int)) = true := decide_eq_true (by omega)
    have g1b : decide (6 < al.length) = true := decide_eq_true g1
    go_wp2
    go_ret
    exact ⟨rfl, X1.out.bel⟩
  have g1a : decide (6 < (al.length : Int)) = false := decide_eq_false (by omega)
  have g1b : decide (6 < al.length) = false := decide_eq_false g1
  have c23 : w1.cell? ⟨w.heap.size + 1 + 1, 3, none⟩ = some (.slice A1 pl.length c1) := (blk_cell X1.out.b2 3).trans rfl
  by_cases g2 : 6 < pl.length
  · have g2a : decide (6 < (pl.length : Int)) = true := decide_eq_true (by omega)
    have g2b : decide (6 < pl.length) = true := decide_eq_true g2
    go_wp2
    go_ret
    exact ⟨rfl, X1.out.bel⟩
  have g2a : decide (6 < (pl.length : Int)) = false := decide_eq_false (by omega)
  have g2b : decide (6 < pl.length) = false := decide_eq_false g2
  have c2a : w1.cell? ⟨w.heap.size + 1 + 1, 10, none⟩ = some (.int .i64 pe.f0.f0) := (blk_cell X1.out.b2 10).trans rfl
  have c2b : w1.cell? ⟨w.heap.size + 1 + 1, 11, none⟩ = some (.int .i64 pe.f0.f1) := (blk_cell X1.out.b2 11).trans rfl
  have c2c : w1.cell? ⟨w.heap.size + 1 + 1, 12, none⟩ = some (.int .i64 pe.f0.f2) := (blk_cell X1.out.b2 12).trans rfl
  have c2d : w1.cell? ⟨w.heap.size + 1 + 1, 13, none⟩ = some (.int .i64 pe.f1) := (blk_cell X1.out.b2 13).trans rfl
  have c2e : w1.cell? ⟨w.heap.size + 1 + 1, 14, none⟩ = some (.slice A2 pe.f2.length c2) := (blk_cell X1.out.b2 14).trans rfl
  have KE1 := hid (Kd.C_below HKE.out X1.out.bel)
  go_wp2_with fail
  refine (ergolaw13_E_Count.calls 40 pe.f0.f0 pe.f0.f1 pe.f0.f2 pe.f1 A2 c2 pe.f2 0 r1 _ KE1.out lE HC1.out).mono ?_
  rintro e0 w2 ⟨rfl, hb⟩
  have X2 := hid (X1.out.step hb)
  clear hb c11 c23 c2a c2b c2c c2d c2e
  by_cases g3 : 40 < r1
  · have g3a : decide (40 < (r1 : Int)) = true := decide_eq_true (by omega)
    have g3b : decide (40 < r1) = true := decide_eq_true g3
    go_wp2
    go_ret
    exact ⟨rfl, X2.out.bel⟩
  have g3a : decide (40 < (r1 : Int)) = false := decide_eq_false (by omega)
  have g3b : decide (40 < r1) = false := decide_eq_false g3
  have c30 : w2.cell? ⟨w.heap.size + 1 + 1 + 1, 0, none⟩ = some (.int .i64 e.f0.f0) := (blk_cell X2.out.b3 0).trans rfl
  have c31 : w2.cell? ⟨w.heap.size + 1 + 1 + 1, 1, none⟩ = some (.int .i64 e.f0.f1) := (blk_cell X2.out.b3 1).trans rfl
  have c32 : w2.cell? ⟨w.heap.size + 1 + 1 + 1, 2, none⟩ = some (.int .i64 e.f0.f2) := (blk_cell X2.out.b3 2).trans rfl
  have c33 : w2.cell? ⟨w.heap.size + 1 + 1 + 1, 3, none⟩ = some (.int .i64 e.f1) := (blk_cell X2.out.b3 3).trans rfl
  have c34 : w2.cell? ⟨w.heap.size + 1 + 1 + 1, 4, none⟩ = some (.slice A3 e.f2.length c3) := (blk_cell X2.out.b3 4).trans rfl
  have KF2 := hid (Kd.C_below HKF.out X2.out.bel)
  go_wp2_with fail
  refine (ergolaw13_E_Count.calls 40 e.f0.f0 e.f0.f1 e.f0.f2 e.f1 A3 c3 e.f2 0 r2 _ KF2.out lF HC2.out).mono ?_
  rintro e0 w3 ⟨rfl, hb⟩
  have X3 := hid (X2.out.step hb)
  clear hb c30 c31 c32 c33 c34
  by_cases g4 : 40 < r2
  · have g4a : decide (40 < (r2 : Int)) = true := decide_eq_true (by omega)
    have g4b : decide (40 < r2) = true := decide_eq_true g4
    go_wp2
    go_ret
    exact ⟨rfl, X3.out.bel⟩
  have g4a : decide (40 < (r2 : Int)) = false := decide_eq_false (by omega)
  have g4b : decide (40 < r2) = false := decide_eq_false g4
  -- THE LAST REGION
  go_wp2_with fail
  have HALL : Hid (∀ W, Bx w.heap.size w #[.int .i64 K, .int .i64 N, .int .i64 B] #[.int .i64 ap, .slice A al.length c] #[.int .i64 fo, .int .i64 op, .int .i64 pr, .slice A1 pl.length c1, .int .i64 px.f0, .int .i64 px.f1, .int .i64 px.f2, .int .i64 py.f0, .int .i64 py.f1, .int .i64 py.f2, .int .i64 pe.f0.f0, .int .i64 pe.f0.f1, .int .i64 pe.f0.f2, .int .i64 pe.f1, .slice A2 pe.f2.length c2] #[.int .i64 e.f0.f0, .int .i64 e.f0.f1, .int .i64 e.f0.f2, .int .i64 e.f1, .slice A3 e.f2.length c3] W → W.cell? ⟨w.heap.size, 0, none⟩ = some (.int .i64 K) ∧ W.cell? ⟨w.heap.size, 1, none⟩ = some (.int .i64 N) ∧ W.cell? ⟨w.heap.size, 2, none⟩ = some (.int .i64 B) ∧ W.cell? ⟨w.heap.size + 1, 0, none⟩ = some (.int .i64 ap) ∧ W.cell? ⟨w.heap.size + 1, 1, none⟩ = some (.slice A al.length c) ∧ W.cell? ⟨w.heap.size + 1 + 1, 0, none⟩ = some (.int .i64 fo) ∧ W.cell? ⟨w.heap.size + 1 + 1, 1, none⟩ = some (.int .i64 op) ∧ W.cell? ⟨w.heap.size + 1 + 1, 2, none⟩ = some (.int .i64 pr) ∧ W.cell? ⟨w.heap.size + 1 + 1, 3, none⟩ = some (.slice A1 pl.length c1) ∧ W.cell? ⟨w.heap.size + 1 + 1, 4, none⟩ = some (.int .i64 px.f0) ∧ W.cell? ⟨w.heap.size + 1 + 1, 5, none⟩ = some (.int .i64 px.f1) ∧ W.cell? ⟨w.heap.size + 1 + 1, 6, none⟩ = some (.int .i64 px.f2) ∧ W.cell? ⟨w.heap.size + 1 + 1, 7, none⟩ = some (.int .i64 py.f0) ∧ W.cell? ⟨w.heap.size + 1 + 1, 8, none⟩ = some (.int .i64 py.f1) ∧ W.cell? ⟨w.heap.size + 1 + 1, 9, none⟩ = some (.int .i64 py.f2) ∧ W.cell? ⟨w.heap.size + 1 + 1, 10, none⟩ = some (.int .i64 pe.f0.f0) ∧ W.cell? ⟨w.heap.size + 1 + 1, 11, none⟩ = some (.int .i64 pe.f0.f1) ∧ W.cell? ⟨w.heap.size + 1 + 1, 12, none⟩ = some (.int .i64 pe.f0.f2) ∧ W.cell? ⟨w.heap.size + 1 + 1, 13, none⟩ = some (.int .i64 pe.f1) ∧ W.cell? ⟨w.heap.size + 1 + 1, 14, none⟩ = some (.slice A2 pe.f2.length c2) ∧ W.cell? ⟨w.heap.size + 1 + 1 + 1, 0, none⟩ = some (.int .i64 e.f0.f0) ∧ W.cell? ⟨w.heap.size + 1 + 1 + 1, 1, none⟩ = some (.int .i64 e.f0.f1) ∧ W.cell? ⟨w.heap.size + 1 + 1 + 1, 2, none⟩ = some (.int .i64 e.f0.f2) ∧ W.cell? ⟨w.heap.size + 1 + 1 + 1, 3, none⟩ = some (.int .i64 e.f1) ∧ W.cell? ⟨w.heap.size + 1 + 1 + 1, 4, none⟩ = some (.slice A3 e.f2.length c3) ∧ Bx w.heap.size w #[.int .i64 K, .int .i64 N, .int .i64 B] #[.int .i64 ap, .slice A al.length c] #[.int .i64 fo, .int .i64 op, .int .i64 pr, .slice A1 pl.length c1, .int .i64 px.f0, .int .i64 px.f1, .int .i64 px.f2, .int .i64 py.f0, .int .i64 py.f1, .int .i64 py.f2, .int .i64 pe.f0.f0, .int .i64 pe.f0.f1, .int .i64 pe.f0.f2, .int .i64 pe.f1, .slice A2 pe.f2.length c2] #[.int .i64 e.f0.f0, .int .i64 e.f0.f1, .int .i64 e.f0.f2, .int .i64 e.f1, .slice A3 e.f2.length c3] W) := hid (fun W X => ⟨(blk_cell X.b0 0).trans rfl, (blk_cell X.b0 1).trans rfl, (blk_cell X.b0 2).trans rfl, (blk_cell X.b1 0).trans rfl, (blk_cell X.b1 1).trans rfl, (blk_cell X.b2 0).trans rfl, (blk_cell X.b2 1).trans rfl, (blk_cell X.b2 2).trans rfl, (blk_cell X.b2 3).trans rfl, (blk_cell X.b2 4).trans rfl, (blk_cell X.b2 5).trans rfl, (blk_cell X.b2 6).trans rfl, (blk_cell X.b2 7).trans rfl, (blk_cell X.b2 8).trans rfl, (blk_cell X.b2 9).trans rfl, (blk_cell X.b2 10).trans rfl, (blk_cell X.b2 11).trans rfl, (blk_cell X.b2 12).trans rfl, (blk_cell X.b2 13).trans rfl, (blk_cell X.b2 14).trans rfl, (blk_cell X.b3 0).trans rfl, (blk_cell X.b3 1).trans rfl, (blk_cell X.b3 2).trans rfl, (blk_cell X.b3 3).trans rfl, (blk_cell X.b3 4).trans rfl, X⟩)
  have X3d := hid (X3.out.step (below_drew (Below.refl _ _)))
  obtain ⟨q0, q1, q2, hq⟩ : ∃ q0 q1 q2, termV K N B = (q0, q1, q2) := ⟨_, _, _, rfl⟩
  have HT : Hid (ergolaw13_T_Term.f K N B = some (q0, q1, q2)) := hid (congrArg some hq)
  have tok : TOk ⟨q0, q1, q2⟩ := by have := term_ok K N B HB1.out HB2.out; rw [hq] at this; exact this
  obtain ⟨s1, _, hs1⟩ := term_ev ⟨q0, q1, q2⟩ tok
  have HS1 := hid (hs1 40 (Nat.le_refl _))
  have HS1t : Hid (ergolaw13_text.f 40 q0 q1 q2 = some s1) := hid ((text_same 40 q0 q1 q2).trans HS1.out)
  clear hs1 tok hq
  obtain ⟨hp2, hp1⟩ : (predS ap).length ≤ 100 ∧ ∃ p1, p1 = bytesL (predS ap) := ⟨(pred_is ap).2, _, rfl⟩
  have hAt := A_is ap al (by omega) 2000 (by decide)
  have hArgs := argsOf_ok HAL.out
  have hArl := argsOf_len al
  obtain ⟨p1, hp1⟩ := hp1
  obtain ⟨l1, hl1⟩ : ∃ l1, l1 = argsOf al := ⟨_, rfl⟩
  obtain ⟨s2, hs2⟩ : ∃ s2, s2 = bytesL (atomL (predS ap) (argsOf al)) := ⟨_, rfl⟩
  obtain ⟨a1_, a2_⟩ := Atom_is hp2 (show (argsOf al).length ≤ 1000 by omega) hArgs 2000 (by decide)
  rw [← hp1, ← hl1] at hAt
  rw [← hs2, ← hp1, ← hl1] at a1_ a2_
  have HAt := hid hAt
  have HS2 := hid a1_
  have HS2t := hid a2_
  clear hAt a1_ a2_ hArgs hArl hp1 hl1 hs2 hp2
  obtain ⟨r1_, r2_, r3_, r4_, r5_, r6_, r7_, r8_, r9_, r10_, r11_, r12_, r13_, r14_, r15_, r16_, s3, hpt⟩ := part_is fo op pr pl px py pe (by omega) HPL.out HPX.out HPY.out (HR1.out (by omega))
  obtain ⟨pt1, pt2, pt3⟩ := hpt 2000 (Nat.le_refl _)
  have HPt := hid pt1
  have HS3 := hid pt2
  have HS3t := hid pt3
  clear hpt pt1 pt2 pt3
  obtain ⟨z, hz, hzm⟩ := expr_made 7 e (HR2.out (by omega))
  obtain ⟨sl, _, hzs⟩ := expr_written 7 (by decide) z hz
  obtain ⟨s4, hs4⟩ : ∃ s4, s4 = bytesL sl := ⟨_, rfl⟩
  have hz1 := hzm 2000 (by decide)
  have hz2 := (hzs 2000 (by decide)).1
  have hz3 := (hzs 2000 (by decide)).2 0
  rw [inOut_0, ← hs4] at hz3
  rw [← hs4] at hz2
  obtain ⟨⟨z0, z1, z2⟩, z3, z4⟩ := z
  have HEx : Hid (ergolaw13_E_Expr.f 2000 e.f0.f0 e.f0.f1 e.f0.f2 e.f1 e.f2 = some (z0, z1, z2, z3, z4)) := hid hz1
  have HS4t : Hid (ergolaw13_expr.f 2000 z0 z1 z2 z3 z4 = some s4) := hid hz2
  have HS4 : Hid (syntax_Expr_String.f 2000 z0 z1 z2 z3 z4 = some s4) := hid (by
    show (syntax_Expr_in.f 2000 z0 z1 z2 z3 z4 0).bind _ = _
    rw [show syntax_Expr_in.f 2000 z0 z1 z2 z3 z4 0 = some s4 from hz3]
    rfl)
  clear hz hzm hzs hz1 hz2 hz3 hs4
  have es1 : (s1 == s1) = true := by simp
  have es2 : (s2 == s2) = true := by simp
  have es3 : (s3 == s3) = true := by simp
  have es4 : (s4 == s4) = true := by simp
  go_region_held3 (fun W => W.cell? ⟨w.heap.size, 0, none⟩ = some (.int .i64 K) ∧ W.cell? ⟨w.heap.size, 1, none⟩ = some (.int .i64 N) ∧ W.cell? ⟨w.heap.size, 2, none⟩ = some (.int .i64 B) ∧ W.cell? ⟨w.heap.size + 1, 0, none⟩ = some (.int .i64 ap) ∧ W.cell? ⟨w.heap.size + 1, 1, none⟩ = some (.slice A al.length c) ∧ W.cell? ⟨w.heap.size + 1 + 1, 0, none⟩ = some (.int .i64 fo) ∧ W.cell? ⟨w.heap.size + 1 + 1, 1, none⟩ = some (.int .i64 op) ∧ W.cell? ⟨w.heap.size + 1 + 1, 2, none⟩ = some (.int .i64 pr) ∧ W.cell? ⟨w.heap.size + 1 + 1, 3, none⟩ = some (.slice A1 pl.length c1) ∧ W.cell? ⟨w.heap.size + 1 + 1, 4, none⟩ = some (.int .i64 px.f0) ∧ W.cell? ⟨w.heap.size + 1 + 1, 5, none⟩ = some (.int .i64 px.f1) ∧ W.cell? ⟨w.heap.size + 1 + 1, 6, none⟩ = some (.int .i64 px.f2) ∧ W.cell? ⟨w.heap.size + 1 + 1, 7, none⟩ = some (.int .i64 py.f0) ∧ W.cell? ⟨w.heap.size + 1 + 1, 8, none⟩ = some (.int .i64 py.f1) ∧ W.cell? ⟨w.heap.size + 1 + 1, 9, none⟩ = some (.int .i64 py.f2) ∧ W.cell? ⟨w.heap.size + 1 + 1, 10, none⟩ = some (.int .i64 pe.f0.f0) ∧ W.cell? ⟨w.heap.size + 1 + 1, 11, none⟩ = some (.int .i64 pe.f0.f1) ∧ W.cell? ⟨w.heap.size + 1 + 1, 12, none⟩ = some (.int .i64 pe.f0.f2) ∧ W.cell? ⟨w.heap.size + 1 + 1, 13, none⟩ = some (.int .i64 pe.f1) ∧ W.cell? ⟨w.heap.size + 1 + 1, 14, none⟩ = some (.slice A2 pe.f2.length c2) ∧ W.cell? ⟨w.heap.size + 1 + 1 + 1, 0, none⟩ = some (.int .i64 e.f0.f0) ∧ W.cell? ⟨w.heap.size + 1 + 1 + 1, 1, none⟩ = some (.int .i64 e.f0.f1) ∧ W.cell? ⟨w.heap.size + 1 + 1 + 1, 2, none⟩ = some (.int .i64 e.f0.f2) ∧ W.cell? ⟨w.heap.size + 1 + 1 + 1, 3, none⟩ = some (.int .i64 e.f1) ∧ W.cell? ⟨w.heap.size + 1 + 1 + 1, 4, none⟩ = some (.slice A3 e.f2.length c3) ∧ Bx w.heap.size w #[.int .i64 K, .int .i64 N, .int .i64 B] #[.int .i64 ap, .slice A al.length c] #[.int .i64 fo, .int .i64 op, .int .i64 pr, .slice A1 pl.length c1, .int .i64 px.f0, .int .i64 px.f1, .int .i64 px.f2, .int .i64 py.f0, .int .i64 py.f1, .int .i64 py.f2, .int .i64 pe.f0.f0, .int .i64 pe.f0.f1, .int .i64 pe.f0.f2, .int .i64 pe.f1, .slice A2 pe.f2.length c2] #[.int .i64 e.f0.f0, .int .i64 e.f0.f1, .int .i64 e.f0.f2, .int .i64 e.f1, .slice A3 e.f2.length c3] W)
    (first
      | (exact HALL.out _ Xy16.out)
      | (exact HALL.out _ Xy15.out)
      | (exact HALL.out _ Xy14.out)
      | (exact HALL.out _ Xy13.out)
      | (exact HALL.out _ Xy12.out)
      | (exact HALL.out _ Xy11.out)
      | (exact HALL.out _ Xy10.out)
      | (exact HALL.out _ Xy9.out)
      | (exact HALL.out _ Xy8.out)
      | (exact HALL.out _ Xy7.out)
      | (exact HALL.out _ Xy6.out)
      | (exact HALL.out _ Xy5.out)
      | (exact HALL.out _ Xy4.out)
      | (exact HALL.out _ Xy3.out)
      | (exact HALL.out _ Xy2.out)
      | (exact HALL.out _ Xy1.out)
      | (exact HALL.out _ X3d.out))
    (first
      | (go_at_call 21; refine (ergolaw13_T_Term.calls K N B q0 q1 q2 _ HT.out).mono ?_; rintro e_ w_ ⟨rfl, hb⟩; have Xy1 := hid (X3d.out.step hb))
      | (go_at_call 22; refine (syntax_Term_String.calls 40 q0 q1 q2 s1 _ HS1.out (tab_below HG.out Xy1.out.bel)).mono ?_; rintro e_ w_ ⟨rfl, hb⟩; have Xy2 := hid (Xy1.out.step hb))
      | (go_at_call 21; refine (ergolaw13_T_Term.calls K N B q0 q1 q2 _ HT.out).mono ?_; rintro e_ w_ ⟨rfl, hb⟩; have Xy3 := hid (Xy2.out.step hb))
      | (go_at_call 23; refine (ergolaw13_text.calls 40 q0 q1 q2 s1 _ HS1t.out (tab_below HG.out Xy3.out.bel)).mono ?_; rintro e_ w_ ⟨rfl, hb⟩; have Xy4 := hid (Xy3.out.step hb))
      | (go_at_call 24; refine (ergolaw13_A_Atom.calls 2000 ap A c al p1 l1 _ (Kd.C_below HKA.out Xy4.out.bel) lA HAt.out).mono ?_; rintro e_ w_ ⟨v_, rfl, hR, hb⟩; obtain ⟨A_, c_, rfl, hl_, hr_⟩ := Kd.R_reads hR; clear hR; have HLy5 := hid hl_; have HRy5 := hid hr_; clear hl_ hr_; have Xy5 := hid (Xy4.out.step hb))
      | (go_at_call 25; refine (syntax_Atom_String.calls 2000 p1 _ _ l1 s2 _ HRy5.out HLy5.out HS2.out (tab_below HG.out Xy5.out.bel)).mono ?_; rintro e_ w_ ⟨rfl, hb⟩; have Xy6 := hid (Xy5.out.step hb))
      | (go_at_call 24; refine (ergolaw13_A_Atom.calls 2000 ap A c al p1 l1 _ (Kd.C_below HKA.out Xy6.out.bel) lA HAt.out).mono ?_; rintro e_ w_ ⟨v_, rfl, hR, hb⟩; obtain ⟨A_, c_, rfl, hl_, hr_⟩ := Kd.R_reads hR; clear hR; have HLy7 := hid hl_; have HRy7 := hid hr_; clear hl_ hr_; have Xy7 := hid (Xy6.out.step hb))
      | (go_at_call 26; refine (ergolaw13_atom.calls 2000 p1 _ _ l1 s2 _ HRy7.out HLy7.out HS2t.out (tab_below HG.out Xy7.out.bel)).mono ?_; rintro e_ w_ ⟨rfl, hb⟩; have Xy8 := hid (Xy7.out.step hb))
      | (go_at_call 27; refine (ergolaw13_P_Part.calls 2000 fo op pr A1 c1 pl px.f0 px.f1 px.f2 py.f0 py.f1 py.f2 pe.f0.f0 pe.f0.f1 pe.f0.f2 pe.f1 A2 c2 pe.f2 r1_ r2_ r3_ r4_ r5_ r6_ r7_ r8_ r9_ r10_ r11_ r12_ r13_ r14_ r15_ r16_ _ (Kd.C_below HKP.out Xy8.out.bel) lP (Kd.C_below HKE.out Xy8.out.bel) lE HPt.out).mono ?_; rintro e_ w_ ⟨v2_, v15_, rfl, hR, hN, hb⟩; obtain ⟨A_, c_, rfl, hl_, hr_⟩ := Kd.R_reads hR; obtain ⟨A2_, c2_, rfl, hl2_, hr2_⟩ := Kd.N_reads hN; clear hR hN; have HLy9 := hid hl_; have HRy9 := hid hr_; have HLby9 := hid hl2_; have HRby9 := hid hr2_; clear hl_ hr_ hl2_ hr2_; have Xy9 := hid (Xy8.out.step hb))
      | (go_at_call 28; refine (syntax_Part_String.calls 2000 r1_ r2_ _ _ r3_ r4_ r5_ r6_ r7_ r8_ r9_ r10_ r11_ r12_ r13_ r14_ r15_ _ _ r16_ s3 _ HRy9.out HLy9.out HRby9.out HLby9.out HS3.out (tab_below HG.out Xy9.out.bel)).mono ?_; rintro e_ w_ ⟨rfl, hb⟩; have Xy10 := hid (Xy9.out.step hb))
      | (go_at_call 27; refine (ergolaw13_P_Part.calls 2000 fo op pr A1 c1 pl px.f0 px.f1 px.f2 py.f0 py.f1 py.f2 pe.f0.f0 pe.f0.f1 pe.f0.f2 pe.f1 A2 c2 pe.f2 r1_ r2_ r3_ r4_ r5_ r6_ r7_ r8_ r9_ r10_ r11_ r12_ r13_ r14_ r15_ r16_ _ (Kd.C_below HKP.out Xy10.out.bel) lP (Kd.C_below HKE.out Xy10.out.bel) lE HPt.out).mono ?_; rintro e_ w_ ⟨v2_, v15_, rfl, hR, hN, hb⟩; obtain ⟨A_, c_, rfl, hl_, hr_⟩ := Kd.R_reads hR; obtain ⟨A2_, c2_, rfl, hl2_, hr2_⟩ := Kd.N_reads hN; clear hR hN; have HLy11 := hid hl_; have HRy11 := hid hr_; have HLby11 := hid hl2_; have HRby11 := hid hr2_; clear hl_ hr_ hl2_ hr2_; have Xy11 := hid (Xy10.out.step hb))
      | (go_at_call 29; refine (ergolaw13_part.calls 2000 r1_ r2_ _ _ r3_ r4_ r5_ r6_ r7_ r8_ r9_ r10_ r11_ r12_ r13_ r14_ r15_ _ _ r16_ s3 _ HRy11.out HLy11.out HRby11.out HLby11.out HS3t.out (tab_below HG.out Xy11.out.bel)).mono ?_; rintro e_ w_ ⟨rfl, hb⟩; have Xy12 := hid (Xy11.out.step hb))
      | (go_at_call 30; refine (ergolaw13_E_Expr.calls 2000 e.f0.f0 e.f0.f1 e.f0.f2 e.f1 A3 c3 e.f2 z0 z1 z2 z3 z4 _ (Kd.C_below HKF.out Xy12.out.bel) lF HEx.out).mono ?_; rintro e_ w_ ⟨v_, rfl, hN, hb⟩; obtain ⟨A_, c_, rfl, hl_, hr_⟩ := Kd.N_reads hN; clear hN; have HLy13 := hid hl_; have HRy13 := hid hr_; clear hl_ hr_; have Xy13 := hid (Xy12.out.step hb))
      | (go_at_call 31; refine (syntax_Expr_String.calls 2000 z0 z1 z2 z3 _ _ z4 s4 _ HRy13.out HLy13.out HS4.out (tab_below HG.out Xy13.out.bel)).mono ?_; rintro e_ w_ ⟨rfl, hb⟩; have Xy14 := hid (Xy13.out.step hb))
      | (go_at_call 30; refine (ergolaw13_E_Expr.calls 2000 e.f0.f0 e.f0.f1 e.f0.f2 e.f1 A3 c3 e.f2 z0 z1 z2 z3 z4 _ (Kd.C_below HKF.out Xy14.out.bel) lF HEx.out).mono ?_; rintro e_ w_ ⟨v_, rfl, hN, hb⟩; obtain ⟨A_, c_, rfl, hl_, hr_⟩ := Kd.N_reads hN; clear hN; have HLy15 := hid hl_; have HRy15 := hid hr_; clear hl_ hr_; have Xy15 := hid (Xy14.out.step hb))
      | (go_at_call 32; refine (ergolaw13_expr.calls 2000 z0 z1 z2 z3 _ _ z4 s4 _ HRy15.out HLy15.out HS4t.out (tab_below HG.out Xy15.out.bel)).mono ?_; rintro e_ w_ ⟨rfl, hb⟩; have Xy16 := hid (Xy15.out.step hb)))
  · go_wp2
    go_ret
    exact ⟨rfl, Xy16.out.bel⟩
end Go.Proofs.YtbcmkkphbkpapaaDoorPSP
