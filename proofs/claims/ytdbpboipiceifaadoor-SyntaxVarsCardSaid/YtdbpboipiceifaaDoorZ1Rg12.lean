import Derived.Test.YtdbpboipiceifaaDoorZ1Hd13
import Derived.Test.YtdbpboipiceifaaDoorZ1Op13
import Derived.Test.YtdbpboipiceifaaDoorZ1PlR
set_option linter.unusedVariables false
set_option linter.unusedSimpArgs false
namespace Go.Proofs.YtdbpboipiceifaaDoorPSP
open Go.RowKit Go.Extern.Stop Go.Stop Go.Extern Go.Proofs.YtdbpboipiceifaaDoorW.PrintWords Go.Proofs.YtdbpboipiceifaaDoorW.PrintLast Go.Proofs.YtdbpboipiceifaaDoor
theorem C_one {α : Type} (d : Kd α) {w : World} {b t : Nat} {cs : Array Value} (hb : w.heap[b]? = some (.cells cs t)) (x0 : α) (c0 : List Value) (h0 : d.K w x0 c0) (hcs : cs.toList = c0) :
    Kd.C d w (some ⟨b, 0, none⟩) [x0].length [x0] := by
  have l0 := d.K_len h0
  refine ⟨rfl, (show 1 ≤ 9223372036854775807 by decide), fun _ => ⟨_, rfl, fun j p hp => ?_⟩⟩
  cases j with
  | zero =>
    obtain rfl := Option.some.inj hp
    refine ⟨c0, l0, h0, fun i u hu => ?_⟩
    rw [Nat.zero_mul, Nat.zero_add]
    have e : cs[i]? = some u := by rw [← hcs] at hu; simpa using hu
    have := bC hb i
    rw [e] at this
    unfold Addr.add
    split
    · rename_i h; subst h; exact this
    · rw [Nat.zero_add]; exact this
  | succ j => simp at hp
def sv12_T : Bool × List (List Nat × List Nat) := (true, [([], []), ([0], [0]), ([], []), ([2, 1], [2]), ([1, 3, 3], [1, 3]), ([4], [4]), ([5, 4], [5]), ([6], [6]), ([7, 6], [6, 7]), ([8, 6], [6, 8]), ([9, 6, 6], [6, 9]), ([10], [10]), ([11, 10], [10, 11]), ([12, 10, 10], [10, 12]), ([10], [10]), ([14, 10], [10, 14]), ([15, 13, 10], [10, 15]), ([13, 16, 16, 10], [10, 13, 16]), ([17, 10], [10, 17]), ([10, 18, 6], [6, 10, 18]), ([6, 19], [6, 19])])
def sv12_B : List Nat := [0, 1, 0, 7, 15, 31, 63, 127, 255, 511, 1023, 2047, 4095, 8191, 2047, 18431, 65535, 131071, 262143, 524287, 1048575]
theorem sv12_tab : rtab .any (opsOf Tryd.f4 12) = sv12_T := by kernel_rfl
theorem sv12_bits : waitsOk sv12_T.2 sv12_B = true := by kernel_rfl
structure Vx (W4 : World) (b6 : Nat) (cs : Array Value) (v : Value) (L : List ByteArray) (W : World) : Prop where
  bel : Below W4.heap.size W4 W
  bk : W.heap[b6]? = some (.cells cs 59)
  row : Kd.R Kd.string 9 W W4.heap.size (fun _ => True) v L
theorem Vx.step {W4 : World} {b6 : Nat} {cs : Array Value} {v : Value} {L : List ByteArray} {W W' : World} (h : Vx W4 b6 cs v L W) (hb : Below W.heap.size W W') : Vx W4 b6 cs v L W' :=
  ⟨h.bel.trans (hb.mono h.bel.size), bB h.bk hb, Kd.R_below h.row hb⟩
theorem Vx.mk0 {W4 : World} {cs : Array Value} {v : Value} {L : List ByteArray} {W : World} (hb : Below W4.heap.size W4 W) (hr : Kd.R Kd.string 9 W W4.heap.size (fun _ => True) v L) : Vx W4 W.heap.size cs v L (W.alloc (.cells cs 59)) :=
  ⟨lA_ hb _, heap_alloc_new W _, Kd.R_alloc hr _⟩
set_option maxHeartbeats 4000000 in
set_option maxRecDepth 100000 in
theorem reg12 {Q : Exit → Act → World → Prop} {w W4 : World} {b6 : Nat} {v : Value} {La : List ByteArray} {q0 : Int} {q1 : ByteArray} {q2 : List Tm} {q3 q4 : Int} {q5 : ByteArray} {q6 q7 : Int} {q8 : ByteArray} {q9 : Int} {q10 : ByteArray} {q11 : Int} {q12 : ByteArray} {q13 q14 : Int} {q15 : List Xp} {A2 A15 : Option Addr} {c2 c15 : Nat} {pn : List ByteArray}
    (u0 u1 u2 u3 u4 u5 u7 u8 u9 u10 u11 u12 u13 u14 u15 u16 u17 u18 u19 u20 u21 u22 u23 u24 u25 u26 u27 u28 u29 u30 u31 u32 u33 u34 u35 u36 u37 u38 u39 u40 u41 u42 u43 u44 u45 u46 u47 u48 u49 u50 u51 u52 u53 u54 u55 u56 u57 u58 u59 u60 u61 u62 u63 u64 u65 u66 u67 u68 u69 u70 u71 u72 u73 u74 u75 u76 u77 u78 u79 u80 u81 u82 u83 u84 u85 u86 u87 u88 u89 u90 u91 u92 u93 : Value) (df : List Deferred) (hP : ∀ c (a a' : Act) w, a.defers = a'.defers → Q (.panic c) a w → Q (.panic c) a' w) (HRA : Hid (Kd.C k53 W4 A2 q2.length q2)) (HRK : Hid (Kd.C k57 W4 A15 q15.length q15)) (L2 : Hid (q2.length ≤ c2)) (L15 : Hid (q15.length ≤ c15))
    (HNV : Hid (namesF 20000 ⟨q0, ⟨q1, q2⟩, q3, ⟨q4, q5, q6⟩, ⟨q7, q8, q9⟩, q10, ⟨⟨q11, q12, q13⟩, q14, q15⟩⟩ = some pn ∧ varsF 20000 ⟨q0, ⟨q1, q2⟩, q3, ⟨q4, q5, q6⟩, ⟨q7, q8, q9⟩, q10, ⟨⟨q11, q12, q13⟩, q14, q15⟩⟩ = some pn))
    (H3 : Hid (q0 = 3 → ∃ ms : List ByteArray, ms.length ≤ 200 ∧ ∀ k, 2000 ≤ k → innerF k ⟨⟨q11, q12, q13⟩, q14, q15⟩ = some ms ∧ exprF k ⟨⟨q11, q12, q13⟩, q14, q15⟩ = some ms)) (HSP : Hid (ergolaw13_same.f 20000 pn pn = some true))
    (Y0 : Hid (Vx W4 b6 #[.int .i64 q0, .string q1, .slice A2 q2.length c2, .int .i64 q3, .int .i64 q4, .string q5, .int .i64 q6, .int .i64 q7, .string q8, .int .i64 q9, .string q10, .int .i64 q11, .string q12, .int .i64 q13, .int .i64 q14, .slice A15 q15.length c15] v La w.drew))
    (hQ : ∀ (v38 v39 v40 v41 v42 v43 v44 v45 v46 v47 v48 v49 v50 v51 v52 v53 v54 v55 v56 v57 : Value) (W : World), Vx W4 b6 #[.int .i64 q0, .string q1, .slice A2 q2.length c2, .int .i64 q3, .int .i64 q4, .string q5, .int .i64 q6, .int .i64 q7, .string q8, .int .i64 q9, .string q10, .int .i64 q11, .string q12, .int .i64 q13, .int .i64 q14, .slice A15 q15.length c15] v La W → Q .normal ⟨#[u0, u1, u2, u3, u4, u5, Value.pointer (some ⟨b6, 0, none⟩), u7, u8, u9, u10, u11, u12, u13, u14, u15, u16, u17, u18, u19, u20, u21, u22, u23, u24, u25, u26, u27, u28, u29, u30, u31, u32, u33, u34, u35, u36, u37, v38, v39, v40, v41, v42, v43, v44, v45, v46, v47, v48, v49, v50, v51, v52, v53, v54, v55, v56, v57, Value.bool false, u59, u60, u61, u62, u63, u64, u65, u66, u67, u68, u69, u70, u71, u72, u73, u74, u75, u76, u77, u78, u79, u80, u81, u82, u83, u84, u85, u86, u87, u88, u89, u90, u91, u92, u93], df⟩ W) :
    (Code.region 12 (opsOf Tryd.f4 12) true).wp Tryd.prog Q ⟨#[u0, u1, u2, u3, u4, u5, Value.pointer (some ⟨b6, 0, none⟩), u7, u8, u9, u10, u11, u12, u13, u14, u15, u16, u17, u18, u19, u20, u21, u22, u23, u24, u25, u26, u27, u28, u29, u30, u31, u32, u33, u34, u35, u36, u37, u38, u39, u40, u41, u42, u43, u44, u45, u46, u47, u48, u49, u50, u51, u52, u53, u54, u55, u56, u57, u58, u59, u60, u61, u62, u63, u64, u65, u66, u67, u68, u69, u70, u71, u72, u73, u74, u75, u76, u77, u78, u79, u80, u81, u82, u83, u84, u85, u86, u87, u88, u89, u90, u91, u92, u93], df⟩ w := by
  conv in (opsOf _ _) => whnf
  have HALL : Hid (∀ W, Vx W4 b6 #[.int .i64 q0, .string q1, .slice A2 q2.length c2, .int .i64 q3, .int .i64 q4, .string q5, .int .i64 q6, .int .i64 q7, .string q8, .int .i64 q9, .string q10, .int .i64 q11, .string q12, .int .i64 q13, .int .i64 q14, .slice A15 q15.length c15] v La W → W.cell? ⟨b6, 0, none⟩ = some (.int .i64 q0) ∧ W.cell? ⟨b6, 1, none⟩ = some (.string q1) ∧ W.cell? ⟨b6, 2, none⟩ = some (.slice A2 q2.length c2) ∧ W.cell? ⟨b6, 3, none⟩ = some (.int .i64 q3) ∧ W.cell? ⟨b6, 4, none⟩ = some (.int .i64 q4) ∧ W.cell? ⟨b6, 5, none⟩ = some (.string q5) ∧ W.cell? ⟨b6, 6, none⟩ = some (.int .i64 q6) ∧ W.cell? ⟨b6, 7, none⟩ = some (.int .i64 q7) ∧ W.cell? ⟨b6, 8, none⟩ = some (.string q8) ∧ W.cell? ⟨b6, 9, none⟩ = some (.int .i64 q9) ∧ W.cell? ⟨b6, 10, none⟩ = some (.string q10) ∧ W.cell? ⟨b6, 11, none⟩ = some (.int .i64 q11) ∧ W.cell? ⟨b6, 12, none⟩ = some (.string q12) ∧ W.cell? ⟨b6, 13, none⟩ = some (.int .i64 q13) ∧ W.cell? ⟨b6, 14, none⟩ = some (.int .i64 q14) ∧ W.cell? ⟨b6, 15, none⟩ = some (.slice A15 q15.length c15)) := hid (fun W h => ⟨(bC h.bk 0).trans rfl, (bC h.bk 1).trans rfl, (bC h.bk 2).trans rfl, (bC h.bk 3).trans rfl, (bC h.bk 4).trans rfl, (bC h.bk 5).trans rfl, (bC h.bk 6).trans rfl, (bC h.bk 7).trans rfl, (bC h.bk 8).trans rfl, (bC h.bk 9).trans rfl, (bC h.bk 10).trans rfl, (bC h.bk 11).trans rfl, (bC h.bk 12).trans rfl, (bC h.bk 13).trans rfl, (bC h.bk 14).trans rfl, (bC h.bk 15).trans rfl⟩)
  by_cases h3 : q0 = 3
  · have g3a : (q0 == 3) = true := beq_iff_eq.2 h3
    have HQ0 := hid h3
    obtain ⟨ms, hms, hmv⟩ := H3.out h3
    have HMS := hid (hmv 20000 (by decide))
    have HSM : Hid (ergolaw13_same.f 20000 ms ms = some true) := hid (same_is ms (by omega))
    clear hmv hms h3
    refine start_ (n := 21) (S := fun W => W.cell? ⟨b6, 0, none⟩ = some (.int .i64 q0) ∧ W.cell? ⟨b6, 1, none⟩ = some (.string q1) ∧ W.cell? ⟨b6, 2, none⟩ = some (.slice A2 q2.length c2) ∧ W.cell? ⟨b6, 3, none⟩ = some (.int .i64 q3) ∧ W.cell? ⟨b6, 4, none⟩ = some (.int .i64 q4) ∧ W.cell? ⟨b6, 5, none⟩ = some (.string q5) ∧ W.cell? ⟨b6, 6, none⟩ = some (.int .i64 q6) ∧ W.cell? ⟨b6, 7, none⟩ = some (.int .i64 q7) ∧ W.cell? ⟨b6, 8, none⟩ = some (.string q8) ∧ W.cell? ⟨b6, 9, none⟩ = some (.int .i64 q9) ∧ W.cell? ⟨b6, 10, none⟩ = some (.string q10) ∧ W.cell? ⟨b6, 11, none⟩ = some (.int .i64 q11) ∧ W.cell? ⟨b6, 12, none⟩ = some (.string q12) ∧ W.cell? ⟨b6, 13, none⟩ = some (.int .i64 q13) ∧ W.cell? ⟨b6, 14, none⟩ = some (.int .i64 q14) ∧ W.cell? ⟨b6, 15, none⟩ = some (.slice A15 q15.length c15)) (ds := []) #[false, false, false, false, false, false, false, false, false, false, false, false, false, false, false, false, false, false, false, false, false] (by kernel_rfl) rfl rfl (HALL.out _ Y0.out) (fun hHeld => ?_)
    refine with_tabW sv12_tab sv12_bits (fun HT_ HW_ => ?_)
    refine take_ (i := 0) (N := some 38) (v := ?_) (a' := ?_) #[true, false, false, false, false, false, false, false, false, false, false, false, false, false, false, false, false, false, false, false, false] rfl rfl (take_ofW HT_.out HW_.out (by kernel_rfl)) (fun _ _ _ h => hP _ _ _ _ (by rfl) h) (Or.inl ⟨by rfl, ?_⟩) hHeld ?_ ?_
    rotate_left
    · rintro w' ⟨s0, s1, s2, s3, s4, s5, s6, s7, s8, s9, s10, s11, s12, s13, s14, s15⟩
      go_simp
      with_reducible rfl
    rotate_left
    · simp only [Act.put, List.setIfInBounds_toArray, List.set_cons_zero, List.set_cons_succ, i64_w, i32_w]
      rfl
    refine take_ (i := 2) (N := some 40) (v := ?_) (a' := ?_) #[true, false, true, false, false, false, false, false, false, false, false, false, false, false, false, false, false, false, false, false, false] rfl rfl (take_ofW HT_.out HW_.out (by kernel_rfl)) (fun _ _ _ h => hP _ _ _ _ (by rfl) h) (Or.inl ⟨by rfl, ?_⟩) hHeld ?_ ?_
    rotate_left
    · rintro w' ⟨s0, s1, s2, s3, s4, s5, s6, s7, s8, s9, s10, s11, s12, s13, s14, s15⟩
      go_simp
      with_reducible rfl
    rotate_left
    · simp only [Act.put, List.setIfInBounds_toArray, List.set_cons_zero, List.set_cons_succ, i64_w, i32_w]
      rfl
    refine one_ (i := 1) (N := some 39) #[true, true, true, false, false, false, false, false, false, false, false, false, false, false, false, false, false, false, false, false, false] rfl rfl (one_of HT_.out (by kernel_rfl)) (by decide) (fun K hK => ?_)
    refine goes_ Tryd.func15 (by kernel_rfl) rfl #[.agg #[.int .i64 q0, .string q1, .slice A2 q2.length c2, .int .i64 q3, .int .i64 q4, .string q5, .int .i64 q6, .int .i64 q7, .string q8, .int .i64 q9, .string q10, .int .i64 q11, .string q12, .int .i64 q13, .int .i64 q14, .slice A15 q15.length c15]] (by rfl) rfl rfl (by (try simp only [List.map_toArray, List.map_cons, List.map_nil]); first | done | rfl) ?_
    refine (syntax_Part_Vars.calls 20000 q0 q1 A2 c2 q2 q3 q4 q5 q6 q7 q8 q9 q10 q11 q12 q13 q14 A15 c15 q15 pn _ (Kd.C_below HRA.out Y0.out.bel) L2.out (Kd.C_below HRK.out Y0.out.bel) L15.out HNV.out.2).mono ?_
    rintro e_ w_ ⟨v_, rfl, hR, hb⟩
    obtain ⟨Aa, aa, rfl⟩ := Kd.R_slice hR
    have Y1 := hid (Y0.out.step hb)
    have Ra := hid hR
    clear hR hb Y0
    refine ⟨_, rfl, ?_⟩
    refine hK.out _ _ (HALL.out _ Y1.out) (fun hHeld => ?_)
    clear hK K
    refine norm_ (a' := ?_) ?_ ?_
    rotate_left
    · show Act.put _ (some 39) _ = _
      simp only [Act.put, List.setIfInBounds_toArray, List.set_cons_zero, List.set_cons_succ, i64_w, i32_w]
      rfl
    refine one_ (i := 3) (N := some 41) #[true, true, true, true, false, false, false, false, false, false, false, false, false, false, false, false, false, false, false, false, false] rfl rfl (one_of HT_.out (by kernel_rfl)) (by decide) (fun K hK => ?_)
    refine goes_ Tryd.func16 (by kernel_rfl) rfl #[.agg #[.int .i64 q0, .string q1, .slice A2 q2.length c2, .int .i64 q3, .int .i64 q4, .string q5, .int .i64 q6, .int .i64 q7, .string q8, .int .i64 q9, .string q10, .int .i64 q11, .string q12, .int .i64 q13, .int .i64 q14, .slice A15 q15.length c15]] (by rfl) rfl rfl (by (try simp only [List.map_toArray, List.map_cons, List.map_nil]); first | done | rfl) ?_
    refine (ergolaw13_Names.calls 20000 q0 q1 A2 c2 q2 q3 q4 q5 q6 q7 q8 q9 q10 q11 q12 q13 q14 A15 c15 q15 pn _ (Kd.C_below HRA.out Y1.out.bel) L2.out (Kd.C_below HRK.out Y1.out.bel) L15.out HNV.out.1).mono ?_
    rintro e_ w_ ⟨v_, rfl, hR, hb⟩
    obtain ⟨Ab, ab, rfl⟩ := Kd.R_slice hR
    have Y2 := hid (Y1.out.step hb)
    have Ra2 := hid (Kd.R_below Ra.out hb)
    have Rb := hid hR
    clear hR hb Y1 Ra
    refine ⟨_, rfl, ?_⟩
    refine hK.out _ _ (HALL.out _ Y2.out) (fun hHeld => ?_)
    clear hK K
    refine norm_ (a' := ?_) ?_ ?_
    rotate_left
    · show Act.put _ (some 41) _ = _
      simp only [Act.put, List.setIfInBounds_toArray, List.set_cons_zero, List.set_cons_succ, i64_w, i32_w]
      rfl
    refine one_ (i := 4) (N := some 42) #[true, true, true, true, true, false, false, false, false, false, false, false, false, false, false, false, false, false, false, false, false] rfl rfl (one_of HT_.out (by kernel_rfl)) (by decide) (fun K hK => ?_)
    refine goes_ Tryd.func13 (by kernel_rfl) rfl #[.slice Aa pn.length aa, .slice Ab pn.length ab] (by rfl) rfl rfl (by (try simp only [List.map_toArray, List.map_cons, List.map_nil]); first | done | rfl) ?_
    refine (ergolaw13_same.calls 20000 Aa aa pn Ab ab pn true _ (Kd.R_reads' Ra2.out).2.2 (Kd.R_reads' Ra2.out).2.1 (Kd.R_reads' Rb.out).2.2 (Kd.R_reads' Rb.out).2.1 HSP.out).mono ?_
    rintro e_ w_ ⟨rfl, hb⟩
    have Y3 := hid (Y2.out.step hb.below)
    clear hb Y2 Ra2 Rb
    refine ⟨_, rfl, ?_⟩
    refine hK.out _ _ (HALL.out _ Y3.out) (fun hHeld => ?_)
    clear hK K
    refine norm_ (a' := ?_) ?_ ?_
    rotate_left
    · show Act.put _ (some 42) _ = _
      simp only [Act.put, List.setIfInBounds_toArray, List.set_cons_zero, List.set_cons_succ, i64_w, i32_w]
      rfl
    refine pure_ (i := 5) (N := some 43) (v := ?_) (a' := ?_) #[true, true, true, true, true, true, false, false, false, false, false, false, false, false, false, false, false, false, false, false, false] rfl rfl (any_of HT_.out (by kernel_rfl)) (fun _ _ _ h => hP _ _ _ _ (by rfl) h) (Or.inl ⟨by rfl, ?_⟩) ?_ ?_
    rotate_left
    · intro w'
      go_simp
      with_reducible rfl
    rotate_left
    · simp only [Act.put, List.setIfInBounds_toArray, List.set_cons_zero, List.set_cons_succ, i64_w, i32_w]
      rfl
    refine pure_ (i := 6) (N := some 44) (v := ?_) (a' := ?_) #[true, true, true, true, true, true, true, false, false, false, false, false, false, false, false, false, false, false, false, false, false] rfl rfl (any_of HT_.out (by kernel_rfl)) (fun _ _ _ h => hP _ _ _ _ (by rfl) h) (Or.inl ⟨by rfl, ?_⟩) ?_ ?_
    rotate_left
    · intro w'
      go_simp
      with_reducible rfl
    rotate_left
    · simp only [Act.put, List.setIfInBounds_toArray, List.set_cons_zero, List.set_cons_succ, i64_w, i32_w]
      rfl
    refine pure_ (i := 7) (N := some 45) (v := ?_) (a' := ?_) #[true, true, true, true, true, true, true, true, false, false, false, false, false, false, false, false, false, false, false, false, false] rfl rfl (any_of HT_.out (by kernel_rfl)) (fun _ _ _ h => hP _ _ _ _ (by rfl) h) (Or.inl ⟨by rfl, ?_⟩) ?_ ?_
    rotate_left
    · intro w'
      go_simp
      with_reducible rfl
    rotate_left
    · simp only [Act.put, List.setIfInBounds_toArray, List.set_cons_zero, List.set_cons_succ, i64_w, i32_w]
      rfl
    refine take_ (i := 8) (N := some 46) (v := ?_) (a' := ?_) #[true, true, true, true, true, true, true, true, true, false, false, false, false, false, false, false, false, false, false, false, false] rfl rfl (take_ofW HT_.out HW_.out (by kernel_rfl)) (fun _ _ _ h => hP _ _ _ _ (by rfl) h) (Or.inl ⟨by rfl, ?_⟩) hHeld ?_ ?_
    rotate_left
    · rintro w' ⟨s0, s1, s2, s3, s4, s5, s6, s7, s8, s9, s10, s11, s12, s13, s14, s15⟩
      go_simp
      with_reducible rfl
    rotate_left
    · simp only [Act.put, List.setIfInBounds_toArray, List.set_cons_zero, List.set_cons_succ, i64_w, i32_w]
      rfl
    refine pure_ (i := 9) (N := some 47) (v := ?_) (a' := ?_) #[true, true, true, true, true, true, true, true, true, true, false, false, false, false, false, false, false, false, false, false, false] rfl rfl (any_of HT_.out (by kernel_rfl)) (fun _ _ _ h => hP _ _ _ _ (by rfl) h) (Or.inl ⟨by rfl, ?_⟩) ?_ ?_
    rotate_left
    · intro w'
      go_simp
      with_reducible rfl
    rotate_left
    · simp only [Act.put, List.setIfInBounds_toArray, List.set_cons_zero, List.set_cons_succ, i64_w, i32_w]
      rfl
    refine pure_ (i := 10) (N := some 48) (v := ?_) (a' := ?_) #[true, true, true, true, true, true, true, true, true, true, true, false, false, false, false, false, false, false, false, false, false] rfl rfl (any_of HT_.out (by kernel_rfl)) (fun _ _ _ h => hP _ _ _ _ (by rfl) h) (Or.inl ⟨by rfl, ?_⟩) ?_ ?_
    rotate_left
    · intro w'
      go_simp
      with_reducible rfl
    rotate_left
    · simp only [Act.put, List.setIfInBounds_toArray, List.set_cons_zero, List.set_cons_succ, i64_w, i32_w]
      rfl
    refine pure_ (i := 11) (N := some 49) (v := ?_) (a' := ?_) #[true, true, true, true, true, true, true, true, true, true, true, true, false, false, false, false, false, false, false, false, false] rfl rfl (any_of HT_.out (by kernel_rfl)) (fun _ _ _ h => hP _ _ _ _ (by rfl) h) (Or.inl ⟨by rfl, ?_⟩) ?_ ?_
    rotate_left
    · intro w'
      go_simp
      with_reducible rfl
    rotate_left
    · simp only [Act.put, List.setIfInBounds_toArray, List.set_cons_zero, List.set_cons_succ, i64_w, i32_w]
      rfl
    refine pure_ (i := 14) (N := some 52) (v := ?_) (a' := ?_) #[true, true, true, true, true, true, true, true, true, true, true, true, false, false, true, false, false, false, false, false, false] rfl rfl (any_of HT_.out (by kernel_rfl)) (fun _ _ _ h => hP _ _ _ _ (by rfl) h) (Or.inl ⟨by rfl, ?_⟩) ?_ ?_
    rotate_left
    · intro w'
      go_simp
      with_reducible rfl
    rotate_left
    · simp only [Act.put, List.setIfInBounds_toArray, List.set_cons_zero, List.set_cons_succ, i64_w, i32_w]
      rfl
    refine take_ (i := 12) (N := some 50) (v := ?_) (a' := ?_) #[true, true, true, true, true, true, true, true, true, true, true, true, true, false, true, false, false, false, false, false, false] rfl rfl (take_ofW HT_.out HW_.out (by kernel_rfl)) (fun _ _ _ h => hP _ _ _ _ (by rfl) h) (Or.inl ⟨by rfl, ?_⟩) hHeld ?_ ?_
    rotate_left
    · rintro w' ⟨s0, s1, s2, s3, s4, s5, s6, s7, s8, s9, s10, s11, s12, s13, s14, s15⟩
      go_simp
      with_reducible rfl
    rotate_left
    · simp only [Act.put, List.setIfInBounds_toArray, List.set_cons_zero, List.set_cons_succ, i64_w, i32_w]
      rfl
    refine take_ (i := 15) (N := some 53) (v := ?_) (a' := ?_) #[true, true, true, true, true, true, true, true, true, true, true, true, true, false, true, true, false, false, false, false, false] rfl rfl (take_ofW HT_.out HW_.out (by kernel_rfl)) (fun _ _ _ h => hP _ _ _ _ (by rfl) h) (Or.inl ⟨by rfl, ?_⟩) hHeld ?_ ?_
    rotate_left
    · rintro w' ⟨s0, s1, s2, s3, s4, s5, s6, s7, s8, s9, s10, s11, s12, s13, s14, s15⟩
      go_simp
      with_reducible rfl
    rotate_left
    · simp only [Act.put, List.setIfInBounds_toArray, List.set_cons_zero, List.set_cons_succ, i64_w, i32_w]
      rfl
    refine one_ (i := 13) (N := some 51) #[true, true, true, true, true, true, true, true, true, true, true, true, true, true, true, true, false, false, false, false, false] rfl rfl (one_of HT_.out (by kernel_rfl)) (by decide) (fun K hK => ?_)
    refine goes_ Tryd.func17 (by kernel_rfl) rfl #[.agg #[.int .i64 q11, .string q12, .int .i64 q13, .int .i64 q14, .slice A15 q15.length c15]] (by rfl) rfl rfl (by (try simp only [List.map_toArray, List.map_cons, List.map_nil]); first | done | rfl) ?_
    refine (syntax_Expr_Vars.calls 20000 q11 q12 q13 q14 A15 c15 q15 ms _ (Kd.C_below HRK.out Y3.out.bel) L15.out HMS.out.2).mono ?_
    rintro e_ w_ ⟨v_, rfl, hR, hb⟩
    obtain ⟨Aa, aa, rfl⟩ := Kd.R_slice hR
    have Y4 := hid (Y3.out.step hb)
    have Ra := hid hR
    clear hR hb Y3
    refine ⟨_, rfl, ?_⟩
    refine hK.out _ _ (HALL.out _ Y4.out) (fun hHeld => ?_)
    clear hK K
    refine norm_ (a' := ?_) ?_ ?_
    rotate_left
    · show Act.put _ (some 51) _ = _
      simp only [Act.put, List.setIfInBounds_toArray, List.set_cons_zero, List.set_cons_succ, i64_w, i32_w]
      rfl
    refine one_ (i := 16) (N := some 54) #[true, true, true, true, true, true, true, true, true, true, true, true, true, true, true, true, true, false, false, false, false] rfl rfl (one_of HT_.out (by kernel_rfl)) (by decide) (fun K hK => ?_)
    refine goes_ Tryd.func18 (by kernel_rfl) rfl #[.agg #[.int .i64 q11, .string q12, .int .i64 q13, .int .i64 q14, .slice A15 q15.length c15]] (by rfl) rfl rfl (by (try simp only [List.map_toArray, List.map_cons, List.map_nil]); first | done | rfl) ?_
    refine (ergolaw13_inner.calls 20000 q11 q12 q13 q14 A15 c15 q15 ms _ (Kd.C_below HRK.out Y4.out.bel) L15.out HMS.out.1).mono ?_
    rintro e_ w_ ⟨v_, rfl, hR, hb⟩
    obtain ⟨Ab, ab, rfl⟩ := Kd.R_slice hR
    have Y5 := hid (Y4.out.step hb)
    have Ra2 := hid (Kd.R_below Ra.out hb)
    have Rb := hid hR
    clear hR hb Y4 Ra
    refine ⟨_, rfl, ?_⟩
    refine hK.out _ _ (HALL.out _ Y5.out) (fun hHeld => ?_)
    clear hK K
    refine norm_ (a' := ?_) ?_ ?_
    rotate_left
    · show Act.put _ (some 54) _ = _
      simp only [Act.put, List.setIfInBounds_toArray, List.set_cons_zero, List.set_cons_succ, i64_w, i32_w]
      rfl
    refine one_ (i := 17) (N := some 55) #[true, true, true, true, true, true, true, true, true, true, true, true, true, true, true, true, true, true, false, false, false] rfl rfl (one_of HT_.out (by kernel_rfl)) (by decide) (fun K hK => ?_)
    refine goes_ Tryd.func13 (by kernel_rfl) rfl #[.slice Aa ms.length aa, .slice Ab ms.length ab] (by rfl) rfl rfl (by (try simp only [List.map_toArray, List.map_cons, List.map_nil]); first | done | rfl) ?_
    refine (ergolaw13_same.calls 20000 Aa aa ms Ab ab ms true _ (Kd.R_reads' Ra2.out).2.2 (Kd.R_reads' Ra2.out).2.1 (Kd.R_reads' Rb.out).2.2 (Kd.R_reads' Rb.out).2.1 HSM.out).mono ?_
    rintro e_ w_ ⟨rfl, hb⟩
    have Y6 := hid (Y5.out.step hb.below)
    clear hb Y5 Ra2 Rb
    refine ⟨_, rfl, ?_⟩
    refine hK.out _ _ (HALL.out _ Y6.out) (fun hHeld => ?_)
    clear hK K
    refine norm_ (a' := ?_) ?_ ?_
    rotate_left
    · show Act.put _ (some 55) _ = _
      simp only [Act.put, List.setIfInBounds_toArray, List.set_cons_zero, List.set_cons_succ, i64_w, i32_w]
      rfl
    refine pure_ (i := 18) (N := some 56) (v := ?_) (a' := ?_) #[true, true, true, true, true, true, true, true, true, true, true, true, true, true, true, true, true, true, true, false, false] rfl rfl (any_of HT_.out (by kernel_rfl)) (fun _ _ _ h => hP _ _ _ _ (by rfl) h) (Or.inl ⟨by rfl, ?_⟩) ?_ ?_
    rotate_left
    · intro w'
      go_simp
      with_reducible rfl
    rotate_left
    · simp only [Act.put, List.setIfInBounds_toArray, List.set_cons_zero, List.set_cons_succ, i64_w, i32_w]
      rfl
    refine pure_ (i := 19) (N := some 57) (v := ?_) (a' := ?_) #[true, true, true, true, true, true, true, true, true, true, true, true, true, true, true, true, true, true, true, true, false] rfl rfl (any_of HT_.out (by kernel_rfl)) (fun _ _ _ h => hP _ _ _ _ (by rfl) h) (Or.inl ⟨by rfl, ?_⟩) ?_ ?_
    rotate_left
    · intro w'
      go_simp
      with_reducible rfl
    rotate_left
    · simp only [Act.put, List.setIfInBounds_toArray, List.set_cons_zero, List.set_cons_succ, i64_w, i32_w]
      rfl
    refine pure_ (i := 20) (N := some 58) (v := ?_) (a' := ?_) #[true, true, true, true, true, true, true, true, true, true, true, true, true, true, true, true, true, true, true, true, true] rfl rfl (any_of HT_.out (by kernel_rfl)) (fun _ _ _ h => hP _ _ _ _ (by rfl) h) (Or.inl ⟨by rfl, ?_⟩) ?_ ?_
    rotate_left
    · intro w'
      go_simp
      with_reducible rfl
    rotate_left
    · simp only [Act.put, List.setIfInBounds_toArray, List.set_cons_zero, List.set_cons_succ, i64_w, i32_w]
      rfl
    refine done_ (done_of HT_.out (by kernel_rfl)) ?_
    exact hQ _ _ _ _ _ _ _ _ _ _ _ _ _ _ _ _ _ _ _ _ _ Y6.out
  · have g3a : (q0 == 3) = false := beq_eq_false_iff_ne.2 h3
    refine start_ (n := 21) (S := fun W => W.cell? ⟨b6, 0, none⟩ = some (.int .i64 q0) ∧ W.cell? ⟨b6, 1, none⟩ = some (.string q1) ∧ W.cell? ⟨b6, 2, none⟩ = some (.slice A2 q2.length c2) ∧ W.cell? ⟨b6, 3, none⟩ = some (.int .i64 q3) ∧ W.cell? ⟨b6, 4, none⟩ = some (.int .i64 q4) ∧ W.cell? ⟨b6, 5, none⟩ = some (.string q5) ∧ W.cell? ⟨b6, 6, none⟩ = some (.int .i64 q6) ∧ W.cell? ⟨b6, 7, none⟩ = some (.int .i64 q7) ∧ W.cell? ⟨b6, 8, none⟩ = some (.string q8) ∧ W.cell? ⟨b6, 9, none⟩ = some (.int .i64 q9) ∧ W.cell? ⟨b6, 10, none⟩ = some (.string q10) ∧ W.cell? ⟨b6, 11, none⟩ = some (.int .i64 q11) ∧ W.cell? ⟨b6, 12, none⟩ = some (.string q12) ∧ W.cell? ⟨b6, 13, none⟩ = some (.int .i64 q13) ∧ W.cell? ⟨b6, 14, none⟩ = some (.int .i64 q14) ∧ W.cell? ⟨b6, 15, none⟩ = some (.slice A15 q15.length c15)) (ds := []) #[false, false, false, false, false, false, false, false, false, false, false, false, false, false, false, false, false, false, false, false, false] (by kernel_rfl) rfl rfl (HALL.out _ Y0.out) (fun hHeld => ?_)
    refine with_tabW sv12_tab sv12_bits (fun HT_ HW_ => ?_)
    refine take_ (i := 0) (N := some 38) (v := ?_) (a' := ?_) #[true, false, false, false, false, false, false, false, false, false, false, false, false, false, false, false, false, false, false, false, false] rfl rfl (take_ofW HT_.out HW_.out (by kernel_rfl)) (fun _ _ _ h => hP _ _ _ _ (by rfl) h) (Or.inl ⟨by rfl, ?_⟩) hHeld ?_ ?_
    rotate_left
    · rintro w' ⟨s0, s1, s2, s3, s4, s5, s6, s7, s8, s9, s10, s11, s12, s13, s14, s15⟩
      go_simp
      with_reducible rfl
    rotate_left
    · simp only [Act.put, List.setIfInBounds_toArray, List.set_cons_zero, List.set_cons_succ, i64_w, i32_w]
      rfl
    refine take_ (i := 2) (N := some 40) (v := ?_) (a' := ?_) #[true, false, true, false, false, false, false, false, false, false, false, false, false, false, false, false, false, false, false, false, false] rfl rfl (take_ofW HT_.out HW_.out (by kernel_rfl)) (fun _ _ _ h => hP _ _ _ _ (by rfl) h) (Or.inl ⟨by rfl, ?_⟩) hHeld ?_ ?_
    rotate_left
    · rintro w' ⟨s0, s1, s2, s3, s4, s5, s6, s7, s8, s9, s10, s11, s12, s13, s14, s15⟩
      go_simp
      with_reducible rfl
    rotate_left
    · simp only [Act.put, List.setIfInBounds_toArray, List.set_cons_zero, List.set_cons_succ, i64_w, i32_w]
      rfl
    refine one_ (i := 1) (N := some 39) #[true, true, true, false, false, false, false, false, false, false, false, false, false, false, false, false, false, false, false, false, false] rfl rfl (one_of HT_.out (by kernel_rfl)) (by decide) (fun K hK => ?_)
    refine goes_ Tryd.func15 (by kernel_rfl) rfl #[.agg #[.int .i64 q0, .string q1, .slice A2 q2.length c2, .int .i64 q3, .int .i64 q4, .string q5, .int .i64 q6, .int .i64 q7, .string q8, .int .i64 q9, .string q10, .int .i64 q11, .string q12, .int .i64 q13, .int .i64 q14, .slice A15 q15.length c15]] (by rfl) rfl rfl (by (try simp only [List.map_toArray, List.map_cons, List.map_nil]); first | done | rfl) ?_
    refine (syntax_Part_Vars.calls 20000 q0 q1 A2 c2 q2 q3 q4 q5 q6 q7 q8 q9 q10 q11 q12 q13 q14 A15 c15 q15 pn _ (Kd.C_below HRA.out Y0.out.bel) L2.out (Kd.C_below HRK.out Y0.out.bel) L15.out HNV.out.2).mono ?_
    rintro e_ w_ ⟨v_, rfl, hR, hb⟩
    obtain ⟨Aa, aa, rfl⟩ := Kd.R_slice hR
    have Y1 := hid (Y0.out.step hb)
    have Ra := hid hR
    clear hR hb Y0
    refine ⟨_, rfl, ?_⟩
    refine hK.out _ _ (HALL.out _ Y1.out) (fun hHeld => ?_)
    clear hK K
    refine norm_ (a' := ?_) ?_ ?_
    rotate_left
    · show Act.put _ (some 39) _ = _
      simp only [Act.put, List.setIfInBounds_toArray, List.set_cons_zero, List.set_cons_succ, i64_w, i32_w]
      rfl
    refine one_ (i := 3) (N := some 41) #[true, true, true, true, false, false, false, false, false, false, false, false, false, false, false, false, false, false, false, false, false] rfl rfl (one_of HT_.out (by kernel_rfl)) (by decide) (fun K hK => ?_)
    refine goes_ Tryd.func16 (by kernel_rfl) rfl #[.agg #[.int .i64 q0, .string q1, .slice A2 q2.length c2, .int .i64 q3, .int .i64 q4, .string q5, .int .i64 q6, .int .i64 q7, .string q8, .int .i64 q9, .string q10, .int .i64 q11, .string q12, .int .i64 q13, .int .i64 q14, .slice A15 q15.length c15]] (by rfl) rfl rfl (by (try simp only [List.map_toArray, List.map_cons, List.map_nil]); first | done | rfl) ?_
    refine (ergolaw13_Names.calls 20000 q0 q1 A2 c2 q2 q3 q4 q5 q6 q7 q8 q9 q10 q11 q12 q13 q14 A15 c15 q15 pn _ (Kd.C_below HRA.out Y1.out.bel) L2.out (Kd.C_below HRK.out Y1.out.bel) L15.out HNV.out.1).mono ?_
    rintro e_ w_ ⟨v_, rfl, hR, hb⟩
    obtain ⟨Ab, ab, rfl⟩ := Kd.R_slice hR
    have Y2 := hid (Y1.out.step hb)
    have Ra2 := hid (Kd.R_below Ra.out hb)
    have Rb := hid hR
    clear hR hb Y1 Ra
    refine ⟨_, rfl, ?_⟩
    refine hK.out _ _ (HALL.out _ Y2.out) (fun hHeld => ?_)
    clear hK K
    refine norm_ (a' := ?_) ?_ ?_
    rotate_left
    · show Act.put _ (some 41) _ = _
      simp only [Act.put, List.setIfInBounds_toArray, List.set_cons_zero, List.set_cons_succ, i64_w, i32_w]
      rfl
    refine one_ (i := 4) (N := some 42) #[true, true, true, true, true, false, false, false, false, false, false, false, false, false, false, false, false, false, false, false, false] rfl rfl (one_of HT_.out (by kernel_rfl)) (by decide) (fun K hK => ?_)
    refine goes_ Tryd.func13 (by kernel_rfl) rfl #[.slice Aa pn.length aa, .slice Ab pn.length ab] (by rfl) rfl rfl (by (try simp only [List.map_toArray, List.map_cons, List.map_nil]); first | done | rfl) ?_
    refine (ergolaw13_same.calls 20000 Aa aa pn Ab ab pn true _ (Kd.R_reads' Ra2.out).2.2 (Kd.R_reads' Ra2.out).2.1 (Kd.R_reads' Rb.out).2.2 (Kd.R_reads' Rb.out).2.1 HSP.out).mono ?_
    rintro e_ w_ ⟨rfl, hb⟩
    have Y3 := hid (Y2.out.step hb.below)
    clear hb Y2 Ra2 Rb
    refine ⟨_, rfl, ?_⟩
    refine hK.out _ _ (HALL.out _ Y3.out) (fun hHeld => ?_)
    clear hK K
    refine norm_ (a' := ?_) ?_ ?_
    rotate_left
    · show Act.put _ (some 42) _ = _
      simp only [Act.put, List.setIfInBounds_toArray, List.set_cons_zero, List.set_cons_succ, i64_w, i32_w]
      rfl
    refine pure_ (i := 5) (N := some 43) (v := ?_) (a' := ?_) #[true, true, true, true, true, true, false, false, false, false, false, false, false, false, false, false, false, false, false, false, false] rfl rfl (any_of HT_.out (by kernel_rfl)) (fun _ _ _ h => hP _ _ _ _ (by rfl) h) (Or.inl ⟨by rfl, ?_⟩) ?_ ?_
    rotate_left
    · intro w'
      go_simp
      with_reducible rfl
    rotate_left
    · simp only [Act.put, List.setIfInBounds_toArray, List.set_cons_zero, List.set_cons_succ, i64_w, i32_w]
      rfl
    refine pure_ (i := 6) (N := some 44) (v := ?_) (a' := ?_) #[true, true, true, true, true, true, true, false, false, false, false, false, false, false, false, false, false, false, false, false, false] rfl rfl (any_of HT_.out (by kernel_rfl)) (fun _ _ _ h => hP _ _ _ _ (by rfl) h) (Or.inl ⟨by rfl, ?_⟩) ?_ ?_
    rotate_left
    · intro w'
      go_simp
      with_reducible rfl
    rotate_left
    · simp only [Act.put, List.setIfInBounds_toArray, List.set_cons_zero, List.set_cons_succ, i64_w, i32_w]
      rfl
    refine pure_ (i := 7) (N := some 45) (v := ?_) (a' := ?_) #[true, true, true, true, true, true, true, true, false, false, false, false, false, false, false, false, false, false, false, false, false] rfl rfl (any_of HT_.out (by kernel_rfl)) (fun _ _ _ h => hP _ _ _ _ (by rfl) h) (Or.inl ⟨by rfl, ?_⟩) ?_ ?_
    rotate_left
    · intro w'
      go_simp
      with_reducible rfl
    rotate_left
    · simp only [Act.put, List.setIfInBounds_toArray, List.set_cons_zero, List.set_cons_succ, i64_w, i32_w]
      rfl
    refine take_ (i := 8) (N := some 46) (v := ?_) (a' := ?_) #[true, true, true, true, true, true, true, true, true, false, false, false, false, false, false, false, false, false, false, false, false] rfl rfl (take_ofW HT_.out HW_.out (by kernel_rfl)) (fun _ _ _ h => hP _ _ _ _ (by rfl) h) (Or.inl ⟨by rfl, ?_⟩) hHeld ?_ ?_
    rotate_left
    · rintro w' ⟨s0, s1, s2, s3, s4, s5, s6, s7, s8, s9, s10, s11, s12, s13, s14, s15⟩
      go_simp
      with_reducible rfl
    rotate_left
    · simp only [Act.put, List.setIfInBounds_toArray, List.set_cons_zero, List.set_cons_succ, i64_w, i32_w]
      rfl
    refine pure_ (i := 9) (N := some 47) (v := ?_) (a' := ?_) #[true, true, true, true, true, true, true, true, true, true, false, false, false, false, false, false, false, false, false, false, false] rfl rfl (any_of HT_.out (by kernel_rfl)) (fun _ _ _ h => hP _ _ _ _ (by rfl) h) (Or.inl ⟨by rfl, ?_⟩) ?_ ?_
    rotate_left
    · intro w'
      go_simp
      with_reducible rfl
    rotate_left
    · simp only [Act.put, List.setIfInBounds_toArray, List.set_cons_zero, List.set_cons_succ, i64_w, i32_w]
      rfl
    refine pure_ (i := 10) (N := some 48) (v := ?_) (a' := ?_) #[true, true, true, true, true, true, true, true, true, true, true, false, false, false, false, false, false, false, false, false, false] rfl rfl (any_of HT_.out (by kernel_rfl)) (fun _ _ _ h => hP _ _ _ _ (by rfl) h) (Or.inl ⟨by rfl, ?_⟩) ?_ ?_
    rotate_left
    · intro w'
      go_simp
      with_reducible rfl
    rotate_left
    · simp only [Act.put, List.setIfInBounds_toArray, List.set_cons_zero, List.set_cons_succ, i64_w, i32_w]
      rfl
    refine pure_ (i := 11) (N := some 49) (v := undef) (a' := ?_) #[true, true, true, true, true, true, true, true, true, true, true, true, false, false, false, false, false, false, false, false, false] rfl rfl (any_of HT_.out (by kernel_rfl)) (fun _ _ _ h => hP _ _ _ _ (by rfl) h) (Or.inr ⟨by rfl, rfl⟩) ?_ ?_
    rotate_left
    · simp only [Act.put, List.setIfInBounds_toArray, List.set_cons_zero, List.set_cons_succ, i64_w, i32_w]
      rfl
    refine pure_ (i := 14) (N := some 52) (v := undef) (a' := ?_) #[true, true, true, true, true, true, true, true, true, true, true, true, false, false, true, false, false, false, false, false, false] rfl rfl (any_of HT_.out (by kernel_rfl)) (fun _ _ _ h => hP _ _ _ _ (by rfl) h) (Or.inr ⟨by rfl, rfl⟩) ?_ ?_
    rotate_left
    · simp only [Act.put, List.setIfInBounds_toArray, List.set_cons_zero, List.set_cons_succ, i64_w, i32_w]
      rfl
    refine pure_ (i := 12) (N := some 50) (v := undef) (a' := ?_) #[true, true, true, true, true, true, true, true, true, true, true, true, true, false, true, false, false, false, false, false, false] rfl rfl (any_of HT_.out (by kernel_rfl)) (fun _ _ _ h => hP _ _ _ _ (by rfl) h) (Or.inr ⟨by rfl, rfl⟩) ?_ ?_
    rotate_left
    · simp only [Act.put, List.setIfInBounds_toArray, List.set_cons_zero, List.set_cons_succ, i64_w, i32_w]
      rfl
    refine pure_ (i := 15) (N := some 53) (v := undef) (a' := ?_) #[true, true, true, true, true, true, true, true, true, true, true, true, true, false, true, true, false, false, false, false, false] rfl rfl (any_of HT_.out (by kernel_rfl)) (fun _ _ _ h => hP _ _ _ _ (by rfl) h) (Or.inr ⟨by rfl, rfl⟩) ?_ ?_
    rotate_left
    · simp only [Act.put, List.setIfInBounds_toArray, List.set_cons_zero, List.set_cons_succ, i64_w, i32_w]
      rfl
    refine one_ (i := 13) (N := some 51) #[true, true, true, true, true, true, true, true, true, true, true, true, true, true, true, true, false, false, false, false, false] rfl rfl (one_of HT_.out (by kernel_rfl)) (by decide) (fun K hK => ?_)
    refine off_ (by rfl) ?_
    refine hK.out _ _ hHeld (fun hHeld => ?_)
    clear hK K
    refine norm_ (a' := ?_) ?_ ?_
    rotate_left
    · show Act.put _ (some 51) _ = _
      simp only [Act.put, List.setIfInBounds_toArray, List.set_cons_zero, List.set_cons_succ, i64_w, i32_w]
      rfl
    refine one_ (i := 16) (N := some 54) #[true, true, true, true, true, true, true, true, true, true, true, true, true, true, true, true, true, false, false, false, false] rfl rfl (one_of HT_.out (by kernel_rfl)) (by decide) (fun K hK => ?_)
    refine off_ (by rfl) ?_
    refine hK.out _ _ hHeld (fun hHeld => ?_)
    clear hK K
    refine norm_ (a' := ?_) ?_ ?_
    rotate_left
    · show Act.put _ (some 54) _ = _
      simp only [Act.put, List.setIfInBounds_toArray, List.set_cons_zero, List.set_cons_succ, i64_w, i32_w]
      rfl
    refine one_ (i := 17) (N := some 55) #[true, true, true, true, true, true, true, true, true, true, true, true, true, true, true, true, true, true, false, false, false] rfl rfl (one_of HT_.out (by kernel_rfl)) (by decide) (fun K hK => ?_)
    refine off_ (by rfl) ?_
    refine hK.out _ _ hHeld (fun hHeld => ?_)
    clear hK K
    refine norm_ (a' := ?_) ?_ ?_
    rotate_left
    · show Act.put _ (some 55) _ = _
      simp only [Act.put, List.setIfInBounds_toArray, List.set_cons_zero, List.set_cons_succ, i64_w, i32_w]
      rfl
    refine pure_ (i := 18) (N := some 56) (v := undef) (a' := ?_) #[true, true, true, true, true, true, true, true, true, true, true, true, true, true, true, true, true, true, true, false, false] rfl rfl (any_of HT_.out (by kernel_rfl)) (fun _ _ _ h => hP _ _ _ _ (by rfl) h) (Or.inr ⟨by rfl, rfl⟩) ?_ ?_
    rotate_left
    · simp only [Act.put, List.setIfInBounds_toArray, List.set_cons_zero, List.set_cons_succ, i64_w, i32_w]
      rfl
    refine pure_ (i := 19) (N := some 57) (v := ?_) (a' := ?_) #[true, true, true, true, true, true, true, true, true, true, true, true, true, true, true, true, true, true, true, true, false] rfl rfl (any_of HT_.out (by kernel_rfl)) (fun _ _ _ h => hP _ _ _ _ (by rfl) h) (Or.inl ⟨by rfl, ?_⟩) ?_ ?_
    rotate_left
    · intro w'
      go_simp
      with_reducible rfl
    rotate_left
    · simp only [Act.put, List.setIfInBounds_toArray, List.set_cons_zero, List.set_cons_succ, i64_w, i32_w]
      rfl
    refine pure_ (i := 20) (N := some 58) (v := ?_) (a' := ?_) #[true, true, true, true, true, true, true, true, true, true, true, true, true, true, true, true, true, true, true, true, true] rfl rfl (any_of HT_.out (by kernel_rfl)) (fun _ _ _ h => hP _ _ _ _ (by rfl) h) (Or.inl ⟨by rfl, ?_⟩) ?_ ?_
    rotate_left
    · intro w'
      go_simp
      with_reducible rfl
    rotate_left
    · simp only [Act.put, List.setIfInBounds_toArray, List.set_cons_zero, List.set_cons_succ, i64_w, i32_w]
      rfl
    refine done_ (done_of HT_.out (by kernel_rfl)) ?_
    exact hQ _ _ _ _ _ _ _ _ _ _ _ _ _ _ _ _ _ _ _ _ _ Y3.out
end Go.Proofs.YtdbpboipiceifaaDoorPSP
