import Derived.Test.YtjlnpdpkobpkiaaZ1LwJ2
set_option linter.unusedVariables false
set_option linter.unusedSimpArgs false
namespace Go.Proofs.YtjlnpdpkobpkiaaPSP
open Go.RowKit Go.Extern.Stop Go.Stop Go.Extern Go.Proofs.YtjlnpdpkobpkiaaW.PrintWords Go.Proofs.Ytjlnpdpkobpkiaa
theorem join_text (a b : ByteArray) : (a ++ ⟨#[10]⟩ ++ b).data.toList = a.data.toList ++ 10 :: b.data.toList := by
  simp [ByteArray.data_append]
theorem sz10 {a b : ByteArray} (ha : a.size ≤ 1000) (hb : b.size ≤ 1000) : (9223372036854775807 < a.size + 1) = False ∧ (9223372036854775807 < a.size + 1 + b.size) = False := ⟨eq_false (by omega), eq_false (by omega)⟩
theorem sums4 (n1 m1 n2 m2 : Nat) (h : n1 + m1 + n2 + m2 ≤ 200) : wrap64 ((n1 : Int) + (m1 : Int)) = (n1 : Int) + (m1 : Int) ∧ wrap64 ((n1 : Int) + (m1 : Int) + (n2 : Int)) = (n1 : Int) + (m1 : Int) + (n2 : Int) ∧
    wrap64 ((n1 : Int) + (m1 : Int) + (n2 : Int) + (m2 : Int)) = (n1 : Int) + (m1 : Int) + (n2 : Int) + (m2 : Int) ∧ decide ((200 : Int) < (n1 : Int) + (m1 : Int) + (n2 : Int) + (m2 : Int)) = false := by
  have w : ∀ x : Nat, x ≤ 200 → wrap64 (x : Int) = (x : Int) := fun x hx => by unfold wrap64; omega
  have e1 := w (n1 + m1) (by omega)
  have e2 := w (n1 + m1 + n2) (by omega)
  have e3 := w (n1 + m1 + n2 + m2) (by omega)
  simp only [Int.natCast_add] at e1 e2 e3
  exact ⟨e1, e2, e3, decide_eq_false (by omega)⟩
structure JlOk (w : World) (a b c : Nat) (oa ob oc : Obj) (wr : World) : Prop where
  ka : wr.heap[a]? = some oa
  kb : wr.heap[b]? = some ob
  kc : wr.heap[c]? = some oc
  be : Below w.heap.size w wr
theorem JlOk.step {w wr w' : World} {a b c : Nat} {oa ob oc : Obj} (h : JlOk w a b c oa ob oc wr) (hb : Below wr.heap.size wr w') : JlOk w a b c oa ob oc w' := ⟨blk_below h.ka hb, blk_below h.kb hb, blk_below h.kc hb, below_step h.be hb⟩
theorem join_at {r1 r2 : List Rl} {m : Nat} (hm : m ≤ 1000) (h1 : ∀ r ∈ r1, 0 ≤ r.f3 ∧ r.f3 ≤ 20000) (h2 : ∀ r ∈ r2, 0 ≤ r.f3 ∧ r.f3 ≤ 20000) (i : Nat) (hi : i < r1.length + r2.length) :
    ∃ f : Int, ((r1 ++ r2).getD i zR).f3 = f ∧ ((r1 ++ r2.map (Rl.up (m + 1))).getD i zR).f3 = (if r1.length ≤ i then f + ((m : Int) + 1) else f) ∧ wrap64 f = f ∧ wrap64 (f + ((m : Int) + 1)) = f + ((m : Int) + 1) := by
  have key : ∀ f : Int, 0 ≤ f ∧ f ≤ 20000 → wrap64 f = f ∧ wrap64 (f + ((m : Int) + 1)) = f + ((m : Int) + 1) := fun f hf => ⟨by unfold wrap64; omega, by unfold wrap64; omega⟩
  by_cases h : r1.length ≤ i
  · have e1 : (r1 ++ r2).getD i zR = r2.getD (i - r1.length) zR := by rw [List.getD_eq_getElem?_getD, List.getD_eq_getElem?_getD, List.getElem?_append_right h]
    have hlt : i - r1.length < r2.length := by omega
    have e2 : (r1 ++ r2.map (Rl.up (m + 1))).getD i zR = Rl.up (m + 1) (r2.getD (i - r1.length) zR) := by
      rw [List.getD_eq_getElem?_getD, List.getD_eq_getElem?_getD, List.getElem?_append_right h, List.getElem?_map, List.getElem?_eq_getElem hlt]
      rfl
    have hmem : r2.getD (i - r1.length) zR ∈ r2 := by
      rw [List.getD_eq_getElem?_getD, List.getElem?_eq_getElem hlt]
      exact List.getElem_mem _
    refine ⟨_, rfl, ?_, ?_⟩
    · rw [e1, e2, if_pos h]
      rfl
    · rw [e1]
      exact key _ (h2 _ hmem)
  · have e1 : (r1 ++ r2).getD i zR = r1.getD i zR := by rw [List.getD_eq_getElem?_getD, List.getD_eq_getElem?_getD, List.getElem?_append_left (by omega)]
    have e2 : (r1 ++ r2.map (Rl.up (m + 1))).getD i zR = r1.getD i zR := by rw [List.getD_eq_getElem?_getD, List.getD_eq_getElem?_getD, List.getElem?_append_left (by omega)]
    have hmem : r1.getD i zR ∈ r1 := by
      rw [List.getD_eq_getElem?_getD, List.getElem?_eq_getElem (by omega)]
      exact List.getElem_mem _
    refine ⟨_, rfl, ?_, ?_⟩
    · rw [e1, e2, if_neg h]
    · rw [e1]
      exact key _ (h1 _ hmem)
theorem join_bare (r1 r2 : List Rl) (m : Nat) : (r1 ++ r2.map (Rl.up m)).map Rl.bare = (r1 ++ r2).map Rl.bare := by
  rw [List.map_append, List.map_append, List.map_map]
  rfl
theorem join_bareD (d1 d2 : List Dl) (m : Nat) : (d1 ++ d2.map (Dl.up m)).map Dl.bare = (d1 ++ d2).map Dl.bare := by
  rw [List.map_append, List.map_append, List.map_map]
  rfl
theorem jl_new (wo : World) (v0 v1 v2 v3 v4 : Value) (t : TypeId) : Below wo.heap.size wo (wo.alloc (.cells #[v0, v1, v2, v3, v4] t)) ∧ (wo.alloc (.cells #[v0, v1, v2, v3, v4] t)).cell? ⟨wo.heap.size, 4, none⟩ = some v4 :=
  ⟨(Below.refl _ _).alloc (Nat.le_refl _) _, (Go.Proofs.Ytjlnpdpkobpkiaa.cell_blk (heap_alloc_new wo _) 4).trans rfl⟩
theorem size1 {n : Nat} (h : n ≤ 1000) : wrap64 ((n : Int) + 1) = (n : Int) + 1 := by unfold wrap64; omega
set_option maxRecDepth 100000 in
set_option maxHeartbeats 4000000 in
theorem joins_main {w : World} {a b : ByteArray} (ha : a.size ≤ 1000) (hb : b.size ≤ 1000) {d1 d2 : List Dl} {r1 r2 : List Rl} (h1 : progP nv a.data.toList = .ok (d1, r1)) (h2 : progP nv b.data.toList = .ok (d2, r2)) (hc : d1.length + r1.length + d2.length + r2.length ≤ 200) : Calls Try.prog 3 #[.string a, .string b] w (JoinsPost w) := by
  have HH := hid (head14_any w)
  have q1 : decide ((1000 : Int) < (a.size : Int)) = false := decide_eq_false (by omega)
  have q2 : decide ((1000 : Int) < (b.size : Int)) = false := decide_eq_false (by omega)
  have HP1 := hid (fun W => Program_any a (by omega) W)
  have HP2 := hid (fun W => Program_any b (by omega) W)
  have HP3 := hid (fun W => Program_any (a ++ ⟨#[10]⟩ ++ b) (by simp only [ByteArray.size_append]; have : (⟨#[10]⟩ : ByteArray).size = 1 := rfl; omega) W)
  have h3 := text_join' nv_up a.data.toList b.data.toList (by simpa using ha) (by simpa using hb) h1 h2 hc
  rw [← join_text, Array.length_toList, show a.data.size = a.size from rfl] at h3
  have AT1 := hid (prog_at h1)
  have AT2 := hid (prog_at h2)
  have HZ := hid (prog_z h3).2
  have H1 := hid h1
  have H2 := hid h2
  have H3 := hid h3
  have HA := hid ha
  have SZ := hid (sz10 ha hb)
  have HC := hid hc
  clear ha hb h1 h2 h3 hc
  go_enter Try.func3, Try.ntmps3
  go_wp2_with fail
  refine HH.out.mono ?_
  rintro e w1 ⟨rfl, hb1⟩
  have HB := hid hb1
  clear hb1 HH
  go_wp2_with fail
  refine (HP1.out w1).mono ?_
  intro e w2 hp
  rw [H1.out] at hp
  obtain ⟨bx, D1, R1, cD1, cR1, rfl, hbo, hk, lD, fD, lR, fR, hb2⟩ := hp
  have HB2 := hid (below_step HB.out hb2)
  have KX2 := hid hk
  have FD1 := hid (Kd.F_mono fD (ok' := fun _ => True) (fun _ _ => trivial))
  have FR1 := hid (Kd.F_mono fR (ok' := fun _ => True) (fun _ _ => trivial))
  clear hbo hk fD fR hb2 HP1 H1 lD lR
  go_wp2_with fail
  refine (HP2.out w2).mono ?_
  intro e w3 hp
  rw [H2.out] at hp
  obtain ⟨by_, D2, R2, cD2, cR2, rfl, hbo, hk, lD, fD, lR, fR, hb3⟩ := hp
  have KX3 := hid (blk_below KX2.out hb3)
  have KY3 := hid hk
  obtain ⟨p0, p1, _, _⟩ := blk2 KX3.out
  obtain ⟨k0, k1, _, _⟩ := blk2 hk
  have HB3 := hid (below_step HB2.out hb3)
  have GD1 := hid (Kd.F_below FD1.out hb3)
  have GR1 := hid (Kd.F_below FR1.out hb3)
  have GD2 := hid (Kd.F_mono fD (ok' := fun _ => True) (fun _ _ => trivial))
  have GR2 := hid (Kd.F_mono fR (ok' := fun _ => True) (fun _ _ => trivial))
  clear hbo hk fD fR lD lR hb3 HP2 H2 KX2 FD1 FR1 HB HB2
  obtain ⟨n1, hn1⟩ : ∃ n, n = d1.length := ⟨_, rfl⟩
  obtain ⟨m1, hm1⟩ : ∃ n, n = r1.length := ⟨_, rfl⟩
  obtain ⟨n2, hn2⟩ : ∃ n, n = d2.length := ⟨_, rfl⟩
  obtain ⟨m2, hm2⟩ : ∃ n, n = r2.length := ⟨_, rfl⟩
  rw [← hn1, ← hm1, ← hn2, ← hm2] at HC
  rw [← hn1] at p0 KX3 GD1
  rw [← hm1] at p1 KX3 GR1
  rw [← hn2] at k0 KY3 GD2
  rw [← hm2] at k1 KY3 GR2
  obtain ⟨s1, s2, s3, s4⟩ := sums4 n1 m1 n2 m2 HC.out
  have HN1 := hid hn1
  have HM1 := hid hm1
  have HN2 := hid hn2
  have HM2 := hid hm2
  clear hn1 hn2 hm1 hm2
  go_wp2
  go_quiet (fail)
  clear s1 s2 s3 s4 p0 p1 k0 k1 q1 q2
  obtain ⟨z1, z2⟩ := SZ.out
  go_wp2_with fail
  refine (HP3.out _).mono ?_
  intro e w4 hp
  rw [H3.out] at hp
  obtain ⟨bz, D4, R4, cD4, cR4, rfl, hbo, hk, lD, fD, lR, fR, hb4⟩ := hp
  have HB4 := hid (below_step (pw_below_drewN HB3.out _) hb4)
  have KX4 := hid (blk_below (show (w3.drewN _).heap[bx]? = _ from KX3.out) hb4)
  have KY4 := hid (blk_below (show (w3.drewN _).heap[by_]? = _ from KY3.out) hb4)
  have KZ4 := hid hk
  have FD1 := hid (Kd.F_below (Kd.F_below GD1.out (pw_below_drewN (Below.refl _ _) _)) hb4)
  have FR1 := hid (Kd.F_below (Kd.F_below GR1.out (pw_below_drewN (Below.refl _ _) _)) hb4)
  have FD2 := hid (Kd.F_below (Kd.F_below GD2.out (pw_below_drewN (Below.refl _ _) _)) hb4)
  have FR2 := hid (Kd.F_below (Kd.F_below GR2.out (pw_below_drewN (Below.refl _ _) _)) hb4)
  have CD4 := hid (Kd.F_now fD)
  have CR4 := hid (Kd.F_now fR)
  have LD4 := hid lD
  have LR4 := hid lR
  clear hbo hk fD fR lD lR hb4 HP3 H3 KX3 KY3 GD1 GR1 GD2 GR2 HB3 z1 z2
  go_wp2_with fail
  have hlen := HC.out
  refine jn12 _ _ _ _ _ _ _ _ _ _ _ _ _ _ _ _ _ _ _ _ _ _ _ _ _ _ _ _ _ _ _ _ _ _ _ _ _ _ _ _ _ _ _ _ _ _ _ _ _ _ _ _ _ _ _ _ _ _ _ _ _ _ _ _ _ _ _ _ _ _ _ _ _ _ _ _ _ _ _ _ _ _ _ _ _ _ _ _ _ _ _ _ _ _ _ _ _ _ _ _ _ _ _ _ _ _ _ _ _ _ _ _ _ _ _ _ _ _ _ _ _ _ _ _ _ _ _ _ _ _ _ _ _ _ _ _ _ _ _ _ _ _ _ _ _ _ KX4.out KY4.out FD1.out FD2.out FR1.out FR2.out (by omega) (by omega) (by omega) (by omega) HN1.out.symm HM1.out.symm ?_
  clear hlen
  intro b v77 v78 v79 v80 v81 v82 v83 v84 v85 v86 v87 v88 v89 v90 v91 v92 v93 v94 v95 v96 v97 v98 v99 v100 D3 R3 c3 k3 W hkb hle hcl hkl C3 CR3 hbW
  have hnm := HC.out
  have JA := hid (fun i hi => join_at HA.out AT1.out AT2.out i hi)
  have JB := hid (join_bare r1 r2 (a.size + 1))
  have JD := hid (join_bareD d1 d2 (a.size + 1))
  have WS := size1 HA.out
  obtain ⟨Y, hY⟩ : ∃ Y, Y = r1 ++ r2 := ⟨_, rfl⟩
  obtain ⟨X, hX⟩ : ∃ X, X = r1 ++ r2.map (Rl.up (a.size + 1)) := ⟨_, rfl⟩
  obtain ⟨YD, hYD⟩ : ∃ Y, Y = d1 ++ d2 := ⟨_, rfl⟩
  obtain ⟨XD, hXD⟩ : ∃ X, X = d1 ++ d2.map (Dl.up (a.size + 1)) := ⟨_, rfl⟩
  obtain ⟨N, hN⟩ : ∃ N, N = X.length := ⟨_, rfl⟩
  obtain ⟨M, hM⟩ : ∃ M, M = XD.length := ⟨_, rfl⟩
  have hNY : Y.length = N := by rw [hN, hX, hY]; simp
  have hMY : YD.length = M := by rw [hM, hXD, hYD]; simp
  have hNm : N = m1 + m2 := by rw [hN, hX, HM1.out, HM2.out]; simp
  rw [← HM1.out, ← HM2.out, ← hNm, ← hX, ← hY] at JA
  rw [← hX, ← hY] at JB
  rw [← hXD, ← hYD] at JD
  rw [← hYD, ← hY, hNY, hMY] at hkb
  rw [← hYD, hMY] at hcl C3
  rw [← hY, hNY] at hkl CR3
  rw [← hXD, ← hX, ← hN, ← hM] at KZ4
  rw [← hXD, ← hM] at CD4 LD4
  rw [← hX, ← hN] at CR4 LR4
  rw [← hX] at HZ
  have hNle : N ≤ 1000 := by rw [hNm]; omega
  have hMle : M ≤ 1000 := by rw [hM, hXD, List.length_append, List.length_map, ← HN1.out, ← HN2.out]; omega
  have J0 : Hid (JlOk W bx bz b _ _ _ W) := hid ⟨blk_below KX4.out hbW, blk_below KZ4.out hbW, hkb, Below.refl _ _⟩
  have C3' := hid C3
  have CR3' := hid CR3
  have CD5 := hid (Kd.C_below CD4.out hbW)
  have CR5 := hid (Kd.C_below CR4.out hbW)
  have HB5 := hid (below_step HB4.out hbW)
  have HNY := hid hNY
  have HMY := hid hMY
  have HN := hid hN
  have HM := hid hM
  have HNm := hid hNm
  have LC := hid hcl
  have LK := hid hkl
  have HNle := hid hNle
  have HMle := hid hMle
  clear hkb hle hcl hkl C3 CR3 hbW hnm hY hX hYD hXD hN hM hNY hMY hNm FD1 FR1 FD2 FR2 CD4 CR4 KX4 KY4 KZ4 HB4 hNle hMle
  obtain ⟨q0, q1, _, _⟩ := blk2 J0.out.kb
  go_wp2
  clear q0 q1
  go_loopg [106] (N + 1) (fun gk v wr => ∃ i : Nat, v = .int .i64 (i : Int) ∧ Hid (i ≤ N) ∧ N - i < gk ∧ Hid (JlOk W bx bz b _ _ _ wr))
  case atStart => exact ⟨0, rfl, hid (Nat.zero_le _), by omega, J0⟩
  case round =>
    clear J0
    obtain ⟨i, rfl, HI, hgk, J⟩ := hrel
    obtain ⟨wo, rfl⟩ : ∃ x : World, x = wr := ⟨_, rfl⟩
    obtain ⟨p0, p1, _, _⟩ := blk2 J.out.ka
    obtain ⟨q0, q1, _, _⟩ := blk2 J.out.kb
    obtain ⟨k0, k1, _, _⟩ := blk2 J.out.kc
    by_cases hi : i < N
    · obtain ⟨ad1, A1, e1, A3, e3, rfl, x0, x1, x2, x3, x4, xl1, xg1, xl3, xg3⟩ := at_R (Kd.C_below CR5.out J.out.be) i hi
      obtain ⟨ad2, B1, g1, B3, g3, rfl, y0, y1, y2, y3, y4, yl1, yg1, yl3, yg3⟩ := at_R (Kd.C_below CR3'.out J.out.be) i (by have := HNY.out; omega)
      obtain ⟨f, f1, f2, f3, f4⟩ := JA.out i hi
      rw [f1] at y4
      rw [f2] at x4
      clear y0 y1 y2 y3 yl1 yg1 yl3 yg3 xl1 xg1 xl3 xg3 f1 f2
      generalize (X.getD i zR).f0.f0 = u0 at x0
      generalize (X.getD i zR).f0.f1.length = u1 at x1
      generalize (X.getD i zR).f1 = u2 at x2
      generalize (X.getD i zR).f2.length = u3 at x3
      have hi0 : (0 : Int) ≤ (i : Int) := Int.natCast_nonneg i
      have hi1 : (i : Int) < (N : Int) := by omega
      have hi2 : decide ((i : Int) < (N : Int)) = true := decide_eq_true hi1
      have hi3 : decide ((N : Int) ≤ (i : Int)) = false := decide_eq_false (by omega)
      have w1i := w64 i (by have := HNle.out; omega)
      have ba : bx < wo.heap.size := Go.Proofs.Ytjlnpdpkobpkiaa.blk_lt J.out.ka
      have bb : bz < wo.heap.size := Go.Proofs.Ytjlnpdpkobpkiaa.blk_lt J.out.kb
      have bc : b < wo.heap.size := Go.Proofs.Ytjlnpdpkobpkiaa.blk_lt J.out.kc
      have b2 : (ad2.add (i * 5)).block < wo.heap.size := World.block_lt_of_cell? wo ⟨(ad2.add (i * 5)).block, (ad2.add (i * 5)).off + 4, none⟩ y4
      by_cases him : m1 ≤ i
      · have hd : decide ((m1 : Int) ≤ (i : Int)) = true := decide_eq_true (by omega)
        rw [if_pos him] at x4
        go_wp2
        obtain ⟨hW, rn⟩ := jl_new wo (.string u0) (.slice A1 u1 e1) (.int .i64 u2) (.slice A3 u3 e3) (.int .i64 (f + ((a.size : Int) + 1))) 38
        obtain ⟨wn, hwn⟩ : ∃ x, x = wo.alloc (.cells #[.string u0, .slice A1 u1 e1, .int .i64 u2, .slice A3 u3 e3, .int .i64 (f + ((a.size : Int) + 1))] 38) := ⟨_, rfl⟩
        rw [← hwn] at hW rn ⊢
        have J2 := hid (J.out.step hW)
        have kn : wn.cell? ⟨b, 1, none⟩ = some (.slice (some ad2) N k3) := ((bcell hW).1 _ _ bc).trans k1
        have yn : wn.cell? ⟨(ad2.add (i * 5)).block, (ad2.add (i * 5)).off + 4, none⟩ = some (.int .i64 f) := ((bcell hW).1 _ _ b2).trans y4
        have hg1 : (N ≤ i) = False := eq_false (by omega)
        clear hW hwn k0 k1 q0 q1 p0 p1 x0 x1 x2 x3 x4 y4 ba bb bc b2
        go_quiet (fail)
        go_wp2
        go_roundg (N - i)
        case measure => omega
        case rel => exact ⟨i + 1, by first | rfl | (rw [w1i]; done) | (simp [w1i]; done), hid (by show _ ≤ _; omega), by omega, hid (J2.out.step (pw_below_drewN (Below.refl _ _) _))⟩
      · have hd : decide ((m1 : Int) ≤ (i : Int)) = false := decide_eq_false (by omega)
        rw [if_neg him] at x4
        go_wp2
        obtain ⟨hW, rn⟩ := jl_new wo (.string u0) (.slice A1 u1 e1) (.int .i64 u2) (.slice A3 u3 e3) (.int .i64 (f)) 38
        obtain ⟨wn, hwn⟩ : ∃ x, x = wo.alloc (.cells #[.string u0, .slice A1 u1 e1, .int .i64 u2, .slice A3 u3 e3, .int .i64 (f)] 38) := ⟨_, rfl⟩
        rw [← hwn] at hW rn ⊢
        have J2 := hid (J.out.step hW)
        have kn : wn.cell? ⟨b, 1, none⟩ = some (.slice (some ad2) N k3) := ((bcell hW).1 _ _ bc).trans k1
        have yn : wn.cell? ⟨(ad2.add (i * 5)).block, (ad2.add (i * 5)).off + 4, none⟩ = some (.int .i64 f) := ((bcell hW).1 _ _ b2).trans y4
        have hg1 : (N ≤ i) = False := eq_false (by omega)
        clear hW hwn k0 k1 q0 q1 p0 p1 x0 x1 x2 x3 x4 y4 ba bb bc b2
        go_quiet (fail)
        go_wp2
        go_roundg (N - i)
        case measure => omega
        case rel => exact ⟨i + 1, by first | rfl | (rw [w1i]; done) | (simp [w1i]; done), hid (by show _ ≤ _; omega), by omega, hid (J2.out.step (pw_below_drewN (Below.refl _ _) _))⟩
    · obtain rfl : i = N := by have := HI.out; omega
      have hi2 : decide ((i : Int) < (i : Int)) = false := decide_eq_false (by omega)
      have HS : Hid (Calls Try.prog 10 #[.pointer (some ⟨bz, 0, none⟩), .pointer (some ⟨b, 0, none⟩), .bool false] wo fun e w' => e = .returned (.bool true) ∧ Below wo.heap.size wo w') := by
        have k1 := J.out.kb
        have k2 := J.out.kc
        have c1 := Kd.C_below CD5.out J.out.be
        have c2 := Kd.C_below CR5.out J.out.be
        have c3 := Kd.C_below C3'.out J.out.be
        have c4 := Kd.C_below CR3'.out J.out.be
        have l1 := LD4.out
        have l2 := LR4.out
        have l3 := LC.out
        have l4 := LK.out
        have m1 := HMle.out
        have m2 := HNle.out
        have en := HN.out
        have em := HM.out
        have e1 := HNY.out
        have e2 := HMY.out
        rw [em] at k1 c1 l1 m1
        rw [← e2] at k2 c3 l3
        rw [en] at k1 c2 l2 m2
        rw [← e1] at k2 c4 l4
        exact Same_true XD YD X Y JD.out JB.out m1 m2 HZ.out k1 k2 l1 c1 l2 c2 l3 c3 l4 c4
      have HW := hid (below_step HB5.out J.out.be)
      clear p0 p1 q0 q1 k0 k1
      go_wp2_with fail
      refine HS.out.mono ?_
      rintro e w9 ⟨rfl, hb9⟩
      have HW9 := hid (below_step HW.out hb9)
      clear hb9
      go_wp2
      go_ret
      exact ⟨rfl, HW9.out⟩
end Go.Proofs.YtjlnpdpkobpkiaaPSP
