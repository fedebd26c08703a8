import Derived.Test.YtdbpboipiceifaaDoorZ1Hd13
import Derived.Test.YtdbpboipiceifaaDoorZ1Op13
import Derived.Test.YtdbpboipiceifaaDoorZ1Rg12
set_option linter.unusedVariables false
set_option linter.unusedSimpArgs false
namespace Go.Proofs.YtdbpboipiceifaaDoorPSP
open Go.RowKit Go.Extern.Stop Go.Stop Go.Extern Go.Proofs.YtdbpboipiceifaaDoorW.PrintWords Go.Proofs.YtdbpboipiceifaaDoorW.PrintLast Go.Proofs.YtdbpboipiceifaaDoor
set_option maxHeartbeats 4000000 in
set_option maxRecDepth 100000 in
theorem Vars_any {w : World} (hG : TabT w) (pr agg : Int) (al : List S81) (body : List PvM) (hr : RlN ⟨⟨pr, al⟩, agg, body⟩) {A A' : Option Addr} {c c' : Nat} (kA : Kd.C k81 w A al.length al) (lA : al.length ≤ c)
    (kB : Kd.C k86 w A' body.length body) (lB : body.length ≤ c') :
    Calls Tryd.prog 4 #[.agg #[.int .i64 pr, .slice A al.length c, .int .i64 agg, .slice A' body.length c']] w (RetB w (.bool true)) := by
  have HG := hid hG
  have HA := hid kA
  have HB := hid kB
  have LA := hid lA
  have LB := hid lB
  obtain ⟨bf, hf1, hf2⟩ := few_is [⟨⟨pr, al⟩, agg, body⟩] (fun r h => by rw [List.mem_singleton] at h; subst h; exact hr)
  have HF := hid hf1
  have HF2 := hid hf2
  clear hf1 hf2 hr hG kA kB lA lB
  have X0 : Hid (Below w.heap.size w (w.alloc (.cells #[.int .i64 pr, .slice A al.length c, .int .i64 agg, .slice A' body.length c'] 36))) := hid ((Below.refl _ _).alloc (Nat.le_refl _) _)
  have K0 : Hid ((w.alloc (.cells #[.int .i64 pr, .slice A al.length c, .int .i64 agg, .slice A' body.length c'] 36)).heap[w.heap.size]? = some (.cells #[.int .i64 pr, .slice A al.length c, .int .i64 agg, .slice A' body.length c'] 36)) := hid (heap_alloc_new w _)
  go_enter Tryd.func4, Tryd.ntmps4
  go_wp2_with fail
  refine (ergolaw13_head.calls _ (tab_below HG.out X0.out)).mono ?_
  rintro e0 w1 ⟨rfl, hb⟩
  have X1 := hid (lT_ X0.out hb)
  have K1 := hid (bB K0.out hb)
  clear hb X0 K0
  have c0 : w1.cell? ⟨w.heap.size, 0, none⟩ = some (.int .i64 pr) := (bC K1.out 0).trans rfl
  have c1 : w1.cell? ⟨w.heap.size, 1, none⟩ = some (.slice A al.length c) := (bC K1.out 1).trans rfl
  have c2 : w1.cell? ⟨w.heap.size, 2, none⟩ = some (.int .i64 agg) := (bC K1.out 2).trans rfl
  have c3 : w1.cell? ⟨w.heap.size, 3, none⟩ = some (.slice A' body.length c') := (bC K1.out 3).trans rfl
  go_wp2_with fail
  have X1a := hid (lA_ X1.out (.cells #[.int .i64 pr, .slice A al.length c, .int .i64 agg, .slice A' body.length c'] 36))
  refine (ergolaw13_Few.calls 20000 (some ⟨w1.heap.size, 0, none⟩) 1 [⟨⟨pr, al⟩, agg, body⟩] bf _
    (C_one k36 (heap_alloc_new w1 _) ⟨⟨pr, al⟩, agg, body⟩ _ (k36_mk _ ⟨⟨pr, al⟩, agg, body⟩ LA.out (Kd.C_below HA.out X1a.out) LB.out (Kd.C_below HB.out X1a.out)) rfl) (by simp) HF.out).mono ?_
  rintro e0 w2 ⟨rfl, hb⟩
  have X2 := hid (lT_ X1a.out hb)
  have K2 := hid (bB (bA K1.out _) hb)
  clear hb c0 c1 c2 c3 X1 X1a K1
  cases bf
  · go_wp2
    go_ret
    exact ⟨rfl, X2.out⟩
  have hrb : RlB ⟨⟨pr, al⟩, agg, body⟩ := (HF2.out rfl).2 _ List.mem_cons_self
  obtain ⟨args, g, ha1, ha2, ha3, hg, hmade⟩ := rule_made _ hrb
  have HM := hid (hmade 20000 (by omega))
  obtain ⟨ps, hps⟩ : ∃ ps, ps = body.map partOf := ⟨_, rfl⟩
  have hpl : ps.length ≤ 8 := by rw [hps, List.length_map]; exact hrb.2.2.1
  have hpsh : ∀ p ∈ ps, PShape p := fun p hp => by
    rw [hps] at hp
    obtain ⟨q, hq, rfl⟩ := List.mem_map.1 hp
    exact (partOf_is q (hrb.2.2.2 q hq)).1
  simp only at HM
  rw [← hps] at HM
  have HPS := hid hpsh
  have HPL := hid hpl
  have HA1 := hid ha1
  have HA2 := hid ha2
  obtain ⟨pb, hpb⟩ : ∃ pb, pb = bytesL (predS pr) := ⟨_, rfl⟩
  rw [← hpb] at HM
  clear hmade hps hpl hpsh hrb ha1 ha2 ha3 hg HF HF2 hpb
  have c0 : w2.cell? ⟨w.heap.size, 0, none⟩ = some (.int .i64 pr) := (bC K2.out 0).trans rfl
  have c1 : w2.cell? ⟨w.heap.size, 1, none⟩ = some (.slice A al.length c) := (bC K2.out 1).trans rfl
  have c2 : w2.cell? ⟨w.heap.size, 2, none⟩ = some (.int .i64 agg) := (bC K2.out 2).trans rfl
  have c3 : w2.cell? ⟨w.heap.size, 3, none⟩ = some (.slice A' body.length c') := (bC K2.out 3).trans rfl
  go_wp2_with fail
  refine (ergolaw13_R_Rule.calls 20000 pr A c al agg A' c' body pb args g ps 0 _ (Kd.C_below HA.out X2.out) LA.out (Kd.C_below HB.out X2.out) LB.out HM.out).mono ?_
  rintro e0 w3 ⟨v1, v3, rfl, hR, hN, hb⟩
  obtain ⟨D, d, rfl, hdl, hD⟩ := Kd.R_reads hR
  obtain ⟨B, b, rfl, hbl, hBk⟩ := Kd.N_reads hN
  have X3 := hid (lT_ X2.out hb)
  have HD := hid hD
  have HBK := hid hBk
  have HDL := hid hdl
  have HBL := hid hbl
  clear hR hN hb hD hBk hdl hbl c0 c1 c2 c3 X2 K2 HM HA HB LA LB
  go_wp2_with fail
  have X4 := hid (lA_ X3.out (.cells #[.string pb, .slice D args.length d, .int .i64 g, .slice B ps.length b, .int .i64 0] 43))
  have HD4 := hid (Kd.C_below HD.out (lA_ (Below.refl _ _) (.cells #[.string pb, .slice D args.length d, .int .i64 g, .slice B ps.length b, .int .i64 0] 43)))
  have HB4 := hid (Kd.C_below HBK.out (lA_ (Below.refl _ _) (.cells #[.string pb, .slice D args.length d, .int .i64 g, .slice B ps.length b, .int .i64 0] 43)))
  have K4 := hid (heap_alloc_new w3 (.cells #[.string pb, .slice D args.length d, .int .i64 g, .slice B ps.length b, .int .i64 0] 43))
  have Z4 : Hid (w3.heap.size < (w3.alloc (.cells #[.string pb, .slice D args.length d, .int .i64 g, .slice B ps.length b, .int .i64 0] 43)).heap.size) := hid (by simp)
  clear X3 HD HBK
  generalize (w3.alloc (.cells #[.string pb, .slice D args.length d, .int .i64 g, .slice B ps.length b, .int .i64 0] 43)) = W4 at X4 HD4 HB4 K4 Z4 ⊢
  generalize w3.heap.size = b3 at K4 Z4 ⊢
  clear w3
  have HNA := hid (names_is args (by have := HA1.out; omega) 20000 (by have := HA1.out; omega))
  have HNL := hid (namesL_len args)
  obtain ⟨ns, hns⟩ : ∃ ns, ns = namesL args := ⟨_, rfl⟩
  rw [← hns] at HNA HNL
  have HAV : Hid (syntax_Atom_Vars.f 20000 pb args = some ns) := hid (by unfold syntax_Atom_Vars.f; rw [HNA.out.2]; rfl)
  have HSN : Hid (ergolaw13_same.f 20000 ns ns = some true) := hid (same_is ns (by have := HA1.out; have := HNL.out; omega))
  have HNS := hid hns
  clear hns
  refine (ergolaw13_names.calls 20000 D d args ns _ HD4.out HDL.out HNA.out.1).mono ?_
  rintro e0 w5 ⟨v5, rfl, hR, hb⟩
  obtain ⟨A5, a5, rfl⟩ := Kd.R_slice hR
  have R5 := hid hR
  have X5 := hid hb
  have d0 : w5.cell? ⟨b3, 0, none⟩ = some (.string pb) := (bC (bB K4.out X5.out) 0).trans rfl
  have d1 : w5.cell? ⟨b3, 1, none⟩ = some (.slice D args.length d) := (bC (bB K4.out X5.out) 1).trans rfl
  clear hR hb
  go_wp2_with fail
  refine (syntax_Atom_Vars.calls 20000 pb D d args ns _ (Kd.C_below HD4.out X5.out) HDL.out HAV.out).mono ?_
  rintro e0 w6 ⟨v6, rfl, hR, hb⟩
  obtain ⟨A6, a6, rfl⟩ := Kd.R_slice hR
  have R6 := hid hR
  have R5b := hid (Kd.R_below R5.out hb)
  have X6 := hid (lT_ X5.out hb)
  clear hR hb R5 X5 d0 d1
  go_wp2_with fail
  refine (ergolaw13_same.calls 20000 A6 a6 ns A5 a5 ns true _ (Kd.R_reads' R6.out).2.2 (Kd.R_reads' R6.out).2.1 (Kd.R_reads' R5b.out).2.2 (Kd.R_reads' R5b.out).2.1 HSN.out).mono ?_
  rintro e0 w7 ⟨rfl, hb⟩
  have X7 := hid (X6.out.trans (hb.below.mono X6.out.size))
  have R7 := hid (Kd.R_below R5b.out hb.below)
  have e0 : w7.cell? ⟨b3, 3, none⟩ = some (.slice B ps.length b) := (bC (bB K4.out X7.out) 3).trans rfl
  clear hb R5b R6 X6
  have hp0 : partsN (ps.take 0) = [] := rfl
  have R7b : Hid (Kd.R Kd.string 9 w7 W4.heap.size (fun _ => True) (.slice A5 ns.length a5) (ns ++ partsN (ps.take 0))) := hid (by rw [hp0, List.append_nil]; exact R7.out)
  clear R7 hp0
  go_wp2_with fail
  generalize (Value.agg #[.int .i64 pr, .slice A al.length c, .int .i64 agg, .slice A' body.length c']) = V0
  generalize (Value.agg #[.string pb, .slice D args.length d, .int .i64 g, .slice B ps.length b, .int .i64 0]) = V20
  generalize (Value.agg #[.string pb, .slice D args.length d]) = V26
  go_loopg [4, 34] ps.length (fun g t4 t34 wr => ∃ (i : Nat), t34 = .int .i64 (i : Int) ∧ i ≤ ps.length ∧ ps.length - i ≤ g ∧ Hid (Kd.R Kd.string 9 wr W4.heap.size (fun _ => True) t4 (ns ++ partsN (ps.take i))) ∧ Hid (Below W4.heap.size W4 wr))
  case atStart => exact ⟨0, rfl, by omega, by omega, R7b, X7⟩
  case round =>
    clear R7b X7 e0
    obtain ⟨i, rfl, hi, hgi, HR, HX⟩ := hrel
    obtain ⟨wo, rfl⟩ : ∃ x : World, x = wr := ⟨_, rfl⟩
    have hpl := HPL.out
    generalize hLa : ns ++ partsN (ps.take i) = La at HR
    by_cases hlt : i < ps.length
    · have hlt' : (i : Int) < (ps.length : Int) := by omega
      obtain ⟨A4, a4, rfl⟩ := Kd.R_slice HR.out
      obtain ⟨bl, off, rfl, hc⟩ := Kd.C_addr HB4.out (by omega) (by decide)
      obtain ⟨cs, _, hK, hcell⟩ := hc i _ (List.getElem?_eq_getElem hlt)
      obtain ⟨A2, c2, A15, c15, rfl, l2, ra, l15, rk⟩ := k59_open hK
      have k0 := hcell 0 _ rfl
      have k1 := hcell 1 _ rfl
      have k2 := hcell 2 _ rfl
      have k3 := hcell 3 _ rfl
      have k4 := hcell 4 _ rfl
      have k5 := hcell 5 _ rfl
      have k6 := hcell 6 _ rfl
      have k7 := hcell 7 _ rfl
      have k8 := hcell 8 _ rfl
      have k9 := hcell 9 _ rfl
      have k10 := hcell 10 _ rfl
      have k11 := hcell 11 _ rfl
      have k12 := hcell 12 _ rfl
      have k13 := hcell 13 _ rfl
      have k14 := hcell 14 _ rfl
      have k15 := hcell 15 _ rfl
      have e16 : k59.sz = 16 := rfl
      rw [e16] at k0 k1 k2 k3 k4 k5 k6 k7 k8 k9 k10 k11 k12 k13 k14 k15
      have m0 : wo.cell? ⟨bl, off + i * 16, none⟩ = some (.int .i64 ps[i].f0) := (HX.out.cell (World.block_lt_of_cell? W4 _ k0)).trans k0
      have m1 : wo.cell? ⟨bl, off + i * 16 + 1, none⟩ = some (.string ps[i].f1.f0) := (HX.out.cell (World.block_lt_of_cell? W4 _ k1)).trans k1
      have m2 : wo.cell? ⟨bl, off + i * 16 + 2, none⟩ = some (.slice A2 ps[i].f1.f1.length c2) := (HX.out.cell (World.block_lt_of_cell? W4 _ k2)).trans k2
      have m3 : wo.cell? ⟨bl, off + i * 16 + 3, none⟩ = some (.int .i64 ps[i].f2) := (HX.out.cell (World.block_lt_of_cell? W4 _ k3)).trans k3
      have m4 : wo.cell? ⟨bl, off + i * 16 + 4, none⟩ = some (.int .i64 ps[i].f3.f0) := (HX.out.cell (World.block_lt_of_cell? W4 _ k4)).trans k4
      have m5 : wo.cell? ⟨bl, off + i * 16 + 5, none⟩ = some (.string ps[i].f3.f1) := (HX.out.cell (World.block_lt_of_cell? W4 _ k5)).trans k5
      have m6 : wo.cell? ⟨bl, off + i * 16 + 6, none⟩ = some (.int .i64 ps[i].f3.f2) := (HX.out.cell (World.block_lt_of_cell? W4 _ k6)).trans k6
      have m7 : wo.cell? ⟨bl, off + i * 16 + 7, none⟩ = some (.int .i64 ps[i].f4.f0) := (HX.out.cell (World.block_lt_of_cell? W4 _ k7)).trans k7
      have m8 : wo.cell? ⟨bl, off + i * 16 + 8, none⟩ = some (.string ps[i].f4.f1) := (HX.out.cell (World.block_lt_of_cell? W4 _ k8)).trans k8
      have m9 : wo.cell? ⟨bl, off + i * 16 + 9, none⟩ = some (.int .i64 ps[i].f4.f2) := (HX.out.cell (World.block_lt_of_cell? W4 _ k9)).trans k9
      have m10 : wo.cell? ⟨bl, off + i * 16 + 10, none⟩ = some (.string ps[i].f5) := (HX.out.cell (World.block_lt_of_cell? W4 _ k10)).trans k10
      have m11 : wo.cell? ⟨bl, off + i * 16 + 11, none⟩ = some (.int .i64 ps[i].f6.f0.f0) := (HX.out.cell (World.block_lt_of_cell? W4 _ k11)).trans k11
      have m12 : wo.cell? ⟨bl, off + i * 16 + 12, none⟩ = some (.string ps[i].f6.f0.f1) := (HX.out.cell (World.block_lt_of_cell? W4 _ k12)).trans k12
      have m13 : wo.cell? ⟨bl, off + i * 16 + 13, none⟩ = some (.int .i64 ps[i].f6.f0.f2) := (HX.out.cell (World.block_lt_of_cell? W4 _ k13)).trans k13
      have m14 : wo.cell? ⟨bl, off + i * 16 + 14, none⟩ = some (.int .i64 ps[i].f6.f1) := (HX.out.cell (World.block_lt_of_cell? W4 _ k14)).trans k14
      have m15 : wo.cell? ⟨bl, off + i * 16 + 15, none⟩ = some (.slice A15 ps[i].f6.f2.length c15) := (HX.out.cell (World.block_lt_of_cell? W4 _ k15)).trans k15
      have hpn := part_names ps[i] (HPS.out _ (List.getElem_mem hlt))
      have hlen := partsN_len (ps.take i) (fun p hp => HPS.out p (List.mem_of_mem_take hp))
      have htl : (ps.take i).length ≤ i := List.length_take_le _ _
      have hT : partsN (ps.take (i + 1)) = partsN (ps.take i) ++ partN ps[i] := by
        unfold partsN
        rw [List.take_succ_eq_append_getElem hlt, List.flatMap_append]
        simp
      have HRA := hid ra
      have HRK := hid rk
      have L2 := hid l2
      have L15 := hid l15
      obtain ⟨x, hx⟩ : ∃ x, x = ps[i] := ⟨_, rfl⟩
      rw [← hx] at m0 m1 m2 m3 m4 m5 m6 m7 m8 m9 m10 m11 m12 m13 m14 m15 hpn hT HRA HRK L2 L15
      obtain ⟨h200, hnv, h3⟩ := hpn
      obtain ⟨pn, hpn⟩ : ∃ pn, pn = partN x := ⟨_, rfl⟩
      rw [← hpn] at h200 hnv hT
      have HNV := hid (hnv 20000 (by decide))
      have H3 := hid h3
      have HT : Hid (La ++ pn = ns ++ partsN (ps.take (i + 1))) := hid (by rw [hT, ← List.append_assoc, hLa])
      have HSP : Hid (ergolaw13_same.f 20000 pn pn = some true) := hid (same_is pn (by omega))
      have H200 := hid h200
      have HLEN : Hid ((La.length + pn.length) * 16 ≤ 140737488355328) := hid (by rw [← hLa, List.length_append]; have := HNL.out; have := HA1.out; omega)
      clear hLa
      clear k0 k1 k2 k3 k4 k5 k6 k7 k8 k9 k10 k11 k12 k13 k14 k15 hc hcell hK l2 ra l15 rk hx hnv h3 hT h200 hpn hlen htl
      obtain ⟨q0, ⟨q1, q2⟩, q3, ⟨q4, q5, q6⟩, ⟨q7, q8, q9⟩, q10, ⟨⟨q11, q12, q13⟩, q14, q15⟩⟩ := x
      simp only at m0 m1 m2 m3 m4 m5 m6 m7 m8 m9 m10 m11 m12 m13 m14 m15 HNV H3 HRA HRK L2 L15
      go_wp2_with fail
      have Y0 : Hid (Vx W4 wo.heap.size #[.int .i64 q0, .string q1, .slice A2 q2.length c2, .int .i64 q3, .int .i64 q4, .string q5, .int .i64 q6, .int .i64 q7, .string q8, .int .i64 q9, .string q10, .int .i64 q11, .string q12, .int .i64 q13, .int .i64 q14, .slice A15 q15.length c15] (.slice A4 La.length a4) La (wo.alloc (.cells #[.int .i64 q0, .string q1, .slice A2 q2.length c2, .int .i64 q3, .int .i64 q4, .string q5, .int .i64 q6, .int .i64 q7, .string q8, .int .i64 q9, .string q10, .int .i64 q11, .string q12, .int .i64 q13, .int .i64 q14, .slice A15 q15.length c15] 59)).drew) := hid ((Vx.mk0 HX.out HR.out).step (below_drew (Below.refl _ _)))
      generalize wo.heap.size = b6 at Y0 ⊢
      refine reg12 _ _ _ _ _ _ _ _ _ _ _ _ _ _ _ _ _ _ _ _ _ _ _ _ _ _ _ _ _ _ _ _ _ _ _ _ _ _ _ _ _ _ _ _ _ _ _ _ _ _ _ _ _ _ _ _ _ _ _ _ _ _ _ _ _ _ _ _ _ _ _ _ _ _ _ _ _ _ _ _ _ _ _ _ _ _ _ _ _ _ _ _ _ _ (fun c a a' w hd h => by cases a; cases a'; simp only at hd; subst hd; exact h) HRA HRK L2 L15 HNV H3 HSP Y0 ?_
      intro v38 v39 v40 v41 v42 v43 v44 v45 v46 v47 v48 v49 v50 v51 v52 v53 v54 v55 v56 v57 w_ yt
      have YT := hid yt
      clear yt Y0 H3 HSP
      clear m0 m1 m2 m3 m4 m5 m6 m7 m8 m9 m10 m11 m12 m13 m14 m15
      have z0 : w_.cell? ⟨b6, 0, none⟩ = some (.int .i64 q0) := (bC YT.out.bk 0).trans rfl
      have z1 : w_.cell? ⟨b6, 1, none⟩ = some (.string q1) := (bC YT.out.bk 1).trans rfl
      have z2 : w_.cell? ⟨b6, 2, none⟩ = some (.slice A2 q2.length c2) := (bC YT.out.bk 2).trans rfl
      have z3 : w_.cell? ⟨b6, 3, none⟩ = some (.int .i64 q3) := (bC YT.out.bk 3).trans rfl
      have z4 : w_.cell? ⟨b6, 4, none⟩ = some (.int .i64 q4) := (bC YT.out.bk 4).trans rfl
      have z5 : w_.cell? ⟨b6, 5, none⟩ = some (.string q5) := (bC YT.out.bk 5).trans rfl
      have z6 : w_.cell? ⟨b6, 6, none⟩ = some (.int .i64 q6) := (bC YT.out.bk 6).trans rfl
      have z7 : w_.cell? ⟨b6, 7, none⟩ = some (.int .i64 q7) := (bC YT.out.bk 7).trans rfl
      have z8 : w_.cell? ⟨b6, 8, none⟩ = some (.string q8) := (bC YT.out.bk 8).trans rfl
      have z9 : w_.cell? ⟨b6, 9, none⟩ = some (.int .i64 q9) := (bC YT.out.bk 9).trans rfl
      have z10 : w_.cell? ⟨b6, 10, none⟩ = some (.string q10) := (bC YT.out.bk 10).trans rfl
      have z11 : w_.cell? ⟨b6, 11, none⟩ = some (.int .i64 q11) := (bC YT.out.bk 11).trans rfl
      have z12 : w_.cell? ⟨b6, 12, none⟩ = some (.string q12) := (bC YT.out.bk 12).trans rfl
      have z13 : w_.cell? ⟨b6, 13, none⟩ = some (.int .i64 q13) := (bC YT.out.bk 13).trans rfl
      have z14 : w_.cell? ⟨b6, 14, none⟩ = some (.int .i64 q14) := (bC YT.out.bk 14).trans rfl
      have z15 : w_.cell? ⟨b6, 15, none⟩ = some (.slice A15 q15.length c15) := (bC YT.out.bk 15).trans rfl
      go_wp2_with fail
      refine (ergolaw13_Names.calls 20000 q0 q1 A2 c2 q2 q3 q4 q5 q6 q7 q8 q9 q10 q11 q12 q13 q14 A15 c15 q15 pn _ (Kd.C_below HRA.out YT.out.bel) L2.out (Kd.C_below HRK.out YT.out.bel) L15.out HNV.out.1).mono ?_
      rintro e_ w8 ⟨v8, rfl, hR, hb⟩
      obtain ⟨A8, a8, rfl⟩ := Kd.R_slice hR
      have Y8 := hid (YT.out.step hb)
      have R8 := hid hR
      clear hR hb YT z0 z1 z2 z3 z4 z5 z6 z7 z8 z9 z10 z11 z12 z13 z14 z15
      go_wp2_with (at_builtin; go_must (refine Kd.R_append_rows Kd.string (w0 := W4) W4.heap.size rfl _ _ 45 9 (.string ⟨#[]⟩) 16 rfl Tryd.underlying45 (by kernel_rfl) rfl (by decide) (by decide) _ La pn _ _ _ (fun _ => True) (fun _ => False) rfl rfl Y8.out.row (Kd.R_reads' R8.out).2.2 (fun _ _ h => h) (fun _ h => h.elim) (fun _ _ => trivial) Y8.out.bel Y8.out.bel.size HLEN.out ?_); intro v9 w9 hR hB _ _; rw [HT.out] at hR; have R9 := hid hR; have X9 := hid hB; clear hR hB)
      go_roundg (ps.length - (i + 1))
      case measure => omega
      case rel => exact ⟨i + 1, rfl, by omega, Nat.le_refl _, R9, X9⟩
    · have hie : i = ps.length := by omega
      subst hie
      rw [List.take_length] at hLa
      obtain ⟨A4, a4, rfl⟩ := Kd.R_slice HR.out
      have C4 := hid (Kd.R_reads' HR.out).2.2
      have L4 := hid (Kd.R_reads' HR.out).2.1
      have hrv := rule_vars_is pb args g ps 0 (by have := HA1.out; omega) HPL.out HPS.out
      rw [← HNS.out, hLa] at hrv
      obtain ⟨Wf, hWf⟩ : ∃ Wf, Wf = ddL [] La := ⟨_, rfl⟩
      rw [← hWf] at hrv
      have HRV := hid hrv
      have HWF := hid hWf
      have hplen := partsN_len ps HPS.out
      have hAL : La.length ≤ 1700 := by rw [← hLa, List.length_append]; have := HNL.out; have := HA1.out; omega
      have HWL : Hid (Wf.length ≤ 1700) := hid (by have := ddL_len [] La; rw [← hWf] at this; simp at this; omega)
      have HSW : Hid (ergolaw13_same.f 20000 Wf Wf = some true) := hid (same_is Wf (by have := HWL.out; omega))
      have HAL := hid hAL
      have K10 := hid (bB K4.out HX.out)
      have D10 := hid (Kd.C_below HD4.out HX.out)
      have B10 := hid (Kd.C_below HB4.out HX.out)
      have X10 := hid (X4.out.trans (HX.out.mono X4.out.size))
      have R0 : Hid (Kd.R Kd.string 9 (wo.alloc (.cells #[] 9)) wo.heap.size (fun _ => True) (.slice (some ⟨wo.heap.size, 0, none⟩) 0 0) (ddL [] (La.take 0))) :=
        hid ⟨fun _ _ => trivial, [], own_lit0 _ _ _ (Nat.le_refl _), rfl, fun j p hj => by simp [ddL] at hj⟩
      have B0 : Hid (Below wo.heap.size wo (wo.alloc (.cells #[] 9))) := hid (lA_ (Below.refl _ _) _)
      clear hrv hWf hplen hLa HR HX K4 HD4 HB4 X4 HPS HNA HAV HSN HNL hpl hgi hi hlt Z4 HNS
      go_wp2_with fail
      go_loopg [7, 67] La.length (fun g t7 t67 wr => ∃ (j : Nat), t67 = .int .i64 (j : Int) ∧ j ≤ La.length ∧ La.length - j ≤ g ∧ Hid (Kd.R Kd.string 9 wr wo.heap.size (fun _ => True) t7 (ddL [] (La.take j))) ∧ Hid (Below wo.heap.size wo wr))
      case atStart => exact ⟨0, rfl, by omega, by omega, R0, B0⟩
      case round =>
        clear R0 B0
        obtain ⟨j, rfl, hj, hgj, HR, HX⟩ := hrel
        obtain ⟨wp, rfl⟩ : ∃ x : World, x = wr := ⟨_, rfl⟩
        generalize hL7 : ddL [] (La.take j) = L7 at HR
        obtain ⟨A7, a7, rfl⟩ := Kd.R_slice HR.out
        by_cases hlt : j < La.length
        · have hlt' : (j : Int) < (La.length : Int) := by omega
          obtain ⟨bl, off, rfl, hc⟩ := Kd.C_addr C4.out (by omega) (by decide)
          obtain ⟨cs, _, hK, hcell⟩ := hc j _ (List.getElem?_eq_getElem hlt)
          obtain rfl : cs = [.string La[j]] := hK
          have k0 := hcell 0 _ rfl
          have e1 : Kd.string.sz = 1 := rfl
          rw [e1, Nat.mul_one] at k0
          have k1 : wp.cell? ⟨bl, off + j, none⟩ = some (.string La[j]) := (HX.out.cell (World.block_lt_of_cell? wo _ k0)).trans k0
          have hT : ddL [] (La.take (j + 1)) = if memB L7 La[j] = true then L7 else L7 ++ [La[j]] := by
            rw [← hL7, List.take_succ_eq_append_getElem hlt, ddL_app]
            rfl
          obtain ⟨x, hx⟩ : ∃ x, x = La[j] := ⟨_, rfl⟩
          rw [← hx] at k1 hT
          have HT := hid hT
          have hle := ddL_len [] (La.take j)
          have hle2 : (La.take j).length ≤ j := List.length_take_le _ _
          have h7 : L7.length ≤ 1700 := by rw [← hL7]; simp only [List.length_nil] at hle; omega
          have H7 := hid h7
          have C7 := hid (Kd.R_reads' HR.out).2.2
          clear hcell hc k0 hx hT hle hle2 hL7
          go_wp2_with fail
          go_loopg [10, 73] L7.length (fun g t10 t73 wr => ∃ (m : Nat), t73 = .int .i64 (m : Int) ∧ t10 = .bool (!(memB (L7.take m) x)) ∧ m ≤ L7.length ∧ L7.length - m ≤ g ∧ wr = wp)
          case atStart => exact ⟨0, rfl, rfl, by omega, by omega, rfl⟩
          case round =>
            obtain ⟨m, rfl, rfl, hm, hgm, hw⟩ := hrel
            subst wr
            by_cases hlm : m < L7.length
            · have hlm' : (m : Int) < (L7.length : Int) := by omega
              obtain ⟨b7, o7, rfl, hc⟩ := Kd.C_addr C7.out (by omega) (by decide)
              obtain ⟨cs, _, hK, hcell⟩ := hc m _ (List.getElem?_eq_getElem hlm)
              obtain rfl : cs = [.string L7[m]] := hK
              have k2 := hcell 0 _ rfl
              have e1 : Kd.string.sz = 1 := rfl
              rw [e1, Nat.mul_one] at k2
              have k3 : wp.cell? ⟨b7, o7 + m, none⟩ = some (.string L7[m]) := k2
              have hM : memB (L7.take (m + 1)) x = (memB (L7.take m) x || (L7[m].toList == x.toList)) := by
                unfold memB
                rw [List.take_succ_eq_append_getElem hlm, List.any_append]
                simp
              obtain ⟨y, hy⟩ : ∃ y, y = L7[m] := ⟨_, rfl⟩
              rw [← hy] at k3 hM
              have HMM := hid hM
              clear hcell hc k2 hy hM
              cases hb : memB (L7.take m) x with
              | true =>
                rw [hb] at HMM
                have HB7 := hid hb
                clear hb
                go_wp2
                go_roundg (L7.length - (m + 1))
                case measure => omega
                case rel => exact ⟨m + 1, by (first | rfl | simp), by rw [HMM.out]; rfl, by omega, Nat.le_refl _, rfl⟩
              | false =>
                rw [hb] at HMM
                have HB7 := hid hb
                clear hb
                go_wp2
                go_roundg (L7.length - (m + 1))
                case measure => omega
                case rel => exact ⟨m + 1, by (first | rfl | simp), by rw [HMM.out]; rfl, by omega, Nat.le_refl _, rfl⟩
            · have hme : m = L7.length := by omega
              subst hme
              rw [List.take_length]
              have h7 := H7.out
              have HL : Hid ((L7.length + 1) * 16 ≤ 140737488355328) := hid (by omega)
              clear h7 hlm hm hgm
              cases hb : memB L7 x with
              | true =>
                have HE : Hid (ddL [] (La.take (j + 1)) = L7) := hid (by rw [HT.out, if_pos hb])
                clear hb
                go_wp2
                go_roundg (La.length - (j + 1))
                case measure => omega
                case rel => exact ⟨j + 1, by (first | rfl | simp), by omega, Nat.le_refl _, by rw [HE.out]; exact HR, HX⟩
              | false =>
                have HE : Hid (ddL [] (La.take (j + 1)) = L7 ++ [x]) := hid (by rw [HT.out, if_neg (by rw [hb]; decide)])
                clear hb
                go_wp2_with (at_builtin; go_must (refine Kd.R_append Kd.string (w0 := wo) wo.heap.size rfl _ _ 45 9 (.string ⟨#[]⟩) 16 rfl Tryd.underlying45 (by kernel_rfl) rfl (by decide) (by decide) (.slice A7 L7.length a7) L7 x [.string x] (fun _ => True) (fun _ => False) rfl rfl rfl (fun _ h => h.elim) (fun _ _ => trivial) HR.out HX.out HX.out.size HL.out ?_); intro v9 w9 hR hB _ _; rw [← HE.out] at hR; have R9 := hid hR; have X9 := hid hB; clear hR hB)
                go_roundg (La.length - (j + 1))
                case measure => omega
                case rel => exact ⟨j + 1, by (first | rfl | simp), by omega, Nat.le_refl _, R9, X9⟩
        · have hje : j = La.length := by omega
          subst hje
          rw [List.take_length, ← HWF.out] at hL7
          subst hL7
          have R7 := hid (Kd.R_reads' HR.out).2.2
          have S7 := hid (Kd.R_reads' HR.out).2.1
          have KF := hid (bB K10.out HX.out)
          have z0 : wp.cell? ⟨b3, 0, none⟩ = some (.string pb) := (bC KF.out 0).trans rfl
          have z1 : wp.cell? ⟨b3, 1, none⟩ = some (.slice D args.length d) := (bC KF.out 1).trans rfl
          have z2 : wp.cell? ⟨b3, 2, none⟩ = some (.int .i64 g) := (bC KF.out 2).trans rfl
          have z3 : wp.cell? ⟨b3, 3, none⟩ = some (.slice B ps.length b) := (bC KF.out 3).trans rfl
          have z4 : wp.cell? ⟨b3, 4, none⟩ = some (.int .i64 0) := (bC KF.out 4).trans rfl
          go_wp2_with fail
          refine (syntax_Rule_Vars.calls 20000 pb D d args g B b ps 0 Wf _ (Kd.C_below D10.out HX.out) HDL.out (Kd.C_below B10.out HX.out) HBL.out HRV.out).mono ?_
          rintro e0 w8 ⟨v8, rfl, hR, hb⟩
          obtain ⟨A8, a8, rfl⟩ := Kd.R_slice hR
          have R8 := hid hR
          have C8 := hid (Kd.C_below R7.out hb)
          have X8 := hid (X10.out.trans ((HX.out.trans (hb.mono HX.out.size)).mono X10.out.size))
          clear hR hb z0 z1 z2 z3 z4 KF
          go_wp2_with fail
          refine (ergolaw13_same.calls 20000 A8 a8 Wf A7 a7 Wf true _ (Kd.R_reads' R8.out).2.2 (Kd.R_reads' R8.out).2.1 C8.out S7.out HSW.out).mono ?_
          rintro e0 w9 ⟨rfl, hb⟩
          have X9 := hid (X8.out.trans (hb.below.mono X8.out.size))
          clear hb
          go_wp2
          go_ret
          exact ⟨rfl, X9.out⟩
end Go.Proofs.YtdbpboipiceifaaDoorPSP
