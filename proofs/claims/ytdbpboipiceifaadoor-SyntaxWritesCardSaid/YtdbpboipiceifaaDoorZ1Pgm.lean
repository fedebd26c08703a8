import Derived.Test.YtdbpboipiceifaaDoorZ1Rg6
import Derived.Test.YtdbpboipiceifaaDoorZ1Wra
set_option linter.unusedVariables false
set_option linter.unusedSimpArgs false
namespace Go.Proofs.YtdbpboipiceifaaDoorPSP
open Go.RowKit Go.Extern.Stop Go.Stop Go.Extern Go.Proofs.YtdbpboipiceifaaDoorW.PrintWords Go.Proofs.YtdbpboipiceifaaDoorW.PrintLast Go.Proofs.YtdbpboipiceifaaDoor
abbrev Dl := S92
abbrev Rl := R43
def kdm : Kd (Int × Bool) := Kd.pair (Kd.int .i64) Kd.bool
theorem kdm_open {w : World} {x : Int × Bool} {cs : List Value} (h : kdm.K w x cs) : cs = [.int .i64 x.1, .bool x.2] := by
  obtain ⟨_, _, rfl, rfl, rfl⟩ := h
  rfl
def rSS (r : Rl) : List UInt8 := ruleS (toL r.f0.f0) r.f0.f1 r.f1 r.f2
theorem declsL_snoc (ds : List Dl) (d : Dl) : declsL (ds ++ [d]) = declsL ds ++ (declL (toL d.f0) d.f1 ++ [10]) := by
  induction ds with
  | nil => simp [declsL]
  | cons a r ih =>
    rw [List.cons_append]
    simp only [declsL]
    rw [ih]
    simp
theorem rulesL_snoc (rS : Rl → List UInt8) (rs : List Rl) (r : Rl) : rulesL rS (rs ++ [r]) = rulesL rS rs ++ (rS r ++ [10]) := by
  induction rs with
  | nil => simp [rulesL]
  | cons a q ih =>
    rw [List.cons_append]
    simp only [rulesL]
    rw [ih]
    simp
def DOk (d : Dl) : Prop := (toL d.f0).length ≤ 100
structure P1 (w wr : World) (dd : List Dl) (D : Option Addr) (cD : Nat) : Prop where
  fr : Below w.heap.size w wr
  ko : wr.heap[w.heap.size]? = some (.cells #[.slice D dd.length cD, .slice none 0 0] 77)
  row : Kd.R k92 92 wr w.heap.size (fun k => k ≠ w.heap.size) (.slice D dd.length cD) dd
  ok : ∀ d ∈ dd, DOk d
theorem declsL_le (dd : List Dl) (h : ∀ d ∈ dd, DOk d) : (declsL dd).length ≤ 1007 * dd.length := declsL_len dd (fun d hd => Nat.le_trans (h d hd) (by decide))
def ROk (r : Rl) : Prop := (rSS r).length ≤ 400000 ∧ syntax_Rule_String.f 3000 r.f0.f0 r.f0.f1 r.f1 r.f2 r.f3 = some (bytesL (rSS r))
structure P2 (w wr : World) (dd : List Dl) (D : Option Addr) (cD : Nat) (rr : List Rl) (R : Option Addr) (cR : Nat) : Prop where
  fr : Below w.heap.size w wr
  ko : wr.heap[w.heap.size]? = some (.cells #[.slice D dd.length cD, .slice R rr.length cR] 77)
  row : Kd.R k92 92 wr w.heap.size (fun k => k ≠ w.heap.size) (.slice D dd.length cD) dd
  rows : Kd.N kr43 43 wr w.heap.size (fun k => k ≠ w.heap.size) (.slice R rr.length cR) rr
  ok : ∀ r ∈ rr, ROk r
theorem P2.step {w wr w1 : World} {dd : List Dl} {D R : Option Addr} {cD cR : Nat} {rr : List Rl} (h : P2 w wr dd D cD rr R cR) (hb : Below wr.heap.size wr w1) : P2 w w1 dd D cD rr R cR :=
  ⟨lT_ h.fr hb, bB h.ko hb, Kd.R_below h.row hb, Kd.N_below h.rows hb, h.ok⟩
theorem rulesL_le (rr : List Rl) (h : ∀ r ∈ rr, ROk r) : (rulesL rSS rr).length ≤ 1000001 * rr.length := rulesL_len rSS rr (fun r hr => Nat.le_trans (h r hr).1 (by decide))
set_option maxHeartbeats 8000000 in
set_option maxRecDepth 100000 in
theorem Program_1 {w : World} (hG : TabT w) (dm : List (Int × Bool)) (rm : List RlM) {A A' : Option Addr} {c c' : Nat} (kA : Kd.C kdm w A dm.length dm) (lA : dm.length ≤ c) (kB : Kd.C k36 w A' rm.length rm) (lB : rm.length ≤ c')
    (h6 : dm.length ≤ 6) (h12 : rm.length ≤ 12) (hrb : ∀ r ∈ rm, RlB r) :
    Calls Tryd.prog 9 #[.slice A dm.length c, .slice A' rm.length c'] w (fun e w' => ∃ (D R : Option Addr) (cD cR : Nat) (dd : List Dl) (rr : List Rl), e = .returned (.tuple #[.pointer (some ⟨w.heap.size, 0, none⟩), .string (bytesL (declsL dd ++ rulesL rSS rr))]) ∧
      w'.heap[w.heap.size]? = some (.cells #[.slice D dd.length cD, .slice R rr.length cR] 77) ∧ Kd.C k92 w' D dd.length dd ∧ Kd.C kr43 w' R rr.length rr ∧ dd.length ≤ 6 ∧ rr.length ≤ 12 ∧ (∀ d ∈ dd, DOk d) ∧ (∀ r ∈ rr, ROk r) ∧ Below w.heap.size w w') := by
  have HG := hid hG
  have HA := hid kA
  have HB := hid kB
  have H6 := hid h6
  have H12 := hid h12
  have HRB := hid hrb
  clear hG kA kB lB h6 h12 hrb
  have S0 : Hid (P1 w (w.alloc (.cells #[.slice none 0 0, .slice none 0 0] 77)) [] none 0) := hid ⟨lA_ (Below.refl _ _) _, heap_alloc_new w _, Kd.R_nil _ _ _ _ _, fun d hd => by cases hd⟩
  go_enter Tryd.func9, Tryd.ntmps9
  go_wp2_with fail
  go_loopg [7, 18] dm.length (fun g t7 t18 wr => ∃ (j : Nat) (dd : List Dl) (D : Option Addr) (cD : Nat), t18 = .int .i64 (j : Int) ∧ t7 = .string (bytesL (declsL dd)) ∧ dd.length = j ∧ j ≤ dm.length ∧ dm.length - j ≤ g ∧ Hid (P1 w wr dd D cD))
  case atStart => exact ⟨0, [], none, 0, rfl, rfl, rfl, by omega, by omega, S0⟩
  case round =>
    clear S0
    obtain ⟨j, dd, D, cD, rfl, rfl, hdj, hj, hgj, HS⟩ := hrel
    obtain ⟨wo, rfl⟩ : ∃ x : World, x = wr := ⟨_, rfl⟩
    have h6 := H6.out
    have hle := declsL_le dd HS.out.ok
    have HDJ := hid hdj
    obtain ⟨x, hx⟩ : ∃ x, x = bytesL (declsL dd) := ⟨_, rfl⟩
    have hxs : x.size ≤ 10000 := by rw [hx, bsize]; omega
    rw [← hx]
    have HX := hid hx
    clear hx hle hdj
    by_cases hlt : j < dm.length
    · have hlt' : (j : Int) < (dm.length : Int) := by omega
      obtain ⟨bl, off, rfl, hc⟩ := Kd.C_addr HA.out (by omega) (by decide)
      obtain ⟨cs, _, hK, hcell⟩ := hc j _ (List.getElem?_eq_getElem hlt)
      obtain rfl := kdm_open hK
      have k0 := hcell 0 _ rfl
      have k1 := hcell 1 _ rfl
      have e2 : kdm.sz = 2 := rfl
      rw [e2] at k0 k1
      have m0 : wo.cell? ⟨bl, off + j * 2, none⟩ = some (.int .i64 dm[j].1) := (HS.out.fr.cell (World.block_lt_of_cell? w _ k0)).trans k0
      have m1 : wo.cell? ⟨bl, off + j * 2 + 1, none⟩ = some (.bool dm[j].2) := (HS.out.fr.cell (World.block_lt_of_cell? w _ k1)).trans k1
      clear hc hcell hK k0 k1
      generalize dm[j].1 = n at m0
      generalize dm[j].2 = m at m1
      go_wp2_with fail
      have K9 := hid (heap_alloc_new wo (.cells #[.int .i64 n, .bool m] 89))
      have hbo := Go.Proofs.YtdbpboipiceifaaDoor.blk_lt HS.out.ko
      obtain ⟨hpd, hps⟩ := pred_is n
      have HPD := hid hpd
      clear hpd
      refine rg6 _ _ _ _ _ _ _ _ _ _ _ _ _ _ _ _ _ _ _ _ _ _ _ _ _ _ _ _ _ _ _ _ _ _ _ _ _ _ _ _ _ _ _ _ _ _ _ _ _ _ _ _ _ _ _ _ _ _ _ _ _ _ _ _ _ _ _ _ _ _ _ _ _ _ _ _ _ _ _ _ _ _ _ (fun c a a' w hd h => by cases a; cases a'; simp only at hd; subst hd; exact h) K9 HPD ?_
      intro v22 v23 v24 v25 v26 v27 v28 v29 bx W6 hB6 hbx hkx
      have hbx2 : wo.heap.size + 1 ≤ bx := by simpa using hbx
      have KO6 := hid (bB (bA HS.out.ko _) hB6)
      have FR6 := hid (lT_ (lA_ HS.out.fr (.cells #[.int .i64 n, .bool m] 89)) hB6)
      have RD6 := hid (Kd.R_below (Kd.R_alloc (Kd.R_mono (Kd.R_bound HS.out.row) (ok' := fun k => k ≠ w.heap.size ∧ k ≠ bx) (fun k hk => ⟨hk.1, by have := hk.2.2.1; omega⟩)) (.cells #[.int .i64 n, .bool m] 89)) hB6)
      have NE : Hid (bx ≠ w.heap.size) := hid (by omega)
      have N9 : Hid (wo.heap.size ≠ w.heap.size) := hid (by omega)
      have K96 := hid (bB K9.out hB6)
      have KX6 := hid hkx
      have HOK := hid HS.out.ok
      have HL : Hid (dd.length ≤ 100) := hid (by rw [HDJ.out]; omega)
      clear hB6 hbx hbx2 hkx hbo HS K9 m0 m1
      go_wp2_with fail
      refine rg7 _ _ _ _ _ _ _ _ _ _ _ _ _ _ _ _ _ _ _ _ _ _ _ _ _ _ _ _ _ _ _ _ _ _ _ _ _ _ _ _ _ _ _ _ _ _ _ _ _ _ _ _ _ _ _ _ _ _ _ _ _ _ _ _ _ _ _ _ _ _ _ _ _ _ _ _ _ _ _ _ _ _ _ (fun c a a' w hd h => by cases a; cases a'; simp only at hd; subst hd; exact h) FR6 (hid (Nat.le_refl _)) NE KO6 KX6 RD6 HL ?_
      intro v30 v31 v32 v33 v34 v35 v36 v37 v38 v39 A7 c7 W7 hB7 hko hkx hrd hfr
      have K97 := hid (hfr _ _ _ K96.out N9.out (by decide))
      have S7 : Hid (P1 w W7 (dd ++ [⟨bytesL (predS n), m, (x.size : Int)⟩]) A7 c7) := hid ⟨hB7, by rw [List.length_append]; exact hko, by rw [List.length_append]; exact Kd.R_mono hrd (fun k hk => hk.1), fun d hd => by
        rcases List.mem_append.1 hd with hd | hd
        · exact HOK.out d hd
        · rw [List.mem_singleton] at hd
          subst hd
          exact hps⟩
      have z0 : W7.cell? ⟨wo.heap.size, 1, none⟩ = some (.bool m) := (bC K97.out 1).trans rfl
      have z1 : W7.cell? ⟨bx, 0, none⟩ = some (.string (bytesL (predS n))) := (bC hkx 0).trans rfl
      have hpz : (bytesL (predS n)).size ≤ 100 := hps
      have g1 : (9223372036854775807 < x.size + 5) = False := eq_false (by omega)
      have g2 : (9223372036854775807 < x.size + 5 + (bytesL (predS n)).size) = False := eq_false (by omega)
      have g3 : (9223372036854775807 < x.size + 5 + (bytesL (predS n)).size + 2) = False := eq_false (by omega)
      clear hB7 hko hkx hrd hfr K97 K96 KX6 KO6 RD6 FR6 NE N9 hpz
      cases m with
      | true =>
        have HF : Hid (((x ++ (⟨#[64, 109, 97, 120, 32]⟩ : ByteArray)) ++ bytesL (predS n)) ++ (⟨#[46, 10]⟩ : ByteArray) = bytesL (declsL (dd ++ [⟨bytesL (predS n), true, (x.size : Int)⟩]))) := hid (by
          rw [HX.out, show (⟨#[64, 109, 97, 120, 32]⟩ : ByteArray) = bytesL [64, 109, 97, 120, 32] from rfl, show (⟨#[46, 10]⟩ : ByteArray) = bytesL [46, 10] from rfl, bytesL_append, bytesL_append, bytesL_append, declsL_snoc]
          simp [declL])
        generalize bytesL (predS n) = pd at *
        clear hxs hps
        go_wp2
        go_roundg (dm.length - (j + 1))
        case measure => omega
        case rel => exact ⟨j + 1, dd ++ [⟨pd, true, (x.size : Int)⟩], A7, c7, by (first | rfl | simp), by rw [← HF.out], by rw [List.length_append, List.length_singleton, HDJ.out], by omega, Nat.le_refl _, S7⟩
      | false =>
        have HF : Hid (((x ++ (⟨#[64, 109, 105, 110, 32]⟩ : ByteArray)) ++ bytesL (predS n)) ++ (⟨#[46, 10]⟩ : ByteArray) = bytesL (declsL (dd ++ [⟨bytesL (predS n), false, (x.size : Int)⟩]))) := hid (by
          rw [HX.out, show (⟨#[64, 109, 105, 110, 32]⟩ : ByteArray) = bytesL [64, 109, 105, 110, 32] from rfl, show (⟨#[46, 10]⟩ : ByteArray) = bytesL [46, 10] from rfl, bytesL_append, bytesL_append, bytesL_append, declsL_snoc]
          simp [declL])
        generalize bytesL (predS n) = pd at *
        clear hxs hps
        go_wp2
        go_roundg (dm.length - (j + 1))
        case measure => omega
        case rel => exact ⟨j + 1, dd ++ [⟨pd, false, (x.size : Int)⟩], A7, c7, by (first | rfl | simp), by rw [← HF.out], by rw [List.length_append, List.length_singleton, HDJ.out], by omega, Nat.le_refl _, S7⟩
    · have hje : j = dm.length := by omega
      subst hje
      have S2 : Hid (P2 w wo dd D cD [] none 0) := hid ⟨HS.out.fr, HS.out.ko, HS.out.row, Kd.N_nil _ _ _ _ _, fun r hr => by cases hr⟩
      have HDK := hid HS.out.ok
      have hle := declsL_le dd HS.out.ok
      have hdl : (declsL dd).length ≤ 10000 := by have := HDJ.out; omega
      have HDL := hid hdl
      have HX0 : Hid (x = bytesL (declsL dd ++ rulesL rSS [])) := hid (by rw [HX.out]; simp [rulesL])
      clear hle hdl hlt hj hgj HS hxs
      go_wp2_with fail
      go_loopg [7, 57] rm.length (fun g t7 t57 wr => ∃ (i : Nat) (rr : List Rl) (R : Option Addr) (cR : Nat), t57 = .int .i64 (i : Int) ∧ t7 = .string (bytesL (declsL dd ++ rulesL rSS rr)) ∧ rr.length = i ∧ i ≤ rm.length ∧ rm.length - i ≤ g ∧ Hid (P2 w wr dd D cD rr R cR))
      case atStart => exact ⟨0, [], none, 0, rfl, by rw [HX0.out], rfl, by omega, by omega, S2⟩
      case round =>
        clear S2
        obtain ⟨i, rr, R, cR, rfl, rfl, hri, hi, hgi, HS⟩ := hrel
        obtain ⟨wp, rfl⟩ : ∃ x : World, x = wr := ⟨_, rfl⟩
        have h12 := H12.out
        have hle := rulesL_le rr HS.out.ok
        have HRI := hid hri
        obtain ⟨y, hy⟩ : ∃ y, y = bytesL (declsL dd ++ rulesL rSS rr) := ⟨_, rfl⟩
        have hys : y.size ≤ 20000000 := by rw [hy, bsize, List.length_append]; have := HDL.out; omega
        rw [← hy]
        have HY := hid hy
        clear hy hle hri
        by_cases hlt : i < rm.length
        · have hlt' : (i : Int) < (rm.length : Int) := by omega
          obtain ⟨bl, off, rfl, hc⟩ := Kd.C_addr HB.out (by omega) (by decide)
          obtain ⟨cs, _, hK, hcell⟩ := hc i _ (List.getElem?_eq_getElem hlt)
          obtain ⟨A1, c1, A3, c3, rfl, l1, g1, l3, g3⟩ := k36_open hK
          have k0 := hcell 0 _ rfl
          have k1 := hcell 1 _ rfl
          have k2 := hcell 2 _ rfl
          have k3 := hcell 3 _ rfl
          have e4 : k36.sz = 4 := rfl
          rw [e4] at k0 k1 k2 k3
          have m0 : wp.cell? ⟨bl, off + i * 4, none⟩ = some (.int .i64 rm[i].f0.f0) := (HS.out.fr.cell (World.block_lt_of_cell? w _ k0)).trans k0
          have m1 : wp.cell? ⟨bl, off + i * 4 + 1, none⟩ = some (.slice A1 rm[i].f0.f1.length c1) := (HS.out.fr.cell (World.block_lt_of_cell? w _ k1)).trans k1
          have m2 : wp.cell? ⟨bl, off + i * 4 + 2, none⟩ = some (.int .i64 rm[i].f1) := (HS.out.fr.cell (World.block_lt_of_cell? w _ k2)).trans k2
          have m3 : wp.cell? ⟨bl, off + i * 4 + 3, none⟩ = some (.slice A3 rm[i].f2.length c3) := (HS.out.fr.cell (World.block_lt_of_cell? w _ k3)).trans k3
          have hrb := HRB.out _ (List.getElem_mem hlt)
          obtain ⟨args, g, ha1, ha2, ha3, hg, hmade⟩ := rule_made _ hrb
          have HM := hid (hmade 20000 (by omega))
          obtain ⟨hps1, hps2⟩ : (rm[i].f2.map partOf).length ≤ 8 ∧ ∀ p ∈ rm[i].f2.map partOf, PShape p := ⟨by rw [List.length_map]; exact hrb.2.2.1, fun p hp => by
            obtain ⟨q, hq, rfl⟩ := List.mem_map.1 hp
            exact (partOf_is q (hrb.2.2.2 q hq)).1⟩
          generalize rm[i].f2.map partOf = ps at HM hps1 hps2
          obtain ⟨hpr1, hpr2⟩ := pred_is rm[i].f0.f0
          generalize predS rm[i].f0.f0 = pr at HM hpr2
          have HG1 := hid g1
          have HG3 := hid g3
          have HL1 := hid l1
          have HL3 := hid l3
          generalize rm[i] = r at m0 m1 m2 m3 HM HG1 HG3 HL1 HL3
          obtain ⟨⟨r0, r1⟩, r2, r3⟩ := r
          simp only at m0 m1 m2 m3 HM HG1 HG3 HL1 HL3
          have hg1 : 0 ≤ g := by omega
          have hg2 : g ≤ 4 := by omega
          have hrs := rule_string ps hps1 hps2 pr hpr2 args g hg1 hg2 ha2 ha1 ha3 (y.size : Int) 3000 (by decide)
          have hrl := ruleS_len pr hpr2 args g hg1 hg2 ha2 ha1 ha3 ps hps1 hps2
          have HWA := hid (fun (W : World) (hW : TabT W) (A A' : Option Addr) (c c' : Nat) (kA : Kd.C k53 W A args.length args) (lA : args.length ≤ c) (kB : Kd.C k59 W A' ps.length ps) (lB : ps.length ≤ c') => Write_any hW pr hpr2 args g hg1 hg2 ps (y.size : Int) ha2 ha1 ha3 hps1 hps2 kA lA kB lB)
          have HRS := hid hrs
          have hsz2 : (bytesL (ruleS pr args g ps)).size ≤ 400000 := hrl
          have HRL := hid hrl
          clear hcell hc hK k0 k1 k2 k3 g1 g3 l1 l3 hrb ha1 ha2 ha3 hg hmade hps1 hps2 hpr1 hpr2 hg1 hg2 hrs hrl
          go_wp2_with fail
          have S3 := hid (HS.out.step (lA_ (Below.refl _ _) (.cells #[.int .i64 r0, .slice A1 r1.length c1, .int .i64 r2, .slice A3 r3.length c3] 36)))
          refine (ergolaw13_R_Rule.calls 20000 r0 A1 c1 r1 r2 A3 c3 r3 (bytesL pr) args g ps 0 _ (Kd.C_below HG1.out S3.out.fr) HL1.out (Kd.C_below HG3.out S3.out.fr) HL3.out HM.out).mono ?_
          rintro e_ w3 ⟨v1, v3, rfl, hR, hN, hb⟩
          obtain ⟨Aa, ca, rfl⟩ := Kd.R_slice hR
          obtain ⟨Ab, cb, rfl⟩ := Kd.N_slice hN
          have S4 := hid (S3.out.step hb)
          have HR3 := hid hR
          have HN3 := hid hN
          have HLT := hid (Kd.N_lt HS.out.rows)
          have HSZ := hid hb.size
          clear hR hN hb m0 m1 m2 m3
          go_wp2_with fail
          generalize hq : bytesL (ruleS pr args g ps) = q at HWA HRS hsz2
          have HQ := hid hq
          have hrS : rSS ⟨⟨bytesL pr, args⟩, g, ps, (y.size : Int)⟩ = ruleS pr args g ps := by
            unfold rSS
            rw [show toL (bytesL pr) = pr from toL_bytesL pr]
          have HRSS := hid hrS
          have hok : ROk ⟨⟨bytesL pr, args⟩, g, ps, (y.size : Int)⟩ := ⟨by rw [hrS]; exact HRL.out, by rw [hrS, hq]; exact HRS.out⟩
          have HOK := hid hok
          have hbo := Go.Proofs.YtdbpboipiceifaaDoor.blk_lt HS.out.ko
          have hz3 : wp.heap.size + 1 ≤ w3.heap.size := by simpa using HSZ.out
          have S5 := hid (S4.out.step (lA_ (Below.refl _ _) (.cells #[.string (bytesL pr), .slice Aa args.length ca, .int .i64 g, .slice Ab ps.length cb, .int .i64 (y.size : Int)] 43)))
          have KX := hid (heap_alloc_new w3 (.cells #[.string (bytesL pr), .slice Aa args.length ca, .int .i64 g, .slice Ab ps.length cb, .int .i64 (y.size : Int)] 43))
          have FR5 := hid S5.out.fr
          have KO5 := hid S5.out.ko
          have RD5 := hid (Kd.R_apart' S5.out.row (Kd.N_typed S5.out.rows) (by decide))
          have RN5 := hid S5.out.rows
          have NE : Hid (w3.heap.size ≠ w.heap.size) := hid (by omega)
          have NX : Hid (∀ k, (Value.slice R rr.length cR).ownBlock = some k → k ≠ w3.heap.size) := hid (fun k hk => by have := HLT.out k hk; omega)
          have hokp : ∀ k, (wp.alloc (.cells #[.int .i64 r0, .slice A1 r1.length c1, .int .i64 r2, .slice A3 r3.length c3] 36)).heap.size ≤ k → k ≠ w.heap.size ∧ some k ≠ (Value.slice R rr.length cR).ownBlock := fun k hk => by
            have hk2 : wp.heap.size + 1 ≤ k := by simpa using hk
            exact ⟨by omega, fun e => by have := HLT.out k e.symm; omega⟩
          have FA := hid (Kd.F_mono (Kd.F_below (Kd.R_F HR3.out) (lA_ (Below.refl _ _) (.cells #[.string (bytesL pr), .slice Aa args.length ca, .int .i64 g, .slice Ab ps.length cb, .int .i64 (y.size : Int)] 43))) hokp)
          have FB := hid (Kd.F_mono (Kd.F_below (Kd.N_F HN3.out) (lA_ (Below.refl _ _) (.cells #[.string (bytesL pr), .slice Aa args.length ca, .int .i64 g, .slice Ab ps.length cb, .int .i64 (y.size : Int)] 43))) (fun k hk => hokp k hk.1))
          have LA := hid (Kd.R_reads' HR3.out).2.1
          have LB := hid (Kd.N_reads' HN3.out).2.1
          have HL : Hid (rr.length ≤ 100) := hid (by rw [HRI.out]; omega)
          have HOKS := hid HS.out.ok
          clear hq hrS hok hbo hz3 S3 S4 S5 HR3 HN3 HLT HSZ hokp HS
          refine rg17 (r := ⟨⟨bytesL pr, args⟩, g, ps, (y.size : Int)⟩) _ _ _ _ _ _ _ _ _ _ _ _ _ _ _ _ _ _ _ _ _ _ _ _ _ _ _ _ _ _ _ _ _ _ _ _ _ _ _ _ _ _ _ _ _ _ _ _ _ _ _ _ _ _ _ _ _ _ _ _ _ _ _ _ _ _ _ _ _ _ _ _ _ _ _ _ _ _ _ _ _ _ _ (fun c a a' w hd h => by cases a; cases a'; simp only at hd; subst hd; exact h) FR5 (hid (Nat.le_refl _)) NE KO5 KX RD5 RN5 NX LA FA LB FB HL ?_
          intro v66 v67 v68 v69 v70 v71 v72 v73 v74 v75 A7 c7 W7 hB7 hko hkx hrd hrn hsz hfr
          have S7 : Hid (P2 w W7 dd D cD (rr ++ [⟨⟨bytesL pr, args⟩, g, ps, (y.size : Int)⟩]) A7 c7) := hid ⟨hB7, by rw [List.length_append]; exact hko, hrd, by rw [List.length_append]; exact hrn, fun r hr => by
            rcases List.mem_append.1 hr with hr | hr
            · exact HOKS.out r hr
            · rw [List.mem_singleton] at hr
              subst hr
              exact HOK.out⟩
          have CA := hid (Kd.F_now (Kd.F_step FA.out (fun k hk hl => hfr k hk.1 hk.2 hl)))
          have CB := hid (Kd.F_now (Kd.F_step FB.out (fun k hk hl => hfr k hk.1 hk.2 hl)))
          have z0 : W7.cell? ⟨w3.heap.size, 0, none⟩ = some (.string (bytesL pr)) := (bC hkx 0).trans rfl
          have z1 : W7.cell? ⟨w3.heap.size, 1, none⟩ = some (.slice Aa args.length ca) := (bC hkx 1).trans rfl
          have z2 : W7.cell? ⟨w3.heap.size, 2, none⟩ = some (.int .i64 g) := (bC hkx 2).trans rfl
          have z3 : W7.cell? ⟨w3.heap.size, 3, none⟩ = some (.slice Ab ps.length cb) := (bC hkx 3).trans rfl
          have z4 : W7.cell? ⟨w3.heap.size, 4, none⟩ = some (.int .i64 (y.size : Int)) := (bC hkx 4).trans rfl
          have f1 : (9223372036854775807 < y.size + q.size) = False := eq_false (by omega)
          have f2 : (9223372036854775807 < y.size + q.size + 1) = False := eq_false (by omega)
          have HF : Hid ((y ++ q) ++ (⟨#[10]⟩ : ByteArray) = bytesL (declsL dd ++ rulesL rSS (rr ++ [⟨⟨bytesL pr, args⟩, g, ps, (y.size : Int)⟩]))) := hid (by
            rw [HY.out, ← HQ.out, show (⟨#[10]⟩ : ByteArray) = bytesL [10] from rfl, bytesL_append, bytesL_append, rulesL_snoc, ← HY.out, HRSS.out]
            simp)
          clear hB7 hko hkx hrd hrn hsz hfr FA FB KX KO5 RD5 RN5 FR5 NE NX hys hsz2
          go_wp2_with fail
          refine (HWA.out W7 (tab_below HG.out S7.out.fr) Aa Ab ca cb CA.out LA.out CB.out LB.out).mono ?_
          rintro e_ w8 ⟨rfl, hb⟩
          have S8 := hid (S7.out.step hb)
          clear hb z0 z1 z2 z3 z4
          go_wp2
          go_roundg (rm.length - (i + 1))
          case measure => omega
          case rel => exact ⟨i + 1, rr ++ [⟨⟨bytesL pr, args⟩, g, ps, (y.size : Int)⟩], A7, c7, by (first | rfl | simp), by rw [← HF.out], by rw [List.length_append, List.length_singleton, HRI.out], by omega, Nat.le_refl _, S8⟩
        · have hie : i = rm.length := by omega
          subst hie
          go_wp2
          go_ret2
          exact ⟨D, R, cD, cR, dd, rr, by rw [← HY.out]; rfl, HS.out.ko, (Kd.R_reads' HS.out.row).2.2, (Kd.N_reads' HS.out.rows).2.2, by rw [HDJ.out]; exact h6, by rw [HRI.out]; exact h12, HDK.out, HS.out.ok, HS.out.fr⟩
end Go.Proofs.YtdbpboipiceifaaDoorPSP
