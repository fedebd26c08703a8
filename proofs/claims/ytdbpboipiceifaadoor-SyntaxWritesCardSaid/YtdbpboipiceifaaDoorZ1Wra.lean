import Derived.Test.YtdbpboipiceifaaDoorZ1PlS
import Derived.Test.YtdbpboipiceifaaDoorZ1Conc
import Derived.Test.YtdbpboipiceifaaDoorZ1Leaf
set_option linter.unusedVariables false
set_option linter.unusedSimpArgs false
namespace Go.Proofs.YtdbpboipiceifaaDoorPSP
open Go.RowKit Go.Extern.Stop Go.Stop Go.Extern Go.Proofs.YtdbpboipiceifaaDoorW.PrintWords Go.Proofs.YtdbpboipiceifaaDoorW.PrintLast Go.Proofs.YtdbpboipiceifaaDoor
theorem bodyS_step (ps : List Pt) (i : Nat) (h : i < ps.length) : bodyS (ps.take (i + 1)) = (if i = 0 then [32, 58, 45, 32] else bodyS (ps.take i) ++ [44, 32]) ++ partS ps[i] := by
 rw [List.take_succ_eq_append_getElem h]
 unfold bodyS
 rw [if_neg (List.append_ne_nil_of_right_ne_nil _ (by simp)), List.map_append, List.map_singleton, join_snoc]
 by_cases h0 : i = 0
 ·subst h0
  simp [Lib.join_nil]
 ·have : ps.take i ≠ [] := by
   intro e
   have := congrArg List.length e
   rw [List.length_take, List.length_nil] at this
   omega
  rw [if_neg h0, if_neg this, if_neg (by simpa using this)]
  simp
set_option maxHeartbeats 4000000 in
set_option maxRecDepth 100000 in
theorem Write_0 {w : World} (hG : TabT w) (pr : List UInt8) (hpr : pr.length ≤ 100) (args : List Tm) (ps : List Pt) (at_ : Int) {A A' : Option Addr} {c c' : Nat} (hp : 0 < args.length) (hal : args.length ≤ 7) (ht : ∀ t ∈ args, TOk t)
  (hpl : ps.length ≤ 8) (hps : ∀ p ∈ ps, PShape p) (kA : Kd.C k53 w A args.length args) (lA : args.length ≤ c) (kB : Kd.C k59 w A' ps.length ps) (lB : ps.length ≤ c') :
  Calls Tryd.prog 27 #[.agg #[.string (bytesL pr), .slice A args.length c, .int .i64 0, .slice A' ps.length c', .int .i64 at_]] w (RetB w (.string (bytesL (ruleS pr args 0 ps)))) := by
 have HG := hid hG
 have HA := hid kA
 have HB := hid kB
 have LA := hid lA
 have HPL := hid hpl
 have HPSH := hid hps
 obtain ⟨H, hH⟩ : ∃ H, H = headS pr args 0 := ⟨_, rfl⟩
 have hat := (Atom_is hpr (show args.length ≤ 1000 by omega) ht 2000 (by decide)).2
 have hH2 : H = atomL pr args := by rw [hH]; unfold headS; rw [if_pos rfl]
 rw [← hH2] at hat
 have HAT := hid hat
 have HH : Hid (H.length ≤ 31000) := hid (by rw [hH]; exact headS_len pr hpr args 0 (by decide) (by decide) hp hal ht)
 have H0 : Hid (bytesL H = bytesL (H ++ bodyS (ps.take 0))) := hid (by simp [bodyS])
 have e0 : ruleS pr args 0 ps = H ++ bodyS ps ++ [46] := by rw [hH]; rfl
 rw [e0]
 obtain ⟨pb, hpb⟩ : ∃ pb, pb = bytesL pr := ⟨_, rfl⟩
 rw [← hpb] at HAT ⊢
 clear hG kA kB lA hpl hps hat hH2 hH e0 hpb
 have X0 : Hid (Below w.heap.size w (w.alloc (.cells #[.string pb, .slice A args.length c, .int .i64 0, .slice A' ps.length c', .int .i64 at_] 43))) := hid ((Below.refl _ _).alloc (Nat.le_refl _) _)
 have K0 := hid (heap_alloc_new w (.cells #[.string pb, .slice A args.length c, .int .i64 0, .slice A' ps.length c', .int .i64 at_] 43))
 go_enter Tryd.func27, Tryd.ntmps27
 go_wp2_with fail
 refine (ergolaw13_atom.calls 2000 pb A c args (bytesL H) _ (Kd.C_below HA.out X0.out) LA.out HAT.out (tab_below HG.out X0.out)).mono ?_
 rintro e w1 ⟨rfl, hb⟩
 have XL := hid (lT_ X0.out hb)
 have c2 : w1.cell? ⟨w.heap.size, 2, none⟩ = some (.int .i64 0) := (bC (bB K0.out hb) 2).trans rfl
 have c3 : w1.cell? ⟨w.heap.size, 3, none⟩ = some (.slice A' ps.length c') := (bC (bB K0.out hb) 3).trans rfl
 clear hb
 go_wp2_with fail
 go_loopg [3, 57] ps.length (fun g t3 t57 wr => ∃ (i : Nat), t57 = .int .i64 (i : Int) ∧ t3 = .string (bytesL (H ++ bodyS (ps.take i))) ∧ i ≤ ps.length ∧ ps.length - i ≤ g ∧ Hid (Below w.heap.size w wr))
 case atStart => exact ⟨0, rfl, by rw [← H0.out], by omega, by omega, XL⟩
 case round =>
  clear XL
  obtain ⟨i, rfl, rfl, hi, hgi, HX⟩ := hrel
  obtain ⟨wo, rfl⟩ : ∃ x : World, x = wr := ⟨_, rfl⟩
  have hpl := HPL.out
  have hbl := bodyS_len (ps.take i) (by rw [List.length_take]; omega) (fun p hp => HPSH.out p (List.mem_of_mem_take hp))
  obtain ⟨x, hx⟩ : ∃ x, x = bytesL (H ++ bodyS (ps.take i)) := ⟨_, rfl⟩
  have hx4 : x.size ≤ 400000 := by rw [hx, bsize, List.length_append]; have := HH.out; omega
  rw [← hx]
  have HXL := hid hx
  clear hx
  by_cases hlt : i < ps.length
  ·have hlt' : (i : Int) < (ps.length : Int) := by omega
   obtain ⟨bl, off, rfl, hc⟩ := Kd.C_addr HB.out (by omega) (by decide)
   obtain ⟨cs, _, hK, hcell⟩ := hc i _ (List.getElem?_eq_getElem hlt)
   obtain ⟨A2, c2, A15, c15, rfl, l2, ra, l15, rk⟩ := k59_open hK
   have k0 := hcell 0 _ rfl
   have k1 := hcell 1 _ rfl
   have k2 := hcell 2 _ rfl
   have k3 := hcell 3 _ rfl
   have k4 := hcell 4 _ rfl
   have k5 := hcell 5 _ rfl
   have k6 := hcell 6 _ rfl
   have k7 := hcell 7 _ rfl
   have k8 := hcell 8 _ rfl
   have k9 := hcell 9 _ rfl
   have k10 := hcell 10 _ rfl
   have k11 := hcell 11 _ rfl
   have k12 := hcell 12 _ rfl
   have k13 := hcell 13 _ rfl
   have k14 := hcell 14 _ rfl
   have k15 := hcell 15 _ rfl
   have e16 : k59.sz = 16 := rfl
   rw [e16] at k0 k1 k2 k3 k4 k5 k6 k7 k8 k9 k10 k11 k12 k13 k14 k15
   have m0 : wo.cell? ⟨bl, off + i * 16, none⟩ = some (.int .i64 ps[i].f0) := (HX.out.cell (World.block_lt_of_cell? w _ k0)).trans k0
   have m1 : wo.cell? ⟨bl, off + i * 16 + 1, none⟩ = some (.string ps[i].f1.f0) := (HX.out.cell (World.block_lt_of_cell? w _ k1)).trans k1
   have m2 : wo.cell? ⟨bl, off + i * 16 + 2, none⟩ = some (.slice A2 ps[i].f1.f1.length c2) := (HX.out.cell (World.block_lt_of_cell? w _ k2)).trans k2
   have m3 : wo.cell? ⟨bl, off + i * 16 + 3, none⟩ = some (.int .i64 ps[i].f2) := (HX.out.cell (World.block_lt_of_cell? w _ k3)).trans k3
   have m4 : wo.cell? ⟨bl, off + i * 16 + 4, none⟩ = some (.int .i64 ps[i].f3.f0) := (HX.out.cell (World.block_lt_of_cell? w _ k4)).trans k4
   have m5 : wo.cell? ⟨bl, off + i * 16 + 5, none⟩ = some (.string ps[i].f3.f1) := (HX.out.cell (World.block_lt_of_cell? w _ k5)).trans k5
   have m6 : wo.cell? ⟨bl, off + i * 16 + 6, none⟩ = some (.int .i64 ps[i].f3.f2) := (HX.out.cell (World.block_lt_of_cell? w _ k6)).trans k6
   have m7 : wo.cell? ⟨bl, off + i * 16 + 7, none⟩ = some (.int .i64 ps[i].f4.f0) := (HX.out.cell (World.block_lt_of_cell? w _ k7)).trans k7
   have m8 : wo.cell? ⟨bl, off + i * 16 + 8, none⟩ = some (.string ps[i].f4.f1) := (HX.out.cell (World.block_lt_of_cell? w _ k8)).trans k8
   have m9 : wo.cell? ⟨bl, off + i * 16 + 9, none⟩ = some (.int .i64 ps[i].f4.f2) := (HX.out.cell (World.block_lt_of_cell? w _ k9)).trans k9
   have m10 : wo.cell? ⟨bl, off + i * 16 + 10, none⟩ = some (.string ps[i].f5) := (HX.out.cell (World.block_lt_of_cell? w _ k10)).trans k10
   have m11 : wo.cell? ⟨bl, off + i * 16 + 11, none⟩ = some (.int .i64 ps[i].f6.f0.f0) := (HX.out.cell (World.block_lt_of_cell? w _ k11)).trans k11
   have m12 : wo.cell? ⟨bl, off + i * 16 + 12, none⟩ = some (.string ps[i].f6.f0.f1) := (HX.out.cell (World.block_lt_of_cell? w _ k12)).trans k12
   have m13 : wo.cell? ⟨bl, off + i * 16 + 13, none⟩ = some (.int .i64 ps[i].f6.f0.f2) := (HX.out.cell (World.block_lt_of_cell? w _ k13)).trans k13
   have m14 : wo.cell? ⟨bl, off + i * 16 + 14, none⟩ = some (.int .i64 ps[i].f6.f1) := (HX.out.cell (World.block_lt_of_cell? w _ k14)).trans k14
   have m15 : wo.cell? ⟨bl, off + i * 16 + 15, none⟩ = some (.slice A15 ps[i].f6.f2.length c15) := (HX.out.cell (World.block_lt_of_cell? w _ k15)).trans k15
   obtain ⟨hp1, hp2⟩ := partS_is ps[i] (HPSH.out _ (List.getElem_mem hlt))
   have hp3 := (hp2 2000 (Nat.le_refl _)).2
   have hT : bodyS (ps.take (i + 1)) = (if i = 0 then [32, 58, 45, 32] else bodyS (ps.take i) ++ [44, 32]) ++ partS ps[i] := bodyS_step ps i hlt
   have HRA := hid ra
   have HRK := hid rk
   have L2 := hid l2
   have L15 := hid l15
   obtain ⟨z, hz⟩ : ∃ z, z = ps[i] := ⟨_, rfl⟩
   rw [← hz] at m0 m1 m2 m3 m4 m5 m6 m7 m8 m9 m10 m11 m12 m13 m14 m15 hp1 hp3 hT HRA HRK L2 L15
   obtain ⟨y, hy⟩ : ∃ y, y = bytesL (partS z) := ⟨_, rfl⟩
   have hys : y.size ≤ 31000 := by rw [hy, bsize]; exact hp1
   rw [← hy] at hp3
   have HYL := hid hy
   have HT := hid hT
   have HPS := hid hp3
   clear k0 k1 k2 k3 k4 k5 k6 k7 k8 k9 k10 k11 k12 k13 k14 k15 hc hcell hK l2 ra l15 rk hp1 hp2 hp3 hT hbl hy
   obtain ⟨q0, ⟨q1, q2⟩, q3, ⟨q4, q5, q6⟩, ⟨q7, q8, q9⟩, q10, ⟨⟨q11, q12, q13⟩, q14, q15⟩⟩ := z
   simp only at m0 m1 m2 m3 m4 m5 m6 m7 m8 m9 m10 m11 m12 m13 m14 m15 HPS HRA HRK L2 L15
   have HZ := hid hz
   clear hz
   by_cases h0 : i = 0
   ·rw [if_pos h0] at HT
    have hi0 : ((i : Int) == 0) = true := beq_iff_eq.2 (by omega)
    have HI0 := hid h0
    have hb0 : bodyS (ps.take i) = [] := by rw [h0]; rfl
    clear h0
    have g1 : (9223372036854775807 < x.size + 4) = False := eq_false (by omega)
    have g2 : (9223372036854775807 < x.size + 4 + y.size) = False := eq_false (by omega)
    have HF : Hid ((x ++ (⟨#[32, 58, 45, 32]⟩ : ByteArray)) ++ y = bytesL (H ++ bodyS (ps.take (i + 1)))) := hid (by
     rw [HXL.out, HYL.out, show (⟨#[32, 58, 45, 32]⟩ : ByteArray) = bytesL [32, 58, 45, 32] from rfl, bytesL_append, bytesL_append, HT.out]
     simp [hb0])
    clear hys hx4 hb0
    go_wp2_with fail
    refine (ergolaw13_part.calls 2000 q0 q1 A2 c2 q2 q3 q4 q5 q6 q7 q8 q9 q10 q11 q12 q13 q14 A15 c15 q15 y _ (Kd.C_below HRA.out (lA_ HX.out _)) L2.out (Kd.C_below HRK.out (lA_ HX.out _)) L15.out HPS.out (tab_below HG.out (lA_ HX.out _))).mono ?_
    rintro e_ w8 ⟨rfl, hb⟩
    have X8 := hid (lT_ (lA_ HX.out _) hb)
    clear hb
    go_wp2
    go_roundg (ps.length - (i + 1))
    case measure => omega
    case rel => exact ⟨i + 1, rfl, by rw [← HF.out], by omega, Nat.le_refl _, X8⟩
   ·have hi0 : ((i : Int) == 0) = false := beq_eq_false_iff_ne.2 (by omega)
    have hi1 : ¬ (i : Int) = 0 := by omega
    rw [if_neg h0] at HT
    have g1 : (9223372036854775807 < x.size + 2) = False := eq_false (by omega)
    have g2 : (9223372036854775807 < x.size + 2 + y.size) = False := eq_false (by omega)
    have HF : Hid ((x ++ (⟨#[44, 32]⟩ : ByteArray)) ++ y = bytesL (H ++ bodyS (ps.take (i + 1)))) := hid (by
     rw [HXL.out, HYL.out, show (⟨#[44, 32]⟩ : ByteArray) = bytesL [44, 32] from rfl, bytesL_append, bytesL_append, HT.out]
     simp)
    clear hys hx4
    go_wp2_with fail
    refine (ergolaw13_part.calls 2000 q0 q1 A2 c2 q2 q3 q4 q5 q6 q7 q8 q9 q10 q11 q12 q13 q14 A15 c15 q15 y _ (Kd.C_below HRA.out (lA_ HX.out _)) L2.out (Kd.C_below HRK.out (lA_ HX.out _)) L15.out HPS.out (tab_below HG.out (lA_ HX.out _))).mono ?_
    rintro e_ w8 ⟨rfl, hb⟩
    have X8 := hid (lT_ (lA_ HX.out _) hb)
    clear hb
    go_wp2
    go_roundg (ps.length - (i + 1))
    case measure => omega
    case rel => exact ⟨i + 1, rfl, by rw [← HF.out], by omega, Nat.le_refl _, X8⟩
  ·have hie : i = ps.length := by omega
   subst hie
   rw [List.take_length] at HXL
   have g1 : (9223372036854775807 < x.size + 1) = False := eq_false (by omega)
   have HF : Hid (x ++ (⟨#[46]⟩ : ByteArray) = bytesL (H ++ bodyS ps ++ [46])) := hid (by rw [HXL.out, a46])
   clear hx4
   go_wp2
   go_ret
   exact ⟨congrArg (fun z => Ending.returned (.string z)) HF.out, HX.out⟩
end Go.Proofs.YtdbpboipiceifaaDoorPSP
set_option linter.unusedVariables false
set_option linter.unusedSimpArgs false
namespace Go.Proofs.YtdbpboipiceifaaDoorPSP
open Go.RowKit Go.Extern.Stop Go.Stop Go.Extern Go.Proofs.YtdbpboipiceifaaDoorW.PrintWords Go.Proofs.YtdbpboipiceifaaDoorW.PrintLast Go.Proofs.YtdbpboipiceifaaDoor
structure Wx (w : World) (cs : Array Value) (W : World) : Prop where
 bel : Below w.heap.size w W
 bk : W.heap[w.heap.size]? = some (.cells cs 43)
theorem Wx.step {w : World} {cs : Array Value} {W W' : World} (h : Wx w cs W) (hb : Below W.heap.size W W') : Wx w cs W' := ⟨lT_ h.bel hb, bB h.bk hb⟩
def wr9_T : Bool × List (List Nat × List Nat) := (true, [([], []), ([], []), ([1], [1]), ([2], [2]), ([0, 3], [0, 3]), ([4], [4]), ([], []), ([6], [6]), ([7], [7]), ([], []), ([8, 9], [8, 9]), ([10], [10]), ([11, 3], [11]), ([5, 12], [5, 12]), ([13], [13]), ([14, 12, 0, 1, 2, 3, 4, 5, 6, 7, 8, 9, 10, 11, 12, 13, 14], [0, 14])])
def wr9_B : List Nat := [0, 0, 2, 6, 15, 31, 0, 64, 192, 0, 960, 1984, 4046, 8191, 16383, 32767]
theorem wr9_tab : rtab .any (opsOf Tryd.f27 9) = wr9_T := by kernel_rfl
theorem wr9_bits : waitsOk wr9_T.2 wr9_B = true := by kernel_rfl
set_option maxHeartbeats 4000000 in
set_option maxRecDepth 100000 in
theorem Write_n {w : World} (hG : TabT w) (pr : List UInt8) (hpr : pr.length ≤ 100) (args : List Tm) (g : Int) (hg0 : ¬ g = 0) (hg1 : 0 ≤ g) (hg2 : g ≤ 4) (ps : List Pt) (at_ : Int) {A A' : Option Addr} {c c' : Nat} (n : Nat) (hn : args.length = n + 1) (hpos : 0 < n) (hal : args.length ≤ 7) (ht : ∀ t ∈ args, TOk t)
  (hpl : ps.length ≤ 8) (hps : ∀ p ∈ ps, PShape p) (kA : Kd.C k53 w A args.length args) (lA : args.length ≤ c) (kB : Kd.C k59 w A' ps.length ps) (lB : ps.length ≤ c') :
  Calls Tryd.prog 27 #[.agg #[.string (bytesL pr), .slice A args.length c, .int .i64 g, .slice A' ps.length c', .int .i64 at_]] w (RetB w (.string (bytesL (ruleS pr args g ps)))) := by
 have HG := hid hG
 have HA := hid kA
 have HB := hid kB
 have LA := hid lA
 have HPL := hid hpl
 have HPSH := hid hps
 have HN := hid hn
 have hp : 0 < args.length := by omega
 obtain ⟨H, hH⟩ : ∃ H, H = headS pr args g := ⟨_, rfl⟩
 have HH : Hid (H.length ≤ 31000) := hid (by rw [hH]; exact headS_len pr hpr args g hg1 hg2 hp hal ht)
 have H0 : Hid (bytesL H = bytesL (H ++ bodyS (ps.take 0))) := hid (by simp [bodyS])
 have e0 : ruleS pr args g ps = H ++ bodyS ps ++ [46] := by rw [hH]; rfl
 rw [e0]
 obtain ⟨s0, hs0⟩ : ∃ s0, s0 = bytesL (atomL pr args) := ⟨_, rfl⟩
 have hat := (Atom_is hpr (show args.length ≤ 1000 by omega) ht 2000 (by decide)).2
 rw [← hs0] at hat
 have HAT := hid hat
 have htk : (args.take n).length = n := by rw [List.length_take]; omega
 have hatn := (Atom_is hpr (show (args.take n).length ≤ 1000 by omega) (fun t h => ht t (List.mem_of_mem_take h)) 2000 (by decide)).2
 obtain ⟨J, hJ⟩ : ∃ J, J = pr ++ [40] ++ argsL (args.take n) true := ⟨_, rfl⟩
 obtain ⟨y1, hy1⟩ : ∃ y1, y1 = bytesL (atomL pr (args.take n)) := ⟨_, rfl⟩
 have hyJ : y1 = bytesL (J ++ [41]) := by rw [hy1, hJ]; rfl
 have hal2 := argsL_len (args.take n) (fun t h => ht t (List.mem_of_mem_take h)) true
 have hJl : J.length ≤ 1000 := by rw [hJ]; simp only [List.length_append, List.length_cons, List.length_nil]; omega
 have hys : y1.size = J.length + 1 := by rw [hyJ, bsize]; simp
 have hext : y1.extract 0 J.length = bytesL J := by
  rw [hyJ]
  apply ByteArray.ext
  simp
 rw [← hy1] at hatn
 obtain ⟨wd, hwd⟩ : ∃ wd, wd = bytesL (wordS g) := ⟨_, rfl⟩
 obtain ⟨hw1, hw2⟩ := wordS_is hg1 hg2
 rw [← hwd] at hw1
 have hws : wd.size ≤ 5 := by rw [hwd, bsize]; exact hw2
 have HWD := hid hw1
 have tl := lastT_ok ht hp
 have tl3 := termL tl
 have hlt : lastT args = args[n] := by unfold lastT; rw [rd55 args _ (by omega)]; simp [hn]
 have htx := (termS_is tl).2 2000 (by decide)
 obtain ⟨tx, htx2⟩ : ∃ tx, tx = termS (lastT args) := ⟨_, rfl⟩
 have htxs : tx.size ≤ 24 := by rw [htx2, size_L]; exact tl3
 have HFIN : Hid (((((bytesL J ++ (⟨#[44]⟩ : ByteArray)) ++ wd) ++ (⟨#[60]⟩ : ByteArray)) ++ tx) ++ (⟨#[62, 41]⟩ : ByteArray) = bytesL H) := hid (by
  rw [hwd, htx2, hH, show termS (lastT args) = bytesL (toL (termS (lastT args))) from (bytesL_toL _).symm]
  unfold headS
  rw [if_neg hg0, join_snoc, hJ, argsL_true, hn, Nat.add_sub_cancel]
  rw [if_neg (by intro e; have := congrArg List.length e; rw [List.length_map, htk, List.length_nil] at this; omega)]
  rw [show (⟨#[60]⟩ : ByteArray) = bytesL [60] from rfl, show (⟨#[62, 41]⟩ : ByteArray) = bytesL [62, 41] from rfl, show (⟨#[44]⟩ : ByteArray) = bytesL [44] from rfl]
  simp only [bytesL_append, lastS, List.append_assoc, List.append_nil, List.nil_append, List.cons_append])
 rw [← htx2] at htx
 obtain ⟨pb, hpb⟩ : ∃ pb, pb = bytesL pr := ⟨_, rfl⟩
 rw [← hpb] at HAT hatn ⊢
 have HT1 : Hid (∀ W, Below w.heap.size w W → Calls Tryd.prog 48 #[.agg #[.string pb, .slice A n c]] W (fun e w' => e = .returned (.string y1) ∧ Below W.heap.size W w')) := hid (fun W hW => by
  have h1 : Kd.C k53 W A (args.take n).length (args.take n) := Kd.C_below (Kd.C_take kA (by omega)) hW
  have := ergolaw13_atom.calls 2000 pb A c (args.take n) y1 W h1 (by omega) hatn (tab_below hG hW)
  rw [htk] at this
  exact this)
 obtain ⟨ba, oa, rfl, hcA⟩ := Kd.C_addr kA (by omega) (by decide)
 obtain ⟨cs, hcl, hK, hcell⟩ := hcA n _ (List.getElem?_eq_getElem (show n < args.length by omega))
 obtain rfl := k53_open hK
 rw [← hlt] at hcell
 have hT0 := hcell 0 _ rfl
 have hT1 := hcell 1 _ rfl
 have hT2 := hcell 2 _ rfl
 have e3 : k53.sz = 3 := rfl
 rw [e3] at hT0 hT1 hT2
 have HT0 : Hid (w.cell? ⟨ba, oa + n * 3, none⟩ = some (.int .i64 (lastT args).f0)) := hid hT0
 have HT2 : Hid (w.cell? ⟨ba, oa + n * 3 + 1, none⟩ = some (.string (lastT args).f1)) := hid hT1
 have HT3 : Hid (w.cell? ⟨ba, oa + n * 3 + 2, none⟩ = some (.int .i64 (lastT args).f2)) := hid hT2
 have HLA := hid (World.block_lt_of_cell? w _ hT0)
 have HTX : Hid (ergolaw13_text.f 2000 (lastT args).f0 (lastT args).f1 (lastT args).f2 = some tx) := hid ((text_same _ _ _ _).trans htx)
 generalize (lastT args).f0 = tq0 at HT0 HTX
 generalize (lastT args).f1 = tq1 at HT2 HTX
 generalize (lastT args).f2 = tq2 at HT3 HTX
 have HYS := hid hys
 have HJL := hid hJl
 have HEX := hid hext
 have HWS := hid hws
 have HTS := hid htxs
 have HAL := hid hal
 have HG0 := hid hg0
 have HPOS := hid hpos
 clear hG kA kB lA hpl hps hat hatn hH e0 hpb hs0 hn hp hal2 hyJ hy1 hJ hys hJl hext hwd hw1 hw2 hws tl tl3 hlt htx htx2 htxs hcA hcl hK hcell hT0 hT1 hT2 e3 htk hal ht hpr lB hg0 hg1 hg2 hpos
 have X0 : Hid (Below w.heap.size w (w.alloc (.cells #[.string pb, .slice (some ⟨ba, oa, none⟩) args.length c, .int .i64 g, .slice A' ps.length c', .int .i64 at_] 43))) := hid ((Below.refl _ _).alloc (Nat.le_refl _) _)
 have K0 := hid (heap_alloc_new w (.cells #[.string pb, .slice (some ⟨ba, oa, none⟩) args.length c, .int .i64 g, .slice A' ps.length c', .int .i64 at_] 43))
 have hg3 : (g == 0) = false := beq_eq_false_iff_ne.2 HG0.out
 go_enter Tryd.func27, Tryd.ntmps27
 go_wp2_with fail
 refine (ergolaw13_atom.calls 2000 pb _ c args s0 _ (Kd.C_below HA.out X0.out) LA.out HAT.out (tab_below HG.out X0.out)).mono ?_
 rintro e w1 ⟨rfl, hb⟩
 have X1 := hid (lT_ X0.out hb)
 have K1 := hid (bB K0.out hb)
 have c0 : w1.cell? ⟨w.heap.size, 0, none⟩ = some (.string pb) := (bC K1.out 0).trans rfl
 have c1 : w1.cell? ⟨w.heap.size, 1, none⟩ = some (.slice (some ⟨ba, oa, none⟩) args.length c) := (bC K1.out 1).trans rfl
 have c2 : w1.cell? ⟨w.heap.size, 2, none⟩ = some (.int .i64 g) := (bC K1.out 2).trans rfl
 clear hb X0 K0
 go_wp2_with fail
 have hnw : wrap64 ((args.length : Int) - 1) = (n : Int) := by have h1 := HAL.out; have h2 := HN.out; unfold wrap64; omega
 obtain ⟨i0, hi0, _, _, _⟩ := info_parts info53
 have hcut := cut_to (P := Tryd.prog) 37 53 .i64 Tryd.underlying37 hi0 (some ⟨ba, oa, none⟩) args.length c (n : Int) (by omega) (by have := HN.out; omega) LA.out
 rw [Int.toNat_natCast] at hcut
 rw [hnw]
 have F0 : Fr (fun _ => False) w1 w1.drew := (Fr.refl _ _).drew
 go_region_held3 (fun W => W.cell? ⟨w.heap.size, 0, none⟩ = some (.string pb) ∧ W.cell? ⟨w.heap.size, 1, none⟩ = some (.slice (some ⟨ba, oa, none⟩) args.length c) ∧ Fr (fun _ => False) w1 W)
  (first
   | (exact ⟨F0.cell c0 (fun f => f), F0.cell c1 (fun f => f), F0⟩)
   | (exact ⟨(F0.alloc _).cell c0 (fun f => f), (F0.alloc _).cell c1 (fun f => f), F0.alloc _⟩))
  (fail)
 have hb2 : Below w1.heap.size w1 (w1.alloc (.cells #[.string pb, .slice (some ⟨ba, oa, none⟩) n c] 39)).drew := below_drew (lA_ (Below.refl _ _) _)
 have X2 := hid (lT_ X1.out hb2)
 have K2 := hid (bB K1.out hb2)
 clear hb2 X1 K1 c0 c1 c2 F0 hcut hnw hi0
 go_wp2_with fail
 refine (HT1.out _ X2.out).mono ?_
 rintro e w3 ⟨rfl, hb⟩
 have X3 := hid (lT_ X2.out hb)
 have K3 := hid (bB K2.out hb)
 clear hb X2 K2
 have hm1 : wrap64 ((y1.size : Int) - 1) = (J.length : Int) := by rw [HYS.out]; have := HJL.out; unfold wrap64; omega
 have hm2 : (J.length : Int) ≤ (y1.size : Int) := by rw [HYS.out]; omega
 have hm3 : (0 : Int) ≤ (J.length : Int) := by omega
 have hps1 : (0 : Int) < (n : Int) := by have := HPOS.out; omega
 have g1 : (9223372036854775807 < min J.length y1.size + 1) = False := eq_false (by have := HJL.out; omega)
 go_wp2_with fail
 have hdn : decide (0 < n) = true := decide_eq_true HPOS.out
 try rw [hdn]
 clear hdn
 generalize hxe : y1.extract 0 J.length = xe
 have HXE : Hid (xe = bytesL J) := hid (hxe.symm.trans HEX.out)
 have hxs : xe.size ≤ 1000 := by rw [HXE.out, bsize]; exact HJL.out
 have hws := HWS.out
 have hts := HTS.out
 have f1 : (9223372036854775807 < xe.size + 1 + wd.size) = False := eq_false (by omega)
 have f2 : (9223372036854775807 < xe.size + 1 + wd.size + 1) = False := eq_false (by omega)
 have f3 : (9223372036854775807 < xe.size + 1 + wd.size + 1 + tx.size) = False := eq_false (by omega)
 have f4 : (9223372036854775807 < xe.size + 1 + wd.size + 1 + tx.size + 2) = False := eq_false (by omega)
 have hn3 : (n : Int) < (args.length : Int) := by have := HN.out; omega
 have hn4 : (0 : Int) ≤ (n : Int) := by omega
 have Y0 : Hid (Wx w #[.string pb, .slice (some ⟨ba, oa, none⟩) args.length c, .int .i64 g, .slice A' ps.length c', .int .i64 at_] w3.drew) := hid ⟨below_drew X3.out, bD K3.out⟩
 have HALL : Hid (∀ W, Wx w #[.string pb, .slice (some ⟨ba, oa, none⟩) args.length c, .int .i64 g, .slice A' ps.length c', .int .i64 at_] W → W.cell? ⟨w.heap.size, 0, none⟩ = some (.string pb) ∧ W.cell? ⟨w.heap.size, 1, none⟩ = some (.slice (some ⟨ba, oa, none⟩) args.length c) ∧ W.cell? ⟨w.heap.size, 2, none⟩ = some (.int .i64 g) ∧ W.cell? ⟨ba, oa + n * 3, none⟩ = some (.int .i64 tq0) ∧ W.cell? ⟨ba, oa + n * 3 + 1, none⟩ = some (.string tq1) ∧ W.cell? ⟨ba, oa + n * 3 + 2, none⟩ = some (.int .i64 tq2)) :=
  hid (fun W h => ⟨(bC h.bk 0).trans rfl, (bC h.bk 1).trans rfl, (bC h.bk 2).trans rfl, (h.bel.cell (World.block_lt_of_cell? w _ HT0.out)).trans HT0.out, (h.bel.cell (World.block_lt_of_cell? w _ HT2.out)).trans HT2.out, (h.bel.cell (World.block_lt_of_cell? w _ HT3.out)).trans HT3.out⟩)
 clear hxe hxs hws hts X3 K3 hm1 hm2 hm3
 refine start_ (n := 16) (S := fun W => W.cell? ⟨w.heap.size, 0, none⟩ = some (.string pb) ∧ W.cell? ⟨w.heap.size, 1, none⟩ = some (.slice (some ⟨ba, oa, none⟩) args.length c) ∧ W.cell? ⟨w.heap.size, 2, none⟩ = some (.int .i64 g) ∧ W.cell? ⟨ba, oa + n * 3, none⟩ = some (.int .i64 tq0) ∧ W.cell? ⟨ba, oa + n * 3 + 1, none⟩ = some (.string tq1) ∧ W.cell? ⟨ba, oa + n * 3 + 2, none⟩ = some (.int .i64 tq2)) (ds := []) #[false, false, false, false, false, false, false, false, false, false, false, false, false, false, false, false] (by kernel_rfl) rfl rfl (HALL.out _ Y0.out) (fun hHeld => ?_)
 refine with_tabW wr9_tab wr9_bits (fun HT_ HW_ => ?_)
 refine pure_ (i := 0) (N := some 39) (v := ?_) (a' := ?_) #[true, false, false, false, false, false, false, false, false, false, false, false, false, false, false, false] rfl rfl (any_of HT_.out (by kernel_rfl)) (fun _ _ _ h => h) (Or.inl ⟨by rfl, ?_⟩) ?_ ?_
 rotate_left
 ·intro w'
  go_simp
  with_reducible rfl
 rotate_left
 ·simp only [Act.put, List.setIfInBounds_toArray, List.set_cons_zero, List.set_cons_succ, i64_w, i32_w]
  rfl
 refine pure_ (i := 1) (N := some 40) (v := ?_) (a' := ?_) #[true, true, false, false, false, false, false, false, false, false, false, false, false, false, false, false] rfl rfl (any_of HT_.out (by kernel_rfl)) (fun _ _ _ h => h) (Or.inl ⟨by rfl, ?_⟩) ?_ ?_
 rotate_left
 ·intro w'
  go_simp
  with_reducible rfl
 rotate_left
 ·simp only [Act.put, List.setIfInBounds_toArray, List.set_cons_zero, List.set_cons_succ, i64_w, i32_w]
  rfl
 refine pure_ (i := 6) (N := some 45) (v := ?_) (a' := ?_) #[true, true, false, false, false, false, true, false, false, false, false, false, false, false, false, false] rfl rfl (any_of HT_.out (by kernel_rfl)) (fun _ _ _ h => h) (Or.inl ⟨by rfl, ?_⟩) ?_ ?_
 rotate_left
 ·intro w'
  go_simp
  with_reducible rfl
 rotate_left
 ·simp only [Act.put, List.setIfInBounds_toArray, List.set_cons_zero, List.set_cons_succ, i64_w, i32_w]
  rfl
 refine pure_ (i := 7) (N := some 46) (v := ?_) (a' := ?_) #[true, true, false, false, false, false, true, true, false, false, false, false, false, false, false, false] rfl rfl (any_of HT_.out (by kernel_rfl)) (fun _ _ _ h => h) (Or.inl ⟨by rfl, ?_⟩) ?_ ?_
 rotate_left
 ·intro w'
  go_simp
  with_reducible rfl
 rotate_left
 ·simp only [Act.put, List.setIfInBounds_toArray, List.set_cons_zero, List.set_cons_succ, i64_w, i32_w]
  rfl
 refine pure_ (i := 9) (N := some 48) (v := ?_) (a' := ?_) #[true, true, false, false, false, false, true, true, false, true, false, false, false, false, false, false] rfl rfl (any_of HT_.out (by kernel_rfl)) (fun _ _ _ h => h) (Or.inl ⟨by rfl, ?_⟩) ?_ ?_
 rotate_left
 ·intro w'
  go_simp
  with_reducible rfl
 rotate_left
 ·simp only [Act.put, List.setIfInBounds_toArray, List.set_cons_zero, List.set_cons_succ, i64_w, i32_w]
  rfl
 refine take_ (i := 2) (N := some 41) (v := ?_) (a' := ?_) #[true, true, true, false, false, false, true, true, false, true, false, false, false, false, false, false] rfl rfl (take_ofW HT_.out HW_.out (by kernel_rfl)) (fun _ _ _ h => h) (Or.inl ⟨by rfl, ?_⟩) hHeld ?_ ?_
 rotate_left
 ·rintro w' ⟨s0, s1, s2, s3, s4, s5⟩
  go_simp
  with_reducible rfl
 rotate_left
 ·simp only [Act.put, List.setIfInBounds_toArray, List.set_cons_zero, List.set_cons_succ, i64_w, i32_w]
  rfl
 refine take_ (i := 8) (N := some 47) (v := ?_) (a' := ?_) #[true, true, true, false, false, false, true, true, true, true, false, false, false, false, false, false] rfl rfl (take_ofW HT_.out HW_.out (by kernel_rfl)) (fun _ _ _ h => h) (Or.inl ⟨by rfl, ?_⟩) hHeld ?_ ?_
 rotate_left
 ·rintro w' ⟨s0, s1, s2, s3, s4, s5⟩
  go_simp
  with_reducible rfl
 rotate_left
 ·simp only [Act.put, List.setIfInBounds_toArray, List.set_cons_zero, List.set_cons_succ, i64_w, i32_w]
  rfl
 refine pure_ (i := 10) (N := some 49) (v := ?_) (a' := ?_) #[true, true, true, false, false, false, true, true, true, true, true, false, false, false, false, false] rfl rfl (any_of HT_.out (by kernel_rfl)) (fun _ _ _ h => h) (Or.inl ⟨by rfl, ?_⟩) ?_ ?_
 rotate_left
 ·intro w'
  go_simp
  with_reducible rfl
 rotate_left
 ·simp only [Act.put, List.setIfInBounds_toArray, List.set_cons_zero, List.set_cons_succ, i64_w, i32_w]
  rfl
 refine take_ (i := 11) (N := some 50) (v := ?_) (a' := ?_) #[true, true, true, false, false, false, true, true, true, true, true, true, false, false, false, false] rfl rfl (take_ofW HT_.out HW_.out (by kernel_rfl)) (fun _ _ _ h => h) (Or.inl ⟨by rfl, ?_⟩) hHeld ?_ ?_
 rotate_left
 ·rintro w' ⟨s0, s1, s2, s3, s4, s5⟩
  go_simp
  with_reducible rfl
 rotate_left
 ·simp only [Act.put, List.setIfInBounds_toArray, List.set_cons_zero, List.set_cons_succ, i64_w, i32_w]
  rfl
 refine one_ (i := 3) (N := some 42) #[true, true, true, true, false, false, true, true, true, true, true, true, false, false, false, false] rfl rfl (one_of HT_.out (by kernel_rfl)) (by decide) (fun K hK => ?_)
 refine goes_ Tryd.func45 (by kernel_rfl) rfl #[.int .i64 g] (by rfl) rfl rfl (by (try simp only [List.map_toArray, List.map_cons, List.map_nil]); first | done | rfl) ?_
 refine (group_Agg_Word.calls g wd _ HWD.out).mono ?_
 rintro e_ w_ ⟨rfl, hb⟩
 have Y1 := hid (Y0.out.step hb)
 clear hb Y0
 refine ⟨_, rfl, ?_⟩
 refine hK.out _ _ (HALL.out _ Y1.out) (fun hHeld => ?_)
 clear hK K
 refine norm_ (a' := ?_) ?_ ?_
 rotate_left
 ·show Act.put _ (some 42) _ = _
  simp only [Act.put, List.setIfInBounds_toArray, List.set_cons_zero, List.set_cons_succ, i64_w, i32_w]
  rfl
 refine pure_ (i := 4) (N := some 43) (v := ?_) (a' := ?_) #[true, true, true, true, true, false, true, true, true, true, true, true, false, false, false, false] rfl rfl (any_of HT_.out (by kernel_rfl)) (fun _ _ _ h => h) (Or.inl ⟨by rfl, ?_⟩) ?_ ?_
 rotate_left
 ·intro w'
  go_simp
  with_reducible rfl
 rotate_left
 ·simp only [Act.put, List.setIfInBounds_toArray, List.set_cons_zero, List.set_cons_succ, i64_w, i32_w]
  rfl
 refine pure_ (i := 5) (N := some 44) (v := ?_) (a' := ?_) #[true, true, true, true, true, true, true, true, true, true, true, true, false, false, false, false] rfl rfl (any_of HT_.out (by kernel_rfl)) (fun _ _ _ h => h) (Or.inl ⟨by rfl, ?_⟩) ?_ ?_
 rotate_left
 ·intro w'
  go_simp
  with_reducible rfl
 rotate_left
 ·simp only [Act.put, List.setIfInBounds_toArray, List.set_cons_zero, List.set_cons_succ, i64_w, i32_w]
  rfl
 refine one_ (i := 12) (N := some 51) #[true, true, true, true, true, true, true, true, true, true, true, true, true, false, false, false] rfl rfl (one_of HT_.out (by kernel_rfl)) (by decide) (fun K hK => ?_)
 refine goes_ Tryd.func49 (by kernel_rfl) rfl #[.agg #[.int .i64 tq0, .string tq1, .int .i64 tq2]] (by rfl) rfl rfl (by (try simp only [List.map_toArray, List.map_cons, List.map_nil]); first | done | rfl) ?_
 refine (ergolaw13_text.calls 2000 tq0 tq1 tq2 tx _ HTX.out (tab_below HG.out Y1.out.bel)).mono ?_
 rintro e_ w_ ⟨rfl, hb⟩
 have Y2 := hid (Y1.out.step hb)
 clear hb Y1
 refine ⟨_, rfl, ?_⟩
 refine hK.out _ _ (HALL.out _ Y2.out) (fun hHeld => ?_)
 clear hK K
 refine norm_ (a' := ?_) ?_ ?_
 rotate_left
 ·show Act.put _ (some 51) _ = _
  simp only [Act.put, List.setIfInBounds_toArray, List.set_cons_zero, List.set_cons_succ, i64_w, i32_w]
  rfl
 refine pure_ (i := 13) (N := some 52) (v := ?_) (a' := ?_) #[true, true, true, true, true, true, true, true, true, true, true, true, true, true, false, false] rfl rfl (any_of HT_.out (by kernel_rfl)) (fun _ _ _ h => h) (Or.inl ⟨by rfl, ?_⟩) ?_ ?_
 rotate_left
 ·intro w'
  go_simp
  with_reducible rfl
 rotate_left
 ·simp only [Act.put, List.setIfInBounds_toArray, List.set_cons_zero, List.set_cons_succ, i64_w, i32_w]
  rfl
 refine pure_ (i := 14) (N := some 53) (v := ?_) (a' := ?_) #[true, true, true, true, true, true, true, true, true, true, true, true, true, true, true, false] rfl rfl (any_of HT_.out (by kernel_rfl)) (fun _ _ _ h => h) (Or.inl ⟨by rfl, ?_⟩) ?_ ?_
 rotate_left
 ·intro w'
  go_simp
  with_reducible rfl
 rotate_left
 ·simp only [Act.put, List.setIfInBounds_toArray, List.set_cons_zero, List.set_cons_succ, i64_w, i32_w]
  rfl
 refine pure_ (i := 15) (N := some 3) (v := ?_) (a' := ?_) #[true, true, true, true, true, true, true, true, true, true, true, true, true, true, true, true] rfl rfl (any_of HT_.out (by kernel_rfl)) (fun _ _ _ h => h) (Or.inl ⟨by rfl, ?_⟩) ?_ ?_
 rotate_left
 ·intro w'
  go_simp
  with_reducible rfl
 rotate_left
 ·simp only [Act.put, List.setIfInBounds_toArray, List.set_cons_zero, List.set_cons_succ, i64_w, i32_w]
  rfl
 refine done_ (done_of HT_.out (by kernel_rfl)) ?_
 have XL := hid Y2.out.bel
 have c3 : w_.cell? ⟨w.heap.size, 3, none⟩ = some (.slice A' ps.length c') := (bC Y2.out.bk 3).trans rfl
 rw [HXE.out, HFIN.out]
 clear f1 f2 f3 f4 hn3 hn4 Y2 HALL hg3 g1 hps1
 go_wp2_with fail
 go_loopg [3, 57] ps.length (fun g t3 t57 wr => ∃ (i : Nat), t57 = .int .i64 (i : Int) ∧ t3 = .string (bytesL (H ++ bodyS (ps.take i))) ∧ i ≤ ps.length ∧ ps.length - i ≤ g ∧ Hid (Below w.heap.size w wr))
 case atStart => exact ⟨0, rfl, by rw [← H0.out], by omega, by omega, XL⟩
 case round =>
  clear XL
  obtain ⟨i, rfl, rfl, hi, hgi, HX⟩ := hrel
  obtain ⟨wo, rfl⟩ : ∃ x : World, x = wr := ⟨_, rfl⟩
  have hpl := HPL.out
  have hbl := bodyS_len (ps.take i) (by rw [List.length_take]; omega) (fun p hp => HPSH.out p (List.mem_of_mem_take hp))
  obtain ⟨x, hx⟩ : ∃ x, x = bytesL (H ++ bodyS (ps.take i)) := ⟨_, rfl⟩
  have hx4 : x.size ≤ 400000 := by rw [hx, bsize, List.length_append]; have := HH.out; omega
  rw [← hx]
  have HXL := hid hx
  clear hx
  by_cases hlt : i < ps.length
  ·have hlt' : (i : Int) < (ps.length : Int) := by omega
   obtain ⟨bl, off, rfl, hc⟩ := Kd.C_addr HB.out (by omega) (by decide)
   obtain ⟨cs, _, hK, hcell⟩ := hc i _ (List.getElem?_eq_getElem hlt)
   obtain ⟨A2, c2, A15, c15, rfl, l2, ra, l15, rk⟩ := k59_open hK
   have k0 := hcell 0 _ rfl
   have k1 := hcell 1 _ rfl
   have k2 := hcell 2 _ rfl
   have k3 := hcell 3 _ rfl
   have k4 := hcell 4 _ rfl
   have k5 := hcell 5 _ rfl
   have k6 := hcell 6 _ rfl
   have k7 := hcell 7 _ rfl
   have k8 := hcell 8 _ rfl
   have k9 := hcell 9 _ rfl
   have k10 := hcell 10 _ rfl
   have k11 := hcell 11 _ rfl
   have k12 := hcell 12 _ rfl
   have k13 := hcell 13 _ rfl
   have k14 := hcell 14 _ rfl
   have k15 := hcell 15 _ rfl
   have e16 : k59.sz = 16 := rfl
   rw [e16] at k0 k1 k2 k3 k4 k5 k6 k7 k8 k9 k10 k11 k12 k13 k14 k15
   have m0 : wo.cell? ⟨bl, off + i * 16, none⟩ = some (.int .i64 ps[i].f0) := (HX.out.cell (World.block_lt_of_cell? w _ k0)).trans k0
   have m1 : wo.cell? ⟨bl, off + i * 16 + 1, none⟩ = some (.string ps[i].f1.f0) := (HX.out.cell (World.block_lt_of_cell? w _ k1)).trans k1
   have m2 : wo.cell? ⟨bl, off + i * 16 + 2, none⟩ = some (.slice A2 ps[i].f1.f1.length c2) := (HX.out.cell (World.block_lt_of_cell? w _ k2)).trans k2
   have m3 : wo.cell? ⟨bl, off + i * 16 + 3, none⟩ = some (.int .i64 ps[i].f2) := (HX.out.cell (World.block_lt_of_cell? w _ k3)).trans k3
   have m4 : wo.cell? ⟨bl, off + i * 16 + 4, none⟩ = some (.int .i64 ps[i].f3.f0) := (HX.out.cell (World.block_lt_of_cell? w _ k4)).trans k4
   have m5 : wo.cell? ⟨bl, off + i * 16 + 5, none⟩ = some (.string ps[i].f3.f1) := (HX.out.cell (World.block_lt_of_cell? w _ k5)).trans k5
   have m6 : wo.cell? ⟨bl, off + i * 16 + 6, none⟩ = some (.int .i64 ps[i].f3.f2) := (HX.out.cell (World.block_lt_of_cell? w _ k6)).trans k6
   have m7 : wo.cell? ⟨bl, off + i * 16 + 7, none⟩ = some (.int .i64 ps[i].f4.f0) := (HX.out.cell (World.block_lt_of_cell? w _ k7)).trans k7
   have m8 : wo.cell? ⟨bl, off + i * 16 + 8, none⟩ = some (.string ps[i].f4.f1) := (HX.out.cell (World.block_lt_of_cell? w _ k8)).trans k8
   have m9 : wo.cell? ⟨bl, off + i * 16 + 9, none⟩ = some (.int .i64 ps[i].f4.f2) := (HX.out.cell (World.block_lt_of_cell? w _ k9)).trans k9
   have m10 : wo.cell? ⟨bl, off + i * 16 + 10, none⟩ = some (.string ps[i].f5) := (HX.out.cell (World.block_lt_of_cell? w _ k10)).trans k10
   have m11 : wo.cell? ⟨bl, off + i * 16 + 11, none⟩ = some (.int .i64 ps[i].f6.f0.f0) := (HX.out.cell (World.block_lt_of_cell? w _ k11)).trans k11
   have m12 : wo.cell? ⟨bl, off + i * 16 + 12, none⟩ = some (.string ps[i].f6.f0.f1) := (HX.out.cell (World.block_lt_of_cell? w _ k12)).trans k12
   have m13 : wo.cell? ⟨bl, off + i * 16 + 13, none⟩ = some (.int .i64 ps[i].f6.f0.f2) := (HX.out.cell (World.block_lt_of_cell? w _ k13)).trans k13
   have m14 : wo.cell? ⟨bl, off + i * 16 + 14, none⟩ = some (.int .i64 ps[i].f6.f1) := (HX.out.cell (World.block_lt_of_cell? w _ k14)).trans k14
   have m15 : wo.cell? ⟨bl, off + i * 16 + 15, none⟩ = some (.slice A15 ps[i].f6.f2.length c15) := (HX.out.cell (World.block_lt_of_cell? w _ k15)).trans k15
   obtain ⟨hp1, hp2⟩ := partS_is ps[i] (HPSH.out _ (List.getElem_mem hlt))
   have hp3 := (hp2 2000 (Nat.le_refl _)).2
   have hT : bodyS (ps.take (i + 1)) = (if i = 0 then [32, 58, 45, 32] else bodyS (ps.take i) ++ [44, 32]) ++ partS ps[i] := bodyS_step ps i hlt
   have HRA := hid ra
   have HRK := hid rk
   have L2 := hid l2
   have L15 := hid l15
   obtain ⟨z, hz⟩ : ∃ z, z = ps[i] := ⟨_, rfl⟩
   rw [← hz] at m0 m1 m2 m3 m4 m5 m6 m7 m8 m9 m10 m11 m12 m13 m14 m15 hp1 hp3 hT HRA HRK L2 L15
   obtain ⟨y, hy⟩ : ∃ y, y = bytesL (partS z) := ⟨_, rfl⟩
   have hys : y.size ≤ 31000 := by rw [hy, bsize]; exact hp1
   rw [← hy] at hp3
   have HYL := hid hy
   have HT := hid hT
   have HPS := hid hp3
   clear k0 k1 k2 k3 k4 k5 k6 k7 k8 k9 k10 k11 k12 k13 k14 k15 hc hcell hK l2 ra l15 rk hp1 hp2 hp3 hT hbl hy
   obtain ⟨q0, ⟨q1, q2⟩, q3, ⟨q4, q5, q6⟩, ⟨q7, q8, q9⟩, q10, ⟨⟨q11, q12, q13⟩, q14, q15⟩⟩ := z
   simp only at m0 m1 m2 m3 m4 m5 m6 m7 m8 m9 m10 m11 m12 m13 m14 m15 HPS HRA HRK L2 L15
   have HZ := hid hz
   clear hz
   by_cases h0 : i = 0
   ·rw [if_pos h0] at HT
    have hi0 : ((i : Int) == 0) = true := beq_iff_eq.2 (by omega)
    have HI0 := hid h0
    have hb0 : bodyS (ps.take i) = [] := by rw [h0]; rfl
    clear h0
    have g1 : (9223372036854775807 < x.size + 4) = False := eq_false (by omega)
    have g2 : (9223372036854775807 < x.size + 4 + y.size) = False := eq_false (by omega)
    have HF : Hid ((x ++ (⟨#[32, 58, 45, 32]⟩ : ByteArray)) ++ y = bytesL (H ++ bodyS (ps.take (i + 1)))) := hid (by
     rw [HXL.out, HYL.out, show (⟨#[32, 58, 45, 32]⟩ : ByteArray) = bytesL [32, 58, 45, 32] from rfl, bytesL_append, bytesL_append, HT.out]
     simp [hb0])
    clear hys hx4 hb0
    go_wp2_with fail
    refine (ergolaw13_part.calls 2000 q0 q1 A2 c2 q2 q3 q4 q5 q6 q7 q8 q9 q10 q11 q12 q13 q14 A15 c15 q15 y _ (Kd.C_below HRA.out (lA_ HX.out _)) L2.out (Kd.C_below HRK.out (lA_ HX.out _)) L15.out HPS.out (tab_below HG.out (lA_ HX.out _))).mono ?_
    rintro e_ w8 ⟨rfl, hb⟩
    have X8 := hid (lT_ (lA_ HX.out _) hb)
    clear hb
    go_wp2
    go_roundg (ps.length - (i + 1))
    case measure => omega
    case rel => exact ⟨i + 1, rfl, by rw [← HF.out], by omega, Nat.le_refl _, X8⟩
   ·have hi0 : ((i : Int) == 0) = false := beq_eq_false_iff_ne.2 (by omega)
    have hi1 : ¬ (i : Int) = 0 := by omega
    rw [if_neg h0] at HT
    have g1 : (9223372036854775807 < x.size + 2) = False := eq_false (by omega)
    have g2 : (9223372036854775807 < x.size + 2 + y.size) = False := eq_false (by omega)
    have HF : Hid ((x ++ (⟨#[44, 32]⟩ : ByteArray)) ++ y = bytesL (H ++ bodyS (ps.take (i + 1)))) := hid (by
     rw [HXL.out, HYL.out, show (⟨#[44, 32]⟩ : ByteArray) = bytesL [44, 32] from rfl, bytesL_append, bytesL_append, HT.out]
     simp)
    clear hys hx4
    go_wp2_with fail
    refine (ergolaw13_part.calls 2000 q0 q1 A2 c2 q2 q3 q4 q5 q6 q7 q8 q9 q10 q11 q12 q13 q14 A15 c15 q15 y _ (Kd.C_below HRA.out (lA_ HX.out _)) L2.out (Kd.C_below HRK.out (lA_ HX.out _)) L15.out HPS.out (tab_below HG.out (lA_ HX.out _))).mono ?_
    rintro e_ w8 ⟨rfl, hb⟩
    have X8 := hid (lT_ (lA_ HX.out _) hb)
    clear hb
    go_wp2
    go_roundg (ps.length - (i + 1))
    case measure => omega
    case rel => exact ⟨i + 1, rfl, by rw [← HF.out], by omega, Nat.le_refl _, X8⟩
  ·have hie : i = ps.length := by omega
   subst hie
   rw [List.take_length] at HXL
   have g1 : (9223372036854775807 < x.size + 1) = False := eq_false (by omega)
   have HF : Hid (x ++ (⟨#[46]⟩ : ByteArray) = bytesL (H ++ bodyS ps ++ [46])) := hid (by rw [HXL.out, a46])
   clear hx4
   go_wp2
   go_ret
   exact ⟨congrArg (fun z => Ending.returned (.string z)) HF.out, HX.out⟩
end Go.Proofs.YtdbpboipiceifaaDoorPSP
set_option linter.unusedVariables false
set_option linter.unusedSimpArgs false
namespace Go.Proofs.YtdbpboipiceifaaDoorPSP
open Go.RowKit Go.Extern.Stop Go.Stop Go.Extern Go.Proofs.YtdbpboipiceifaaDoorW.PrintWords Go.Proofs.YtdbpboipiceifaaDoorW.PrintLast Go.Proofs.YtdbpboipiceifaaDoor
set_option maxHeartbeats 4000000 in
set_option maxRecDepth 100000 in
theorem Write_1 {w : World} (hG : TabT w) (pr : List UInt8) (hpr : pr.length ≤ 100) (args : List Tm) (g : Int) (hg0 : ¬ g = 0) (hg1 : 0 ≤ g) (hg2 : g ≤ 4) (ps : List Pt) (at_ : Int) {A A' : Option Addr} {c c' : Nat} (n : Nat) (hn : args.length = n + 1) (hpos : n = 0) (hal : args.length ≤ 7) (ht : ∀ t ∈ args, TOk t)
  (hpl : ps.length ≤ 8) (hps : ∀ p ∈ ps, PShape p) (kA : Kd.C k53 w A args.length args) (lA : args.length ≤ c) (kB : Kd.C k59 w A' ps.length ps) (lB : ps.length ≤ c') :
  Calls Tryd.prog 27 #[.agg #[.string (bytesL pr), .slice A args.length c, .int .i64 g, .slice A' ps.length c', .int .i64 at_]] w (RetB w (.string (bytesL (ruleS pr args g ps)))) := by
 have HG := hid hG
 have HA := hid kA
 have HB := hid kB
 have LA := hid lA
 have HPL := hid hpl
 have HPSH := hid hps
 have HN := hid hn
 have hp : 0 < args.length := by omega
 obtain ⟨H, hH⟩ : ∃ H, H = headS pr args g := ⟨_, rfl⟩
 have HH : Hid (H.length ≤ 31000) := hid (by rw [hH]; exact headS_len pr hpr args g hg1 hg2 hp hal ht)
 have H0 : Hid (bytesL H = bytesL (H ++ bodyS (ps.take 0))) := hid (by simp [bodyS])
 have e0 : ruleS pr args g ps = H ++ bodyS ps ++ [46] := by rw [hH]; rfl
 rw [e0]
 obtain ⟨s0, hs0⟩ : ∃ s0, s0 = bytesL (atomL pr args) := ⟨_, rfl⟩
 have hat := (Atom_is hpr (show args.length ≤ 1000 by omega) ht 2000 (by decide)).2
 rw [← hs0] at hat
 have HAT := hid hat
 have htk : (args.take n).length = n := by rw [List.length_take]; omega
 have hatn := (Atom_is hpr (show (args.take n).length ≤ 1000 by omega) (fun t h => ht t (List.mem_of_mem_take h)) 2000 (by decide)).2
 obtain ⟨J, hJ⟩ : ∃ J, J = pr ++ [40] ++ argsL (args.take n) true := ⟨_, rfl⟩
 obtain ⟨y1, hy1⟩ : ∃ y1, y1 = bytesL (atomL pr (args.take n)) := ⟨_, rfl⟩
 have hyJ : y1 = bytesL (J ++ [41]) := by rw [hy1, hJ]; rfl
 have hal2 := argsL_len (args.take n) (fun t h => ht t (List.mem_of_mem_take h)) true
 have hJl : J.length ≤ 1000 := by rw [hJ]; simp only [List.length_append, List.length_cons, List.length_nil]; omega
 have hys : y1.size = J.length + 1 := by rw [hyJ, bsize]; simp
 have hext : y1.extract 0 J.length = bytesL J := by
  rw [hyJ]
  apply ByteArray.ext
  simp
 rw [← hy1] at hatn
 obtain ⟨wd, hwd⟩ : ∃ wd, wd = bytesL (wordS g) := ⟨_, rfl⟩
 obtain ⟨hw1, hw2⟩ := wordS_is hg1 hg2
 rw [← hwd] at hw1
 have hws : wd.size ≤ 5 := by rw [hwd, bsize]; exact hw2
 have HWD := hid hw1
 have tl := lastT_ok ht hp
 have tl3 := termL tl
 have hlt : lastT args = args[n] := by unfold lastT; rw [rd55 args _ (by omega)]; simp [hn]
 have htx := (termS_is tl).2 2000 (by decide)
 obtain ⟨tx, htx2⟩ : ∃ tx, tx = termS (lastT args) := ⟨_, rfl⟩
 have htxs : tx.size ≤ 24 := by rw [htx2, size_L]; exact tl3
 have HFIN : Hid (((((bytesL J) ++ wd) ++ (⟨#[60]⟩ : ByteArray)) ++ tx) ++ (⟨#[62, 41]⟩ : ByteArray) = bytesL H) := hid (by
  rw [hwd, htx2, hH, show termS (lastT args) = bytesL (toL (termS (lastT args))) from (bytesL_toL _).symm]
  unfold headS
  rw [if_neg hg0, join_snoc, hJ, argsL_true, hn, Nat.add_sub_cancel]
  rw [if_pos (by rw [show n = 0 from hpos]; rfl)]
  rw [show (⟨#[60]⟩ : ByteArray) = bytesL [60] from rfl, show (⟨#[62, 41]⟩ : ByteArray) = bytesL [62, 41] from rfl]
  simp only [bytesL_append, lastS, List.append_assoc, List.append_nil, List.nil_append, List.cons_append])
 rw [← htx2] at htx
 obtain ⟨pb, hpb⟩ : ∃ pb, pb = bytesL pr := ⟨_, rfl⟩
 rw [← hpb] at HAT hatn ⊢
 have HT1 : Hid (∀ W, Below w.heap.size w W → Calls Tryd.prog 48 #[.agg #[.string pb, .slice A n c]] W (fun e w' => e = .returned (.string y1) ∧ Below W.heap.size W w')) := hid (fun W hW => by
  have h1 : Kd.C k53 W A (args.take n).length (args.take n) := Kd.C_below (Kd.C_take kA (by omega)) hW
  have := ergolaw13_atom.calls 2000 pb A c (args.take n) y1 W h1 (by omega) hatn (tab_below hG hW)
  rw [htk] at this
  exact this)
 obtain ⟨ba, oa, rfl, hcA⟩ := Kd.C_addr kA (by omega) (by decide)
 obtain ⟨cs, hcl, hK, hcell⟩ := hcA n _ (List.getElem?_eq_getElem (show n < args.length by omega))
 obtain rfl := k53_open hK
 rw [← hlt] at hcell
 have hT0 := hcell 0 _ rfl
 have hT1 := hcell 1 _ rfl
 have hT2 := hcell 2 _ rfl
 have e3 : k53.sz = 3 := rfl
 rw [e3] at hT0 hT1 hT2
 have HT0 : Hid (w.cell? ⟨ba, oa + n * 3, none⟩ = some (.int .i64 (lastT args).f0)) := hid hT0
 have HT2 : Hid (w.cell? ⟨ba, oa + n * 3 + 1, none⟩ = some (.string (lastT args).f1)) := hid hT1
 have HT3 : Hid (w.cell? ⟨ba, oa + n * 3 + 2, none⟩ = some (.int .i64 (lastT args).f2)) := hid hT2
 have HLA := hid (World.block_lt_of_cell? w _ hT0)
 have HTX : Hid (ergolaw13_text.f 2000 (lastT args).f0 (lastT args).f1 (lastT args).f2 = some tx) := hid ((text_same _ _ _ _).trans htx)
 generalize (lastT args).f0 = tq0 at HT0 HTX
 generalize (lastT args).f1 = tq1 at HT2 HTX
 generalize (lastT args).f2 = tq2 at HT3 HTX
 have HYS := hid hys
 have HJL := hid hJl
 have HEX := hid hext
 have HWS := hid hws
 have HTS := hid htxs
 have HAL := hid hal
 have HG0 := hid hg0
 have HPOS := hid hpos
 clear hG kA kB lA hpl hps hat hatn hH e0 hpb hs0 hn hp hal2 hyJ hy1 hJ hys hJl hext hwd hw1 hw2 hws tl tl3 hlt htx htx2 htxs hcA hcl hK hcell hT0 hT1 hT2 e3 htk hal ht hpr lB hg0 hg1 hg2 hpos
 have X0 : Hid (Below w.heap.size w (w.alloc (.cells #[.string pb, .slice (some ⟨ba, oa, none⟩) args.length c, .int .i64 g, .slice A' ps.length c', .int .i64 at_] 43))) := hid ((Below.refl _ _).alloc (Nat.le_refl _) _)
 have K0 := hid (heap_alloc_new w (.cells #[.string pb, .slice (some ⟨ba, oa, none⟩) args.length c, .int .i64 g, .slice A' ps.length c', .int .i64 at_] 43))
 have hg3 : (g == 0) = false := beq_eq_false_iff_ne.2 HG0.out
 go_enter Tryd.func27, Tryd.ntmps27
 go_wp2_with fail
 refine (ergolaw13_atom.calls 2000 pb _ c args s0 _ (Kd.C_below HA.out X0.out) LA.out HAT.out (tab_below HG.out X0.out)).mono ?_
 rintro e w1 ⟨rfl, hb⟩
 have X1 := hid (lT_ X0.out hb)
 have K1 := hid (bB K0.out hb)
 have c0 : w1.cell? ⟨w.heap.size, 0, none⟩ = some (.string pb) := (bC K1.out 0).trans rfl
 have c1 : w1.cell? ⟨w.heap.size, 1, none⟩ = some (.slice (some ⟨ba, oa, none⟩) args.length c) := (bC K1.out 1).trans rfl
 have c2 : w1.cell? ⟨w.heap.size, 2, none⟩ = some (.int .i64 g) := (bC K1.out 2).trans rfl
 clear hb X0 K0
 go_wp2_with fail
 have hnw : wrap64 ((args.length : Int) - 1) = (n : Int) := by have h1 := HAL.out; have h2 := HN.out; unfold wrap64; omega
 obtain ⟨i0, hi0, _, _, _⟩ := info_parts info53
 have hcut := cut_to (P := Tryd.prog) 37 53 .i64 Tryd.underlying37 hi0 (some ⟨ba, oa, none⟩) args.length c (n : Int) (by omega) (by have := HN.out; omega) LA.out
 rw [Int.toNat_natCast] at hcut
 rw [hnw]
 have F0 : Fr (fun _ => False) w1 w1.drew := (Fr.refl _ _).drew
 go_region_held3 (fun W => W.cell? ⟨w.heap.size, 0, none⟩ = some (.string pb) ∧ W.cell? ⟨w.heap.size, 1, none⟩ = some (.slice (some ⟨ba, oa, none⟩) args.length c) ∧ Fr (fun _ => False) w1 W)
  (first
   | (exact ⟨F0.cell c0 (fun f => f), F0.cell c1 (fun f => f), F0⟩)
   | (exact ⟨(F0.alloc _).cell c0 (fun f => f), (F0.alloc _).cell c1 (fun f => f), F0.alloc _⟩))
  (fail)
 have hb2 : Below w1.heap.size w1 (w1.alloc (.cells #[.string pb, .slice (some ⟨ba, oa, none⟩) n c] 39)).drew := below_drew (lA_ (Below.refl _ _) _)
 have X2 := hid (lT_ X1.out hb2)
 have K2 := hid (bB K1.out hb2)
 clear hb2 X1 K1 c0 c1 c2 F0 hcut hnw hi0
 go_wp2_with fail
 refine (HT1.out _ X2.out).mono ?_
 rintro e w3 ⟨rfl, hb⟩
 have X3 := hid (lT_ X2.out hb)
 have K3 := hid (bB K2.out hb)
 clear hb X2 K2
 have hm1 : wrap64 ((y1.size : Int) - 1) = (J.length : Int) := by rw [HYS.out]; have := HJL.out; unfold wrap64; omega
 have hm2 : (J.length : Int) ≤ (y1.size : Int) := by rw [HYS.out]; omega
 have hm3 : (0 : Int) ≤ (J.length : Int) := by omega
 have hps1 : ¬ (0 : Int) < (n : Int) := by have := HPOS.out; omega
 go_wp2_with fail
 have hdn : decide (0 < n) = false := decide_eq_false (by have := HPOS.out; omega)
 try rw [hdn]
 clear hdn
 generalize hxe : y1.extract 0 J.length = xe
 have HXE : Hid (xe = bytesL J) := hid (hxe.symm.trans HEX.out)
 have hxs : xe.size ≤ 1000 := by rw [HXE.out, bsize]; exact HJL.out
 have hws := HWS.out
 have hts := HTS.out
 have f1 : (9223372036854775807 < xe.size + wd.size) = False := eq_false (by omega)
 have f2 : (9223372036854775807 < xe.size + wd.size + 1) = False := eq_false (by omega)
 have f3 : (9223372036854775807 < xe.size + wd.size + 1 + tx.size) = False := eq_false (by omega)
 have f4 : (9223372036854775807 < xe.size + wd.size + 1 + tx.size + 2) = False := eq_false (by omega)
 have hn3 : (n : Int) < (args.length : Int) := by have := HN.out; omega
 have hn4 : (0 : Int) ≤ (n : Int) := by omega
 have Y0 : Hid (Wx w #[.string pb, .slice (some ⟨ba, oa, none⟩) args.length c, .int .i64 g, .slice A' ps.length c', .int .i64 at_] w3.drew) := hid ⟨below_drew X3.out, bD K3.out⟩
 have HALL : Hid (∀ W, Wx w #[.string pb, .slice (some ⟨ba, oa, none⟩) args.length c, .int .i64 g, .slice A' ps.length c', .int .i64 at_] W → W.cell? ⟨w.heap.size, 0, none⟩ = some (.string pb) ∧ W.cell? ⟨w.heap.size, 1, none⟩ = some (.slice (some ⟨ba, oa, none⟩) args.length c) ∧ W.cell? ⟨w.heap.size, 2, none⟩ = some (.int .i64 g) ∧ W.cell? ⟨ba, oa + n * 3, none⟩ = some (.int .i64 tq0) ∧ W.cell? ⟨ba, oa + n * 3 + 1, none⟩ = some (.string tq1) ∧ W.cell? ⟨ba, oa + n * 3 + 2, none⟩ = some (.int .i64 tq2)) :=
  hid (fun W h => ⟨(bC h.bk 0).trans rfl, (bC h.bk 1).trans rfl, (bC h.bk 2).trans rfl, (h.bel.cell (World.block_lt_of_cell? w _ HT0.out)).trans HT0.out, (h.bel.cell (World.block_lt_of_cell? w _ HT2.out)).trans HT2.out, (h.bel.cell (World.block_lt_of_cell? w _ HT3.out)).trans HT3.out⟩)
 clear hxe hxs hws hts X3 K3 hm1 hm2 hm3
 refine start_ (n := 16) (S := fun W => W.cell? ⟨w.heap.size, 0, none⟩ = some (.string pb) ∧ W.cell? ⟨w.heap.size, 1, none⟩ = some (.slice (some ⟨ba, oa, none⟩) args.length c) ∧ W.cell? ⟨w.heap.size, 2, none⟩ = some (.int .i64 g) ∧ W.cell? ⟨ba, oa + n * 3, none⟩ = some (.int .i64 tq0) ∧ W.cell? ⟨ba, oa + n * 3 + 1, none⟩ = some (.string tq1) ∧ W.cell? ⟨ba, oa + n * 3 + 2, none⟩ = some (.int .i64 tq2)) (ds := []) #[false, false, false, false, false, false, false, false, false, false, false, false, false, false, false, false] (by kernel_rfl) rfl rfl (HALL.out _ Y0.out) (fun hHeld => ?_)
 refine with_tabW wr9_tab wr9_bits (fun HT_ HW_ => ?_)
 refine pure_ (i := 0) (N := some 39) (v := ?_) (a' := ?_) #[true, false, false, false, false, false, false, false, false, false, false, false, false, false, false, false] rfl rfl (any_of HT_.out (by kernel_rfl)) (fun _ _ _ h => h) (Or.inl ⟨by rfl, ?_⟩) ?_ ?_
 rotate_left
 ·intro w'
  go_simp
  with_reducible rfl
 rotate_left
 ·simp only [Act.put, List.setIfInBounds_toArray, List.set_cons_zero, List.set_cons_succ, i64_w, i32_w]
  rfl
 refine pure_ (i := 1) (N := some 40) (v := ?_) (a' := ?_) #[true, true, false, false, false, false, false, false, false, false, false, false, false, false, false, false] rfl rfl (any_of HT_.out (by kernel_rfl)) (fun _ _ _ h => h) (Or.inl ⟨by rfl, ?_⟩) ?_ ?_
 rotate_left
 ·intro w'
  go_simp
  with_reducible rfl
 rotate_left
 ·simp only [Act.put, List.setIfInBounds_toArray, List.set_cons_zero, List.set_cons_succ, i64_w, i32_w]
  rfl
 refine pure_ (i := 6) (N := some 45) (v := ?_) (a' := ?_) #[true, true, false, false, false, false, true, false, false, false, false, false, false, false, false, false] rfl rfl (any_of HT_.out (by kernel_rfl)) (fun _ _ _ h => h) (Or.inl ⟨by rfl, ?_⟩) ?_ ?_
 rotate_left
 ·intro w'
  go_simp
  with_reducible rfl
 rotate_left
 ·simp only [Act.put, List.setIfInBounds_toArray, List.set_cons_zero, List.set_cons_succ, i64_w, i32_w]
  rfl
 refine pure_ (i := 7) (N := some 46) (v := ?_) (a' := ?_) #[true, true, false, false, false, false, true, true, false, false, false, false, false, false, false, false] rfl rfl (any_of HT_.out (by kernel_rfl)) (fun _ _ _ h => h) (Or.inl ⟨by rfl, ?_⟩) ?_ ?_
 rotate_left
 ·intro w'
  go_simp
  with_reducible rfl
 rotate_left
 ·simp only [Act.put, List.setIfInBounds_toArray, List.set_cons_zero, List.set_cons_succ, i64_w, i32_w]
  rfl
 refine pure_ (i := 9) (N := some 48) (v := ?_) (a' := ?_) #[true, true, false, false, false, false, true, true, false, true, false, false, false, false, false, false] rfl rfl (any_of HT_.out (by kernel_rfl)) (fun _ _ _ h => h) (Or.inl ⟨by rfl, ?_⟩) ?_ ?_
 rotate_left
 ·intro w'
  go_simp
  with_reducible rfl
 rotate_left
 ·simp only [Act.put, List.setIfInBounds_toArray, List.set_cons_zero, List.set_cons_succ, i64_w, i32_w]
  rfl
 refine take_ (i := 2) (N := some 41) (v := ?_) (a' := ?_) #[true, true, true, false, false, false, true, true, false, true, false, false, false, false, false, false] rfl rfl (take_ofW HT_.out HW_.out (by kernel_rfl)) (fun _ _ _ h => h) (Or.inl ⟨by rfl, ?_⟩) hHeld ?_ ?_
 rotate_left
 ·rintro w' ⟨s0, s1, s2, s3, s4, s5⟩
  go_simp
  with_reducible rfl
 rotate_left
 ·simp only [Act.put, List.setIfInBounds_toArray, List.set_cons_zero, List.set_cons_succ, i64_w, i32_w]
  rfl
 refine take_ (i := 8) (N := some 47) (v := ?_) (a' := ?_) #[true, true, true, false, false, false, true, true, true, true, false, false, false, false, false, false] rfl rfl (take_ofW HT_.out HW_.out (by kernel_rfl)) (fun _ _ _ h => h) (Or.inl ⟨by rfl, ?_⟩) hHeld ?_ ?_
 rotate_left
 ·rintro w' ⟨s0, s1, s2, s3, s4, s5⟩
  go_simp
  with_reducible rfl
 rotate_left
 ·simp only [Act.put, List.setIfInBounds_toArray, List.set_cons_zero, List.set_cons_succ, i64_w, i32_w]
  rfl
 refine pure_ (i := 10) (N := some 49) (v := ?_) (a' := ?_) #[true, true, true, false, false, false, true, true, true, true, true, false, false, false, false, false] rfl rfl (any_of HT_.out (by kernel_rfl)) (fun _ _ _ h => h) (Or.inl ⟨by rfl, ?_⟩) ?_ ?_
 rotate_left
 ·intro w'
  go_simp
  with_reducible rfl
 rotate_left
 ·simp only [Act.put, List.setIfInBounds_toArray, List.set_cons_zero, List.set_cons_succ, i64_w, i32_w]
  rfl
 refine take_ (i := 11) (N := some 50) (v := ?_) (a' := ?_) #[true, true, true, false, false, false, true, true, true, true, true, true, false, false, false, false] rfl rfl (take_ofW HT_.out HW_.out (by kernel_rfl)) (fun _ _ _ h => h) (Or.inl ⟨by rfl, ?_⟩) hHeld ?_ ?_
 rotate_left
 ·rintro w' ⟨s0, s1, s2, s3, s4, s5⟩
  go_simp
  with_reducible rfl
 rotate_left
 ·simp only [Act.put, List.setIfInBounds_toArray, List.set_cons_zero, List.set_cons_succ, i64_w, i32_w]
  rfl
 refine one_ (i := 3) (N := some 42) #[true, true, true, true, false, false, true, true, true, true, true, true, false, false, false, false] rfl rfl (one_of HT_.out (by kernel_rfl)) (by decide) (fun K hK => ?_)
 refine goes_ Tryd.func45 (by kernel_rfl) rfl #[.int .i64 g] (by rfl) rfl rfl (by (try simp only [List.map_toArray, List.map_cons, List.map_nil]); first | done | rfl) ?_
 refine (group_Agg_Word.calls g wd _ HWD.out).mono ?_
 rintro e_ w_ ⟨rfl, hb⟩
 have Y1 := hid (Y0.out.step hb)
 clear hb Y0
 refine ⟨_, rfl, ?_⟩
 refine hK.out _ _ (HALL.out _ Y1.out) (fun hHeld => ?_)
 clear hK K
 refine norm_ (a' := ?_) ?_ ?_
 rotate_left
 ·show Act.put _ (some 42) _ = _
  simp only [Act.put, List.setIfInBounds_toArray, List.set_cons_zero, List.set_cons_succ, i64_w, i32_w]
  rfl
 refine pure_ (i := 4) (N := some 43) (v := ?_) (a' := ?_) #[true, true, true, true, true, false, true, true, true, true, true, true, false, false, false, false] rfl rfl (any_of HT_.out (by kernel_rfl)) (fun _ _ _ h => h) (Or.inl ⟨by rfl, ?_⟩) ?_ ?_
 rotate_left
 ·intro w'
  go_simp
  with_reducible rfl
 rotate_left
 ·simp only [Act.put, List.setIfInBounds_toArray, List.set_cons_zero, List.set_cons_succ, i64_w, i32_w]
  rfl
 refine pure_ (i := 5) (N := some 44) (v := ?_) (a' := ?_) #[true, true, true, true, true, true, true, true, true, true, true, true, false, false, false, false] rfl rfl (any_of HT_.out (by kernel_rfl)) (fun _ _ _ h => h) (Or.inl ⟨by rfl, ?_⟩) ?_ ?_
 rotate_left
 ·intro w'
  go_simp
  with_reducible rfl
 rotate_left
 ·simp only [Act.put, List.setIfInBounds_toArray, List.set_cons_zero, List.set_cons_succ, i64_w, i32_w]
  rfl
 refine one_ (i := 12) (N := some 51) #[true, true, true, true, true, true, true, true, true, true, true, true, true, false, false, false] rfl rfl (one_of HT_.out (by kernel_rfl)) (by decide) (fun K hK => ?_)
 refine goes_ Tryd.func49 (by kernel_rfl) rfl #[.agg #[.int .i64 tq0, .string tq1, .int .i64 tq2]] (by rfl) rfl rfl (by (try simp only [List.map_toArray, List.map_cons, List.map_nil]); first | done | rfl) ?_
 refine (ergolaw13_text.calls 2000 tq0 tq1 tq2 tx _ HTX.out (tab_below HG.out Y1.out.bel)).mono ?_
 rintro e_ w_ ⟨rfl, hb⟩
 have Y2 := hid (Y1.out.step hb)
 clear hb Y1
 refine ⟨_, rfl, ?_⟩
 refine hK.out _ _ (HALL.out _ Y2.out) (fun hHeld => ?_)
 clear hK K
 refine norm_ (a' := ?_) ?_ ?_
 rotate_left
 ·show Act.put _ (some 51) _ = _
  simp only [Act.put, List.setIfInBounds_toArray, List.set_cons_zero, List.set_cons_succ, i64_w, i32_w]
  rfl
 refine pure_ (i := 13) (N := some 52) (v := ?_) (a' := ?_) #[true, true, true, true, true, true, true, true, true, true, true, true, true, true, false, false] rfl rfl (any_of HT_.out (by kernel_rfl)) (fun _ _ _ h => h) (Or.inl ⟨by rfl, ?_⟩) ?_ ?_
 rotate_left
 ·intro w'
  go_simp
  with_reducible rfl
 rotate_left
 ·simp only [Act.put, List.setIfInBounds_toArray, List.set_cons_zero, List.set_cons_succ, i64_w, i32_w]
  rfl
 refine pure_ (i := 14) (N := some 53) (v := ?_) (a' := ?_) #[true, true, true, true, true, true, true, true, true, true, true, true, true, true, true, false] rfl rfl (any_of HT_.out (by kernel_rfl)) (fun _ _ _ h => h) (Or.inl ⟨by rfl, ?_⟩) ?_ ?_
 rotate_left
 ·intro w'
  go_simp
  with_reducible rfl
 rotate_left
 ·simp only [Act.put, List.setIfInBounds_toArray, List.set_cons_zero, List.set_cons_succ, i64_w, i32_w]
  rfl
 refine pure_ (i := 15) (N := some 3) (v := ?_) (a' := ?_) #[true, true, true, true, true, true, true, true, true, true, true, true, true, true, true, true] rfl rfl (any_of HT_.out (by kernel_rfl)) (fun _ _ _ h => h) (Or.inl ⟨by rfl, ?_⟩) ?_ ?_
 rotate_left
 ·intro w'
  go_simp
  with_reducible rfl
 rotate_left
 ·simp only [Act.put, List.setIfInBounds_toArray, List.set_cons_zero, List.set_cons_succ, i64_w, i32_w]
  rfl
 refine done_ (done_of HT_.out (by kernel_rfl)) ?_
 have XL := hid Y2.out.bel
 have c3 : w_.cell? ⟨w.heap.size, 3, none⟩ = some (.slice A' ps.length c') := (bC Y2.out.bk 3).trans rfl
 rw [HXE.out, HFIN.out]
 clear f1 f2 f3 f4 hn3 hn4 Y2 HALL hg3 hps1
 go_wp2_with fail
 go_loopg [3, 57] ps.length (fun g t3 t57 wr => ∃ (i : Nat), t57 = .int .i64 (i : Int) ∧ t3 = .string (bytesL (H ++ bodyS (ps.take i))) ∧ i ≤ ps.length ∧ ps.length - i ≤ g ∧ Hid (Below w.heap.size w wr))
 case atStart => exact ⟨0, rfl, by rw [← H0.out], by omega, by omega, XL⟩
 case round =>
  clear XL
  obtain ⟨i, rfl, rfl, hi, hgi, HX⟩ := hrel
  obtain ⟨wo, rfl⟩ : ∃ x : World, x = wr := ⟨_, rfl⟩
  have hpl := HPL.out
  have hbl := bodyS_len (ps.take i) (by rw [List.length_take]; omega) (fun p hp => HPSH.out p (List.mem_of_mem_take hp))
  obtain ⟨x, hx⟩ : ∃ x, x = bytesL (H ++ bodyS (ps.take i)) := ⟨_, rfl⟩
  have hx4 : x.size ≤ 400000 := by rw [hx, bsize, List.length_append]; have := HH.out; omega
  rw [← hx]
  have HXL := hid hx
  clear hx
  by_cases hlt : i < ps.length
  ·have hlt' : (i : Int) < (ps.length : Int) := by omega
   obtain ⟨bl, off, rfl, hc⟩ := Kd.C_addr HB.out (by omega) (by decide)
   obtain ⟨cs, _, hK, hcell⟩ := hc i _ (List.getElem?_eq_getElem hlt)
   obtain ⟨A2, c2, A15, c15, rfl, l2, ra, l15, rk⟩ := k59_open hK
   have k0 := hcell 0 _ rfl
   have k1 := hcell 1 _ rfl
   have k2 := hcell 2 _ rfl
   have k3 := hcell 3 _ rfl
   have k4 := hcell 4 _ rfl
   have k5 := hcell 5 _ rfl
   have k6 := hcell 6 _ rfl
   have k7 := hcell 7 _ rfl
   have k8 := hcell 8 _ rfl
   have k9 := hcell 9 _ rfl
   have k10 := hcell 10 _ rfl
   have k11 := hcell 11 _ rfl
   have k12 := hcell 12 _ rfl
   have k13 := hcell 13 _ rfl
   have k14 := hcell 14 _ rfl
   have k15 := hcell 15 _ rfl
   have e16 : k59.sz = 16 := rfl
   rw [e16] at k0 k1 k2 k3 k4 k5 k6 k7 k8 k9 k10 k11 k12 k13 k14 k15
   have m0 : wo.cell? ⟨bl, off + i * 16, none⟩ = some (.int .i64 ps[i].f0) := (HX.out.cell (World.block_lt_of_cell? w _ k0)).trans k0
   have m1 : wo.cell? ⟨bl, off + i * 16 + 1, none⟩ = some (.string ps[i].f1.f0) := (HX.out.cell (World.block_lt_of_cell? w _ k1)).trans k1
   have m2 : wo.cell? ⟨bl, off + i * 16 + 2, none⟩ = some (.slice A2 ps[i].f1.f1.length c2) := (HX.out.cell (World.block_lt_of_cell? w _ k2)).trans k2
   have m3 : wo.cell? ⟨bl, off + i * 16 + 3, none⟩ = some (.int .i64 ps[i].f2) := (HX.out.cell (World.block_lt_of_cell? w _ k3)).trans k3
   have m4 : wo.cell? ⟨bl, off + i * 16 + 4, none⟩ = some (.int .i64 ps[i].f3.f0) := (HX.out.cell (World.block_lt_of_cell? w _ k4)).trans k4
   have m5 : wo.cell? ⟨bl, off + i * 16 + 5, none⟩ = some (.string ps[i].f3.f1) := (HX.out.cell (World.block_lt_of_cell? w _ k5)).trans k5
   have m6 : wo.cell? ⟨bl, off + i * 16 + 6, none⟩ = some (.int .i64 ps[i].f3.f2) := (HX.out.cell (World.block_lt_of_cell? w _ k6)).trans k6
   have m7 : wo.cell? ⟨bl, off + i * 16 + 7, none⟩ = some (.int .i64 ps[i].f4.f0) := (HX.out.cell (World.block_lt_of_cell? w _ k7)).trans k7
   have m8 : wo.cell? ⟨bl, off + i * 16 + 8, none⟩ = some (.string ps[i].f4.f1) := (HX.out.cell (World.block_lt_of_cell? w _ k8)).trans k8
   have m9 : wo.cell? ⟨bl, off + i * 16 + 9, none⟩ = some (.int .i64 ps[i].f4.f2) := (HX.out.cell (World.block_lt_of_cell? w _ k9)).trans k9
   have m10 : wo.cell? ⟨bl, off + i * 16 + 10, none⟩ = some (.string ps[i].f5) := (HX.out.cell (World.block_lt_of_cell? w _ k10)).trans k10
   have m11 : wo.cell? ⟨bl, off + i * 16 + 11, none⟩ = some (.int .i64 ps[i].f6.f0.f0) := (HX.out.cell (World.block_lt_of_cell? w _ k11)).trans k11
   have m12 : wo.cell? ⟨bl, off + i * 16 + 12, none⟩ = some (.string ps[i].f6.f0.f1) := (HX.out.cell (World.block_lt_of_cell? w _ k12)).trans k12
   have m13 : wo.cell? ⟨bl, off + i * 16 + 13, none⟩ = some (.int .i64 ps[i].f6.f0.f2) := (HX.out.cell (World.block_lt_of_cell? w _ k13)).trans k13
   have m14 : wo.cell? ⟨bl, off + i * 16 + 14, none⟩ = some (.int .i64 ps[i].f6.f1) := (HX.out.cell (World.block_lt_of_cell? w _ k14)).trans k14
   have m15 : wo.cell? ⟨bl, off + i * 16 + 15, none⟩ = some (.slice A15 ps[i].f6.f2.length c15) := (HX.out.cell (World.block_lt_of_cell? w _ k15)).trans k15
   obtain ⟨hp1, hp2⟩ := partS_is ps[i] (HPSH.out _ (List.getElem_mem hlt))
   have hp3 := (hp2 2000 (Nat.le_refl _)).2
   have hT : bodyS (ps.take (i + 1)) = (if i = 0 then [32, 58, 45, 32] else bodyS (ps.take i) ++ [44, 32]) ++ partS ps[i] := bodyS_step ps i hlt
   have HRA := hid ra
   have HRK := hid rk
   have L2 := hid l2
   have L15 := hid l15
   obtain ⟨z, hz⟩ : ∃ z, z = ps[i] := ⟨_, rfl⟩
   rw [← hz] at m0 m1 m2 m3 m4 m5 m6 m7 m8 m9 m10 m11 m12 m13 m14 m15 hp1 hp3 hT HRA HRK L2 L15
   obtain ⟨y, hy⟩ : ∃ y, y = bytesL (partS z) := ⟨_, rfl⟩
   have hys : y.size ≤ 31000 := by rw [hy, bsize]; exact hp1
   rw [← hy] at hp3
   have HYL := hid hy
   have HT := hid hT
   have HPS := hid hp3
   clear k0 k1 k2 k3 k4 k5 k6 k7 k8 k9 k10 k11 k12 k13 k14 k15 hc hcell hK l2 ra l15 rk hp1 hp2 hp3 hT hbl hy
   obtain ⟨q0, ⟨q1, q2⟩, q3, ⟨q4, q5, q6⟩, ⟨q7, q8, q9⟩, q10, ⟨⟨q11, q12, q13⟩, q14, q15⟩⟩ := z
   simp only at m0 m1 m2 m3 m4 m5 m6 m7 m8 m9 m10 m11 m12 m13 m14 m15 HPS HRA HRK L2 L15
   have HZ := hid hz
   clear hz
   by_cases h0 : i = 0
   ·rw [if_pos h0] at HT
    have hi0 : ((i : Int) == 0) = true := beq_iff_eq.2 (by omega)
    have HI0 := hid h0
    have hb0 : bodyS (ps.take i) = [] := by rw [h0]; rfl
    clear h0
    have g1 : (9223372036854775807 < x.size + 4) = False := eq_false (by omega)
    have g2 : (9223372036854775807 < x.size + 4 + y.size) = False := eq_false (by omega)
    have HF : Hid ((x ++ (⟨#[32, 58, 45, 32]⟩ : ByteArray)) ++ y = bytesL (H ++ bodyS (ps.take (i + 1)))) := hid (by
     rw [HXL.out, HYL.out, show (⟨#[32, 58, 45, 32]⟩ : ByteArray) = bytesL [32, 58, 45, 32] from rfl, bytesL_append, bytesL_append, HT.out]
     simp [hb0])
    clear hys hx4 hb0
    go_wp2_with fail
    refine (ergolaw13_part.calls 2000 q0 q1 A2 c2 q2 q3 q4 q5 q6 q7 q8 q9 q10 q11 q12 q13 q14 A15 c15 q15 y _ (Kd.C_below HRA.out (lA_ HX.out _)) L2.out (Kd.C_below HRK.out (lA_ HX.out _)) L15.out HPS.out (tab_below HG.out (lA_ HX.out _))).mono ?_
    rintro e_ w8 ⟨rfl, hb⟩
    have X8 := hid (lT_ (lA_ HX.out _) hb)
    clear hb
    go_wp2
    go_roundg (ps.length - (i + 1))
    case measure => omega
    case rel => exact ⟨i + 1, rfl, by rw [← HF.out], by omega, Nat.le_refl _, X8⟩
   ·have hi0 : ((i : Int) == 0) = false := beq_eq_false_iff_ne.2 (by omega)
    have hi1 : ¬ (i : Int) = 0 := by omega
    rw [if_neg h0] at HT
    have g1 : (9223372036854775807 < x.size + 2) = False := eq_false (by omega)
    have g2 : (9223372036854775807 < x.size + 2 + y.size) = False := eq_false (by omega)
    have HF : Hid ((x ++ (⟨#[44, 32]⟩ : ByteArray)) ++ y = bytesL (H ++ bodyS (ps.take (i + 1)))) := hid (by
     rw [HXL.out, HYL.out, show (⟨#[44, 32]⟩ : ByteArray) = bytesL [44, 32] from rfl, bytesL_append, bytesL_append, HT.out]
     simp)
    clear hys hx4
    go_wp2_with fail
    refine (ergolaw13_part.calls 2000 q0 q1 A2 c2 q2 q3 q4 q5 q6 q7 q8 q9 q10 q11 q12 q13 q14 A15 c15 q15 y _ (Kd.C_below HRA.out (lA_ HX.out _)) L2.out (Kd.C_below HRK.out (lA_ HX.out _)) L15.out HPS.out (tab_below HG.out (lA_ HX.out _))).mono ?_
    rintro e_ w8 ⟨rfl, hb⟩
    have X8 := hid (lT_ (lA_ HX.out _) hb)
    clear hb
    go_wp2
    go_roundg (ps.length - (i + 1))
    case measure => omega
    case rel => exact ⟨i + 1, rfl, by rw [← HF.out], by omega, Nat.le_refl _, X8⟩
  ·have hie : i = ps.length := by omega
   subst hie
   rw [List.take_length] at HXL
   have g1 : (9223372036854775807 < x.size + 1) = False := eq_false (by omega)
   have HF : Hid (x ++ (⟨#[46]⟩ : ByteArray) = bytesL (H ++ bodyS ps ++ [46])) := hid (by rw [HXL.out, a46])
   clear hx4
   go_wp2
   go_ret
   exact ⟨congrArg (fun z => Ending.returned (.string z)) HF.out, HX.out⟩
end Go.Proofs.YtdbpboipiceifaaDoorPSP
set_option linter.unusedVariables false
namespace Go.Proofs.YtdbpboipiceifaaDoorPSP
open Go.RowKit Go.Extern.Stop Go.Stop Go.Extern Go.Proofs.YtdbpboipiceifaaDoorW.PrintWords Go.Proofs.YtdbpboipiceifaaDoor
theorem Write_any {w : World} (hG : TabT w) (pr : List UInt8) (hpr : pr.length ≤ 100) (args : List Tm) (g : Int) (hg1 : 0 ≤ g) (hg2 : g ≤ 4) (ps : List Pt) (at_ : Int) {A A' : Option Addr} {c c' : Nat} (hp : 0 < args.length) (hal : args.length ≤ 7) (ht : ∀ t ∈ args, TOk t)
  (hpl : ps.length ≤ 8) (hps : ∀ p ∈ ps, PShape p) (kA : Kd.C k53 w A args.length args) (lA : args.length ≤ c) (kB : Kd.C k59 w A' ps.length ps) (lB : ps.length ≤ c') :
  Calls Tryd.prog 27 #[.agg #[.string (bytesL pr), .slice A args.length c, .int .i64 g, .slice A' ps.length c', .int .i64 at_]] w (RetB w (.string (bytesL (ruleS pr args g ps)))) := by
 by_cases h0 : g = 0
 ·subst h0
  exact Write_0 hG pr hpr args ps at_ hp hal ht hpl hps kA lA kB lB
 ·obtain ⟨n, hn⟩ : ∃ n, args.length = n + 1 := ⟨args.length - 1, by omega⟩
  by_cases h1 : n = 0
  ·exact Write_1 hG pr hpr args g h0 hg1 hg2 ps at_ n hn h1 hal ht hpl hps kA lA kB lB
  ·exact Write_n hG pr hpr args g h0 hg1 hg2 ps at_ n hn (by omega) hal ht hpl hps kA lA kB lB
theorem ruleS_len (pr : List UInt8) (hpr : pr.length ≤ 100) (args : List Tm) (g : Int) (h0 : 0 ≤ g) (h1 : g ≤ 4) (hn : 0 < args.length) (hl : args.length ≤ 7) (ht : ∀ t ∈ args, TOk t) (ps : List Pt) (hpl : ps.length ≤ 8) (hps : ∀ p ∈ ps, PShape p) : (ruleS pr args g ps).length ≤ 400000 := by
 have a := headS_len pr hpr args g h0 h1 hn hl ht
 have b := bodyS_len ps hpl hps
 unfold ruleS
 simp only [List.length_append, List.length_cons, List.length_nil]
 omega
end Go.Proofs.YtdbpboipiceifaaDoorPSP
