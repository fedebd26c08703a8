import Derived.Test.YtjlnpdpkobpkiaaZ1Pr21
import Derived.Test.YtjlnpdpkobpkiaaZ1Sm2
set_option linter.unusedVariables false
set_option linter.unusedSimpArgs false
namespace Go.Proofs.YtjlnpdpkobpkiaaPSP
open Go.RowKit Go.Extern.Stop Go.Stop Go.Extern Go.Proofs.YtjlnpdpkobpkiaaW.PrintWords Go.Proofs.Ytjlnpdpkobpkiaa
def headT : List UInt8 := [112, 40, 88, 41, 32, 58, 45, 32, 113, 40, 88, 44, 32, 89, 41, 44, 32, 89, 32, 62, 32, 45, 49, 46]
def headOk : Bool := match progP nv headT with
  | .ok (_, [r]) => r.f2.length == 2 && (r.f2.getD 1 z67).f4.f2 == -1
  | _ => false
theorem head_ok : headOk = true := by kernel_rfl
theorem head_prog : ∃ ds r, progP nv headT = .ok (ds, [r]) ∧ r.f2.length = 2 ∧ (r.f2.getD 1 z67).f4.f2 = -1 := by
  have h := head_ok
  unfold headOk at h
  split at h
  · rename_i ds r e
    rw [Bool.and_eq_true, beq_iff_eq, beq_iff_eq] at h
    exact ⟨ds, r, e, h.1, h.2⟩
  · cases h
set_option maxRecDepth 100000 in
theorem head14_any (w : World) : Calls Try.prog 8 #[] w fun e w' => e = .returned (.bool true) ∧ Below w.heap.size w w' := by
  obtain ⟨ds, r, hp, h2, hn⟩ := head_prog
  have HP := hid (Program_any ⟨⟨headT⟩⟩ (by decide) w)
  have HH := hid hp
  have HN := hid hn
  have H2 := hid h2
  clear hp hn h2
  go_enter Try.func8, Try.ntmps8
  go_wp2_with fail
  refine HP.out.mono ?_
  intro e w1 hp
  simp only [HH.out] at hp
  obtain ⟨bo, D, R, cD, cR, rfl, hbo, hk, lD, fD, lR, fR, hb⟩ := hp
  have HB := hid hb
  obtain ⟨p0, p1, _, _⟩ := blk2 hk
  obtain ⟨ad1, A1, c1, A3, c3, rfl, x0, x1, x2, x3, x4, xl1, xg1, xl3, xg3⟩ := at_R (Kd.F_now fR) 0 (by simp)
  rw [show [r].getD 0 zR = r from rfl] at x0 x1 x2 x3 x4 xl1 xg1 xl3 xg3
  rw [H2.out] at x3 xl3 xg3
  obtain ⟨ad2, A2, c2, A15, c15, rfl, y0, y1, y2, y3, y4, y5, y6, y7, y8, y9, y10, y11, y12, y13, y14, y15, l2, g2, l15, g15⟩ := at_T67 xg3 1 (by decide) (by decide)
  have hn : (rd_T67 r.f2 1).f4.f2 = -1 := HN.out
  rw [hn] at y9
  clear xg1 xg3 g2 g15 y0 y1 y2 y3 y4 y5 y6 y7 y8 y10 y11 y12 y13 y14 y15 hn hb fD fR
  have x3' : w1.cell? ⟨ad1.block, ad1.off + 3, none⟩ = some (.slice (some ad2) 2 c3) := x3
  have y9' : w1.cell? ⟨ad2.block, ad2.off + 16 + 7 + 2, none⟩ = some (.int .i64 (-1)) := y9
  clear x3 y9
  go_wp2_with fail
  go_ret
  exact ⟨rfl, HB.out⟩
end Go.Proofs.YtjlnpdpkobpkiaaPSP
