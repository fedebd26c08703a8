import Derived.Test.YtjlnpdpkobpkiaaZ1Sm2r
import Derived.Test.YtjlnpdpkobpkiaaZ1Rq16
set_option linter.unusedVariables false
set_option linter.unusedSimpArgs false
namespace Go.Proofs.YtjlnpdpkobpkiaaPSP
open Go.RowKit Go.Extern.Stop Go.Stop Go.Extern Go.Proofs.YtjlnpdpkobpkiaaW.PrintWords Go.Proofs.Ytjlnpdpkobpkiaa
def zD : Dl := ⟨ByteArray.empty, false, 0⟩
def zR : Rl := ⟨zA, 0, [], 0⟩
theorem at_D {w : World} {A : Option Addr} {n : Nat} {xs : List Dl} (h : Kd.C kD w A n xs) (i : Nat) (hi : i < n) : ∃ ad, A = some ad ∧ w.cell? (ad.add (i * 3)) = some (.string (xs.getD i zD).f0) ∧ w.cell? ⟨(ad.add (i * 3)).block, (ad.add (i * 3)).off + 1, none⟩ = some (.bool (xs.getD i zD).f1) ∧ w.cell? ⟨(ad.add (i * 3)).block, (ad.add (i * 3)).off + 2, none⟩ = some (.int .i64 (xs.getD i zD).f2) := by
  obtain ⟨ad, c, e, _, hK, hc0⟩ := Kd.C_get h zD (i : Int) (by omega) (by omega)
  have hc : ∀ j u, c[j]? = some u → w.cell? (ad.add (i * 3 + j)) = some u := hc0
  obtain rfl := kD_open hK
  exact ⟨ad, e, hc 0 _ rfl, by rw [← add_field _ _ 1 (by omega)]; exact hc 1 _ rfl, by rw [← add_field _ _ 2 (by omega)]; exact hc 2 _ rfl⟩
theorem at_R {w : World} {A : Option Addr} {n : Nat} {xs : List Rl} (h : Kd.C kR w A n xs) (i : Nat) (hi : i < n) : ∃ ad A1 c1 A3 c3, A = some ad ∧ w.cell? (ad.add (i * 5)) = some (.string (xs.getD i zR).f0.f0) ∧ w.cell? ⟨(ad.add (i * 5)).block, (ad.add (i * 5)).off + 1, none⟩ = some (.slice A1 (xs.getD i zR).f0.f1.length c1) ∧ w.cell? ⟨(ad.add (i * 5)).block, (ad.add (i * 5)).off + 2, none⟩ = some (.int .i64 (xs.getD i zR).f1) ∧ w.cell? ⟨(ad.add (i * 5)).block, (ad.add (i * 5)).off + 3, none⟩ = some (.slice A3 (xs.getD i zR).f2.length c3) ∧ w.cell? ⟨(ad.add (i * 5)).block, (ad.add (i * 5)).off + 4, none⟩ = some (.int .i64 (xs.getD i zR).f3) ∧ (xs.getD i zR).f0.f1.length ≤ c1 ∧ Kd.C k61 w A1 (xs.getD i zR).f0.f1.length (xs.getD i zR).f0.f1 ∧ (xs.getD i zR).f2.length ≤ c3 ∧ Kd.C k67 w A3 (xs.getD i zR).f2.length (xs.getD i zR).f2 := by
  obtain ⟨ad, c, e, _, hK, hc0⟩ := Kd.C_get h zR (i : Int) (by omega) (by omega)
  have hc : ∀ j u, c[j]? = some u → w.cell? (ad.add (i * 5 + j)) = some u := hc0
  obtain ⟨A1, c1, A3, c3, rfl, l1, g1, l3, g3⟩ := kR_open hK
  exact ⟨ad, A1, c1, A3, c3, e, hc 0 _ rfl, by rw [← add_field _ _ 1 (by omega)]; exact hc 1 _ rfl, by rw [← add_field _ _ 2 (by omega)]; exact hc 2 _ rfl, by rw [← add_field _ _ 3 (by omega)]; exact hc 3 _ rfl, by rw [← add_field _ _ 4 (by omega)]; exact hc 4 _ rfl, l1, g1, l3, g3⟩
def Rl.bare (r : Rl) : Am × Int × List Pt := (r.f0, r.f1, r.f2)
def Dl.bare (d : Dl) : ByteArray × Bool := (d.f0, d.f1)
theorem getD_map_ {α β : Type} (f : α → β) (l : List α) (i : Nat) (z : α) : (l.map f).getD i (f z) = f (l.getD i z) := by
  rw [List.getD_eq_getElem?_getD, List.getD_eq_getElem?_getD, List.getElem?_map]
  cases l[i]? <;> rfl
theorem bare_at {xs ys : List Rl} (h : xs.map Rl.bare = ys.map Rl.bare) (i : Nat) : (xs.getD i zR).bare = (ys.getD i zR).bare := by
  have := congrArg (fun l => l.getD i zR.bare) h
  simpa only [getD_map_] using this
theorem bareD_at {xs ys : List Dl} (h : xs.map Dl.bare = ys.map Dl.bare) (i : Nat) : (xs.getD i zD).bare = (ys.getD i zD).bare := by
  have := congrArg (fun l => l.getD i zD.bare) h
  simpa only [getD_map_] using this
structure SmOk (w : World) (a b : Nat) (oa ob : Obj) (wr : World) : Prop where
  ka : wr.heap[a]? = some oa
  kb : wr.heap[b]? = some ob
  be : Below w.heap.size w wr
theorem SmOk.step {w wr w' : World} {a b : Nat} {oa ob : Obj} (h : SmOk w a b oa ob wr) (hb : Below wr.heap.size wr w') : SmOk w a b oa ob w' := ⟨blk_below h.ka hb, blk_below h.kb hb, below_step h.be hb⟩
set_option maxRecDepth 100000 in
set_option maxHeartbeats 4000000 in
theorem Same_true (d1 d2 : List Dl) (r1 r2 : List Rl) (hd : d1.map Dl.bare = d2.map Dl.bare) (hr : r1.map Rl.bare = r2.map Rl.bare) (ld : d1.length ≤ 1000) (lr : r1.length ≤ 1000) (hz : ∀ r ∈ r1, RZ r) {w : World} {a b : Nat} {D1 R1 D2 R2 : Option Addr} {cd1 cr1 cd2 cr2 : Nat}
    (ka : w.heap[a]? = some (.cells #[.slice D1 d1.length cd1, .slice R1 r1.length cr1] 31 (0, 0))) (kb : w.heap[b]? = some (.cells #[.slice D2 d2.length cd2, .slice R2 r2.length cr2] 31 (0, 0)))
    (l1 : d1.length ≤ cd1) (g1 : Kd.C kD w D1 d1.length d1) (l2 : r1.length ≤ cr1) (g2 : Kd.C kR w R1 r1.length r1) (l3 : d2.length ≤ cd2) (g3 : Kd.C kD w D2 d2.length d2) (l4 : r2.length ≤ cr2) (g4 : Kd.C kR w R2 r2.length r2) :
    Calls Try.prog 10 #[.pointer (some ⟨a, 0, none⟩), .pointer (some ⟨b, 0, none⟩), .bool false] w fun e w' => e = .returned (.bool true) ∧ Below w.heap.size w w' := by
  have e1 : d2.length = d1.length := by have := congrArg List.length hd; simpa using this.symm
  have e2 : r2.length = r1.length := by have := congrArg List.length hr; simpa using this.symm
  rw [e1] at kb l3 g3
  rw [e2] at kb l4 g4
  obtain ⟨n, hn⟩ : ∃ n, n = d1.length := ⟨_, rfl⟩
  obtain ⟨m, hm⟩ : ∃ m, m = r1.length := ⟨_, rfl⟩
  rw [← hn] at ka kb l1 g1 l3 g3 ld
  rw [← hm] at ka kb l2 g2 l4 g4 lr
  have HN := hid hn
  have HM := hid hm
  have HD := hid hd
  have HR := hid hr
  have HZ := hid hz
  have G1 := hid g1
  have G2 := hid g2
  have G3 := hid g3
  have G4 := hid g4
  have S : Hid (SmOk w a b _ _ w) := hid ⟨ka, kb, Below.refl _ _⟩
  clear hd hr hz g1 g2 g3 g4 ka kb e1 e2 hn hm
  obtain ⟨p0, p1, _, _⟩ := blk2 S.out.ka
  obtain ⟨q0, q1, _, _⟩ := blk2 S.out.kb
  go_enter Try.func10, Try.ntmps10
  go_wp2
  go_quiet (fail)
  go_wp2
  go_loopg [38] (n + 1) (fun gk v wr => ∃ i : Nat, v = .int .i64 (i : Int) ∧ Hid (i ≤ n) ∧ n - i < gk ∧ Hid (SmOk w a b (.cells #[.slice D1 n cd1, .slice R1 m cr1] 31 (0, 0)) (.cells #[.slice D2 n cd2, .slice R2 m cr2] 31 (0, 0)) wr))
  case atStart => exact ⟨0, rfl, hid (Nat.zero_le _), by omega, hid (S.out.step (pw_below_drewN (Below.refl _ _) _))⟩
  case round =>
    clear S p0 p1 q0 q1
    obtain ⟨i, rfl, HI, hgk, S⟩ := hrel
    obtain ⟨wo, rfl⟩ : ∃ x : World, x = wr := ⟨_, rfl⟩
    by_cases hi : i < n
    · have hlt : decide ((i : Int) < (n : Int)) = true := decide_eq_true (by omega)
      obtain ⟨p0, p1, _, _⟩ := blk2 S.out.ka
      obtain ⟨q0, q1, _, _⟩ := blk2 S.out.kb
      obtain ⟨ad1, rfl, x0, x1, x2⟩ := at_D (Kd.C_below G1.out S.out.be) i hi
      obtain ⟨ad2, rfl, y0, y1, y2⟩ := at_D (Kd.C_below G3.out S.out.be) i hi
      have hb := bareD_at HD.out i
      have hb0 : (d1.getD i zD).f0 = (d2.getD i zD).f0 := congrArg Prod.fst hb
      have hb1 : (d1.getD i zD).f1 = (d2.getD i zD).f1 := congrArg Prod.snd hb
      rw [hb0] at x0
      rw [hb1] at x1
      generalize (d2.getD i zD).f0 = v0 at x0 y0
      generalize (d2.getD i zD).f1 = v1 at x1 y1
      have i0 : (0 : Int) ≤ (i : Int) := by omega
      have i1 : (i : Int) < (n : Int) := by omega
      clear hb hb0 hb1
      have w1i := w64 i (by omega)
      go_wp2
      go_quiet (fail)
      go_wp2
      go_roundg (n - i)
      case measure => omega
      case rel => exact ⟨i + 1, by simp, hid (by show _ ≤ _; omega), by omega, hid (S.out.step (pw_below_drewN (Below.refl _ _) _))⟩
    · obtain rfl : i = n := by have := HI.out; omega
      obtain ⟨p0, p1, _, _⟩ := blk2 S.out.ka
      obtain ⟨q0, q1, _, _⟩ := blk2 S.out.kb
      go_wp2
      go_loopg [105] (m + 1) (fun gk v wr => ∃ j : Nat, v = .int .i64 (j : Int) ∧ Hid (j ≤ m) ∧ m - j < gk ∧ Hid (SmOk w a b (.cells #[.slice D1 i cd1, .slice R1 m cr1] 31 (0, 0)) (.cells #[.slice D2 i cd2, .slice R2 m cr2] 31 (0, 0)) wr))
      case atStart => exact ⟨0, rfl, hid (Nat.zero_le _), by omega, S⟩
      case round =>
        clear S p0 p1 q0 q1 HI hgk
        obtain ⟨j, rfl, HI, hgk, S⟩ := hrel
        obtain ⟨wo, rfl⟩ : ∃ x : World, x = wr := ⟨_, rfl⟩
        by_cases hj : j < m
        · have hlt : decide ((j : Int) < (m : Int)) = true := decide_eq_true (by omega)
          obtain ⟨p0, p1, _, _⟩ := blk2 S.out.ka
          obtain ⟨q0, q1, _, _⟩ := blk2 S.out.kb
          obtain ⟨ad1, A1, c1, A3, c3, rfl, x0, x1, x2, x3, x4, xl1, xg1, xl3, xg3⟩ := at_R (Kd.C_below G2.out S.out.be) j hj
          obtain ⟨ad2, B1, d1, B3, d3, rfl, y0, y1, y2, y3, y4, yl1, yg1, yl3, yg3⟩ := at_R (Kd.C_below G4.out S.out.be) j hj
          have hb := bare_at HR.out j
          have hb0 : (r1.getD j zR).f0 = (r2.getD j zR).f0 := congrArg Prod.fst hb
          have hb1 : (r1.getD j zR).f1 = (r2.getD j zR).f1 := congrArg (fun x => x.2.1) hb
          have hb2 : (r1.getD j zR).f2 = (r2.getD j zR).f2 := congrArg (fun x => x.2.2) hb
          have hm : r1.getD j zR ∈ r1 := by
            rw [List.getD_eq_getElem?_getD, List.getElem?_eq_getElem (by have := HM.out; omega)]
            exact List.getElem_mem _
          have hz := HZ.out _ hm
          unfold RZ at hz
          rw [hb0, hb2] at hz
          rw [hb0] at x0 x1 xl1 xg1
          rw [hb1] at x2
          rw [hb2] at x3 xl3 xg3
          generalize (r2.getD j zR).f0 = v0 at x0 x1 xl1 xg1 y0 y1 yl1 yg1 hz
          obtain ⟨s, ts⟩ := v0
          simp only at x0 x1 xl1 xg1 y0 y1 yl1 yg1 hz
          generalize (r2.getD j zR).f1 = v1 at x2 y2
          generalize (r2.getD j zR).f2 = v2 at x3 xl3 xg3 y3 yl3 yg3 hz
          generalize (r1.getD j zR).f3 = v3 at x4
          generalize (r2.getD j zR).f3 = v4 at y4
          have HS : Hid (∀ W, Below wo.heap.size wo W → Calls Try.prog 35 #[.agg #[.string s, .slice A1 ts.length c1, .int .i64 v1, .slice A3 v2.length c3, .int .i64 v3], .agg #[.string s, .slice B1 ts.length d1, .int .i64 v1, .slice B3 v2.length d3, .int .i64 v4]] W fun e w' => e = .returned (.bool true) ∧ Below W.heap.size W w') := fun W hW => SameRule_true s ts v1 v3 v4 v2 hz.1 hz.2.1 hz.2.2 xl1 (Kd.C_below xg1 hW) yl1 (Kd.C_below yg1 hW) xl3 (Kd.C_below xg3 hW) yl3 (Kd.C_below yg3 hW)
          generalize ts.length = k1 at x1 y1 HS
          generalize v2.length = k2 at x3 y3 HS
          have i0 : (0 : Int) ≤ (j : Int) := by omega
          have i1 : (j : Int) < (m : Int) := by omega
          clear hb hb0 hb1 hb2 hz hm xl1 xg1 xl3 xg3 yl1 yg1 yl3 yg3
          have w1i := w64 j (by omega)
          go_wp2_with fail
          refine sm12 _ _ _ _ _ _ _ _ _ _ _ _ _ _ _ _ _ _ _ _ _ _ _ _ _ _ _ _ _ _ _ _ _ _ _ _ _ _ _ _ _ _ _ _ _ _ _ _ _ _ _ _ _ _ _ _ _ _ _ _ _ _ _ _ _ _ _ _ _ _ _ _ _ _ _ _ _ _ _ _ _ _ _ _ _ _ _ _ _ _ _ _ _ _ _ _ _ _ _ _ _ _ _ _ _ _ _ _ _ _ _ _ _ _ _ _ _ _ _ _ _ _ _ _ _ _ _ _ _ _ _ _ _ _ _ _ _ _ _ _ _ _ _ _ (fun c a a' w hd h => by cases a; cases a'; simp only at hd; subst hd; exact h) p1 q1 x0 x1 x2 x3 x4 y0 y1 y2 y3 y4 i0 i1 (hid (HS.out _ (below_drew (Below.refl _ _)))) ?_
          intro v108 v109 v110 v111 v112 v113 v114 v115 v116 v117 v118 v119 v120 v121 v122 v123 v124 v125 v126 v127 v128 v129 v130 v131 v132 v133 v134 v135 v136 v137 v138 v139 v140 v141 v142 v143 v144 w3 hb3
          have S3 : Hid (SmOk w a b _ _ w3) := hid (S.out.step (below_step (below_drew (Below.refl _ _)) hb3))
          clear hb3 x0 x1 x2 x3 x4 y0 y1 y2 y3 y4 p0 p1 q0 q1 HS
          go_wp2_with fail
          go_roundg (m - j)
          case measure => omega
          case rel => exact ⟨j + 1, by simp, hid (by show _ ≤ _; omega), by omega, S3⟩
        · obtain rfl : j = m := by have := HI.out; omega
          go_wp2
          go_ret
          exact ⟨rfl, S.out.be⟩
end Go.Proofs.YtjlnpdpkobpkiaaPSP
