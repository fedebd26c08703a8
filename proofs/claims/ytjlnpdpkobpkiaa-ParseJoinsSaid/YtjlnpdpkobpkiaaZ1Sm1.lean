import Derived.Test.YtjlnpdpkobpkiaaZ1Prv
import Derived.Test.YtjlnpdpkobpkiaaZ1PSPx5
import Derived.Test.YtjlnpdpkobpkiaaZ1Pr15
set_option linter.unusedVariables false
set_option linter.unusedSimpArgs false
namespace Go.Proofs.YtjlnpdpkobpkiaaPSP
open Go.RowKit Go.Extern.Stop Go.Stop Go.Extern Go.Proofs.YtjlnpdpkobpkiaaW.PrintWords Go.Proofs.Ytjlnpdpkobpkiaa
def PZ (p : Pt) : Prop := p.f1.f1.length ≤ 6 ∧ ∃ n, XS n p.f6
def RZ (r : Rl) : Prop := r.f0.f1.length ≤ 6 ∧ r.f2.length ≤ 12 ∧ ∀ p ∈ r.f2, PZ p
theorem zX_x : ∃ n, XS n zX := ⟨1, .leaf _ _ _ (Nat.le_refl _)⟩
theorem part_z {l : List Tk} {v : Pt} {l' : List Tk} (hf : partP l = .ok (v, l')) : PZ v := by
  unfold partP at hf
  split at hf
  · obtain ⟨a, l1, hr, hf⟩ := bnd_ok hf
    obtain ⟨rfl, rfl⟩ := ok_inj hf
    exact ⟨atom_len hr, zX_x⟩
  · split at hf
    · obtain ⟨a, l1, hr, hf⟩ := bnd_ok hf
      obtain ⟨rfl, rfl⟩ := ok_inj hf
      exact ⟨atom_len hr, zX_x⟩
    · split at hf
      · obtain ⟨x, l1, hr, hf⟩ := bnd_ok hf
        obtain ⟨rfl, rfl⟩ := ok_inj hf
        have := sum_x (unit_x 20) _ _ _ hr
        exact ⟨by simp [zA, mkA], _, this.2⟩
      · obtain ⟨x, l1, hr, hf⟩ := bnd_ok hf
        obtain ⟨o, l2, hq, hf⟩ := bnd_ok hf
        obtain ⟨y, l3, hp, hf⟩ := bnd_ok hf
        obtain ⟨rfl, rfl⟩ := ok_inj hf
        exact ⟨by simp [zA, mkA], zX_x⟩
theorem parts_z : ∀ (n : Nat) (acc : List Pt) (l : List Tk) (v : List Pt) (l' : List Tk), (∀ p ∈ acc, PZ p) → partsL n acc l = .ok (v, l') → ∀ p ∈ v, PZ p := by
  intro n
  induction n with
  | zero => intro acc l v l' ha hf; cases hf
  | succ n ih =>
    intro acc l v l' ha hf
    rw [partsL] at hf
    obtain ⟨w, l1, hr, hf⟩ := bnd_ok hf
    have hw : ∀ p ∈ acc ++ [w], PZ p := fun p hp => by
      rcases List.mem_append.1 hp with h | h
      · exact ha p h
      · rw [List.mem_singleton] at h
        subst h
        exact part_z hr
    split at hf
    · exact ih _ _ _ _ hw hf
    · obtain ⟨rfl, rfl⟩ := ok_inj hf
      exact hw
theorem rule_z {l : List Tk} {v : Rl} {l' : List Tk} (hf : ruleP nv l = .ok (v, l')) : RZ v := by
  unfold ruleP at hf
  cases hr : ruleC l with
  | error e => rw [hr] at hf; cases hf
  | ok y =>
    obtain ⟨⟨h, g, b⟩, l1⟩ := y
    rw [hr] at hf
    simp only at hf
    split at hf
    · cases hf
    · obtain ⟨rfl, rfl⟩ := ok_inj hf
      have k := ruleC_x hr
      refine ⟨k.1, k.2.1, ?_⟩
      unfold ruleC at hr
      obtain ⟨v, l1, hr, hf⟩ := bnd_ok hr
      obtain ⟨w, l2, hq, hf⟩ := bnd_ok hf
      obtain ⟨u, l3, hp, hf⟩ := bnd_ok hf
      obtain ⟨e, rfl⟩ := ok_inj hf
      injection e with e1 e2
      injection e2 with e2 e3
      subst e1 e3
      unfold bodyP at hq
      split at hq
      · exact parts_z _ _ _ _ _ (fun p hp => by cases hp) hq
      · obtain ⟨rfl, rfl⟩ := ok_inj hq
        exact fun p hp => by cases hp
theorem progL_z : ∀ (n : Nat) (l : List Tk) (ds : List Dl) (rs : List Rl), progL nv n l = .ok (ds, rs) → ds.length + rs.length ≤ n ∧ ∀ r ∈ rs, RZ r := by
  intro n
  induction n with
  | zero =>
    intro l ds rs hf
    rw [progL] at hf
    split at hf
    · cases hf; exact ⟨Nat.le_refl _, fun r hr => by cases hr⟩
    · cases hf
  | succ n ih =>
    intro l ds rs hf
    rw [progL] at hf
    split at hf
    · cases hf; exact ⟨Nat.zero_le _, fun r hr => by cases hr⟩
    · try simp only at hf
      split at hf
      · cases hd : declP l with
        | error e => rw [hd] at hf; cases hf
        | ok y =>
          obtain ⟨d, l1⟩ := y
          rw [hd] at hf
          simp only at hf
          cases hp : progL nv n l1 with
          | error e => rw [hp] at hf; cases hf
          | ok z =>
            obtain ⟨ds', rs'⟩ := z
            rw [hp] at hf
            cases hf
            have := ih _ _ _ hp
            exact ⟨by have := this.1; simp only [List.length_cons]; omega, this.2⟩
      · cases hd : ruleP nv l with
        | error e => rw [hd] at hf; cases hf
        | ok y =>
          obtain ⟨d, l1⟩ := y
          rw [hd] at hf
          simp only at hf
          cases hp : progL nv n l1 with
          | error e => rw [hp] at hf; cases hf
          | ok z =>
            obtain ⟨ds', rs'⟩ := z
            rw [hp] at hf
            cases hf
            have := ih _ _ _ hp
            refine ⟨by have := this.1; simp only [List.length_cons]; omega, fun r hr => ?_⟩
            rcases List.mem_cons.1 hr with rfl | hr
            · exact rule_z hd
            · exact this.2 r hr
theorem prog_z {s : List UInt8} {ds : List Dl} {rs : List Rl} (h : progP nv s = .ok (ds, rs)) : ds.length + rs.length ≤ 200 ∧ ∀ r ∈ rs, RZ r := by
  unfold progP at h
  split at h
  · cases h
  · cases hl : lexAll s with
    | error e => rw [hl] at h; obtain ⟨t, p⟩ := e; cases h
    | ok ts => rw [hl] at h; exact progL_z _ _ _ _ h
theorem sameTerms_l (l : List Tm) (hl : l.length ≤ 1000) : ∀ (d i k : Nat), i + d = l.length → d < k → ergolaw14_sameTerms.l0 k l l (l.length : Int) (i : Int) = some true := by
  intro d
  induction d with
  | zero =>
    intro i k h hk
    obtain ⟨k, rfl⟩ : ∃ m, k = m + 1 := ⟨k - 1, by omega⟩
    rw [ergolaw14_sameTerms.l0, if_neg (by omega)]
  | succ d ih =>
    intro i k h hk
    obtain ⟨k, rfl⟩ : ∃ m, k = m + 1 := ⟨k - 1, by omega⟩
    rw [ergolaw14_sameTerms.l0, if_pos (by omega), if_pos (by omega), if_pos (by omega), if_pos (by omega), if_neg (by simp), w64 i (by omega)]
    exact ih (i + 1) k (by omega) (by omega)
theorem sameTerms_is (l : List Tm) (hl : l.length ≤ 1000) : ergolaw14_sameTerms.f 1001 l l = some true := by
  unfold ergolaw14_sameTerms.f
  rw [if_pos rfl]
  exact sameTerms_l l hl l.length 0 1001 (by omega) (by omega)
theorem sameAtom_is (a : ByteArray) (l : List Tm) (hl : l.length ≤ 1000) : ergolaw14_SameAtom.f 1001 a l a l = some true := by
  unfold ergolaw14_SameAtom.f
  rw [if_pos rfl, sameTerms_is l hl]
  rfl
theorem sameExpr_is {n : Nat} {x : Xp} (h : XS n x) : ∀ k, 3 * n + 3 ≤ k → ergolaw14_sameExpr.f k x.f0.f0 x.f0.f1 x.f0.f2 x.f1 x.f2 x.f0.f0 x.f0.f1 x.f0.f2 x.f1 x.f2 = some true := by
  induction h with
  | leaf n t o h =>
    intro k hk
    obtain ⟨k, rfl⟩ : ∃ m, k = m + 3 := ⟨k - 3, by omega⟩
    rw [ergolaw14_sameExpr.f, if_neg (by simp), if_pos rfl, ergolaw14_sameExpr.j0, if_neg (by simp), ergolaw14_sameExpr.l0, if_neg (by simp)]
  | node n a b t o x y hx hy h ihx ihy =>
    intro k hk
    have ha : 1 ≤ a := by cases hx <;> omega
    have hb : 1 ≤ b := by cases hy <;> omega
    obtain ⟨k, rfl⟩ : ∃ m, k = m + 5 := ⟨k - 5, by omega⟩
    rw [ergolaw14_sameExpr.f, if_neg (by simp), if_pos rfl, ergolaw14_sameExpr.j0, if_neg (by simp), ergolaw14_sameExpr.l0, if_pos (by simp), if_pos (by omega), if_pos (by simp), if_pos (by simp)]
    simp only [rdX0]
    rw [ihx (k + 2) (by omega)]
    simp only [Option.bind_some]
    rw [if_pos trivial, show wrap64 (0 + 1) = 1 from w64 0 (by omega), ergolaw14_sameExpr.l0, if_pos (by simp), if_pos (by omega), if_pos (by simp), if_pos (by simp)]
    simp only [rdX1]
    rw [ihy (k + 1) (by omega)]
    simp only [Option.bind_some]
    rw [if_pos trivial, show wrap64 (1 + 1) = 2 from w64 1 (by omega), ergolaw14_sameExpr.l0, if_neg (by simp)]
end Go.Proofs.YtjlnpdpkobpkiaaPSP
set_option linter.unusedVariables false
set_option linter.unusedSimpArgs false
namespace Go.Proofs.YtjlnpdpkobpkiaaPSP
open Go.RowKit Go.Extern.Stop Go.Stop Go.Extern Go.Proofs.YtjlnpdpkobpkiaaW.PrintWords Go.Proofs.Ytjlnpdpkobpkiaa
attribute [local go_sem high] eqA61
structure SrOk (w : World) (a b : Obj) (wr : World) : Prop where
  ka : wr.heap[w.heap.size]? = some a
  kb : wr.heap[w.heap.size + 1]? = some b
  be : Below w.heap.size w wr
theorem SrOk.step {w wr w' : World} {a b : Obj} (h : SrOk w a b wr) (hb : Below wr.heap.size wr w') : SrOk w a b w' :=
  ⟨blk_below h.ka hb, blk_below h.kb hb, below_step h.be hb⟩
set_option maxRecDepth 100000 in
set_option maxHeartbeats 4000000 in
theorem SameRule_true (s : ByteArray) (ts : List Tm) (g p q : Int) (ps : List Pt) (ht : ts.length ≤ 6) (hp : ps.length ≤ 12) (hz : ∀ p ∈ ps, PZ p) {w : World} {A1 A3 B1 B3 : Option Addr} {c1 c3 d1 d3 : Nat}
    (la : ts.length ≤ c1) (ga : Kd.C k61 w A1 ts.length ts) (lb : ts.length ≤ d1) (gb : Kd.C k61 w B1 ts.length ts) (lc : ps.length ≤ c3) (gc : Kd.C k67 w A3 ps.length ps) (ld : ps.length ≤ d3) (gd : Kd.C k67 w B3 ps.length ps) :
    Calls Try.prog 35 #[.agg #[.string s, .slice A1 ts.length c1, .int .i64 g, .slice A3 ps.length c3, .int .i64 p], .agg #[.string s, .slice B1 ts.length d1, .int .i64 g, .slice B3 ps.length d3, .int .i64 q]] w fun e w' => e = .returned (.bool true) ∧ Below w.heap.size w w' := by
  have hu1 := Try.underlying61
  have HA := hid ga
  have HB := hid gb
  have HC := hid gc
  have HD := hid gd
  have HT := hid (sameAtom_is s ts (by omega))
  have HZ := hid hz
  obtain ⟨n, hn⟩ : ∃ n, n = ps.length := ⟨_, rfl⟩
  rw [← hn] at hp lc ld ⊢
  have HN := hid hn
  clear ga gb gc gd hn hz
  go_enter Try.func35, Try.ntmps35
  go_wp2_with fail
  refine (ergolaw14_SameAtom.calls 1001 s A1 c1 ts s B1 d1 ts true _ (Kd.C_alloc (Kd.C_alloc HA.out _) _) la (Kd.C_alloc (Kd.C_alloc HB.out _) _) lb HT.out).mono ?_
  rintro e w1 ⟨rfl, hb⟩
  have S : Hid (SrOk w (.cells #[.string s, .slice A1 ts.length c1, .int .i64 g, .slice A3 n c3, .int .i64 p] 38) (.cells #[.string s, .slice B1 ts.length d1, .int .i64 g, .slice B3 n d3, .int .i64 q] 38) w1) := hid (SrOk.step ⟨(Lib.alloc_old _ _ _ (by simp)).trans (heap_alloc_new w _), by have := heap_alloc_new (w.alloc (.cells #[.string s, .slice A1 ts.length c1, .int .i64 g, .slice A3 n c3, .int .i64 p] 38)) (.cells #[.string s, .slice B1 ts.length d1, .int .i64 g, .slice B3 n d3, .int .i64 q] 38); simpa using this, below_alloc (below_alloc (Below.refl _ _) _) _⟩ hb)
  clear hb HT
  obtain ⟨⟨r0, r1, r2, r3, r4⟩, _⟩ := blk5 S.out.ka
  obtain ⟨⟨o0, o1, o2, o3, o4⟩, _⟩ := blk5 S.out.kb
  go_wp2_with fail
  go_loopg [33] 13 (fun gk v wr => ∃ i : Nat, v = .int .i64 (i : Int) ∧ Hid (i ≤ n) ∧ n - i < gk ∧ Hid (SrOk w (.cells #[.string s, .slice A1 ts.length c1, .int .i64 g, .slice A3 n c3, .int .i64 p] 38) (.cells #[.string s, .slice B1 ts.length d1, .int .i64 g, .slice B3 n d3, .int .i64 q] 38) wr))
  case atStart => exact ⟨0, rfl, hid (Nat.zero_le _), by omega, S⟩
  case round =>
    clear S r0 r1 r2 r3 r4 o0 o1 o2 o3 o4
    obtain ⟨i, rfl, HI, hgk, S⟩ := hrel
    obtain ⟨wo, rfl⟩ : ∃ x : World, x = wr := ⟨_, rfl⟩
    by_cases hi : i < n
    · have hlt : decide ((i : Int) < (n : Int)) = true := decide_eq_true (by omega)
      obtain ⟨⟨r0, r1, r2, r3, r4⟩, _⟩ := blk5 S.out.ka
      obtain ⟨P, hP⟩ : ∃ P, P = rd_T67 ps (i : Int) := ⟨_, rfl⟩
      have hmem : P ∈ ps := by rw [hP, rdPt ps i (by have := HN.out; omega)]; exact List.getElem_mem _
      obtain ⟨ad1, A2, c2, A15, c15, rfl, hx0, hx1, hx2, hx3, hx4, hx5, hx6, hx7, hx8, hx9, hx10, hx11, hx12, hx13, hx14, hx15, l2, g2, l15, g15⟩ := at_T67 (Kd.C_below HC.out S.out.be) (i : Int) (by omega) (by have := HN.out; omega)
      rw [← hP] at hx0 hx1 hx2 hx3 hx4 hx5 hx6 hx7 hx8 hx9 hx10 hx11 hx12 hx13 hx14 hx15 l2 g2 l15 g15
      simp only [Int.toNat_natCast] at hx0 hx1 hx2 hx3 hx4 hx5 hx6 hx7 hx8 hx9 hx10 hx11 hx12 hx13 hx14 hx15
      obtain ⟨ad2, B2, d2, B15, d15, rfl, hy0, hy1, hy2, hy3, hy4, hy5, hy6, hy7, hy8, hy9, hy10, hy11, hy12, hy13, hy14, hy15, m2, f2, m15, f15⟩ := at_T67 (Kd.C_alloc (Kd.C_below HD.out S.out.be) (.cells #[.int .i64 P.f0, .string P.f1.f0, .slice A2 P.f1.f1.length c2, .int .i64 P.f2, .int .i64 P.f3.f0, .string P.f3.f1, .int .i64 P.f3.f2, .int .i64 P.f4.f0, .string P.f4.f1, .int .i64 P.f4.f2, .string P.f5, .int .i64 P.f6.f0.f0, .string P.f6.f0.f1, .int .i64 P.f6.f0.f2, .int .i64 P.f6.f1, .slice A15 P.f6.f2.length c15] 67)) (i : Int) (by omega) (by have := HN.out; omega)
      rw [← hP] at hy0 hy1 hy2 hy3 hy4 hy5 hy6 hy7 hy8 hy9 hy10 hy11 hy12 hy13 hy14 hy15 m2 f2 m15 f15
      simp only [Int.toNat_natCast] at hy0 hy1 hy2 hy3 hy4 hy5 hy6 hy7 hy8 hy9 hy10 hy11 hy12 hy13 hy14 hy15
      have RO2 := (Lib.alloc_old wo (.cells #[.int .i64 P.f0, .string P.f1.f0, .slice A2 P.f1.f1.length c2, .int .i64 P.f2, .int .i64 P.f3.f0, .string P.f3.f1, .int .i64 P.f3.f2, .int .i64 P.f4.f0, .string P.f4.f1, .int .i64 P.f4.f2, .string P.f5, .int .i64 P.f6.f0.f0, .string P.f6.f0.f1, .int .i64 P.f6.f0.f2, .int .i64 P.f6.f1, .slice A15 P.f6.f2.length c15] 67) _ (Go.Proofs.Ytjlnpdpkobpkiaa.blk_lt S.out.kb)).trans S.out.kb
      obtain ⟨⟨o0, o1, o2, o3, o4⟩, _⟩ := blk5 RO2
      have p0 : (0 : Int) ≤ (i : Int) := by omega
      have p1 : (i : Int) < (n : Int) := by omega
      have HM := hid (HZ.out P hmem)
      have HE1 := hid (And.intro l2 (And.intro g2 (And.intro l15 g15)))
      have HE2 := hid (And.intro m2 (And.intro f2 (And.intro m15 f15)))
      have HP := hid hP
      clear l2 g2 l15 g15 m2 f2 m15 f15 hP hmem RO2
      go_wp2_with fail
      refine (ergolaw14_SameAtom.calls 1001 P.f1.f0 A2 c2 P.f1.f1 P.f1.f0 B2 d2 P.f1.f1 true _ (Kd.C_alloc (Kd.C_alloc HE1.out.2.1 _) _) HE1.out.1 (Kd.C_alloc HE2.out.2.1 _) HE2.out.1 (sameAtom_is _ _ (by have := HM.out.1; omega))).mono ?_
      rintro e w2 ⟨rfl, hb⟩
      have K1 : w2.heap[wo.heap.size]? = some (.cells #[.int .i64 P.f0, .string P.f1.f0, .slice A2 P.f1.f1.length c2, .int .i64 P.f2, .int .i64 P.f3.f0, .string P.f3.f1, .int .i64 P.f3.f2, .int .i64 P.f4.f0, .string P.f4.f1, .int .i64 P.f4.f2, .string P.f5, .int .i64 P.f6.f0.f0, .string P.f6.f0.f1, .int .i64 P.f6.f0.f2, .int .i64 P.f6.f1, .slice A15 P.f6.f2.length c15] 67) := blk_below ((Lib.alloc_old _ _ _ (by simp)).trans (heap_alloc_new wo (.cells #[.int .i64 P.f0, .string P.f1.f0, .slice A2 P.f1.f1.length c2, .int .i64 P.f2, .int .i64 P.f3.f0, .string P.f3.f1, .int .i64 P.f3.f2, .int .i64 P.f4.f0, .string P.f4.f1, .int .i64 P.f4.f2, .string P.f5, .int .i64 P.f6.f0.f0, .string P.f6.f0.f1, .int .i64 P.f6.f0.f2, .int .i64 P.f6.f1, .slice A15 P.f6.f2.length c15] 67))) hb
      have K2 : w2.heap[wo.heap.size + 1]? = some (.cells #[.int .i64 P.f0, .string P.f1.f0, .slice B2 P.f1.f1.length d2, .int .i64 P.f2, .int .i64 P.f3.f0, .string P.f3.f1, .int .i64 P.f3.f2, .int .i64 P.f4.f0, .string P.f4.f1, .int .i64 P.f4.f2, .string P.f5, .int .i64 P.f6.f0.f0, .string P.f6.f0.f1, .int .i64 P.f6.f0.f2, .int .i64 P.f6.f1, .slice B15 P.f6.f2.length d15] 67) := blk_below (by have := heap_alloc_new (wo.alloc (.cells #[.int .i64 P.f0, .string P.f1.f0, .slice A2 P.f1.f1.length c2, .int .i64 P.f2, .int .i64 P.f3.f0, .string P.f3.f1, .int .i64 P.f3.f2, .int .i64 P.f4.f0, .string P.f4.f1, .int .i64 P.f4.f2, .string P.f5, .int .i64 P.f6.f0.f0, .string P.f6.f0.f1, .int .i64 P.f6.f0.f2, .int .i64 P.f6.f1, .slice A15 P.f6.f2.length c15] 67)) (.cells #[.int .i64 P.f0, .string P.f1.f0, .slice B2 P.f1.f1.length d2, .int .i64 P.f2, .int .i64 P.f3.f0, .string P.f3.f1, .int .i64 P.f3.f2, .int .i64 P.f4.f0, .string P.f4.f1, .int .i64 P.f4.f2, .string P.f5, .int .i64 P.f6.f0.f0, .string P.f6.f0.f1, .int .i64 P.f6.f0.f2, .int .i64 P.f6.f1, .slice B15 P.f6.f2.length d15] 67); simpa using this) hb
      have X1 := Kd.C_below (Kd.C_alloc (Kd.C_alloc HE1.out.2.2.2 (.cells #[.int .i64 P.f0, .string P.f1.f0, .slice A2 P.f1.f1.length c2, .int .i64 P.f2, .int .i64 P.f3.f0, .string P.f3.f1, .int .i64 P.f3.f2, .int .i64 P.f4.f0, .string P.f4.f1, .int .i64 P.f4.f2, .string P.f5, .int .i64 P.f6.f0.f0, .string P.f6.f0.f1, .int .i64 P.f6.f0.f2, .int .i64 P.f6.f1, .slice A15 P.f6.f2.length c15] 67)) (.cells #[.int .i64 P.f0, .string P.f1.f0, .slice B2 P.f1.f1.length d2, .int .i64 P.f2, .int .i64 P.f3.f0, .string P.f3.f1, .int .i64 P.f3.f2, .int .i64 P.f4.f0, .string P.f4.f1, .int .i64 P.f4.f2, .string P.f5, .int .i64 P.f6.f0.f0, .string P.f6.f0.f1, .int .i64 P.f6.f0.f2, .int .i64 P.f6.f1, .slice B15 P.f6.f2.length d15] 67)) hb
      have X2 := Kd.C_below (Kd.C_alloc HE2.out.2.2.2 (.cells #[.int .i64 P.f0, .string P.f1.f0, .slice B2 P.f1.f1.length d2, .int .i64 P.f2, .int .i64 P.f3.f0, .string P.f3.f1, .int .i64 P.f3.f2, .int .i64 P.f4.f0, .string P.f4.f1, .int .i64 P.f4.f2, .string P.f5, .int .i64 P.f6.f0.f0, .string P.f6.f0.f1, .int .i64 P.f6.f0.f2, .int .i64 P.f6.f1, .slice B15 P.f6.f2.length d15] 67)) hb
      have S2 : Hid (SrOk w _ _ w2) := hid (S.out.step (below_step (below_alloc (below_alloc (Below.refl _ _) _) _) hb))
      clear hb r0 r1 r2 r3 r4 o0 o1 o2 o3 o4 hx0 hx1 hx2 hx3 hx4 hx5 hx6 hx7 hx8 hx9 hx10 hx11 hx12 hx13 hx14 hx15 hy0 hy1 hy2 hy3 hy4 hy5 hy6 hy7 hy8 hy9 hy10 hy11 hy12 hy13 hy14 hy15
      have HK1 := hid K1
      have HX1 := hid X1
      have HX2 := hid X2
      obtain ⟨⟨s0, s1, s2, s3, s4, s5, s6, s7, s8, s9, s10, s11, s12, s13, s14, s15⟩, _⟩ := blk16 K1
      obtain ⟨⟨v0, v1, v2, v3, v4, v5, v6, v7, v8, v9, v10, v11, v12, v13, v14, v15⟩, _⟩ := blk16 K2
      clear X1 X2 K1 K2
      go_wp2_with fail
      obtain ⟨nx, hnx⟩ := HM.out.2
      refine (ergolaw14_sameExpr.calls (3 * nx + 3) P.f6.f0.f0 P.f6.f0.f1 P.f6.f0.f2 P.f6.f1 A15 c15 P.f6.f2 P.f6.f0.f0 P.f6.f0.f1 P.f6.f0.f2 P.f6.f1 B15 d15 P.f6.f2 true _ HX1.out HE1.out.2.2.1 HX2.out HE2.out.2.2.1 (sameExpr_is hnx _ (Nat.le_refl _))).mono ?_
      rintro e w3 ⟨rfl, hb⟩
      have S3 : Hid (SrOk w _ _ w3) := hid (S2.out.step hb)
      clear hb s0 s1 s2 s3 s4 s5 s6 s7 s8 s9 s10 s11 s12 s13 s14 s15 v0 v1 v2 v3 v4 v5 v6 v7 v8 v9 v10 v11 v12 v13 v14 v15
      have w1i := w64 i (by omega)
      go_wp2_with fail
      go_roundg (n - i)
      case measure => omega
      case rel => exact ⟨i + 1, by simp, hid (by show _ ≤ _; omega), by omega, S3⟩
    · obtain rfl : i = n := by have := HI.out; omega
      go_wp2_with fail
      go_ret
      exact ⟨rfl, S.out.be⟩
end Go.Proofs.YtjlnpdpkobpkiaaPSP
