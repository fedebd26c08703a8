import Derived.Test.YtjlnpdpkobpkiaaZ1Jn12
set_option linter.unusedVariables false
set_option linter.unusedSimpArgs false
namespace Go.Proofs.YtjlnpdpkobpkiaaPSP
open Go.RowKit Go.Extern.Stop Go.Stop Go.Extern Go.Proofs.YtjlnpdpkobpkiaaW.PrintWords Go.Proofs.Ytjlnpdpkobpkiaa
def JoinsPost (w : World) (e : Ending) (w' : World) : Prop := e = .returned (.bool true) ∧ Below w.heap.size w w'
set_option maxRecDepth 100000 in
theorem joins_long {w : World} {a b : ByteArray} (h : 1000 < a.size ∨ 1000 < b.size) : Calls Try.prog 3 #[.string a, .string b] w (JoinsPost w) := by
  have HH := hid (head14_any w)
  rcases Nat.lt_or_ge 1000 a.size with h1 | h1
  · have q1 : decide ((1000 : Int) < (a.size : Int)) = true := decide_eq_true (by omega)
    clear h h1
    go_enter Try.func3, Try.ntmps3
    go_wp2_with fail
    refine HH.out.mono ?_
    rintro e w1 ⟨rfl, hb1⟩
    have HB := hid hb1
    clear hb1
    go_wp2_with fail
    go_ret
    exact ⟨rfl, HB.out⟩
  · have q1 : decide ((1000 : Int) < (a.size : Int)) = false := decide_eq_false (by omega)
    have q2 : decide ((1000 : Int) < (b.size : Int)) = true := decide_eq_true (by omega)
    clear h h1
    go_enter Try.func3, Try.ntmps3
    go_wp2_with fail
    refine HH.out.mono ?_
    rintro e w1 ⟨rfl, hb1⟩
    have HB := hid hb1
    clear hb1
    go_wp2_with fail
    go_ret
    exact ⟨rfl, HB.out⟩
set_option maxRecDepth 100000 in
set_option maxHeartbeats 2000000 in
theorem joins_bad1 {w : World} {a b : ByteArray} (ha : a.size ≤ 1000) (hb : b.size ≤ 1000) {v1 : Nat × Nat} (h1 : progP nv a.data.toList = .error v1) : Calls Try.prog 3 #[.string a, .string b] w (JoinsPost w) := by
  have HH := hid (head14_any w)
  have q1 : decide ((1000 : Int) < (a.size : Int)) = false := decide_eq_false (by omega)
  have q2 : decide ((1000 : Int) < (b.size : Int)) = false := decide_eq_false (by omega)
  have HP1 := hid (fun W => Program_any a (by omega) W)
  have HP2 := hid (fun W => Program_any b (by omega) W)
  have H1 := hid h1
  clear ha hb h1
  obtain ⟨t1, p1⟩ := v1
  go_enter Try.func3, Try.ntmps3
  go_wp2_with fail
  refine HH.out.mono ?_
  rintro e w1 ⟨rfl, hb1⟩
  have HB := hid hb1
  clear hb1
  go_wp2_with fail
  refine (HP1.out w1).mono ?_
  intro e w2 hp
  rw [H1.out] at hp
  obtain ⟨f, what, rfl, hF, hb2⟩ := hp
  have HB2 := hid (below_step HB.out hb2)
  clear hF hb2 HP1 H1
  go_wp2_with fail
  refine (HP2.out w2).mono ?_
  intro e w3 hp
  cases hr : progP nv b.data.toList with
  | error v2 =>
    obtain ⟨t2, p2⟩ := v2
    rw [hr] at hp
    obtain ⟨g, what2, rfl, hF, hb3⟩ := hp
    have HB3 := hid (below_step HB2.out hb3)
    clear hF hb3 hr
    go_wp2
    go_quiet (fail)
    go_wp2
    go_ret
    exact ⟨rfl, pw_below_drewN HB3.out _⟩
  | ok v2 =>
    obtain ⟨d2, r2⟩ := v2
    rw [hr] at hp
    obtain ⟨bo, D, R, cD, cR, rfl, hbo, hk, lD, fD, lR, fR, hb3⟩ := hp
    have HB3 := hid (below_step HB2.out hb3)
    clear hbo hk lD fD lR fR hb3 hr
    go_wp2
    go_quiet (fail)
    go_wp2
    go_ret
    exact ⟨rfl, pw_below_drewN HB3.out _⟩
end Go.Proofs.YtjlnpdpkobpkiaaPSP
set_option linter.unusedVariables false
set_option linter.unusedSimpArgs false
namespace Go.Proofs.YtjlnpdpkobpkiaaPSP
open Go.RowKit Go.Extern.Stop Go.Stop Go.Extern Go.Proofs.YtjlnpdpkobpkiaaW.PrintWords Go.Proofs.Ytjlnpdpkobpkiaa
theorem pk_le {l : List Tk} {M : Nat} (h : ∀ t ∈ l, t.start ≤ M) (k : Nat) : (pk l k).start ≤ M := by
  unfold pk
  rw [List.getD_eq_getElem?_getD]
  cases hk : l[min k (l.length - 1)]? with
  | none => exact Nat.zero_le _
  | some t => exact h t (List.mem_of_getElem? hk)
theorem progL_at (M : Nat) : ∀ (n : Nat) (l : List Tk) (ds : List Dl) (rs : List Rl), (∀ t ∈ l, t.start ≤ M) → progL nv n l = .ok (ds, rs) → ∀ r ∈ rs, 0 ≤ r.f3 ∧ r.f3 ≤ (M : Int) := by
  intro n
  induction n with
  | zero =>
    intro l ds rs hl hf
    rw [progL] at hf
    split at hf
    · cases hf; exact fun r hr => by cases hr
    · cases hf
  | succ n ih =>
    intro l ds rs hl hf
    rw [progL] at hf
    split at hf
    · cases hf; exact fun r hr => by cases hr
    · try simp only at hf
      split at hf
      · cases hd : declP l with
        | error e => rw [hd] at hf; cases hf
        | ok y =>
          obtain ⟨d, l1⟩ := y
          rw [hd] at hf
          simp only at hf
          cases hp : progL nv n l1 with
          | error e => rw [hp] at hf; cases hf
          | ok z =>
            obtain ⟨ds', rs'⟩ := z
            rw [hp] at hf
            cases hf
            obtain ⟨k, rfl⟩ := decl_sf _ _ _ hd
            exact ih _ _ _ (fun t ht => hl t (List.mem_of_mem_drop ht)) hp
      · cases hd : ruleP nv l with
        | error e => rw [hd] at hf; cases hf
        | ok y =>
          obtain ⟨d, l1⟩ := y
          rw [hd] at hf
          simp only at hf
          cases hp : progL nv n l1 with
          | error e => rw [hp] at hf; cases hf
          | ok z =>
            obtain ⟨ds', rs'⟩ := z
            rw [hp] at hf
            cases hf
            obtain ⟨k, rfl⟩ := rule_sf nv _ _ _ hd
            intro r hr
            rcases List.mem_cons.1 hr with rfl | hr
            · unfold ruleP at hd
              cases hc : ruleC l with
              | error e => rw [hc] at hd; cases hd
              | ok y =>
                obtain ⟨⟨h, g, b⟩, l2⟩ := y
                rw [hc] at hd
                simp only at hd
                split at hd
                · cases hd
                · obtain ⟨rfl, _⟩ := ok_inj hd
                  have := pk_le hl 0
                  exact ⟨by simp only; omega, by simp only; omega⟩
            · exact ih _ _ _ (fun t ht => hl t (List.mem_of_mem_drop ht)) hp r hr
theorem prog_at {s : List UInt8} {ds : List Dl} {rs : List Rl} (h : progP nv s = .ok (ds, rs)) : ∀ r ∈ rs, 0 ≤ r.f3 ∧ r.f3 ≤ 20000 := by
  unfold progP at h
  split at h
  · cases h
  · rename_i hs
    cases hl : lexAll s with
    | error e => rw [hl] at h; obtain ⟨t, p⟩ := e; cases h
    | ok ts =>
      rw [hl] at h
      refine progL_at 20000 _ _ _ _ (fun t ht => ?_) h
      obtain ⟨t', _, rfl⟩ := List.mem_map.1 ht
      simp only
      omega
set_option maxRecDepth 100000 in
set_option maxHeartbeats 2000000 in
theorem joins_bad2 {w : World} {a b : ByteArray} (ha : a.size ≤ 1000) (hb : b.size ≤ 1000) {v1 : List Dl × List Rl} {v2 : Nat × Nat} (h1 : progP nv a.data.toList = .ok v1) (h2 : progP nv b.data.toList = .error v2) : Calls Try.prog 3 #[.string a, .string b] w (JoinsPost w) := by
  have HH := hid (head14_any w)
  have q1 : decide ((1000 : Int) < (a.size : Int)) = false := decide_eq_false (by omega)
  have q2 : decide ((1000 : Int) < (b.size : Int)) = false := decide_eq_false (by omega)
  have HP1 := hid (fun W => Program_any a (by omega) W)
  have HP2 := hid (fun W => Program_any b (by omega) W)
  have H1 := hid h1
  have H2 := hid h2
  clear ha hb h1 h2
  obtain ⟨d1, r1⟩ := v1
  obtain ⟨t2, p2⟩ := v2
  go_enter Try.func3, Try.ntmps3
  go_wp2_with fail
  refine HH.out.mono ?_
  rintro e w1 ⟨rfl, hb1⟩
  have HB := hid hb1
  clear hb1
  go_wp2_with fail
  refine (HP1.out w1).mono ?_
  intro e w2 hp
  rw [H1.out] at hp
  obtain ⟨bo, D, R, cD, cR, rfl, hbo, hk, lD, fD, lR, fR, hb2⟩ := hp
  have HB2 := hid (below_step HB.out hb2)
  clear hbo hk lD fD lR fR hb2 HP1 H1
  go_wp2_with fail
  refine (HP2.out w2).mono ?_
  intro e w3 hp
  rw [H2.out] at hp
  obtain ⟨g, what2, rfl, hF, hb3⟩ := hp
  have HB3 := hid (below_step HB2.out hb3)
  clear hF hb3 HP2 H2
  go_wp2
  go_quiet (fail)
  go_wp2
  go_ret
  exact ⟨rfl, pw_below_drewN HB3.out _⟩
set_option maxRecDepth 100000 in
set_option maxHeartbeats 2000000 in
theorem joins_many {w : World} {a b : ByteArray} (ha : a.size ≤ 1000) (hb : b.size ≤ 1000) {d1 d2 : List Dl} {r1 r2 : List Rl} (h1 : progP nv a.data.toList = .ok (d1, r1)) (h2 : progP nv b.data.toList = .ok (d2, r2)) (hc : 200 < d1.length + r1.length + d2.length + r2.length) : Calls Try.prog 3 #[.string a, .string b] w (JoinsPost w) := by
  have HH := hid (head14_any w)
  have q1 : decide ((1000 : Int) < (a.size : Int)) = false := decide_eq_false (by omega)
  have q2 : decide ((1000 : Int) < (b.size : Int)) = false := decide_eq_false (by omega)
  have HP1 := hid (fun W => Program_any a (by omega) W)
  have HP2 := hid (fun W => Program_any b (by omega) W)
  have z1 := (prog_z h1).1
  have z2 := (prog_z h2).1
  have H1 := hid h1
  have H2 := hid h2
  clear ha hb h1 h2
  go_enter Try.func3, Try.ntmps3
  go_wp2_with fail
  refine HH.out.mono ?_
  rintro e w1 ⟨rfl, hb1⟩
  have HB := hid hb1
  clear hb1
  go_wp2_with fail
  refine (HP1.out w1).mono ?_
  intro e w2 hp
  rw [H1.out] at hp
  obtain ⟨bo, D, R, cD, cR, rfl, hbo, hk, lD, fD, lR, fR, hb2⟩ := hp
  have HB2 := hid (below_step HB.out hb2)
  have HK := hid hk
  clear hbo hk lD fD lR fR hb2 HP1 H1
  go_wp2_with fail
  refine (HP2.out w2).mono ?_
  intro e w3 hp
  rw [H2.out] at hp
  obtain ⟨by_, D', R', cD', cR', rfl, hbo, hk, lD, fD, lR, fR, hb3⟩ := hp
  obtain ⟨p0, p1, _, _⟩ := blk2 (blk_below HK.out hb3)
  obtain ⟨k0, k1, _, _⟩ := blk2 hk
  have HB3 := hid (below_step HB2.out hb3)
  clear hbo hk lD fD lR fR hb3 HP2 H2 HK
  generalize d1.length = n1 at *
  generalize r1.length = m1 at *
  generalize d2.length = n2 at *
  generalize r2.length = m2 at *
  have s1 : wrap64 ((n1 : Int) + (m1 : Int)) = (n1 : Int) + (m1 : Int) := by unfold wrap64; omega
  have s2 : wrap64 ((n1 : Int) + (m1 : Int) + (n2 : Int)) = (n1 : Int) + (m1 : Int) + (n2 : Int) := by unfold wrap64; omega
  have s3 : wrap64 ((n1 : Int) + (m1 : Int) + (n2 : Int) + (m2 : Int)) = (n1 : Int) + (m1 : Int) + (n2 : Int) + (m2 : Int) := by unfold wrap64; omega
  have s4 : decide ((200 : Int) < (n1 : Int) + (m1 : Int) + (n2 : Int) + (m2 : Int)) = true := decide_eq_true (by omega)
  clear z1 z2 hc
  go_wp2
  go_quiet (fail)
  go_wp2
  go_ret
  exact ⟨rfl, pw_below_drewN HB3.out _⟩
end Go.Proofs.YtjlnpdpkobpkiaaPSP
