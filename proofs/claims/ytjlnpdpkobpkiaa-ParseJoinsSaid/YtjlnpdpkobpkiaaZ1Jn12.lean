import Derived.Test.YtjlnpdpkobpkiaaZ1Reg
import Derived.Test.YtjlnpdpkobpkiaaZ1Hd14
set_option linter.unusedVariables false
set_option linter.unusedSimpArgs false
namespace Go.Proofs.YtjlnpdpkobpkiaaPSP
open Go.RowKit Go.Extern.Stop Go.Stop Go.Extern Go.Proofs.YtjlnpdpkobpkiaaW.PrintWords Go.Proofs.YtjlnpdpkobpkiaaW.PrintLast Go.Proofs.Ytjlnpdpkobpkiaa
def Stg {α : Type} (b0 b1 b2 : Bool) (u0 u1 u2 : Value) (xs ys : List α) (v : Value) (zs : List α) : Prop :=
  (b0 = false ∧ b1 = false ∧ b2 = false ∧ v = .slice none 0 0 ∧ zs = []) ∨ (b0 = true ∧ b1 = false ∧ b2 = false ∧ v = u0 ∧ zs = []) ∨
  (b0 = true ∧ b1 = true ∧ b2 = false ∧ v = u1 ∧ zs = xs) ∨ (b0 = true ∧ b1 = true ∧ b2 = true ∧ v = u2 ∧ zs = xs ++ ys)
section
variable {α : Type} {b0 b1 b2 : Bool} {u0 u1 u2 v : Value} {xs ys zs : List α}
theorem Stg.at0 (h : Stg b0 b1 b2 u0 u1 u2 xs ys v zs) (e : b0 = false) : b1 = false ∧ b2 = false := by
  subst e
  rcases h with ⟨_, h1, h2, h3, h4⟩ | ⟨h0, _⟩ | ⟨h0, _⟩ | ⟨h0, _⟩
  · exact ⟨h1, h2⟩
  all_goals cases h0
theorem Stg.at1 (h : Stg b0 b1 b2 u0 u1 u2 xs ys v zs) (e : b0 = true) (e1 : b1 = false) : v = u0 ∧ zs = [] ∧ b2 = false := by
  subst e e1
  rcases h with ⟨h0, _⟩ | ⟨_, _, h2, h3, h4⟩ | ⟨_, h0, _⟩ | ⟨_, h0, _⟩
  · cases h0
  · exact ⟨h3, h4, h2⟩
  all_goals cases h0
theorem Stg.at2 (h : Stg b0 b1 b2 u0 u1 u2 xs ys v zs) (e : b1 = true) (e1 : b2 = false) : v = u1 ∧ zs = xs ∧ b0 = true := by
  subst e e1
  rcases h with ⟨_, h0, _⟩ | ⟨_, h0, _⟩ | ⟨h2, _, _, h3, h4⟩ | ⟨_, _, h0, _⟩
  · cases h0
  · cases h0
  · exact ⟨h3, h4, h2⟩
  · cases h0
theorem Stg.at3 (h : Stg b0 b1 b2 u0 u1 u2 xs ys v zs) (e : b2 = true) : v = u2 ∧ zs = xs ++ ys ∧ b0 = true ∧ b1 = true := by
  subst e
  rcases h with ⟨_, _, h0, _⟩ | ⟨_, _, h0, _⟩ | ⟨_, _, h0, _⟩ | ⟨h1, h2, _, h3, h4⟩
  · cases h0
  · cases h0
  · cases h0
  · exact ⟨h3, h4, h1, h2⟩
end
structure Jn (w0 : World) (bx by_ : Nat) (D1 R1 D2 R2 : Option Addr) (n1 c1 m1 k1 n2 c2 m2 k2 : Nat) (ds1 ds2 : List Dl) (rs1 rs2 : List Rl) (l : Nat → Bool) (v11 v77 v78 v79 v80 v81 v82 v83 v84 v85 v86 v87 v88 v89 v90 v91 v92 v93 v94 v95 v96 v97 v98 v99 v100 : Value) (W : World) : Prop where
  be : Below w0.heap.size w0 W
  g1 : l 1 = true → v78 = Value.pointer (some ⟨bx, 0, none⟩)
  g2 : l 2 = true → v79 = Value.pointer (some ⟨bx, 0, none⟩)
  g3 : l 3 = true → v80 = Value.pointer (some ⟨bx, 0, none⟩)
  g4 : l 4 = true → v81 = Value.slice D1 n1 c1
  g6 : l 6 = true → v83 = Value.pointer (some ⟨by_, 0, none⟩)
  g7 : l 7 = true → v84 = Value.pointer (some ⟨by_, 0, none⟩)
  g8 : l 8 = true → v85 = Value.pointer (some ⟨by_, 0, none⟩)
  g9 : l 9 = true → v86 = Value.slice D2 n2 c2
  g12 : l 12 = true → v89 = Value.pointer (some ⟨bx, 0, none⟩)
  g13 : l 13 = true → v90 = Value.pointer (some ⟨bx, 0, none⟩)
  g14 : l 14 = true → v91 = Value.pointer (some ⟨bx, 1, none⟩)
  g15 : l 15 = true → v92 = Value.slice R1 m1 k1
  g17 : l 17 = true → v94 = Value.pointer (some ⟨by_, 0, none⟩)
  g18 : l 18 = true → v95 = Value.pointer (some ⟨by_, 0, none⟩)
  g19 : l 19 = true → v96 = Value.pointer (some ⟨by_, 1, none⟩)
  g20 : l 20 = true → v97 = Value.slice R2 m2 k2
  g22 : l 22 = true → v99 = .agg #[v87, v98] ∧ l 10 = true ∧ l 21 = true
  g23 : l 23 = true → l 22 = true ∧ ∃ b, v100 = .pointer (some ⟨b, 0, none⟩) ∧ W.heap[b]? = some (.cells #[v87, v98] 31 (0, 0)) ∧ w0.heap.size ≤ b
  g24 : l 24 = true → l 23 = true ∧ v11 = v100
  st : ∃ (vD vR : Value) (xD : List Dl) (xR : List Rl), Kd.N kD 115 W w0.heap.size (fun k => True ∧ some k ≠ (vR).ownBlock) vD xD ∧ Kd.N kR 38 W w0.heap.size (fun k => True ∧ some k ≠ (vD).ownBlock) vR xR ∧ Stg (l 0) (l 5) (l 10) v77 v82 v87 ds1 ds2 vD xD ∧ Stg (l 11) (l 16) (l 21) v88 v93 v98 rs1 rs2 vR xR
theorem Jn.all {w0 : World} {bx by_ : Nat} {D1 R1 D2 R2 : Option Addr} {n1 c1 m1 k1 n2 c2 m2 k2 : Nat} {ds1 ds2 : List Dl} {rs1 rs2 : List Rl} {l : Nat → Bool} {v11 v77 v78 v79 v80 v81 v82 v83 v84 v85 v86 v87 v88 v89 v90 v91 v92 v93 v94 v95 v96 v97 v98 v99 v100 : Value} {W : World} (J : Jn w0 bx by_ D1 R1 D2 R2 n1 c1 m1 k1 n2 c2 m2 k2 ds1 ds2 rs1 rs2 l v11 v77 v78 v79 v80 v81 v82 v83 v84 v85 v86 v87 v88 v89 v90 v91 v92 v93 v94 v95 v96 v97 v98 v99 v100 W) (h : l 23 = true) : (l 0 = true ∧ l 5 = true ∧ l 10 = true) ∧ l 11 = true ∧ l 16 = true ∧ l 21 = true := by
  obtain ⟨_, h10, h21⟩ := J.g22 (J.g23 h).1
  obtain ⟨vD, vR, xD, xR, _, _, sD, sR⟩ := J.st
  exact ⟨⟨(sD.at3 h10).2.2.1, (sD.at3 h10).2.2.2, h10⟩, (sR.at3 h21).2.2.1, (sR.at3 h21).2.2.2, h21⟩
theorem ok_old {d : Type} {k : Kd d} {e : TypeId} {W w0 : World} {ok : Nat → Prop} {v : Value} {xs : List d} (h : Kd.N k e W w0.heap.size ok v xs) : ∀ i, i < w0.heap.size → some i ≠ v.ownBlock := fun i hi he => by
  have := Kd.N_base h i he.symm
  omega
theorem ok_new {d : Type} {k : Kd d} {e : TypeId} {W : World} {base : Nat} {ok : Nat → Prop} {v : Value} {xs : List d} (h : Kd.N k e W base ok v xs) : ∀ i, W.heap.size ≤ i → some i ≠ v.ownBlock := fun i hi he => by
  have := Kd.N_lt h i he.symm
  omega
set_option maxHeartbeats 8000000 in
set_option maxRecDepth 100000 in
theorem jn12 {Q : Exit → Act → World → Prop} {w0 : World} {bx by_ : Nat} {D1 R1 D2 R2 : Option Addr} {n1 c1 m1 k1 n2 c2 m2 k2 : Nat} {ds1 ds2 : List Dl} {rs1 rs2 : List Rl}
    (u0 u1 u2 u3 u4 u6 u8 u9 u10 u11 u12 u13 u14 u15 u16 u17 u18 u19 u20 u21 u22 u23 u24 u25 u26 u27 u28 u29 u30 u31 u32 u33 u34 u35 u36 u37 u38 u39 u40 u41 u42 u43 u44 u45 u46 u47 u48 u49 u50 u51 u52 u53 u54 u55 u56 u57 u58 u59 u60 u61 u62 u63 u64 u65 u66 u67 u68 u69 u70 u71 u72 u73 u74 u75 u76 u77 u78 u79 u80 u81 u82 u83 u84 u85 u86 u87 u88 u89 u90 u91 u92 u93 u94 u95 u96 u97 u98 u99 u100 u101 u102 u103 u104 u105 u106 u107 u108 u109 u110 u111 u112 u113 u114 u115 u116 u117 u118 u119 u120 u121 u122 u123 u124 u125 u126 u127 u128 u129 u130 u131 u132 u133 u134 u135 u136 u137 u138 u139 u140 u141 u142 u143 u144 u145 u146 : Value) (df : List Deferred) (kx : w0.heap[bx]? = some (.cells #[.slice D1 n1 c1, .slice R1 m1 k1] 31 (0, 0))) (ky : w0.heap[by_]? = some (.cells #[.slice D2 n2 c2, .slice R2 m2 k2] 31 (0, 0)))
    (f1 : Kd.F kD w0 (fun _ => True) D1 n1 ds1) (f2 : Kd.F kD w0 (fun _ => True) D2 n2 ds2) (f3 : Kd.F kR w0 (fun _ => True) R1 m1 rs1) (f4 : Kd.F kR w0 (fun _ => True) R2 m2 rs2)
    (l1 : n1 ≤ 1000) (l2 : n2 ≤ 1000) (l3 : m1 ≤ 1000) (l4 : m2 ≤ 1000) (x1 : ds1.length = n1) (x3 : rs1.length = m1)
    (hQ : ∀ (b : Nat) (v77 v78 v79 v80 v81 v82 v83 v84 v85 v86 v87 v88 v89 v90 v91 v92 v93 v94 v95 v96 v97 v98 v99 v100 : Value) (D3 R3 : Option Addr) (c3 k3 : Nat) (W : World), W.heap[b]? = some (.cells #[.slice D3 (ds1 ++ ds2).length c3, .slice R3 (rs1 ++ rs2).length k3] 31 (0, 0)) → w0.heap.size ≤ b → (ds1 ++ ds2).length ≤ c3 → (rs1 ++ rs2).length ≤ k3 →
      Kd.C kD W D3 (ds1 ++ ds2).length (ds1 ++ ds2) → Kd.C kR W R3 (rs1 ++ rs2).length (rs1 ++ rs2) → Below w0.heap.size w0 W → Q .normal ⟨#[u0, u1, u2, u3, u4, Value.pointer (some ⟨bx, 0, none⟩), u6, Value.pointer (some ⟨by_, 0, none⟩), u8, u9, u10, Value.pointer (some ⟨b, 0, none⟩), u12, u13, u14, u15, u16, u17, u18, u19, u20, u21, u22, u23, u24, u25, u26, u27, u28, u29, u30, u31, u32, u33, u34, u35, u36, u37, u38, u39, u40, u41, u42, u43, u44, u45, u46, u47, u48, u49, u50, u51, u52, u53, u54, u55, u56, u57, u58, u59, u60, u61, u62, u63, u64, u65, u66, u67, u68, u69, u70, u71, u72, u73, u74, u75, u76, v77, v78, v79, v80, v81, v82, v83, v84, v85, v86, v87, v88, v89, v90, v91, v92, v93, v94, v95, v96, v97, v98, v99, v100, u101, u102, u103, u104, u105, u106, u107, u108, u109, u110, u111, u112, u113, u114, u115, u116, u117, u118, u119, u120, u121, u122, u123, u124, u125, u126, u127, u128, u129, u130, u131, u132, u133, u134, u135, u136, u137, u138, u139, u140, u141, u142, u143, u144, u145, u146], df⟩ W) :
    (Code.region 12 (opsOf Try.f3 12) true).wp Try.prog Q ⟨#[u0, u1, u2, u3, u4, Value.pointer (some ⟨bx, 0, none⟩), u6, Value.pointer (some ⟨by_, 0, none⟩), u8, u9, u10, u11, u12, u13, u14, u15, u16, u17, u18, u19, u20, u21, u22, u23, u24, u25, u26, u27, u28, u29, u30, u31, u32, u33, u34, u35, u36, u37, u38, u39, u40, u41, u42, u43, u44, u45, u46, u47, u48, u49, u50, u51, u52, u53, u54, u55, u56, u57, u58, u59, u60, u61, u62, u63, u64, u65, u66, u67, u68, u69, u70, u71, u72, u73, u74, u75, u76, u77, u78, u79, u80, u81, u82, u83, u84, u85, u86, u87, u88, u89, u90, u91, u92, u93, u94, u95, u96, u97, u98, u99, u100, u101, u102, u103, u104, u105, u106, u107, u108, u109, u110, u111, u112, u113, u114, u115, u116, u117, u118, u119, u120, u121, u122, u123, u124, u125, u126, u127, u128, u129, u130, u131, u132, u133, u134, u135, u136, u137, u138, u139, u140, u141, u142, u143, u144, u145, u146], df⟩ w0 := by
  conv in (opsOf _ _) => whnf
  refine wp_region_inv (fun l a W => ∃ (v11 v77 v78 v79 v80 v81 v82 v83 v84 v85 v86 v87 v88 v89 v90 v91 v92 v93 v94 v95 v96 v97 v98 v99 v100 : Value), a = ⟨#[u0, u1, u2, u3, u4, Value.pointer (some ⟨bx, 0, none⟩), u6, Value.pointer (some ⟨by_, 0, none⟩), u8, u9, u10, v11, u12, u13, u14, u15, u16, u17, u18, u19, u20, u21, u22, u23, u24, u25, u26, u27, u28, u29, u30, u31, u32, u33, u34, u35, u36, u37, u38, u39, u40, u41, u42, u43, u44, u45, u46, u47, u48, u49, u50, u51, u52, u53, u54, u55, u56, u57, u58, u59, u60, u61, u62, u63, u64, u65, u66, u67, u68, u69, u70, u71, u72, u73, u74, u75, u76, v77, v78, v79, v80, v81, v82, v83, v84, v85, v86, v87, v88, v89, v90, v91, v92, v93, v94, v95, v96, v97, v98, v99, v100, u101, u102, u103, u104, u105, u106, u107, u108, u109, u110, u111, u112, u113, u114, u115, u116, u117, u118, u119, u120, u121, u122, u123, u124, u125, u126, u127, u128, u129, u130, u131, u132, u133, u134, u135, u136, u137, u138, u139, u140, u141, u142, u143, u144, u145, u146], df⟩ ∧ Jn w0 bx by_ D1 R1 D2 R2 n1 c1 m1 k1 n2 c2 m2 k2 ds1 ds2 rs1 rs2 l v11 v77 v78 v79 v80 v81 v82 v83 v84 v85 v86 v87 v88 v89 v90 v91 v92 v93 v94 v95 v96 v97 v98 v99 v100 W) (by kernel_rfl) (by kernel_rfl) ?_ ?_ ?_
  · exact ⟨u11, u77, u78, u79, u80, u81, u82, u83, u84, u85, u86, u87, u88, u89, u90, u91, u92, u93, u94, u95, u96, u97, u98, u99, u100, rfl, ⟨below_drew (Below.refl _ _), fun h => Bool.noConfusion h, fun h => Bool.noConfusion h, fun h => Bool.noConfusion h, fun h => Bool.noConfusion h, fun h => Bool.noConfusion h, fun h => Bool.noConfusion h, fun h => Bool.noConfusion h, fun h => Bool.noConfusion h, fun h => Bool.noConfusion h, fun h => Bool.noConfusion h, fun h => Bool.noConfusion h, fun h => Bool.noConfusion h, fun h => Bool.noConfusion h, fun h => Bool.noConfusion h, fun h => Bool.noConfusion h, fun h => Bool.noConfusion h, fun h => Bool.noConfusion h, fun h => Bool.noConfusion h, fun h => Bool.noConfusion h, ⟨_, _, [], [], Kd.N_nil _ _ _ _ _, Kd.N_nil _ _ _ _ _, .inl ⟨rfl, rfl, rfl, rfl, rfl⟩, .inl ⟨rfl, rfl, rfl, rfl, rfl⟩⟩⟩⟩
  refine .cons ?_ (.cons ?_ (.cons ?_ (.cons ?_ (.cons ?_ (.cons ?_ (.cons ?_ (.cons ?_ (.cons ?_ (.cons ?_ (.cons ?_ (.cons ?_ (.cons ?_ (.cons ?_ (.cons ?_ (.cons ?_ (.cons ?_ (.cons ?_ (.cons ?_ (.cons ?_ (.cons ?_ (.cons ?_ (.cons ?_ (.cons ?_ (.cons ?_ (.nil)))))))))))))))))))))))))
  · intro l a W hJ hli hdep K hK
    obtain ⟨v11, v77, v78, v79, v80, v81, v82, v83, v84, v85, v86, v87, v88, v89, v90, v91, v92, v93, v94, v95, v96, v97, v98, v99, v100, rfl, J⟩ := hJ
    obtain ⟨vD, vR, xD, xR, hD, hR, sD, sR⟩ := J.st
    obtain ⟨h1, h2⟩ := sD.at0 hli
    refine Kd.N_lit_step kD (w0 := w0) w0.heap.size 115 (by rfl) rfl (xs := []) (inner := []) (ok := (fun k => True ∧ some k ≠ (vR).ownBlock)) (okp := fun _ => False) (by (go_simp) <;> rfl) ⟨rfl, fun j x hj => by cases hj⟩ (fun k hk => hk.elim) ⟨trivial, ok_new hR _ (Nat.le_refl _)⟩ J.be J.be.size (by decide) ?_
    intro v1 w1 hN hB hg hat
    have hO := own_far (B := 0) (u := .slice none 0 0) (u1 := v1) (Kd.N_mono hR (fun k hk => ⟨trivial, by simp [Value.ownBlock]⟩)) ((Fr.grown hg).mono (fun i _ h => by cases h)) (.inr hat)
    exact hK _ _ ⟨_, _, _, _, _, _, _, _, _, _, _, _, _, _, _, _, _, _, _, _, _, _, _, _, _, by (simp only [Act.put, List.setIfInBounds_toArray, List.set_cons_zero, List.set_cons_succ]) <;> rfl, ⟨hB, J.g1, J.g2, J.g3, J.g4, J.g6, J.g7, J.g8, J.g9, J.g12, J.g13, J.g14, J.g15, J.g17, J.g18, J.g19, J.g20, J.g22, fun h => absurd (J.all h).1.1 (by rw [hli]; simp), J.g24, ⟨v1, vR, [], xR, hN, hO, .inr (.inl ⟨rfl, h1, h2, rfl, rfl⟩), sR⟩⟩⟩
  · intro l a W hJ hli hdep K hK
    obtain ⟨v11, v77, v78, v79, v80, v81, v82, v83, v84, v85, v86, v87, v88, v89, v90, v91, v92, v93, v94, v95, v96, v97, v98, v99, v100, rfl, J⟩ := hJ
    refine value_ (w1 := ?_) (v := ?_) (by rfl) rfl ?_ ?_
    rotate_left 2
    · go_simp
      constructor
      · rfl
      · rfl
    exact hK _ _ ⟨_, _, _, _, _, _, _, _, _, _, _, _, _, _, _, _, _, _, _, _, _, _, _, _, _, by (simp only [Act.put, List.setIfInBounds_toArray, List.set_cons_zero, List.set_cons_succ]) <;> rfl, ⟨J.be, fun _ => rfl, J.g2, J.g3, J.g4, J.g6, J.g7, J.g8, J.g9, J.g12, J.g13, J.g14, J.g15, J.g17, J.g18, J.g19, J.g20, J.g22, J.g23, J.g24, J.st⟩⟩
  · intro l a W hJ hli hdep K hK
    obtain ⟨v11, v77, v78, v79, v80, v81, v82, v83, v84, v85, v86, v87, v88, v89, v90, v91, v92, v93, v94, v95, v96, v97, v98, v99, v100, rfl, J⟩ := hJ
    have d1 : l 1 = true := hdep { on := 1, ground := Ground.data } (by simp) rfl
    obtain rfl := J.g1 d1
    refine value_ (w1 := ?_) (v := ?_) (by rfl) rfl ?_ ?_
    rotate_left 2
    · go_simp
      constructor
      · rfl
      · rfl
    exact hK _ _ ⟨_, _, _, _, _, _, _, _, _, _, _, _, _, _, _, _, _, _, _, _, _, _, _, _, _, by (simp only [Act.put, List.setIfInBounds_toArray, List.set_cons_zero, List.set_cons_succ]) <;> rfl, ⟨J.be, J.g1, fun _ => rfl, J.g3, J.g4, J.g6, J.g7, J.g8, J.g9, J.g12, J.g13, J.g14, J.g15, J.g17, J.g18, J.g19, J.g20, J.g22, J.g23, J.g24, J.st⟩⟩
  · intro l a W hJ hli hdep K hK
    obtain ⟨v11, v77, v78, v79, v80, v81, v82, v83, v84, v85, v86, v87, v88, v89, v90, v91, v92, v93, v94, v95, v96, v97, v98, v99, v100, rfl, J⟩ := hJ
    have d2 : l 2 = true := hdep { on := 2, ground := Ground.data } (by simp) rfl
    obtain rfl := J.g2 d2
    refine value_ (w1 := ?_) (v := ?_) (by rfl) rfl ?_ ?_
    rotate_left 2
    · go_simp
      constructor
      · rfl
      · rfl
    exact hK _ _ ⟨_, _, _, _, _, _, _, _, _, _, _, _, _, _, _, _, _, _, _, _, _, _, _, _, _, by (simp only [Act.put, List.setIfInBounds_toArray, List.set_cons_zero, List.set_cons_succ]) <;> rfl, ⟨J.be, J.g1, J.g2, fun _ => rfl, J.g4, J.g6, J.g7, J.g8, J.g9, J.g12, J.g13, J.g14, J.g15, J.g17, J.g18, J.g19, J.g20, J.g22, J.g23, J.g24, J.st⟩⟩
  · intro l a W hJ hli hdep K hK
    obtain ⟨v11, v77, v78, v79, v80, v81, v82, v83, v84, v85, v86, v87, v88, v89, v90, v91, v92, v93, v94, v95, v96, v97, v98, v99, v100, rfl, J⟩ := hJ
    have d3 : l 3 = true := hdep { on := 3, ground := Ground.data } (by simp) rfl
    obtain rfl := J.g3 d3
    have hc := (blk_cell (blk_below kx J.be) 0).trans rfl
    refine value_ (w1 := ?_) (v := ?_) (by rfl) rfl ?_ ?_
    rotate_left 2
    · go_simp
      constructor
      · rfl
      · rfl
    exact hK _ _ ⟨_, _, _, _, _, _, _, _, _, _, _, _, _, _, _, _, _, _, _, _, _, _, _, _, _, by (simp only [Act.put, List.setIfInBounds_toArray, List.set_cons_zero, List.set_cons_succ]) <;> rfl, ⟨J.be, J.g1, J.g2, J.g3, fun _ => rfl, J.g6, J.g7, J.g8, J.g9, J.g12, J.g13, J.g14, J.g15, J.g17, J.g18, J.g19, J.g20, J.g22, J.g23, J.g24, J.st⟩⟩
  · intro l a W hJ hli hdep K hK
    obtain ⟨v11, v77, v78, v79, v80, v81, v82, v83, v84, v85, v86, v87, v88, v89, v90, v91, v92, v93, v94, v95, v96, v97, v98, v99, v100, rfl, J⟩ := hJ
    have d0 : l 0 = true := hdep { on := 0, ground := Ground.data } (by simp) rfl
    have d4 : l 4 = true := hdep { on := 4, ground := Ground.data } (by simp) rfl
    obtain rfl := J.g4 d4
    obtain ⟨vD, vR, xD, xR, hD, hR, sD, sR⟩ := J.st
    obtain ⟨e1, e2, h2⟩ := sD.at1 d0 hli
    rw [e1] at hR
    rw [e1, e2] at hD
    refine Kd.N_append_rows_step kD (w0 := w0) w0.heap.size (by rfl) (.tmp 77) (.tmp 81) 28 115 (.agg #[.string ⟨#[]⟩, .bool false, .int .i64 0]) 32 rfl Try.underlying28 (by kernel_rfl) rfl (by decide) (by decide) v77 [] ds1 D1 n1 c1 (fun k => True ∧ some k ≠ (vR).ownBlock) (fun k => k < w0.heap.size) rfl rfl hD (Kd.F_below (Kd.F_mono (Kd.F_bound f1) (fun k hk => hk.2)) J.be) (fun k hk => ⟨⟨trivial, ok_old hR k hk⟩, ok_old hD k hk⟩) (fun k hk => ⟨trivial, ok_new hR k hk⟩) J.be J.be.size (by first | (simp only [List.length_nil]; omega) | omega) ?_
    intro v1 w1 hN hB hg hat
    have hO := own_far (B := 0) (u1 := v1) hR (Fr.grown hg) hat
    rw [List.nil_append] at hN
    exact hK _ _ ⟨_, _, _, _, _, _, _, _, _, _, _, _, _, _, _, _, _, _, _, _, _, _, _, _, _, by (simp only [Act.put, List.setIfInBounds_toArray, List.set_cons_zero, List.set_cons_succ]) <;> rfl, ⟨hB, J.g1, J.g2, J.g3, J.g4, J.g6, J.g7, J.g8, J.g9, J.g12, J.g13, J.g14, J.g15, J.g17, J.g18, J.g19, J.g20, J.g22, fun h => absurd (J.all h).1.2.1 (by rw [hli]; simp), J.g24, ⟨v1, vR, ds1, xR, hN, hO, .inr (.inr (.inl ⟨d0, rfl, h2, rfl, rfl⟩)), sR⟩⟩⟩
  · intro l a W hJ hli hdep K hK
    obtain ⟨v11, v77, v78, v79, v80, v81, v82, v83, v84, v85, v86, v87, v88, v89, v90, v91, v92, v93, v94, v95, v96, v97, v98, v99, v100, rfl, J⟩ := hJ
    refine value_ (w1 := ?_) (v := ?_) (by rfl) rfl ?_ ?_
    rotate_left 2
    · go_simp
      constructor
      · rfl
      · rfl
    exact hK _ _ ⟨_, _, _, _, _, _, _, _, _, _, _, _, _, _, _, _, _, _, _, _, _, _, _, _, _, by (simp only [Act.put, List.setIfInBounds_toArray, List.set_cons_zero, List.set_cons_succ]) <;> rfl, ⟨J.be, J.g1, J.g2, J.g3, J.g4, fun _ => rfl, J.g7, J.g8, J.g9, J.g12, J.g13, J.g14, J.g15, J.g17, J.g18, J.g19, J.g20, J.g22, J.g23, J.g24, J.st⟩⟩
  · intro l a W hJ hli hdep K hK
    obtain ⟨v11, v77, v78, v79, v80, v81, v82, v83, v84, v85, v86, v87, v88, v89, v90, v91, v92, v93, v94, v95, v96, v97, v98, v99, v100, rfl, J⟩ := hJ
    have d6 : l 6 = true := hdep { on := 6, ground := Ground.data } (by simp) rfl
    obtain rfl := J.g6 d6
    refine value_ (w1 := ?_) (v := ?_) (by rfl) rfl ?_ ?_
    rotate_left 2
    · go_simp
      constructor
      · rfl
      · rfl
    exact hK _ _ ⟨_, _, _, _, _, _, _, _, _, _, _, _, _, _, _, _, _, _, _, _, _, _, _, _, _, by (simp only [Act.put, List.setIfInBounds_toArray, List.set_cons_zero, List.set_cons_succ]) <;> rfl, ⟨J.be, J.g1, J.g2, J.g3, J.g4, J.g6, fun _ => rfl, J.g8, J.g9, J.g12, J.g13, J.g14, J.g15, J.g17, J.g18, J.g19, J.g20, J.g22, J.g23, J.g24, J.st⟩⟩
  · intro l a W hJ hli hdep K hK
    obtain ⟨v11, v77, v78, v79, v80, v81, v82, v83, v84, v85, v86, v87, v88, v89, v90, v91, v92, v93, v94, v95, v96, v97, v98, v99, v100, rfl, J⟩ := hJ
    have d7 : l 7 = true := hdep { on := 7, ground := Ground.data } (by simp) rfl
    obtain rfl := J.g7 d7
    refine value_ (w1 := ?_) (v := ?_) (by rfl) rfl ?_ ?_
    rotate_left 2
    · go_simp
      constructor
      · rfl
      · rfl
    exact hK _ _ ⟨_, _, _, _, _, _, _, _, _, _, _, _, _, _, _, _, _, _, _, _, _, _, _, _, _, by (simp only [Act.put, List.setIfInBounds_toArray, List.set_cons_zero, List.set_cons_succ]) <;> rfl, ⟨J.be, J.g1, J.g2, J.g3, J.g4, J.g6, J.g7, fun _ => rfl, J.g9, J.g12, J.g13, J.g14, J.g15, J.g17, J.g18, J.g19, J.g20, J.g22, J.g23, J.g24, J.st⟩⟩
  · intro l a W hJ hli hdep K hK
    obtain ⟨v11, v77, v78, v79, v80, v81, v82, v83, v84, v85, v86, v87, v88, v89, v90, v91, v92, v93, v94, v95, v96, v97, v98, v99, v100, rfl, J⟩ := hJ
    have d8 : l 8 = true := hdep { on := 8, ground := Ground.data } (by simp) rfl
    obtain rfl := J.g8 d8
    have hc := (blk_cell (blk_below ky J.be) 0).trans rfl
    refine value_ (w1 := ?_) (v := ?_) (by rfl) rfl ?_ ?_
    rotate_left 2
    · go_simp
      constructor
      · rfl
      · rfl
    exact hK _ _ ⟨_, _, _, _, _, _, _, _, _, _, _, _, _, _, _, _, _, _, _, _, _, _, _, _, _, by (simp only [Act.put, List.setIfInBounds_toArray, List.set_cons_zero, List.set_cons_succ]) <;> rfl, ⟨J.be, J.g1, J.g2, J.g3, J.g4, J.g6, J.g7, J.g8, fun _ => rfl, J.g12, J.g13, J.g14, J.g15, J.g17, J.g18, J.g19, J.g20, J.g22, J.g23, J.g24, J.st⟩⟩
  · intro l a W hJ hli hdep K hK
    obtain ⟨v11, v77, v78, v79, v80, v81, v82, v83, v84, v85, v86, v87, v88, v89, v90, v91, v92, v93, v94, v95, v96, v97, v98, v99, v100, rfl, J⟩ := hJ
    have d5 : l 5 = true := hdep { on := 5, ground := Ground.data } (by simp) rfl
    have d9 : l 9 = true := hdep { on := 9, ground := Ground.data } (by simp) rfl
    obtain rfl := J.g9 d9
    obtain ⟨vD, vR, xD, xR, hD, hR, sD, sR⟩ := J.st
    obtain ⟨e1, e2, h2⟩ := sD.at2 d5 hli
    rw [e1] at hR
    rw [e1, e2] at hD
    refine Kd.N_append_rows_step kD (w0 := w0) w0.heap.size (by rfl) (.tmp 82) (.tmp 86) 28 115 (.agg #[.string ⟨#[]⟩, .bool false, .int .i64 0]) 32 rfl Try.underlying28 (by kernel_rfl) rfl (by decide) (by decide) v82 ds1 ds2 D2 n2 c2 (fun k => True ∧ some k ≠ (vR).ownBlock) (fun k => k < w0.heap.size) rfl rfl hD (Kd.F_below (Kd.F_mono (Kd.F_bound f2) (fun k hk => hk.2)) J.be) (fun k hk => ⟨⟨trivial, ok_old hR k hk⟩, ok_old hD k hk⟩) (fun k hk => ⟨trivial, ok_new hR k hk⟩) J.be J.be.size (by first | (simp only [List.length_nil]; omega) | omega) ?_
    intro v1 w1 hN hB hg hat
    have hO := own_far (B := 0) (u1 := v1) hR (Fr.grown hg) hat
    exact hK _ _ ⟨_, _, _, _, _, _, _, _, _, _, _, _, _, _, _, _, _, _, _, _, _, _, _, _, _, by (simp only [Act.put, List.setIfInBounds_toArray, List.set_cons_zero, List.set_cons_succ]) <;> rfl, ⟨hB, J.g1, J.g2, J.g3, J.g4, J.g6, J.g7, J.g8, J.g9, J.g12, J.g13, J.g14, J.g15, J.g17, J.g18, J.g19, J.g20, fun h => absurd (J.g22 h).2.1 (by rw [hli]; simp), fun h => absurd (J.all h).1.2.2 (by rw [hli]; simp), J.g24, ⟨v1, vR, ds1 ++ ds2, xR, hN, hO, .inr (.inr (.inr ⟨h2, d5, rfl, rfl, rfl⟩)), sR⟩⟩⟩
  · intro l a W hJ hli hdep K hK
    obtain ⟨v11, v77, v78, v79, v80, v81, v82, v83, v84, v85, v86, v87, v88, v89, v90, v91, v92, v93, v94, v95, v96, v97, v98, v99, v100, rfl, J⟩ := hJ
    obtain ⟨vD, vR, xD, xR, hD, hR, sD, sR⟩ := J.st
    obtain ⟨h1, h2⟩ := sR.at0 hli
    refine Kd.N_lit_step kR (w0 := w0) w0.heap.size 38 (by rfl) rfl (xs := []) (inner := []) (ok := (fun k => True ∧ some k ≠ (vD).ownBlock)) (okp := fun _ => False) (by (go_simp) <;> rfl) ⟨rfl, fun j x hj => by cases hj⟩ (fun k hk => hk.elim) ⟨trivial, ok_new hD _ (Nat.le_refl _)⟩ J.be J.be.size (by decide) ?_
    intro v1 w1 hN hB hg hat
    have hO := own_far (B := 0) (u := .slice none 0 0) (u1 := v1) (Kd.N_mono hD (fun k hk => ⟨trivial, by simp [Value.ownBlock]⟩)) ((Fr.grown hg).mono (fun i _ h => by cases h)) (.inr hat)
    exact hK _ _ ⟨_, _, _, _, _, _, _, _, _, _, _, _, _, _, _, _, _, _, _, _, _, _, _, _, _, by (simp only [Act.put, List.setIfInBounds_toArray, List.set_cons_zero, List.set_cons_succ]) <;> rfl, ⟨hB, J.g1, J.g2, J.g3, J.g4, J.g6, J.g7, J.g8, J.g9, J.g12, J.g13, J.g14, J.g15, J.g17, J.g18, J.g19, J.g20, J.g22, fun h => absurd (J.all h).2.1 (by rw [hli]; simp), J.g24, ⟨vD, v1, xD, [], hO, hN, sD, .inr (.inl ⟨rfl, h1, h2, rfl, rfl⟩)⟩⟩⟩
  · intro l a W hJ hli hdep K hK
    obtain ⟨v11, v77, v78, v79, v80, v81, v82, v83, v84, v85, v86, v87, v88, v89, v90, v91, v92, v93, v94, v95, v96, v97, v98, v99, v100, rfl, J⟩ := hJ
    refine value_ (w1 := ?_) (v := ?_) (by rfl) rfl ?_ ?_
    rotate_left 2
    · go_simp
      constructor
      · rfl
      · rfl
    exact hK _ _ ⟨_, _, _, _, _, _, _, _, _, _, _, _, _, _, _, _, _, _, _, _, _, _, _, _, _, by (simp only [Act.put, List.setIfInBounds_toArray, List.set_cons_zero, List.set_cons_succ]) <;> rfl, ⟨J.be, J.g1, J.g2, J.g3, J.g4, J.g6, J.g7, J.g8, J.g9, fun _ => rfl, J.g13, J.g14, J.g15, J.g17, J.g18, J.g19, J.g20, J.g22, J.g23, J.g24, J.st⟩⟩
  · intro l a W hJ hli hdep K hK
    obtain ⟨v11, v77, v78, v79, v80, v81, v82, v83, v84, v85, v86, v87, v88, v89, v90, v91, v92, v93, v94, v95, v96, v97, v98, v99, v100, rfl, J⟩ := hJ
    have d12 : l 12 = true := hdep { on := 12, ground := Ground.data } (by simp) rfl
    obtain rfl := J.g12 d12
    refine value_ (w1 := ?_) (v := ?_) (by rfl) rfl ?_ ?_
    rotate_left 2
    · go_simp
      constructor
      · rfl
      · rfl
    exact hK _ _ ⟨_, _, _, _, _, _, _, _, _, _, _, _, _, _, _, _, _, _, _, _, _, _, _, _, _, by (simp only [Act.put, List.setIfInBounds_toArray, List.set_cons_zero, List.set_cons_succ]) <;> rfl, ⟨J.be, J.g1, J.g2, J.g3, J.g4, J.g6, J.g7, J.g8, J.g9, J.g12, fun _ => rfl, J.g14, J.g15, J.g17, J.g18, J.g19, J.g20, J.g22, J.g23, J.g24, J.st⟩⟩
  · intro l a W hJ hli hdep K hK
    obtain ⟨v11, v77, v78, v79, v80, v81, v82, v83, v84, v85, v86, v87, v88, v89, v90, v91, v92, v93, v94, v95, v96, v97, v98, v99, v100, rfl, J⟩ := hJ
    have d13 : l 13 = true := hdep { on := 13, ground := Ground.data } (by simp) rfl
    obtain rfl := J.g13 d13
    refine value_ (w1 := ?_) (v := ?_) (by rfl) rfl ?_ ?_
    rotate_left 2
    · go_simp
      constructor
      · rfl
      · rfl
    exact hK _ _ ⟨_, _, _, _, _, _, _, _, _, _, _, _, _, _, _, _, _, _, _, _, _, _, _, _, _, by (simp only [Act.put, List.setIfInBounds_toArray, List.set_cons_zero, List.set_cons_succ]) <;> rfl, ⟨J.be, J.g1, J.g2, J.g3, J.g4, J.g6, J.g7, J.g8, J.g9, J.g12, J.g13, fun _ => rfl, J.g15, J.g17, J.g18, J.g19, J.g20, J.g22, J.g23, J.g24, J.st⟩⟩
  · intro l a W hJ hli hdep K hK
    obtain ⟨v11, v77, v78, v79, v80, v81, v82, v83, v84, v85, v86, v87, v88, v89, v90, v91, v92, v93, v94, v95, v96, v97, v98, v99, v100, rfl, J⟩ := hJ
    have d14 : l 14 = true := hdep { on := 14, ground := Ground.data } (by simp) rfl
    obtain rfl := J.g14 d14
    have hc := (blk_cell (blk_below kx J.be) 1).trans rfl
    refine value_ (w1 := ?_) (v := ?_) (by rfl) rfl ?_ ?_
    rotate_left 2
    · go_simp
      constructor
      · rfl
      · rfl
    exact hK _ _ ⟨_, _, _, _, _, _, _, _, _, _, _, _, _, _, _, _, _, _, _, _, _, _, _, _, _, by (simp only [Act.put, List.setIfInBounds_toArray, List.set_cons_zero, List.set_cons_succ]) <;> rfl, ⟨J.be, J.g1, J.g2, J.g3, J.g4, J.g6, J.g7, J.g8, J.g9, J.g12, J.g13, J.g14, fun _ => rfl, J.g17, J.g18, J.g19, J.g20, J.g22, J.g23, J.g24, J.st⟩⟩
  · intro l a W hJ hli hdep K hK
    obtain ⟨v11, v77, v78, v79, v80, v81, v82, v83, v84, v85, v86, v87, v88, v89, v90, v91, v92, v93, v94, v95, v96, v97, v98, v99, v100, rfl, J⟩ := hJ
    have d11 : l 11 = true := hdep { on := 11, ground := Ground.data } (by simp) rfl
    have d15 : l 15 = true := hdep { on := 15, ground := Ground.data } (by simp) rfl
    obtain rfl := J.g15 d15
    obtain ⟨vD, vR, xD, xR, hD, hR, sD, sR⟩ := J.st
    obtain ⟨e1, e2, h2⟩ := sR.at1 d11 hli
    rw [e1] at hD
    rw [e1, e2] at hR
    refine Kd.N_append_rows_step kR (w0 := w0) w0.heap.size (by rfl) (.tmp 88) (.tmp 92) 29 38 (.agg #[.string ⟨#[]⟩, .slice none 0 0, .int .i64 0, .slice none 0 0, .int .i64 0]) 80 rfl Try.underlying29 (by kernel_rfl) rfl (by decide) (by decide) v88 [] rs1 R1 m1 k1 (fun k => True ∧ some k ≠ (vD).ownBlock) (fun k => k < w0.heap.size) rfl rfl hR (Kd.F_below (Kd.F_mono (Kd.F_bound f3) (fun k hk => hk.2)) J.be) (fun k hk => ⟨⟨trivial, ok_old hD k hk⟩, ok_old hR k hk⟩) (fun k hk => ⟨trivial, ok_new hD k hk⟩) J.be J.be.size (by first | (simp only [List.length_nil]; omega) | omega) ?_
    intro v1 w1 hN hB hg hat
    have hO := own_far (B := 0) (u1 := v1) hD (Fr.grown hg) hat
    rw [List.nil_append] at hN
    exact hK _ _ ⟨_, _, _, _, _, _, _, _, _, _, _, _, _, _, _, _, _, _, _, _, _, _, _, _, _, by (simp only [Act.put, List.setIfInBounds_toArray, List.set_cons_zero, List.set_cons_succ]) <;> rfl, ⟨hB, J.g1, J.g2, J.g3, J.g4, J.g6, J.g7, J.g8, J.g9, J.g12, J.g13, J.g14, J.g15, J.g17, J.g18, J.g19, J.g20, J.g22, fun h => absurd (J.all h).2.2.1 (by rw [hli]; simp), J.g24, ⟨vD, v1, xD, rs1, hO, hN, sD, .inr (.inr (.inl ⟨d11, rfl, h2, rfl, rfl⟩))⟩⟩⟩
  · intro l a W hJ hli hdep K hK
    obtain ⟨v11, v77, v78, v79, v80, v81, v82, v83, v84, v85, v86, v87, v88, v89, v90, v91, v92, v93, v94, v95, v96, v97, v98, v99, v100, rfl, J⟩ := hJ
    refine value_ (w1 := ?_) (v := ?_) (by rfl) rfl ?_ ?_
    rotate_left 2
    · go_simp
      constructor
      · rfl
      · rfl
    exact hK _ _ ⟨_, _, _, _, _, _, _, _, _, _, _, _, _, _, _, _, _, _, _, _, _, _, _, _, _, by (simp only [Act.put, List.setIfInBounds_toArray, List.set_cons_zero, List.set_cons_succ]) <;> rfl, ⟨J.be, J.g1, J.g2, J.g3, J.g4, J.g6, J.g7, J.g8, J.g9, J.g12, J.g13, J.g14, J.g15, fun _ => rfl, J.g18, J.g19, J.g20, J.g22, J.g23, J.g24, J.st⟩⟩
  · intro l a W hJ hli hdep K hK
    obtain ⟨v11, v77, v78, v79, v80, v81, v82, v83, v84, v85, v86, v87, v88, v89, v90, v91, v92, v93, v94, v95, v96, v97, v98, v99, v100, rfl, J⟩ := hJ
    have d17 : l 17 = true := hdep { on := 17, ground := Ground.data } (by simp) rfl
    obtain rfl := J.g17 d17
    refine value_ (w1 := ?_) (v := ?_) (by rfl) rfl ?_ ?_
    rotate_left 2
    · go_simp
      constructor
      · rfl
      · rfl
    exact hK _ _ ⟨_, _, _, _, _, _, _, _, _, _, _, _, _, _, _, _, _, _, _, _, _, _, _, _, _, by (simp only [Act.put, List.setIfInBounds_toArray, List.set_cons_zero, List.set_cons_succ]) <;> rfl, ⟨J.be, J.g1, J.g2, J.g3, J.g4, J.g6, J.g7, J.g8, J.g9, J.g12, J.g13, J.g14, J.g15, J.g17, fun _ => rfl, J.g19, J.g20, J.g22, J.g23, J.g24, J.st⟩⟩
  · intro l a W hJ hli hdep K hK
    obtain ⟨v11, v77, v78, v79, v80, v81, v82, v83, v84, v85, v86, v87, v88, v89, v90, v91, v92, v93, v94, v95, v96, v97, v98, v99, v100, rfl, J⟩ := hJ
    have d18 : l 18 = true := hdep { on := 18, ground := Ground.data } (by simp) rfl
    obtain rfl := J.g18 d18
    refine value_ (w1 := ?_) (v := ?_) (by rfl) rfl ?_ ?_
    rotate_left 2
    · go_simp
      constructor
      · rfl
      · rfl
    exact hK _ _ ⟨_, _, _, _, _, _, _, _, _, _, _, _, _, _, _, _, _, _, _, _, _, _, _, _, _, by (simp only [Act.put, List.setIfInBounds_toArray, List.set_cons_zero, List.set_cons_succ]) <;> rfl, ⟨J.be, J.g1, J.g2, J.g3, J.g4, J.g6, J.g7, J.g8, J.g9, J.g12, J.g13, J.g14, J.g15, J.g17, J.g18, fun _ => rfl, J.g20, J.g22, J.g23, J.g24, J.st⟩⟩
  · intro l a W hJ hli hdep K hK
    obtain ⟨v11, v77, v78, v79, v80, v81, v82, v83, v84, v85, v86, v87, v88, v89, v90, v91, v92, v93, v94, v95, v96, v97, v98, v99, v100, rfl, J⟩ := hJ
    have d19 : l 19 = true := hdep { on := 19, ground := Ground.data } (by simp) rfl
    obtain rfl := J.g19 d19
    have hc := (blk_cell (blk_below ky J.be) 1).trans rfl
    refine value_ (w1 := ?_) (v := ?_) (by rfl) rfl ?_ ?_
    rotate_left 2
    · go_simp
      constructor
      · rfl
      · rfl
    exact hK _ _ ⟨_, _, _, _, _, _, _, _, _, _, _, _, _, _, _, _, _, _, _, _, _, _, _, _, _, by (simp only [Act.put, List.setIfInBounds_toArray, List.set_cons_zero, List.set_cons_succ]) <;> rfl, ⟨J.be, J.g1, J.g2, J.g3, J.g4, J.g6, J.g7, J.g8, J.g9, J.g12, J.g13, J.g14, J.g15, J.g17, J.g18, J.g19, fun _ => rfl, J.g22, J.g23, J.g24, J.st⟩⟩
  · intro l a W hJ hli hdep K hK
    obtain ⟨v11, v77, v78, v79, v80, v81, v82, v83, v84, v85, v86, v87, v88, v89, v90, v91, v92, v93, v94, v95, v96, v97, v98, v99, v100, rfl, J⟩ := hJ
    have d16 : l 16 = true := hdep { on := 16, ground := Ground.data } (by simp) rfl
    have d20 : l 20 = true := hdep { on := 20, ground := Ground.data } (by simp) rfl
    obtain rfl := J.g20 d20
    obtain ⟨vD, vR, xD, xR, hD, hR, sD, sR⟩ := J.st
    obtain ⟨e1, e2, h2⟩ := sR.at2 d16 hli
    rw [e1] at hD
    rw [e1, e2] at hR
    refine Kd.N_append_rows_step kR (w0 := w0) w0.heap.size (by rfl) (.tmp 93) (.tmp 97) 29 38 (.agg #[.string ⟨#[]⟩, .slice none 0 0, .int .i64 0, .slice none 0 0, .int .i64 0]) 80 rfl Try.underlying29 (by kernel_rfl) rfl (by decide) (by decide) v93 rs1 rs2 R2 m2 k2 (fun k => True ∧ some k ≠ (vD).ownBlock) (fun k => k < w0.heap.size) rfl rfl hR (Kd.F_below (Kd.F_mono (Kd.F_bound f4) (fun k hk => hk.2)) J.be) (fun k hk => ⟨⟨trivial, ok_old hD k hk⟩, ok_old hR k hk⟩) (fun k hk => ⟨trivial, ok_new hD k hk⟩) J.be J.be.size (by first | (simp only [List.length_nil]; omega) | omega) ?_
    intro v1 w1 hN hB hg hat
    have hO := own_far (B := 0) (u1 := v1) hD (Fr.grown hg) hat
    exact hK _ _ ⟨_, _, _, _, _, _, _, _, _, _, _, _, _, _, _, _, _, _, _, _, _, _, _, _, _, by (simp only [Act.put, List.setIfInBounds_toArray, List.set_cons_zero, List.set_cons_succ]) <;> rfl, ⟨hB, J.g1, J.g2, J.g3, J.g4, J.g6, J.g7, J.g8, J.g9, J.g12, J.g13, J.g14, J.g15, J.g17, J.g18, J.g19, J.g20, fun h => absurd (J.g22 h).2.2 (by rw [hli]; simp), fun h => absurd (J.all h).2.2.2 (by rw [hli]; simp), J.g24, ⟨vD, v1, xD, rs1 ++ rs2, hO, hN, sD, .inr (.inr (.inr ⟨h2, d16, rfl, rfl, rfl⟩))⟩⟩⟩
  · intro l a W hJ hli hdep K hK
    obtain ⟨v11, v77, v78, v79, v80, v81, v82, v83, v84, v85, v86, v87, v88, v89, v90, v91, v92, v93, v94, v95, v96, v97, v98, v99, v100, rfl, J⟩ := hJ
    have d10 : l 10 = true := hdep { on := 10, ground := Ground.data } (by simp) rfl
    have d21 : l 21 = true := hdep { on := 21, ground := Ground.data } (by simp) rfl
    obtain ⟨vD, vR, xD, xR, hD, hR, sD, sR⟩ := J.st
    obtain ⟨e1, e2, _⟩ := sD.at3 d10
    obtain ⟨e3, e4, _⟩ := sR.at3 d21
    obtain ⟨A1, q1, e5⟩ := Kd.N_slice hD
    obtain ⟨A2, q2, e6⟩ := Kd.N_slice hR
    generalize xD.length = L1 at e5
    generalize xR.length = L2 at e6
    rw [e1] at e5
    rw [e3] at e6
    subst e5 e6
    refine value_ (w1 := ?_) (v := ?_) (by rfl) rfl ?_ ?_
    rotate_left 2
    · go_simp
      constructor
      · rfl
      · rfl
    exact hK _ _ ⟨_, _, _, _, _, _, _, _, _, _, _, _, _, _, _, _, _, _, _, _, _, _, _, _, _, by (simp only [Act.put, List.setIfInBounds_toArray, List.set_cons_zero, List.set_cons_succ]) <;> rfl, ⟨J.be, J.g1, J.g2, J.g3, J.g4, J.g6, J.g7, J.g8, J.g9, J.g12, J.g13, J.g14, J.g15, J.g17, J.g18, J.g19, J.g20, fun _ => ⟨rfl, d10, d21⟩, fun h => absurd (J.g23 h).1 (by rw [hli]; simp), J.g24, J.st⟩⟩
  · intro l a W hJ hli hdep K hK
    obtain ⟨v11, v77, v78, v79, v80, v81, v82, v83, v84, v85, v86, v87, v88, v89, v90, v91, v92, v93, v94, v95, v96, v97, v98, v99, v100, rfl, J⟩ := hJ
    have d22 : l 22 = true := hdep { on := 22, ground := Ground.data } (by simp) rfl
    obtain ⟨rfl, h10, h21⟩ := J.g22 d22
    obtain ⟨vD, vR, xD, xR, hD, hR, sD, sR⟩ := J.st
    obtain ⟨e1, e2, _⟩ := sD.at3 h10
    obtain ⟨e3, e4, _⟩ := sR.at3 h21
    obtain ⟨A1, q1, e5⟩ := Kd.N_slice hD
    obtain ⟨A2, q2, e6⟩ := Kd.N_slice hR
    generalize xD.length = L1 at e5
    generalize xR.length = L2 at e6
    rw [e1] at e5
    rw [e3] at e6
    subst e5 e6
    refine value_ (w1 := ?_) (v := ?_) (by rfl) rfl ?_ ?_
    rotate_left 2
    · go_simp
      constructor
      · rfl
      · rfl
    exact hK _ _ ⟨_, _, _, _, _, _, _, _, _, _, _, _, _, _, _, _, _, _, _, _, _, _, _, _, _, by (simp only [Act.put, List.setIfInBounds_toArray, List.set_cons_zero, List.set_cons_succ]) <;> rfl, ⟨below_alloc J.be _, J.g1, J.g2, J.g3, J.g4, J.g6, J.g7, J.g8, J.g9, J.g12, J.g13, J.g14, J.g15, J.g17, J.g18, J.g19, J.g20, fun _ => ⟨rfl, h10, h21⟩, fun _ => ⟨d22, W.heap.size, rfl, heap_alloc_new W _, J.be.size⟩, fun h => absurd (J.g24 h).1 (by rw [hli]; simp), ⟨_, _, _, _, Kd.N_alloc hD _, Kd.N_alloc hR _, sD, sR⟩⟩⟩
  · intro l a W hJ hli hdep K hK
    obtain ⟨v11, v77, v78, v79, v80, v81, v82, v83, v84, v85, v86, v87, v88, v89, v90, v91, v92, v93, v94, v95, v96, v97, v98, v99, v100, rfl, J⟩ := hJ
    have d23 : l 23 = true := hdep { on := 23, ground := Ground.data } (by simp) rfl
    refine value_ (w1 := ?_) (v := ?_) (by rfl) rfl ?_ ?_
    rotate_left 2
    · go_simp
      constructor
      · rfl
      · rfl
    exact hK _ _ ⟨_, _, _, _, _, _, _, _, _, _, _, _, _, _, _, _, _, _, _, _, _, _, _, _, _, by (simp only [Act.put, List.setIfInBounds_toArray, List.set_cons_zero, List.set_cons_succ]) <;> rfl, ⟨J.be, J.g1, J.g2, J.g3, J.g4, J.g6, J.g7, J.g8, J.g9, J.g12, J.g13, J.g14, J.g15, J.g17, J.g18, J.g19, J.g20, J.g22, J.g23, fun _ => ⟨d23, rfl⟩, J.st⟩⟩
  · intro l a W hall hJ
    obtain ⟨v11, v77, v78, v79, v80, v81, v82, v83, v84, v85, v86, v87, v88, v89, v90, v91, v92, v93, v94, v95, v96, v97, v98, v99, v100, rfl, J⟩ := hJ
    obtain ⟨vD, vR, xD, xR, hD, hR, sD, sR⟩ := J.st
    obtain ⟨rfl, rfl, _⟩ := sD.at3 (hall 10 (by decide))
    obtain ⟨rfl, rfl, _⟩ := sR.at3 (hall 21 (by decide))
    obtain ⟨A1, q1, e1⟩ := Kd.N_slice hD
    obtain ⟨A2, q2, e2⟩ := Kd.N_slice hR
    subst e1 e2
    obtain ⟨_, b, rfl, hb, hle⟩ := J.g23 (hall 23 (by decide))
    obtain ⟨_, rfl⟩ := J.g24 (hall 24 (by decide))
    obtain ⟨_, cD, gD⟩ := Kd.N_reads' hD
    obtain ⟨_, cR, gR⟩ := Kd.N_reads' hR
    exact hQ b _ _ _ _ _ _ _ _ _ _ _ _ _ _ _ _ _ _ _ _ _ _ _ _ _ _ _ _ W hb hle cD cR gD gR J.be
end Go.Proofs.YtjlnpdpkobpkiaaPSP
