import Derived.Test.YtbcmkkphbkpapaaDoorFault2
set_option linter.unusedVariables false
set_option linter.unusedSimpArgs false
namespace Go.Proofs.YtbcmkkphbkpapaaDoor
open Go.RowKit Go.Extern.Stop Go.Stop Go.Extern

/-! errors.Is(f, tag): a fault of the tag. -/
theorem methodComparable (h : Value) (w : World) : (Go.method 317 156 (.agg #[h]) "Comparable").run Tryd.prog w = .ok (127, .agg #[h]) w := by kernel_rfl
theorem methodIs (a : Addr) (w : World) : (Go.method 317 95 (.pointer (some a)) "Is").run Tryd.prog w = .ok (118, .pointer (some a)) w := by kernel_rfl
theorem nilIs (a : Addr) (w : World) : (nilAhead 317 95 (.pointer (some a)) "Is").run Tryd.prog w = .ok (some false) w := by kernel_rfl
theorem methodError (a : Addr) (w : World) : (Go.method 317 95 (.pointer (some a)) "Error").run Tryd.prog w = .ok (117, .pointer (some a)) w := by kernel_rfl
theorem nilError (a : Addr) (w : World) : (nilAhead 317 95 (.pointer (some a)) "Error").run Tryd.prog w = .ok (some false) w := by kernel_rfl
theorem comparableT (w : World) : (ReflectliteType.method (fun t => do Rtype.noPackHeld "Comparable" t; (fun a => Value.bool a.comparable) <$> typeInfo t) #[.agg #[hnd 23]]).run Tryd.prog w = .ok (.bool true) w := by kernel_rfl
theorem hasIs (v : Value) (xT : TypeId) (w : World) : (Instr.typeAssert (.iface 95 v) xT 158 true).run Tryd.prog w = .ok (.tuple #[.iface 95 v, .bool true]) w := by kernel_rfl
theorem isTag (v : Value) (xT : TypeId) (w : World) : (Instr.typeAssert (.iface 23 v) xT 23 true).run Tryd.prog w = .ok (.tuple #[v, .bool true]) w := by kernel_rfl
theorem neqFT (a : Addr) (n : Int) (w : World) : (Go.binOp .eql 29 (.iface 95 (.pointer (some a))) (.iface 23 (.int .i64 n))).run Tryd.prog w = .ok (.bool false) w := by kernel_rfl
theorem FIs_any {w : World} {b : Nat} {tag at_ n : Int} {what : ByteArray} {err : Value} (h : FaultAt w b tag at_ what err) :
    Calls Tryd.prog 118 #[.pointer (some ⟨b, 0, none⟩), .iface 23 (.int .i64 n)] w (RetB w (.bool (n == tag))) := by
  obtain ⟨c0, _, _, _⟩ := h.cells
  have ta := isTag
  clear h
  go_enter Tryd.func118, Tryd.ntmps118
  go_wp2
  go_ret
  exact ⟨rfl, Below.refl _ _⟩
set_option maxHeartbeats 4000000 in
set_option maxRecDepth 100000 in
theorem Is_hit {w : World} {b : Nat} {tag at_ : Int} {what : ByteArray} {err : Value} (h : FaultAt w b tag at_ what err) :
    Calls Tryd.prog 42 #[faultV b, .iface 23 (.int .i64 tag)] w (RetB w (.bool true)) := by
  have h10 := @run_callFunc_extern Tryd.prog 62 _ ReflectliteType.typeOf Tryd.func62 (by kernel_rfl) (by kernel_rfl) (by kernel_rfl) (by kernel_rfl)
  have h11 := @run_callFunc_extern Tryd.prog 127 _ (ReflectliteType.method (fun t => do Rtype.noPackHeld "Comparable" t; pure (.bool (← typeInfo t).comparable))) Tryd.func127 (by kernel_rfl) (by kernel_rfl) (by kernel_rfl) (by kernel_rfl)
  have tO := typeOfT
  have mC := methodComparable
  have cT := comparableT
  have mI := methodIs
  have nI := nilIs
  have tI := hasIs
  have nq := neqFT
  have HI := hid (FIs_any (n := tag) h)
  clear h
  go_enter Tryd.func42, Tryd.ntmps42
  go_wp2
  refine wp_loop_rounds 1 ?_
  rw [rounds_succ]
  go_wp2_with fail
  refine HI.out.mono ?_
  rintro e w1 ⟨rfl, hb1⟩
  have HB := hid hb1
  clear hb1
  go_wp2
  go_ret
  exact ⟨rfl, HB.out⟩

/-! Two faults in words. -/
set_option maxHeartbeats 4000000 in
set_option maxRecDepth 100000 in
theorem err_in {w : World} {b : Nat} (h : FaultAt w b 5 3 ⟨#[112]⟩ .nilIface) :
    Calls Tryd.prog 117 #[.pointer (some ⟨b, 0, none⟩)] w (RetB w (.string ⟨#[116, 121, 112, 101, 32, 97, 116, 32, 51, 32, 40, 112, 41]⟩)) := by
  have HF := hid h
  obtain ⟨k0, k1, _, _⟩ := h.cells
  have hb := blk_lt h
  have HT : Hid (∀ W, Calls Tryd.prog 43 #[.int .i64 5] W (RetB W (.string ⟨#[116, 121, 112, 101]⟩))) := fun W => Tag_Error_in 5 (by decide) W
  have HI : Hid (∀ W, Calls Tryd.prog 64 #[.int .i64 3] W fun e w' => e = .returned (.string ⟨#[51]⟩) ∧ w' = W) := fun W => by
    have := Tryd.strconv_Itoa_small 3 (by decide) W
    rw [Lib.decDigits_one (by decide)] at this
    exact this
  clear h
  have F0 : Fr (fun _ => False) w w.drew := (Fr.refl _ _).drew
  go_enter Tryd.func117, Tryd.ntmps117
  go_wp2_with fail
  go_region_held3 (fun W => W.cell? ⟨b, 0, none⟩ = some (.int .i64 5) ∧ W.cell? ⟨b, 1, none⟩ = some (.int .i64 3) ∧ Fr (fun _ => False) w W)
    (first
      | (exact ⟨F1'.cell k0 (fun f => f), F1'.cell k1 (fun f => f), F1'⟩)
      | (exact ⟨F0.cell k0 (fun f => f), F0.cell k1 (fun f => f), F0⟩))
    (first
      | (go_at_call 43; refine (HT.out _).mono ?_; rintro e w5 ⟨rfl, hb5⟩; have F1' : Fr (fun _ => False) w w5 := F0.trans (quietB hb5) (fun _ _ f => f))
      | (go_at_call 64; refine (HI.out _).mono ?_; rintro e w6 ⟨rfl, rfl⟩))
  have HF1 := hid (HF.out.stay F1' (fun h => h))
  obtain ⟨_, _, c2, c3⟩ := HF1.out.cells
  clear k0 k1 hb5
  go_wp2
  go_ret
  exact ⟨rfl, F1'.elim (Nat.le_refl _)⟩

set_option maxHeartbeats 4000000 in
set_option maxRecDepth 100000 in
theorem err_out {w : World} {b c : Nat} (h : FaultAt w b 5 0 ⟨#[108, 111, 97, 100]⟩ (faultV c)) (hc : FaultAt w c 5 3 ⟨#[112]⟩ .nilIface) :
    Calls Tryd.prog 117 #[.pointer (some ⟨b, 0, none⟩)] w (RetB w (.string ⟨#[116, 121, 112, 101, 32, 97, 116, 32, 48, 32, 40, 108, 111, 97, 100, 41, 58, 32, 116, 121, 112, 101, 32, 97, 116, 32, 51, 32, 40, 112, 41]⟩)) := by
  have HF := hid h
  have HG := hid hc
  obtain ⟨k0, k1, _, _⟩ := h.cells
  have hb := blk_lt h
  have HT : Hid (∀ W, Calls Tryd.prog 43 #[.int .i64 5] W (RetB W (.string ⟨#[116, 121, 112, 101]⟩))) := fun W => Tag_Error_in 5 (by decide) W
  have HI : Hid (∀ W, Calls Tryd.prog 64 #[.int .i64 0] W fun e w' => e = .returned (.string ⟨#[48]⟩) ∧ w' = W) := fun W => by
    have := Tryd.strconv_Itoa_small 0 (by decide) W
    rw [Lib.decDigits_one (by decide)] at this
    exact this
  have mE := methodError
  have nE := nilError
  clear h hc
  have F0 : Fr (fun _ => False) w w.drew := (Fr.refl _ _).drew
  go_enter Tryd.func117, Tryd.ntmps117
  go_wp2_with fail
  go_region_held3 (fun W => W.cell? ⟨b, 0, none⟩ = some (.int .i64 5) ∧ W.cell? ⟨b, 1, none⟩ = some (.int .i64 0) ∧ Fr (fun _ => False) w W)
    (first
      | (exact ⟨F1'.cell k0 (fun f => f), F1'.cell k1 (fun f => f), F1'⟩)
      | (exact ⟨F0.cell k0 (fun f => f), F0.cell k1 (fun f => f), F0⟩))
    (first
      | (go_at_call 43; refine (HT.out _).mono ?_; rintro e w5 ⟨rfl, hb5⟩; have F1' : Fr (fun _ => False) w w5 := F0.trans (quietB hb5) (fun _ _ f => f))
      | (go_at_call 64; refine (HI.out _).mono ?_; rintro e w6 ⟨rfl, rfl⟩))
  have HF1 := hid (HF.out.stay F1' (fun h => h))
  have HE := hid (fun W (hW : Fr (fun _ => False) w W) => err_in (HG.out.stay hW (fun h => h)))
  obtain ⟨_, _, c2, c3⟩ := HF1.out.cells
  clear k0 k1 hb5
  go_wp2_with fail
  refine (HE.out _ F1').mono ?_
  rintro e w7 ⟨rfl, hb7⟩
  have HB := hid ((F1'.elim (Nat.le_refl _)).trans (hb7.mono F1'.size))
  clear hb7
  go_wp2
  go_ret
  exact ⟨rfl, HB.out⟩

set_option maxHeartbeats 4000000 in
set_option maxRecDepth 100000 in
theorem head01_any {w : World} (hE : ErrT w) : Calls Tryd.prog 36 #[] w (RetB w (.bool true)) := by
  have HE := hid hE
  have mE := methodError
  have nE := nilError
  clear hE
  go_enter Tryd.func36, Tryd.ntmps36
  go_wp2_with fail
  refine (FNew_any 5 3 _ _).mono ?_
  rintro e w1 ⟨c, rfl, hc, hlc, hb1⟩
  have HC := hid hc
  have HB1 := hid hb1
  clear hc hb1
  go_wp2_with fail
  refine (Wrap_fault (HE.out.below HB1.out) HC.out 0 _).mono ?_
  rintro e w2 ⟨b, rfl, hb, hlb, hb2⟩
  have HF2 := hid hb
  have HC2 := hid (HC.out.below hb2)
  have HB2 := hid (HB1.out.trans (hb2.mono HB1.out.size))
  clear hb hb2
  go_wp2_with fail
  refine (err_out HF2.out HC2.out).mono ?_
  rintro e w3 ⟨rfl, hb3⟩
  have HF3 := hid (HF2.out.below hb3)
  have HC3 := hid (HC2.out.below hb3)
  have HB3 := hid (HB2.out.trans (hb3.mono HB2.out.size))
  clear hb3
  go_wp2_with fail
  refine (Of_fault (HE.out.below HB3.out) HF3.out).mono ?_
  rintro e w4 ⟨rfl, hb4⟩
  have HF4 := hid (HF3.out.below hb4)
  have HC4 := hid (HC3.out.below hb4)
  have HB4 := hid (HB3.out.trans (hb4.mono HB3.out.size))
  clear hb4
  go_wp2_with fail
  refine (Depth_any (fs := [⟨5, 0, ⟨#[108, 111, 97, 100]⟩⟩, ⟨5, 3, ⟨#[112]⟩⟩]) (HE.out.below HB4.out) ⟨b, _, rfl, HF4.out, c, _, rfl, HC4.out, rfl⟩ (by decide)).mono ?_
  rintro e w5 ⟨rfl, hb5⟩
  have HF5 := hid (HF4.out.below hb5)
  have HB5 := hid (HB4.out.trans (hb5.mono HB4.out.size))
  clear hb5
  go_wp2_with fail
  refine (Is_hit HF5.out).mono ?_
  rintro e w6 ⟨rfl, hb6⟩
  have HB6 := hid (HB5.out.trans (hb6.mono HB5.out.size))
  clear hb6
  go_wp2
  go_ret
  exact ⟨rfl, HB6.out⟩
end Go.Proofs.YtbcmkkphbkpapaaDoor
