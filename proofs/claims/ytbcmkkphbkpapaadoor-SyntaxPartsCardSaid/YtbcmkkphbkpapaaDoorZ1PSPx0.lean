import Derived.Test.YtbcmkkphbkpapaaDoorProg
import Derived.Below
import Derived.Deep.Draws
import Derived.Deep.AppendLies
import Derived.Maps.AppendAt
import Derived.OwnWalk
import Derived.Laws.BytesArg
import Derived.Laws.MakeOwn
import Derived.Laws.OwnMore
import Derived.Deep.OwnRows
import Derived.Tactics
import Derived.Lib.ConvBytes
import Derived.Laws.Slices
import Derived.WalkKit
import Derived.KernelRfl
import Derived.RowKit3
import Derived.Deep.LoopGhost
import Derived.Deep.QuietTactic
import Derived.BigQuiet
import Derived.WideLaws
import Derived.Deep.DeepCutAuto
import Derived.Deep.CutBlock
import Derived.Deep.RegionHeld3
import Derived.Laws.Rows
import Derived.Lib.AppendStr
import Derived.ArgAppend
import Derived.Laws.IdiomCopy
import Derived.OrdersHeld
import Derived.Laws.BitsLemmas
import Derived.RowKit
import Derived.Test.YtbcmkkphbkpapaaDoorZ1Term
import Derived.Test.YtbcmkkphbkpapaaDoorZ1W1
namespace Go.Proofs.YtbcmkkphbkpapaaDoorPSP
open Go.RowKit Go.Proofs.YtbcmkkphbkpapaaDoorW.PrintWords Go.Proofs.YtbcmkkphbkpapaaDoorW.PrintLast Go.Proofs.YtbcmkkphbkpapaaDoorW.PrintMore
attribute [local go_sem] max2_int min2_int max_two min_two max_three min_three max_four min_four   -- for this text's walks alone
set_option linter.unusedVariables false
set_option linter.unusedSimpArgs false
def errW : Option Int → Value
  | none => .nilIface
  | some c => .iface 0 (.int .i64 c)
theorem errW_none : errW none = .nilIface := rfl
theorem errW_some (c : Int) : errW (some c) = .iface 0 (.int .i64 c) := rfl
theorem info9 : (Tryd.prog.info? 9).map (fun i => (i.zero, i.size, i.bytes)) = some (some (.string ⟨#[]⟩), 1, 16) := by kernel_rfl
theorem info55 : (Tryd.prog.info? 55).map (fun i => (i.zero, i.size, i.bytes)) = some (some (.agg #[(.int .i64 0), (.string ⟨#[]⟩), (.int .i64 0)]), 3, 32) := by kernel_rfl
structure S43 where
  f0 : Int
  f1 : Int
  f2 : Int
def z43 : S43 := ⟨(0 : Int), (0 : Int), (0 : Int)⟩
def k43 : Kd S43 := Kd.iso (Kd.pair (Kd.int .i64) (Kd.pair (Kd.int .i64) (Kd.int .i64))) (fun x : S43 => (x.f0, x.f1, x.f2))
theorem k43_open {w : World} {x : S43} {cs : List Value} (h : k43.K w x cs) : cs = [.int .i64 x.f0, .int .i64 x.f1, .int .i64 x.f2] := by
  obtain ⟨_, _, rfl, rfl, ⟨_, _, rfl, rfl, rfl⟩⟩ := h
  exact rfl
theorem k43_mk (w : World) (x : S43)  : k43.K w x [.int .i64 x.f0, .int .i64 x.f1, .int .i64 x.f2] := ⟨[.int .i64 x.f0], [.int .i64 x.f1, .int .i64 x.f2], rfl, rfl, ⟨[.int .i64 x.f1], [.int .i64 x.f2], rfl, rfl, rfl⟩⟩
def rd_T43 (xs : List S43) (i : Int) : S43 := xs.getD i.toNat z43
theorem at_T43 {w : World} {A : Option Addr} {n : Nat} {xs : List S43} (h : Kd.C k43 w A n xs) (i : Int) (h0 : 0 ≤ i) (h1 : i < n) : ∃ ad , A = some ad ∧ w.cell? (ad.add (i.toNat * 3)) = some (.int .i64 (rd_T43 xs i).f0) ∧ w.cell? ⟨(ad.add (i.toNat * 3)).block, (ad.add (i.toNat * 3)).off + 1, none⟩ = some (.int .i64 (rd_T43 xs i).f1) ∧ w.cell? ⟨(ad.add (i.toNat * 3)).block, (ad.add (i.toNat * 3)).off + 2, none⟩ = some (.int .i64 (rd_T43 xs i).f2) := by
  obtain ⟨ad, c, e, _, hK, hc0⟩ := Kd.C_get h z43 i h0 h1
  have hc : ∀ j u, c[j]? = some u → w.cell? (ad.add (i.toNat * 3 + j)) = some u := hc0
  obtain rfl := k43_open hK
  exact ⟨ad, e, hc 0 _ rfl, by rw [← add_field _ _ 1 (by omega)]; exact hc 1 _ rfl, by rw [← add_field _ _ 2 (by omega)]; exact hc 2 _ rfl⟩
structure S49 where
  f0 : S43
  f1 : Int
  f2 : (List S49)
def z49 : S49 := ⟨z43, (0 : Int), ([] : List S49)⟩
def F49 (d : Kd S49) : Kd S49 := Kd.iso (Kd.pair k43 (Kd.pair (Kd.int .i64) (Kd.slice 49 d))) (fun x : S49 => (x.f0, x.f1, x.f2))
theorem mono49 : Kd.Mono F49 := Kd.mono_iso _ (Kd.mono_pair (Kd.mono_const _) (Kd.mono_pair (Kd.mono_const _) (Kd.mono_slice 49 Kd.mono_id)))
theorem sub49 : Kd.Sub F49 [49] := Kd.sub_iso _ (Kd.sub_pair (Kd.sub_const _ (by decide)) (Kd.sub_pair (Kd.sub_const _ (by decide)) (Kd.sub_slice 49 (by decide) Kd.sub_id)))
theorem sz49 : ∀ n, (Kd.upto F49 5 [49] n).sz = 5 := Kd.upto_sz (fun _ => rfl)
def k49 : Kd S49 := Kd.fix F49 5 [49] sz49 (Kd.upto_E sub49)
theorem k49_open {w : World} {x : S49} {cs : List Value} (h : k49.K w x cs) : ∃ A4 c4, cs = [.int .i64 x.f0.f0, .int .i64 x.f0.f1, .int .i64 x.f0.f2, .int .i64 x.f1, .slice A4 x.f2.length c4] ∧ x.f2.length ≤ c4 ∧ k49.C w A4 x.f2.length x.f2 := by
  obtain ⟨n, h⟩ := h
  cases n with
  | zero => exact h.elim
  | succ n =>
    obtain ⟨_, _, rfl, s0, ⟨_, _, rfl, rfl, ⟨A4, c4, rfl, l4, g4⟩⟩⟩ := h
    obtain rfl := k43_open s0
    exact ⟨A4, c4, rfl, l4, Kd.fix_C g4⟩
theorem k49_mk (w : World) (x : S49) {A4 : Option Addr} {c4 : Nat} (l4 : x.f2.length ≤ c4) (g4 : k49.C w A4 x.f2.length x.f2) : k49.K w x [.int .i64 x.f0.f0, .int .i64 x.f0.f1, .int .i64 x.f0.f2, .int .i64 x.f1, .slice A4 x.f2.length c4] := by
  obtain ⟨n4, q4⟩ := Kd.fix_C_back mono49 g4
  have r4 := Kd.upto_C_le mono49 sz49 (show n4 ≤ n4 by omega) q4
  exact ⟨n4 + 1, ⟨[.int .i64 x.f0.f0, .int .i64 x.f0.f1, .int .i64 x.f0.f2], [.int .i64 x.f1, .slice A4 x.f2.length c4], rfl, (k43_mk w x.f0 ), ⟨[.int .i64 x.f1], [.slice A4 x.f2.length c4], rfl, rfl, ⟨A4, c4, rfl, l4, r4⟩⟩⟩⟩
def rd_T49 (xs : List S49) (i : Int) : S49 := xs.getD i.toNat z49
theorem at_T49 {w : World} {A : Option Addr} {n : Nat} {xs : List S49} (h : Kd.C k49 w A n xs) (i : Int) (h0 : 0 ≤ i) (h1 : i < n) : ∃ ad A4 c4, A = some ad ∧ w.cell? (ad.add (i.toNat * 5)) = some (.int .i64 (rd_T49 xs i).f0.f0) ∧ w.cell? ⟨(ad.add (i.toNat * 5)).block, (ad.add (i.toNat * 5)).off + 1, none⟩ = some (.int .i64 (rd_T49 xs i).f0.f1) ∧ w.cell? ⟨(ad.add (i.toNat * 5)).block, (ad.add (i.toNat * 5)).off + 2, none⟩ = some (.int .i64 (rd_T49 xs i).f0.f2) ∧ w.cell? ⟨(ad.add (i.toNat * 5)).block, (ad.add (i.toNat * 5)).off + 3, none⟩ = some (.int .i64 (rd_T49 xs i).f1) ∧ w.cell? ⟨(ad.add (i.toNat * 5)).block, (ad.add (i.toNat * 5)).off + 4, none⟩ = some (.slice A4 (rd_T49 xs i).f2.length c4) ∧ (rd_T49 xs i).f2.length ≤ c4 ∧ k49.C w A4 (rd_T49 xs i).f2.length (rd_T49 xs i).f2 := by
  obtain ⟨ad, c, e, _, hK, hc0⟩ := Kd.C_get h z49 i h0 h1
  have hc : ∀ j u, c[j]? = some u → w.cell? (ad.add (i.toNat * 5 + j)) = some u := hc0
  obtain ⟨A4, c4, rfl, l4, g4⟩ := k49_open hK
  exact ⟨ad, A4, c4, e, hc 0 _ rfl, by rw [← add_field _ _ 1 (by omega)]; exact hc 1 _ rfl, by rw [← add_field _ _ 2 (by omega)]; exact hc 2 _ rfl, by rw [← add_field _ _ 3 (by omega)]; exact hc 3 _ rfl, by rw [← add_field _ _ 4 (by omega)]; exact hc 4 _ rfl, l4, g4⟩
structure S55 where
  f0 : Int
  f1 : ByteArray
  f2 : Int
def z55 : S55 := ⟨(0 : Int), (⟨#[]⟩ : ByteArray), (0 : Int)⟩
def k55 : Kd S55 := Kd.iso (Kd.pair (Kd.int .i64) (Kd.pair Kd.string (Kd.int .i64))) (fun x : S55 => (x.f0, x.f1, x.f2))
theorem k55_open {w : World} {x : S55} {cs : List Value} (h : k55.K w x cs) : cs = [.int .i64 x.f0, .string x.f1, .int .i64 x.f2] := by
  obtain ⟨_, _, rfl, rfl, ⟨_, _, rfl, rfl, rfl⟩⟩ := h
  exact rfl
theorem k55_mk (w : World) (x : S55)  : k55.K w x [.int .i64 x.f0, .string x.f1, .int .i64 x.f2] := ⟨[.int .i64 x.f0], [.string x.f1, .int .i64 x.f2], rfl, rfl, ⟨[.string x.f1], [.int .i64 x.f2], rfl, rfl, rfl⟩⟩
theorem k55_mkM (w : World) (base : Nat) (ok : Nat → Prop) (x : S55)  : k55.M w base ok x [.int .i64 x.f0, .string x.f1, .int .i64 x.f2] := ⟨[.int .i64 x.f0], [.string x.f1, .int .i64 x.f2], rfl, rfl, ⟨[.string x.f1], [.int .i64 x.f2], rfl, rfl, rfl⟩⟩
def rd_T55 (xs : List S55) (i : Int) : S55 := xs.getD i.toNat z55
theorem at_T55 {w : World} {A : Option Addr} {n : Nat} {xs : List S55} (h : Kd.C k55 w A n xs) (i : Int) (h0 : 0 ≤ i) (h1 : i < n) : ∃ ad , A = some ad ∧ w.cell? (ad.add (i.toNat * 3)) = some (.int .i64 (rd_T55 xs i).f0) ∧ w.cell? ⟨(ad.add (i.toNat * 3)).block, (ad.add (i.toNat * 3)).off + 1, none⟩ = some (.string (rd_T55 xs i).f1) ∧ w.cell? ⟨(ad.add (i.toNat * 3)).block, (ad.add (i.toNat * 3)).off + 2, none⟩ = some (.int .i64 (rd_T55 xs i).f2) := by
  obtain ⟨ad, c, e, _, hK, hc0⟩ := Kd.C_get h z55 i h0 h1
  have hc : ∀ j u, c[j]? = some u → w.cell? (ad.add (i.toNat * 3 + j)) = some u := hc0
  obtain rfl := k55_open hK
  exact ⟨ad, e, hc 0 _ rfl, by rw [← add_field _ _ 1 (by omega)]; exact hc 1 _ rfl, by rw [← add_field _ _ 2 (by omega)]; exact hc 2 _ rfl⟩
structure S69 where
  f0 : S55
  f1 : Int
  f2 : (List S69)
def z69 : S69 := ⟨z55, (0 : Int), ([] : List S69)⟩
def F69 (d : Kd S69) : Kd S69 := Kd.iso (Kd.pair k55 (Kd.pair (Kd.int .i64) (Kd.slice 69 d))) (fun x : S69 => (x.f0, x.f1, x.f2))
theorem mono69 : Kd.Mono F69 := Kd.mono_iso _ (Kd.mono_pair (Kd.mono_const _) (Kd.mono_pair (Kd.mono_const _) (Kd.mono_slice 69 Kd.mono_id)))
theorem sub69 : Kd.Sub F69 [69] := Kd.sub_iso _ (Kd.sub_pair (Kd.sub_const _ (by decide)) (Kd.sub_pair (Kd.sub_const _ (by decide)) (Kd.sub_slice 69 (by decide) Kd.sub_id)))
theorem sz69 : ∀ n, (Kd.upto F69 5 [69] n).sz = 5 := Kd.upto_sz (fun _ => rfl)
def k69 : Kd S69 := Kd.fix F69 5 [69] sz69 (Kd.upto_E sub69)
theorem k69_open {w : World} {x : S69} {cs : List Value} (h : k69.K w x cs) : ∃ A4 c4, cs = [.int .i64 x.f0.f0, .string x.f0.f1, .int .i64 x.f0.f2, .int .i64 x.f1, .slice A4 x.f2.length c4] ∧ x.f2.length ≤ c4 ∧ k69.C w A4 x.f2.length x.f2 := by
  obtain ⟨n, h⟩ := h
  cases n with
  | zero => exact h.elim
  | succ n =>
    obtain ⟨_, _, rfl, s0, ⟨_, _, rfl, rfl, ⟨A4, c4, rfl, l4, g4⟩⟩⟩ := h
    obtain rfl := k55_open s0
    exact ⟨A4, c4, rfl, l4, Kd.fix_C g4⟩
theorem k69_mk (w : World) (x : S69) {A4 : Option Addr} {c4 : Nat} (l4 : x.f2.length ≤ c4) (g4 : k69.C w A4 x.f2.length x.f2) : k69.K w x [.int .i64 x.f0.f0, .string x.f0.f1, .int .i64 x.f0.f2, .int .i64 x.f1, .slice A4 x.f2.length c4] := by
  obtain ⟨n4, q4⟩ := Kd.fix_C_back mono69 g4
  have r4 := Kd.upto_C_le mono69 sz69 (show n4 ≤ n4 by omega) q4
  exact ⟨n4 + 1, ⟨[.int .i64 x.f0.f0, .string x.f0.f1, .int .i64 x.f0.f2], [.int .i64 x.f1, .slice A4 x.f2.length c4], rfl, (k55_mk w x.f0 ), ⟨[.int .i64 x.f1], [.slice A4 x.f2.length c4], rfl, rfl, ⟨A4, c4, rfl, l4, r4⟩⟩⟩⟩
theorem k69_mkF (W : World) (ok : Nat → Prop) (x : S69) {A4 : Option Addr} {c4 : Nat} (l4 : x.f2.length ≤ c4) (g4 : Kd.F k69 W ok A4 x.f2.length x.f2) : Kd.FK k69 W ok x [.int .i64 x.f0.f0, .string x.f0.f1, .int .i64 x.f0.f2, .int .i64 x.f1, .slice A4 x.f2.length c4] := fun W2 hW => k69_mk W2 x l4 (g4 W2 hW)
def rd_T69 (xs : List S69) (i : Int) : S69 := xs.getD i.toNat z69
theorem at_T69 {w : World} {A : Option Addr} {n : Nat} {xs : List S69} (h : Kd.C k69 w A n xs) (i : Int) (h0 : 0 ≤ i) (h1 : i < n) : ∃ ad A4 c4, A = some ad ∧ w.cell? (ad.add (i.toNat * 5)) = some (.int .i64 (rd_T69 xs i).f0.f0) ∧ w.cell? ⟨(ad.add (i.toNat * 5)).block, (ad.add (i.toNat * 5)).off + 1, none⟩ = some (.string (rd_T69 xs i).f0.f1) ∧ w.cell? ⟨(ad.add (i.toNat * 5)).block, (ad.add (i.toNat * 5)).off + 2, none⟩ = some (.int .i64 (rd_T69 xs i).f0.f2) ∧ w.cell? ⟨(ad.add (i.toNat * 5)).block, (ad.add (i.toNat * 5)).off + 3, none⟩ = some (.int .i64 (rd_T69 xs i).f1) ∧ w.cell? ⟨(ad.add (i.toNat * 5)).block, (ad.add (i.toNat * 5)).off + 4, none⟩ = some (.slice A4 (rd_T69 xs i).f2.length c4) ∧ (rd_T69 xs i).f2.length ≤ c4 ∧ k69.C w A4 (rd_T69 xs i).f2.length (rd_T69 xs i).f2 := by
  obtain ⟨ad, c, e, _, hK, hc0⟩ := Kd.C_get h z69 i h0 h1
  have hc : ∀ j u, c[j]? = some u → w.cell? (ad.add (i.toNat * 5 + j)) = some u := hc0
  obtain ⟨A4, c4, rfl, l4, g4⟩ := k69_open hK
  exact ⟨ad, A4, c4, e, hc 0 _ rfl, by rw [← add_field _ _ 1 (by omega)]; exact hc 1 _ rfl, by rw [← add_field _ _ 2 (by omega)]; exact hc 2 _ rfl, by rw [← add_field _ _ 3 (by omega)]; exact hc 3 _ rfl, by rw [← add_field _ _ 4 (by omega)]; exact hc 4 _ rfl, l4, g4⟩
structure S46 where
  f0 : Int
  f1 : (List S43)
def z46 : S46 := ⟨(0 : Int), ([] : List S43)⟩
structure S51 where
  f0 : Int
  f1 : Int
  f2 : S46
  f3 : S43
  f4 : S43
  f5 : S49
def z51 : S51 := ⟨(0 : Int), (0 : Int), z46, z43, z43, z49⟩
structure S61 where
  f0 : ByteArray
  f1 : (List S55)
def z61 : S61 := ⟨(⟨#[]⟩ : ByteArray), ([] : List S55)⟩
def k61 : Kd S61 := Kd.iso (Kd.pair Kd.string (Kd.slice 55 k55)) (fun x : S61 => (x.f0, x.f1))
theorem k61_open {w : World} {x : S61} {cs : List Value} (h : k61.K w x cs) : ∃ A1 c1, cs = [.string x.f0, .slice A1 x.f1.length c1] ∧ x.f1.length ≤ c1 ∧ k55.C w A1 x.f1.length x.f1 := by
  obtain ⟨_, _, rfl, rfl, ⟨A1, c1, rfl, l1, g1⟩⟩ := h
  exact ⟨A1, c1, rfl, l1, g1⟩
theorem k61_mk (w : World) (x : S61) {A1 : Option Addr} {c1 : Nat} (l1 : x.f1.length ≤ c1) (g1 : k55.C w A1 x.f1.length x.f1) : k61.K w x [.string x.f0, .slice A1 x.f1.length c1] := ⟨[.string x.f0], [.slice A1 x.f1.length c1], rfl, rfl, ⟨A1, c1, rfl, l1, g1⟩⟩
structure S71 where
  f0 : Int
  f1 : S61
  f2 : Int
  f3 : S55
  f4 : S55
  f5 : ByteArray
  f6 : S69
def z71 : S71 := ⟨(0 : Int), z61, (0 : Int), z55, z55, (⟨#[]⟩ : ByteArray), z69⟩
def k71 : Kd S71 := Kd.iso (Kd.pair (Kd.int .i64) (Kd.pair k61 (Kd.pair (Kd.int .i64) (Kd.pair k55 (Kd.pair k55 (Kd.pair Kd.string k69)))))) (fun x : S71 => (x.f0, x.f1, x.f2, x.f3, x.f4, x.f5, x.f6))
theorem k71_open {w : World} {x : S71} {cs : List Value} (h : k71.K w x cs) : ∃ A2 c2 A15 c15, cs = [.int .i64 x.f0, .string x.f1.f0, .slice A2 x.f1.f1.length c2, .int .i64 x.f2, .int .i64 x.f3.f0, .string x.f3.f1, .int .i64 x.f3.f2, .int .i64 x.f4.f0, .string x.f4.f1, .int .i64 x.f4.f2, .string x.f5, .int .i64 x.f6.f0.f0, .string x.f6.f0.f1, .int .i64 x.f6.f0.f2, .int .i64 x.f6.f1, .slice A15 x.f6.f2.length c15] ∧ x.f1.f1.length ≤ c2 ∧ k55.C w A2 x.f1.f1.length x.f1.f1 ∧ x.f6.f2.length ≤ c15 ∧ k69.C w A15 x.f6.f2.length x.f6.f2 := by
  obtain ⟨_, _, rfl, rfl, ⟨_, _, rfl, s1, ⟨_, _, rfl, rfl, ⟨_, _, rfl, s4, ⟨_, _, rfl, s7, ⟨_, _, rfl, rfl, s11⟩⟩⟩⟩⟩⟩ := h
  obtain ⟨A2, c2, rfl, l2, g2⟩ := k61_open s1
  obtain rfl := k55_open s4
  obtain rfl := k55_open s7
  obtain ⟨A15, c15, rfl, l15, g15⟩ := k69_open s11
  exact ⟨A2, c2, A15, c15, rfl, l2, g2, l15, g15⟩
theorem k71_mk (w : World) (x : S71) {A2 : Option Addr} {c2 : Nat} (l2 : x.f1.f1.length ≤ c2) (g2 : k55.C w A2 x.f1.f1.length x.f1.f1) {A15 : Option Addr} {c15 : Nat} (l15 : x.f6.f2.length ≤ c15) (g15 : k69.C w A15 x.f6.f2.length x.f6.f2) : k71.K w x [.int .i64 x.f0, .string x.f1.f0, .slice A2 x.f1.f1.length c2, .int .i64 x.f2, .int .i64 x.f3.f0, .string x.f3.f1, .int .i64 x.f3.f2, .int .i64 x.f4.f0, .string x.f4.f1, .int .i64 x.f4.f2, .string x.f5, .int .i64 x.f6.f0.f0, .string x.f6.f0.f1, .int .i64 x.f6.f0.f2, .int .i64 x.f6.f1, .slice A15 x.f6.f2.length c15] := ⟨[.int .i64 x.f0], [.string x.f1.f0, .slice A2 x.f1.f1.length c2, .int .i64 x.f2, .int .i64 x.f3.f0, .string x.f3.f1, .int .i64 x.f3.f2, .int .i64 x.f4.f0, .string x.f4.f1, .int .i64 x.f4.f2, .string x.f5, .int .i64 x.f6.f0.f0, .string x.f6.f0.f1, .int .i64 x.f6.f0.f2, .int .i64 x.f6.f1, .slice A15 x.f6.f2.length c15], rfl, rfl, ⟨[.string x.f1.f0, .slice A2 x.f1.f1.length c2], [.int .i64 x.f2, .int .i64 x.f3.f0, .string x.f3.f1, .int .i64 x.f3.f2, .int .i64 x.f4.f0, .string x.f4.f1, .int .i64 x.f4.f2, .string x.f5, .int .i64 x.f6.f0.f0, .string x.f6.f0.f1, .int .i64 x.f6.f0.f2, .int .i64 x.f6.f1, .slice A15 x.f6.f2.length c15], rfl, (k61_mk w x.f1 l2 g2), ⟨[.int .i64 x.f2], [.int .i64 x.f3.f0, .string x.f3.f1, .int .i64 x.f3.f2, .int .i64 x.f4.f0, .string x.f4.f1, .int .i64 x.f4.f2, .string x.f5, .int .i64 x.f6.f0.f0, .string x.f6.f0.f1, .int .i64 x.f6.f0.f2, .int .i64 x.f6.f1, .slice A15 x.f6.f2.length c15], rfl, rfl, ⟨[.int .i64 x.f3.f0, .string x.f3.f1, .int .i64 x.f3.f2], [.int .i64 x.f4.f0, .string x.f4.f1, .int .i64 x.f4.f2, .string x.f5, .int .i64 x.f6.f0.f0, .string x.f6.f0.f1, .int .i64 x.f6.f0.f2, .int .i64 x.f6.f1, .slice A15 x.f6.f2.length c15], rfl, (k55_mk w x.f3 ), ⟨[.int .i64 x.f4.f0, .string x.f4.f1, .int .i64 x.f4.f2], [.string x.f5, .int .i64 x.f6.f0.f0, .string x.f6.f0.f1, .int .i64 x.f6.f0.f2, .int .i64 x.f6.f1, .slice A15 x.f6.f2.length c15], rfl, (k55_mk w x.f4 ), ⟨[.string x.f5], [.int .i64 x.f6.f0.f0, .string x.f6.f0.f1, .int .i64 x.f6.f0.f2, .int .i64 x.f6.f1, .slice A15 x.f6.f2.length c15], rfl, rfl, (k69_mk w x.f6 l15 g15)⟩⟩⟩⟩⟩⟩
def rd_T71 (xs : List S71) (i : Int) : S71 := xs.getD i.toNat z71
theorem at_T71 {w : World} {A : Option Addr} {n : Nat} {xs : List S71} (h : Kd.C k71 w A n xs) (i : Int) (h0 : 0 ≤ i) (h1 : i < n) : ∃ ad A2 c2 A15 c15, A = some ad ∧ w.cell? (ad.add (i.toNat * 16)) = some (.int .i64 (rd_T71 xs i).f0) ∧ w.cell? ⟨(ad.add (i.toNat * 16)).block, (ad.add (i.toNat * 16)).off + 1, none⟩ = some (.string (rd_T71 xs i).f1.f0) ∧ w.cell? ⟨(ad.add (i.toNat * 16)).block, (ad.add (i.toNat * 16)).off + 2, none⟩ = some (.slice A2 (rd_T71 xs i).f1.f1.length c2) ∧ w.cell? ⟨(ad.add (i.toNat * 16)).block, (ad.add (i.toNat * 16)).off + 3, none⟩ = some (.int .i64 (rd_T71 xs i).f2) ∧ w.cell? ⟨(ad.add (i.toNat * 16)).block, (ad.add (i.toNat * 16)).off + 4, none⟩ = some (.int .i64 (rd_T71 xs i).f3.f0) ∧ w.cell? ⟨(ad.add (i.toNat * 16)).block, (ad.add (i.toNat * 16)).off + 5, none⟩ = some (.string (rd_T71 xs i).f3.f1) ∧ w.cell? ⟨(ad.add (i.toNat * 16)).block, (ad.add (i.toNat * 16)).off + 6, none⟩ = some (.int .i64 (rd_T71 xs i).f3.f2) ∧ w.cell? ⟨(ad.add (i.toNat * 16)).block, (ad.add (i.toNat * 16)).off + 7, none⟩ = some (.int .i64 (rd_T71 xs i).f4.f0) ∧ w.cell? ⟨(ad.add (i.toNat * 16)).block, (ad.add (i.toNat * 16)).off + 8, none⟩ = some (.string (rd_T71 xs i).f4.f1) ∧ w.cell? ⟨(ad.add (i.toNat * 16)).block, (ad.add (i.toNat * 16)).off + 9, none⟩ = some (.int .i64 (rd_T71 xs i).f4.f2) ∧ w.cell? ⟨(ad.add (i.toNat * 16)).block, (ad.add (i.toNat * 16)).off + 10, none⟩ = some (.string (rd_T71 xs i).f5) ∧ w.cell? ⟨(ad.add (i.toNat * 16)).block, (ad.add (i.toNat * 16)).off + 11, none⟩ = some (.int .i64 (rd_T71 xs i).f6.f0.f0) ∧ w.cell? ⟨(ad.add (i.toNat * 16)).block, (ad.add (i.toNat * 16)).off + 12, none⟩ = some (.string (rd_T71 xs i).f6.f0.f1) ∧ w.cell? ⟨(ad.add (i.toNat * 16)).block, (ad.add (i.toNat * 16)).off + 13, none⟩ = some (.int .i64 (rd_T71 xs i).f6.f0.f2) ∧ w.cell? ⟨(ad.add (i.toNat * 16)).block, (ad.add (i.toNat * 16)).off + 14, none⟩ = some (.int .i64 (rd_T71 xs i).f6.f1) ∧ w.cell? ⟨(ad.add (i.toNat * 16)).block, (ad.add (i.toNat * 16)).off + 15, none⟩ = some (.slice A15 (rd_T71 xs i).f6.f2.length c15) ∧ (rd_T71 xs i).f1.f1.length ≤ c2 ∧ k55.C w A2 (rd_T71 xs i).f1.f1.length (rd_T71 xs i).f1.f1 ∧ (rd_T71 xs i).f6.f2.length ≤ c15 ∧ k69.C w A15 (rd_T71 xs i).f6.f2.length (rd_T71 xs i).f6.f2 := by
  obtain ⟨ad, c, e, _, hK, hc0⟩ := Kd.C_get h z71 i h0 h1
  have hc : ∀ j u, c[j]? = some u → w.cell? (ad.add (i.toNat * 16 + j)) = some u := hc0
  obtain ⟨A2, c2, A15, c15, rfl, l2, g2, l15, g15⟩ := k71_open hK
  exact ⟨ad, A2, c2, A15, c15, e, hc 0 _ rfl, by rw [← add_field _ _ 1 (by omega)]; exact hc 1 _ rfl, by rw [← add_field _ _ 2 (by omega)]; exact hc 2 _ rfl, by rw [← add_field _ _ 3 (by omega)]; exact hc 3 _ rfl, by rw [← add_field _ _ 4 (by omega)]; exact hc 4 _ rfl, by rw [← add_field _ _ 5 (by omega)]; exact hc 5 _ rfl, by rw [← add_field _ _ 6 (by omega)]; exact hc 6 _ rfl, by rw [← add_field _ _ 7 (by omega)]; exact hc 7 _ rfl, by rw [← add_field _ _ 8 (by omega)]; exact hc 8 _ rfl, by rw [← add_field _ _ 9 (by omega)]; exact hc 9 _ rfl, by rw [← add_field _ _ 10 (by omega)]; exact hc 10 _ rfl, by rw [← add_field _ _ 11 (by omega)]; exact hc 11 _ rfl, by rw [← add_field _ _ 12 (by omega)]; exact hc 12 _ rfl, by rw [← add_field _ _ 13 (by omega)]; exact hc 13 _ rfl, by rw [← add_field _ _ 14 (by omega)]; exact hc 14 _ rfl, by rw [← add_field _ _ 15 (by omega)]; exact hc 15 _ rfl, l2, g2, l15, g15⟩
end Go.Proofs.YtbcmkkphbkpapaaDoorPSP
