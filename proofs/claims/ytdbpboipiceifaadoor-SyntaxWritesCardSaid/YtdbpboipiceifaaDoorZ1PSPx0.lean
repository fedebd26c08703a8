import Derived.Test.YtdbpboipiceifaaDoorProg
import Derived.Below
import Derived.Deep.Draws
import Derived.Deep.AppendLies
import Derived.Maps.AppendAt
import Derived.OwnWalk
import Derived.Laws.BytesArg
import Derived.Laws.MakeOwn
import Derived.Laws.OwnMore
import Derived.Deep.OwnRows
import Derived.Tactics
import Derived.Lib.ConvBytes
import Derived.Laws.Slices
import Derived.WalkKit
import Derived.KernelRfl
import Derived.RowKit3
import Derived.Deep.LoopGhost
import Derived.Deep.QuietTactic
import Derived.BigQuiet
import Derived.WideLaws
import Derived.Deep.DeepCutAuto
import Derived.Deep.CutBlock
import Derived.Deep.RegionHeld3
import Derived.Laws.Rows
import Derived.Lib.AppendStr
import Derived.ArgAppend
import Derived.Laws.IdiomCopy
import Derived.OrdersHeld
import Derived.Laws.BitsLemmas
import Derived.RowKit
import Derived.Test.YtdbpboipiceifaaDoorZ1Term
import Derived.Test.YtdbpboipiceifaaDoorZ1Conc
import Derived.Test.YtdbpboipiceifaaDoorZ1W1
namespace Go.Proofs.YtdbpboipiceifaaDoorPSP
open Go.RowKit Go.Proofs.YtdbpboipiceifaaDoorW.PrintWords Go.Proofs.YtdbpboipiceifaaDoorW.PrintLast Go.Proofs.YtdbpboipiceifaaDoorW.PrintMore
theorem sA_ {α : Type} {l : List α} {i : Nat} {a : α} : l.toArray.setIfInBounds i a = (l.set i a).toArray := List.setIfInBounds_toArray ..
theorem sZ_ {α : Type} {x : α} {xs : List α} {a : α} : (x :: xs).set 0 a = a :: xs := List.set_cons_zero
theorem aK_ {p : Prop} (h : p) : Aside0 p := ⟨h⟩
theorem wb_ (w : World) (a : Addr) {u : Value} (h : w.cell? a = some u) : a.block < w.heap.size := World.block_lt_of_cell? w _ h
theorem cX_ {W : World} {p a : Addr} {u : Value} {x : Option Value} (h : a.block ≠ p.block) (k : W.cell? a = x) : (W.setCell p u).cell? a = x := (cF_ h u).trans k
theorem b2_ {w : World} {g : Nat} {t : TypeId} {cs : Array Value} (h : w.heap[g]? = some (.cells cs t (0, 0))) (i : Nat) (u : Value) : (w.setCell ⟨g, i, none⟩ u).heap[g]? = some (.cells (cs.setIfInBounds i u) t (0, 0)) := blk_put h i u rfl
theorem eC_ {x : Option Obj} {t : TypeId} {cs cs' : Array Value} (h : x = some (.cells cs t (0, 0))) (e : cs = cs') : x = some (.cells cs' t (0, 0)) := e ▸ h
theorem sS_ {α : Type} {x : α} {xs : List α} {n : Nat} {a : α} : (x :: xs).set (n + 1) a = x :: xs.set n a := List.set_cons_succ
attribute [local go_sem] max2_int min2_int max_two min_two max_three min_three max_four min_four   -- for this text's walks alone
set_option linter.unusedVariables false
set_option linter.unusedSimpArgs false
def errW : Option Int → Value
 | none => .nilIface
 | some c => .iface 0 (.int .i64 c)
theorem errW_none : errW none = .nilIface := rfl
theorem errW_some (c : Int) : errW (some c) = .iface 0 (.int .i64 c) := rfl
theorem info9 : (Tryd.prog.info? 9).map (fun i => (i.zero, i.size, i.bytes)) = some (some (.string ⟨#[]⟩), 1, 16) := by kernel_rfl
theorem info53 : (Tryd.prog.info? 53).map (fun i => (i.zero, i.size, i.bytes)) = some (some (.agg #[(.int .i64 0), (.string ⟨#[]⟩), (.int .i64 0)]), 3, 32) := by kernel_rfl
theorem info59 : (Tryd.prog.info? 59).map (fun i => (i.zero, i.size, i.bytes)) = some (some (.agg #[(.int .i64 0), (.string ⟨#[]⟩), (.slice none 0 0), (.int .i64 0), (.int .i64 0), (.string ⟨#[]⟩), (.int .i64 0), (.int .i64 0), (.string ⟨#[]⟩), (.int .i64 0), (.string ⟨#[]⟩), (.int .i64 0), (.string ⟨#[]⟩), (.int .i64 0), (.int .i64 0), (.slice none 0 0)]), 16, 200) := by kernel_rfl
structure S81 where
 f0 : Int
 f1 : Int
 f2 : Int
def z81 : S81 := ⟨(0 : Int), (0 : Int), (0 : Int)⟩
def k81 : Kd S81 := Kd.iso (Kd.pair (Kd.int .i64) (Kd.pair (Kd.int .i64) (Kd.int .i64))) (fun x : S81 => (x.f0, x.f1, x.f2))
theorem k81_open {w : World} {x : S81} {cs : List Value} (h : k81.K w x cs) : cs = [.int .i64 x.f0, .int .i64 x.f1, .int .i64 x.f2] := by
 obtain ⟨_, _, rfl, rfl, ⟨_, _, rfl, rfl, rfl⟩⟩ := h
 exact rfl
theorem k81_mk (w : World) (x : S81)  : k81.K w x [.int .i64 x.f0, .int .i64 x.f1, .int .i64 x.f2] := ⟨[.int .i64 x.f0], [.int .i64 x.f1, .int .i64 x.f2], rfl, rfl, ⟨[.int .i64 x.f1], [.int .i64 x.f2], rfl, rfl, rfl⟩⟩
def rd_T81 (xs : List S81) (i : Int) : S81 := xs.getD i.toNat z81
theorem at_T81 {w : World} {A : Option Addr} {n : Nat} {xs : List S81} (h : Kd.C k81 w A n xs) (i : Int) (h0 : 0 ≤ i) (h1 : i < n) : ∃ ad , A = some ad ∧ w.cell? (ad.add (i.toNat * 3)) = some (.int .i64 (rd_T81 xs i).f0) ∧ w.cell? ⟨(ad.add (i.toNat * 3)).block, (ad.add (i.toNat * 3)).off + 1, none⟩ = some (.int .i64 (rd_T81 xs i).f1) ∧ w.cell? ⟨(ad.add (i.toNat * 3)).block, (ad.add (i.toNat * 3)).off + 2, none⟩ = some (.int .i64 (rd_T81 xs i).f2) := by
 obtain ⟨ad, c, e, _, hK, hc0⟩ := Kd.C_get h z81 i h0 h1
 have hc : ∀ j u, c[j]? = some u → w.cell? (ad.add (i.toNat * 3 + j)) = some u := hc0
 obtain rfl := k81_open hK
 exact ⟨ad, e, hc 0 _ rfl, by rw [← add_field _ _ 1 (by omega)]; exact hc 1 _ rfl, by rw [← add_field _ _ 2 (by omega)]; exact hc 2 _ rfl⟩
structure S84 where
 f0 : S81
 f1 : Int
 f2 : (List S84)
def z84 : S84 := ⟨z81, (0 : Int), ([] : List S84)⟩
def F84 (d : Kd S84) : Kd S84 := Kd.iso (Kd.pair k81 (Kd.pair (Kd.int .i64) (Kd.slice 84 d))) (fun x : S84 => (x.f0, x.f1, x.f2))
theorem mono84 : Kd.Mono F84 := Kd.mono_iso _ (Kd.mono_pair (Kd.mono_const _) (Kd.mono_pair (Kd.mono_const _) (Kd.mono_slice 84 Kd.mono_id)))
theorem sub84 : Kd.Sub F84 [84] := Kd.sub_iso _ (Kd.sub_pair (Kd.sub_const _ (by decide)) (Kd.sub_pair (Kd.sub_const _ (by decide)) (Kd.sub_slice 84 (by decide) Kd.sub_id)))
theorem sz84 : ∀ n, (Kd.upto F84 5 [84] n).sz = 5 := Kd.upto_sz (fun _ => rfl)
def k84 : Kd S84 := Kd.fix F84 5 [84] sz84 (Kd.upto_E sub84)
theorem k84_open {w : World} {x : S84} {cs : List Value} (h : k84.K w x cs) : ∃ A4 c4, cs = [.int .i64 x.f0.f0, .int .i64 x.f0.f1, .int .i64 x.f0.f2, .int .i64 x.f1, .slice A4 x.f2.length c4] ∧ x.f2.length ≤ c4 ∧ k84.C w A4 x.f2.length x.f2 := by
 obtain ⟨n, h⟩ := h
 cases n with
 | zero => exact h.elim
 | succ n =>
  obtain ⟨_, _, rfl, s0, ⟨_, _, rfl, rfl, ⟨A4, c4, rfl, l4, g4⟩⟩⟩ := h
  obtain rfl := k81_open s0
  exact ⟨A4, c4, rfl, l4, Kd.fix_C g4⟩
theorem k84_mk (w : World) (x : S84) {A4 : Option Addr} {c4 : Nat} (l4 : x.f2.length ≤ c4) (g4 : k84.C w A4 x.f2.length x.f2) : k84.K w x [.int .i64 x.f0.f0, .int .i64 x.f0.f1, .int .i64 x.f0.f2, .int .i64 x.f1, .slice A4 x.f2.length c4] := by
 obtain ⟨n4, q4⟩ := Kd.fix_C_back mono84 g4
 have r4 := Kd.upto_C_le mono84 sz84 (show n4 ≤ n4 by omega) q4
 exact ⟨n4 + 1, ⟨[.int .i64 x.f0.f0, .int .i64 x.f0.f1, .int .i64 x.f0.f2], [.int .i64 x.f1, .slice A4 x.f2.length c4], rfl, (k81_mk w x.f0 ), ⟨[.int .i64 x.f1], [.slice A4 x.f2.length c4], rfl, rfl, ⟨A4, c4, rfl, l4, r4⟩⟩⟩⟩
def rd_T84 (xs : List S84) (i : Int) : S84 := xs.getD i.toNat z84
theorem at_T84 {w : World} {A : Option Addr} {n : Nat} {xs : List S84} (h : Kd.C k84 w A n xs) (i : Int) (h0 : 0 ≤ i) (h1 : i < n) : ∃ ad A4 c4, A = some ad ∧ w.cell? (ad.add (i.toNat * 5)) = some (.int .i64 (rd_T84 xs i).f0.f0) ∧ w.cell? ⟨(ad.add (i.toNat * 5)).block, (ad.add (i.toNat * 5)).off + 1, none⟩ = some (.int .i64 (rd_T84 xs i).f0.f1) ∧ w.cell? ⟨(ad.add (i.toNat * 5)).block, (ad.add (i.toNat * 5)).off + 2, none⟩ = some (.int .i64 (rd_T84 xs i).f0.f2) ∧ w.cell? ⟨(ad.add (i.toNat * 5)).block, (ad.add (i.toNat * 5)).off + 3, none⟩ = some (.int .i64 (rd_T84 xs i).f1) ∧ w.cell? ⟨(ad.add (i.toNat * 5)).block, (ad.add (i.toNat * 5)).off + 4, none⟩ = some (.slice A4 (rd_T84 xs i).f2.length c4) ∧ (rd_T84 xs i).f2.length ≤ c4 ∧ k84.C w A4 (rd_T84 xs i).f2.length (rd_T84 xs i).f2 := by
 obtain ⟨ad, c, e, _, hK, hc0⟩ := Kd.C_get h z84 i h0 h1
 have hc : ∀ j u, c[j]? = some u → w.cell? (ad.add (i.toNat * 5 + j)) = some u := hc0
 obtain ⟨A4, c4, rfl, l4, g4⟩ := k84_open hK
 exact ⟨ad, A4, c4, e, hc 0 _ rfl, by rw [← add_field _ _ 1 (by omega)]; exact hc 1 _ rfl, by rw [← add_field _ _ 2 (by omega)]; exact hc 2 _ rfl, by rw [← add_field _ _ 3 (by omega)]; exact hc 3 _ rfl, by rw [← add_field _ _ 4 (by omega)]; exact hc 4 _ rfl, l4, g4⟩
structure S33 where
 f0 : Int
 f1 : (List S81)
def z33 : S33 := ⟨(0 : Int), ([] : List S81)⟩
def k33 : Kd S33 := Kd.iso (Kd.pair (Kd.int .i64) (Kd.slice 81 k81)) (fun x : S33 => (x.f0, x.f1))
theorem k33_open {w : World} {x : S33} {cs : List Value} (h : k33.K w x cs) : ∃ A1 c1, cs = [.int .i64 x.f0, .slice A1 x.f1.length c1] ∧ x.f1.length ≤ c1 ∧ k81.C w A1 x.f1.length x.f1 := by
 obtain ⟨_, _, rfl, rfl, ⟨A1, c1, rfl, l1, g1⟩⟩ := h
 exact ⟨A1, c1, rfl, l1, g1⟩
theorem k33_mk (w : World) (x : S33) {A1 : Option Addr} {c1 : Nat} (l1 : x.f1.length ≤ c1) (g1 : k81.C w A1 x.f1.length x.f1) : k33.K w x [.int .i64 x.f0, .slice A1 x.f1.length c1] := ⟨[.int .i64 x.f0], [.slice A1 x.f1.length c1], rfl, rfl, ⟨A1, c1, rfl, l1, g1⟩⟩
structure S86 where
 f0 : Int
 f1 : Int
 f2 : S33
 f3 : S81
 f4 : S81
 f5 : S84
def z86 : S86 := ⟨(0 : Int), (0 : Int), z33, z81, z81, z84⟩
def k86 : Kd S86 := Kd.iso (Kd.pair (Kd.int .i64) (Kd.pair (Kd.int .i64) (Kd.pair k33 (Kd.pair k81 (Kd.pair k81 k84))))) (fun x : S86 => (x.f0, x.f1, x.f2, x.f3, x.f4, x.f5))
theorem k86_open {w : World} {x : S86} {cs : List Value} (h : k86.K w x cs) : ∃ A3 c3 A14 c14, cs = [.int .i64 x.f0, .int .i64 x.f1, .int .i64 x.f2.f0, .slice A3 x.f2.f1.length c3, .int .i64 x.f3.f0, .int .i64 x.f3.f1, .int .i64 x.f3.f2, .int .i64 x.f4.f0, .int .i64 x.f4.f1, .int .i64 x.f4.f2, .int .i64 x.f5.f0.f0, .int .i64 x.f5.f0.f1, .int .i64 x.f5.f0.f2, .int .i64 x.f5.f1, .slice A14 x.f5.f2.length c14] ∧ x.f2.f1.length ≤ c3 ∧ k81.C w A3 x.f2.f1.length x.f2.f1 ∧ x.f5.f2.length ≤ c14 ∧ k84.C w A14 x.f5.f2.length x.f5.f2 := by
 obtain ⟨_, _, rfl, rfl, ⟨_, _, rfl, rfl, ⟨_, _, rfl, s2, ⟨_, _, rfl, s4, ⟨_, _, rfl, s7, s10⟩⟩⟩⟩⟩ := h
 obtain ⟨A3, c3, rfl, l3, g3⟩ := k33_open s2
 obtain rfl := k81_open s4
 obtain rfl := k81_open s7
 obtain ⟨A14, c14, rfl, l14, g14⟩ := k84_open s10
 exact ⟨A3, c3, A14, c14, rfl, l3, g3, l14, g14⟩
theorem k86_mk (w : World) (x : S86) {A3 : Option Addr} {c3 : Nat} (l3 : x.f2.f1.length ≤ c3) (g3 : k81.C w A3 x.f2.f1.length x.f2.f1) {A14 : Option Addr} {c14 : Nat} (l14 : x.f5.f2.length ≤ c14) (g14 : k84.C w A14 x.f5.f2.length x.f5.f2) : k86.K w x [.int .i64 x.f0, .int .i64 x.f1, .int .i64 x.f2.f0, .slice A3 x.f2.f1.length c3, .int .i64 x.f3.f0, .int .i64 x.f3.f1, .int .i64 x.f3.f2, .int .i64 x.f4.f0, .int .i64 x.f4.f1, .int .i64 x.f4.f2, .int .i64 x.f5.f0.f0, .int .i64 x.f5.f0.f1, .int .i64 x.f5.f0.f2, .int .i64 x.f5.f1, .slice A14 x.f5.f2.length c14] := ⟨[.int .i64 x.f0], [.int .i64 x.f1, .int .i64 x.f2.f0, .slice A3 x.f2.f1.length c3, .int .i64 x.f3.f0, .int .i64 x.f3.f1, .int .i64 x.f3.f2, .int .i64 x.f4.f0, .int .i64 x.f4.f1, .int .i64 x.f4.f2, .int .i64 x.f5.f0.f0, .int .i64 x.f5.f0.f1, .int .i64 x.f5.f0.f2, .int .i64 x.f5.f1, .slice A14 x.f5.f2.length c14], rfl, rfl, ⟨[.int .i64 x.f1], [.int .i64 x.f2.f0, .slice A3 x.f2.f1.length c3, .int .i64 x.f3.f0, .int .i64 x.f3.f1, .int .i64 x.f3.f2, .int .i64 x.f4.f0, .int .i64 x.f4.f1, .int .i64 x.f4.f2, .int .i64 x.f5.f0.f0, .int .i64 x.f5.f0.f1, .int .i64 x.f5.f0.f2, .int .i64 x.f5.f1, .slice A14 x.f5.f2.length c14], rfl, rfl, ⟨[.int .i64 x.f2.f0, .slice A3 x.f2.f1.length c3], [.int .i64 x.f3.f0, .int .i64 x.f3.f1, .int .i64 x.f3.f2, .int .i64 x.f4.f0, .int .i64 x.f4.f1, .int .i64 x.f4.f2, .int .i64 x.f5.f0.f0, .int .i64 x.f5.f0.f1, .int .i64 x.f5.f0.f2, .int .i64 x.f5.f1, .slice A14 x.f5.f2.length c14], rfl, (k33_mk w x.f2 l3 g3), ⟨[.int .i64 x.f3.f0, .int .i64 x.f3.f1, .int .i64 x.f3.f2], [.int .i64 x.f4.f0, .int .i64 x.f4.f1, .int .i64 x.f4.f2, .int .i64 x.f5.f0.f0, .int .i64 x.f5.f0.f1, .int .i64 x.f5.f0.f2, .int .i64 x.f5.f1, .slice A14 x.f5.f2.length c14], rfl, (k81_mk w x.f3 ), ⟨[.int .i64 x.f4.f0, .int .i64 x.f4.f1, .int .i64 x.f4.f2], [.int .i64 x.f5.f0.f0, .int .i64 x.f5.f0.f1, .int .i64 x.f5.f0.f2, .int .i64 x.f5.f1, .slice A14 x.f5.f2.length c14], rfl, (k81_mk w x.f4 ), (k84_mk w x.f5 l14 g14)⟩⟩⟩⟩⟩
def rd_T86 (xs : List S86) (i : Int) : S86 := xs.getD i.toNat z86
theorem at_T86 {w : World} {A : Option Addr} {n : Nat} {xs : List S86} (h : Kd.C k86 w A n xs) (i : Int) (h0 : 0 ≤ i) (h1 : i < n) : ∃ ad A3 c3 A14 c14, A = some ad ∧ w.cell? (ad.add (i.toNat * 15)) = some (.int .i64 (rd_T86 xs i).f0) ∧ w.cell? ⟨(ad.add (i.toNat * 15)).block, (ad.add (i.toNat * 15)).off + 1, none⟩ = some (.int .i64 (rd_T86 xs i).f1) ∧ w.cell? ⟨(ad.add (i.toNat * 15)).block, (ad.add (i.toNat * 15)).off + 2, none⟩ = some (.int .i64 (rd_T86 xs i).f2.f0) ∧ w.cell? ⟨(ad.add (i.toNat * 15)).block, (ad.add (i.toNat * 15)).off + 3, none⟩ = some (.slice A3 (rd_T86 xs i).f2.f1.length c3) ∧ w.cell? ⟨(ad.add (i.toNat * 15)).block, (ad.add (i.toNat * 15)).off + 4, none⟩ = some (.int .i64 (rd_T86 xs i).f3.f0) ∧ w.cell? ⟨(ad.add (i.toNat * 15)).block, (ad.add (i.toNat * 15)).off + 5, none⟩ = some (.int .i64 (rd_T86 xs i).f3.f1) ∧ w.cell? ⟨(ad.add (i.toNat * 15)).block, (ad.add (i.toNat * 15)).off + 6, none⟩ = some (.int .i64 (rd_T86 xs i).f3.f2) ∧ w.cell? ⟨(ad.add (i.toNat * 15)).block, (ad.add (i.toNat * 15)).off + 7, none⟩ = some (.int .i64 (rd_T86 xs i).f4.f0) ∧ w.cell? ⟨(ad.add (i.toNat * 15)).block, (ad.add (i.toNat * 15)).off + 8, none⟩ = some (.int .i64 (rd_T86 xs i).f4.f1) ∧ w.cell? ⟨(ad.add (i.toNat * 15)).block, (ad.add (i.toNat * 15)).off + 9, none⟩ = some (.int .i64 (rd_T86 xs i).f4.f2) ∧ w.cell? ⟨(ad.add (i.toNat * 15)).block, (ad.add (i.toNat * 15)).off + 10, none⟩ = some (.int .i64 (rd_T86 xs i).f5.f0.f0) ∧ w.cell? ⟨(ad.add (i.toNat * 15)).block, (ad.add (i.toNat * 15)).off + 11, none⟩ = some (.int .i64 (rd_T86 xs i).f5.f0.f1) ∧ w.cell? ⟨(ad.add (i.toNat * 15)).block, (ad.add (i.toNat * 15)).off + 12, none⟩ = some (.int .i64 (rd_T86 xs i).f5.f0.f2) ∧ w.cell? ⟨(ad.add (i.toNat * 15)).block, (ad.add (i.toNat * 15)).off + 13, none⟩ = some (.int .i64 (rd_T86 xs i).f5.f1) ∧ w.cell? ⟨(ad.add (i.toNat * 15)).block, (ad.add (i.toNat * 15)).off + 14, none⟩ = some (.slice A14 (rd_T86 xs i).f5.f2.length c14) ∧ (rd_T86 xs i).f2.f1.length ≤ c3 ∧ k81.C w A3 (rd_T86 xs i).f2.f1.length (rd_T86 xs i).f2.f1 ∧ (rd_T86 xs i).f5.f2.length ≤ c14 ∧ k84.C w A14 (rd_T86 xs i).f5.f2.length (rd_T86 xs i).f5.f2 := by
 obtain ⟨ad, c, e, _, hK, hc0⟩ := Kd.C_get h z86 i h0 h1
 have hc : ∀ j u, c[j]? = some u → w.cell? (ad.add (i.toNat * 15 + j)) = some u := hc0
 obtain ⟨A3, c3, A14, c14, rfl, l3, g3, l14, g14⟩ := k86_open hK
 exact ⟨ad, A3, c3, A14, c14, e, hc 0 _ rfl, by rw [← add_field _ _ 1 (by omega)]; exact hc 1 _ rfl, by rw [← add_field _ _ 2 (by omega)]; exact hc 2 _ rfl, by rw [← add_field _ _ 3 (by omega)]; exact hc 3 _ rfl, by rw [← add_field _ _ 4 (by omega)]; exact hc 4 _ rfl, by rw [← add_field _ _ 5 (by omega)]; exact hc 5 _ rfl, by rw [← add_field _ _ 6 (by omega)]; exact hc 6 _ rfl, by rw [← add_field _ _ 7 (by omega)]; exact hc 7 _ rfl, by rw [← add_field _ _ 8 (by omega)]; exact hc 8 _ rfl, by rw [← add_field _ _ 9 (by omega)]; exact hc 9 _ rfl, by rw [← add_field _ _ 10 (by omega)]; exact hc 10 _ rfl, by rw [← add_field _ _ 11 (by omega)]; exact hc 11 _ rfl, by rw [← add_field _ _ 12 (by omega)]; exact hc 12 _ rfl, by rw [← add_field _ _ 13 (by omega)]; exact hc 13 _ rfl, by rw [← add_field _ _ 14 (by omega)]; exact hc 14 _ rfl, l3, g3, l14, g14⟩
structure S36 where
 f0 : S33
 f1 : Int
 f2 : (List S86)
def z36 : S36 := ⟨z33, (0 : Int), ([] : List S86)⟩
def k36 : Kd S36 := Kd.iso (Kd.pair k33 (Kd.pair (Kd.int .i64) (Kd.slice 86 k86))) (fun x : S36 => (x.f0, x.f1, x.f2))
theorem k36_open {w : World} {x : S36} {cs : List Value} (h : k36.K w x cs) : ∃ A1 c1 A3 c3, cs = [.int .i64 x.f0.f0, .slice A1 x.f0.f1.length c1, .int .i64 x.f1, .slice A3 x.f2.length c3] ∧ x.f0.f1.length ≤ c1 ∧ k81.C w A1 x.f0.f1.length x.f0.f1 ∧ x.f2.length ≤ c3 ∧ k86.C w A3 x.f2.length x.f2 := by
 obtain ⟨_, _, rfl, s0, ⟨_, _, rfl, rfl, ⟨A3, c3, rfl, l3, g3⟩⟩⟩ := h
 obtain ⟨A1, c1, rfl, l1, g1⟩ := k33_open s0
 exact ⟨A1, c1, A3, c3, rfl, l1, g1, l3, g3⟩
theorem k36_mk (w : World) (x : S36) {A1 : Option Addr} {c1 : Nat} (l1 : x.f0.f1.length ≤ c1) (g1 : k81.C w A1 x.f0.f1.length x.f0.f1) {A3 : Option Addr} {c3 : Nat} (l3 : x.f2.length ≤ c3) (g3 : k86.C w A3 x.f2.length x.f2) : k36.K w x [.int .i64 x.f0.f0, .slice A1 x.f0.f1.length c1, .int .i64 x.f1, .slice A3 x.f2.length c3] := ⟨[.int .i64 x.f0.f0, .slice A1 x.f0.f1.length c1], [.int .i64 x.f1, .slice A3 x.f2.length c3], rfl, (k33_mk w x.f0 l1 g1), ⟨[.int .i64 x.f1], [.slice A3 x.f2.length c3], rfl, rfl, ⟨A3, c3, rfl, l3, g3⟩⟩⟩
def rd_T36 (xs : List S36) (i : Int) : S36 := xs.getD i.toNat z36
theorem at_T36 {w : World} {A : Option Addr} {n : Nat} {xs : List S36} (h : Kd.C k36 w A n xs) (i : Int) (h0 : 0 ≤ i) (h1 : i < n) : ∃ ad A1 c1 A3 c3, A = some ad ∧ w.cell? (ad.add (i.toNat * 4)) = some (.int .i64 (rd_T36 xs i).f0.f0) ∧ w.cell? ⟨(ad.add (i.toNat * 4)).block, (ad.add (i.toNat * 4)).off + 1, none⟩ = some (.slice A1 (rd_T36 xs i).f0.f1.length c1) ∧ w.cell? ⟨(ad.add (i.toNat * 4)).block, (ad.add (i.toNat * 4)).off + 2, none⟩ = some (.int .i64 (rd_T36 xs i).f1) ∧ w.cell? ⟨(ad.add (i.toNat * 4)).block, (ad.add (i.toNat * 4)).off + 3, none⟩ = some (.slice A3 (rd_T36 xs i).f2.length c3) ∧ (rd_T36 xs i).f0.f1.length ≤ c1 ∧ k81.C w A1 (rd_T36 xs i).f0.f1.length (rd_T36 xs i).f0.f1 ∧ (rd_T36 xs i).f2.length ≤ c3 ∧ k86.C w A3 (rd_T36 xs i).f2.length (rd_T36 xs i).f2 := by
 obtain ⟨ad, c, e, _, hK, hc0⟩ := Kd.C_get h z36 i h0 h1
 have hc : ∀ j u, c[j]? = some u → w.cell? (ad.add (i.toNat * 4 + j)) = some u := hc0
 obtain ⟨A1, c1, A3, c3, rfl, l1, g1, l3, g3⟩ := k36_open hK
 exact ⟨ad, A1, c1, A3, c3, e, hc 0 _ rfl, by rw [← add_field _ _ 1 (by omega)]; exact hc 1 _ rfl, by rw [← add_field _ _ 2 (by omega)]; exact hc 2 _ rfl, by rw [← add_field _ _ 3 (by omega)]; exact hc 3 _ rfl, l1, g1, l3, g3⟩
structure S53 where
 f0 : Int
 f1 : ByteArray
 f2 : Int
def z53 : S53 := ⟨(0 : Int), (⟨#[]⟩ : ByteArray), (0 : Int)⟩
def k53 : Kd S53 := Kd.iso (Kd.pair (Kd.int .i64) (Kd.pair Kd.string (Kd.int .i64))) (fun x : S53 => (x.f0, x.f1, x.f2))
theorem k53_open {w : World} {x : S53} {cs : List Value} (h : k53.K w x cs) : cs = [.int .i64 x.f0, .string x.f1, .int .i64 x.f2] := by
 obtain ⟨_, _, rfl, rfl, ⟨_, _, rfl, rfl, rfl⟩⟩ := h
 exact rfl
theorem k53_openM {w : World} {base : Nat} {ok : Nat → Prop} {x : S53} {cs : List Value} (h : k53.M w base ok x cs) : cs = [.int .i64 x.f0, .string x.f1, .int .i64 x.f2] := by
 obtain ⟨_, _, rfl, rfl, ⟨_, _, rfl, rfl, rfl⟩⟩ := h
 exact rfl
theorem k53_mk (w : World) (x : S53)  : k53.K w x [.int .i64 x.f0, .string x.f1, .int .i64 x.f2] := ⟨[.int .i64 x.f0], [.string x.f1, .int .i64 x.f2], rfl, rfl, ⟨[.string x.f1], [.int .i64 x.f2], rfl, rfl, rfl⟩⟩
theorem k53_mkM (w : World) (base : Nat) (ok : Nat → Prop) (x : S53)  : k53.M w base ok x [.int .i64 x.f0, .string x.f1, .int .i64 x.f2] := ⟨[.int .i64 x.f0], [.string x.f1, .int .i64 x.f2], rfl, rfl, ⟨[.string x.f1], [.int .i64 x.f2], rfl, rfl, rfl⟩⟩
def rd_T53 (xs : List S53) (i : Int) : S53 := xs.getD i.toNat z53
theorem at_T53 {w : World} {A : Option Addr} {n : Nat} {xs : List S53} (h : Kd.C k53 w A n xs) (i : Int) (h0 : 0 ≤ i) (h1 : i < n) : ∃ ad , A = some ad ∧ w.cell? (ad.add (i.toNat * 3)) = some (.int .i64 (rd_T53 xs i).f0) ∧ w.cell? ⟨(ad.add (i.toNat * 3)).block, (ad.add (i.toNat * 3)).off + 1, none⟩ = some (.string (rd_T53 xs i).f1) ∧ w.cell? ⟨(ad.add (i.toNat * 3)).block, (ad.add (i.toNat * 3)).off + 2, none⟩ = some (.int .i64 (rd_T53 xs i).f2) := by
 obtain ⟨ad, c, e, _, hK, hc0⟩ := Kd.C_get h z53 i h0 h1
 have hc : ∀ j u, c[j]? = some u → w.cell? (ad.add (i.toNat * 3 + j)) = some u := hc0
 obtain rfl := k53_open hK
 exact ⟨ad, e, hc 0 _ rfl, by rw [← add_field _ _ 1 (by omega)]; exact hc 1 _ rfl, by rw [← add_field _ _ 2 (by omega)]; exact hc 2 _ rfl⟩
structure S57 where
 f0 : S53
 f1 : Int
 f2 : (List S57)
def z57 : S57 := ⟨z53, (0 : Int), ([] : List S57)⟩
def F57 (d : Kd S57) : Kd S57 := Kd.iso (Kd.pair k53 (Kd.pair (Kd.int .i64) (Kd.slice 57 d))) (fun x : S57 => (x.f0, x.f1, x.f2))
theorem mono57 : Kd.Mono F57 := Kd.mono_iso _ (Kd.mono_pair (Kd.mono_const _) (Kd.mono_pair (Kd.mono_const _) (Kd.mono_slice 57 Kd.mono_id)))
theorem sub57 : Kd.Sub F57 [57] := Kd.sub_iso _ (Kd.sub_pair (Kd.sub_const _ (by decide)) (Kd.sub_pair (Kd.sub_const _ (by decide)) (Kd.sub_slice 57 (by decide) Kd.sub_id)))
theorem sz57 : ∀ n, (Kd.upto F57 5 [57] n).sz = 5 := Kd.upto_sz (fun _ => rfl)
def k57 : Kd S57 := Kd.fix F57 5 [57] sz57 (Kd.upto_E sub57)
theorem k57_open {w : World} {x : S57} {cs : List Value} (h : k57.K w x cs) : ∃ A4 c4, cs = [.int .i64 x.f0.f0, .string x.f0.f1, .int .i64 x.f0.f2, .int .i64 x.f1, .slice A4 x.f2.length c4] ∧ x.f2.length ≤ c4 ∧ k57.C w A4 x.f2.length x.f2 := by
 obtain ⟨n, h⟩ := h
 cases n with
 | zero => exact h.elim
 | succ n =>
  obtain ⟨_, _, rfl, s0, ⟨_, _, rfl, rfl, ⟨A4, c4, rfl, l4, g4⟩⟩⟩ := h
  obtain rfl := k53_open s0
  exact ⟨A4, c4, rfl, l4, Kd.fix_C g4⟩
theorem k57_mk (w : World) (x : S57) {A4 : Option Addr} {c4 : Nat} (l4 : x.f2.length ≤ c4) (g4 : k57.C w A4 x.f2.length x.f2) : k57.K w x [.int .i64 x.f0.f0, .string x.f0.f1, .int .i64 x.f0.f2, .int .i64 x.f1, .slice A4 x.f2.length c4] := by
 obtain ⟨n4, q4⟩ := Kd.fix_C_back mono57 g4
 have r4 := Kd.upto_C_le mono57 sz57 (show n4 ≤ n4 by omega) q4
 exact ⟨n4 + 1, ⟨[.int .i64 x.f0.f0, .string x.f0.f1, .int .i64 x.f0.f2], [.int .i64 x.f1, .slice A4 x.f2.length c4], rfl, (k53_mk w x.f0 ), ⟨[.int .i64 x.f1], [.slice A4 x.f2.length c4], rfl, rfl, ⟨A4, c4, rfl, l4, r4⟩⟩⟩⟩
theorem k57_mkF (W : World) (ok : Nat → Prop) (x : S57) {A4 : Option Addr} {c4 : Nat} (l4 : x.f2.length ≤ c4) (g4 : Kd.F k57 W ok A4 x.f2.length x.f2) : Kd.FK k57 W ok x [.int .i64 x.f0.f0, .string x.f0.f1, .int .i64 x.f0.f2, .int .i64 x.f1, .slice A4 x.f2.length c4] := fun W2 hW => k57_mk W2 x l4 (g4 W2 hW)
def rd_T57 (xs : List S57) (i : Int) : S57 := xs.getD i.toNat z57
theorem at_T57 {w : World} {A : Option Addr} {n : Nat} {xs : List S57} (h : Kd.C k57 w A n xs) (i : Int) (h0 : 0 ≤ i) (h1 : i < n) : ∃ ad A4 c4, A = some ad ∧ w.cell? (ad.add (i.toNat * 5)) = some (.int .i64 (rd_T57 xs i).f0.f0) ∧ w.cell? ⟨(ad.add (i.toNat * 5)).block, (ad.add (i.toNat * 5)).off + 1, none⟩ = some (.string (rd_T57 xs i).f0.f1) ∧ w.cell? ⟨(ad.add (i.toNat * 5)).block, (ad.add (i.toNat * 5)).off + 2, none⟩ = some (.int .i64 (rd_T57 xs i).f0.f2) ∧ w.cell? ⟨(ad.add (i.toNat * 5)).block, (ad.add (i.toNat * 5)).off + 3, none⟩ = some (.int .i64 (rd_T57 xs i).f1) ∧ w.cell? ⟨(ad.add (i.toNat * 5)).block, (ad.add (i.toNat * 5)).off + 4, none⟩ = some (.slice A4 (rd_T57 xs i).f2.length c4) ∧ (rd_T57 xs i).f2.length ≤ c4 ∧ k57.C w A4 (rd_T57 xs i).f2.length (rd_T57 xs i).f2 := by
 obtain ⟨ad, c, e, _, hK, hc0⟩ := Kd.C_get h z57 i h0 h1
 have hc : ∀ j u, c[j]? = some u → w.cell? (ad.add (i.toNat * 5 + j)) = some u := hc0
 obtain ⟨A4, c4, rfl, l4, g4⟩ := k57_open hK
 exact ⟨ad, A4, c4, e, hc 0 _ rfl, by rw [← add_field _ _ 1 (by omega)]; exact hc 1 _ rfl, by rw [← add_field _ _ 2 (by omega)]; exact hc 2 _ rfl, by rw [← add_field _ _ 3 (by omega)]; exact hc 3 _ rfl, by rw [← add_field _ _ 4 (by omega)]; exact hc 4 _ rfl, l4, g4⟩
structure S39 where
 f0 : ByteArray
 f1 : (List S53)
def z39 : S39 := ⟨(⟨#[]⟩ : ByteArray), ([] : List S53)⟩
def k39 : Kd S39 := Kd.iso (Kd.pair Kd.string (Kd.slice 53 k53)) (fun x : S39 => (x.f0, x.f1))
theorem k39_open {w : World} {x : S39} {cs : List Value} (h : k39.K w x cs) : ∃ A1 c1, cs = [.string x.f0, .slice A1 x.f1.length c1] ∧ x.f1.length ≤ c1 ∧ k53.C w A1 x.f1.length x.f1 := by
 obtain ⟨_, _, rfl, rfl, ⟨A1, c1, rfl, l1, g1⟩⟩ := h
 exact ⟨A1, c1, rfl, l1, g1⟩
theorem k39_mk (w : World) (x : S39) {A1 : Option Addr} {c1 : Nat} (l1 : x.f1.length ≤ c1) (g1 : k53.C w A1 x.f1.length x.f1) : k39.K w x [.string x.f0, .slice A1 x.f1.length c1] := ⟨[.string x.f0], [.slice A1 x.f1.length c1], rfl, rfl, ⟨A1, c1, rfl, l1, g1⟩⟩
structure S59 where
 f0 : Int
 f1 : S39
 f2 : Int
 f3 : S53
 f4 : S53
 f5 : ByteArray
 f6 : S57
def z59 : S59 := ⟨(0 : Int), z39, (0 : Int), z53, z53, (⟨#[]⟩ : ByteArray), z57⟩
def k59 : Kd S59 := Kd.iso (Kd.pair (Kd.int .i64) (Kd.pair k39 (Kd.pair (Kd.int .i64) (Kd.pair k53 (Kd.pair k53 (Kd.pair Kd.string k57)))))) (fun x : S59 => (x.f0, x.f1, x.f2, x.f3, x.f4, x.f5, x.f6))
theorem k59_open {w : World} {x : S59} {cs : List Value} (h : k59.K w x cs) : ∃ A2 c2 A15 c15, cs = [.int .i64 x.f0, .string x.f1.f0, .slice A2 x.f1.f1.length c2, .int .i64 x.f2, .int .i64 x.f3.f0, .string x.f3.f1, .int .i64 x.f3.f2, .int .i64 x.f4.f0, .string x.f4.f1, .int .i64 x.f4.f2, .string x.f5, .int .i64 x.f6.f0.f0, .string x.f6.f0.f1, .int .i64 x.f6.f0.f2, .int .i64 x.f6.f1, .slice A15 x.f6.f2.length c15] ∧ x.f1.f1.length ≤ c2 ∧ k53.C w A2 x.f1.f1.length x.f1.f1 ∧ x.f6.f2.length ≤ c15 ∧ k57.C w A15 x.f6.f2.length x.f6.f2 := by
 obtain ⟨_, _, rfl, rfl, ⟨_, _, rfl, s1, ⟨_, _, rfl, rfl, ⟨_, _, rfl, s4, ⟨_, _, rfl, s7, ⟨_, _, rfl, rfl, s11⟩⟩⟩⟩⟩⟩ := h
 obtain ⟨A2, c2, rfl, l2, g2⟩ := k39_open s1
 obtain rfl := k53_open s4
 obtain rfl := k53_open s7
 obtain ⟨A15, c15, rfl, l15, g15⟩ := k57_open s11
 exact ⟨A2, c2, A15, c15, rfl, l2, g2, l15, g15⟩
theorem k59_mk (w : World) (x : S59) {A2 : Option Addr} {c2 : Nat} (l2 : x.f1.f1.length ≤ c2) (g2 : k53.C w A2 x.f1.f1.length x.f1.f1) {A15 : Option Addr} {c15 : Nat} (l15 : x.f6.f2.length ≤ c15) (g15 : k57.C w A15 x.f6.f2.length x.f6.f2) : k59.K w x [.int .i64 x.f0, .string x.f1.f0, .slice A2 x.f1.f1.length c2, .int .i64 x.f2, .int .i64 x.f3.f0, .string x.f3.f1, .int .i64 x.f3.f2, .int .i64 x.f4.f0, .string x.f4.f1, .int .i64 x.f4.f2, .string x.f5, .int .i64 x.f6.f0.f0, .string x.f6.f0.f1, .int .i64 x.f6.f0.f2, .int .i64 x.f6.f1, .slice A15 x.f6.f2.length c15] := ⟨[.int .i64 x.f0], [.string x.f1.f0, .slice A2 x.f1.f1.length c2, .int .i64 x.f2, .int .i64 x.f3.f0, .string x.f3.f1, .int .i64 x.f3.f2, .int .i64 x.f4.f0, .string x.f4.f1, .int .i64 x.f4.f2, .string x.f5, .int .i64 x.f6.f0.f0, .string x.f6.f0.f1, .int .i64 x.f6.f0.f2, .int .i64 x.f6.f1, .slice A15 x.f6.f2.length c15], rfl, rfl, ⟨[.string x.f1.f0, .slice A2 x.f1.f1.length c2], [.int .i64 x.f2, .int .i64 x.f3.f0, .string x.f3.f1, .int .i64 x.f3.f2, .int .i64 x.f4.f0, .string x.f4.f1, .int .i64 x.f4.f2, .string x.f5, .int .i64 x.f6.f0.f0, .string x.f6.f0.f1, .int .i64 x.f6.f0.f2, .int .i64 x.f6.f1, .slice A15 x.f6.f2.length c15], rfl, (k39_mk w x.f1 l2 g2), ⟨[.int .i64 x.f2], [.int .i64 x.f3.f0, .string x.f3.f1, .int .i64 x.f3.f2, .int .i64 x.f4.f0, .string x.f4.f1, .int .i64 x.f4.f2, .string x.f5, .int .i64 x.f6.f0.f0, .string x.f6.f0.f1, .int .i64 x.f6.f0.f2, .int .i64 x.f6.f1, .slice A15 x.f6.f2.length c15], rfl, rfl, ⟨[.int .i64 x.f3.f0, .string x.f3.f1, .int .i64 x.f3.f2], [.int .i64 x.f4.f0, .string x.f4.f1, .int .i64 x.f4.f2, .string x.f5, .int .i64 x.f6.f0.f0, .string x.f6.f0.f1, .int .i64 x.f6.f0.f2, .int .i64 x.f6.f1, .slice A15 x.f6.f2.length c15], rfl, (k53_mk w x.f3 ), ⟨[.int .i64 x.f4.f0, .string x.f4.f1, .int .i64 x.f4.f2], [.string x.f5, .int .i64 x.f6.f0.f0, .string x.f6.f0.f1, .int .i64 x.f6.f0.f2, .int .i64 x.f6.f1, .slice A15 x.f6.f2.length c15], rfl, (k53_mk w x.f4 ), ⟨[.string x.f5], [.int .i64 x.f6.f0.f0, .string x.f6.f0.f1, .int .i64 x.f6.f0.f2, .int .i64 x.f6.f1, .slice A15 x.f6.f2.length c15], rfl, rfl, (k57_mk w x.f6 l15 g15)⟩⟩⟩⟩⟩⟩
theorem k59_mkF (W : World) (ok : Nat → Prop) (x : S59) {A2 : Option Addr} {c2 : Nat} (l2 : x.f1.f1.length ≤ c2) (g2 : Kd.F k53 W ok A2 x.f1.f1.length x.f1.f1) {A15 : Option Addr} {c15 : Nat} (l15 : x.f6.f2.length ≤ c15) (g15 : Kd.F k57 W ok A15 x.f6.f2.length x.f6.f2) : Kd.FK k59 W ok x [.int .i64 x.f0, .string x.f1.f0, .slice A2 x.f1.f1.length c2, .int .i64 x.f2, .int .i64 x.f3.f0, .string x.f3.f1, .int .i64 x.f3.f2, .int .i64 x.f4.f0, .string x.f4.f1, .int .i64 x.f4.f2, .string x.f5, .int .i64 x.f6.f0.f0, .string x.f6.f0.f1, .int .i64 x.f6.f0.f2, .int .i64 x.f6.f1, .slice A15 x.f6.f2.length c15] := fun W2 hW => k59_mk W2 x l2 (g2 W2 hW) l15 (g15 W2 hW)
def rd_T59 (xs : List S59) (i : Int) : S59 := xs.getD i.toNat z59
theorem at_T59 {w : World} {A : Option Addr} {n : Nat} {xs : List S59} (h : Kd.C k59 w A n xs) (i : Int) (h0 : 0 ≤ i) (h1 : i < n) : ∃ ad A2 c2 A15 c15, A = some ad ∧ w.cell? (ad.add (i.toNat * 16)) = some (.int .i64 (rd_T59 xs i).f0) ∧ w.cell? ⟨(ad.add (i.toNat * 16)).block, (ad.add (i.toNat * 16)).off + 1, none⟩ = some (.string (rd_T59 xs i).f1.f0) ∧ w.cell? ⟨(ad.add (i.toNat * 16)).block, (ad.add (i.toNat * 16)).off + 2, none⟩ = some (.slice A2 (rd_T59 xs i).f1.f1.length c2) ∧ w.cell? ⟨(ad.add (i.toNat * 16)).block, (ad.add (i.toNat * 16)).off + 3, none⟩ = some (.int .i64 (rd_T59 xs i).f2) ∧ w.cell? ⟨(ad.add (i.toNat * 16)).block, (ad.add (i.toNat * 16)).off + 4, none⟩ = some (.int .i64 (rd_T59 xs i).f3.f0) ∧ w.cell? ⟨(ad.add (i.toNat * 16)).block, (ad.add (i.toNat * 16)).off + 5, none⟩ = some (.string (rd_T59 xs i).f3.f1) ∧ w.cell? ⟨(ad.add (i.toNat * 16)).block, (ad.add (i.toNat * 16)).off + 6, none⟩ = some (.int .i64 (rd_T59 xs i).f3.f2) ∧ w.cell? ⟨(ad.add (i.toNat * 16)).block, (ad.add (i.toNat * 16)).off + 7, none⟩ = some (.int .i64 (rd_T59 xs i).f4.f0) ∧ w.cell? ⟨(ad.add (i.toNat * 16)).block, (ad.add (i.toNat * 16)).off + 8, none⟩ = some (.string (rd_T59 xs i).f4.f1) ∧ w.cell? ⟨(ad.add (i.toNat * 16)).block, (ad.add (i.toNat * 16)).off + 9, none⟩ = some (.int .i64 (rd_T59 xs i).f4.f2) ∧ w.cell? ⟨(ad.add (i.toNat * 16)).block, (ad.add (i.toNat * 16)).off + 10, none⟩ = some (.string (rd_T59 xs i).f5) ∧ w.cell? ⟨(ad.add (i.toNat * 16)).block, (ad.add (i.toNat * 16)).off + 11, none⟩ = some (.int .i64 (rd_T59 xs i).f6.f0.f0) ∧ w.cell? ⟨(ad.add (i.toNat * 16)).block, (ad.add (i.toNat * 16)).off + 12, none⟩ = some (.string (rd_T59 xs i).f6.f0.f1) ∧ w.cell? ⟨(ad.add (i.toNat * 16)).block, (ad.add (i.toNat * 16)).off + 13, none⟩ = some (.int .i64 (rd_T59 xs i).f6.f0.f2) ∧ w.cell? ⟨(ad.add (i.toNat * 16)).block, (ad.add (i.toNat * 16)).off + 14, none⟩ = some (.int .i64 (rd_T59 xs i).f6.f1) ∧ w.cell? ⟨(ad.add (i.toNat * 16)).block, (ad.add (i.toNat * 16)).off + 15, none⟩ = some (.slice A15 (rd_T59 xs i).f6.f2.length c15) ∧ (rd_T59 xs i).f1.f1.length ≤ c2 ∧ k53.C w A2 (rd_T59 xs i).f1.f1.length (rd_T59 xs i).f1.f1 ∧ (rd_T59 xs i).f6.f2.length ≤ c15 ∧ k57.C w A15 (rd_T59 xs i).f6.f2.length (rd_T59 xs i).f6.f2 := by
 obtain ⟨ad, c, e, _, hK, hc0⟩ := Kd.C_get h z59 i h0 h1
 have hc : ∀ j u, c[j]? = some u → w.cell? (ad.add (i.toNat * 16 + j)) = some u := hc0
 obtain ⟨A2, c2, A15, c15, rfl, l2, g2, l15, g15⟩ := k59_open hK
 exact ⟨ad, A2, c2, A15, c15, e, hc 0 _ rfl, by rw [← add_field _ _ 1 (by omega)]; exact hc 1 _ rfl, by rw [← add_field _ _ 2 (by omega)]; exact hc 2 _ rfl, by rw [← add_field _ _ 3 (by omega)]; exact hc 3 _ rfl, by rw [← add_field _ _ 4 (by omega)]; exact hc 4 _ rfl, by rw [← add_field _ _ 5 (by omega)]; exact hc 5 _ rfl, by rw [← add_field _ _ 6 (by omega)]; exact hc 6 _ rfl, by rw [← add_field _ _ 7 (by omega)]; exact hc 7 _ rfl, by rw [← add_field _ _ 8 (by omega)]; exact hc 8 _ rfl, by rw [← add_field _ _ 9 (by omega)]; exact hc 9 _ rfl, by rw [← add_field _ _ 10 (by omega)]; exact hc 10 _ rfl, by rw [← add_field _ _ 11 (by omega)]; exact hc 11 _ rfl, by rw [← add_field _ _ 12 (by omega)]; exact hc 12 _ rfl, by rw [← add_field _ _ 13 (by omega)]; exact hc 13 _ rfl, by rw [← add_field _ _ 14 (by omega)]; exact hc 14 _ rfl, by rw [← add_field _ _ 15 (by omega)]; exact hc 15 _ rfl, l2, g2, l15, g15⟩
end Go.Proofs.YtdbpboipiceifaaDoorPSP
