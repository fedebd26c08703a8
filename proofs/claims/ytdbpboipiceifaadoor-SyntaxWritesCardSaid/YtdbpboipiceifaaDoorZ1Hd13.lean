import Derived.Test.YtdbpboipiceifaaDoorZ1PSPx15
import Derived.Test.YtdbpboipiceifaaDoorZ1Pl13p
set_option linter.unusedVariables false
set_option linter.unusedSimpArgs false
namespace Go.Proofs.YtdbpboipiceifaaDoorPSP
open Go.RowKit Go.Extern.Stop Go.Stop Go.Extern Go.Proofs.YtdbpboipiceifaaDoorW.PrintWords Go.Proofs.YtdbpboipiceifaaDoor
def hX : S53 := ⟨0, ⟨#[88]⟩, 0⟩
def hY : S53 := ⟨0, ⟨#[89]⟩, 0⟩
def hZ : S53 := ⟨0, ⟨#[90]⟩, 0⟩
def h1 : S57 := ⟨⟨1, ⟨#[]⟩, 1⟩, 0, []⟩
def h2 : S57 := ⟨⟨1, ⟨#[]⟩, 2⟩, 0, []⟩
def hAdd : S57 := ⟨⟨0, ⟨#[]⟩, 0⟩, 0, [⟨hZ, 0, []⟩, h1]⟩
def hMul : S57 := ⟨⟨0, ⟨#[]⟩, 0⟩, 2, [hAdd, h2]⟩
def hP1 : S59 := ⟨0, ⟨⟨#[113]⟩, [hX, hZ]⟩, 0, ⟨0, ⟨#[]⟩, 0⟩, ⟨0, ⟨#[]⟩, 0⟩, ⟨#[]⟩, ⟨⟨0, ⟨#[]⟩, 0⟩, 0, []⟩⟩
def hP2 : S59 := ⟨3, ⟨⟨#[]⟩, []⟩, 0, ⟨0, ⟨#[]⟩, 0⟩, ⟨0, ⟨#[]⟩, 0⟩, ⟨#[89]⟩, hMul⟩
theorem head_f : syntax_Rule_String.f 60 ⟨#[112]⟩ [hX, hY] 2 [hP1, hP2] 0 = some ⟨#[112, 40, 88, 44, 115, 117, 109, 60, 89, 62, 41, 32, 58, 45, 32, 113, 40, 88, 44, 90, 41, 44, 32, 89, 32, 58, 61, 32, 40, 90, 32, 43, 32, 49, 41, 32, 42, 32, 50, 46]⟩ := by kernel_rfl
theorem C_blk {α : Type} (d : Kd α) {w : World} {b t : Nat} {cs : Array Value} (hb : w.heap[b]? = some (.cells cs t)) (x0 x1 : α) (c0 c1 : List Value) (h0 : d.K w x0 c0) (h1 : d.K w x1 c1) (hcs : cs.toList = c0 ++ c1) :
    Kd.C d w (some ⟨b, 0, none⟩) [x0, x1].length [x0, x1] := by
  have l0 := d.K_len h0
  have l1 := d.K_len h1
  have key : ∀ k u, (c0 ++ c1)[k]? = some u → w.cell? (Addr.add ⟨b, 0, none⟩ k) = some u := fun k u hk => by
    have e : cs[k]? = some u := by rw [← hcs] at hk; simpa using hk
    have := bC hb k
    rw [e] at this
    unfold Addr.add
    split
    · rename_i h; subst h; exact this
    · rw [Nat.zero_add]; exact this
  refine ⟨rfl, (show 2 ≤ 9223372036854775807 by decide), fun _ => ⟨_, rfl, fun j p hp => ?_⟩⟩
  cases j with
  | zero =>
    obtain rfl := Option.some.inj hp
    refine ⟨c0, l0, h0, fun i u hu => ?_⟩
    rw [Nat.zero_mul, Nat.zero_add]
    exact key i u (by rw [List.getElem?_append_left (List.getElem?_eq_some_iff.1 hu).1]; exact hu)
  | succ j =>
    cases j with
    | zero =>
      obtain rfl := Option.some.inj hp
      refine ⟨c1, l1, h1, fun i u hu => ?_⟩
      refine key _ u ?_
      rw [← l0, List.getElem?_append_right (by omega), show (0 + 1) * c0.length + i - c0.length = i by omega]
      exact hu
    | succ j => simp at hp
theorem seven {w : World} (o0 o1 o2 o3 o4 o5 o6 : Obj) (W : World) (hW : W = ((((((w.alloc o0).alloc o1).alloc o2).alloc o3).alloc o4).alloc o5).alloc o6) :
    W.heap[w.heap.size]? = some o0 ∧ W.heap[w.heap.size + 1]? = some o1 ∧ W.heap[w.heap.size + 1 + 1 + 1]? = some o3 ∧ W.heap[w.heap.size + 1 + 1 + 1 + 1]? = some o4 ∧ W.heap[w.heap.size + 1 + 1 + 1 + 1 + 1]? = some o5 ∧ Below w.heap.size w W := by
  have new : ∀ (v : World) (o : Obj) (n : Nat), n = v.heap.size → (v.alloc o).heap[n]? = some o := fun v o n e => by subst e; exact heap_alloc_new v o
  have sz : ∀ (v : World) (o : Obj), (v.alloc o).heap.size = v.heap.size + 1 := fun v o => Array.size_push o
  subst hW
  refine ⟨?_, ?_, ?_, ?_, ?_, ?_⟩
  · exact bA (bA (bA (bA (bA (bA (new _ _ _ rfl) _) _) _) _) _) _
  · exact bA (bA (bA (bA (bA (new _ _ _ (by simp only [sz])) _) _) _) _) _
  · exact bA (bA (bA (new _ _ _ (by simp only [sz])) _) _) _
  · exact bA (bA (new _ _ _ (by simp only [sz])) _) _
  · exact bA (new _ _ _ (by simp only [sz])) _
  · exact lA_ (lA_ (lA_ (lA_ (lA_ (lA_ (lA_ (Below.refl _ _) _) _) _) _) _) _) _
set_option maxHeartbeats 4000000 in
set_option maxRecDepth 100000 in
theorem ergolaw13_head.calls (w : World) (hG : TabT w) : Calls Tryd.prog 7 #[] w (RetB w (.bool true)) := by
  have HG := hid hG
  clear hG
  go_enter Tryd.func7, Tryd.ntmps7
  go_wp2_with fail
  obtain ⟨b0, b1, b3, b4, b5, bel⟩ := seven (w := w) _ _ _ _ _ _ _ _ rfl
  have HB := hid bel
  have nil69 : ∀ W : World, Kd.C k57 W none ([] : List S57).length [] := fun W => Kd.C_nil k57 W
  refine (syntax_Rule_String.calls 60 ⟨#[112]⟩ (some ⟨w.heap.size + 1 + 1 + 1, 0, none⟩) 2 [hX, hY] 2 (some ⟨w.heap.size + 1 + 1 + 1 + 1 + 1, 0, none⟩) 2 [hP1, hP2] 0 _ _
    (C_blk k53 b3 hX hY _ _ (k53_mk _ hX) (k53_mk _ hY) rfl) (by decide)
    (C_blk k59 b5 hP1 hP2 _ _ (k59_mk _ hP1 (A2 := some ⟨w.heap.size + 1 + 1 + 1 + 1, 0, none⟩) (c2 := 2) (by decide) (C_blk k53 b4 hX hZ _ _ (k53_mk _ hX) (k53_mk _ hZ) rfl) (A15 := none) (c15 := 0) (by decide) (nil69 _))
      (k59_mk _ hP2 (A2 := none) (c2 := 0) (by decide) (Kd.C_nil k53 _) (A15 := some ⟨w.heap.size + 1, 0, none⟩) (c15 := 2) (by decide)
        (C_blk k57 b1 hAdd h2 _ _ (k57_mk _ hAdd (A4 := some ⟨w.heap.size, 0, none⟩) (c4 := 2) (by decide) (C_blk k57 b0 ⟨hZ, 0, []⟩ h1 _ _ (k57_mk _ ⟨hZ, 0, []⟩ (A4 := none) (c4 := 0) (by decide) (nil69 _)) (k57_mk _ h1 (A4 := none) (c4 := 0) (by decide) (nil69 _)) rfl))
          (k57_mk _ h2 (A4 := none) (c4 := 0) (by decide) (nil69 _)) rfl)) rfl) (by decide) head_f (tab_below HG.out bel)).mono ?_
  rintro e w1 ⟨rfl, hb⟩
  have HB1 := hid (lT_ HB.out hb)
  clear hb
  go_wp2
  go_ret
  exact ⟨rfl, HB1.out⟩
end Go.Proofs.YtdbpboipiceifaaDoorPSP
