import Derived.Test.YtbcmkkphbkpapaaLib
import Derived.ProofKit
import Derived.OpenShut
import Derived.ShutString
import Derived.ChangeOld
import Derived.SizedLaws
import Derived.SliceStrings
import Derived.ChangeSlices
set_option linter.unusedVariables false
set_option linter.unusedSimpArgs false
namespace Go.Proofs.Ytbcmkkphbkpapaa
open Go.RowKit Go.ChangeShapes Go.WideShapes

/-- A []string that came in. -/
theorem open_strs_rd {H : Type} {enc : TypeId × Value → H} {P : Program} {W : World} {base : Nat} {spare : Nat → Bool} {held : Bool} {t e : TypeId} {a : Option Addr} {len cap : Nat} {d : DataW H} {ps : List MemPlace} {ts : List TypeId} {ds : List (DataW H)} {j : Nat}
    (hsz : (DataW.weightsEach P ts ds).all (· ≤ reachBytes) = true) (ht : ts[j]? = some t) (hd : ds[j]? = some d) (hu : P.underlying t = some (.slice e)) (he : P.underlying e = some .string) (hc : P.cellsOf e = 1) (hB : P.bytesOf e = 16)
    (h : DataW.Trod enc P W base spare held t (.slice a len cap) d ps) : ∃ ss : List ByteArray, len = ss.length ∧ Rd W (.slice a len cap) ss.length 1 (ss.map Value.string) ∧ ss.length * 16 ≤ 140737488351232 ∧ ∀ s ∈ ss, s.size ≤ maxLen := by
  obtain ⟨fuel, hf⟩ := h
  rcases open_strings hu he hc hf with ⟨hcs, _⟩ | ⟨x, l, c, zs, hcs, _, hl, hm, hz, hx, hcell, hws⟩
  · simp [Value.cells] at hcs
    obtain ⟨rfl, rfl, rfl⟩ := hcs
    exact ⟨[], rfl, ⟨none, 0, rfl, ⟨Nat.le_refl _, fun _ => rfl⟩, by simp, by simp, fun j hj => by simp at hj⟩, by simp, by simp⟩
  · simp [Value.cells] at hcs
    obtain ⟨rfl, rfl, rfl⟩ := hcs
    obtain ⟨hx, _⟩ := Prod.mk.inj hx
    subst hx
    have z := sized_slice hsz ht hd hu
    rw [hB] at z
    have hl2 : len ≤ zs.length := by
      rw [hz]
      split
      · exact hl
      · exact Nat.le_refl _
    have h1 : (strs (H := H) (zs.take len)).length + (strs (H := H) (zs.drop len)).length = zs.length := by
      simp [strs]
      omega
    rw [h1] at z
    have z' : zs.length * 16 ≤ 140737488351232 := z
    have hlen : len = (zs.take len).length := by simp; omega
    refine ⟨zs.take len, hlen, ⟨_, cap, by rw [← hlen], ⟨by rw [← hlen]; exact hl, fun h => by cases h⟩, by omega, by simp, fun j hj => ?_⟩, by omega, fun s hs => hws s (List.mem_of_mem_take hs)⟩
    obtain ⟨b, o, s⟩ := x
    have hs : s = none := by
      have h0 := hcell 0 (by omega)
      have := World.block_lt_of_cell? W _ h0
      simp only [World.cell?, Addr.add] at h0
      cases s with
      | none => rfl
      | some s => 
        simp at h0
        split at h0 <;> simp at h0
    subst hs
    refine ⟨b, o, rfl, fun i u hu => ?_⟩
    have hi : i < (zs.take len).length := by
      have := (List.getElem?_eq_some_iff.1 hu).1
      simpa using this
    have h2 := hcell i (by omega)
    rw [addr_add] at h2
    rw [h2]
    rw [List.getElem?_map] at hu
    obtain ⟨s, hs1, rfl⟩ := Option.map_eq_some_iff.1 hu
    have hi2 : i < len := by omega
    rw [List.getElem?_take_of_lt hi2] at hs1
    rw [List.getD_eq_getElem?_getD, hs1]
    rfl

end Go.Proofs.Ytbcmkkphbkpapaa
