import Derived.Test.YtdbpboipiceifaaDoorZ1Pl13
set_option linter.unusedVariables false
set_option linter.unusedSimpArgs false
namespace Go.Proofs.YtdbpboipiceifaaDoorPSP
open Go.RowKit Go.Extern.Stop Go.Stop Go.Extern Go.Proofs.YtdbpboipiceifaaDoorW.PrintWords Go.Proofs.YtdbpboipiceifaaDoor
def declL (p : List UInt8) (m : Bool) : List UInt8 := (if m = true then [64, 109, 97, 120, 32] else [64, 109, 105, 110, 32]) ++ p ++ [46]
theorem Decl_any (p : List UInt8) (hp : p.length ≤ 1000) (m : Bool) (n : Int) (w : World) : Calls Tryd.prog 29 #[.agg #[.string (bytesL p), .bool m, .int .i64 n]] w (RetB w (.string (bytesL (declL p m)))) := by
  obtain ⟨x, hx⟩ : ∃ x, x = bytesL p := ⟨_, rfl⟩
  have hs : x.size = p.length := by subst hx; rfl
  have HS : Hid ((⟨#[64, 109, 97, 120, 32]⟩ : ByteArray) ++ x ++ (⟨#[46]⟩ : ByteArray) = bytesL (declL p true)) := hid (by
    subst hx
    exact (congrArg (· ++ (⟨#[46]⟩ : ByteArray)) (bytesL_append [64, 109, 97, 120, 32] p)).trans (bytesL_append _ [46]))
  have HT : Hid ((⟨#[64, 109, 105, 110, 32]⟩ : ByteArray) ++ x ++ (⟨#[46]⟩ : ByteArray) = bytesL (declL p false)) := hid (by
    subst hx
    exact (congrArg (· ++ (⟨#[46]⟩ : ByteArray)) (bytesL_append [64, 109, 105, 110, 32] p)).trans (bytesL_append _ [46]))
  rw [← hx]
  have g1 : (9223372036854775807 < 5 + x.size) = False := eq_false (by omega)
  have g2 : (9223372036854775807 < 5 + x.size + 1) = False := eq_false (by omega)
  clear hx hs hp
  cases m
  · go_enter Tryd.func29, Tryd.ntmps29
    go_wp2
    go_ret
    exact ⟨congrArg (fun z => Ending.returned (.string z)) HT.out, (Below.refl _ _).alloc (Nat.le_refl _) _⟩
  · go_enter Tryd.func29, Tryd.ntmps29
    go_wp2
    go_ret
    exact ⟨congrArg (fun z => Ending.returned (.string z)) HS.out, (Below.refl _ _).alloc (Nat.le_refl _) _⟩
end Go.Proofs.YtdbpboipiceifaaDoorPSP
