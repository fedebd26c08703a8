import Derived.Test.YtbcmkkphbkpapaaDoorAs2
import Derived.Test.YtbcmkkphbkpapaaDoorFault
import Derived.Test.YtbcmkkphbkpapaaDoorShelf
set_option linter.unusedVariables false
set_option linter.unusedSimpArgs false
namespace Go.Proofs.YtbcmkkphbkpapaaDoor
open Go.RowKit Go.Extern.Stop Go.Stop Go.Extern

/-! A tag's word. -/
def tagL : List (List UInt8) := [[110, 111, 110, 101], [115, 121, 110, 116, 97, 120], [100, 101, 101, 112], [109, 97, 110, 121], [97, 114, 105, 116, 121], [116, 121, 112, 101], [117, 110, 115, 97, 102, 101], [99, 121, 99, 108, 101], [97, 100, 109, 105, 116], [117, 110, 107, 110, 111, 119, 110], [97, 114, 105, 116, 104], [102, 117, 101, 108], [114, 111, 119, 115], [99, 111, 109, 109, 97, 110, 100]]
abbrev bytesL (l : List UInt8) : ByteArray := ⟨l.toArray⟩
set_option maxHeartbeats 4000000 in
set_option maxRecDepth 100000 in
theorem Tag_Error_in (n : Nat) (hn : n ≤ 13) (w : World) : Calls Tryd.prog 43 #[.int .i64 (n : Int)] w (RetB w (.string (bytesL (tagL.getD n [])))) := by
  have hc : n = 0 ∨ n = 1 ∨ n = 2 ∨ n = 3 ∨ n = 4 ∨ n = 5 ∨ n = 6 ∨ n = 7 ∨ n = 8 ∨ n = 9 ∨ n = 10 ∨ n = 11 ∨ n = 12 ∨ n = 13 := by omega
  rcases hc with rfl | rfl | rfl | rfl | rfl | rfl | rfl | rfl | rfl | rfl | rfl | rfl | rfl | rfl
  all_goals
    go_enter Tryd.func43, Tryd.ntmps43
    go_wp2
    go_ret
    exact ⟨rfl, (Below.refl _ _).alloc (Nat.le_refl _) _⟩

end Go.Proofs.YtbcmkkphbkpapaaDoor
