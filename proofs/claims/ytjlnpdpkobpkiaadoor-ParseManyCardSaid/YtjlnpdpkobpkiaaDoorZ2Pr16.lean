import Derived.Test.YtjlnpdpkobpkiaaDoorZ2Pr15a
import Derived.Test.YtjlnpdpkobpkiaaDoorZ2Pr15b
import Derived.Test.YtjlnpdpkobpkiaaDoorZ2Pr15c
import Derived.Test.YtjlnpdpkobpkiaaDoorZ2Pr15d0
import Derived.Test.YtjlnpdpkobpkiaaDoorZ2Pr15d1
import Derived.Test.YtjlnpdpkobpkiaaDoorZ2Pr15d2
import Derived.Test.YtjlnpdpkobpkiaaDoorZ2Pr15d3
import Derived.Test.YtjlnpdpkobpkiaaDoorZ2Pr15e0
import Derived.Test.YtjlnpdpkobpkiaaDoorZ2Pr15e1
import Derived.Test.YtjlnpdpkobpkiaaDoorZ2Pr15e2
import Derived.Test.YtjlnpdpkobpkiaaDoorZ2Pr15e3
import Derived.Test.YtjlnpdpkobpkiaaDoorZ2Pr15f0
import Derived.Test.YtjlnpdpkobpkiaaDoorZ2Pr15f1
import Derived.Test.YtjlnpdpkobpkiaaDoorZ2Pr15f2
import Derived.Test.YtjlnpdpkobpkiaaDoorZ2Pr15f3
set_option linter.unusedVariables false
set_option linter.unusedSimpArgs false
namespace Go.Proofs.YtjlnpdpkobpkiaaDoorPSP
open Go.RowKit Go.Extern.Stop Go.Stop Go.Extern Go.Proofs.YtjlnpdpkobpkiaaDoorW.PrintWords Go.Proofs.YtjlnpdpkobpkiaaDoor
theorem part_any {E:Env} {w:World} {j:Nat} {l:List Tk} (h:At E w j 0 l):
    Calls Tryd.prog 62 #[.pointer (some ⟨E.b,0,none⟩)] w (PartPost E w 0 (partP l)):=by
  have c1:(pk l 0).kind=1→(pk l 0).text≠notL→isS l 1 [40]=false→Calls Tryd.prog 62 #[.pointer (some ⟨E.b,0,none⟩)] w (PartPost E w 0 (partP l)):=fun h1 hnot hs=>by
    rcases oc_all l with hk|hk|hk|hk
    · exact part_cmp1_0 h h1 hnot hs hk
    · exact part_cmp1_1 h h1 hnot hs hk
    · exact part_cmp1_2 h h1 hnot hs hk
    · exact part_cmp1_3 h h1 hnot hs hk
  have c2:(pk l 0).kind=2→isS l 1 [58,61]=false→Calls Tryd.prog 62 #[.pointer (some ⟨E.b,0,none⟩)] w (PartPost E w 0 (partP l)):=fun h2 hs=>by
    rcases oc_all l with hk|hk|hk|hk
    · exact part_cmp2_0 h h2 hs hk
    · exact part_cmp2_1 h h2 hs hk
    · exact part_cmp2_2 h h2 hs hk
    · exact part_cmp2_3 h h2 hs hk
  have c3:(pk l 0).kind≠1→(pk l 0).kind≠2→Calls Tryd.prog 62 #[.pointer (some ⟨E.b,0,none⟩)] w (PartPost E w 0 (partP l)):=fun h1 h2=>by
    rcases oc_all l with hk|hk|hk|hk
    · exact part_cmp3_0 h h1 h2 hk
    · exact part_cmp3_1 h h1 h2 hk
    · exact part_cmp3_2 h h1 h2 hk
    · exact part_cmp3_3 h h1 h2 hk
  by_cases h1:(pk l 0).kind=1
  · by_cases hnot : (pk l 0).text = notL
    · exact part_not h h1 hnot
    · cases hs : isS l 1 [40] with
      |true=>exact part_atom h h1 hnot hs
      |false=>exact c1 h1 hnot hs
  · by_cases h2 : (pk l 0).kind = 2
    · cases hs : isS l 1 [58, 61] with
      |true=>exact part_let h h2 hs
      |false=>exact c2 h2 hs
    · exact c3 h1 h2
end Go.Proofs.YtjlnpdpkobpkiaaDoorPSP
