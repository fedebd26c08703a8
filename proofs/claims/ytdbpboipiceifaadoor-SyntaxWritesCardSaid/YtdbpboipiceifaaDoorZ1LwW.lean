import Derived.Test.YtdbpboipiceifaaDoorZ1Pgm
import Derived.Test.YtdbpboipiceifaaDoorZ1Hd13
set_option linter.unusedVariables false
set_option linter.unusedSimpArgs false
namespace Go.Proofs.YtdbpboipiceifaaDoorPSP
open Go.RowKit Go.Extern.Stop Go.Stop Go.Extern Go.Proofs.YtdbpboipiceifaaDoorW.PrintWords Go.Proofs.YtdbpboipiceifaaDoorW.PrintLast Go.Proofs.YtdbpboipiceifaaDoor
set_option maxHeartbeats 4000000 in
set_option maxRecDepth 100000 in
theorem Writes_any {w : World} (hG : TabT w) (dm : List (Int × Bool)) (rm : List RlM) (hrn : ∀ r ∈ rm, RlN r) {A A' : Option Addr} {c c' : Nat} (kA : Kd.C kdm w A dm.length dm) (lA : dm.length ≤ c) (kB : Kd.C k36 w A' rm.length rm) (lB : rm.length ≤ c') :
    Calls Tryd.prog 3 #[.slice A dm.length c, .slice A' rm.length c'] w (RetB w (.bool true)) := by
  have HG := hid hG
  have HA := hid kA
  have HB := hid kB
  have LA := hid lA
  have LB := hid lB
  obtain ⟨bf, hf1, hf2⟩ := few_is rm hrn
  have HF := hid hf1
  have HF2 := hid hf2
  clear hf1 hf2 hrn hG kA kB lA lB
  go_enter Tryd.func3, Tryd.ntmps3
  go_wp2_with fail
  refine (ergolaw13_head.calls _ HG.out).mono ?_
  rintro e0 w1 ⟨rfl, hb⟩
  have X1 := hid hb
  clear hb
  by_cases g6 : 6 < dm.length
  · have g6a : decide (6 < (dm.length : Int)) = true := decide_eq_true (by omega)
    have g6b : (6 : Int) < (dm.length : Int) := by omega
    go_wp2
    go_ret
    exact ⟨rfl, X1.out⟩
  have g6a : decide (6 < (dm.length : Int)) = false := decide_eq_false (by omega)
  have g6b : ¬ (6 : Int) < (dm.length : Int) := by omega
  go_wp2_with fail
  refine (ergolaw13_Few.calls 20000 A' c' rm bf _ (Kd.C_below HB.out X1.out) LB.out HF.out).mono ?_
  rintro e0 w2 ⟨rfl, hb⟩
  have X2 := hid (lT_ X1.out hb)
  clear hb
  cases bf
  · go_wp2
    go_ret
    exact ⟨rfl, X2.out⟩
  obtain ⟨h12, hrb⟩ := HF2.out rfl
  go_wp2_with fail
  refine (Program_1 (tab_below HG.out X2.out) dm rm (Kd.C_below HA.out X2.out) LA.out (Kd.C_below HB.out X2.out) LB.out (by omega) h12 hrb).mono ?_
  rintro e0 w3 ⟨D, R, cD, cR, dd, rr, rfl, hko, hD, hR, hd6, hr12, hdk, hrk, hb⟩
  have X3 := hid (lT_ X2.out hb)
  have KO := hid hko
  have HD := hid hD
  have HR := hid hR
  have HDK := hid hdk
  have HRK := hid hrk
  have HD6 := hid hd6
  have HR12 := hid hr12
  clear hko hD hR hdk hrk hb hd6 hr12 h12 hrb
  go_wp2_with fail
  refine (PrS_any (tab_below HG.out X3.out) dd rr KO.out HD.out HR.out (fun d hd => Nat.le_trans (HDK.out d hd) (by decide)) rSS (fun r hr => ⟨Nat.le_trans (HRK.out r hr).1 (by decide), (HRK.out r hr).2⟩) (by have := HD6.out; omega) (by have := HR12.out; omega)).mono ?_
  rintro e0 w4 ⟨rfl, hb⟩
  have X4 := hid (lT_ X3.out hb)
  clear hb
  go_wp2
  go_ret
  exact ⟨by simp, X4.out⟩
end Go.Proofs.YtdbpboipiceifaaDoorPSP
