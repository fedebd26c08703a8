import Derived.Test.YtbcmkkphbkpapaaDoorZ1Lw13
set_option linter.unusedVariables false
namespace Go.Proofs.YtbcmkkphbkpapaaDoor
open Go Go.Deep Go.RowKit Go.Proofs.YtbcmkkphbkpapaaDoorPSP
theorem opensT {n : Nat} : OpensAt Tryd.prog n 43 k43.K TN := opens43
theorem opensA {n : Nat} : OpensAt Tryd.prog n 46 RA (fun x => ∀ t ∈ x.2, TN t) := opens46
theorem opensP {n : Nat} : OpensAt Tryd.prog n 51 RP PN := opens51
theorem opensE {n : Nat} : OpensAt Tryd.prog n 49 k49.K (fun e => ∀ d, EN d e) := opens49 n
abbrev zeroT : Value := .agg #[.int .i64 0, .int .i64 0, .int .i64 0]
abbrev zeroA : Value := .agg #[.int .i64 0, .slice none 0 0]
abbrev zeroP : Value := .agg #[.int .i64 0, .int .i64 0, .int .i64 0, .slice none 0 0, .int .i64 0, .int .i64 0, .int .i64 0, .int .i64 0, .int .i64 0, .int .i64 0, .int .i64 0, .int .i64 0, .int .i64 0, .int .i64 0, .slice none 0 0]
abbrev zeroE : Value := .agg #[.int .i64 0, .int .i64 0, .int .i64 0, .int .i64 0, .slice none 0 0]
theorem agg_of {cs : Array Value} {l : List Value} (h : cs.toList = l) : cs = l.toArray := by rw [← h]
theorem SyntaxParts_row {w : World} (hG : TabT w) {t : Go.Proofs.YtbcmkkphbkpapaaDoorPSP.S43} {a : Int × List Go.Proofs.YtbcmkkphbkpapaaDoorPSP.S43} {p : PV} {e : Go.Proofs.YtbcmkkphbkpapaaDoorPSP.S49} {c0 c1 c2 c3 : Array Value} (R0 : k43.K w t c0.toList) (o0 : TN t) (R1 : RA w a c1.toList) (o1 : ∀ t ∈ a.2, TN t) (R2 : RP w p c2.toList) (o2 : PN p)
    (R3 : k49.K w e c3.toList) (o3 : ∀ d, EN d e) : Calls Tryd.prog 7 #[.agg c0, .agg c1, .agg c2, .agg c3] w (RetB w (.bool true)) := by
  obtain rfl := agg_of (k43_open R0)
  obtain ⟨A, n, h1, l1, q1⟩ := R1
  obtain rfl := agg_of h1
  obtain ⟨A1, n1, A2, n2, h2, l2, q2, l3, q3⟩ := R2
  obtain rfl := agg_of h2
  obtain ⟨A3, n3, h3, l4, q4⟩ := k49_open R3
  obtain rfl := agg_of h3
  exact Parts_any hG t.f0 t.f1 t.f2 a.1 p.1 p.2.1 p.2.2.1.1 a.2 p.2.2.1.2 A A1 A2 A3 n n1 n2 n3 p.2.2.2.1 p.2.2.2.2.1 p.2.2.2.2.2 e o0.1 o0.2 o1 o2.1 o2.2.1 o2.2.2.1 o2.2.2.2 o3 q1 l1 q2 l2 q3 l3 q4 l4
end Go.Proofs.YtbcmkkphbkpapaaDoor
