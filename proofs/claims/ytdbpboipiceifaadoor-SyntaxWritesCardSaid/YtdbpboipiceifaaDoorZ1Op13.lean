import Derived.Test.YtdbpboipiceifaaDoorZ1Opens
import Derived.Test.YtdbpboipiceifaaDoorZ1Pl13p
set_option linter.unusedVariables false
set_option linter.unusedSimpArgs false
namespace Go.Proofs.YtdbpboipiceifaaDoorPSP
open Go Go.Deep Go.ChangeShapes Go.WideShapes Go.RowKit Go.Proofs.YtdbpboipiceifaaDoorW.PrintWords Go.Proofs.YtdbpboipiceifaaDoor
theorem bd64 {x : Int} (h : (Lit.int .i64 x).wf = true) : -9223372036854775808 ≤ x ∧ x ≤ 9223372036854775807 := by
  simpa [Lit.wf, IntKind.min, IntKind.max, IntKind.signed, IntKind.bits] using h
theorem opens_zero {P : Program} {t : TypeId} {α : Type} {R : World → α → List Value → Prop} {ok : α → Prop} : OpensAt P 0 t R ok := fun hf hx => by
  obtain rfl := Nat.le_zero.1 hf
  unfold DataW.trod at hx
  cases hx
theorem opens43 {n : Nat} : OpensAt Tryd.prog n 81 k81.K TN :=
  OpensAt.imp (OpensAt.le (opens_struct (n := n) (sz := 3) Tryd.underlying81 (by kernel_rfl)
    (.cons (s0 := 1) rfl (by kernel_rfl) (opens_int (k := .i64) Tryd.underlying3) (.cons (s0 := 1) rfl (by kernel_rfl) (opens_int (k := .i64) Tryd.underlying3) (.one (sz := 1) rfl (by kernel_rfl) (opens_int (k := .i64) Tryd.underlying2))))) (Nat.le_succ n))
    (fun x => (⟨x.1, x.2.1, x.2.2⟩ : S81)) (fun w a cs h _ => by
      obtain ⟨_, _, rfl, rfl, ⟨_, _, rfl, rfl, rfl⟩⟩ := h
      exact k81_mk w ⟨a.1, a.2.1, a.2.2⟩) (fun a h => bd64 h.2.2)
theorem opens44 {n : Nat} : OpensAt Tryd.prog n 31 (RSlice k81.K 3) (fun xs => ∀ x ∈ xs, TN x) :=
  OpensAt.imp (OpensAt.le (opens_slice (n := n) Tryd.underlying31 (by kernel_rfl) opens43) (Nat.le_succ n)) id (fun _ _ _ h _ => h) (fun _ h => h.2)
def RA (w : World) (x : Int × List S81) (cs : List Value) : Prop := ∃ A c, cs = [.int .i64 x.1, .slice A x.2.length c] ∧ x.2.length ≤ c ∧ Kd.C k81 w A x.2.length x.2
theorem opens46 {n : Nat} : OpensAt Tryd.prog n 33 RA (fun x => ∀ t ∈ x.2, TN t) :=
  OpensAt.imp (OpensAt.le (opens_struct (n := n) (sz := 2) Tryd.underlying33 (by kernel_rfl)
    (.cons (s0 := 1) rfl (by kernel_rfl) (opens_int (k := .i64) Tryd.underlying3) (.one (sz := 1) rfl (by kernel_rfl) opens44))) (Nat.le_succ n))
    id (fun w a cs h _ => by
      obtain ⟨_, _, rfl, rfl, ⟨A, c, rfl, hl, hr⟩⟩ := h
      exact ⟨A, c, rfl, hl, hr⟩) (fun a h => h.2)
theorem opens49 : ∀ (n : Nat), OpensAt Tryd.prog n 84 k84.K (fun e => ∀ d, EN d e) := by
  intro n
  induction n using Nat.strongRecOn with
  | _ n ih =>
    cases n with
    | zero => exact opens_zero
    | succ n =>
      have hk : OpensAt Tryd.prog n 82 (RSlice k84.K 5) (fun xs => ∀ x ∈ xs, ∀ d, EN d x) := by
        cases n with
        | zero => exact opens_zero
        | succ n => exact OpensAt.imp (opens_slice Tryd.underlying82 (by kernel_rfl) (ih n (by omega))) id (fun _ _ _ h _ => h) (fun _ h => h.2)
      intro H enc w base spare held fuel cs x hf hx
      exact (OpensAt.imp (ok' := fun e => ∀ d, EN d e) (opens_struct (n := n) (sz := 5) Tryd.underlying84 (by kernel_rfl)
        (.cons (s0 := 3) rfl (by kernel_rfl) opens43 (.cons (s0 := 1) rfl (by kernel_rfl) (opens_int (k := .i64) Tryd.underlying3) (.one (sz := 1) rfl (by kernel_rfl) hk))))
        (fun x => (⟨x.1, x.2.1, x.2.2⟩ : S84)) (fun w a cs h _ => by
          obtain ⟨_, _, rfl, h0, ⟨_, _, rfl, rfl, ⟨A, c, rfl, hl, hr⟩⟩⟩ := h
          obtain rfl := k81_open h0
          exact k84_mk w ⟨a.1, a.2.1, a.2.2⟩ hl hr) (fun a h d => by
          cases d with
          | zero => trivial
          | succ d => exact ⟨h.1, fun x hx => h.2.2 x hx d⟩)) hf hx
abbrev PV := Int × Int × (Int × List S81) × S81 × S81 × S84
def RP (w : World) (x : PV) (cs : List Value) : Prop := ∃ A c A' c', cs = [.int .i64 x.1, .int .i64 x.2.1, .int .i64 x.2.2.1.1, .slice A x.2.2.1.2.length c, .int .i64 x.2.2.2.1.f0, .int .i64 x.2.2.2.1.f1, .int .i64 x.2.2.2.1.f2, .int .i64 x.2.2.2.2.1.f0, .int .i64 x.2.2.2.2.1.f1, .int .i64 x.2.2.2.2.1.f2,
    .int .i64 x.2.2.2.2.2.f0.f0, .int .i64 x.2.2.2.2.2.f0.f1, .int .i64 x.2.2.2.2.2.f0.f2, .int .i64 x.2.2.2.2.2.f1, .slice A' x.2.2.2.2.2.f2.length c'] ∧ x.2.2.1.2.length ≤ c ∧ Kd.C k81 w A x.2.2.1.2.length x.2.2.1.2 ∧ x.2.2.2.2.2.f2.length ≤ c' ∧ Kd.C k84 w A' x.2.2.2.2.2.f2.length x.2.2.2.2.2.f2
def PN (x : PV) : Prop := (∀ t ∈ x.2.2.1.2, TN t) ∧ TN x.2.2.2.1 ∧ TN x.2.2.2.2.1 ∧ ∀ d, EN d x.2.2.2.2.2
theorem opens51 {n : Nat} : OpensAt Tryd.prog n 86 RP PN :=
  OpensAt.imp (OpensAt.le (opens_struct (n := n) (sz := 15) Tryd.underlying86 (by kernel_rfl)
    (.cons (s0 := 1) rfl (by kernel_rfl) (opens_int (k := .i64) Tryd.underlying3) (.cons (s0 := 1) rfl (by kernel_rfl) (opens_int (k := .i64) Tryd.underlying3) (.cons (s0 := 2) rfl (by kernel_rfl) opens46
      (.cons (s0 := 3) rfl (by kernel_rfl) opens43 (.cons (s0 := 3) rfl (by kernel_rfl) opens43 (.one (sz := 5) rfl (by kernel_rfl) (opens49 n)))))))) (Nat.le_succ n))
    id (fun w a cs h _ => by
      obtain ⟨_, _, rfl, rfl, ⟨_, _, rfl, rfl, ⟨_, _, rfl, ⟨A, c, rfl, hl, hr⟩, ⟨_, _, rfl, h1, ⟨_, _, rfl, h2, h3⟩⟩⟩⟩⟩ := h
      obtain rfl := k81_open h1
      obtain rfl := k81_open h2
      obtain ⟨A', c', rfl, hl', hr'⟩ := k84_open h3
      exact ⟨A, c, A', c', rfl, hl, hr, hl', hr'⟩) (fun a h => ⟨h.2.2.1, h.2.2.2.1, h.2.2.2.2.1, h.2.2.2.2.2⟩)
end Go.Proofs.YtdbpboipiceifaaDoorPSP
