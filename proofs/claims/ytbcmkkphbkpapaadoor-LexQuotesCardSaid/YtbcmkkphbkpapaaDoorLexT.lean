import Derived.Test.YtbcmkkphbkpapaaDoorLexC
import Derived.Test.YtbcmkkphbkpapaaDoorBuild
set_option linter.unusedVariables false
set_option linter.unusedSimpArgs false
namespace Go.Proofs.YtbcmkkphbkpapaaDoor
open Go.RowKit

theorem IsB.keep {F : Nat → Prop} {w w' : World} {B b : Nat} {bs : List Value} (h : IsB B b bs w) (hf : Fr F w w') (hF : ∀ i, F i → i < B) : IsB B b bs w' := by
  have key : ∀ p, Lib.BuilderAt 106 5 B b p bs w → Lib.BuilderAt 106 5 B b p bs w' := by
    rintro p ⟨hB, v, hb, hown, hne⟩
    refine ⟨hB, v, (hf.block b (blk_lt hb) (fun f => by have := hF b f; omega)).trans hb, hf.own hown (fun g hg f => ?_), hne⟩
    have := hF g f
    have := (own_lt hown g hg).2
    omega
  rcases h with h | h
  · exact .inl (key _ h)
  · exact .inr (key _ h)
theorem IsB.fresh {w : World} {b B : Nat} (hB : B ≤ b) (h : w.heap[b]? = some (.cells #[.pointer none, .slice none 0 0] 106 (0, 0))) : IsB B b [] w :=
  .inl ⟨hB, _, h, own_nil w B _ _, by simp [Value.ownBlock]⟩

theorem esc_n (w : World) : Calls Tryd.prog 80 #[.int .u8 110] w (RetS w (.tuple #[.int .u8 10, .bool true])) := by
  go_enter Tryd.func80, Tryd.ntmps80
  go_wp2
  go_ret2
  exact ⟨rfl, rfl⟩
theorem esc_q (w : World) : Calls Tryd.prog 80 #[.int .u8 34] w (RetS w (.tuple #[.int .u8 34, .bool true])) := by
  go_enter Tryd.func80, Tryd.ntmps80
  go_wp2
  go_ret2
  exact ⟨rfl, rfl⟩
theorem esc_b (w : World) : Calls Tryd.prog 80 #[.int .u8 92] w (RetS w (.tuple #[.int .u8 92, .bool true])) := by
  go_enter Tryd.func80, Tryd.ntmps80
  go_wp2
  go_ret2
  exact ⟨rfl, rfl⟩
theorem esc_no {c : Int} (h1 : (c == 110) = false) (h2 : (c == 34) = false) (h3 : (c == 92) = false) (w : World) : Calls Tryd.prog 80 #[.int .u8 c] w (RetS w (.tuple #[.int .u8 0, .bool false])) := by
  go_enter Tryd.func80, Tryd.ntmps80
  go_wp2
  go_ret2
  exact ⟨rfl, rfl⟩
theorem retS_quiet {f : FuncId} {args : Array Value} {v : Value} (h : ∀ w, Calls Tryd.prog f args w (RetS w v)) (w : World) (n : Nat) : Calls Tryd.prog f args (w.drewN n) fun e w'' => e = .returned v ∧ ∃ m, w'' = w.drewN m :=
  Calls.quiet_of_same ((h _).mono (by rintro e w' ⟨rfl, rfl⟩; exact ⟨rfl, rfl⟩))

def escB (d : UInt8) : Option UInt8 := if d = 110 then some 10 else if d = 34 then some 34 else if d = 92 then some 92 else none
def escV (d : UInt8) : Value := match escB d with | some e => .tuple #[.int .u8 (e.toNat : Int), .bool true] | none => .tuple #[.int .u8 0, .bool false]
theorem escape_any (d : UInt8) (w : World) : Calls Tryd.prog 80 #[.int .u8 (d.toNat : Int)] w (RetS w (escV d)) := by
  by_cases h1 : d = 110
  · subst h1; exact esc_n w
  · by_cases h2 : d = 34
    · subst h2; exact esc_q w
    · by_cases h3 : d = 92
      · subst h3; exact esc_b w
      · have e : escV d = .tuple #[.int .u8 0, .bool false] := by rw [escV, escB, if_neg h1, if_neg h2, if_neg h3]
        rw [e]
        have f : ∀ x : UInt8, d ≠ x → ((d.toNat : Int) == (x.toNat : Int)) = false := fun x hx => by
          have : ¬ d.toNat = x.toNat := fun h => hx (UInt8.toNat_inj.1 h)
          simpa using (show ¬ (d.toNat : Int) = (x.toNat : Int) by omega)
        exact esc_no (f 110 h1) (f 34 h2) (f 92 h3) w

/-- A text behind its quote; 'out': what it holds so far. -/
def textS (p : Nat) (out : List UInt8) : List UInt8 → Out
  | [] => .bad 1 0
  | c :: t =>
    if c = 34 then (if 40 < out.length then .bad 3 p else .tok 4 out 0 p t)
    else if c = 92 then
      match t with
      | [] => .bad 1 1
      | d :: t' => match escB d with
        | some e => textS p (out ++ [e]) t'
        | none => .bad 1 (t'.length + 2)
    else if c.toNat < 32 then .bad 1 (t.length + 1) else textS p (out ++ [c]) t

end Go.Proofs.YtbcmkkphbkpapaaDoor
