import Derived.Test.YtjlnpdpkobpkiaaZ1LexJ
import Derived.Test.YtjlnpdpkobpkiaaZ1PSPx2
set_option linter.unusedVariables false
set_option linter.unusedSimpArgs false
namespace Go.Proofs.YtjlnpdpkobpkiaaPSP
open Go.RowKit Go.Extern.Stop Go.Stop Go.Extern Go.Proofs.YtjlnpdpkobpkiaaW.PrintWords Go.Proofs.Ytjlnpdpkobpkiaa
abbrev Tm := S61
abbrev Am := S34
abbrev Xp := S65
abbrev Pt := S67
structure Rul where
  f0 : Am
  f1 : Int
  f2 : List Pt
  f3 : Int
structure Dcl where
  f0 : ByteArray
  f1 : Bool
  f2 : Int
abbrev Rl := Rul
abbrev Dl := Dcl
abbrev Rs (α : Type) := Except (Nat × Nat) (α × List Tk)
abbrev bL (l : List UInt8) : ByteArray := bytesOf l
def tk0 : Tk := ⟨0, [], 0, 0⟩
def pk (l : List Tk) (k : Nat) : Tk := l.getD (min k (l.length - 1)) tk0
def isS (l : List Tk) (k : Nat) (s : List UInt8) : Bool := (pk l k).kind == 5 && (pk l k).text == s
def bad {α : Type} (tag : Nat) (l : List Tk) : Rs α := .error (tag, (pk l 0).start)
def bnd {α β : Type} (f : List Tk → Rs α) (g : α → List Tk → Rs β) (l : List Tk) : Rs β := match f l with
  | .error e => .error e
  | .ok (v, l') => g v l'
def notL : List UInt8 := [110, 111, 116]
def wantP (s : List UInt8) (l : List Tk) : Rs Unit := if isS l 0 s = true then .ok ((), l.drop 1) else bad 1 l
def nameP (l : List Tk) : Rs (List UInt8) := if (pk l 0).kind = 1 ∧ (pk l 0).text ≠ notL then .ok ((pk l 0).text, l.drop 1) else bad 1 l
def posN (n : Nat) : Int := wrap64 (n : Int)
def negN (n : Nat) : Int := wrap64 (IntKind.u64.wrap (-(n : Int)))
def mkT (k : Int) (s : List UInt8) (n : Int) : Tm := ⟨k, bL s, n⟩
def mkX (t : Tm) : Xp := ⟨t, 0, []⟩
def mkY (o : Int) (x y : Xp) : Xp := ⟨mkT 0 [] 0, o, [x, y]⟩
def numP (l : List Tk) : Rs Tm :=
  if isS l 0 [45] = true then (if (pk l 1).kind = 3 then .ok (mkT 1 [] (negN (pk l 1).num), l.drop 2) else bad 1 l)
  else if (pk l 0).kind = 3 ∧ (pk l 0).num ≤ 9223372036854775807 then .ok (mkT 1 [] (posN (pk l 0).num), l.drop 1) else bad 1 l
def termP (l : List Tk) : Rs Tm :=
  if (pk l 0).kind = 2 then .ok (mkT 0 (pk l 0).text 0, l.drop 1)
  else if (pk l 0).kind = 4 ∨ (pk l 0).kind = 1 ∧ (pk l 0).text ≠ notL then .ok (mkT 2 (pk l 0).text 0, l.drop 1)
  else if (pk l 0).kind = 3 ∨ isS l 0 [45] = true then numP l else bad 1 l
def plainP (l : List Tk) : Rs (Tm × Int) := bnd termP (fun t l' => .ok ((t, 0), l')) l
def argsL (one : List Tk → Rs (Tm × Int)) : Nat → List Tm → List Tk → Rs (List Tm × Int)
  | 0, _, l => bad 3 l
  | n + 1, acc, l => bnd one (fun x l' => if x.2 ≠ 0 then .ok ((acc ++ [x.1], x.2), l') else if isS l' 0 [44] = true then argsL one n (acc ++ [x.1]) (l'.drop 1) else .ok ((acc ++ [x.1], 0), l')) l
def argsP (one : List Tk → Rs (Tm × Int)) (l : List Tk) : Rs (List Tm × Int) :=
  bnd (wantP [40]) (fun _ => bnd (argsL one 6 []) (fun r => bnd (wantP [41]) (fun _ l' => .ok (r, l')))) l
def mkA (s : List UInt8) (ts : List Tm) : Am := ⟨bL s, ts⟩
def atomP (l : List Tk) : Rs Am := bnd nameP (fun s => bnd (argsP plainP) (fun r l' => .ok (mkA s r.1, l'))) l
def chainL (one : List Tk → Rs Xp) (ops : List (Int × List UInt8)) : Nat → Xp → List Tk → Rs Xp
  | 0, _, l => bad 0 l
  | n + 1, x, l => match ops.find? (fun o => isS l 0 o.2) with
    | none => .ok (x, l)
    | some o => bnd one (fun y l' => chainL one ops n (mkY o.1 x y) l') (l.drop 1)
def chainP (one : List Tk → Rs Xp) (ops : List (Int × List UInt8)) (l : List Tk) : Rs Xp := bnd one (chainL one ops 100000) l
def mulOps : List (Int × List UInt8) := [(2, [42]), (3, [47]), (4, [37])]
def addOps : List (Int × List UInt8) := [(0, [43]), (1, [45])]
def sumOf (unit : List Tk → Rs Xp) : List Tk → Rs Xp := chainP (chainP unit mulOps) addOps
def leafP (l : List Tk) : Rs Xp := if (pk l 0).kind = 2 then .ok (mkX (mkT 0 (pk l 0).text 0), l.drop 1) else bnd numP (fun t l' => .ok (mkX t, l')) l
def unitP : Nat → List Tk → Rs Xp
  | 0, l => if isS l 0 [40] = true then bad 2 l else leafP l
  | n + 1, l => if isS l 0 [40] = true then bnd (sumOf (unitP n)) (fun x => bnd (wantP [41]) (fun _ l' => .ok (x, l'))) (l.drop 1) else leafP l
def cmpOps : List (Int × List UInt8) := [(0, [61]), (1, [33, 61]), (2, [60]), (3, [60, 61]), (4, [62]), (5, [62, 61])]
def compareP (l : List Tk) : Rs Int := match cmpOps.find? (fun o => isS l 0 o.2) with
  | none => bad 1 l
  | some o => .ok (o.1, l.drop 1)
def zT : Tm := mkT 0 [] 0
def zA : Am := mkA [] []
def zX : Xp := mkX zT
def partP (l : List Tk) : Rs Pt :=
  if (pk l 0).kind = 1 ∧ (pk l 0).text = notL then bnd atomP (fun a l' => .ok (⟨1, a, 0, zT, zT, bL [], zX⟩, l')) (l.drop 1)
  else if (pk l 0).kind = 1 ∧ isS l 1 [40] = true then bnd atomP (fun a l' => .ok (⟨0, a, 0, zT, zT, bL [], zX⟩, l')) l
  else if (pk l 0).kind = 2 ∧ isS l 1 [58, 61] = true then bnd (sumOf (unitP 20)) (fun x l' => .ok (⟨3, zA, 0, zT, zT, bL (pk l 0).text, x⟩, l')) (l.drop 2)
  else bnd termP (fun a => bnd compareP (fun o => bnd termP (fun b l' => .ok (⟨2, zA, o, a, b, bL [], zX⟩, l')))) l
def aggOf (s : List UInt8) : Int := if s = [99, 111, 117, 110, 116] then 1 else if s = [115, 117, 109] then 2 else if s = [109, 105, 110] then 3 else if s = [109, 97, 120] then 4 else 0
def aggP (l : List Tk) : Rs (Tm × Int) :=
  if (pk l 0).kind ≠ 1 ∨ aggOf (pk l 0).text = 0 ∨ isS l 1 [60] = false then plainP l
  else if (pk (l.drop 2) 0).kind = 2 then bnd (wantP [62]) (fun _ l' => .ok ((mkT 0 (pk (l.drop 2) 0).text 0, aggOf (pk l 0).text), l')) (l.drop 3) else bad 1 (l.drop 2)
def partsL : Nat → List Pt → List Tk → Rs (List Pt)
  | 0, _, l => bad 3 l
  | n + 1, acc, l => bnd partP (fun p l' => if isS l' 0 [44] = true then partsL n (acc ++ [p]) (l'.drop 1) else .ok (acc ++ [p], l')) l
def headP (l : List Tk) : Rs (Am × Int) := bnd nameP (fun s => bnd (argsP aggP) (fun r l' => .ok ((mkA s r.1, r.2), l'))) l
def bodyP (l : List Tk) : Rs (List Pt) := if isS l 0 [58, 45] = true then partsL 12 [] (l.drop 1) else .ok ([], l)
def ruleC (l : List Tk) : Rs (Am × Int × List Pt) := bnd headP (fun h => bnd bodyP (fun b => bnd (wantP [46]) (fun _ l' => .ok ((h.1, h.2, b), l')))) l
def ruleP (nv : Rl → Nat) (l : List Tk) : Rs Rl := match ruleC l with
  | .error e => .error e
  | .ok ((h, g, b), l') => if 16 < nv ⟨h, g, b, ((pk l 0).start : Int)⟩ then .error (3, (pk l 0).start) else .ok (⟨h, g, b, ((pk l 0).start : Int)⟩, l')
def minL : List UInt8 := [109, 105, 110]
def maxL : List UInt8 := [109, 97, 120]
def declC (l : List Tk) : Rs (List UInt8 × Bool) :=
  if (pk l 0).kind = 1 ∧ ((pk l 0).text = minL ∨ (pk l 0).text = maxL) then bnd nameP (fun s => bnd (wantP [46]) (fun _ l' => .ok ((s, decide ((pk l 0).text = maxL)), l'))) (l.drop 1) else bad 1 l
def declP (l : List Tk) : Rs Dl := match declC (l.drop 1) with
  | .error e => .error e
  | .ok ((s, m), l') => .ok (⟨bL s, m, ((pk l 0).start : Int)⟩, l')
def progL (nv : Rl → Nat) : Nat → List Tk → Except (Nat × Nat) (List Dl × List Rl)
  | n, l => if (pk l 0).kind = 0 then .ok ([], []) else match n with
    | 0 => .error (3, (pk l 0).start)
    | n + 1 => if isS l 0 [64] = true then (match declP l with
        | .error e => .error e
        | .ok (d, l') => (progL nv n l').map (fun r => (d :: r.1, r.2)))
      else match ruleP nv l with
        | .error e => .error e
        | .ok (x, l') => (progL nv n l').map (fun r => (r.1, x :: r.2))
def placed (sz : Nat) (ts : List Tk) : List Tk := ts.map fun t => ⟨t.kind, t.text, t.num, sz - t.start⟩
def progP (nv : Rl → Nat) (s : List UInt8) : Except (Nat × Nat) (List Dl × List Rl) :=
  if 20000 < s.length then .error (3, 0) else match lexAll s with
  | .error (t, p) => .error (t, s.length - p)
  | .ok ts => progL nv 200 (placed s.length ts)
def Sf {α : Type} (f : List Tk → Rs α) : Prop := ∀ l v l', f l = .ok (v, l') → ∃ k, l' = l.drop k
theorem Sf.thn {α β : Type} {f : List Tk → Rs α} {g : α → List Tk → Rs β} (h : Sf f) (k : ∀ v, Sf (g v)) : Sf (bnd f g) := fun l v l' hf => by
  unfold bnd at hf
  cases hr : f l with
  | error e => rw [hr] at hf; cases hf
  | ok x =>
    obtain ⟨w, l1⟩ := x
    rw [hr] at hf
    obtain ⟨a, rfl⟩ := h l w l1 hr
    obtain ⟨b, rfl⟩ := k w _ v l' hf
    exact ⟨a + b, by rw [List.drop_drop]⟩
theorem Sf.ret {α : Type} (v : α) : Sf (fun l => (.ok (v, l) : Rs α)) := fun l v' l' hf => by
  injection hf with hf
  injection hf with h1 h2
  exact ⟨0, h2.symm⟩
theorem sf_ok {α : Type} {l : List Tk} {k : Nat} {v v' : α} {l' : List Tk} (h : (.ok (v, l.drop k) : Rs α) = .ok (v', l')) : ∃ k, l' = l.drop k := by
  injection h with h
  injection h with h1 h2
  exact ⟨k, h2.symm⟩
theorem Sf.drop {α : Type} {f : List Tk → Rs α} (h : Sf f) {l : List Tk} {n : Nat} {v : α} {l' : List Tk} (hf : f (l.drop n) = .ok (v, l')) : ∃ k, l' = l.drop k := by
  obtain ⟨k, rfl⟩ := h _ _ _ hf
  exact ⟨n + k, by rw [List.drop_drop]⟩
theorem want_sf (s : List UInt8) : Sf (wantP s) := fun l v l' hf => by
  unfold wantP at hf; split at hf; exact sf_ok hf; cases hf
theorem name_sf : Sf nameP := fun l v l' hf => by
  unfold nameP at hf; split at hf; exact sf_ok hf; cases hf
theorem num_sf : Sf numP := fun l v l' hf => by
  unfold numP at hf
  split at hf
  · split at hf
    · exact sf_ok hf
    · cases hf
  · split at hf
    · exact sf_ok hf
    · cases hf
theorem term_sf : Sf termP := fun l v l' hf => by
  unfold termP at hf
  split at hf
  · exact sf_ok hf
  · split at hf
    · exact sf_ok hf
    · split at hf
      · exact num_sf _ _ _ hf
      · cases hf
theorem plain_sf : Sf plainP := term_sf.thn (fun t => Sf.ret (t, 0))
theorem argsL_sf {one : List Tk → Rs (Tm × Int)} (ho : Sf one) : ∀ (n : Nat) (acc : List Tm), Sf (argsL one n acc) := by
  intro n
  induction n with
  | zero => intro acc l v l' hf; cases hf
  | succ n ih =>
    intro acc
    show Sf (bnd one _)
    refine ho.thn (fun x l v l' hf => ?_)
    split at hf
    · exact sf_ok (k := 0) hf
    · split at hf
      · exact (ih _).drop hf
      · exact sf_ok (k := 0) hf
theorem args_sf {one : List Tk → Rs (Tm × Int)} (ho : Sf one) : Sf (argsP one) := (want_sf _).thn (fun _ => (argsL_sf ho 6 []).thn (fun r => (want_sf _).thn (fun _ => Sf.ret r)))
theorem atom_sf : Sf atomP := name_sf.thn (fun s => (args_sf plain_sf).thn (fun r => Sf.ret _))
theorem chainL_sf {one : List Tk → Rs Xp} (ho : Sf one) (ops : List (Int × List UInt8)) : ∀ (n : Nat) (x : Xp), Sf (chainL one ops n x) := by
  intro n
  induction n with
  | zero => intro x l v l' hf; cases hf
  | succ n ih =>
    intro x l v l' hf
    rw [chainL] at hf
    split at hf
    · exact sf_ok (k := 0) hf
    · exact (ho.thn (fun y => ih _)).drop hf
theorem sum_sf {unit : List Tk → Rs Xp} (ho : Sf unit) : Sf (sumOf unit) := by
  have h1 : Sf (chainP unit mulOps) := ho.thn (fun x => chainL_sf ho _ _ x)
  exact h1.thn (fun x => chainL_sf h1 _ _ x)
theorem leaf_sf : Sf leafP := fun l v l' hf => by
  unfold leafP at hf
  split at hf
  · exact sf_ok hf
  · exact (num_sf.thn (fun t => Sf.ret (mkX t))) _ _ _ hf
theorem unit_sf : ∀ n, Sf (unitP n) := by
  intro n
  induction n with
  | zero =>
    intro l v l' hf
    rw [unitP] at hf
    split at hf
    · cases hf
    · exact leaf_sf _ _ _ hf
  | succ n ih =>
    intro l v l' hf
    rw [unitP] at hf
    split at hf
    · exact ((sum_sf ih).thn (fun x => (want_sf _).thn (fun _ => Sf.ret x))).drop hf
    · exact leaf_sf _ _ _ hf
theorem compare_sf : Sf compareP := fun l v l' hf => by
  unfold compareP at hf; split at hf; cases hf; exact sf_ok hf
theorem part_sf : Sf partP := fun l v l' hf => by
  unfold partP at hf
  split at hf
  · exact (atom_sf.thn (fun a => Sf.ret _)).drop hf
  · split at hf
    · exact (atom_sf.thn (fun a => Sf.ret _)) _ _ _ hf
    · split at hf
      · exact ((sum_sf (unit_sf 20)).thn (fun a => Sf.ret _)).drop hf
      · exact (term_sf.thn (fun a => compare_sf.thn (fun o => term_sf.thn (fun b => Sf.ret _)))) _ _ _ hf
theorem agg_sf : Sf aggP := fun l v l' hf => by
  unfold aggP at hf
  split at hf
  · exact plain_sf _ _ _ hf
  · split at hf
    · exact ((want_sf _).thn (fun _ => Sf.ret _)).drop hf
    · cases hf
theorem parts_sf : ∀ (n : Nat) (acc : List Pt), Sf (partsL n acc) := by
  intro n
  induction n with
  | zero => intro acc l v l' hf; cases hf
  | succ n ih =>
    intro acc
    show Sf (bnd partP _)
    refine part_sf.thn (fun x l v l' hf => ?_)
    split at hf
    · exact (ih _).drop hf
    · exact sf_ok (k := 0) hf
theorem head_sf : Sf headP := name_sf.thn (fun s => (args_sf agg_sf).thn (fun r => Sf.ret _))
theorem body_sf : Sf bodyP := fun l v l' hf => by
  unfold bodyP at hf
  split at hf
  · exact (parts_sf _ _).drop hf
  · exact sf_ok (k := 0) hf
theorem ruleC_sf : Sf ruleC := head_sf.thn (fun h => body_sf.thn (fun b => (want_sf _).thn (fun _ => Sf.ret _)))
theorem declC_sf : Sf declC := fun l v l' hf => by
  unfold declC at hf
  split at hf
  · exact (name_sf.thn (fun s => (want_sf _).thn (fun _ => Sf.ret _))).drop hf
  · cases hf
theorem rule_sf (nv : Rl → Nat) : Sf (ruleP nv) := fun l v l' hf => by
  unfold ruleP at hf
  split at hf
  · cases hf
  · rename_i h g b l1 hr
    obtain ⟨k, rfl⟩ := ruleC_sf _ _ _ hr
    split at hf
    · cases hf
    · exact sf_ok hf
theorem decl_sf : Sf declP := fun l v l' hf => by
  unfold declP at hf
  split at hf
  · cases hf
  · rename_i s b l1 hr
    obtain ⟨k, hk⟩ := declC_sf.drop hr
    subst hk
    exact sf_ok hf
theorem sf_in {X Y : List Tk} {e : Tk} {k : Nat} (h : Y ++ [e] = (X ++ [e]).drop k) (he : e.kind = 0) (hx : ∀ x ∈ X, x.kind ≠ 0) : ∀ x ∈ Y, x.kind ≠ 0 := by
  have hl := congrArg List.length h
  simp at hl
  have : Y = X.drop k := by
    rw [List.drop_append_of_le_length (by omega)] at h
    exact (List.append_inj' h rfl).1
  rw [this]
  exact fun x h => hx x (List.mem_of_mem_drop h)
def Wk {α : Type} (f : List Tk → Rs α) : Prop := ∀ (m : Nat) (X Z : List Tk) (e : Tk) (v : α) (l' : List Tk), e.kind = 0 → Z ≠ [] → f (X ++ [e]) = .ok (v, l') →
  ∃ Y, l' = Y ++ [e] ∧ Y.length < X.length ∧ (Y ≠ [] → f (X.map (Tk.up m) ++ Z) = .ok (v, Y.map (Tk.up m) ++ Z))
def St {α : Type} (f : List Tk → Rs α) : Prop := ∀ (m : Nat) (X Z : List Tk) (e : Tk) (v : α) (l' : List Tk), e.kind = 0 → Z ≠ [] → f (X ++ [e]) = .ok (v, l') →
  ∃ Y, l' = Y ++ [e] ∧ Y.length < X.length ∧ f (X.map (Tk.up m) ++ Z) = .ok (v, Y.map (Tk.up m) ++ Z)
def Zr {α : Type} (f : List Tk → Rs α) : Prop := ∀ (m : Nat) (X Z : List Tk) (e : Tk) (v : α) (l' : List Tk), e.kind = 0 → Z ≠ [] → f (X ++ [e]) = .ok (v, l') →
  ∃ Y, l' = Y ++ [e] ∧ Y.length ≤ X.length ∧ (Y ≠ [] → f (X.map (Tk.up m) ++ Z) = .ok (v, Y.map (Tk.up m) ++ Z))
theorem St.wk {α : Type} {f : List Tk → Rs α} (h : St f) : Wk f := fun m X Z e v l' he hz hf => by
  obtain ⟨Y, h1, h2, h3⟩ := h m X Z e v l' he hz hf
  exact ⟨Y, h1, h2, fun _ => h3⟩
theorem Wk.zr {α : Type} {f : List Tk → Rs α} (h : Wk f) : Zr f := fun m X Z e v l' he hz hf => by
  obtain ⟨Y, h1, h2, h3⟩ := h m X Z e v l' he hz hf
  exact ⟨Y, h1, by omega, h3⟩
theorem Zr.pure {α : Type} (v : α) : Zr (fun l => (.ok (v, l) : Rs α)) := fun m X Z e v' l' he hz hf => by
  injection hf with hf
  injection hf with h1 h2
  subst h1 h2
  exact ⟨X, rfl, Nat.le_refl _, fun _ => rfl⟩
theorem St.pure2 {α : Type} {f : List Tk → Rs Unit} (h : St f) (v : α) : St (bnd f (fun _ l' => .ok (v, l'))) := fun m X Z e v' l' he hz hf => by
  unfold bnd at hf ⊢
  cases hr : f (X ++ [e]) with
  | error x => rw [hr] at hf; cases hf
  | ok x =>
    obtain ⟨w, l1⟩ := x
    rw [hr] at hf
    injection hf with hf
    injection hf with h1 h2
    subst h1 h2
    obtain ⟨Y, g1, g2, g3⟩ := h m X Z e w _ he hz hr
    exact ⟨Y, g1, g2, by rw [g3]⟩
theorem Zr.st {α β : Type} {f : List Tk → Rs α} {g : α → List Tk → Rs β} (h : Zr f) (k : ∀ v, St (g v)) : St (bnd f g) := fun m X Z e v l' he hz hf => by
  unfold bnd at hf ⊢
  cases hr : f (X ++ [e]) with
  | error x => rw [hr] at hf; cases hf
  | ok x =>
    obtain ⟨w, l1⟩ := x
    rw [hr] at hf
    obtain ⟨Y, g1, g2, g3⟩ := h m X Z e w _ he hz hr
    subst g1
    obtain ⟨Y', k1, k2, k3⟩ := k w m Y Z e v _ he hz hf
    refine ⟨Y', k1, by omega, ?_⟩
    rw [g3 (fun h => by subst h; simp at k2)]
    exact k3
theorem Wk.st {α β : Type} {f : List Tk → Rs α} {g : α → List Tk → Rs β} (h : Wk f) (k : ∀ v, St (g v)) : St (bnd f g) := h.zr.st k
theorem St.st {α β : Type} {f : List Tk → Rs α} {g : α → List Tk → Rs β} (h : St f) (k : ∀ v, St (g v)) : St (bnd f g) := h.wk.zr.st k
theorem Wk.zrs {α β : Type} {f : List Tk → Rs α} {g : α → List Tk → Rs β} (h : Wk f) (k : ∀ v, Zr (g v)) : Wk (bnd f g) := fun m X Z e v l' he hz hf => by
  unfold bnd at hf ⊢
  cases hr : f (X ++ [e]) with
  | error x => rw [hr] at hf; cases hf
  | ok x =>
    obtain ⟨w, l1⟩ := x
    rw [hr] at hf
    obtain ⟨Y, g1, g2, g3⟩ := h m X Z e w _ he hz hr
    subst g1
    obtain ⟨Y', k1, k2, k3⟩ := k w m Y Z e v _ he hz hf
    refine ⟨Y', k1, by omega, fun hn => ?_⟩
    rw [g3 (fun h => by subst h; simp at k2; exact hn k2)]
    exact k3 hn
theorem St.ret {α β : Type} {f : List Tk → Rs α} (h : St f) (g : α → β) : St (bnd f (fun v l' => .ok (g v, l'))) := fun m X Z e v l' he hz hf => by
  unfold bnd at hf ⊢
  cases hr : f (X ++ [e]) with
  | error x => rw [hr] at hf; cases hf
  | ok x =>
    obtain ⟨w, l1⟩ := x
    rw [hr] at hf
    injection hf with hf
    injection hf with h1 h2
    subst h1 h2
    obtain ⟨Y, g1, g2, g3⟩ := h m X Z e w _ he hz hr
    exact ⟨Y, g1, g2, by rw [g3]⟩
theorem pk_cons (x : Tk) (l : List Tk) : pk (x :: l) 0 = x := by simp [pk]
theorem pk_two (x y : Tk) (l : List Tk) : pk (x :: y :: l) 1 = y := by
  unfold pk
  rw [show min 1 ((x :: y :: l).length - 1) = 1 by simp]
  rfl
theorem up_kind (m : Nat) (t : Tk) : (Tk.up m t).kind = t.kind := rfl
theorem up_text (m : Nat) (t : Tk) : (Tk.up m t).text = t.text := rfl
theorem up_num (m : Nat) (t : Tk) : (Tk.up m t).num = t.num := rfl
theorem isS_end (e : Tk) (l : List Tk) (s : List UInt8) (he : e.kind = 0) : isS (e :: l) 0 s = false := by
  unfold isS
  rw [pk_cons, he]
  rfl
theorem isS_cons (x : Tk) (l : List Tk) (s : List UInt8) : isS (x :: l) 0 s = (x.kind == 5 && x.text == s) := by
  unfold isS
  rw [pk_cons]
theorem isS_two (x y : Tk) (l : List Tk) (s : List UInt8) : isS (x :: y :: l) 1 s = (y.kind == 5 && y.text == s) := by
  unfold isS
  rw [pk_two]
theorem want_st (s : List UInt8) : St (wantP s) := fun m X Z e v l' he hz hf => by
  cases X with
  | nil =>
    rw [wantP, List.nil_append, isS_end e _ s he, if_neg (by decide)] at hf
    cases hf
  | cons x X =>
    rw [wantP, List.cons_append, isS_cons] at hf
    by_cases h : (x.kind == 5 && x.text == s) = true
    · rw [if_pos h] at hf
      injection hf with hf
      injection hf with h1 h2
      subst h2
      refine ⟨X, rfl, by simp, ?_⟩
      rw [wantP, List.map_cons, List.cons_append, isS_cons, up_kind, up_text, if_pos h]
      rfl
    · rw [if_neg h] at hf
      cases hf
theorem name_st : St nameP := fun m X Z e v l' he hz hf => by
  cases X with
  | nil =>
    rw [nameP, List.nil_append, pk_cons, if_neg (by rw [he]; simp)] at hf
    cases hf
  | cons x X =>
    rw [nameP, List.cons_append, pk_cons] at hf
    by_cases h : x.kind = 1 ∧ x.text ≠ notL
    · rw [if_pos h] at hf
      injection hf with hf
      injection hf with h1 h2
      subst h1 h2
      refine ⟨X, rfl, by simp, ?_⟩
      rw [nameP, List.map_cons, List.cons_append, pk_cons, up_kind, up_text, if_pos h]
      rfl
    · rw [if_neg h] at hf
      cases hf
theorem num_st : St numP := fun m X Z e v l' he hz hf => by
  cases X with
  | nil =>
    rw [numP, List.nil_append, isS_end e _ _ he, pk_cons, if_neg (by decide), if_neg (by rw [he]; simp)] at hf
    cases hf
  | cons x X =>
    by_cases h : (x.kind == 5 && x.text == [45]) = true
    · cases X with
      | nil =>
        rw [numP, List.cons_append, isS_cons, if_pos h, List.nil_append, pk_two, if_neg (by rw [he]; simp)] at hf
        cases hf
      | cons y X =>
        rw [numP, List.cons_append, isS_cons, if_pos h, List.cons_append, pk_two] at hf
        by_cases h3 : y.kind = 3
        · rw [if_pos h3] at hf
          injection hf with hf
          injection hf with h1 h2
          subst h1 h2
          refine ⟨X, rfl, by simp; omega, ?_⟩
          rw [numP, List.map_cons, List.cons_append, isS_cons, up_kind, up_text, if_pos h, List.map_cons, List.cons_append, pk_two, up_kind, if_pos h3]
          rfl
        · rw [if_neg h3] at hf
          cases hf
    · rw [numP, List.cons_append, isS_cons, if_neg h, pk_cons] at hf
      by_cases h3 : x.kind = 3 ∧ x.num ≤ 9223372036854775807
      · rw [if_pos h3] at hf
        injection hf with hf
        injection hf with h1 h2
        subst h1 h2
        refine ⟨X, rfl, by simp, ?_⟩
        rw [numP, List.map_cons, List.cons_append, isS_cons, up_kind, up_text, if_neg h, pk_cons, up_kind, up_num, if_pos h3]
        rfl
      · rw [if_neg h3] at hf
        cases hf
theorem term_st : St termP := fun m X Z e v l' he hz hf => by
  cases X with
  | nil =>
    rw [termP, List.nil_append, pk_cons, isS_end e _ _ he, he] at hf
    simp at hf
    cases hf
  | cons x X =>
    have hn := num_st m (x :: X) Z e v l' he hz
    rw [termP, List.cons_append, pk_cons, isS_cons] at hf
    by_cases h2 : x.kind = 2
    · rw [if_pos h2] at hf
      injection hf with hf
      injection hf with h1 h2'
      subst h1 h2'
      refine ⟨X, rfl, by simp, ?_⟩
      rw [termP, List.map_cons, List.cons_append, pk_cons, up_kind, up_text, if_pos h2]
      rfl
    · rw [if_neg h2] at hf
      by_cases h4 : x.kind = 4 ∨ x.kind = 1 ∧ x.text ≠ notL
      · rw [if_pos h4] at hf
        injection hf with hf
        injection hf with h1 h2'
        subst h1 h2'
        refine ⟨X, rfl, by simp, ?_⟩
        rw [termP, List.map_cons, List.cons_append, pk_cons, up_kind, up_text, if_neg h2, if_pos h4]
        rfl
      · rw [if_neg h4] at hf
        by_cases h5 : x.kind = 3 ∨ (x.kind == 5 && x.text == [45]) = true
        · rw [if_pos h5] at hf
          obtain ⟨Y, g1, g2, g3⟩ := hn hf
          refine ⟨Y, g1, g2, ?_⟩
          rw [termP, List.map_cons, List.cons_append, pk_cons, isS_cons, up_kind, up_text, if_neg h2, if_neg h4, if_pos h5]
          exact g3
        · rw [if_neg h5] at hf
          cases hf
theorem plain_st : St plainP := term_st.ret (fun t => (t, 0))
theorem argsL_zr {one : List Tk → Rs (Tm × Int)} (ho : Wk one) : ∀ (n : Nat) (acc : List Tm), Wk (argsL one n acc) := by
  intro n
  induction n with
  | zero => intro acc m X Z e v l' he hz hf; cases hf
  | succ n ih =>
    intro acc
    show Wk (bnd one _)
    refine ho.zrs (fun x => ?_)
    intro m X Z e v l' he hz hf
    simp only at hf ⊢
    by_cases h : x.2 ≠ 0
    · rw [if_pos h] at hf ⊢
      exact Zr.pure _ m X Z e v l' he hz hf
    · rw [if_neg h] at hf ⊢
      cases X with
      | nil =>
        rw [List.nil_append, isS_end e _ _ he, if_neg (by decide)] at hf
        injection hf with hf
        injection hf with h1 h2
        subst h1 h2
        exact ⟨[], rfl, Nat.le_refl _, fun h => absurd rfl h⟩
      | cons y X =>
        rw [List.cons_append, isS_cons] at hf
        rw [List.map_cons, List.cons_append, isS_cons, up_kind, up_text]
        by_cases h4 : (y.kind == 5 && y.text == [44]) = true
        · rw [if_pos h4] at hf ⊢
          obtain ⟨Y, g1, g2, g3⟩ := ih (acc ++ [x.1]) m X Z e v l' he hz hf
          exact ⟨Y, g1, by simp; omega, g3⟩
        · rw [if_neg h4] at hf ⊢
          injection hf with hf
          injection hf with h1 h2
          subst h1 h2
          exact ⟨y :: X, rfl, Nat.le_refl _, fun _ => rfl⟩
theorem args_st {one : List Tk → Rs (Tm × Int)} (ho : Wk one) : St (argsP one) :=
  (want_st [40]).st (fun _ => (argsL_zr ho 6 []).st (fun r => (want_st [41]).pure2 r))
theorem atom_st : St atomP := name_st.st (fun s => (args_st plain_st.wk).ret (fun r => mkA s r.1))
theorem find_up {ops : List (Int × List UInt8)} (m : Nat) (x : Tk) (l l' : List Tk) : ops.find? (fun o => isS (Tk.up m x :: l) 0 o.2) = ops.find? (fun o => isS (x :: l') 0 o.2) := by
  simp only [isS_cons, up_kind, up_text]
theorem find_end {ops : List (Int × List UInt8)} (e : Tk) (l : List Tk) (he : e.kind = 0) : ops.find? (fun o => isS (e :: l) 0 o.2) = none := by
  rw [List.find?_eq_none]
  intro o _
  rw [isS_end e l _ he]
  decide
theorem chainL_zr {one : List Tk → Rs Xp} (ho : Wk one) (ops : List (Int × List UInt8)) : ∀ (n : Nat) (x : Xp), Zr (chainL one ops n x) := by
  intro n
  induction n with
  | zero => intro x m X Z e v l' he hz hf; cases hf
  | succ n ih =>
    intro x m X Z e v l' he hz hf
    cases X with
    | nil =>
      rw [chainL, List.nil_append, find_end e _ he] at hf
      injection hf with hf
      injection hf with h1 h2
      subst h1 h2
      exact ⟨[], rfl, Nat.le_refl _, fun h => absurd rfl h⟩
    | cons y X =>
      rw [chainL, List.cons_append] at hf
      rw [chainL, List.map_cons, List.cons_append, find_up m y _ (X ++ [e])]
      cases hc : ops.find? (fun o => isS (y :: (X ++ [e])) 0 o.2) with
      | none =>
        rw [hc] at hf
        injection hf with hf
        injection hf with h1 h2
        subst h1 h2
        exact ⟨y :: X, rfl, Nat.le_refl _, fun _ => rfl⟩
      | some o =>
        rw [hc] at hf
        obtain ⟨Y, g1, g2, g3⟩ := ho.zrs (fun v => ih (mkY o.1 x v)) m X Z e v l' he hz hf
        exact ⟨Y, g1, by simp; omega, g3⟩
theorem chain_wk {one : List Tk → Rs Xp} (ho : Wk one) (ops : List (Int × List UInt8)) : Wk (chainP one ops) := ho.zrs (fun x => chainL_zr ho ops 100000 x)
theorem sum_wk {unit : List Tk → Rs Xp} (ho : Wk unit) : Wk (sumOf unit) := chain_wk (chain_wk ho mulOps) addOps
theorem leaf_st : St leafP := fun m X Z e v l' he hz hf => by
  cases X with
  | nil =>
    rw [leafP, List.nil_append, pk_cons, if_neg (by rw [he]; simp)] at hf
    obtain ⟨Y, _, g2, _⟩ := num_st.ret mkX m [] Z e v l' he hz hf
    simp at g2
  | cons x X =>
    rw [leafP, List.cons_append, pk_cons] at hf
    by_cases h2 : x.kind = 2
    · rw [if_pos h2] at hf
      injection hf with hf
      injection hf with h1 h2'
      subst h1 h2'
      refine ⟨X, rfl, by simp, ?_⟩
      rw [leafP, List.map_cons, List.cons_append, pk_cons, up_kind, up_text, if_pos h2]
      rfl
    · rw [if_neg h2] at hf
      rw [leafP, List.map_cons, List.cons_append, pk_cons, up_kind, if_neg h2]
      exact num_st.ret mkX m (x :: X) Z e v l' he hz hf
theorem unit_st : ∀ n, St (unitP n) := by
  intro n
  induction n with
  | zero =>
    intro m X Z e v l' he hz hf
    rw [unitP] at hf ⊢
    cases X with
    | nil =>
      rw [List.nil_append, isS_end e _ _ he, if_neg (by decide)] at hf
      obtain ⟨Y, _, g2, _⟩ := leaf_st m [] Z e v l' he hz hf
      simp at g2
    | cons x X =>
      rw [List.cons_append, isS_cons] at hf
      rw [List.map_cons, List.cons_append, isS_cons, up_kind, up_text]
      by_cases h : (x.kind == 5 && x.text == [40]) = true
      · rw [if_pos h] at hf
        cases hf
      · rw [if_neg h] at hf ⊢
        exact leaf_st m (x :: X) Z e v l' he hz hf
  | succ n ih =>
    intro m X Z e v l' he hz hf
    rw [unitP] at hf ⊢
    cases X with
    | nil =>
      rw [List.nil_append, isS_end e _ _ he, if_neg (by decide)] at hf
      obtain ⟨Y, _, g2, _⟩ := leaf_st m [] Z e v l' he hz hf
      simp at g2
    | cons x X =>
      rw [List.cons_append, isS_cons] at hf
      rw [List.map_cons, List.cons_append, isS_cons, up_kind, up_text]
      by_cases h : (x.kind == 5 && x.text == [40]) = true
      · rw [if_pos h] at hf ⊢
        obtain ⟨Y, g1, g2, g3⟩ := (sum_wk ih.wk).st (fun x => (want_st [41]).pure2 x) m X Z e v l' he hz hf
        exact ⟨Y, g1, by simp; omega, g3⟩
      · rw [if_neg h] at hf ⊢
        exact leaf_st m (x :: X) Z e v l' he hz hf
theorem compare_st : St compareP := fun m X Z e v l' he hz hf => by
  cases X with
  | nil =>
    rw [compareP, List.nil_append, find_end e _ he] at hf
    cases hf
  | cons x X =>
    rw [compareP, List.cons_append] at hf
    rw [compareP, List.map_cons, List.cons_append, find_up m x _ (X ++ [e])]
    cases hc : cmpOps.find? (fun o => isS (x :: (X ++ [e])) 0 o.2) with
    | none => rw [hc] at hf; cases hf
    | some o =>
      rw [hc] at hf
      injection hf with hf
      injection hf with h1 h2
      subst h1 h2
      exact ⟨X, rfl, by simp, rfl⟩
def cmpP : List Tk → Rs Pt := bnd termP (fun a => bnd compareP (fun o => bnd termP (fun b l' => .ok (⟨2, zA, o, a, b, bL [], zX⟩, l'))))
theorem cmp_st : St cmpP := term_st.st (fun a => compare_st.st (fun o => term_st.ret (fun b => (⟨2, zA, o, a, b, bL [], zX⟩ : Pt))))
theorem Wk.ret {α β : Type} {f : List Tk → Rs α} (h : Wk f) (g : α → β) : Wk (bnd f (fun v l' => .ok (g v, l'))) := h.zrs (fun v => Zr.pure (g v))
theorem cmp_one {x e : Tk} (he : e.kind = 0) {v : Pt} {l' : List Tk} (h : cmpP ([x] ++ [e]) = .ok (v, l')) : False := by
  unfold cmpP bnd at h
  cases hr : termP ([x] ++ [e]) with
  | error y => rw [hr] at h; cases h
  | ok y =>
    obtain ⟨a, l1⟩ := y
    rw [hr] at h
    obtain ⟨Y, g1, g2, _⟩ := term_st 0 [x] [e] e a l1 he (by simp) hr
    have : Y = [] := List.eq_nil_of_length_eq_zero (by simp at g2; simp [g2])
    subst this
    subst g1
    simp only [compareP, List.nil_append, find_end e [] he] at h
    cases h
theorem part_wk : Wk partP := fun m X Z e v l' he hz hf => by
  have key : ∀ {X : List Tk}, cmpP (X ++ [e]) = .ok (v, l') → ∃ Y, l' = Y ++ [e] ∧ Y.length < X.length ∧ (Y ≠ [] → cmpP (X.map (Tk.up m) ++ Z) = .ok (v, Y.map (Tk.up m) ++ Z)) := fun h => cmp_st.wk m _ Z e v l' he hz h
  match X with
  | [] =>
    rw [partP, List.nil_append, pk_cons, if_neg (by rw [he]; simp), if_neg (by rw [he]; simp), if_neg (by rw [he]; simp)] at hf
    obtain ⟨Y, _, g2, _⟩ := key (X := []) hf
    simp at g2
  | [x] =>
    rw [partP, List.cons_append, pk_cons, List.nil_append, isS_two, isS_two, he] at hf
    by_cases h1 : x.kind = 1 ∧ x.text = notL
    · rw [if_pos h1] at hf
      obtain ⟨Y, g1, g2, g3⟩ := (atom_st.ret (fun a => (⟨1, a, 0, zT, zT, bL [], zX⟩ : Pt))).wk m [] Z e v l' he hz hf
      simp at g2
    · rw [if_neg h1, if_neg (by simp), if_neg (by simp)] at hf
      exact (cmp_one he hf).elim
  | x :: y :: X =>
    rw [partP, List.cons_append, pk_cons, List.cons_append, isS_two, isS_two] at hf
    rw [partP, List.map_cons, List.cons_append, pk_cons, List.map_cons, List.cons_append, isS_two, isS_two, up_kind, up_kind, up_text, up_text]
    by_cases h1 : x.kind = 1 ∧ x.text = notL
    · rw [if_pos h1] at hf ⊢
      obtain ⟨Y, g1, g2, g3⟩ := (atom_st.ret (fun a => (⟨1, a, 0, zT, zT, bL [], zX⟩ : Pt))).wk m (y :: X) Z e v l' he hz hf
      exact ⟨Y, g1, by simp at g2 ⊢; omega, g3⟩
    · rw [if_neg h1] at hf ⊢
      by_cases h2 : x.kind = 1 ∧ (y.kind == 5 && y.text == [40]) = true
      · rw [if_pos h2] at hf ⊢
        exact (atom_st.ret (fun a => (⟨0, a, 0, zT, zT, bL [], zX⟩ : Pt))).wk m (x :: y :: X) Z e v l' he hz hf
      · rw [if_neg h2] at hf ⊢
        by_cases h3 : x.kind = 2 ∧ (y.kind == 5 && y.text == [58, 61]) = true
        · rw [if_pos h3] at hf ⊢
          obtain ⟨Y, g1, g2, g3⟩ := ((sum_wk (unit_st 20).wk).ret (fun z => (⟨3, zA, 0, zT, zT, bL x.text, z⟩ : Pt))) m X Z e v l' he hz hf
          exact ⟨Y, g1, by simp; omega, g3⟩
        · rw [if_neg h3] at hf ⊢
          exact key (X := x :: y :: X) hf
theorem agg_wk : Wk aggP := fun m X Z e v l' he hz hf => by
  match X with
  | [] =>
    rw [aggP, List.nil_append, pk_cons, if_pos (.inl (by rw [he]; decide))] at hf
    obtain ⟨Y, _, g2, _⟩ := plain_st m [] Z e v l' he hz hf
    simp at g2
  | [x] =>
    rw [aggP, List.cons_append, pk_cons, List.nil_append, isS_two, he, if_pos (.inr (.inr (by simp)))] at hf
    obtain ⟨Y, g1, g2, _⟩ := plain_st m [x] Z e v l' he hz hf
    exact ⟨Y, g1, g2, fun hn => absurd (List.eq_nil_of_length_eq_zero (by simp at g2; simp [g2])) hn⟩
  | x :: y :: X =>
    rw [aggP, List.cons_append, pk_cons, List.cons_append, isS_two] at hf
    rw [aggP, List.map_cons, List.cons_append, pk_cons, List.map_cons, List.cons_append, isS_two, up_kind, up_kind, up_text, up_text]
    by_cases h1 : x.kind ≠ 1 ∨ aggOf x.text = 0 ∨ (y.kind == 5 && y.text == [60]) = false
    · rw [if_pos h1] at hf ⊢
      exact plain_st.wk m (x :: y :: X) Z e v l' he hz hf
    · rw [if_neg h1] at hf ⊢
      cases X with
      | nil =>
        simp only [List.drop_succ_cons, List.drop_zero, List.nil_append, pk_cons] at hf
        rw [if_neg (by rw [he]; decide)] at hf
        cases hf
      | cons z X =>
        simp only [List.drop_succ_cons, List.drop_zero, List.cons_append, pk_cons] at hf
        simp only [List.drop_succ_cons, List.drop_zero, List.map_cons, List.cons_append, pk_cons, up_kind, up_text]
        by_cases h2 : z.kind = 2
        · rw [if_pos h2] at hf ⊢
          obtain ⟨Y, g1, g2, g3⟩ := ((want_st [62]).pure2 (mkT 0 z.text 0, aggOf x.text)).wk m X Z e v l' he hz hf
          exact ⟨Y, g1, by simp; omega, g3⟩
        · rw [if_neg h2] at hf
          cases hf
theorem parts_wk : ∀ (n : Nat) (acc : List Pt), Wk (partsL n acc) := by
  intro n
  induction n with
  | zero => intro acc m X Z e v l' he hz hf; cases hf
  | succ n ih =>
    intro acc
    show Wk (bnd partP _)
    refine part_wk.zrs (fun x => ?_)
    intro m X Z e v l' he hz hf
    simp only at hf ⊢
    cases X with
    | nil =>
      rw [List.nil_append, isS_end e _ _ he, if_neg (by decide)] at hf
      injection hf with hf
      injection hf with h1 h2
      subst h1 h2
      exact ⟨[], rfl, Nat.le_refl _, fun h => absurd rfl h⟩
    | cons y X =>
      rw [List.cons_append, isS_cons] at hf
      rw [List.map_cons, List.cons_append, isS_cons, up_kind, up_text]
      by_cases h4 : (y.kind == 5 && y.text == [44]) = true
      · rw [if_pos h4] at hf ⊢
        obtain ⟨Y, g1, g2, g3⟩ := ih (acc ++ [x]) m X Z e v l' he hz hf
        exact ⟨Y, g1, by simp; omega, g3⟩
      · rw [if_neg h4] at hf ⊢
        injection hf with hf
        injection hf with h1 h2
        subst h1 h2
        exact ⟨y :: X, rfl, Nat.le_refl _, fun _ => rfl⟩
theorem head_st : St headP := name_st.st (fun s => (args_st agg_wk).ret (fun r => (mkA s r.1, r.2)))
theorem body_zr : Zr bodyP := fun m X Z e v l' he hz hf => by
  cases X with
  | nil =>
    rw [bodyP, List.nil_append, isS_end e _ _ he, if_neg (by decide)] at hf
    injection hf with hf
    injection hf with h1 h2
    subst h1 h2
    exact ⟨[], rfl, Nat.le_refl _, fun h => absurd rfl h⟩
  | cons x X =>
    rw [bodyP, List.cons_append, isS_cons] at hf
    rw [bodyP, List.map_cons, List.cons_append, isS_cons, up_kind, up_text]
    by_cases h : (x.kind == 5 && x.text == [58, 45]) = true
    · rw [if_pos h] at hf ⊢
      obtain ⟨Y, g1, g2, g3⟩ := parts_wk 12 [] m X Z e v l' he hz hf
      exact ⟨Y, g1, by simp; omega, g3⟩
    · rw [if_neg h] at hf ⊢
      injection hf with hf
      injection hf with h1 h2
      subst h1 h2
      exact ⟨x :: X, rfl, Nat.le_refl _, fun _ => rfl⟩
theorem ruleC_st : St ruleC := head_st.st (fun h => body_zr.st (fun b => (want_st [46]).pure2 (h.1, h.2, b)))
theorem declC_st : St declC := fun m X Z e v l' he hz hf => by
  cases X with
  | nil =>
    rw [declC, List.nil_append, pk_cons, if_neg (by rw [he]; simp)] at hf
    cases hf
  | cons x X =>
    rw [declC, List.cons_append, pk_cons] at hf
    rw [declC, List.map_cons, List.cons_append, pk_cons, up_kind, up_text]
    by_cases h : x.kind = 1 ∧ (x.text = minL ∨ x.text = maxL)
    · rw [if_pos h] at hf ⊢
      obtain ⟨Y, g1, g2, g3⟩ := name_st.st (fun s => (want_st [46]).pure2 (s, decide (x.text = maxL))) m X Z e v l' he hz hf
      exact ⟨Y, g1, by simp; omega, g3⟩
    · rw [if_neg h] at hf
      cases hf
def Rl.up (m : Nat) (r : Rl) : Rl := ⟨r.f0, r.f1, r.f2, r.f3 + m⟩
def Dl.up (m : Nat) (d : Dl) : Dl := ⟨d.f0, d.f1, d.f2 + m⟩
theorem rule_st {nv : Rl → Nat} (hv : ∀ r m, nv (Rl.up m r) = nv r) (m : Nat) (X Z : List Tk) (e : Tk) (v : Rl) (l' : List Tk) (he : e.kind = 0) (hz : Z ≠ []) (hf : ruleP nv (X ++ [e]) = .ok (v, l')) :
    ∃ Y, l' = Y ++ [e] ∧ Y.length < X.length ∧ ruleP nv (X.map (Tk.up m) ++ Z) = .ok (Rl.up m v, Y.map (Tk.up m) ++ Z) := by
  unfold ruleP at hf
  cases hr : ruleC (X ++ [e]) with
  | error y => rw [hr] at hf; cases hf
  | ok y =>
    obtain ⟨⟨h, g, b⟩, l1⟩ := y
    rw [hr] at hf
    obtain ⟨Y, g1, g2, g3⟩ := ruleC_st m X Z e _ _ he hz hr
    subst g1
    cases X with
    | nil => simp at g2
    | cons x X =>
      have hp : pk ((x :: X) ++ [e]) 0 = x := by rw [List.cons_append, pk_cons]
      have hq : pk ((x :: X).map (Tk.up m) ++ Z) 0 = Tk.up m x := by rw [List.map_cons, List.cons_append, pk_cons]
      have hw := hv ⟨h, g, b, (x.start : Int)⟩ m
      have hs : (Rl.up m ⟨h, g, b, (x.start : Int)⟩ : Rl) = ⟨h, g, b, ((Tk.up m x).start : Int)⟩ := by
        show (⟨h, g, b, (x.start : Int) + m⟩ : Rl) = ⟨h, g, b, ((x.start + m : Nat) : Int)⟩
        rw [Int.natCast_add]
      simp only [hp] at hf
      split at hf
      · cases hf
      · rename_i hn
        injection hf with hf
        injection hf with h1 h2
        subst h1 h2
        refine ⟨Y, rfl, g2, ?_⟩
        unfold ruleP
        rw [g3]
        simp only [hq]
        rw [← hs, hw, if_neg hn]
theorem decl_st (m : Nat) (X Z : List Tk) (e : Tk) (v : Dl) (l' : List Tk) (he : e.kind = 0) (hz : Z ≠ []) (hx : X ≠ []) (hf : declP (X ++ [e]) = .ok (v, l')) :
    ∃ Y, l' = Y ++ [e] ∧ Y.length < X.length ∧ declP (X.map (Tk.up m) ++ Z) = .ok (Dl.up m v, Y.map (Tk.up m) ++ Z) := by
  cases X with
  | nil => exact absurd rfl hx
  | cons x X =>
    unfold declP at hf
    rw [List.cons_append, List.drop_succ_cons, List.drop_zero, pk_cons] at hf
    cases hr : declC (X ++ [e]) with
    | error y => rw [hr] at hf; cases hf
    | ok y =>
      obtain ⟨⟨s, b⟩, l1⟩ := y
      rw [hr] at hf
      obtain ⟨Y, g1, g2, g3⟩ := declC_st m X Z e _ _ he hz hr
      injection hf with hf
      injection hf with h1 h2
      subst h1 h2
      refine ⟨Y, g1, by simp; omega, ?_⟩
      unfold declP
      rw [List.map_cons, List.cons_append, List.drop_succ_cons, List.drop_zero, pk_cons, g3]
      simp only [Dl.up]
      show Except.ok ((⟨bL s, b, ((x.start + m : Nat) : Int)⟩ : Dl), _) = _
      rw [Int.natCast_add]
theorem prog_join {nv : Rl → Nat} (hv : ∀ r m, nv (Rl.up m r) = nv r) (m : Nat) (Z : List Tk) (hz : Z ≠ []) : ∀ (n k : Nat) (X : List Tk) (e : Tk) (ds : List Dl) (rs : List Rl), e.kind = 0 → (∀ x ∈ X, x.kind ≠ 0) →
    progL nv n (X ++ [e]) = .ok (ds, rs) → progL nv (ds.length + rs.length + k) (X.map (Tk.up m) ++ Z) = (progL nv k Z).map (fun r => (ds.map (Dl.up m) ++ r.1, rs.map (Rl.up m) ++ r.2)) := by
  intro n
  induction n with
  | zero =>
    intro k X e ds rs he hx hf
    cases X with
    | nil =>
      rw [progL, List.nil_append, pk_cons, if_pos he] at hf
      injection hf with hf
      injection hf with h1 h2
      subst h1 h2
      simp only [List.length_nil, Nat.zero_add, List.map_nil, List.nil_append]
      cases progL nv k Z <;> rfl
    | cons x X =>
      rw [progL, List.cons_append, pk_cons, if_neg (hx x List.mem_cons_self)] at hf
      cases hf
  | succ n ih =>
    intro k X e ds rs he hx hf
    cases X with
    | nil =>
      rw [progL, List.nil_append, pk_cons, if_pos he] at hf
      injection hf with hf
      injection hf with h1 h2
      subst h1 h2
      simp only [List.length_nil, Nat.zero_add, List.map_nil, List.nil_append]
      cases progL nv k Z <;> rfl
    | cons x X =>
      have hk := hx x List.mem_cons_self
      rw [progL, List.cons_append, pk_cons, if_neg hk] at hf
      by_cases hs : isS (x :: (X ++ [e])) 0 [64] = true
      · rw [if_pos hs] at hf
        cases hd : declP (x :: (X ++ [e])) with
        | error y => rw [hd] at hf; cases hf
        | ok y =>
          obtain ⟨d, l1⟩ := y
          rw [hd] at hf
          obtain ⟨Y, g1, g2, g3⟩ := decl_st m (x :: X) Z e d l1 he hz (by simp) hd
          subst g1
          simp only at hf
          cases hp : progL nv n (Y ++ [e]) with
          | error y => rw [hp] at hf; cases hf
          | ok y =>
            obtain ⟨ds', rs'⟩ := y
            rw [hp] at hf
            injection hf with hf
            injection hf with h1 h2
            simp only at h1 h2
            subst h1 h2
            have hy : ∀ z ∈ Y, z.kind ≠ 0 := by
              obtain ⟨k, hk⟩ := decl_sf _ _ _ hd
              exact sf_in (X := x :: X) hk he hx
            have := ih k Y e ds' rs' he hy hp
            rw [show (d :: ds').length + rs'.length + k = (ds'.length + rs'.length + k) + 1 by simp; omega, progL, List.map_cons, List.cons_append, pk_cons, up_kind, if_neg hk]
            rw [isS_cons] at hs
            rw [isS_cons, up_kind, up_text, if_pos hs]
            rw [List.map_cons, List.cons_append] at g3
            rw [g3]
            simp only
            rw [this]
            cases progL nv k Z <;> rfl
      · rw [if_neg hs] at hf
        cases hd : ruleP nv (x :: (X ++ [e])) with
        | error y => rw [hd] at hf; cases hf
        | ok y =>
          obtain ⟨d, l1⟩ := y
          rw [hd] at hf
          obtain ⟨Y, g1, g2, g3⟩ := rule_st hv m (x :: X) Z e d l1 he hz hd
          subst g1
          simp only at hf
          cases hp : progL nv n (Y ++ [e]) with
          | error y => rw [hp] at hf; cases hf
          | ok y =>
            obtain ⟨ds', rs'⟩ := y
            rw [hp] at hf
            injection hf with hf
            injection hf with h1 h2
            simp only at h1 h2
            subst h1 h2
            have hy : ∀ z ∈ Y, z.kind ≠ 0 := by
              obtain ⟨k, hk⟩ := rule_sf nv _ _ _ hd
              exact sf_in (X := x :: X) hk he hx
            have := ih k Y e ds' rs' he hy hp
            rw [show ds'.length + (d :: rs').length + k = (ds'.length + rs'.length + k) + 1 by simp; omega, progL, List.map_cons, List.cons_append, pk_cons, up_kind, if_neg hk]
            rw [isS_cons] at hs
            rw [isS_cons, up_kind, up_text, if_neg hs]
            rw [List.map_cons, List.cons_append] at g3
            rw [g3]
            simp only
            rw [this]
            cases progL nv k Z <;> rfl
end Go.Proofs.YtjlnpdpkobpkiaaPSP
