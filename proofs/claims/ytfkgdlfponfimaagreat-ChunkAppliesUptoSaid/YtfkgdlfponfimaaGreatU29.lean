import Derived.Test.YtfkgdlfponfimaaGreatU28
/- Things as bytes: what is put and what is taken, each the other's undoing; plain Lean. -/
namespace Go.Proofs.YtfkgdlfponfimaaGreat.WM
structure Cod (α : Type) where
  enc : α → List UInt8
  ok : α → Prop
  tk : List UInt8 → Option (α × List UInt8)
  iff : ∀ s a r, tk s = some (a, r) ↔ ok a ∧ s = enc a ++ r
namespace Cod
variable {α β : Type}
theorem back (c : Cod α) {a : α} (h : c.ok a) (r : List UInt8) : c.tk (c.enc a ++ r) = some (a, r) := (c.iff _ _ _).2 ⟨h, rfl⟩
theorem inj (c : Cod α) {a b : α} {x y : List UInt8} (ha : c.ok a) (hb : c.ok b) (h : c.enc a ++ x = c.enc b ++ y) : a = b ∧ x = y := by
  have h1 := c.back ha x
  rw [h, c.back hb y] at h1
  simp only [Option.some.injEq, Prod.mk.injEq] at h1
  exact ⟨h1.1.symm, h1.2.symm⟩
def pair (a : Cod α) (b : Cod β) : Cod (α × β) where
  enc p := a.enc p.1 ++ b.enc p.2
  ok p := a.ok p.1 ∧ b.ok p.2
  tk s := match a.tk s with
    | some (x, r) => match b.tk r with
      | some (y, q) => some ((x, y), q)
      | none => none
    | none => none
  iff s p r := by
    obtain ⟨x, y⟩ := p
    constructor
    · intro h
      cases h1 : a.tk s with
      | none => rw [h1] at h; cases h
      | some p1 =>
        obtain ⟨x1, r1⟩ := p1
        rw [h1] at h
        simp only at h
        cases h2 : b.tk r1 with
        | none => rw [h2] at h; cases h
        | some p2 =>
          obtain ⟨y1, q1⟩ := p2
          rw [h2] at h
          simp only [Option.some.injEq, Prod.mk.injEq] at h
          obtain ⟨⟨rfl, rfl⟩, rfl⟩ := h
          obtain ⟨k1, rfl⟩ := (a.iff _ _ _).1 h1
          obtain ⟨k2, rfl⟩ := (b.iff _ _ _).1 h2
          exact ⟨⟨k1, k2⟩, by rw [List.append_assoc]⟩
    · rintro ⟨⟨k1, k2⟩, rfl⟩
      simp only [List.append_assoc]
      rw [a.back k1]
      simp only
      rw [b.back k2]
def iso (c : Cod α) (f : α → β) (g : β → α) (h1 : ∀ b, f (g b) = b) (h2 : ∀ a, g (f a) = a) : Cod β where
  enc b := c.enc (g b)
  ok b := c.ok (g b)
  tk s := match c.tk s with
    | some (x, r) => some (f x, r)
    | none => none
  iff s b r := by
    constructor
    · intro h
      cases h3 : c.tk s with
      | none => rw [h3] at h; cases h
      | some p =>
        obtain ⟨x, q⟩ := p
        rw [h3] at h
        simp only [Option.some.injEq, Prod.mk.injEq] at h
        obtain ⟨rfl, rfl⟩ := h
        rw [h2]
        exact (c.iff _ _ _).1 h3
    · rintro ⟨k, rfl⟩
      rw [c.back k]
      simp only [h1]
def manyT (c : Cod α) : Nat → List UInt8 → Option (List α × List UInt8)
  | 0, s => some ([], s)
  | k + 1, s => match c.tk s with
    | some (x, r) => match manyT c k r with
      | some (l, q) => some (x :: l, q)
      | none => none
    | none => none
theorem manyT_iff (c : Cod α) : ∀ (k : Nat) (s : List UInt8) (l : List α) (r : List UInt8), c.manyT k s = some (l, r) ↔ (l.length = k ∧ ∀ x ∈ l, c.ok x) ∧ s = (l.map c.enc).flatten ++ r
  | 0, s, l, r => by
    simp only [manyT, Option.some.injEq, Prod.mk.injEq]
    constructor
    · rintro ⟨rfl, rfl⟩; simp
    · rintro ⟨⟨h1, _⟩, h2⟩
      obtain rfl := List.eq_nil_of_length_eq_zero h1
      exact ⟨rfl, by simpa using h2⟩
  | k + 1, s, l, r => by
    constructor
    · intro h
      simp only [manyT] at h
      cases h1 : c.tk s with
      | none => rw [h1] at h; cases h
      | some p =>
        obtain ⟨x, q⟩ := p
        rw [h1] at h
        simp only at h
        cases h2 : c.manyT k q with
        | none => rw [h2] at h; cases h
        | some p2 =>
          obtain ⟨l2, q2⟩ := p2
          rw [h2] at h
          simp only [Option.some.injEq, Prod.mk.injEq] at h
          obtain ⟨rfl, rfl⟩ := h
          obtain ⟨⟨k1, k2⟩, rfl⟩ := (manyT_iff c k _ _ _).1 h2
          obtain ⟨k3, rfl⟩ := (c.iff _ _ _).1 h1
          refine ⟨⟨by simp [k1], fun y hy => ?_⟩, by simp⟩
          rcases List.mem_cons.1 hy with rfl | hy
          · exact k3
          · exact k2 y hy
    · rintro ⟨⟨h1, h2⟩, rfl⟩
      cases l with
      | nil => simp at h1
      | cons x l =>
        simp only [List.map_cons, List.flatten_cons, List.append_assoc, manyT]
        rw [c.back (h2 x (by simp))]
        simp only
        rw [(manyT_iff c k _ l r).2 ⟨⟨by simpa using h1, fun y hy => h2 y (by simp [hy])⟩, rfl⟩]
def many (c : Cod α) (k : Nat) : Cod (List α) where
  enc l := (l.map c.enc).flatten
  ok l := l.length = k ∧ ∀ x ∈ l, c.ok x
  tk := c.manyT k
  iff := c.manyT_iff k
def list (c : Cod α) (m : Nat) (hm : m < 18446744073709551616) : Cod (List α) where
  enc l := encU l.length ++ (l.map c.enc).flatten
  ok l := l.length ≤ m ∧ ∀ x ∈ l, c.ok x
  tk s := match takeU 64 s with
    | some (n, r) => if n ≤ m then c.manyT n r else none
    | none => none
  iff s l r := by
    constructor
    · intro h
      cases h1 : takeU 64 s with
      | none => rw [h1] at h; cases h
      | some p =>
        obtain ⟨n, q⟩ := p
        rw [h1] at h
        simp only at h
        split at h
        · rename_i hn
          obtain ⟨⟨k1, k2⟩, rfl⟩ := (c.manyT_iff _ _ _ _).1 h
          obtain ⟨rfl, _⟩ := (takeU_iff _ _ _).1 h1
          exact ⟨⟨by omega, k2⟩, by rw [k1, List.append_assoc]⟩
        · cases h
    · rintro ⟨⟨k1, k2⟩, rfl⟩
      rw [List.append_assoc, takeU_enc _ 64 _ (by show l.length < 18446744073709551616; omega)]
      simp only
      rw [if_pos k1]
      exact (c.manyT_iff _ _ _ _).2 ⟨⟨rfl, k2⟩, rfl⟩
end Cod
def cI : Cod Int where
  enc a := encU a.toNat
  ok a := 0 ≤ a ∧ a ≤ 18446744073709551615
  tk s := match takeU 64 s with
    | some (n, r) => some ((n : Int), r)
    | none => none
  iff s a r := by
    constructor
    · intro h
      cases h1 : takeU 64 s with
      | none => rw [h1] at h; cases h
      | some p =>
        obtain ⟨n, q⟩ := p
        rw [h1] at h
        simp only [Option.some.injEq, Prod.mk.injEq] at h
        obtain ⟨rfl, rfl⟩ := h
        obtain ⟨rfl, hn⟩ := (takeU_iff _ _ _).1 h1
        exact ⟨⟨by omega, by omega⟩, by rw [Int.toNat_natCast]⟩
    · rintro ⟨⟨h0, h1⟩, rfl⟩
      rw [takeU_enc _ 64 _ (by show a.toNat < 18446744073709551616; omega)]
      simp only [Option.some.injEq, Prod.mk.injEq, and_true]
      omega
def cT (m : Nat) (hm : m < 18446744073709551616) : Cod ByteArray where
  enc s := encT s.data.toList
  ok s := s.size ≤ m
  tk s := match takeT (m : Int) s with
    | some (t, r) => some (ba t, r)
    | none => none
  iff s a r := by
    constructor
    · intro h
      cases h1 : takeT (m : Int) s with
      | none => rw [h1] at h; cases h
      | some p =>
        obtain ⟨t, q⟩ := p
        rw [h1] at h
        simp only [Option.some.injEq, Prod.mk.injEq] at h
        obtain ⟨rfl, rfl⟩ := h
        obtain ⟨rfl, h2, _⟩ := takeT_some h1
        exact ⟨by rw [ba_size]; omega, by rw [ba_data]⟩
    · rintro ⟨h0, rfl⟩
      have hl : a.data.toList.length = a.size := rfl
      rw [takeT_enc _ _ (by omega) (by omega)]
      simp only [Option.some.injEq, Prod.mk.injEq, and_true]
      exact ba_of a
def Cod.all {α : Type} (c : Cod α) (s : List UInt8) : Option α := match c.tk s with
  | some (a, []) => some a
  | _ => none
def Cod.Far {α : Type} (c : Cod α) (n : Nat) (s : List UInt8) (i : Nat) (acc : List α) (rest : List UInt8) : Prop :=
  i ≤ n ∧ acc.length = i ∧ c.manyT n s = (match c.manyT (n - i) rest with
    | some (l, q) => some (acc ++ l, q)
    | none => none)
theorem Cod.far0 {α : Type} (c : Cod α) (n : Nat) (s : List UInt8) : c.Far n s 0 [] s := ⟨Nat.zero_le _, rfl, by
  rw [Nat.sub_zero]
  cases c.manyT n s with
  | none => rfl
  | some p => rfl⟩
theorem Cod.far_step {α : Type} {c : Cod α} {n : Nat} {s : List UInt8} {i : Nat} {acc : List α} {rest r : List UInt8} {x : α} (h : c.Far n s i acc rest) (hi : i < n) (hx : c.tk rest = some (x, r)) : c.Far n s (i + 1) (acc ++ [x]) r := by
  obtain ⟨h1, h2, h3⟩ := h
  refine ⟨by omega, by simp [h2], ?_⟩
  rw [h3, show n - i = (n - (i + 1)) + 1 by omega, manyT, hx]
  simp only
  cases c.manyT (n - (i + 1)) r with
  | none => rfl
  | some p => obtain ⟨l, q⟩ := p; simp
theorem Cod.far_none {α : Type} {c : Cod α} {n : Nat} {s : List UInt8} {i : Nat} {acc : List α} {rest : List UInt8} (h : c.Far n s i acc rest) (hi : i < n) (hx : c.tk rest = none) : c.manyT n s = none := by
  obtain ⟨h1, h2, h3⟩ := h
  rw [h3, show n - i = (n - (i + 1)) + 1 by omega, manyT, hx]
theorem Cod.far_end {α : Type} {c : Cod α} {n : Nat} {s : List UInt8} {i : Nat} {acc : List α} {rest : List UInt8} (h : c.Far n s i acc rest) (hi : ¬ i < n) : c.manyT n s = some (acc, rest) := by
  obtain ⟨h1, h2, h3⟩ := h
  rw [h3, show n - i = 0 by omega]
  simp [manyT]
theorem cI_tk1 {s : List UInt8} (h : takeU 64 s = none) : cI.tk s = none := by
  show (match takeU 64 s with | some (n, r) => some ((n : Int), r) | none => none) = _
  rw [h]
theorem cI_tk2 {s r : List UInt8} {n : Nat} (h : takeU 64 s = some (n, r)) : cI.tk s = some ((n : Int), r) := by
  show (match takeU 64 s with | some (n, r) => some ((n : Int), r) | none => none) = _
  rw [h]
end Go.Proofs.YtfkgdlfponfimaaGreat.WM
