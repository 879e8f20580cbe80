import Derived.Laws.BitsLemmas
import Derived.Laws.Bits64b
import Derived.IntWalk
import Derived.Laws.Strings2
/- Numbers and texts as bytes, in plain Lean: what is put (encU), what is taken (takeU), and that each undoes the other. -/
namespace Go.Proofs.YtfkgdlfponfimaaGreat.WM
def ba (l : List UInt8) : ByteArray := ⟨l.toArray⟩
@[simp] theorem ba_data (l : List UInt8) : (ba l).data.toList = l := rfl
@[simp] theorem ba_toList (l : List UInt8) : (ba l).toList = l := by rw [ByteArray.toList_eq]; rfl
@[simp] theorem ba_size (l : List UInt8) : (ba l).size = l.length := by simp [ba, ByteArray.size]
theorem ba_of (s : ByteArray) : ba s.data.toList = s := rfl
theorem ba_append (a b : List UInt8) : ba a ++ ba b = ba (a ++ b) := by
  unfold ba
  apply ByteArray.ext
  simp [ByteArray.data_append]
theorem ba_inj {a b : List UInt8} : ba a = ba b ↔ a = b := ⟨fun h => by have := congrArg (fun s : ByteArray => s.data.toList) h; simpa using this, fun h => by rw [h]⟩
theorem ba_extract (l : List UInt8) (i j : Nat) : (ba l).extract i j = ba ((l.drop i).take (j - i)) := by
  unfold ba
  rw [ByteArray.extract_mk]
theorem ba_drop (l : List UInt8) (i : Nat) : (ba l).extract i (ba l).size = ba (l.drop i) := by
  rw [ba_extract, ba_size, List.take_of_length_le (by simp)]
theorem ba_take (l : List UInt8) (i : Nat) : (ba l).extract 0 i = ba (l.take i) := by
  rw [ba_extract, List.drop_zero, Nat.sub_zero]
def encU (n : Nat) : List UInt8 := if n < 128 then [UInt8.ofNat n] else UInt8.ofNat (n % 128 + 128) :: encU (n / 128)
termination_by n
decreasing_by omega
theorem encU_small {n : Nat} (h : n < 128) : encU n = [UInt8.ofNat n] := by rw [encU, if_pos h]
theorem encU_big {n : Nat} (h : ¬ n < 128) : encU n = UInt8.ofNat (n % 128 + 128) :: encU (n / 128) := by rw [encU, if_neg h]
theorem encU_pos (n : Nat) : 1 ≤ (encU n).length := by
  by_cases h : n < 128
  · rw [encU_small h]; simp
  · rw [encU_big h]; simp
theorem encU_len (k : Nat) : ∀ n, n < 128 ^ (k + 1) → (encU n).length ≤ k + 1 := by
  induction k with
  | zero => intro n h; rw [encU_small (by simpa using h)]; simp
  | succ k ih =>
    intro n h
    by_cases hn : n < 128
    · rw [encU_small hn]; simp
    · rw [encU_big hn]
      have := ih (n / 128) (by rw [Nat.div_lt_iff_lt_mul (by decide)]; rw [Nat.pow_succ] at h; exact h)
      simp; omega
theorem encU_le10 {n : Nat} (h : n < 18446744073709551616) : (encU n).length ≤ 10 := encU_len 9 n (by omega)
theorem u8_toNat {n : Nat} (h : n < 256) : (UInt8.ofNat n).toNat = n := by simp; omega
theorem u8_of (c : UInt8) : UInt8.ofNat c.toNat = c := by simp
def takeU : Nat → List UInt8 → Option (Nat × List UInt8)
  | _, [] => none
  | m, c :: t => if c.toNat < 128 then (if c.toNat < 2 ^ m then some (c.toNat, t) else none)
    else match takeU (m - 7) t with
      | some (v, r) => if v = 0 then none else some (c.toNat - 128 + 128 * v, r)
      | none => none
theorem takeU_some : ∀ (s : List UInt8) (m n : Nat) (r : List UInt8), takeU m s = some (n, r) → s = encU n ++ r ∧ n < 2 ^ m := by
  intro s
  induction s with
  | nil => intro m n r h; simp [takeU] at h
  | cons c t ih =>
    intro m n r h
    have hc := c.toNat_lt
    simp only [takeU] at h
    by_cases h1 : c.toNat < 128
    · rw [if_pos h1] at h
      by_cases h2 : c.toNat < 2 ^ m
      · rw [if_pos h2] at h
        simp only [Option.some.injEq, Prod.mk.injEq] at h
        obtain ⟨rfl, rfl⟩ := h
        rw [encU_small h1]
        exact ⟨by simp, h2⟩
      · rw [if_neg h2] at h; simp at h
    · rw [if_neg h1] at h
      cases hv : takeU (m - 7) t with
      | none => rw [hv] at h; simp at h
      | some p =>
        obtain ⟨v, r'⟩ := p
        rw [hv] at h
        simp only at h
        by_cases h3 : v = 0
        · rw [if_pos h3] at h; simp at h
        · rw [if_neg h3] at h
          simp only [Option.some.injEq, Prod.mk.injEq] at h
          obtain ⟨rfl, rfl⟩ := h
          obtain ⟨e, hlt⟩ := ih _ _ _ hv
          have hm : 7 ≤ m := by
            rcases Nat.lt_or_ge m 7 with hm | hm
            · rw [show m - 7 = 0 from by omega] at hlt; simp at hlt; omega
            · exact hm
          have hp : 2 ^ m = 128 * 2 ^ (m - 7) := by
            rw [show m = 7 + (m - 7) from by omega, Nat.pow_add, show 7 + (m - 7) - 7 = m - 7 from by omega]
          refine ⟨?_, by omega⟩
          rw [encU_big (by omega), show (c.toNat - 128 + 128 * v) % 128 + 128 = c.toNat from by omega, show (c.toNat - 128 + 128 * v) / 128 = v from by omega, u8_of, e]
          rfl
theorem takeU_enc (n : Nat) : ∀ (m : Nat) (r : List UInt8), n < 2 ^ m → takeU m (encU n ++ r) = some (n, r) := by
  induction n using Nat.strongRecOn with
  | ind n ih =>
    intro m r h
    by_cases hn : n < 128
    · rw [encU_small hn]
      simp only [List.cons_append, List.nil_append, takeU]
      rw [u8_toNat (by omega), if_pos hn, if_pos h]
    · rw [encU_big hn]
      simp only [List.cons_append, takeU]
      rw [u8_toNat (by omega), if_neg (by omega)]
      have hm : 7 ≤ m := by
        rcases Nat.lt_or_ge m 7 with hm | hm
        · have : 2 ^ m ≤ 2 ^ 7 := Nat.pow_le_pow_right (by decide) (by omega)
          omega
        · exact hm
      have hp : 2 ^ m = 128 * 2 ^ (m - 7) := by
        rw [show m = 7 + (m - 7) from by omega, Nat.pow_add, show 7 + (m - 7) - 7 = m - 7 from by omega]
      rw [ih (n / 128) (by omega) (m - 7) r (by omega)]
      simp only
      rw [if_neg (by omega)]
      simp only [Option.some.injEq, Prod.mk.injEq, and_true]
      omega
theorem takeU_iff (s : List UInt8) (n : Nat) (r : List UInt8) : takeU 64 s = some (n, r) ↔ s = encU n ++ r ∧ n < 18446744073709551616 := by
  constructor
  · intro h; exact takeU_some s 64 n r h
  · rintro ⟨rfl, h⟩; exact takeU_enc n 64 r h
theorem takeU_short {s : List UInt8} {n : Nat} {r : List UInt8} (h : takeU 64 s = some (n, r)) : r.length < s.length := by
  obtain ⟨rfl, _⟩ := (takeU_iff _ _ _).1 h
  have := encU_pos n
  simp; omega
def encT (s : List UInt8) : List UInt8 := encU s.length ++ s
def encN (l : List Nat) : List UInt8 := encU l.length ++ (l.map encU).flatten
def encL (l : List (List UInt8)) : List UInt8 := encU l.length ++ (l.map encT).flatten
def takeT (most : Int) (s : List UInt8) : Option (List UInt8 × List UInt8) :=
  match takeU 64 s with
  | some (n, r) => if 0 ≤ most ∧ (n : Int) ≤ most ∧ n ≤ r.length then some (r.take n, r.drop n) else none
  | none => none
def takeNs : Nat → List UInt8 → Option (List Nat × List UInt8)
  | 0, s => some ([], s)
  | k + 1, s => match takeU 64 s with
    | some (n, r) => match takeNs k r with
      | some (l, q) => some (n :: l, q)
      | none => none
    | none => none
def takeTs : Nat → List UInt8 → Option (List (List UInt8) × List UInt8)
  | 0, s => some ([], s)
  | k + 1, s => match takeT s.length s with
    | some (n, r) => match takeTs k r with
      | some (l, q) => some (n :: l, q)
      | none => none
    | none => none
def takeN (most : Int) (s : List UInt8) : Option (List Nat × List UInt8) :=
  match takeU 64 s with
  | some (n, r) => if 0 ≤ most ∧ (n : Int) ≤ most then takeNs n r else none
  | none => none
def takeL (most : Int) (s : List UInt8) : Option (List (List UInt8) × List UInt8) :=
  match takeU 64 s with
  | some (n, r) => if 0 ≤ most ∧ (n : Int) ≤ most then takeTs n r else none
  | none => none
theorem takeT_some {most : Int} {s t r : List UInt8} (h : takeT most s = some (t, r)) : s = encT t ++ r ∧ (t.length : Int) ≤ most ∧ 0 ≤ most ∧ t.length < 18446744073709551616 := by
  unfold takeT at h
  cases hv : takeU 64 s with
  | none => rw [hv] at h; simp at h
  | some p =>
    obtain ⟨n, q⟩ := p
    rw [hv] at h
    simp only at h
    by_cases hc : 0 ≤ most ∧ (n : Int) ≤ most ∧ n ≤ q.length
    · rw [if_pos hc] at h
      simp only [Option.some.injEq, Prod.mk.injEq] at h
      obtain ⟨rfl, rfl⟩ := h
      obtain ⟨rfl, hn⟩ := (takeU_iff _ _ _).1 hv
      have hl : (q.take n).length = n := by simp; omega
      refine ⟨?_, by rw [hl]; exact hc.2.1, hc.1, by rw [hl]; exact hn⟩
      unfold encT
      rw [hl, List.append_assoc, List.take_append_drop]
    · rw [if_neg hc] at h; simp at h
theorem takeT_enc {most : Int} (t r : List UInt8) (hm : (t.length : Int) ≤ most) (ht : t.length < 18446744073709551616) : takeT most (encT t ++ r) = some (t, r) := by
  unfold takeT encT
  rw [List.append_assoc, takeU_enc _ 64 _ ht]
  simp only
  rw [if_pos ⟨by omega, hm, by simp⟩]
  simp
theorem takeT_short {most : Int} {s t r : List UInt8} (h : takeT most s = some (t, r)) : t.length + r.length < s.length := by
  obtain ⟨rfl, _⟩ := takeT_some h
  have := encU_pos t.length
  unfold encT
  simp; omega
theorem or128 (n : Nat) : Go.bits .or .u8 ((n : Int) % 256) 128 = ((n % 128 + 128 : Nat) : Int) := by
  have h1 : ∀ m : Fin 256, Go.bits .or .u8 ((m.val : Nat) : Int) 128 = ((m.val % 128 + 128 : Nat) : Int) := by decide +kernel
  have h2 := h1 ⟨n % 256, by omega⟩
  simp only at h2
  rw [show ((n : Int) % 256) = ((n % 256 : Nat) : Int) from by omega, h2]
  omega
theorem and127 (c : UInt8) : Go.bits .and .u8 (c.toNat : Int) 127 = ((c.toNat % 128 : Nat) : Int) := by
  have h1 : ∀ m : Fin 256, Go.bits .and .u8 ((m.val : Nat) : Int) 127 = ((m.val % 128 : Nat) : Int) := by decide +kernel
  exact h1 ⟨c.toNat, c.toNat_lt⟩
theorem or_shift (acc d i : Nat) (ha : acc < 2 ^ (7 * i)) (hd : acc + d * 2 ^ (7 * i) < 18446744073709551616) : Go.bits .or .u64 (acc : Int) ((d * 2 ^ (7 * i) : Nat) : Int) = ((acc + d * 2 ^ (7 * i) : Nat) : Int) := by
  rw [bits_or_u64_nat _ _ (by omega) (by omega)]
  congr 1
  rw [Nat.or_comm, Nat.mul_comm d, ← Nat.two_pow_add_eq_or_of_lt ha]
  omega
end Go.Proofs.YtfkgdlfponfimaaGreat.WM
