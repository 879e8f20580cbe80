/- Layer 24: bits of places; Ahead, text, next. -/
import Derived.Test.YtgeadlkaniggdaaK
import Derived.Test.YtgeadlkaniggdaaMp
import Derived.Test.YtgeadlkaniggdaaHS1
set_option linter.unusedVariables false
set_option linter.unusedSimpArgs false
set_option maxRecDepth 100000
namespace Go.Proofs.Ytgeadlkaniggdaa.X
open Go Go.RowKit
variable {ν β ps pos' : Nm} {H : Heap} {Q : AVal → Heap → Prop} {L : List Asr}
def Hop.enc (x : Hop) : AVal := .agg [.bool x.w, .str x.tx, .int .i64 x.fr, .int .i64 x.to]
structure Hop.fit (x : Hop) : Prop where
  fr : -9223372036854775808 ≤ x.fr ∧ x.fr ≤ 9223372036854775807
  to : -9223372036854775808 ≤ x.to ∧ x.to ≤ 9223372036854775807
abbrev eN (n : Nat) : AVal := .int .i64 (n : Int)
abbrev eK (p : Int × Int) : AVal := .agg [.int .u64 p.1, .int .i64 p.2]
abbrev eI (n : Int) : AVal := .int .i64 n
theorem kPlace : KeyOk cfg.T 49 eK := by
  refine ⟨fun a b => ?_, fun a => by simp [kSame, kSames, kSame1]⟩
  have e : aEq cfg.T 4 49 (eK a) (eK b) = some (decide (a.1 = b.1) && (decide (a.2 = b.2) && true)) := rfl
  rw [e]
  obtain ⟨a1, a2⟩ := a; obtain ⟨b1, b2⟩ := b
  by_cases h1 : a1 = b1 <;> by_cases h2 : a2 = b2 <;> simp [h1, h2]
/-! ### bits -/
theorem and_u64n {T : TT} {t : TypeId} {a b : Nat} (ha : a < 18446744073709551616) (hb : b < 18446744073709551616) : aBin T .and t (.int .u64 (a : Int)) (.int .u64 (b : Int)) = some (.int .u64 ((a &&& b : Nat) : Int)) := by
  show some (AVal.int .u64 (IntKind.u64.wrap ((BitVec.ofInt 64 (a : Int) &&& BitVec.ofInt 64 (b : Int)).toNat : Int))) = _
  have e : (BitVec.ofInt 64 (a : Int) &&& BitVec.ofInt 64 (b : Int)).toNat = a &&& b := by
    rw [BitVec.ofInt_natCast, BitVec.ofInt_natCast, BitVec.toNat_and, BitVec.toNat_ofNat, BitVec.toNat_ofNat, Nat.mod_eq_of_lt ha, Nat.mod_eq_of_lt hb]
  have := Nat.and_le_left (n := a) (m := b)
  rw [e, IntWalk.u64_in _ (by omega)]
theorem or_u64n {T : TT} {t : TypeId} {a b : Nat} (ha : a < 18446744073709551616) (hb : b < 18446744073709551616) : aBin T .or t (.int .u64 (a : Int)) (.int .u64 (b : Int)) = some (.int .u64 ((a ||| b : Nat) : Int)) := by
  show some (AVal.int .u64 (IntKind.u64.wrap ((BitVec.ofInt 64 (a : Int) ||| BitVec.ofInt 64 (b : Int)).toNat : Int))) = _
  have e : (BitVec.ofInt 64 (a : Int) ||| BitVec.ofInt 64 (b : Int)).toNat = a ||| b := by
    rw [BitVec.ofInt_natCast, BitVec.ofInt_natCast, BitVec.toNat_or, BitVec.toNat_ofNat, BitVec.toNat_ofNat, Nat.mod_eq_of_lt ha, Nat.mod_eq_of_lt hb]
  have : a ||| b < 2 ^ 64 := Nat.or_lt_two_pow (by omega) (by omega)
  rw [e, IntWalk.u64_in _ (by omega)]
theorem bit_u64n {T : TT} {t : TypeId} {a : Nat} (ha : a < 18446744073709551616) : aBin T .and t (.int .u64 (a : Int)) (.int .u64 1) = some (.int .u64 ((a % 2 : Nat) : Int)) := by
  have := and_u64n (T := T) (t := t) (a := a) (b := 1) ha (by decide)
  rw [Nat.and_one_is_mod] at this
  exact this
theorem shl1_u64 {T : TT} {t : TypeId} {i : Nat} (hi : i < 64) : aBin T .shl t (.int .u64 1) (.int .i64 (i : Int)) = some (.int .u64 ((2 ^ i : Nat) : Int)) := by
  show (if (i : Int) < 0 then none else some (AVal.int .u64 (IntKind.u64.wrap ((1 : Int) * 2 ^ (min (i : Int).toNat 64))))) = _
  rw [if_neg (by omega), show min (i : Int).toNat 64 = i by omega, Int.one_mul]
  have e : ((2 : Int) ^ i) = ((2 ^ i : Nat) : Int) := by simp
  have : 2 ^ i < 2 ^ 64 := Nat.pow_lt_pow_right (by decide) hi
  rw [e]
  generalize 2 ^ i = z at this ⊢
  rw [IntWalk.u64_in _ (by omega)]
theorem shr_u64n {T : TT} {t : TypeId} {a i : Nat} (hi : i < 64) : aBin T .shr t (.int .u64 (a : Int)) (.int .i64 (i : Int)) = some (.int .u64 ((a / 2 ^ i : Nat) : Int)) := by
  show (if (i : Int) < 0 then none else some (AVal.int .u64 ((a : Int).fdiv (2 ^ (min (i : Int).toNat 64))))) = _
  rw [if_neg (by omega), show min (i : Int).toNat 64 = i by omega]
  have e : ((2 : Int) ^ i) = ((2 ^ i : Nat) : Int) := by simp
  rw [e, Int.fdiv_eq_ediv_of_nonneg _ (Int.natCast_nonneg _)]; rfl
namespace HM
def mask (o : List Nat) : Nat := o.foldl (fun m i => m ||| 2 ^ i) 0
theorem mask_snoc (o : List Nat) (i : Nat) : mask (o ++ [i]) = mask o ||| 2 ^ i := by unfold mask; rw [List.foldl_append]; rfl
theorem mask_bit (o : List Nat) (j : Nat) : (mask o).testBit j = decide (j ∈ o) := by
  suffices h : ∀ r : List Nat, (mask r.reverse).testBit j = decide (j ∈ r) by have := h o.reverse; simpa using this
  intro r
  induction r with
  | nil => simp [mask]
  | cons a r ih =>
    rw [List.reverse_cons, mask_snoc, Nat.testBit_or, ih, Nat.testBit_two_pow]
    by_cases h1 : j ∈ r <;> by_cases h2 : a = j <;> simp [h1, h2] <;> omega
theorem mask_lt {o : List Nat} {n : Nat} (h : ∀ i ∈ o, i < n) : mask o < 2 ^ n := by
  suffices hh : ∀ r : List Nat, (∀ i ∈ r, i < n) → mask r.reverse < 2 ^ n by have := hh o.reverse (by simpa using h); simpa using this
  intro r
  induction r with
  | nil => intro _; simp [mask]; exact Nat.pow_pos (by decide)
  | cons a r ih =>
    intro h
    rw [List.reverse_cons, mask_snoc]
    exact Nat.or_lt_two_pow (ih fun i hi => h i (by simp [hi])) (Nat.pow_lt_pow_right (by decide) (h a (by simp)))
theorem mask_u64 {o : List Nat} {n : Nat} (hn : n ≤ 12) (h : ∀ i ∈ o, i < n) : mask o < 4096 := by
  have h1 := mask_lt h
  have h2 : 2 ^ n ≤ 2 ^ 12 := Nat.pow_le_pow_right (by decide) hn
  omega
theorem bit_in (o : List Nat) (i : Nat) : (mask o / 2 ^ i) % 2 = if i ∈ o then 1 else 0 := by
  have h := mask_bit o i
  rw [Nat.testBit_eq_decide_div_mod_eq] at h
  by_cases hi : i ∈ o
  · rw [if_pos hi]; simpa [hi] using h
  · rw [if_neg hi]
    have : ¬ (mask o / 2 ^ i % 2 = 1) := by simpa [hi] using h
    omega
theorem mask_sub (o e : List Nat) : mask o &&& mask e = mask e ↔ ∀ j ∈ e, j ∈ o := by
  constructor
  · intro h j hj
    have := congrArg (fun m => Nat.testBit m j) h
    simp only [Nat.testBit_and, mask_bit] at this
    simpa [hj] using this
  · intro h
    refine Nat.eq_of_testBit_eq fun j => ?_
    rw [Nat.testBit_and, mask_bit, mask_bit]
    by_cases hj : j ∈ e
    · simp [hj, h j hj]
    · simp [hj]
theorem mask_inj {o p : List Nat} (h : mask o = mask p) (j : Nat) : j ∈ o ↔ j ∈ p := by
  have := congrArg (fun m => Nat.testBit m j) h
  simp only [mask_bit] at this
  exact decide_eq_decide.1 this
def ends (l : List Hop) (i : Nat) : List Nat := (List.range i).filter (ended l)
def mustN (l : List Hop) : Nat := mask (ends l l.length)
theorem ends_lt {l : List Hop} {n j : Nat} (h : j ∈ ends l n) : j < n := by
  unfold ends at h; simp at h; exact h.1
theorem ended_lt {l : List Hop} {i : Nat} (h : ended l i = true) : i < l.length := by
  unfold ended at h
  cases hx : l[i]? with
  | none => rw [hx] at h; cases h
  | some x => exact (List.getElem?_eq_some_iff.1 hx).1
theorem must_iff (l : List Hop) (o : List Nat) : mask o &&& mustN l = mustN l ↔ cpl l o = true := by
  unfold mustN
  rw [mask_sub, cpl_iff]
  constructor
  · intro h i hi
    exact h i (by unfold ends; simp; exact ⟨ended_lt hi, hi⟩)
  · intro h j hj
    unfold ends at hj; simp at hj
    exact h j hj.2
/-! ### places from which there is no order -/
def gof (l : List Hop) (o : List Nat) : Option (List Nat) := go l (fu l.length o) o
theorem gof_eq (l : List Hop) (o : List Nat) : gof l o = if cpl l o then some o else (List.range l.length).findSome? (goF l (gof l) o) := by
  unfold gof
  cases hk : fu l.length o with
  | zero =>
    simp only [go]
    split
    · rfl
    · symm
      rw [List.findSome?_eq_none_iff]
      intro i hi
      unfold goF
      rw [if_neg]
      intro hn
      have := fu_snoc (n := l.length) (i := i) (by simpa using hi) (nxt_iff.1 hn).1
      omega
  | succ k =>
    simp only [go]
    split
    · rfl
    · refine findSome_congr _ fun i hi => ?_
      unfold goF
      split
      · rename_i hn
        have := fu_snoc (n := l.length) (i := i) (by simpa using hi) (nxt_iff.1 hn).1
        show go l k (o ++ [i]) = go l (fu l.length (o ++ [i])) (o ++ [i])
        rw [show fu l.length (o ++ [i]) = k by omega]
      · rfl
def DeadOk (l : List Hop) (f : Int × Int → Option Int) : Prop := ∀ o, (f (((mask o : Nat) : Int), lastI l o)).getD 0 > 0 → gof l o = none
theorem dead_nil (l : List Hop) : DeadOk l (fun _ => none) := fun o h => by simp at h
theorem dead_put {l : List Hop} {f : Int × Int → Option Int} {o : List Nat} (h : DeadOk l f) (hn : gof l o = none) : DeadOk l (fun x => if x = (((mask o : Nat) : Int), lastI l o) then some 1 else f x) := by
  intro p hp
  simp only at hp
  split at hp
  · rename_i he
    have e1 : mask p = mask o := by have h0 : ((mask p : Nat) : Int) = ((mask o : Nat) : Int) := congrArg Prod.fst he; omega
    have e2 : lastI l p = lastI l o := congrArg Prod.snd he
    have hs : Sim l p o := ⟨mask_inj e1, e2⟩
    have h1 := hs.go (fu l.length p)
    unfold gof at hn ⊢
    rw [fu_congr hs.1] at h1 ⊢
    rw [hn] at h1
    cases hg : go l (fu l.length o) p with
    | none => rfl
    | some r => rw [hg] at h1; cases h1
  · exact h p hp
end HM
end Go.Proofs.Ytgeadlkaniggdaa.X
