/- Numbers and texts as bytes: what the wire's functions, and the reference's, take. -/
import Derived.Test.YtimdjcfkffkeiaaY1
set_option linter.unusedVariables false
set_option linter.unusedSimpArgs false
set_option maxRecDepth 100000
namespace Go.Proofs.Ytimdjcfkffkeiaa.X
open Go Go.RowKit WM
variable {ν β ps pos' : Nm} {H : Heap} {Q : AVal → Heap → Prop} {L : List Asr}
def noU : Int × ByteArray × Bool := (0, (⟨#[]⟩ : ByteArray), false)
def resU (s : ByteArray) : Int × ByteArray × Bool := match takeU 64 s.data.toList with
  | some (n, r) => ((n : Int), ba r, true)
  | none => noU
def tupU (x : Int × ByteArray × Bool) : AVal := .tup [.int .u64 x.1, .str x.2.1, .bool x.2.2]
def contU (i acc : Nat) (l : List UInt8) : Int × ByteArray × Bool := match takeU (64 - 7 * i) l with
  | some (v, r) => if 0 < i ∧ v = 0 then noU else (((acc + v * 2 ^ (7 * i) : Nat) : Int), ba r, true)
  | none => noU
theorem contU_first (s : ByteArray) : resU s = contU 0 0 s.data.toList := by
  unfold resU contU
  simp only [Nat.mul_zero, Nat.sub_zero, Nat.lt_irrefl, false_and, if_false, Nat.zero_add, Nat.pow_zero, Nat.mul_one]
theorem contU_nil {i acc : Nat} : contU i acc [] = noU := by simp [contU, takeU]
theorem contU_small {i acc : Nat} {c : UInt8} {t : List UInt8} (hi : i ≤ 9) (hc : c.toNat < 128) (h9 : i = 9 → c.toNat ≤ 1) : contU i acc (c :: t) = if 0 < i ∧ c.toNat = 0 then noU else (((acc + c.toNat * 2 ^ (7 * i) : Nat) : Int), ba t, true) := by
  have : c.toNat < 2 ^ (64 - 7 * i) := by
    by_cases e : i = 9
    · subst e; have := h9 rfl; show c.toNat < 2 ^ 1; omega
    · have : 2 ^ 8 ≤ 2 ^ (64 - 7 * i) := Nat.pow_le_pow_right (by decide) (by omega)
      omega
  simp only [contU, takeU, if_pos hc, if_pos this]
theorem takeU_zero {l : List UInt8} {v : Nat} {r : List UInt8} (h : takeU 0 l = some (v, r)) : v = 0 := by
  have := (takeU_some _ _ _ _ h).2
  simpa using this
theorem contU_nine {acc : Nat} {c : UInt8} {t : List UInt8} (hc : 1 < c.toNat) : contU 9 acc (c :: t) = noU := by
  unfold contU
  simp only [takeU, show 64 - 7 * 9 = 1 from rfl]
  by_cases h : c.toNat < 128
  · rw [if_pos h, if_neg (by show ¬ c.toNat < 2 ^ 1; omega)]
  · rw [if_neg h, show 1 - 7 = 0 from rfl]
    cases ht : takeU 0 t with
    | none => rfl
    | some p => obtain ⟨v, r⟩ := p; simp only [takeU_zero ht, if_true]
theorem contU_big {i acc : Nat} {c : UInt8} {t : List UInt8} (hi : i ≤ 8) (hc : ¬ c.toNat < 128) : contU i acc (c :: t) = contU (i + 1) (acc + c.toNat % 128 * 2 ^ (7 * i)) t := by
  have hl := c.toNat_lt
  unfold contU
  simp only [takeU, if_neg hc, show 64 - 7 * i - 7 = 64 - 7 * (i + 1) by omega]
  cases ht : takeU (64 - 7 * (i + 1)) t with
  | none => rfl
  | some p =>
    obtain ⟨v, r⟩ := p
    simp only
    by_cases hv : v = 0
    · rw [if_pos hv, if_pos ⟨by omega, hv⟩]
    · rw [if_neg hv, if_neg (by omega)]
      simp only
      rw [if_neg (by omega)]
      congr 2
      rw [show 7 * (i + 1) = 7 + 7 * i by omega, Nat.pow_add, show (2 : Nat) ^ 7 = 128 from rfl, Nat.add_mul, Nat.add_assoc]
      rw [show c.toNat - 128 = c.toNat % 128 by omega]
      congr 2
      rw [Nat.mul_comm 128 v, Nat.mul_assoc]
theorem and_127 {T : TT} {t : TypeId} (c : UInt8) : aBin T .and t (byt c) (.int .u8 127) = some (.int .u8 ((c.toNat % 128 : Nat) : Int)) := by
  have e : aBin T .and t (byt c) (.int .u8 127) = some (.int .u8 (Go.bits .and .u8 (c.toNat : Int) 127)) := rfl
  rw [e, WM.and127]
theorem shl_le {i c : Nat} (hi : i ≤ 9) (hc : c < 128) (h9 : i = 9 → c ≤ 1) : (c + 1) * 2 ^ (7 * i) ≤ 18446744073709551616 := by
  by_cases e : i = 9
  · subst e; have := h9 rfl
    have : (c + 1) * 2 ^ (7 * 9) ≤ 2 * 2 ^ (7 * 9) := Nat.mul_le_mul_right _ (by omega)
    exact Nat.le_trans this (by decide)
  · have h1 : (c + 1) * 2 ^ (7 * i) ≤ 128 * 2 ^ (7 * 8) := Nat.mul_le_mul (by omega) (Nat.pow_le_pow_right (by decide) (by omega))
    exact Nat.le_trans h1 (by decide)
theorem shl_u64 {T : TT} {t : TypeId} {d i : Nat} (hi : i ≤ 9) (h : d * 2 ^ (7 * i) < 18446744073709551616) : aBin T .shl t (.int .u64 (d : Int)) (.int .i64 (7 * (i : Int))) = some (.int .u64 ((d * 2 ^ (7 * i) : Nat) : Int)) := by
  show (if (7 * (i : Int)) < 0 then none else some (AVal.int .u64 (IntKind.u64.wrap ((d : Int) * 2 ^ (min (7 * (i : Int)).toNat 64))))) = _
  rw [if_neg (by omega), show min (7 * (i : Int)).toNat 64 = 7 * i by omega]
  have e : ((d : Int) * 2 ^ (7 * i)) = ((d * 2 ^ (7 * i) : Nat) : Int) := by simp
  rw [e, IntWalk.u64_in _ (by omega)]
theorem or_u64 {T : TT} {t : TypeId} {acc d i : Nat} (ha : acc < 2 ^ (7 * i)) (hd : acc + d * 2 ^ (7 * i) < 18446744073709551616) : aBin T .or t (.int .u64 (acc : Int)) (.int .u64 ((d * 2 ^ (7 * i) : Nat) : Int)) = some (.int .u64 ((acc + d * 2 ^ (7 * i) : Nat) : Int)) := by
  have e : aBin T .or t (.int .u64 (acc : Int)) (.int .u64 ((d * 2 ^ (7 * i) : Nat) : Int)) = some (.int .u64 (Go.bits .or .u64 (acc : Int) ((d * 2 ^ (7 * i) : Nat) : Int))) := rfl
  rw [e, WM.or_shift _ _ _ ha hd]
theorem str_drop {s : ByteArray} {i : Nat} (h : i < s.size) : s.data.toList.drop i = s.data.toList.getD i 0 :: s.data.toList.drop (i + 1) := by
  have h' : i < s.data.toList.length := h
  rw [List.drop_eq_getElem_cons h', List.getD_eq_getElem?_getD, List.getElem?_eq_getElem h', Option.getD_some]
theorem ext_tail (s : ByteArray) (i : Nat) : s.extract i s.size = ba (s.data.toList.drop i) := by rw [← ba_drop]; rfl
theorem ext_head (s : ByteArray) (i : Nat) : s.extract 0 i = ba (s.data.toList.take i) := by rw [← ba_take]; rfl
/-- A number's first byte. -/
theorem enc_head {c : UInt8} {t r : List UInt8} {v : Nat} (h : c :: t = encU v ++ r) : c.toNat % 128 = v % 128 ∧ (c.toNat < 128 ↔ v < 128) ∧ (v < 128 → t = r ∧ (encU v).length = 1) ∧ (¬ v < 128 → t = encU (v / 128) ++ r ∧ (encU v).length = (encU (v / 128)).length + 1) := by
  by_cases hv : v < 128
  · rw [encU_small hv] at h
    obtain ⟨rfl, rfl⟩ := List.cons.inj h
    rw [u8_toNat (by omega)]
    exact ⟨rfl, Iff.rfl, fun _ => ⟨rfl, by rw [encU_small hv]; rfl⟩, fun h => absurd hv h⟩
  · rw [encU_big hv] at h
    obtain ⟨rfl, rfl⟩ := List.cons.inj h
    rw [u8_toNat (by omega)]
    exact ⟨by omega, by omega, fun h => absurd h hv, fun _ => ⟨rfl, by rw [encU_big hv]; rfl⟩⟩
theorem mul_cast {a b m : Nat} (h : a * b ≤ m) : 0 ≤ (a : Int) * (b : Int) ∧ (a : Int) * (b : Int) ≤ (m : Int) := by
  rw [← Int.natCast_mul]; omega
theorem resU_some {s : ByteArray} {n : Nat} {r : List UInt8} (h : takeU 64 s.data.toList = some (n, r)) : resU s = ((n : Int), ba r, true) := by unfold resU; rw [h]
theorem resU_none {s : ByteArray} (h : takeU 64 s.data.toList = none) : resU s = noU := by unfold resU; rw [h]
theorem bytes_size (s : ByteArray) : s.data.toList.length = s.size := rfl
/-- Where a number stands. -/
theorem wrapu_range (n : Int) : 0 ≤ IntKind.u64.wrap n ∧ IntKind.u64.wrap n ≤ 18446744073709551615 := by rw [IntKind.wrap_u64]; omega
end Go.Proofs.Ytimdjcfkffkeiaa.X
