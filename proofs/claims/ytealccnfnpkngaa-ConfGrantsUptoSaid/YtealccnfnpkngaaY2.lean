/- Numbers and texts as bytes: what the wire's functions, and the reference's, take. -/
import Derived.Test.YtealccnfnpkngaaY1
set_option linter.unusedVariables false
set_option linter.unusedSimpArgs false
set_option maxRecDepth 100000
namespace Go.Proofs.Ytealccnfnpkngaa.X
open Go Go.RowKit WM
theorem EN44_Y2 {c : Cfg} {ν : Nm} {e : Env} {H : Heap} {all : Array Oper} {r : List Oper} {i : Nat} {Q : Env → Heap → Prop} {x0 x1 x2 x3 x4 x5 x6 x7 x8 x9 x10 x11 x12 x13 x14 x15 x16 x17 x18 x19 x20 x21 x22 x23 x24 x25 x26 x27 x28 x29 x30 x31 x32 x33 x34 x35 x36 x37 x38 x39 x40 x41 x42 x43 : AVal} (he : e = [x0,x1,x2,x3,x4,x5,x6,x7,x8,x9,x10,x11,x12,x13,x14,x15,x16,x17,x18,x19,x20,x21,x22,x23,x24,x25,x26,x27,x28,x29,x30,x31,x32,x33,x34,x35,x36,x37,x38,x39,x40,x41,x42,x43]) (h : OW c ν all r i [x0,x1,x2,x3,x4,x5,x6,x7,x8,x9,x10,x11,x12,x13,x14,x15,x16,x17,x18,x19,x20,x21,x22,x23,x24,x25,x26,x27,x28,x29,x30,x31,x32,x33,x34,x35,x36,x37,x38,x39,x40,x41,x42,x43] H Q) : OW c ν all r i e H Q := by subst he; exact h
theorem EN45_Y2 {c : Cfg} {ν : Nm} {e : Env} {H : Heap} {all : Array Oper} {r : List Oper} {i : Nat} {Q : Env → Heap → Prop} {x0 x1 x2 x3 x4 x5 x6 x7 x8 x9 x10 x11 x12 x13 x14 x15 x16 x17 x18 x19 x20 x21 x22 x23 x24 x25 x26 x27 x28 x29 x30 x31 x32 x33 x34 x35 x36 x37 x38 x39 x40 x41 x42 x43 x44 : AVal} (he : e = [x0,x1,x2,x3,x4,x5,x6,x7,x8,x9,x10,x11,x12,x13,x14,x15,x16,x17,x18,x19,x20,x21,x22,x23,x24,x25,x26,x27,x28,x29,x30,x31,x32,x33,x34,x35,x36,x37,x38,x39,x40,x41,x42,x43,x44]) (h : OW c ν all r i [x0,x1,x2,x3,x4,x5,x6,x7,x8,x9,x10,x11,x12,x13,x14,x15,x16,x17,x18,x19,x20,x21,x22,x23,x24,x25,x26,x27,x28,x29,x30,x31,x32,x33,x34,x35,x36,x37,x38,x39,x40,x41,x42,x43,x44] H Q) : OW c ν all r i e H Q := by subst he; exact h
theorem EZ44_Y2 {c : Cfg} {ν : Nm} {e : Env} {H : Heap} {all : Array Oper} {i : Nat} {Q : Env → Heap → Prop} {x0 x1 x2 x3 x4 x5 x6 x7 x8 x9 x10 x11 x12 x13 x14 x15 x16 x17 x18 x19 x20 x21 x22 x23 x24 x25 x26 x27 x28 x29 x30 x31 x32 x33 x34 x35 x36 x37 x38 x39 x40 x41 x42 x43 : AVal} (he : e = [x0,x1,x2,x3,x4,x5,x6,x7,x8,x9,x10,x11,x12,x13,x14,x15,x16,x17,x18,x19,x20,x21,x22,x23,x24,x25,x26,x27,x28,x29,x30,x31,x32,x33,x34,x35,x36,x37,x38,x39,x40,x41,x42,x43]) (h : Q [x0,x1,x2,x3,x4,x5,x6,x7,x8,x9,x10,x11,x12,x13,x14,x15,x16,x17,x18,x19,x20,x21,x22,x23,x24,x25,x26,x27,x28,x29,x30,x31,x32,x33,x34,x35,x36,x37,x38,x39,x40,x41,x42,x43] H) : OW c ν all [] i e H Q := by subst he; exact OW_nil h
theorem EZ45_Y2 {c : Cfg} {ν : Nm} {e : Env} {H : Heap} {all : Array Oper} {i : Nat} {Q : Env → Heap → Prop} {x0 x1 x2 x3 x4 x5 x6 x7 x8 x9 x10 x11 x12 x13 x14 x15 x16 x17 x18 x19 x20 x21 x22 x23 x24 x25 x26 x27 x28 x29 x30 x31 x32 x33 x34 x35 x36 x37 x38 x39 x40 x41 x42 x43 x44 : AVal} (he : e = [x0,x1,x2,x3,x4,x5,x6,x7,x8,x9,x10,x11,x12,x13,x14,x15,x16,x17,x18,x19,x20,x21,x22,x23,x24,x25,x26,x27,x28,x29,x30,x31,x32,x33,x34,x35,x36,x37,x38,x39,x40,x41,x42,x43,x44]) (h : Q [x0,x1,x2,x3,x4,x5,x6,x7,x8,x9,x10,x11,x12,x13,x14,x15,x16,x17,x18,x19,x20,x21,x22,x23,x24,x25,x26,x27,x28,x29,x30,x31,x32,x33,x34,x35,x36,x37,x38,x39,x40,x41,x42,x43,x44] H) : OW c ν all [] i e H Q := by subst he; exact OW_nil h
variable {ν β ps pos' : Nm} {H : Heap} {Q : AVal → Heap → Prop} {L : List Asr}
def noU : Int × ByteArray × Bool := (0, (⟨#[]⟩ : ByteArray), false)
def resU (s : ByteArray) : Int × ByteArray × Bool := match takeU 64 s.data.toList with
  | some (n, r) => ((n : Int), ba r, true)
  | none => noU
def tupU (x : Int × ByteArray × Bool) : AVal := .tup [.int .u64 x.1, .str x.2.1, .bool x.2.2]
def contU (i acc : Nat) (l : List UInt8) : Int × ByteArray × Bool := match takeU (64 - 7 * i) l with
  | some (v, r) => if 0 < i ∧ v = 0 then noU else (((acc + v * 2 ^ (7 * i) : Nat) : Int), ba r, true)
  | none => noU
theorem contU_first (s : ByteArray) : resU s = contU 0 0 s.data.toList := by
  unfold resU contU
  simp only [Nat.mul_zero, Nat.sub_zero, Nat.lt_irrefl, false_and, if_false, Nat.zero_add, Nat.pow_zero, Nat.mul_one]
theorem contU_nil {i acc : Nat} : contU i acc [] = noU := by simp [contU, takeU]
theorem contU_small {i acc : Nat} {c : UInt8} {t : List UInt8} (hi : i ≤ 9) (hc : c.toNat < 128) (h9 : i = 9 → c.toNat ≤ 1) : contU i acc (c :: t) = if 0 < i ∧ c.toNat = 0 then noU else (((acc + c.toNat * 2 ^ (7 * i) : Nat) : Int), ba t, true) := by
  have : c.toNat < 2 ^ (64 - 7 * i) := by
    by_cases e : i = 9
    · subst e; have := h9 rfl; show c.toNat < 2 ^ 1; omega
    · have : 2 ^ 8 ≤ 2 ^ (64 - 7 * i) := Nat.pow_le_pow_right (by decide) (by omega)
      omega
  simp only [contU, takeU, if_pos hc, if_pos this]
theorem takeU_zero {l : List UInt8} {v : Nat} {r : List UInt8} (h : takeU 0 l = some (v, r)) : v = 0 := by
  have := (takeU_some _ _ _ _ h).2
  simpa using this
theorem contU_nine {acc : Nat} {c : UInt8} {t : List UInt8} (hc : 1 < c.toNat) : contU 9 acc (c :: t) = noU := by
  unfold contU
  simp only [takeU, show 64 - 7 * 9 = 1 from rfl]
  by_cases h : c.toNat < 128
  · rw [if_pos h, if_neg (by show ¬ c.toNat < 2 ^ 1; omega)]
  · rw [if_neg h, show 1 - 7 = 0 from rfl]
    cases ht : takeU 0 t with
    | none => rfl
    | some p => obtain ⟨v, r⟩ := p; simp only [takeU_zero ht, if_true]
theorem contU_big {i acc : Nat} {c : UInt8} {t : List UInt8} (hi : i ≤ 8) (hc : ¬ c.toNat < 128) : contU i acc (c :: t) = contU (i + 1) (acc + c.toNat % 128 * 2 ^ (7 * i)) t := by
  have hl := c.toNat_lt
  unfold contU
  simp only [takeU, if_neg hc, show 64 - 7 * i - 7 = 64 - 7 * (i + 1) by omega]
  cases ht : takeU (64 - 7 * (i + 1)) t with
  | none => rfl
  | some p =>
    obtain ⟨v, r⟩ := p
    simp only
    by_cases hv : v = 0
    · rw [if_pos hv, if_pos ⟨by omega, hv⟩]
    · rw [if_neg hv, if_neg (by omega)]
      simp only
      rw [if_neg (by omega)]
      congr 2
      rw [show 7 * (i + 1) = 7 + 7 * i by omega, Nat.pow_add, show (2 : Nat) ^ 7 = 128 from rfl, Nat.add_mul, Nat.add_assoc]
      rw [show c.toNat - 128 = c.toNat % 128 by omega]
      congr 2
      rw [Nat.mul_comm 128 v, Nat.mul_assoc]
theorem and_127 {T : TT} {t : TypeId} (c : UInt8) : aBin T .and t (byt c) (.int .u8 127) = some (.int .u8 ((c.toNat % 128 : Nat) : Int)) := by
  have e : aBin T .and t (byt c) (.int .u8 127) = some (.int .u8 (Go.bits .and .u8 (c.toNat : Int) 127)) := rfl
  rw [e, WM.and127]
theorem shl_le {i c : Nat} (hi : i ≤ 9) (hc : c < 128) (h9 : i = 9 → c ≤ 1) : (c + 1) * 2 ^ (7 * i) ≤ 18446744073709551616 := by
  by_cases e : i = 9
  · subst e; have := h9 rfl
    have : (c + 1) * 2 ^ (7 * 9) ≤ 2 * 2 ^ (7 * 9) := Nat.mul_le_mul_right _ (by omega)
    exact Nat.le_trans this (by decide)
  · have h1 : (c + 1) * 2 ^ (7 * i) ≤ 128 * 2 ^ (7 * 8) := Nat.mul_le_mul (by omega) (Nat.pow_le_pow_right (by decide) (by omega))
    exact Nat.le_trans h1 (by decide)
theorem shl_u64 {T : TT} {t : TypeId} {d i : Nat} (hi : i ≤ 9) (h : d * 2 ^ (7 * i) < 18446744073709551616) : aBin T .shl t (.int .u64 (d : Int)) (.int .i64 (7 * (i : Int))) = some (.int .u64 ((d * 2 ^ (7 * i) : Nat) : Int)) := by
  show (if (7 * (i : Int)) < 0 then none else some (AVal.int .u64 (IntKind.u64.wrap ((d : Int) * 2 ^ (min (7 * (i : Int)).toNat 64))))) = _
  rw [if_neg (by omega), show min (7 * (i : Int)).toNat 64 = 7 * i by omega]
  have e : ((d : Int) * 2 ^ (7 * i)) = ((d * 2 ^ (7 * i) : Nat) : Int) := by simp
  rw [e, IntWalk.u64_in _ (by omega)]
theorem or_u64 {T : TT} {t : TypeId} {acc d i : Nat} (ha : acc < 2 ^ (7 * i)) (hd : acc + d * 2 ^ (7 * i) < 18446744073709551616) : aBin T .or t (.int .u64 (acc : Int)) (.int .u64 ((d * 2 ^ (7 * i) : Nat) : Int)) = some (.int .u64 ((acc + d * 2 ^ (7 * i) : Nat) : Int)) := by
  have e : aBin T .or t (.int .u64 (acc : Int)) (.int .u64 ((d * 2 ^ (7 * i) : Nat) : Int)) = some (.int .u64 (Go.bits .or .u64 (acc : Int) ((d * 2 ^ (7 * i) : Nat) : Int))) := rfl
  rw [e, WM.or_shift _ _ _ ha hd]
theorem str_drop {s : ByteArray} {i : Nat} (h : i < s.size) : s.data.toList.drop i = s.data.toList.getD i 0 :: s.data.toList.drop (i + 1) := by
  have h' : i < s.data.toList.length := h
  rw [List.drop_eq_getElem_cons h', List.getD_eq_getElem?_getD, List.getElem?_eq_getElem h', Option.getD_some]
theorem ext_tail (s : ByteArray) (i : Nat) : s.extract i s.size = ba (s.data.toList.drop i) := by rw [← ba_drop]; rfl
theorem ext_head (s : ByteArray) (i : Nat) : s.extract 0 i = ba (s.data.toList.take i) := by rw [← ba_take]; rfl
/-- A number's first byte. -/
theorem enc_head {c : UInt8} {t r : List UInt8} {v : Nat} (h : c :: t = encU v ++ r) : c.toNat % 128 = v % 128 ∧ (c.toNat < 128 ↔ v < 128) ∧ (v < 128 → t = r ∧ (encU v).length = 1) ∧ (¬ v < 128 → t = encU (v / 128) ++ r ∧ (encU v).length = (encU (v / 128)).length + 1) := by
  by_cases hv : v < 128
  · rw [encU_small hv] at h
    obtain ⟨rfl, rfl⟩ := List.cons.inj h
    rw [u8_toNat (by omega)]
    exact ⟨rfl, Iff.rfl, fun _ => ⟨rfl, by rw [encU_small hv]; rfl⟩, fun h => absurd hv h⟩
  · rw [encU_big hv] at h
    obtain ⟨rfl, rfl⟩ := List.cons.inj h
    rw [u8_toNat (by omega)]
    exact ⟨by omega, by omega, fun h => absurd h hv, fun _ => ⟨rfl, by rw [encU_big hv]; rfl⟩⟩
theorem mul_cast {a b m : Nat} (h : a * b ≤ m) : 0 ≤ (a : Int) * (b : Int) ∧ (a : Int) * (b : Int) ≤ (m : Int) := by
  rw [← Int.natCast_mul]; omega
theorem takeU_c {s : ByteArray} (hs : s.size ≤ 4611686018427387904) (hq : Q (tupU (resU s)) H) : CW cfg ν 52 [.str s] H Q := by
  rw [contU_first] at hq
  refine CW_pure g52 F52 rfl ?_
  refine XW_sr ?_
  refine OW_as rfl rfl ?_
  refine OW_as rfl rfl ?_
  refine OW_as rfl rfl ?_
  refine EZ44_Y2 rfl ?_
  refine XW_sr ?_
  refine OW_as rfl rfl ?_
  refine EZ44_Y2 rfl ?_
  refine XW_seq ?_
  refine XW_sr ?_
  refine OW_mv rfl rfl ?_
  refine OW_lenS rfl rfl rfl ?_
  refine OW_mv rfl rfl ?_
  refine EZ44_Y2 rfl ?_
  refine XW_block ?_
  refine XW_whileN (I := fun ν' mm ee H' => ∃ (i : Nat) (acc : Nat), mm = s.size - i ∧ under (1 :: 0 :: 1 :: 1 :: ν) ν' = true ∧ (i ≤ s.size ∧ i ≤ 9 ∧ acc < 2 ^ (7 * i) ∧ contU 0 0 s.data.toList = contU i acc (s.data.toList.drop i)) ∧ ∃ g : Nat → AVal, ee = [.str s, g 1, .int .u64 0, .str ⟨#[]⟩, .bool false, .int .u64 acc, g 6, g 7, g 8, .int .i64 s.size, .int .i64 i, g 11, g 12, g 13, g 14, g 15, g 16, g 17, g 18, g 19, g 20, g 21, g 22, g 23, g 24, g 25, g 26, g 27, g 28, g 29, g 30, g 31, g 32, g 33, g 34, g 35, g 36, g 37, g 38, g 39, g 40, g 41, g 42, g 43]) ?_ _ _ _ _ ⟨0, 0, rfl, under_me, (⟨by omega, by omega, by decide, rfl⟩), env_g rfl⟩
  rintro ν1 mm ee H1 ⟨i, acc, rfl, hU1, ⟨hi, hi9, ha, hI⟩, g1, rfl⟩
  refine XW_sr ?_
  refine OW_bin rfl rfl rfl rfl rfl ?_
  refine EZ44_Y2 rfl ?_
  refine XW_seq ?_
  refine XW_if rfl (fun h3 => ?_) (fun h3 => ?_)
  ·try simp only [bs] at h3
   refine XW_skip ?_
   refine then_norm ?_
   refine XW_seq ?_
   refine XW_block ?_
   refine XW_sr ?_
   refine OW_mv rfl rfl ?_
   refine OW_as rfl rfl ?_
   refine EZ44_Y2 rfl ?_
   refine XW_sr ?_
   refine OW_mv rfl rfl ?_
   refine OW_mv rfl rfl ?_
   refine OW_ix rfl rfl rfl (str_ix rfl rfl (by omega) (by omega)) ?_
   refine EN44_Y2 rfl ?_
   have hdr := str_drop (s := s) (i := i) (by omega)
   rw [Int.toNat_natCast]
   generalize s.data.toList.getD i 0 = c at hdr ⊢
   have hcl := c.toNat_lt
   rw [show AVal.int .u8 ((c.toNat : Nat) : Int) = byt c from rfl]
   refine OW_as rfl rfl ?_
   refine EZ44_Y2 rfl ?_
   refine XW_seq ?_
   refine XW_sr ?_
   refine OW_mv rfl rfl ?_
   refine OW_bin rfl rfl rfl rfl rfl ?_
   refine OW_mv rfl rfl ?_
   refine EN44_Y2 rfl ?_
   refine OW_split (tt := 18) rfl (fun g6_3 => ?_) (fun g6_3 => ?_)
   ·try simp only [bs] at g6_3
    refine OW_mv rfl rfl ?_
    refine OW_bin rfl rfl rfl rfl rfl ?_
    refine EN44_Y2 rfl ?_
    refine OW_pick rfl rfl rfl ?_
    refine EZ44_Y2 rfl ?_
    refine XW_if rfl (fun h6 => ?_) (fun h6 => ?_)
    ·try simp only [bs] at h6
     refine XW_exit ?_
     refine then_exit ?_
     refine block_exit_ne rfl ?_
     refine then_exit ?_
     refine block_exit ?_
     refine then_norm ?_
     refine XW_sr ?_
     refine OW_as rfl rfl ?_
     refine OW_as rfl rfl ?_
     refine OW_as rfl rfl ?_
     refine EZ44_Y2 rfl ?_
     refine XW_ret ?_
     -- outcome 1
     refine ret_ret (res3 rfl (rv_tmp rfl) (rv_tmp rfl) (rv_tmp rfl)) (frz3 (Q := Q) (by first | exact freeze_plain rfl | exact Ls.freeze (by assumption) | exact Ls.freeze Ls.of | exact Ls.freeze Ls.emp | exact Ls.freeze Ls.nls) (by first | exact freeze_plain rfl | exact Ls.freeze (by assumption) | exact Ls.freeze Ls.of | exact Ls.freeze Ls.emp | exact Ls.freeze Ls.nls) (by first | exact freeze_plain rfl | exact Ls.freeze (by assumption) | exact Ls.freeze Ls.of | exact Ls.freeze Ls.emp | exact Ls.freeze Ls.nls) ?_)
     first | (rw [hI, List.drop_eq_nil_of_le (show s.data.toList.length ≤ i by show s.size ≤ i; omega), contU_nil] at hq; exact hq) | (rw [hI, hdr, show i = 9 by omega, contU_nine (by omega)] at hq; exact hq) | (rw [hI, hdr, contU_small hi9 (by omega) (by omega), if_pos ⟨by omega, by omega⟩] at hq; exact hq) | (rw [hI, hdr, contU_small hi9 (by omega) (by omega), if_neg (by omega), ← ext_tail] at hq; rw [show c.toNat % 128 = c.toNat by omega, show ((i : Int) + 1).toNat = i + 1 by omega]; exact hq)
    ·try simp only [bs] at h6
     refine XW_skip ?_
     refine then_norm ?_
     refine XW_sr ?_
     have hc1 : i = 9 → c.toNat % 128 ≤ 1 := by intro e; omega
     have hle := shl_le hi9 (show c.toNat % 128 < 128 by omega) hc1
     rw [Nat.add_mul, Nat.one_mul] at hle
     have hpp : 0 < 2 ^ (7 * i) := Nat.pow_pos (by decide)
     have hd : c.toNat % 128 * 2 ^ (7 * i) < 18446744073709551616 := by omega
     have hod : acc + c.toNat % 128 * 2 ^ (7 * i) < 18446744073709551616 := by omega
     refine OW_mv rfl rfl ?_
     refine OW_mv rfl rfl ?_
     first
     | refine OW_bin rfl rfl rfl rfl (and_127 _) ?_
     | refine OW_bin rfl rfl rfl rfl rfl ?_
     refine EN44_Y2 rfl ?_
     first
     | refine OW_conv rfl rfl (conv_in rfl rfl rfl (IntWalk.u64_in _ (by omega))) ?_
     | refine OW_conv rfl rfl rfl ?_
     refine OW_mv rfl rfl ?_
     first
     | refine OW_bin rfl rfl rfl rfl (mul_w64 (by first | omega | assumption | (simp only [ss]; omega))) ?_
     | refine OW_bin rfl rfl rfl rfl rfl ?_
     refine EN44_Y2 rfl ?_
     first
     | refine OW_bin rfl rfl rfl rfl (shl_u64 hi9 hd) ?_
     | refine OW_bin rfl rfl rfl rfl rfl ?_
     first
     | refine OW_bin rfl rfl rfl rfl (or_u64 ha hod) ?_
     | refine OW_bin rfl rfl rfl rfl rfl ?_
     refine OW_as rfl rfl ?_
     refine EZ44_Y2 rfl ?_
     refine XW_sr ?_
     refine OW_mv rfl rfl ?_
     refine OW_bin rfl rfl rfl rfl rfl ?_
     refine EZ44_Y2 rfl ?_
     refine XW_if rfl (fun h8 => ?_) (fun h8 => ?_)
     ·try simp only [bs] at h8
      refine XW_seq ?_
      refine XW_sr ?_
      refine OW_mv rfl rfl ?_
      refine OW_bin rfl rfl rfl rfl rfl ?_
      refine OW_mv rfl rfl ?_
      refine EN44_Y2 rfl ?_
      refine OW_split (tt := 34) rfl (fun g9_3 => ?_) (fun g9_3 => ?_)
      ·try simp only [bs] at g9_3
       refine OW_mv rfl rfl ?_
       refine OW_bin rfl rfl rfl rfl rfl ?_
       refine EN44_Y2 rfl ?_
       refine OW_pick rfl rfl rfl ?_
       refine EZ44_Y2 rfl ?_
       refine XW_if rfl (fun h9 => ?_) (fun h9 => ?_)
       ·try simp only [bs] at h9
        refine XW_exit ?_
        refine then_exit ?_
        refine block_exit_ne rfl ?_
        refine then_exit ?_
        refine block_exit ?_
        refine then_norm ?_
        refine XW_sr ?_
        refine OW_as rfl rfl ?_
        refine OW_as rfl rfl ?_
        refine OW_as rfl rfl ?_
        refine EZ44_Y2 rfl ?_
        refine XW_ret ?_
        -- outcome 2
        refine ret_ret (res3 rfl (rv_tmp rfl) (rv_tmp rfl) (rv_tmp rfl)) (frz3 (Q := Q) (by first | exact freeze_plain rfl | exact Ls.freeze (by assumption) | exact Ls.freeze Ls.of | exact Ls.freeze Ls.emp | exact Ls.freeze Ls.nls) (by first | exact freeze_plain rfl | exact Ls.freeze (by assumption) | exact Ls.freeze Ls.of | exact Ls.freeze Ls.emp | exact Ls.freeze Ls.nls) (by first | exact freeze_plain rfl | exact Ls.freeze (by assumption) | exact Ls.freeze Ls.of | exact Ls.freeze Ls.emp | exact Ls.freeze Ls.nls) ?_)
        first | (rw [hI, List.drop_eq_nil_of_le (show s.data.toList.length ≤ i by show s.size ≤ i; omega), contU_nil] at hq; exact hq) | (rw [hI, hdr, show i = 9 by omega, contU_nine (by omega)] at hq; exact hq) | (rw [hI, hdr, contU_small hi9 (by omega) (by omega), if_pos ⟨by omega, by omega⟩] at hq; exact hq) | (rw [hI, hdr, contU_small hi9 (by omega) (by omega), if_neg (by omega), ← ext_tail] at hq; rw [show c.toNat % 128 = c.toNat by omega, show ((i : Int) + 1).toNat = i + 1 by omega]; exact hq)
       ·try simp only [bs] at h9
        refine XW_skip ?_
        refine then_norm ?_
        refine XW_sr ?_
        refine OW_mv rfl rfl ?_
        refine OW_mv rfl rfl ?_
        refine OW_mv rfl rfl ?_
        refine EN44_Y2 rfl ?_
        first
        | refine OW_bin rfl rfl rfl rfl (add_w64 (by first | omega | assumption | (simp only [ss]; omega))) ?_
        | refine OW_bin rfl rfl rfl rfl rfl ?_
        refine OW_sl rfl rfl rfl rfl rfl (str_lo rfl rfl (by first | omega | (simp only [ss]; omega)) (by first | omega | (simp only [ss]; omega))) ?_
        refine OW_as rfl rfl ?_
        refine EN44_Y2 rfl ?_
        refine OW_as rfl rfl ?_
        refine OW_as rfl rfl ?_
        refine EZ44_Y2 rfl ?_
        refine XW_ret ?_
        refine block_ret ?_
        refine then_ret ?_
        refine block_ret ?_
        refine then_ret ?_
        -- outcome 3
        refine ret_ret (res3 rfl (rv_tmp rfl) (rv_tmp rfl) (rv_tmp rfl)) (frz3 (Q := Q) (by first | exact freeze_plain rfl | exact Ls.freeze (by assumption) | exact Ls.freeze Ls.of | exact Ls.freeze Ls.emp | exact Ls.freeze Ls.nls) (by first | exact freeze_plain rfl | exact Ls.freeze (by assumption) | exact Ls.freeze Ls.of | exact Ls.freeze Ls.emp | exact Ls.freeze Ls.nls) (by first | exact freeze_plain rfl | exact Ls.freeze (by assumption) | exact Ls.freeze Ls.of | exact Ls.freeze Ls.emp | exact Ls.freeze Ls.nls) ?_)
        first | (rw [hI, List.drop_eq_nil_of_le (show s.data.toList.length ≤ i by show s.size ≤ i; omega), contU_nil] at hq; exact hq) | (rw [hI, hdr, show i = 9 by omega, contU_nine (by omega)] at hq; exact hq) | (rw [hI, hdr, contU_small hi9 (by omega) (by omega), if_pos ⟨by omega, by omega⟩] at hq; exact hq) | (rw [hI, hdr, contU_small hi9 (by omega) (by omega), if_neg (by omega), ← ext_tail] at hq; rw [show c.toNat % 128 = c.toNat by omega, show ((i : Int) + 1).toNat = i + 1 by omega]; exact hq)
      ·try simp only [bs] at g9_3
       refine OW_no rfl ?_
       refine OW_no rfl ?_
       refine EN44_Y2 rfl ?_
       refine OW_pick rfl rfl rfl ?_
       refine EZ44_Y2 rfl ?_
       refine XW_no rfl rfl ?_
       refine XW_skip ?_
       refine then_norm ?_
       refine XW_sr ?_
       refine OW_mv rfl rfl ?_
       refine OW_mv rfl rfl ?_
       refine OW_mv rfl rfl ?_
       refine EN44_Y2 rfl ?_
       first
       | refine OW_bin rfl rfl rfl rfl (add_w64 (by first | omega | assumption | (simp only [ss]; omega))) ?_
       | refine OW_bin rfl rfl rfl rfl rfl ?_
       refine OW_sl rfl rfl rfl rfl rfl (str_lo rfl rfl (by first | omega | (simp only [ss]; omega)) (by first | omega | (simp only [ss]; omega))) ?_
       refine OW_as rfl rfl ?_
       refine EN44_Y2 rfl ?_
       refine OW_as rfl rfl ?_
       refine OW_as rfl rfl ?_
       refine EZ44_Y2 rfl ?_
       refine XW_ret ?_
       refine block_ret ?_
       refine then_ret ?_
       refine block_ret ?_
       refine then_ret ?_
       -- outcome 4
       refine ret_ret (res3 rfl (rv_tmp rfl) (rv_tmp rfl) (rv_tmp rfl)) (frz3 (Q := Q) (by first | exact freeze_plain rfl | exact Ls.freeze (by assumption) | exact Ls.freeze Ls.of | exact Ls.freeze Ls.emp | exact Ls.freeze Ls.nls) (by first | exact freeze_plain rfl | exact Ls.freeze (by assumption) | exact Ls.freeze Ls.of | exact Ls.freeze Ls.emp | exact Ls.freeze Ls.nls) (by first | exact freeze_plain rfl | exact Ls.freeze (by assumption) | exact Ls.freeze Ls.of | exact Ls.freeze Ls.emp | exact Ls.freeze Ls.nls) ?_)
       first | (rw [hI, List.drop_eq_nil_of_le (show s.data.toList.length ≤ i by show s.size ≤ i; omega), contU_nil] at hq; exact hq) | (rw [hI, hdr, show i = 9 by omega, contU_nine (by omega)] at hq; exact hq) | (rw [hI, hdr, contU_small hi9 (by omega) (by omega), if_pos ⟨by omega, by omega⟩] at hq; exact hq) | (rw [hI, hdr, contU_small hi9 (by omega) (by omega), if_neg (by omega), ← ext_tail] at hq; rw [show c.toNat % 128 = c.toNat by omega, show ((i : Int) + 1).toNat = i + 1 by omega]; exact hq)
     ·try simp only [bs] at h8
      refine XW_skip ?_
      refine block_norm ?_
      refine then_norm ?_
      refine XW_region ?_
      first
      | refine OW_bin rfl rfl rfl rfl (add_w64 (by first | omega | assumption | (simp only [ss]; omega))) ?_
      | refine OW_bin rfl rfl rfl rfl rfl ?_
      refine OW_mv rfl rfl ?_
      refine EZ44_Y2 rfl ?_
      -- round 0.1
      refine ⟨_, ?_, i + 1, _, rfl, under_in hU1, ?_, env_g rfl⟩
      · first | omega | (simp; omega)
      · exact ⟨by omega, by omega, by have e : 2 ^ (7 * (i + 1)) = 128 * 2 ^ (7 * i) := (by rw [show 7 * (i + 1) = 7 + 7 * i by omega, Nat.pow_add]); have h2 : (c.toNat % 128 + 1) * 2 ^ (7 * i) ≤ 128 * 2 ^ (7 * i) := Nat.mul_le_mul_right _ (by omega); rw [Nat.add_mul, Nat.one_mul] at h2; omega, by rw [hI, hdr, contU_big (by omega) (by omega)]⟩
   ·try simp only [bs] at g6_3
    refine OW_no rfl ?_
    refine OW_no rfl ?_
    refine EN44_Y2 rfl ?_
    refine OW_pick rfl rfl rfl ?_
    refine EZ44_Y2 rfl ?_
    refine XW_no rfl rfl ?_
    refine XW_skip ?_
    refine then_norm ?_
    refine XW_sr ?_
    have hc1 : i = 9 → c.toNat % 128 ≤ 1 := by intro e; omega
    have hle := shl_le hi9 (show c.toNat % 128 < 128 by omega) hc1
    rw [Nat.add_mul, Nat.one_mul] at hle
    have hpp : 0 < 2 ^ (7 * i) := Nat.pow_pos (by decide)
    have hd : c.toNat % 128 * 2 ^ (7 * i) < 18446744073709551616 := by omega
    have hod : acc + c.toNat % 128 * 2 ^ (7 * i) < 18446744073709551616 := by omega
    refine OW_mv rfl rfl ?_
    refine OW_mv rfl rfl ?_
    first
    | refine OW_bin rfl rfl rfl rfl (and_127 _) ?_
    | refine OW_bin rfl rfl rfl rfl rfl ?_
    refine EN44_Y2 rfl ?_
    first
    | refine OW_conv rfl rfl (conv_in rfl rfl rfl (IntWalk.u64_in _ (by omega))) ?_
    | refine OW_conv rfl rfl rfl ?_
    refine OW_mv rfl rfl ?_
    first
    | refine OW_bin rfl rfl rfl rfl (mul_w64 (by first | omega | assumption | (simp only [ss]; omega))) ?_
    | refine OW_bin rfl rfl rfl rfl rfl ?_
    refine EN44_Y2 rfl ?_
    first
    | refine OW_bin rfl rfl rfl rfl (shl_u64 hi9 hd) ?_
    | refine OW_bin rfl rfl rfl rfl rfl ?_
    first
    | refine OW_bin rfl rfl rfl rfl (or_u64 ha hod) ?_
    | refine OW_bin rfl rfl rfl rfl rfl ?_
    refine OW_as rfl rfl ?_
    refine EZ44_Y2 rfl ?_
    refine XW_sr ?_
    refine OW_mv rfl rfl ?_
    refine OW_bin rfl rfl rfl rfl rfl ?_
    refine EZ44_Y2 rfl ?_
    refine XW_if rfl (fun h8 => ?_) (fun h8 => ?_)
    ·try simp only [bs] at h8
     refine XW_seq ?_
     refine XW_sr ?_
     refine OW_mv rfl rfl ?_
     refine OW_bin rfl rfl rfl rfl rfl ?_
     refine OW_mv rfl rfl ?_
     refine EN44_Y2 rfl ?_
     refine OW_split (tt := 34) rfl (fun g9_3 => ?_) (fun g9_3 => ?_)
     ·try simp only [bs] at g9_3
      refine OW_mv rfl rfl ?_
      refine OW_bin rfl rfl rfl rfl rfl ?_
      refine EN44_Y2 rfl ?_
      refine OW_pick rfl rfl rfl ?_
      refine EZ44_Y2 rfl ?_
      refine XW_if rfl (fun h9 => ?_) (fun h9 => ?_)
      ·try simp only [bs] at h9
       refine XW_exit ?_
       refine then_exit ?_
       refine block_exit_ne rfl ?_
       refine then_exit ?_
       refine block_exit ?_
       refine then_norm ?_
       refine XW_sr ?_
       refine OW_as rfl rfl ?_
       refine OW_as rfl rfl ?_
       refine OW_as rfl rfl ?_
       refine EZ44_Y2 rfl ?_
       refine XW_ret ?_
       -- outcome 5
       refine ret_ret (res3 rfl (rv_tmp rfl) (rv_tmp rfl) (rv_tmp rfl)) (frz3 (Q := Q) (by first | exact freeze_plain rfl | exact Ls.freeze (by assumption) | exact Ls.freeze Ls.of | exact Ls.freeze Ls.emp | exact Ls.freeze Ls.nls) (by first | exact freeze_plain rfl | exact Ls.freeze (by assumption) | exact Ls.freeze Ls.of | exact Ls.freeze Ls.emp | exact Ls.freeze Ls.nls) (by first | exact freeze_plain rfl | exact Ls.freeze (by assumption) | exact Ls.freeze Ls.of | exact Ls.freeze Ls.emp | exact Ls.freeze Ls.nls) ?_)
       first | (rw [hI, List.drop_eq_nil_of_le (show s.data.toList.length ≤ i by show s.size ≤ i; omega), contU_nil] at hq; exact hq) | (rw [hI, hdr, show i = 9 by omega, contU_nine (by omega)] at hq; exact hq) | (rw [hI, hdr, contU_small hi9 (by omega) (by omega), if_pos ⟨by omega, by omega⟩] at hq; exact hq) | (rw [hI, hdr, contU_small hi9 (by omega) (by omega), if_neg (by omega), ← ext_tail] at hq; rw [show c.toNat % 128 = c.toNat by omega, show ((i : Int) + 1).toNat = i + 1 by omega]; exact hq)
      ·try simp only [bs] at h9
       refine XW_skip ?_
       refine then_norm ?_
       refine XW_sr ?_
       refine OW_mv rfl rfl ?_
       refine OW_mv rfl rfl ?_
       refine OW_mv rfl rfl ?_
       refine EN44_Y2 rfl ?_
       first
       | refine OW_bin rfl rfl rfl rfl (add_w64 (by first | omega | assumption | (simp only [ss]; omega))) ?_
       | refine OW_bin rfl rfl rfl rfl rfl ?_
       refine OW_sl rfl rfl rfl rfl rfl (str_lo rfl rfl (by first | omega | (simp only [ss]; omega)) (by first | omega | (simp only [ss]; omega))) ?_
       refine OW_as rfl rfl ?_
       refine EN44_Y2 rfl ?_
       refine OW_as rfl rfl ?_
       refine OW_as rfl rfl ?_
       refine EZ44_Y2 rfl ?_
       refine XW_ret ?_
       refine block_ret ?_
       refine then_ret ?_
       refine block_ret ?_
       refine then_ret ?_
       -- outcome 6
       refine ret_ret (res3 rfl (rv_tmp rfl) (rv_tmp rfl) (rv_tmp rfl)) (frz3 (Q := Q) (by first | exact freeze_plain rfl | exact Ls.freeze (by assumption) | exact Ls.freeze Ls.of | exact Ls.freeze Ls.emp | exact Ls.freeze Ls.nls) (by first | exact freeze_plain rfl | exact Ls.freeze (by assumption) | exact Ls.freeze Ls.of | exact Ls.freeze Ls.emp | exact Ls.freeze Ls.nls) (by first | exact freeze_plain rfl | exact Ls.freeze (by assumption) | exact Ls.freeze Ls.of | exact Ls.freeze Ls.emp | exact Ls.freeze Ls.nls) ?_)
       first | (rw [hI, List.drop_eq_nil_of_le (show s.data.toList.length ≤ i by show s.size ≤ i; omega), contU_nil] at hq; exact hq) | (rw [hI, hdr, show i = 9 by omega, contU_nine (by omega)] at hq; exact hq) | (rw [hI, hdr, contU_small hi9 (by omega) (by omega), if_pos ⟨by omega, by omega⟩] at hq; exact hq) | (rw [hI, hdr, contU_small hi9 (by omega) (by omega), if_neg (by omega), ← ext_tail] at hq; rw [show c.toNat % 128 = c.toNat by omega, show ((i : Int) + 1).toNat = i + 1 by omega]; exact hq)
     ·try simp only [bs] at g9_3
      refine OW_no rfl ?_
      refine OW_no rfl ?_
      refine EN44_Y2 rfl ?_
      refine OW_pick rfl rfl rfl ?_
      refine EZ44_Y2 rfl ?_
      refine XW_no rfl rfl ?_
      refine XW_skip ?_
      refine then_norm ?_
      refine XW_sr ?_
      refine OW_mv rfl rfl ?_
      refine OW_mv rfl rfl ?_
      refine OW_mv rfl rfl ?_
      refine EN44_Y2 rfl ?_
      first
      | refine OW_bin rfl rfl rfl rfl (add_w64 (by first | omega | assumption | (simp only [ss]; omega))) ?_
      | refine OW_bin rfl rfl rfl rfl rfl ?_
      refine OW_sl rfl rfl rfl rfl rfl (str_lo rfl rfl (by first | omega | (simp only [ss]; omega)) (by first | omega | (simp only [ss]; omega))) ?_
      refine OW_as rfl rfl ?_
      refine EN44_Y2 rfl ?_
      refine OW_as rfl rfl ?_
      refine OW_as rfl rfl ?_
      refine EZ44_Y2 rfl ?_
      refine XW_ret ?_
      refine block_ret ?_
      refine then_ret ?_
      refine block_ret ?_
      refine then_ret ?_
      -- outcome 7
      refine ret_ret (res3 rfl (rv_tmp rfl) (rv_tmp rfl) (rv_tmp rfl)) (frz3 (Q := Q) (by first | exact freeze_plain rfl | exact Ls.freeze (by assumption) | exact Ls.freeze Ls.of | exact Ls.freeze Ls.emp | exact Ls.freeze Ls.nls) (by first | exact freeze_plain rfl | exact Ls.freeze (by assumption) | exact Ls.freeze Ls.of | exact Ls.freeze Ls.emp | exact Ls.freeze Ls.nls) (by first | exact freeze_plain rfl | exact Ls.freeze (by assumption) | exact Ls.freeze Ls.of | exact Ls.freeze Ls.emp | exact Ls.freeze Ls.nls) ?_)
      first | (rw [hI, List.drop_eq_nil_of_le (show s.data.toList.length ≤ i by show s.size ≤ i; omega), contU_nil] at hq; exact hq) | (rw [hI, hdr, show i = 9 by omega, contU_nine (by omega)] at hq; exact hq) | (rw [hI, hdr, contU_small hi9 (by omega) (by omega), if_pos ⟨by omega, by omega⟩] at hq; exact hq) | (rw [hI, hdr, contU_small hi9 (by omega) (by omega), if_neg (by omega), ← ext_tail] at hq; rw [show c.toNat % 128 = c.toNat by omega, show ((i : Int) + 1).toNat = i + 1 by omega]; exact hq)
    ·try simp only [bs] at h8
     refine XW_skip ?_
     refine block_norm ?_
     refine then_norm ?_
     refine XW_region ?_
     first
     | refine OW_bin rfl rfl rfl rfl (add_w64 (by first | omega | assumption | (simp only [ss]; omega))) ?_
     | refine OW_bin rfl rfl rfl rfl rfl ?_
     refine OW_mv rfl rfl ?_
     refine EZ44_Y2 rfl ?_
     -- round 0.2
     refine ⟨_, ?_, i + 1, _, rfl, under_in hU1, ?_, env_g rfl⟩
     · first | omega | (simp; omega)
     · exact ⟨by omega, by omega, by have e : 2 ^ (7 * (i + 1)) = 128 * 2 ^ (7 * i) := (by rw [show 7 * (i + 1) = 7 + 7 * i by omega, Nat.pow_add]); have h2 : (c.toNat % 128 + 1) * 2 ^ (7 * i) ≤ 128 * 2 ^ (7 * i) := Nat.mul_le_mul_right _ (by omega); rw [Nat.add_mul, Nat.one_mul] at h2; omega, by rw [hI, hdr, contU_big (by omega) (by omega)]⟩
  ·try simp only [bs] at h3
   refine XW_exit ?_
   refine then_exit ?_
   refine block_exit ?_
   refine then_norm ?_
   refine XW_sr ?_
   refine OW_as rfl rfl ?_
   refine OW_as rfl rfl ?_
   refine OW_as rfl rfl ?_
   refine EZ44_Y2 rfl ?_
   refine XW_ret ?_
   -- outcome 8
   refine ret_ret (res3 rfl (rv_tmp rfl) (rv_tmp rfl) (rv_tmp rfl)) (frz3 (Q := Q) (by first | exact freeze_plain rfl | exact Ls.freeze (by assumption) | exact Ls.freeze Ls.of | exact Ls.freeze Ls.emp | exact Ls.freeze Ls.nls) (by first | exact freeze_plain rfl | exact Ls.freeze (by assumption) | exact Ls.freeze Ls.of | exact Ls.freeze Ls.emp | exact Ls.freeze Ls.nls) (by first | exact freeze_plain rfl | exact Ls.freeze (by assumption) | exact Ls.freeze Ls.of | exact Ls.freeze Ls.emp | exact Ls.freeze Ls.nls) ?_)
   first | (rw [hI, List.drop_eq_nil_of_le (show s.data.toList.length ≤ i by show s.size ≤ i; omega), contU_nil] at hq; exact hq) | (rw [hI, hdr, show i = 9 by omega, contU_nine (by omega)] at hq; exact hq) | (rw [hI, hdr, contU_small hi9 (by omega) (by omega), if_pos ⟨by omega, by omega⟩] at hq; exact hq) | (rw [hI, hdr, contU_small hi9 (by omega) (by omega), if_neg (by omega), ← ext_tail] at hq; rw [show c.toNat % 128 = c.toNat by omega, show ((i : Int) + 1).toNat = i + 1 by omega]; exact hq)
theorem resU_some {s : ByteArray} {n : Nat} {r : List UInt8} (h : takeU 64 s.data.toList = some (n, r)) : resU s = ((n : Int), ba r, true) := by unfold resU; rw [h]
theorem resU_none {s : ByteArray} (h : takeU 64 s.data.toList = none) : resU s = noU := by unfold resU; rw [h]
theorem bytes_size (s : ByteArray) : s.data.toList.length = s.size := rfl
/-- Where a number stands. -/
theorem rtake_found {s : ByteArray} {n : Nat} {r : List UInt8} (hs : s.size ≤ 4611686018427387904) (hn : n < 18446744073709551616) (e : s.data.toList = encU n ++ r) (hq : Q (.tup [.int .u64 (n : Int), .str (ba r), .bool true]) H) : CW cfg ν 55 [.str s] H Q := by
  have hn10 := encU_le10 hn
  have hsz : s.size = (encU n).length + r.length := by have := congrArg List.length e; rw [List.length_append] at this; exact this
  refine CW_pure g55 F55 rfl ?_
  refine XW_sr ?_
  refine OW_as rfl rfl ?_
  refine OW_as rfl rfl ?_
  refine OW_as rfl rfl ?_
  refine EZ45_Y2 rfl ?_
  refine XW_sr ?_
  refine OW_as rfl rfl ?_
  refine EZ45_Y2 rfl ?_
  refine XW_sr ?_
  refine OW_as rfl rfl ?_
  refine EZ45_Y2 rfl ?_
  refine XW_seq ?_
  refine XW_sr ?_
  refine OW_as rfl rfl ?_
  refine EZ45_Y2 rfl ?_
  refine XW_block ?_
  refine XW_whileN (I := fun ν' mm ee H' => ∃ (i : Nat) (acc : Nat) (K : Nat) (v : Nat), mm = s.size - i ∧ under (1 :: 0 :: 1 :: 1 :: 1 :: ν) ν' = true ∧ (i + (encU v).length = (encU n).length ∧ s.data.toList.drop i = encU v ++ r ∧ K = 2 ^ (7 * i) ∧ acc < K ∧ acc + K * v = n) ∧ ∃ g : Nat → AVal, ee = [.str s, g 1, .int .u64 0, .str ⟨#[]⟩, .bool false, .int .u64 acc, .int .u64 K, .int .i64 i, g 8, g 9, g 10, g 11, g 12, g 13, g 14, g 15, g 16, g 17, g 18, g 19, g 20, g 21, g 22, g 23, g 24, g 25, g 26, g 27, g 28, g 29, g 30, g 31, g 32, g 33, g 34, g 35, g 36, g 37, g 38, g 39, g 40, g 41, g 42, g 43, g 44]) ?_ _ _ _ _ ⟨0, 0, 1, n, rfl, under_me, (⟨by omega, e, rfl, by decide, by omega⟩), env_g rfl⟩
  rintro ν1 mm ee H1 ⟨i, acc, K, v, rfl, hU1, ⟨hil, hdr, hK, ha, hv⟩, g1, rfl⟩
  have hvp := encU_pos v
  have hpow : K ≤ 9223372036854775808 := by (rw [hK]; exact Nat.le_trans (Nat.pow_le_pow_right (by decide) (show 7 * i ≤ 63 by omega)) (by decide))
  have hdr2 := str_drop (s := s) (i := i) (by omega)
  refine XW_seq ?_
  refine XW_sr ?_
  refine OW_mv rfl rfl ?_
  refine OW_mv rfl rfl ?_
  refine OW_lenS rfl rfl rfl ?_
  refine EN45_Y2 rfl ?_
  refine OW_bin rfl rfl rfl rfl rfl ?_
  refine OW_mv rfl rfl ?_
  refine OW_split (tt := 13) rfl (fun g4_5 => ?_) (fun g4_5 => ?_)
  ·try simp only [bs] at g4_5
   refine EN45_Y2 rfl ?_
   refine OW_mv rfl rfl ?_
   refine OW_bin rfl rfl rfl rfl rfl ?_
   refine OW_pick rfl rfl rfl ?_
   refine EZ45_Y2 rfl ?_
   refine XW_if rfl (fun h4 => ?_) (fun h4 => ?_)
   ·try simp only [bs] at h4
    refine XW_skip ?_
    refine then_norm ?_
    refine XW_seq ?_
    refine XW_block ?_
    refine XW_sr ?_
    refine OW_mv rfl rfl ?_
    refine OW_mv rfl rfl ?_
    refine OW_ix rfl rfl rfl (str_ix rfl rfl (by omega) (by omega)) ?_
    refine EN45_Y2 rfl ?_
    rw [Int.toNat_natCast]
    generalize s.data.toList.getD i 0 = c at hdr2 ⊢
    have hcl := c.toNat_lt
    rw [hdr2] at hdr
    have hcv : c.toNat % 128 = v % 128 ∧ (c.toNat < 128 ↔ v < 128) ∧ (v < 128 → s.data.toList.drop (i + 1) = r ∧ (encU v).length = 1) ∧ (¬ v < 128 → s.data.toList.drop (i + 1) = encU (v / 128) ++ r ∧ (encU v).length = (encU (v / 128)).length + 1) := enc_head hdr
    first
    | refine OW_conv rfl rfl (conv_in rfl rfl rfl (IntWalk.u64_in _ (by omega))) ?_
    | refine OW_conv rfl rfl rfl ?_
    refine OW_as rfl rfl ?_
    refine EZ45_Y2 rfl ?_
    refine XW_sr ?_
    refine OW_mv rfl rfl ?_
    refine OW_mv rfl rfl ?_
    refine OW_mv rfl rfl ?_
    refine EN45_Y2 rfl ?_
    first
    | refine OW_bin rfl rfl rfl rfl (rem_inu64 (by omega)) ?_
    | refine OW_bin rfl rfl rfl rfl (rem_in (by omega)) ?_
    | refine OW_bin rfl rfl rfl rfl rfl ?_
    have hmul : 0 ≤ (K : Int) * ((c.toNat % 128 : Nat) : Int) ∧ (K : Int) * ((c.toNat % 128 : Nat) : Int) ≤ 18446744073709551615 := mul_cast (m := 18446744073709551615) (by have : K * (v % 128) ≤ K * v := Nat.mul_le_mul_left _ (Nat.mod_le _ _); rw [hcv.1]; omega)
    rw [show ((c.toNat : Int) % 128) = ((c.toNat % 128 : Nat) : Int) from rfl]
    first
    | refine OW_bin rfl rfl rfl rfl (mul_wu64 (by first | omega | assumption | (simp only [ss]; omega))) ?_
    | refine OW_bin rfl rfl rfl rfl rfl ?_
    obtain ⟨X, hX⟩ : ∃ X, X = K * (v % 128) := ⟨_, rfl⟩
    rw [hcv.1, ← Int.natCast_mul, ← hX]
    have hkv : K * v = X + K * 128 * (v / 128) := by rw [hX, Nat.mul_assoc, ← Nat.mul_add]; congr 1; omega
    have hXn : acc + X ≤ n := by omega
    first
    | refine OW_bin rfl rfl rfl rfl (add_wu64 (by first | omega | assumption | (simp only [ss]; omega))) ?_
    | refine OW_bin rfl rfl rfl rfl rfl ?_
    refine EN45_Y2 rfl ?_
    refine OW_as rfl rfl ?_
    refine EZ45_Y2 rfl ?_
    refine XW_sr ?_
    refine OW_mv rfl rfl ?_
    first
    | refine OW_bin rfl rfl rfl rfl (mul_wu64 (by first | omega | assumption | (simp only [ss]; omega))) ?_
    | refine OW_bin rfl rfl rfl rfl rfl ?_
    refine OW_as rfl rfl ?_
    refine EZ45_Y2 rfl ?_
    refine XW_sr ?_
    refine OW_mv rfl rfl ?_
    refine OW_bin rfl rfl rfl rfl rfl ?_
    refine EZ45_Y2 rfl ?_
    refine XW_if rfl (fun h9 => ?_) (fun h9 => ?_)
    ·try simp only [bs] at h9
     have hXe : acc + X = n := by rw [hX, Nat.mod_eq_of_lt (by omega)]; exact hv
     refine XW_seq ?_
     refine XW_sr ?_
     refine OW_mv rfl rfl ?_
     rw [show ((acc : Int) + (X : Int)) = (n : Int) by omega]
     refine OW_fn rfl rfl (rputU hn ?_) 
     refine OW_mv rfl rfl ?_
     refine EN45_Y2 rfl ?_
     refine OW_mv rfl rfl ?_
     first
     | refine OW_bin rfl rfl rfl rfl (add_w64 (by first | omega | assumption | (simp only [ss]; omega))) ?_
     | refine OW_bin rfl rfl rfl rfl rfl ?_
     refine OW_sl rfl rfl rfl rfl rfl (str_hi rfl rfl (by first | omega | (simp only [ss]; omega)) (by first | omega | (simp only [ss]; omega))) ?_
     refine EN45_Y2 rfl ?_
     refine OW_bin rfl rfl rfl rfl rfl ?_
     refine EZ45_Y2 rfl ?_
     refine XW_if rfl (fun h10 => ?_) (fun h10 => ?_)
     · exfalso; (try simp only [bs] at h10) <;> (exact h10 (by obtain ⟨_, k2⟩ := hcv.2.2.1 (by omega); rw [show ((i : Int) + 1).toNat = (encU n).length by omega, ext_head, e, List.take_left]))
     ·try simp only [bs] at h10
      refine XW_skip ?_
      refine then_norm ?_
      refine XW_sr ?_
      refine OW_mv rfl rfl ?_
      refine OW_mv rfl rfl ?_
      refine OW_mv rfl rfl ?_
      refine EN45_Y2 rfl ?_
      first
      | refine OW_bin rfl rfl rfl rfl (add_w64 (by first | omega | assumption | (simp only [ss]; omega))) ?_
      | refine OW_bin rfl rfl rfl rfl rfl ?_
      refine OW_sl rfl rfl rfl rfl rfl (str_lo rfl rfl (by first | omega | (simp only [ss]; omega)) (by first | omega | (simp only [ss]; omega))) ?_
      refine OW_as rfl rfl ?_
      refine EN45_Y2 rfl ?_
      refine OW_as rfl rfl ?_
      refine OW_as rfl rfl ?_
      refine EZ45_Y2 rfl ?_
      refine XW_ret ?_
      refine block_ret ?_
      refine then_ret ?_
      refine block_ret ?_
      refine then_ret ?_
      -- outcome 1
      refine ret_ret (res3 rfl (rv_tmp rfl) (rv_tmp rfl) (rv_tmp rfl)) (frz3 (Q := Q) (by first | exact freeze_plain rfl | exact Ls.freeze (by assumption) | exact Ls.freeze Ls.of | exact Ls.freeze Ls.emp | exact Ls.freeze Ls.nls) (by first | exact freeze_plain rfl | exact Ls.freeze (by assumption) | exact Ls.freeze Ls.of | exact Ls.freeze Ls.emp | exact Ls.freeze Ls.nls) (by first | exact freeze_plain rfl | exact Ls.freeze (by assumption) | exact Ls.freeze Ls.of | exact Ls.freeze Ls.emp | exact Ls.freeze Ls.nls) ?_)
      obtain ⟨hdr3, _⟩ := hcv.2.2.1 (by omega); rw [show ((i : Int) + 1).toNat = i + 1 by omega, ext_tail, hdr3]; exact hq
    ·try simp only [bs] at h9
     have hKn : K * 128 ≤ n := by have : K * 128 * 1 ≤ K * 128 * (v / 128) := Nat.mul_le_mul_left _ (by omega); omega
     rw [wu64 (n := (K : Int) * 128) (by omega)]
     refine XW_skip ?_
     refine block_norm ?_
     refine then_norm ?_
     refine XW_region ?_
     refine OW_mv rfl rfl ?_
     first
     | refine OW_bin rfl rfl rfl rfl (add_w64 (by first | omega | assumption | (simp only [ss]; omega))) ?_
     | refine OW_bin rfl rfl rfl rfl rfl ?_
     refine OW_as rfl rfl ?_
     refine EZ45_Y2 rfl ?_
     obtain ⟨hdr3, hlen3⟩ := hcv.2.2.2 (by omega)
     -- round 0.1
     refine ⟨_, ?_, i + 1, acc + X, K * 128, v / 128, rfl, under_in hU1, ?_, env_g rfl⟩
     · first | omega | (simp; omega)
     · exact ⟨by omega, hdr3, by rw [hK, show 7 * (i + 1) = 7 * i + 7 by omega, Nat.pow_add], by have : X ≤ K * 127 := (by rw [hX]; exact Nat.mul_le_mul_left _ (by omega)); omega, by omega⟩
   · exfalso; (try simp only [bs] at h4) <;> (omega)
  · exfalso; (try simp only [bs] at g4_5) <;> (omega)
theorem wrapu_range (n : Int) : 0 ≤ IntKind.u64.wrap n ∧ IntKind.u64.wrap n ≤ 18446744073709551615 := by rw [IntKind.wrap_u64]; omega
theorem rtake_none {s : ByteArray} (hs : s.size ≤ 4611686018427387904) (h : takeU 64 s.data.toList = none) (hq : Q (.tup [.int .u64 0, .str ⟨#[]⟩, .bool false]) H) : CW cfg ν 55 [.str s] H Q := by
  refine CW_pure g55 F55 rfl ?_
  refine XW_sr ?_
  refine OW_as rfl rfl ?_
  refine OW_as rfl rfl ?_
  refine OW_as rfl rfl ?_
  refine EZ45_Y2 rfl ?_
  refine XW_sr ?_
  refine OW_as rfl rfl ?_
  refine EZ45_Y2 rfl ?_
  refine XW_sr ?_
  refine OW_as rfl rfl ?_
  refine EZ45_Y2 rfl ?_
  refine XW_seq ?_
  refine XW_sr ?_
  refine OW_as rfl rfl ?_
  refine EZ45_Y2 rfl ?_
  refine XW_block ?_
  refine XW_whileN (I := fun ν' mm ee H' => ∃ (i : Nat) (acc : Int) (K : Int), mm = s.size - i ∧ under (1 :: 0 :: 1 :: 1 :: 1 :: ν) ν' = true ∧ (i ≤ s.size ∧ 0 ≤ acc ∧ acc ≤ 18446744073709551615) ∧ ∃ g : Nat → AVal, ee = [.str s, g 1, .int .u64 0, .str ⟨#[]⟩, .bool false, .int .u64 acc, .int .u64 K, .int .i64 i, g 8, g 9, g 10, g 11, g 12, g 13, g 14, g 15, g 16, g 17, g 18, g 19, g 20, g 21, g 22, g 23, g 24, g 25, g 26, g 27, g 28, g 29, g 30, g 31, g 32, g 33, g 34, g 35, g 36, g 37, g 38, g 39, g 40, g 41, g 42, g 43, g 44]) ?_ _ _ _ _ ⟨0, 0, 1, rfl, under_me, (⟨by omega, by decide, by decide⟩), env_g rfl⟩
  rintro ν1 mm ee H1 ⟨i, acc, K, rfl, hU1, ⟨hil, ha1, ha2⟩, g1, rfl⟩
  refine XW_seq ?_
  refine XW_sr ?_
  refine OW_mv rfl rfl ?_
  refine OW_mv rfl rfl ?_
  refine OW_lenS rfl rfl rfl ?_
  refine EN45_Y2 rfl ?_
  refine OW_bin rfl rfl rfl rfl rfl ?_
  refine OW_mv rfl rfl ?_
  refine OW_split (tt := 13) rfl (fun g4_5 => ?_) (fun g4_5 => ?_)
  ·try simp only [bs] at g4_5
   refine EN45_Y2 rfl ?_
   refine OW_mv rfl rfl ?_
   refine OW_bin rfl rfl rfl rfl rfl ?_
   refine OW_pick rfl rfl rfl ?_
   refine EZ45_Y2 rfl ?_
   refine XW_if rfl (fun h4 => ?_) (fun h4 => ?_)
   ·try simp only [bs] at h4
    refine XW_skip ?_
    refine then_norm ?_
    refine XW_seq ?_
    refine XW_block ?_
    refine XW_sr ?_
    refine OW_mv rfl rfl ?_
    refine OW_mv rfl rfl ?_
    refine OW_ix rfl rfl rfl (str_ix rfl rfl (by omega) (by omega)) ?_
    refine EN45_Y2 rfl ?_
    first
    | refine OW_conv rfl rfl (conv_in rfl rfl rfl (IntWalk.u64_in _ (by omega))) ?_
    | refine OW_conv rfl rfl rfl ?_
    refine OW_as rfl rfl ?_
    refine EZ45_Y2 rfl ?_
    refine XW_sr ?_
    refine OW_mv rfl rfl ?_
    refine OW_mv rfl rfl ?_
    refine OW_mv rfl rfl ?_
    refine EN45_Y2 rfl ?_
    first
    | refine OW_bin rfl rfl rfl rfl (rem_inu64 (by omega)) ?_
    | refine OW_bin rfl rfl rfl rfl (rem_in (by omega)) ?_
    | refine OW_bin rfl rfl rfl rfl rfl ?_
    refine OW_bin rfl rfl rfl rfl rfl ?_
    refine OW_bin rfl rfl rfl rfl rfl ?_
    refine EN45_Y2 rfl ?_
    generalize hN : IntKind.u64.wrap (acc + IntKind.u64.wrap (K * _)) = N
    have hN0 : 0 ≤ N ∧ N ≤ 18446744073709551615 := by rw [← hN]; exact wrapu_range _
    refine OW_as rfl rfl ?_
    refine EZ45_Y2 rfl ?_
    refine XW_sr ?_
    refine OW_mv rfl rfl ?_
    skip
    refine OW_bin rfl rfl rfl rfl rfl ?_
    refine OW_as rfl rfl ?_
    refine EZ45_Y2 rfl ?_
    refine XW_sr ?_
    refine OW_mv rfl rfl ?_
    refine OW_bin rfl rfl rfl rfl rfl ?_
    refine EZ45_Y2 rfl ?_
    refine XW_if rfl (fun h9 => ?_) (fun h9 => ?_)
    ·try simp only [bs] at h9
     refine XW_seq ?_
     refine XW_sr ?_
     refine OW_mv rfl rfl ?_
     rw [show (N : Int) = ((N.toNat : Nat) : Int) by omega]
     refine OW_fn rfl rfl (rputU (show N.toNat < 18446744073709551616 by omega) ?_) 
     refine OW_mv rfl rfl ?_
     refine EN45_Y2 rfl ?_
     refine OW_mv rfl rfl ?_
     first
     | refine OW_bin rfl rfl rfl rfl (add_w64 (by first | omega | assumption | (simp only [ss]; omega))) ?_
     | refine OW_bin rfl rfl rfl rfl rfl ?_
     refine OW_sl rfl rfl rfl rfl rfl (str_hi rfl rfl (by first | omega | (simp only [ss]; omega)) (by first | omega | (simp only [ss]; omega))) ?_
     refine EN45_Y2 rfl ?_
     refine OW_bin rfl rfl rfl rfl rfl ?_
     refine EZ45_Y2 rfl ?_
     refine XW_if rfl (fun h10 => ?_) (fun h10 => ?_)
     ·try simp only [bs] at h10
      refine XW_exit ?_
      refine then_exit ?_
      refine block_exit_ne rfl ?_
      refine then_exit ?_
      refine block_exit ?_
      refine then_norm ?_
      refine XW_sr ?_
      refine OW_as rfl rfl ?_
      refine OW_as rfl rfl ?_
      refine OW_as rfl rfl ?_
      refine EZ45_Y2 rfl ?_
      refine XW_ret ?_
      -- outcome 1
      refine ret_ret (res3 rfl (rv_tmp rfl) (rv_tmp rfl) (rv_tmp rfl)) (frz3 (Q := Q) (by first | exact freeze_plain rfl | exact Ls.freeze (by assumption) | exact Ls.freeze Ls.of | exact Ls.freeze Ls.emp | exact Ls.freeze Ls.nls) (by first | exact freeze_plain rfl | exact Ls.freeze (by assumption) | exact Ls.freeze Ls.of | exact Ls.freeze Ls.emp | exact Ls.freeze Ls.nls) (by first | exact freeze_plain rfl | exact Ls.freeze (by assumption) | exact Ls.freeze Ls.of | exact Ls.freeze Ls.emp | exact Ls.freeze Ls.nls) ?_)
      exact hq
     · exfalso; (try simp only [bs] at h10) <;> (have h10 := h10; rw [show ((i : Int) + 1).toNat = i + 1 by omega, ext_head, ba_inj] at h10; have := takeU_enc N.toNat 64 (s.data.toList.drop (i + 1)) (by show N.toNat < 18446744073709551616; omega); rw [h10, List.take_append_drop, h] at this; cases this)
    ·try simp only [bs] at h9
     refine XW_skip ?_
     refine block_norm ?_
     refine then_norm ?_
     refine XW_region ?_
     refine OW_mv rfl rfl ?_
     first
     | refine OW_bin rfl rfl rfl rfl (add_w64 (by first | omega | assumption | (simp only [ss]; omega))) ?_
     | refine OW_bin rfl rfl rfl rfl rfl ?_
     refine OW_as rfl rfl ?_
     refine EZ45_Y2 rfl ?_
     -- round 0.1
     refine ⟨_, ?_, i + 1, _, _, rfl, under_in hU1, ?_, env_g rfl⟩
     · first | omega | (simp; omega)
     · exact ⟨by omega, hN0.1, hN0.2⟩
   ·try simp only [bs] at h4
    refine XW_exit ?_
    refine then_exit ?_
    refine block_exit ?_
    refine then_norm ?_
    refine XW_sr ?_
    refine OW_as rfl rfl ?_
    refine OW_as rfl rfl ?_
    refine OW_as rfl rfl ?_
    refine EZ45_Y2 rfl ?_
    refine XW_ret ?_
    -- outcome 2
    refine ret_ret (res3 rfl (rv_tmp rfl) (rv_tmp rfl) (rv_tmp rfl)) (frz3 (Q := Q) (by first | exact freeze_plain rfl | exact Ls.freeze (by assumption) | exact Ls.freeze Ls.of | exact Ls.freeze Ls.emp | exact Ls.freeze Ls.nls) (by first | exact freeze_plain rfl | exact Ls.freeze (by assumption) | exact Ls.freeze Ls.of | exact Ls.freeze Ls.emp | exact Ls.freeze Ls.nls) (by first | exact freeze_plain rfl | exact Ls.freeze (by assumption) | exact Ls.freeze Ls.of | exact Ls.freeze Ls.emp | exact Ls.freeze Ls.nls) ?_)
    exact hq
  ·try simp only [bs] at g4_5
   refine EN45_Y2 rfl ?_
   refine OW_no rfl ?_
   refine OW_no rfl ?_
   refine OW_pick rfl rfl rfl ?_
   refine EZ45_Y2 rfl ?_
   refine XW_no rfl rfl ?_
   refine XW_exit ?_
   refine then_exit ?_
   refine block_exit ?_
   refine then_norm ?_
   refine XW_sr ?_
   refine OW_as rfl rfl ?_
   refine OW_as rfl rfl ?_
   refine OW_as rfl rfl ?_
   refine EZ45_Y2 rfl ?_
   refine XW_ret ?_
   -- outcome 3
   refine ret_ret (res3 rfl (rv_tmp rfl) (rv_tmp rfl) (rv_tmp rfl)) (frz3 (Q := Q) (by first | exact freeze_plain rfl | exact Ls.freeze (by assumption) | exact Ls.freeze Ls.of | exact Ls.freeze Ls.emp | exact Ls.freeze Ls.nls) (by first | exact freeze_plain rfl | exact Ls.freeze (by assumption) | exact Ls.freeze Ls.of | exact Ls.freeze Ls.emp | exact Ls.freeze Ls.nls) (by first | exact freeze_plain rfl | exact Ls.freeze (by assumption) | exact Ls.freeze Ls.of | exact Ls.freeze Ls.emp | exact Ls.freeze Ls.nls) ?_)
   exact hq
theorem rtakeU {s : ByteArray} (hs : s.size ≤ 4611686018427387904) (hq : Q (tupU (resU s)) H) : CW cfg ν 55 [.str s] H Q := by
  cases h : takeU 64 s.data.toList with
  | none => rw [resU_none h] at hq; exact rtake_none hs h hq
  | some p =>
    obtain ⟨n, r⟩ := p
    rw [resU_some h] at hq
    obtain ⟨e, hn⟩ := (takeU_iff _ _ _).1 h
    exact rtake_found hs hn e hq
end Go.Proofs.Ytealccnfnpkngaa.X
