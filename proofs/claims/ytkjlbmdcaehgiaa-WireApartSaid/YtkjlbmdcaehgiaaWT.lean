/- What the printed functions of packages wire and countersignref01 take, in the words of WM. -/
import Derived.Test.YtkjlbmdcaehgiaaWP
set_option linter.unusedVariables false
set_option linter.unusedSimpArgs false
namespace Go.Proofs.Ytkjlbmdcaehgiaa.WP
open Go.RowKit Go.Proofs.YtkjlbmdcaehgiaaW.PrintWords Go.Proofs.YtkjlbmdcaehgiaaW.PrintLast Go.Proofs.YtkjlbmdcaehgiaaW.PrintMore Go.Proofs.Ytkjlbmdcaehgiaa.PAll Go.Proofs.Ytkjlbmdcaehgiaa.WM

theorem tmod128 (a : Nat) : Int.tmod (a : Int) 128 = ((a % 128 : Nat) : Int) := rfl
def no : Int × ByteArray × Bool := (0, (⟨#[]⟩ : ByteArray), false)
def resU (s : ByteArray) : Int × ByteArray × Bool := match takeU 64 s.data.toList with
  | some (n, r) => ((n : Int), ba r, true)
  | none => no
theorem resU_some {s : ByteArray} {n : Nat} {r : List UInt8} (h : takeU 64 s.data.toList = some (n, r)) : resU s = ((n : Int), ba r, true) := by unfold resU; rw [h]
theorem resU_none {s : ByteArray} (h : takeU 64 s.data.toList = none) : resU s = no := by unfold resU; rw [h]
theorem bt_drop {s : ByteArray} {i : Nat} {c : UInt8} {t : List UInt8} (h : s.data.toList.drop i = c :: t) : bt s (i : Int) = (c.toNat : Int) ∧ i < s.size ∧ s.data.toList.drop (i + 1) = t := by
  have hi : i < s.data.toList.length := by
    rcases Nat.lt_or_ge i s.data.toList.length with h1 | h1
    · exact h1
    · rw [List.drop_of_length_le h1] at h; simp at h
  have hs : i < s.size := hi
  rw [List.drop_eq_getElem_cons hi] at h
  injection h with h1 h2
  refine ⟨?_, hs, h2⟩
  unfold bt
  rw [dif_pos (by rw [Int.toNat_natCast]; exact hs)]
  rw [← h1]
  rfl
theorem ext_tail (s : ByteArray) (i : Nat) : s.extract i s.size = ba (s.data.toList.drop i) := by
  rw [← ba_drop]; rfl
theorem ext_head (s : ByteArray) (i : Nat) : s.extract 0 i = ba (s.data.toList.take i) := by
  rw [← ba_take]; rfl

theorem take_l0 (s : ByteArray) (hs : s.size ≤ 4611686018427387904) (t : List UInt8) : ∀ (i acc k : Nat), s.data.toList.drop i = t → i ≤ 9 → acc < 2 ^ (7 * i) → i ≤ s.size → 2 * (10 - i) + 2 ≤ k →
    wire_TakeUint.l0 k s (acc : Int) (s.size : Int) (i : Int) = some (match takeU (64 - 7 * i) t with
      | some (v, r) => if 0 < i ∧ v = 0 then no else (((acc + v * 2 ^ (7 * i) : Nat) : Int), ba r, true)
      | none => no) := by
  induction t with
  | nil =>
    intro i acc k ht hi ha his hk
    obtain ⟨k, rfl⟩ : ∃ m, k = m + 1 := ⟨k - 1, by omega⟩
    have : s.size ≤ i := by
      have := congrArg List.length ht
      simp only [List.length_drop, dl, List.length_nil] at this
      omega
    simp only [wire_TakeUint.l0]
    rw [if_neg (by omega)]
    rfl
  | cons c t ih =>
    intro i acc k ht hi ha his hk
    obtain ⟨k, rfl⟩ : ∃ m, k = m + 2 := ⟨k - 2, by omega⟩
    obtain ⟨hb, hlt, ht'⟩ := bt_drop ht
    have hc := c.toNat_lt
    simp only [wire_TakeUint.l0]
    rw [if_pos (by omega), if_pos (by omega), if_pos (by omega), hb]
    -- the flag
    have hflag : ∀ z : Bool, z = decide (i = 9 ∧ 1 < c.toNat) → wire_TakeUint.j1 (k + 1) s (acc : Int) (i : Int) (c.toNat : Int) (s.size : Int) (i : Int) z = some (match takeU (64 - 7 * i) (c :: t) with
      | some (v, r) => if 0 < i ∧ v = 0 then no else (((acc + v * 2 ^ (7 * i) : Nat) : Int), ba r, true)
      | none => no) := by
      intro z hz
      simp only [wire_TakeUint.j1]
      by_cases hf : i = 9 ∧ 1 < c.toNat
      · rw [decide_eq_true hf] at hz
        rw [if_pos hz]
        obtain ⟨rfl, h1⟩ := hf
        have hn : takeU (64 - 7 * 9) (c :: t) = none := by
          simp only [takeU]
          by_cases h2 : c.toNat < 128
          · rw [if_pos h2, if_neg (by omega)]
          · rw [if_neg h2]
            cases hv : takeU (64 - 7 * 9 - 7) t with
            | none => rfl
            | some p =>
              obtain ⟨v, r⟩ := p
              have := (takeU_some _ _ _ _ hv).2
              simp only
              rw [if_pos (by simpa using this)]
        rw [hn]
        rfl
      · rw [decide_eq_false hf] at hz
        rw [if_neg (by rw [hz]; simp), w64 (i := 7 * (i : Int)) (by omega) (by omega), if_pos (by omega)]
        rw [and127 c, wu64 (by omega) (by omega)]
        have hpow : (i ≤ 8 ∧ 2 ^ (7 * i) * 128 ≤ 9223372036854775808) ∨ i = 9 := by
          rcases Nat.lt_or_ge i 9 with h9 | h9
          · left
            refine ⟨by omega, ?_⟩
            have : 2 ^ (7 * i) ≤ 2 ^ 56 := Nat.pow_le_pow_right (by decide) (by omega)
            omega
          · right; omega
        have hpos : 0 < 2 ^ (7 * i) := Nat.two_pow_pos _
        have hd : (c.toNat % 128) * 2 ^ (7 * i) + acc < 18446744073709551616 := by
          rcases hpow with h9 | h9
          · have : (c.toNat % 128) * 2 ^ (7 * i) ≤ 127 * 2 ^ (7 * i) := Nat.mul_le_mul_right _ (by omega)
            omega
          · subst h9
            have : c.toNat ≤ 1 := by omega
            have : c.toNat % 128 ≤ 1 := by omega
            have : (c.toNat % 128) * 2 ^ (7 * 9) ≤ 1 * 2 ^ (7 * 9) := Nat.mul_le_mul_right _ this
            omega
        have hshl : shl .u64 ((c.toNat % 128 : Nat) : Int) (7 * (i : Int)) = (((c.toNat % 128) * 2 ^ (7 * i) : Nat) : Int) := by
          unfold shl
          have h64 : min (7 * (i : Int)).toNat IntKind.u64.bits = 7 * i := by
            have : IntKind.u64.bits = 64 := rfl
            rw [this]; omega
          rw [h64, show ((c.toNat % 128 : Nat) : Int) * 2 ^ (7 * i) = (((c.toNat % 128) * 2 ^ (7 * i) : Nat) : Int) from by simp]
          generalize (c.toNat % 128) * 2 ^ (7 * i) = X at hd
          exact wu64 (by omega) (by omega)
        rw [hshl, or_shift acc _ i ha (by omega)]
        by_cases h1 : c.toNat < 128
        · have hmod : c.toNat % 128 = c.toNat := by omega
          have hm : c.toNat < 2 ^ (64 - 7 * i) := by
            rcases hpow with h9 | h9
            · have h57 : 7 * i ≤ 56 := by have := h9.1; omega
              have : 2 ^ 8 ≤ 2 ^ (64 - 7 * i) := Nat.pow_le_pow_right (by decide) (by omega)
              omega
            · subst h9; omega
          have hT : takeU (64 - 7 * i) (c :: t) = some (c.toNat, t) := by
            simp only [takeU]; rw [if_pos h1, if_pos hm]
          rw [hT, if_pos (by omega), hmod]
          rw [w64 (i := (i : Int) + 1) (by omega) (by omega), show ((i : Int) + 1).toNat = i + 1 from by omega, ext_tail, ht']
          by_cases h0 : c.toNat = 0
          · rw [if_pos (by omega)]
            by_cases hi0 : 0 < i
            · rw [if_pos (by omega)]
              simp only
              rw [if_pos ⟨hi0, h0⟩]
              rfl
            · rw [if_neg (by omega), if_pos (by omega), if_pos (by omega)]
              simp only
              rw [if_neg (fun h => hi0 h.1)]
          · rw [if_neg (by omega), if_pos (by omega), if_pos (by omega)]
            simp only
            rw [if_neg (fun h => h0 h.2)]
        · rw [if_neg (by omega)]
          have hi8 : i ≤ 8 := by
            rcases Nat.lt_or_ge i 9 with h9 | h9
            · omega
            · exact absurd ⟨by omega, by omega⟩ hf
          have hacc : acc + (c.toNat % 128) * 2 ^ (7 * i) < 2 ^ (7 * (i + 1)) := by
            have e : 2 ^ (7 * (i + 1)) = 128 * 2 ^ (7 * i) := by rw [show 7 * (i + 1) = 7 + 7 * i from by omega, Nat.pow_add]
            have : (c.toNat % 128) * 2 ^ (7 * i) ≤ 127 * 2 ^ (7 * i) := Nat.mul_le_mul_right _ (by omega)
            omega
          have hih := ih (i + 1) (acc + (c.toNat % 128) * 2 ^ (7 * i)) k ht' (by omega) hacc (by omega) (by omega)
          rw [w64 (i := (i : Int) + 1) (by omega) (by omega), show ((i : Int) + 1) = ((i + 1 : Nat) : Int) from by omega, hih]
          congr 1
          simp only [takeU]
          rw [if_neg h1, show 64 - 7 * (i + 1) = 64 - 7 * i - 7 from by omega]
          cases hv : takeU (64 - 7 * i - 7) t with
          | none => rfl
          | some p =>
            obtain ⟨v, r⟩ := p
            simp only
            by_cases h0 : v = 0
            · rw [if_pos ⟨by omega, h0⟩, if_pos h0]
            · rw [if_neg (fun h => h0 h.2), if_neg h0]
              simp only
              rw [if_neg (by omega)]
              congr 1
              congr 1
              rw [show 7 * (i + 1) = 7 + 7 * i from by omega, Nat.pow_add, show c.toNat % 128 = c.toNat - 128 from by omega, Nat.add_mul, Nat.add_assoc]
              congr 2
              rw [← Nat.mul_assoc, Nat.mul_comm v (2 ^ 7)]
    by_cases h9 : (i : Int) = 9
    · rw [if_pos h9]
      refine hflag _ ?_
      rw [decide_eq_decide]
      omega
    · rw [if_neg h9]
      refine hflag _ ?_
      rw [decide_eq_false (by omega)]
theorem takeU_f {k : Nat} (s : ByteArray) (hs : s.size ≤ 4611686018427387904) (hk : 30 ≤ k) : wire_TakeUint.f k s = some (resU s) := by
  unfold wire_TakeUint.f
  have := take_l0 s hs s.data.toList 0 0 k rfl (by omega) (by decide) (by omega) (by omega)
  rw [show ((0 : Nat) : Int) = 0 from rfl] at this
  rw [this]
  congr 1
  unfold resU
  rw [show 64 - 7 * 0 = 64 from rfl]
  cases hv : takeU 64 s.data.toList with
  | none => rfl
  | some p =>
    obtain ⟨n, r⟩ := p
    simp

/-! ### the document's -/
/-- If a number stands at the head, it is found. -/
theorem rtake_found (s : ByteArray) (hs : s.size ≤ 4611686018427387904) (n : Nat) (r : List UInt8) (hn : n < 18446744073709551616) (e : s.data.toList = encU n ++ r) (v : Nat) :
    ∀ (i acc K k : Nat), s.data.toList.drop i = encU v ++ r → i + (encU v).length = (encU n).length → Aside0 (K = 2 ^ (7 * i)) → acc < K → acc + K * v = n → 2 * (encU v).length + 14 ≤ k →
    countersignref01_TakeUint.l0 k s (acc : Int) (K : Int) (i : Int) = some ((n : Int), ba r, true) := by
  have hn10 := encU_le10 hn
  induction v using Nat.strongRecOn with
  | ind v ih =>
    intro i acc K k ht hi HK ha hv hk
    have hp := encU_pos v
    obtain ⟨k, rfl⟩ : ∃ m, k = m + 2 := ⟨k - 2, by omega⟩
    have hi9 : i ≤ 9 := by omega
    have hpow : K ≤ 9223372036854775808 := by
      have := HK.out
      subst this
      have h63 : 2 ^ (7 * i) ≤ 2 ^ 63 := Nat.pow_le_pow_right (by decide) (by omega)
      omega
    have hpos : 0 < K := by omega
    by_cases hv128 : v < 128
    · rw [encU_small hv128] at ht
      obtain ⟨hb, hlt, ht'⟩ := bt_drop (show s.data.toList.drop i = UInt8.ofNat v :: r from ht)
      rw [u8_toNat (by omega)] at hb
      have hlen : i + 1 = (encU n).length := by rw [encU_small hv128] at hi; simpa using hi
      simp only [countersignref01_TakeUint.l0]
      rw [if_pos (by omega), decide_eq_true (by omega : (i : Int) < 10)]
      simp only [countersignref01_TakeUint.j1]
      rw [if_pos trivial, if_pos (by omega), if_pos (by omega), hb, wu64 (i := (v : Int)) (by omega) (by omega), if_pos (by omega)]
      rw [tmod128 v, show v % 128 = v from by omega]
      rw [← Int.natCast_mul]
      generalize K * v = X at hv
      rw [wu64 (i := (X : Int)) (by omega) (by omega), show (acc : Int) + (X : Int) = (n : Int) from by omega, wu64 (i := (n : Int)) (by omega) (by omega)]
      rw [rputU_f hn (by omega)]
      rw [Option.bind_some]
      rw [w64 (i := (i : Int) + 1) (by omega) (by omega), if_pos (by omega), if_pos (by omega), show ((i : Int) + 1).toNat = i + 1 from by omega, ext_head, ext_tail, ht']
      rw [ba_toList, ba_toList, if_pos]
      rw [hlen, e, List.take_left]
    · rw [encU_big hv128] at ht hi hk
      simp only [List.length_cons] at hi hk
      have hp2 := encU_pos (v / 128)
      obtain ⟨hb, hlt, ht'⟩ := bt_drop (show s.data.toList.drop i = UInt8.ofNat (v % 128 + 128) :: (encU (v / 128) ++ r) from ht)
      rw [u8_toNat (by omega)] at hb
      simp only [countersignref01_TakeUint.l0]
      rw [if_pos (by omega), decide_eq_true (by omega : (i : Int) < 10)]
      simp only [countersignref01_TakeUint.j1]
      rw [if_pos trivial, if_pos (by omega), if_pos (by omega), hb, wu64 (i := ((v % 128 + 128 : Nat) : Int)) (by omega) (by omega), if_neg (by omega)]
      rw [tmod128 (v % 128 + 128), show (v % 128 + 128) % 128 = v % 128 from by omega]
      have hpow8 : K ≤ 72057594037927936 := by
        have := HK.out
        subst this
        have h56 : 2 ^ (7 * i) ≤ 2 ^ 56 := Nat.pow_le_pow_right (by decide) (by omega)
        omega
      have hle : K * (v % 128) ≤ K * 127 := Nat.mul_le_mul_left _ (by omega)
      have hsum : acc + K * (v % 128) + K * 128 * (v / 128) = n := by
        rw [← hv, Nat.add_assoc, Nat.mul_assoc, ← Nat.mul_add]
        congr 2
        omega
      rw [← Int.natCast_mul]
      generalize K * (v % 128) = X at hle hsum
      have HK2 : Aside0 (K * 128 = 2 ^ (7 * (i + 1))) := ⟨by rw [HK.out, show 7 * (i + 1) = 7 * i + 7 from by omega, Nat.pow_add]⟩
      clear HK hv
      rw [wu64 (i := (X : Int)) (by omega) (by omega), show (acc : Int) + (X : Int) = ((acc + X : Nat) : Int) from by omega, wu64 (i := ((acc + X : Nat) : Int)) (by omega) (by omega)]
      rw [show (K : Int) * 128 = ((K * 128 : Nat) : Int) from by omega, wu64 (i := ((K * 128 : Nat) : Int)) (by omega) (by omega)]
      rw [w64 (i := (i : Int) + 1) (by omega) (by omega), show ((i : Int) + 1) = ((i + 1 : Nat) : Int) from by omega]
      exact ih (v / 128) (by omega) (i + 1) (acc + X) (K * 128) k ht' (by omega) HK2 (by omega) hsum (by omega)
/-- What is told stands there. -/
theorem rtake_sound (s : ByteArray) (hs : s.size ≤ 4611686018427387904) (d : Nat) : ∀ (i k : Nat) (acc m : Int), s.size - i = d → i ≤ s.size → 2 * d + 14 ≤ k → 
    ∃ p, countersignref01_TakeUint.l0 k s acc m (i : Int) = some p ∧ (p = no ∨ ∃ (n : Nat) (r : List UInt8), p = ((n : Int), ba r, true) ∧ n < 18446744073709551616 ∧ s.data.toList = encU n ++ r) := by
  induction d with
  | zero =>
    intro i k acc m hd hi hk
    obtain ⟨k, rfl⟩ : ∃ m, k = m + 2 := ⟨k - 2, by omega⟩
    refine ⟨no, ?_, .inl rfl⟩
    simp only [countersignref01_TakeUint.l0, countersignref01_TakeUint.j1]
    rw [if_neg (by omega), if_neg (by simp)]
    rfl
  | succ d ih =>
    intro i k acc m hd hi hk
    obtain ⟨k, rfl⟩ : ∃ m, k = m + 2 := ⟨k - 2, by omega⟩
    simp only [countersignref01_TakeUint.l0, countersignref01_TakeUint.j1]
    rw [if_pos (by omega)]
    by_cases h10 : (i : Int) < 10
    case neg =>
      rw [decide_eq_false h10, if_neg (by simp)]
      exact ⟨no, rfl, .inl rfl⟩
    rw [decide_eq_true h10, if_pos rfl, if_pos (by omega), if_pos (by omega), w64 (i := (i : Int) + 1) (by omega) (by omega)]
    by_cases hc : IntKind.u64.wrap (bt s (i : Int)) < 128
    · rw [if_pos hc]
      generalize hN : IntKind.u64.wrap (acc + IntKind.u64.wrap (m * (Int.tmod (IntKind.u64.wrap (bt s (i : Int))) 128))) = N
      have hN0 : 0 ≤ N ∧ N < 18446744073709551616 := by rw [← hN, IntKind.wrap_u64]; omega
      obtain ⟨n, rfl⟩ := Int.eq_ofNat_of_zero_le hN0.1
      rw [rputU_f (by omega) (by omega)]
      rw [Option.bind_some]
      rw [if_pos (by omega), if_pos (by omega), show ((i : Int) + 1).toNat = i + 1 from by omega, ext_head, ext_tail, ba_toList, ba_toList]
      by_cases he : encU n = s.data.toList.take (i + 1)
      · rw [if_pos he]
        exact ⟨_, rfl, .inr ⟨n, s.data.toList.drop (i + 1), rfl, by omega, by rw [he, List.take_append_drop]⟩⟩
      · rw [if_neg he]
        exact ⟨_, rfl, .inl rfl⟩
    · rw [if_neg hc, show ((i : Int) + 1) = ((i + 1 : Nat) : Int) from by omega]
      exact ih (i + 1) k _ _ (by omega) (by omega) (by omega)
theorem LeO_le {α : Type} {g : Nat → Option α} (h : ∀ k, LeO (g k) (g (k + 1))) {k n : Nat} {r : α} (hk : k ≤ n) (e : g k = some r) : g n = some r := at_rounds h hk e
theorem rtakeU_f {k : Nat} (s : ByteArray) (hs : s.size ≤ 4611686018427387904) (hk : 2 * s.size + 40 ≤ k) : countersignref01_TakeUint.f k s = some (resU s) := by
  unfold countersignref01_TakeUint.f
  obtain ⟨p, h1, h2⟩ := rtake_sound s hs s.size 0 k 0 1 (by omega) (by omega) (by omega)
  rw [show ((0 : Nat) : Int) = 0 from rfl] at h1
  rw [h1]
  congr 1
  cases hv : takeU 64 s.data.toList with
  | some q =>
    obtain ⟨n, r⟩ := q
    obtain ⟨e, hn⟩ := (takeU_iff _ _ _).1 hv
    have h10 := encU_le10 hn
    have := rtake_found s hs n r hn e n 0 0 1 k (by simpa using e) (by omega) ⟨rfl⟩ (by decide) (by omega) (by omega)
    rw [show ((0 : Nat) : Int) = 0 from rfl, show ((1 : Nat) : Int) = 1 from rfl, h1] at this
    rw [resU_some hv]
    exact Option.some.inj this
  | none =>
    rw [resU_none hv]
    rcases h2 with h2 | ⟨n, r, _, hn, e⟩
    · exact h2
    · rw [(takeU_iff _ _ _).2 ⟨e, hn⟩] at hv
      simp at hv
end Go.Proofs.Ytkjlbmdcaehgiaa.WP
