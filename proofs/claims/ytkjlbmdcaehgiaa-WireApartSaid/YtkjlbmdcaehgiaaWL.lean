/- What the printed functions of packages wire and countersignref01 take of texts and lists, in the words of WM. -/
import Derived.Test.YtkjlbmdcaehgiaaWT
set_option linter.unusedVariables false
set_option linter.unusedSimpArgs false
namespace Go.Proofs.Ytkjlbmdcaehgiaa.WP
open Go.RowKit Go.Proofs.YtkjlbmdcaehgiaaW.PrintWords Go.Proofs.YtkjlbmdcaehgiaaW.PrintLast Go.Proofs.YtkjlbmdcaehgiaaW.PrintMore Go.Proofs.Ytkjlbmdcaehgiaa.PAll Go.Proofs.Ytkjlbmdcaehgiaa.WM

theorem ite_p {P : Prop} [Decidable P] (h : P) {α : Type} {a b r : α} (e : a = r) : (if P then a else b) = r := by rw [if_pos h]; exact e
theorem ite_n {P : Prop} [Decidable P] (h : ¬ P) {α : Type} {a b r : α} (e : b = r) : (if P then a else b) = r := by rw [if_neg h]; exact e
/-- most is an int. -/
def I64 (m : Int) : Prop := -9223372036854775808 ≤ m ∧ m ≤ 9223372036854775807

def noT : ByteArray × ByteArray × Bool := ((⟨#[]⟩ : ByteArray), (⟨#[]⟩ : ByteArray), false)
def resT (s : ByteArray) (most : Int) : ByteArray × ByteArray × Bool := match takeT most s.data.toList with
  | some (t, r) => (ba t, ba r, true)
  | none => noT
theorem resT_some {s : ByteArray} {m : Int} {n r : List UInt8} (h : takeT m s.data.toList = some (n, r)) : resT s m = (ba n, ba r, true) := by unfold resT; rw [h]
theorem resT_none {s : ByteArray} {m : Int} (h : takeT m s.data.toList = none) : resT s m = noT := by unfold resT; rw [h]
theorem takeT_of {most : Int} {l : List UInt8} {n : Nat} {r : List UInt8} (h : takeU 64 l = some (n, r)) : takeT most l = if 0 ≤ most ∧ (n : Int) ≤ most ∧ n ≤ r.length then some (r.take n, r.drop n) else none := by unfold WM.takeT; rw [h]
theorem takeT_no {most : Int} {l : List UInt8} (h : takeU 64 l = none) : takeT most l = none := by unfold WM.takeT; rw [h]

theorem takeT_f {k : Nat} (s : ByteArray) (m : Int) (hm : I64 m) (hs : s.size ≤ 4611686018427387904) (hk : 30 ≤ k) : wire_TakeText.f k s m = some (resT s m) := by
  unfold wire_TakeText.f
  rw [takeU_f s hs hk, Option.bind_some]
  cases hv : takeU 64 s.data.toList with
  | none =>
    rw [resU_none hv, resT_none (takeT_no hv)]
    exact ite_n (by simp [no]) rfl
  | some p =>
    obtain ⟨n, r⟩ := p
    have hr := takeU_short hv
    rw [dl] at hr
    have hn := ((takeU_iff _ _ _).1 hv).2
    have hT := takeT_of (most := m) hv
    rw [resU_some hv]
    refine ite_p rfl ?_
    by_cases h0 : m < 0
    · rw [if_neg (by omega)] at hT
      rw [resT_none hT]
      exact ite_p h0 rfl
    refine ite_n h0 ?_
    by_cases h1 : (n : Int) > m
    · rw [if_neg (by omega)] at hT
      rw [resT_none hT]
      exact ite_p (by rw [wu64 (by omega) (by have := hm.2; omega)]; exact h1) rfl
    refine ite_n (by rw [wu64 (by omega) (by have := hm.2; omega)]; exact h1) ?_
    by_cases h2 : n > r.length
    · rw [if_neg (by omega)] at hT
      rw [resT_none hT]
      exact ite_p (by rw [ba_size, wu64 (by omega) (by omega)]; omega) rfl
    refine ite_n (by rw [ba_size, wu64 (by omega) (by omega)]; omega) (ite_p (Int.natCast_nonneg n) (ite_p (by rw [ba_size]; exact Int.ofNat_le.2 (by omega)) ?_))
    rw [if_pos (by omega)] at hT
    rw [resT_some hT, Int.toNat_natCast, ba_drop, ba_take]
theorem rtakeT_f {k : Nat} (s : ByteArray) (m : Int) (hm : I64 m) (hs : s.size ≤ 4611686018427387904) (hk : 2 * s.size + 40 ≤ k) : countersignref01_TakeText.f k s m = some (resT s m) := by
  unfold countersignref01_TakeText.f
  rw [rtakeU_f s hs hk, Option.bind_some]
  cases hv : takeU 64 s.data.toList with
  | none =>
    rw [resU_none hv, resT_none (takeT_no hv)]
    exact ite_n (by simp [no]) rfl
  | some p =>
    obtain ⟨n, r⟩ := p
    have hr := takeU_short hv
    rw [dl] at hr
    have hn := ((takeU_iff _ _ _).1 hv).2
    have hT := takeT_of (most := m) hv
    rw [resU_some hv]
    refine ite_p rfl ?_
    by_cases h0 : m < 0
    · rw [if_neg (by omega)] at hT
      rw [resT_none hT]
      exact ite_p h0 rfl
    refine ite_n h0 ?_
    by_cases h1 : (n : Int) > m
    · rw [if_neg (by omega)] at hT
      rw [resT_none hT]
      exact ite_p (by rw [wu64 (by omega) (by have := hm.2; omega)]; exact h1) rfl
    refine ite_n (by rw [wu64 (by omega) (by have := hm.2; omega)]; exact h1) ?_
    by_cases h2 : n > r.length
    · rw [if_neg (by omega)] at hT
      rw [resT_none hT]
      exact ite_p (by rw [ba_size, wu64 (by omega) (by omega)]; omega) rfl
    refine ite_n (by rw [ba_size, wu64 (by omega) (by omega)]; omega) ?_
    have hw : wrap64 (n : Int) = (n : Int) := w64 (by omega) (by have := hm.2; omega)
    rw [hw]
    refine ite_p (Int.natCast_nonneg n) (ite_p (by rw [ba_size]; exact Int.ofNat_le.2 (by omega)) ?_)
    rw [if_pos (by omega)] at hT
    rw [resT_some hT, Int.toNat_natCast, ba_drop, ba_take]

/-! ### lists of numbers -/
abbrev ints (l : List Nat) : List Int := l.map fun n : Nat => (n : Int)
def noN : List Int × ByteArray × Bool := (([] : List Int), (⟨#[]⟩ : ByteArray), false)
def resN (s : ByteArray) (most : Int) : List Int × ByteArray × Bool := match takeN most s.data.toList with
  | some (l, r) => (ints l, ba r, true)
  | none => noN
theorem takeN_l0 (d : Nat) : ∀ (n i k : Nat) (s : ByteArray) (xs : List Int), n - i = d → i ≤ n → d + 32 ≤ k → s.size ≤ 1099511627776 → xs.length + s.size ≤ 1099511627776 → n ≤ 9223372036854775807 →
    wire_TakeNums.l0 k s xs (n : Int) (i : Int) = some (match takeNs d s.data.toList with
      | some (l, r) => (xs ++ ints l, ba r, true)
      | none => noN) := by
  induction d with
  | zero =>
    intro n i k s xs hd hi hk hs hx hn
    obtain ⟨k, rfl⟩ : ∃ m, k = m + 1 := ⟨k - 1, by omega⟩
    simp only [wire_TakeNums.l0]
    rw [if_neg (by omega)]
    simp [takeNs, ba_of]
  | succ d ih =>
    intro n i k s xs hd hi hk hs hx hn
    obtain ⟨k, rfl⟩ : ∃ m, k = m + 1 := ⟨k - 1, by omega⟩
    simp only [wire_TakeNums.l0]
    rw [if_pos (by omega), takeU_f s (by omega) (by omega), Option.bind_some]
    cases hv : takeU 64 s.data.toList with
    | none =>
      rw [resU_none hv]
      simp only [takeNs, hv]
      exact ite_n (by simp [no]) rfl
    | some p =>
      obtain ⟨m, r⟩ := p
      have hr := takeU_short hv
      rw [dl] at hr
      rw [resU_some hv]
      simp only [takeNs, hv]
      refine ite_p trivial (ite_p (by omega) ?_)
      rw [w64 (by omega) (by omega), show ((i : Int) + 1) = ((i + 1 : Nat) : Int) from by omega, ih n (i + 1) k (ba r) _ (by omega) (by omega) (by omega) (by rw [ba_size]; omega) (by rw [ba_size]; simp; omega) hn, ba_data]
      congr 1
      cases takeNs d r with
      | none => rfl
      | some q => simp
theorem many_f {k : Nat} (s : ByteArray) (m : Int) (hm : I64 m) (hs : s.size ≤ 4611686018427387904) (hk : 30 ≤ k) : wire_many.f k s m = some (match takeU 64 s.data.toList with
    | some (n, r) => if 0 ≤ m ∧ (n : Int) ≤ m ∧ n ≤ r.length then ((n : Int), ba r, true) else no
    | none => no) := by
  unfold wire_many.f
  rw [takeU_f s hs hk, Option.bind_some]
  cases hv : takeU 64 s.data.toList with
  | none =>
    rw [resU_none hv]
    exact ite_n (by simp [no]) rfl
  | some p =>
    obtain ⟨n, r⟩ := p
    have hr := takeU_short hv
    rw [dl] at hr
    have hn := ((takeU_iff _ _ _).1 hv).2
    rw [resU_some hv]
    refine ite_p rfl ?_
    simp only
    by_cases h0 : m < 0
    · rw [if_neg (show ¬ (0 ≤ m ∧ (n : Int) ≤ m ∧ n ≤ r.length) by omega)]
      exact ite_p h0 rfl
    refine ite_n h0 ?_
    by_cases h1 : (n : Int) > m
    · rw [if_neg (show ¬ (0 ≤ m ∧ (n : Int) ≤ m ∧ n ≤ r.length) by omega)]
      exact ite_p (by rw [wu64 (by omega) (by have := hm.2; omega)]; exact h1) rfl
    refine ite_n (by rw [wu64 (by omega) (by have := hm.2; omega)]; exact h1) ?_
    by_cases h2 : n > r.length
    · rw [if_neg (show ¬ (0 ≤ m ∧ (n : Int) ≤ m ∧ n ≤ r.length) by omega)]
      exact ite_p (by rw [ba_size, wu64 (by omega) (by omega)]; omega) rfl
    rw [if_pos (show (0 ≤ m ∧ (n : Int) ≤ m ∧ n ≤ r.length) by omega)]
    refine ite_n (by rw [ba_size, wu64 (by omega) (by omega)]; omega) ?_
    rw [w64 (by omega) (by have := hm.2; omega)]
theorem takeN_f {k : Nat} (s : ByteArray) (m : Int) (hm : I64 m) (hs : s.size ≤ 549755813888) (hk : s.size + 40 ≤ k) : wire_TakeNums.f k s m = some (resN s m) := by
  unfold wire_TakeNums.f resN
  rw [many_f s m hm (by omega) (by omega), Option.bind_some]
  unfold takeN
  cases hv : takeU 64 s.data.toList with
  | none => exact ite_n (by simp [no]) rfl
  | some p =>
    obtain ⟨n, r⟩ := p
    have hr := takeU_short hv
    rw [dl] at hr
    simp only
    by_cases h1 : 0 ≤ m ∧ (n : Int) ≤ m
    · rw [if_pos h1]
      by_cases h2 : n ≤ r.length
      · rw [if_pos (show 0 ≤ m ∧ (n : Int) ≤ m ∧ n ≤ r.length from ⟨h1.1, h1.2, h2⟩)]
        refine ite_p rfl ?_
        have := takeN_l0 n n 0 k (ba r) [] (by omega) (by omega) (by omega) (by rw [ba_size]; omega) (by rw [ba_size]; simp; omega) (by have := hm.2; omega)
        rw [show ((0 : Nat) : Int) = 0 from rfl, ba_data] at this
        rw [this]
        congr 1
      · rw [if_neg (show ¬ (0 ≤ m ∧ (n : Int) ≤ m ∧ n ≤ r.length) by omega)]
        refine ite_n (by simp [no]) ?_
        cases hw : takeNs n r with
        | none => rfl
        | some q =>
          have := takeNs_len hw
          omega
    · rw [if_neg h1, if_neg (show ¬ (0 ≤ m ∧ (n : Int) ≤ m ∧ n ≤ r.length) by omega)]
      exact ite_n (by simp [no]) rfl
theorem rtakeN_l0 (d : Nat) : ∀ (n i k : Nat) (s : ByteArray) (xs : List Int), n - i = d → i ≤ n → 3 * s.size + 60 ≤ k → s.size ≤ 1099511627776 → xs.length + s.size ≤ 1099511627776 → n < 18446744073709551616 →
    countersignref01_TakeNums.l0 k (n : Int) s xs (i : Int) = some (match takeNs d s.data.toList with
      | some (l, r) => (xs ++ ints l, ba r, true)
      | none => noN) := by
  induction d with
  | zero =>
    intro n i k s xs hd hi hk hs hx hn
    obtain ⟨k, rfl⟩ : ∃ m, k = m + 1 := ⟨k - 1, by omega⟩
    simp only [countersignref01_TakeNums.l0]
    rw [if_neg (by omega)]
    simp [takeNs, ba_of]
  | succ d ih =>
    intro n i k s xs hd hi hk hs hx hn
    obtain ⟨k, rfl⟩ : ∃ m, k = m + 1 := ⟨k - 1, by omega⟩
    simp only [countersignref01_TakeNums.l0]
    rw [if_pos (by omega), rtakeU_f s (by omega) (by omega), Option.bind_some]
    cases hv : takeU 64 s.data.toList with
    | none =>
      rw [resU_none hv]
      simp only [takeNs, hv]
      exact ite_n (by simp [no]) rfl
    | some p =>
      obtain ⟨m, r⟩ := p
      have hr := takeU_short hv
      rw [dl] at hr
      rw [resU_some hv]
      simp only [takeNs, hv]
      refine ite_p trivial (ite_p (by omega) ?_)
      rw [wu64 (i := (i : Int) + 1) (by omega) (by omega), show ((i : Int) + 1) = ((i + 1 : Nat) : Int) from by omega, ih n (i + 1) k (ba r) _ (by omega) (by omega) (by rw [ba_size]; omega) (by rw [ba_size]; omega) (by rw [ba_size]; simp; omega) hn, ba_data]
      congr 1
      cases takeNs d r with
      | none => rfl
      | some q => simp
theorem rtakeN_f {k : Nat} (s : ByteArray) (m : Int) (hm : I64 m) (hs : s.size ≤ 549755813888) (hk : 3 * s.size + 70 ≤ k) : countersignref01_TakeNums.f k s m = some (resN s m) := by
  unfold countersignref01_TakeNums.f resN
  rw [rtakeU_f s (by omega) (by omega), Option.bind_some]
  unfold takeN
  obtain ⟨k, rfl⟩ : ∃ m, k = m + 1 := ⟨k - 1, by omega⟩
  cases hv : takeU 64 s.data.toList with
  | none =>
    rw [resU_none hv]
    refine ite_n (by simp [no]) ?_
    simp only [countersignref01_TakeNums.j0]
    exact ite_p trivial rfl
  | some p =>
    obtain ⟨n, r⟩ := p
    have hr := takeU_short hv
    rw [dl] at hr
    have hn := ((takeU_iff _ _ _).1 hv).2
    rw [resU_some hv]
    refine ite_p rfl ?_
    simp only [countersignref01_TakeNums.j0]
    by_cases h0 : m < 0
    · rw [if_neg (show ¬ (0 ≤ m ∧ (n : Int) ≤ m) by omega)]
      exact ite_p h0 (ite_p trivial rfl)
    refine ite_n h0 ?_
    rw [wu64 (i := m) (by omega) (by have := hm.2; omega)]
    by_cases h1 : (n : Int) > m
    · rw [if_neg (show ¬ (0 ≤ m ∧ (n : Int) ≤ m) by omega)]
      exact ite_p (decide_eq_true h1) rfl
    · rw [if_pos (show 0 ≤ m ∧ (n : Int) ≤ m by omega)]
      refine ite_n (by rw [decide_eq_false h1]; simp) ?_
      have := rtakeN_l0 n n 0 k (ba r) [] (by omega) (by omega) (by rw [ba_size]; omega) (by rw [ba_size]; omega) (by rw [ba_size]; simp; omega) hn
      rw [show ((0 : Nat) : Int) = 0 from rfl, ba_data] at this
      rw [this]
      congr 1

/-! ### lists of texts -/
abbrev bas (l : List (List UInt8)) : List ByteArray := l.map ba
def noL : List ByteArray × ByteArray × Bool := (([] : List ByteArray), (⟨#[]⟩ : ByteArray), false)
def resL (s : ByteArray) (most : Int) : List ByteArray × ByteArray × Bool := match takeL most s.data.toList with
  | some (l, r) => (bas l, ba r, true)
  | none => noL
theorem i64_size {s : ByteArray} (h : s.size ≤ 1099511627776) : I64 (s.size : Int) := ⟨by omega, by omega⟩
theorem takeL_l0 (d : Nat) : ∀ (n i k : Nat) (s : ByteArray) (xs : List ByteArray), n - i = d → i ≤ n → d + 32 ≤ k → s.size ≤ 1099511627776 → xs.length + s.size ≤ 1099511627776 → n ≤ 9223372036854775807 →
    wire_TakeList.l0 k s xs (n : Int) (i : Int) = some (match takeTs d s.data.toList with
      | some (l, r) => (xs ++ bas l, ba r, true)
      | none => noL) := by
  induction d with
  | zero =>
    intro n i k s xs hd hi hk hs hx hn
    obtain ⟨k, rfl⟩ : ∃ m, k = m + 1 := ⟨k - 1, by omega⟩
    simp only [wire_TakeList.l0]
    rw [if_neg (by omega)]
    simp [takeTs, ba_of]
  | succ d ih =>
    intro n i k s xs hd hi hk hs hx hn
    obtain ⟨k, rfl⟩ : ∃ m, k = m + 1 := ⟨k - 1, by omega⟩
    simp only [wire_TakeList.l0]
    rw [if_pos (by omega), takeT_f s _ (i64_size (by omega)) (by omega) (by omega), Option.bind_some]
    cases hv : takeT (s.size : Int) s.data.toList with
    | none =>
      rw [resT_none hv]
      simp only [takeTs, dl, hv]
      exact ite_n (by simp [noT]) rfl
    | some p =>
      obtain ⟨m, r⟩ := p
      have hr := takeT_short hv
      rw [dl] at hr
      rw [resT_some hv]
      simp only [takeTs, dl, hv]
      refine ite_p trivial (ite_p (by omega) ?_)
      rw [w64 (by omega) (by omega), show ((i : Int) + 1) = ((i + 1 : Nat) : Int) from by omega, ih n (i + 1) k (ba r) _ (by omega) (by omega) (by omega) (by rw [ba_size]; omega) (by rw [ba_size]; simp; omega) hn, ba_data]
      congr 1
      cases takeTs d r with
      | none => rfl
      | some q => simp
theorem takeL_f {k : Nat} (s : ByteArray) (m : Int) (hm : I64 m) (hs : s.size ≤ 549755813888) (hk : s.size + 40 ≤ k) : wire_TakeList.f k s m = some (resL s m) := by
  unfold wire_TakeList.f resL
  rw [many_f s m hm (by omega) (by omega), Option.bind_some]
  unfold takeL
  cases hv : takeU 64 s.data.toList with
  | none => exact ite_n (by simp [no]) rfl
  | some p =>
    obtain ⟨n, r⟩ := p
    have hr := takeU_short hv
    rw [dl] at hr
    simp only
    by_cases h1 : 0 ≤ m ∧ (n : Int) ≤ m
    · rw [if_pos h1]
      by_cases h2 : n ≤ r.length
      · rw [if_pos (show 0 ≤ m ∧ (n : Int) ≤ m ∧ n ≤ r.length from ⟨h1.1, h1.2, h2⟩)]
        refine ite_p rfl ?_
        have := takeL_l0 n n 0 k (ba r) [] (by omega) (by omega) (by omega) (by rw [ba_size]; omega) (by rw [ba_size]; simp; omega) (by have := hm.2; omega)
        rw [show ((0 : Nat) : Int) = 0 from rfl, ba_data] at this
        rw [this]
        congr 1
      · rw [if_neg (show ¬ (0 ≤ m ∧ (n : Int) ≤ m ∧ n ≤ r.length) by omega)]
        refine ite_n (by simp [no]) ?_
        cases hw : takeTs n r with
        | none => rfl
        | some q =>
          have := takeTs_len hw
          omega
    · rw [if_neg h1, if_neg (show ¬ (0 ≤ m ∧ (n : Int) ≤ m ∧ n ≤ r.length) by omega)]
      exact ite_n (by simp [no]) rfl
theorem rtakeL_l0 (d : Nat) : ∀ (n i k : Nat) (s : ByteArray) (xs : List ByteArray), n - i = d → i ≤ n → 3 * s.size + 60 ≤ k → s.size ≤ 1099511627776 → xs.length + s.size ≤ 1099511627776 → n < 18446744073709551616 →
    countersignref01_TakeList.l0 k (n : Int) s xs (i : Int) = some (match takeTs d s.data.toList with
      | some (l, r) => (xs ++ bas l, ba r, true)
      | none => noL) := by
  induction d with
  | zero =>
    intro n i k s xs hd hi hk hs hx hn
    obtain ⟨k, rfl⟩ : ∃ m, k = m + 1 := ⟨k - 1, by omega⟩
    simp only [countersignref01_TakeList.l0]
    rw [if_neg (by omega)]
    simp [takeTs, ba_of]
  | succ d ih =>
    intro n i k s xs hd hi hk hs hx hn
    obtain ⟨k, rfl⟩ : ∃ m, k = m + 1 := ⟨k - 1, by omega⟩
    simp only [countersignref01_TakeList.l0]
    rw [if_pos (by omega), rtakeT_f s _ (i64_size (by omega)) (by omega) (by omega), Option.bind_some]
    cases hv : takeT (s.size : Int) s.data.toList with
    | none =>
      rw [resT_none hv]
      simp only [takeTs, dl, hv]
      exact ite_n (by simp [noT]) rfl
    | some p =>
      obtain ⟨m, r⟩ := p
      have hr := takeT_short hv
      rw [dl] at hr
      rw [resT_some hv]
      simp only [takeTs, dl, hv]
      refine ite_p trivial (ite_p (by omega) ?_)
      rw [wu64 (i := (i : Int) + 1) (by omega) (by omega), show ((i : Int) + 1) = ((i + 1 : Nat) : Int) from by omega, ih n (i + 1) k (ba r) _ (by omega) (by omega) (by rw [ba_size]; omega) (by rw [ba_size]; omega) (by rw [ba_size]; simp; omega) hn, ba_data]
      congr 1
      cases takeTs d r with
      | none => rfl
      | some q => simp
theorem rtakeL_f {k : Nat} (s : ByteArray) (m : Int) (hm : I64 m) (hs : s.size ≤ 549755813888) (hk : 3 * s.size + 70 ≤ k) : countersignref01_TakeList.f k s m = some (resL s m) := by
  unfold countersignref01_TakeList.f resL
  rw [rtakeU_f s (by omega) (by omega), Option.bind_some]
  unfold takeL
  obtain ⟨k, rfl⟩ : ∃ m, k = m + 1 := ⟨k - 1, by omega⟩
  cases hv : takeU 64 s.data.toList with
  | none =>
    rw [resU_none hv]
    refine ite_n (by simp [no]) ?_
    simp only [countersignref01_TakeList.j0]
    exact ite_p trivial rfl
  | some p =>
    obtain ⟨n, r⟩ := p
    have hr := takeU_short hv
    rw [dl] at hr
    have hn := ((takeU_iff _ _ _).1 hv).2
    rw [resU_some hv]
    refine ite_p rfl ?_
    simp only [countersignref01_TakeList.j0]
    by_cases h0 : m < 0
    · rw [if_neg (show ¬ (0 ≤ m ∧ (n : Int) ≤ m) by omega)]
      exact ite_p h0 (ite_p trivial rfl)
    refine ite_n h0 ?_
    rw [wu64 (i := m) (by omega) (by have := hm.2; omega)]
    by_cases h1 : (n : Int) > m
    · rw [if_neg (show ¬ (0 ≤ m ∧ (n : Int) ≤ m) by omega)]
      exact ite_p (decide_eq_true h1) rfl
    · rw [if_pos (show 0 ≤ m ∧ (n : Int) ≤ m by omega)]
      refine ite_n (by rw [decide_eq_false h1]; simp) ?_
      have := rtakeL_l0 n n 0 k (ba r) [] (by omega) (by omega) (by rw [ba_size]; omega) (by rw [ba_size]; omega) (by rw [ba_size]; simp; omega) hn
      rw [show ((0 : Nat) : Int) = 0 from rfl, ba_data] at this
      rw [this]
      congr 1

/-! ### the same lists -/
theorem nums_l0 (a b : List Int) (he : a.length = b.length) (hl : a.length ≤ 9223372036854775806) (d : Nat) : ∀ (i k : Nat), a.length - i = d → i ≤ a.length → d < k →
    countersignref01_Nums.l0 k a b (i : Int) = some (decide (a.drop i = b.drop i)) := by
  induction d with
  | zero =>
    intro i k hd hi hk
    obtain ⟨k, rfl⟩ : ∃ m, k = m + 1 := ⟨k - 1, by omega⟩
    simp only [countersignref01_Nums.l0]
    rw [if_neg (by omega), List.drop_of_length_le (by omega), List.drop_of_length_le (by omega)]
    simp
  | succ d ih =>
    intro i k hd hi hk
    obtain ⟨k, rfl⟩ : ∃ m, k = m + 1 := ⟨k - 1, by omega⟩
    simp only [countersignref01_Nums.l0]
    rw [if_pos (by omega), if_pos (by omega), if_pos (by omega), rd_at (by omega), rd_at (by omega), List.drop_eq_getElem_cons (show i < a.length by omega), List.drop_eq_getElem_cons (show i < b.length by omega)]
    by_cases h : a[i] = b[i]
    · rw [if_pos h, w64 (by omega) (by omega), show ((i : Int) + 1) = ((i + 1 : Nat) : Int) from by omega, ih (i + 1) k (by omega) (by omega) (by omega), h]
      simp only [List.cons.injEq, true_and]
    · rw [if_neg h, decide_eq_false (fun e => h (List.cons.inj e).1)]
theorem nums_f {k : Nat} (a b : List Int) (hl : a.length ≤ 9223372036854775806) (hk : a.length < k) : countersignref01_Nums.f k a b = some (decide (a = b)) := by
  unfold countersignref01_Nums.f
  by_cases he : a.length = b.length
  · rw [if_pos (by omega)]
    have := nums_l0 a b he hl a.length 0 k (by omega) (by omega) hk
    rw [show ((0 : Nat) : Int) = 0 from rfl] at this
    rw [this, List.drop_zero, List.drop_zero]
  · rw [if_neg (by omega), decide_eq_false (fun h => he (by rw [h]))]
theorem toList_inj {a b : ByteArray} : a.toList = b.toList ↔ a = b := by
  constructor
  · intro h
    rw [ByteArray.toList_eq, ByteArray.toList_eq] at h
    rw [← ba_of a, ← ba_of b, h]
  · intro h; rw [h]
theorem texts_l0 (a b : List ByteArray) (he : a.length = b.length) (hl : a.length ≤ 9223372036854775806) (d : Nat) : ∀ (i k : Nat), a.length - i = d → i ≤ a.length → d < k →
    countersignref01_Texts.l0 k a b (i : Int) = some (decide (a.drop i = b.drop i)) := by
  induction d with
  | zero =>
    intro i k hd hi hk
    obtain ⟨k, rfl⟩ : ∃ m, k = m + 1 := ⟨k - 1, by omega⟩
    simp only [countersignref01_Texts.l0]
    rw [if_neg (by omega), List.drop_of_length_le (by omega), List.drop_of_length_le (by omega)]
    simp
  | succ d ih =>
    intro i k hd hi hk
    obtain ⟨k, rfl⟩ : ∃ m, k = m + 1 := ⟨k - 1, by omega⟩
    simp only [countersignref01_Texts.l0]
    rw [if_pos (by omega), if_pos (by omega), if_pos (by omega), rdOf_at (by omega), rdOf_at (by omega), List.drop_eq_getElem_cons (show i < a.length by omega), List.drop_eq_getElem_cons (show i < b.length by omega)]
    by_cases h : a[i] = b[i]
    · rw [if_pos (toList_inj.2 h), w64 (by omega) (by omega), show ((i : Int) + 1) = ((i + 1 : Nat) : Int) from by omega, ih (i + 1) k (by omega) (by omega) (by omega), h]
      simp only [List.cons.injEq, true_and]
    · rw [if_neg (fun e => h (toList_inj.1 e)), decide_eq_false (fun e => h (List.cons.inj e).1)]
theorem texts_f {k : Nat} (a b : List ByteArray) (hl : a.length ≤ 9223372036854775806) (hk : a.length < k) : countersignref01_Texts.f k a b = some (decide (a = b)) := by
  unfold countersignref01_Texts.f
  by_cases he : a.length = b.length
  · rw [if_pos (by omega)]
    have := texts_l0 a b he hl a.length 0 k (by omega) (by omega) hk
    rw [show ((0 : Nat) : Int) = 0 from rfl] at this
    rw [this, List.drop_zero, List.drop_zero]
  · rw [if_neg (by omega), decide_eq_false (fun h => he (by rw [h]))]
end Go.Proofs.Ytkjlbmdcaehgiaa.WP
