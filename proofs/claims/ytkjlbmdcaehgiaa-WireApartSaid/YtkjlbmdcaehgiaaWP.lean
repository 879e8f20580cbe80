/- What the printed functions of packages wire and countersignref01 compute, in the words of WM. -/
import Derived.Test.YtkjlbmdcaehgiaaPAllx
import Derived.Test.YtkjlbmdcaehgiaaWM
set_option linter.unusedVariables false
set_option linter.unusedSimpArgs false
namespace Go.Proofs.Ytkjlbmdcaehgiaa.WP
open Go.RowKit Go.Proofs.YtkjlbmdcaehgiaaW.PrintWords Go.Proofs.YtkjlbmdcaehgiaaW.PrintLast Go.Proofs.YtkjlbmdcaehgiaaW.PrintMore Go.Proofs.Ytkjlbmdcaehgiaa.PAll Go.Proofs.Ytkjlbmdcaehgiaa.WM

theorem w64 {i : Int} (h0 : -9223372036854775808 ≤ i) (h1 : i ≤ 9223372036854775807) : wrap64 i = i := by unfold wrap64; omega
theorem wu64 {i : Int} (h0 : 0 ≤ i) (h1 : i ≤ 18446744073709551615) : IntKind.u64.wrap i = i := IntWalk.u64_in i ⟨h0, h1⟩
abbrev nat (l : List UInt8) : List Int := l.map fun b => (b.toNat : Int)
theorem strOf (l : List UInt8) : strOfNums (nat l) = ba l := by
  unfold strOfNums ba nat
  congr 2
  rw [List.map_map]
  conv => rhs; rw [← List.map_id l]
  apply List.map_congr_left
  intro b _
  simp
theorem ek (P : Prop) [Decidable P] (h : P) {α : Type} (a b : α) : (if P then a else b) = a := if_pos h

theorem dl (s : ByteArray) : s.data.toList.length = s.size := rfl
/-! ### put -/
theorem put_l0 (n : Nat) : ∀ (k : Nat) (xs : List Int), (encU n).length ≤ k → xs.length + (encU n).length ≤ 140737488355328 → wire_put.l0 k xs (n : Int) = some (xs ++ nat (encU n)) := by
  induction n using Nat.strongRecOn with
  | ind n ih =>
    intro k xs hk hx
    have hp := encU_pos n
    obtain ⟨k, rfl⟩ : ∃ m, k = m + 1 := ⟨k - 1, by omega⟩
    by_cases hn : n < 128
    · rw [encU_small hn] at hx ⊢
      simp only [wire_put.l0]
      rw [if_neg (by omega), if_pos (by simp at hx; omega)]
      simp only [nat, List.map_cons, List.map_nil, u8_toNat (show n < 256 by omega)]
      rw [show ((n : Int) % 256) = n from by omega]
    · rw [encU_big hn] at hx hk ⊢
      simp only [List.length_cons] at hx hk
      simp only [wire_put.l0]
      rw [if_pos (by omega), if_pos (by omega), or128, show ((n : Int) / 128) = ((n / 128 : Nat) : Int) from by omega]
      rw [ih (n / 128) (by omega) k _ (by omega) (by simp; omega)]
      simp only [nat, List.map_cons, u8_toNat (show n % 128 + 128 < 256 by omega), List.append_assoc, List.cons_append, List.nil_append]
theorem putU_f {k n : Nat} (hn : n < 18446744073709551616) (hk : 10 ≤ k) : wire_PutUint.f k (n : Int) = some (ba (encU n)) := by
  have := encU_le10 hn
  unfold wire_PutUint.f wire_put.f
  rw [put_l0 n k [] (by omega) (by simp; omega)]
  simp only [Option.bind_some, List.nil_append, strOf]
theorem putT_f {k : Nat} (s : ByteArray) (hs : s.size ≤ 4611686018427387904) (hk : 10 ≤ k) : wire_PutText.f k s = some (ba (encT s.data.toList)) := by
  unfold wire_PutText.f
  have h10 := encU_le10 (n := s.size) (by omega)
  rw [wu64 (by omega) (by omega), putU_f (by omega) hk]
  simp only [Option.bind_some, ba_size]
  rw [if_pos (by omega)]
  unfold encT
  rw [← ba_append, ba_of, dl]
theorem rd_at {l : List Int} {i : Nat} (h : i < l.length) : rd l (i : Int) = l[i] := by unfold rd; rw [Int.toNat_natCast, List.getD_eq_getElem?_getD, List.getElem?_eq_getElem h, Option.getD_some]
theorem rdOf_at {l : List ByteArray} {i : Nat} (h : i < l.length) : rdOf ByteArray.empty l (i : Int) = l[i] := by unfold rdOf; rw [Int.toNat_natCast, List.getD_eq_getElem?_getD, List.getElem?_eq_getElem h, Option.getD_some]
/-- A list of numbers of 64 bits. -/
def W64 (l : List Int) : Prop := ∀ x ∈ l, 0 ≤ x ∧ x < 18446744073709551616
theorem putN_l0 (l : List Int) (hw : W64 l) (hl : l.length ≤ 1099511627776) (d : Nat) : ∀ (i k : Nat) (xs : List Int), l.length - i = d → i ≤ l.length → d + 12 ≤ k → xs.length ≤ 10 + 10 * i →
    wire_PutNums.l0 k xs l (l.length : Int) (i : Int) = some (strOfNums (xs ++ nat (((l.drop i).map fun x => encU x.toNat).flatten))) := by
  induction d with
  | zero =>
    intro i k xs hd hi hk hx
    obtain ⟨k, rfl⟩ : ∃ m, k = m + 1 := ⟨k - 1, by omega⟩
    simp only [wire_PutNums.l0]
    rw [if_neg (by omega), List.drop_of_length_le (by omega)]
    simp
  | succ d ih =>
    intro i k xs hd hi hk hx
    obtain ⟨k, rfl⟩ : ∃ m, k = m + 1 := ⟨k - 1, by omega⟩
    have hlt : i < l.length := by omega
    have hx0 := hw _ (List.getElem_mem hlt)
    simp only [wire_PutNums.l0]
    rw [if_pos (by omega), if_pos (by omega), if_pos (by omega), rd_at hlt]
    obtain ⟨m, hm⟩ : ∃ m : Nat, l[i] = (m : Int) := ⟨l[i].toNat, by omega⟩
    have h10 := encU_le10 (n := m) (by omega)
    unfold wire_put.f
    rw [hm, put_l0 m k xs (by omega) (by omega)]
    simp only [Option.bind_some]
    rw [w64 (by omega) (by omega), show ((i : Int) + 1) = ((i + 1 : Nat) : Int) from by omega, ih (i + 1) k _ (by omega) (by omega) (by omega) (by simp; omega)]
    rw [List.drop_eq_getElem_cons hlt, hm]
    simp
theorem putN_f {k : Nat} (l : List Int) (hw : W64 l) (hl : l.length ≤ 1099511627776) (hk : l.length + 22 ≤ k) : wire_PutNums.f k l = some (ba (encN (l.map Int.toNat))) := by
  unfold wire_PutNums.f wire_put.f
  have h10 := encU_le10 (n := l.length) (by omega)
  rw [wu64 (by omega) (by omega), put_l0 _ k [] (by omega) (by simp; omega)]
  simp only [Option.bind_some, List.nil_append]
  have := putN_l0 l hw hl l.length 0 k (nat (encU l.length)) (by omega) (by omega) (by omega) (by simp; omega)
  rw [show ((0 : Nat) : Int) = 0 from rfl] at this
  rw [this, ← List.map_append, strOf]
  unfold encN
  simp [List.map_map, Function.comp_def]
theorem putL_go {k : Nat} (hk : 10 ≤ k) : ∀ (l : List ByteArray) (acc : ByteArray), acc.size + ((l.map fun s => encT s.data.toList).flatten).length ≤ 140737488355328 → wire_PutList.go k l acc = some (ba (acc.data.toList ++ (l.map fun s => encT s.data.toList).flatten)) := by
  intro l
  induction l with
  | nil => intro acc h; simp [wire_PutList.go, ba_of]
  | cons s t ih =>
    intro acc h
    simp only [List.map_cons, List.flatten_cons, List.length_append] at h
    have hs : s.size ≤ 140737488355328 := by
      have : s.size ≤ (encT s.data.toList).length := by unfold encT; rw [List.length_append, dl]; omega
      omega
    simp only [wire_PutList.go]
    rw [putT_f s (by omega) hk]
    simp only [Option.bind_some, ba_size]
    rw [if_pos (by omega), ih _ (by rw [ByteArray.size_append, ba_size]; omega)]
    rw [ba_append_s]
    simp only [ba_data, List.map_cons, List.flatten_cons, List.append_assoc]
theorem putL_f {k : Nat} (l : List ByteArray) (hl : (encL (l.map fun s => s.data.toList)).length ≤ 140737488355328) (hk : 10 ≤ k) : wire_PutList.f k l = some (ba (encL (l.map fun s => s.data.toList))) := by
  unfold wire_PutList.f
  unfold encL at hl ⊢
  simp only [List.length_map, List.length_append, List.map_map] at hl ⊢
  have h1 : l.length ≤ 140737488355328 := by
    have := flat_encT (l.map fun s => s.data.toList)
    simp only [List.length_map, List.map_map] at this
    omega
  rw [wu64 (by omega) (by omega), putU_f (by omega) hk]
  simp only [Option.bind_some, ba_size]
  rw [if_pos (by omega), putL_go hk l _ (by rw [ba_size]; simpa [Function.comp_def] using hl)]
  simp [Function.comp_def]

/-! ### put, the document's -/
theorem rput_l0 (n : Nat) : ∀ (k : Nat) (xs : List Int), n < 18446744073709551616 → (encU n).length ≤ k → xs.length + (encU n).length ≤ 140737488355328 → countersignref01_PutUint.l0 k (n : Int) xs = some (strOfNums (xs ++ nat (encU n))) := by
  induction n using Nat.strongRecOn with
  | ind n ih =>
    intro k xs hn64 hk hx
    have hp := encU_pos n
    obtain ⟨k, rfl⟩ : ∃ m, k = m + 1 := ⟨k - 1, by omega⟩
    by_cases hn : n < 128
    · rw [encU_small hn] at hx ⊢
      simp only [countersignref01_PutUint.l0]
      rw [if_neg (by omega), if_pos (by simp at hx; omega)]
      simp only [nat, List.map_cons, List.map_nil, u8_toNat (show n < 256 by omega)]
      rw [show ((n : Int) % 256) = n from by omega]
    · rw [encU_big hn] at hx hk ⊢
      simp only [List.length_cons] at hx hk
      simp only [countersignref01_PutUint.l0]
      rw [if_pos (by omega), if_pos (by omega)]
      rw [show Int.tdiv (n : Int) 128 = ((n / 128 : Nat) : Int) from rfl, show Int.tmod (n : Int) 128 = ((n % 128 : Nat) : Int) from rfl]
      rw [wu64 (by omega) (by omega), wu64 (by omega) (by omega), show (((n % 128 : Nat) : Int) + 128) % 256 = ((n % 128 + 128 : Nat) : Int) from by omega]
      rw [ih (n / 128) (by omega) k _ (by omega) (by omega) (by simp; omega)]
      simp only [nat, List.map_cons, u8_toNat (show n % 128 + 128 < 256 by omega), List.append_assoc, List.cons_append, List.nil_append]
theorem rputU_f {k n : Nat} (hn : n < 18446744073709551616) (hk : 10 ≤ k) : countersignref01_PutUint.f k (n : Int) = some (ba (encU n)) := by
  have := encU_le10 hn
  unfold countersignref01_PutUint.f
  rw [rput_l0 n k [] hn (by omega) (by simp; omega), List.nil_append, strOf]
theorem rputT_f {k : Nat} (s : ByteArray) (hs : s.size ≤ 4611686018427387904) (hk : 10 ≤ k) : countersignref01_PutText.f k s = some (ba (encT s.data.toList)) := by
  unfold countersignref01_PutText.f
  have h10 := encU_le10 (n := s.size) (by omega)
  rw [wu64 (by omega) (by omega), rputU_f (by omega) hk]
  simp only [Option.bind_some, ba_size]
  rw [if_pos (by omega)]
  unfold encT
  rw [← ba_append, ba_of, dl]
theorem rputN_l0 (l : List Int) (hw : W64 l) (hl : l.length ≤ 1099511627776) (d : Nat) : ∀ (i k : Nat) (xs : ByteArray), l.length - i = d → i ≤ l.length → d + 12 ≤ k → xs.size ≤ 10 + 10 * i →
    countersignref01_PutNums.l0 k l xs (i : Int) = some (ba (xs.data.toList ++ (((l.drop i).map fun x => encU x.toNat).flatten))) := by
  induction d with
  | zero =>
    intro i k xs hd hi hk hx
    obtain ⟨k, rfl⟩ : ∃ m, k = m + 1 := ⟨k - 1, by omega⟩
    simp only [countersignref01_PutNums.l0]
    rw [if_neg (by omega), List.drop_of_length_le (by omega)]
    simp [ba_of]
  | succ d ih =>
    intro i k xs hd hi hk hx
    obtain ⟨k, rfl⟩ : ∃ m, k = m + 1 := ⟨k - 1, by omega⟩
    have hlt : i < l.length := by omega
    have hx0 := hw _ (List.getElem_mem hlt)
    simp only [countersignref01_PutNums.l0]
    rw [if_pos (by omega), if_pos (by omega), rd_at hlt]
    obtain ⟨m, hm⟩ : ∃ m : Nat, l[i] = (m : Int) := ⟨l[i].toNat, by omega⟩
    have h10 := encU_le10 (n := m) (by omega)
    rw [hm, rputU_f (by omega) (by omega)]
    simp only [Option.bind_some]
    rw [if_pos (by rw [ba_size]; omega), w64 (by omega) (by omega), show ((i : Int) + 1) = ((i + 1 : Nat) : Int) from by omega, ih (i + 1) k _ (by omega) (by omega) (by omega) (by rw [ByteArray.size_append, ba_size]; omega)]
    rw [List.drop_eq_getElem_cons hlt, hm, ba_append_s]
    simp
theorem rputN_f {k : Nat} (l : List Int) (hw : W64 l) (hl : l.length ≤ 1099511627776) (hk : l.length + 22 ≤ k) : countersignref01_PutNums.f k l = some (ba (encN (l.map Int.toNat))) := by
  unfold countersignref01_PutNums.f
  have h10 := encU_le10 (n := l.length) (by omega)
  rw [wu64 (by omega) (by omega), rputU_f (by omega) (by omega)]
  simp only [Option.bind_some]
  have := rputN_l0 l hw hl l.length 0 k (ba (encU l.length)) (by omega) (by omega) (by omega) (by rw [ba_size]; omega)
  rw [show ((0 : Nat) : Int) = 0 from rfl] at this
  rw [this]
  unfold encN
  simp [List.map_map, Function.comp_def]
theorem rputL_l0 (l : List ByteArray) (d : Nat) : ∀ (i k : Nat) (xs : ByteArray), l.length - i = d → i ≤ l.length → d + 12 ≤ k → l.length ≤ 1099511627776 → xs.size + (((l.drop i).map fun s => encT s.data.toList).flatten).length ≤ 140737488355328 →
    countersignref01_PutList.l0 k l xs (i : Int) = some (ba (xs.data.toList ++ (((l.drop i).map fun s => encT s.data.toList).flatten))) := by
  induction d with
  | zero =>
    intro i k xs hd hi hk hl hx
    obtain ⟨k, rfl⟩ : ∃ m, k = m + 1 := ⟨k - 1, by omega⟩
    simp only [countersignref01_PutList.l0]
    rw [if_neg (by omega), List.drop_of_length_le (by omega)]
    simp [ba_of]
  | succ d ih =>
    intro i k xs hd hi hk hl hx
    obtain ⟨k, rfl⟩ : ∃ m, k = m + 1 := ⟨k - 1, by omega⟩
    have hlt : i < l.length := by omega
    rw [List.drop_eq_getElem_cons hlt] at hx ⊢
    simp only [List.map_cons, List.flatten_cons, List.length_append] at hx
    have hs : l[i].size ≤ 140737488355328 := by
      have : l[i].size ≤ (encT l[i].data.toList).length := by unfold encT; rw [List.length_append, dl]; omega
      omega
    simp only [countersignref01_PutList.l0]
    rw [if_pos (by omega), if_pos (by omega), rdOf_at hlt, rputT_f _ (by omega) (by omega)]
    simp only [Option.bind_some]
    rw [if_pos (by rw [ba_size]; omega), w64 (by omega) (by omega), show ((i : Int) + 1) = ((i + 1 : Nat) : Int) from by omega, ih (i + 1) k _ (by omega) (by omega) (by omega) hl (by rw [ByteArray.size_append, ba_size]; omega)]
    rw [ba_append_s]
    simp only [ba_data, List.map_cons, List.flatten_cons, List.append_assoc]
theorem rputL_f {k : Nat} (l : List ByteArray) (hl : (encL (l.map fun s => s.data.toList)).length ≤ 140737488355328) (h40 : l.length ≤ 1099511627776) (hk : l.length + 22 ≤ k) : countersignref01_PutList.f k l = some (ba (encL (l.map fun s => s.data.toList))) := by
  unfold countersignref01_PutList.f
  unfold encL at hl ⊢
  simp only [List.length_map, List.length_append, List.map_map] at hl ⊢
  rw [wu64 (by omega) (by omega), rputU_f (by omega) (by omega)]
  simp only [Option.bind_some]
  have := rputL_l0 l l.length 0 k (ba (encU l.length)) (by omega) (by omega) (by omega) h40 (by rw [ba_size]; simpa [Function.comp_def] using hl)
  rw [show ((0 : Nat) : Int) = 0 from rfl] at this
  rw [this]
  simp [Function.comp_def]
end Go.Proofs.Ytkjlbmdcaehgiaa.WP
