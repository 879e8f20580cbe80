/- Package countersignlaw01: what its printed functions answer. -/
import Derived.Test.YtkjlbmdcaehgiaaWL
import Derived.OpenShut
set_option linter.unusedVariables false
set_option linter.unusedSimpArgs false
namespace Go.Proofs.Ytkjlbmdcaehgiaa.WP
open Go.RowKit Go.Proofs.YtkjlbmdcaehgiaaW.PrintWords Go.Proofs.YtkjlbmdcaehgiaaW.PrintLast Go.Proofs.YtkjlbmdcaehgiaaW.PrintMore Go.Proofs.Ytkjlbmdcaehgiaa.PAll Go.Proofs.Ytkjlbmdcaehgiaa.WM

theorem fixed_f {k : Nat} (hk : 100 ≤ k) : countersignlaw01_fixed.f k = some true := by
  unfold countersignlaw01_fixed.f
  rw [takeU_f (⟨#[172, 2, 122]⟩ : ByteArray) (by decide) (by omega), Option.bind_some]
  rw [takeU_f (⟨#[128, 0]⟩ : ByteArray) (by decide) (by omega), Option.bind_some]
  rw [takeU_f (⟨#[128]⟩ : ByteArray) (by decide) (by omega), Option.bind_some]
  rw [takeU_f (⟨#[255, 255, 255, 255, 255, 255, 255, 255, 255, 2]⟩ : ByteArray) (by decide) (by omega), Option.bind_some]
  have e1 : resU (⟨#[172, 2, 122]⟩ : ByteArray) = (300, ba [122], true) := by rfl
  have e2 : resU (⟨#[128, 0]⟩ : ByteArray) = no := by rfl
  have e3 : resU (⟨#[128]⟩ : ByteArray) = no := by rfl
  have e4 : resU (⟨#[255, 255, 255, 255, 255, 255, 255, 255, 255, 2]⟩ : ByteArray) = no := by rfl
  rw [e1, e2, e3, e4]
  have u300 : encU 300 = [172, 2] := by rw [encU_big (by decide), encU_small (by decide)]; rfl
  have u128 : encU 128 = [128, 1] := by rw [encU_big (by decide), encU_small (by decide)]; rfl
  have u1 : encU 1 = [1] := by rw [encU_small (by decide)]; rfl
  have u2 : encU 2 = [2] := by rw [encU_small (by decide)]; rfl
  have u0 : encU 0 = [0] := by rw [encU_small (by decide)]; rfl
  refine ite_p rfl (ite_p (ba_toList _) (ite_p rfl (ite_n (by simp [no]) (ite_n (by simp [no]) (ite_n (by simp [no]) ?_)))))
  have p1 : wire_PutUint.f k 300 = some (ba (encU 300)) := putU_f (n := 300) (by decide) (by omega)
  rw [p1, Option.bind_some, u300, ba_toList]
  refine ite_p rfl ?_
  rw [putT_f (⟨#[97, 98]⟩ : ByteArray) (by decide) (by omega), Option.bind_some, ba_toList]
  have e5 : encT (⟨#[97, 98]⟩ : ByteArray).data.toList = [2, 97, 98] := by
    show encU 2 ++ [97, 98] = _
    rw [u2]; rfl
  refine ite_p e5 ?_
  rw [putN_f [1, 128] (by intro x hx; simp at hx; omega) (by decide) (by simp; omega), Option.bind_some, ba_toList]
  have e6 : encN (([1, 128] : List Int).map Int.toNat) = [2, 1, 128, 1] := by
    show encU 2 ++ (encU 1 ++ (encU 128 ++ [])) = _
    rw [u2, u1, u128]; rfl
  refine ite_p e6 ?_
  have e7 : encL (([(⟨#[]⟩ : ByteArray)] : List ByteArray).map fun s => s.data.toList) = [1, 0] := by
    show encU 1 ++ ((encU 0 ++ []) ++ []) = _
    rw [u1, u0]; rfl
  rw [putL_f [(⟨#[]⟩ : ByteArray)] (by rw [e7]; decide) (by omega), Option.bind_some, ba_toList, e7]
  rfl

/-! ### WireLengths -/
theorem lengths_l0 (x0 : Nat) (h0 : x0 < 18446744073709551616) (x1 : ByteArray) (h1 : x1.size ≤ 140737488351232) (n : Nat) : ∀ (j k : Nat), n < 18446744073709551616 → j + (encU n).length = (encU x0).length + 1 → 1 ≤ j → (encU n).length + 110 ≤ k →
    countersignlaw01_WireLengths.l0 k (x0 : Int) x1 (j : Int) (n : Int) = some true := by
  have h10 := encU_le10 h0
  induction n using Nat.strongRecOn with
  | ind n ih =>
    intro j k hn hj hj1 hk
    have hp := encU_pos n
    obtain ⟨k, rfl⟩ : ∃ m, k = m + 1 := ⟨k - 1, by omega⟩
    simp only [countersignlaw01_WireLengths.l0]
    by_cases hs : n < 128
    · rw [encU_small hs] at hj
      simp only [List.length_cons, List.length_nil] at hj
      rw [if_neg (by omega), fixed_f (by omega), Option.bind_some, if_pos rfl]
      rw [putU_f h0 (by omega), Option.bind_some, if_pos (by rw [ba_size]; omega), putT_f x1 (by omega) (by omega), Option.bind_some]
      rw [wu64 (by omega) (by omega), putU_f (by omega) (by omega), Option.bind_some]
      have hu := encU_le10 (n := x1.size) (by omega)
      rw [if_pos (by rw [ba_size, ba_size, w64 (by omega) (by omega)]; unfold encT; rw [List.length_append, dl]; omega)]
      rw [decide_eq_true (by omega)]
    · rw [encU_big hs] at hj hk
      simp only [List.length_cons] at hj hk
      have hp2 := encU_pos (n / 128)
      rw [if_pos (by omega), show Int.tdiv (n : Int) 128 = ((n / 128 : Nat) : Int) from rfl, wu64 (by omega) (by omega), w64 (by omega) (by omega), show ((j : Int) + 1) = ((j + 1 : Nat) : Int) from by omega]
      exact ih (n / 128) (by omega) (j + 1) k (by omega) (by omega) (by omega) (by omega)
theorem WireLengths_f {k : Nat} (n : Int) (s : ByteArray) (hn : (Lit.int .u64 n).wf = true) (hs : s.size ≤ 140737488351232) (hk : 200 ≤ k) : countersignlaw01_WireLengths.f k n s = some true := by
  have hb := bounds_u64 hn
  obtain ⟨m, rfl⟩ := Int.eq_ofNat_of_zero_le hb.1
  have h10 := encU_le10 (n := m) (by omega)
  exact lengths_l0 m (by omega) s hs m 1 k (by omega) (by omega) (by omega) (by omega)

/-! ### WireJoins -/
theorem map_toNat {l : List Int} (h : W64 l) : ints (l.map Int.toNat) = l := by
  unfold ints
  rw [List.map_map]
  conv => rhs; rw [← List.map_id l]
  apply List.map_congr_left
  intro x hx
  have := (h x hx).1
  simp; omega
theorem w64_nat {l : List Int} (h : W64 l) : ∀ x ∈ l.map Int.toNat, x < 18446744073709551616 := by
  intro x hx
  obtain ⟨y, hy, rfl⟩ := List.mem_map.1 hx
  have := h y hy
  omega
theorem encN_len {l : List Int} (h : W64 l) : (encN (l.map Int.toNat)).length ≤ 10 + 10 * l.length ∨ 18446744073709551616 ≤ l.length := by
  by_cases hl : l.length < 18446744073709551616
  · left
    unfold encN
    rw [List.length_append, List.length_map]
    have h10 := encU_le10 hl
    have : ∀ m : List Int, W64 m → (((m.map Int.toNat).map encU).flatten).length ≤ 10 * m.length := by
      intro m hm
      induction m with
      | nil => simp
      | cons a m ih =>
        have ha := hm a List.mem_cons_self
        have h1 := encU_le10 (n := a.toNat) (by omega)
        have h2 := ih (fun x hx => hm x (List.mem_cons_of_mem _ hx))
        simp only [List.map_cons, List.flatten_cons, List.length_append, List.length_cons]
        omega
    have := this l h
    omega
  · right; omega
theorem resN_put {l : List Int} (h : W64 l) (hl : l.length ≤ 1099511627776) (r : List UInt8) (s : ByteArray) (hs : s.data.toList = encN (l.map Int.toNat) ++ r) {m : Int} (hm : (l.length : Int) ≤ m) : resN s m = (l, ba r, true) := by
  unfold resN
  rw [hs, takeN_enc (l.map Int.toNat) r (by simpa using hm) (by simp; omega) (w64_nat h)]
  simp only
  rw [map_toNat h]
theorem resN_low {l : List Int} (h : W64 l) (hl : l.length ≤ 1099511627776) (r : List UInt8) (s : ByteArray) (hs : s.data.toList = encN (l.map Int.toNat) ++ r) {m : Int} (hm : m < (l.length : Int)) : resN s m = noN := by
  unfold resN
  cases hv : takeN m s.data.toList with
  | none => rfl
  | some p =>
    obtain ⟨q, t⟩ := p
    obtain ⟨e, h1, h2, h3, h4⟩ := takeN_some hv
    rw [hs] at e
    have e1 := takeN_enc (most := (l.length : Int)) (l.map Int.toNat) r (by simp) (by simp; omega) (w64_nat h)
    have e2 := takeN_enc (most := (q.length : Int)) q t (by omega) h4 h3
    unfold encN at e
    rw [List.append_assoc, List.append_assoc] at e
    have := encU_prefix (by simp; omega) h4 _ e
    simp only [List.length_map] at this
    omega
theorem WireJoins_f {k : Nat} (l m : List Int) (hl : W64 l) (hm : W64 m) (hll : l.length ≤ 1048576) (hml : m.length ≤ 1048576) (hk : 100000000 ≤ k) : countersignlaw01_WireJoins.f k l m = some true := by
  unfold countersignlaw01_WireJoins.f
  have sl := (encN_len hl).resolve_right (by omega)
  have sm := (encN_len hm).resolve_right (by omega)
  rw [putN_f l hl (by omega) (by omega), Option.bind_some, putN_f m hm (by omega) (by omega), Option.bind_some]
  rw [if_pos (by rw [ba_size, ba_size]; omega), ba_append]
  rw [takeN_f _ _ ⟨by omega, by omega⟩ (by rw [ba_size, List.length_append]; omega) (by rw [ba_size, List.length_append]; omega), Option.bind_some]
  rw [resN_put hl (by omega) (encN (m.map Int.toNat)) _ rfl (Int.le_refl _)]
  simp only
  rw [takeN_f _ _ ⟨by omega, by omega⟩ (by rw [ba_size]; omega) (by rw [ba_size]; omega), Option.bind_some]
  rw [resN_put hm (by omega) [] _ (by rw [ba_data, List.append_nil]) (Int.le_refl _)]
  rw [Option.bind_some]
  rw [w64 (by omega) (by omega), takeN_f _ _ ⟨by omega, by omega⟩ (by rw [ba_size]; omega) (by rw [ba_size]; omega), Option.bind_some]
  rw [resN_low hl (by omega) [] _ (by rw [ba_data, List.append_nil]) (by omega), fixed_f (by omega), Option.bind_some]
  refine ite_p rfl (ite_p trivial (ite_p rfl ?_))
  rw [nums_f l l (by omega) (by omega), Option.bind_some]
  refine ite_p (by simp) ?_
  rw [nums_f m m (by omega) (by omega), Option.bind_some]
  exact ite_p (by simp) (ite_p (by rw [ba_toList]) rfl)

/-! ### WireTakes -/
theorem resN_len {s : ByteArray} {m : Int} (hs : s.size ≤ 1099511627776) : (resN s m).1.length ≤ s.size := by
  unfold resN
  cases hv : takeN m s.data.toList with
  | none => simp [noN]
  | some p =>
    obtain ⟨l, r⟩ := p
    obtain ⟨e, h1, _⟩ := takeN_some hv
    have := congrArg List.length e
    have f := flat_encU l
    unfold encN at this
    simp only [List.length_append] at this
    rw [dl] at this
    simp [ints]
    omega
theorem resL_len {s : ByteArray} {m : Int} (hs : s.size ≤ 1099511627776) : (resL s m).1.length ≤ s.size := by
  unfold resL
  cases hv : takeL m s.data.toList with
  | none => simp [noL]
  | some p =>
    obtain ⟨l, r⟩ := p
    obtain ⟨e, h1, _⟩ := takeL_some hv
    have := congrArg List.length e
    have f := flat_encT l
    unfold encL at this
    simp only [List.length_append] at this
    rw [dl] at this
    simp [bas]
    omega
theorem WireTakes_f {k : Nat} (s : ByteArray) (m : Int) (hm : I64 m) (hs : s.size ≤ 1048576) (hk : 100000000 ≤ k) : countersignlaw01_WireTakes.f k s m = some true := by
  unfold countersignlaw01_WireTakes.f
  have l1 := resN_len (s := s) (m := m) (by omega)
  have l2 := resL_len (s := s) (m := m) (by omega)
  rw [takeU_f s (by omega) (by omega), Option.bind_some, rtakeU_f s (by omega) (by omega), Option.bind_some, takeT_f s m hm (by omega) (by omega), Option.bind_some, rtakeT_f s m hm (by omega) (by omega), Option.bind_some]
  rw [takeN_f s m hm (by omega) (by omega), Option.bind_some, rtakeN_f s m hm (by omega) (by omega), Option.bind_some, takeL_f s m hm (by omega) (by omega), Option.bind_some, rtakeL_f s m hm (by omega) (by omega), Option.bind_some, fixed_f (by omega), Option.bind_some]
  refine ite_p rfl (ite_p rfl (ite_p rfl (ite_p (by simp) (ite_p rfl (ite_p rfl (ite_p (by simp) ?_))))))
  rw [nums_f _ _ (by omega) (by omega), Option.bind_some]
  refine ite_p (by simp) (ite_p rfl (ite_p (by simp) ?_))
  rw [texts_f _ _ (by omega) (by omega), Option.bind_some]
  exact ite_p (by simp) (ite_p rfl (by simp))
end Go.Proofs.Ytkjlbmdcaehgiaa.WP
