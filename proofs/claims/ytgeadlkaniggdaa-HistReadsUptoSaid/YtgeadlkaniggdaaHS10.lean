/- Layer 24: HistOrders, HistRight for every argument. -/
import Derived.Test.YtgeadlkaniggdaaHS9
set_option linter.unusedVariables false
namespace Go.Proofs.Ytgeadlkaniggdaa.X
open Go Go.RowKit HM
def Hop.Q (x : Hop) (n : Nat) : Prop := Open.QSt (Open.QPair Open.QBool (Open.QPair Open.QStr (Open.QPair (Open.QInt .i64) (Open.QInt .i64)))) (x.w, x.tx, x.fr, x.to) n
theorem Hop.ok {a : Hop} {n : Nat} (h : Hop.Q a n) : 1 ≤ n ∧ a.tx.size + 1 ≤ n ∧ (-9223372036854775808 ≤ a.fr ∧ a.fr ≤ 9223372036854775807) ∧ (-9223372036854775808 ≤ a.to ∧ a.to ≤ 9223372036854775807) := by
  obtain ⟨mm, hm, ⟨m0, k0, e0, h0, ⟨m1, k1, e1, h1, ⟨m2, k2, e2, h2, h3⟩⟩⟩⟩ := h
  exact ⟨(by omega), (Nat.le_trans h1.2 (by omega)), (in_i64 h2), (in_i64 h3)⟩
theorem Hop.Q_mono {a : Hop} {n m : Nat} (h : Hop.Q a n) (hm : n ≤ m) : Hop.Q a m := let ⟨k, h1, h2⟩ := h; ⟨k, Nat.le_trans h1 hm, h2⟩
theorem Hop.Q.pos {a : Hop} {n : Nat} (h : Hop.Q a n) : 1 ≤ n := let ⟨k, h1, _⟩ := h; by omega
theorem ordS_some {l : List Hop} (h : (ordS l).2 = true) : rgt l (ordS l).1 = true ∧ cpl l (ordS l).1 = true ∧ (ordS l).1.Nodup ∧ (∀ i ∈ (ordS l).1, i < l.length) ∧ l.length ≤ 12 := by
  by_cases h12 : 12 < l.length
  · rw [show ordS l = ([], false) from if_pos h12] at h; cases h
  · cases hh : ordO l with
    | none => rw [ordS_no h12 hh] at h; cases h
    | some r =>
      have := ordO_some hh
      rw [ordS_of h12 hh]
      exact ⟨this.1, this.2.1, this.2.2.1, this.2.2.2, by omega⟩
theorem ordS_none {l : List Hop} (h : (ordS l).2 = false) : (ordS l).1 = [] := by
  by_cases h12 : 12 < l.length
  · rw [show ordS l = ([], false) from if_pos h12]
  · cases hh : ordO l with
    | none => rw [ordS_no h12 hh]
    | some r => rw [ordS_of h12 hh] at h; cases h
theorem ordS_len (l : List Hop) : (ordS l).1.length ≤ 12 := by
  cases h : (ordS l).2 with
  | false => rw [ordS_none h]; simp
  | true =>
    obtain ⟨_, _, h3, h4, h5⟩ := ordS_some h
    have : ∀ n (r : List Nat), r.Nodup → (∀ i ∈ r, i < n) → r.length + fu n r ≤ n := by
      intro n r hn hb
      suffices hh : ∀ s : List Nat, s.reverse.Nodup → (∀ i ∈ s, i < n) → s.length + fu n s.reverse ≤ n by have := hh r.reverse (by simpa using hn) (by simpa using hb); simpa using this
      intro s
      induction s with
      | nil => intro _ _; rw [List.reverse_nil, fu_nil]; simp
      | cons x s ih =>
        intro hn hb
        rw [List.reverse_cons, List.nodup_append] at hn
        have := ih hn.1 (fun i hi => hb i (by simp [hi]))
        have hx : x ∉ s.reverse := fun hm => hn.2.2 x hm x (by simp) rfl
        have hf := fu_snoc (hb x (by simp)) hx
        rw [List.reverse_cons, List.length_cons]; omega
    have := this _ _ h3 h4
    omega
theorem eta2 {α γ : Type} (p : α × γ) : (p.1, p.2) = p := rfl
theorem HistOrders_true (a0 : (List Hop)) (n0 : Nat) (q0 : Open.QSl Hop.Q a0 n0) (hb : n0 + (0) ≤ 1048576) :
    CW cfg [] 3 [AVal.lst (a0.map Hop.enc)] (fun _ => none) (fun v _ => v = .bool true) := by
  have h0 := qsl_len q0 (fun _ _ h => h.pos)
  have h1 := ordS_len a0
  exact lawOrders (by omega) (eta2 (ordS a0)).symm (by omega) rfl
theorem HistRight_true (a0 : (List Hop)) (n0 : Nat) (q0 : Open.QSl Hop.Q a0 n0) (hb : n0 + (0) ≤ 1048576) :
    CW cfg [] 4 [AVal.lst (a0.map Hop.enc)] (fun _ => none) (fun v _ => v = .bool true) := by
  have h0 := qsl_len q0 (fun _ _ h => h.pos)
  have h1 := ordS_len a0
  exact lawRight (by omega) (eta2 (ordS a0)).symm ordS_some ordS_none (by omega) rfl
end Go.Proofs.Ytgeadlkaniggdaa.X
