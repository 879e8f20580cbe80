/- Layer 11: the laws for every argument. -/
import Derived.Test.YtlnoligkgkngaaaI
import Derived.Test.YtlnoligkgkngaaaN4
set_option linter.unusedVariables false
namespace Go.Proofs.Ytlnoligkgkngaaa.X
open Go Go.RowKit
def Se.Q (x : Se) (n : Nat) : Prop := Open.QSt (Open.QPair (Open.QInt .u64) (Open.QPair (Open.QInt .u64) Open.QStr)) (x.id, x.nr, x.an) n
theorem Se.ok {a : Se} {n : Nat} (h : Se.Q a n) : (0 ≤ a.id ∧ a.id ≤ 18446744073709551615) ∧ (0 ≤ a.nr ∧ a.nr ≤ 18446744073709551615) ∧ a.an.size + 1 ≤ n := by
  obtain ⟨mm, hm, ⟨m0, k0, e0, h0, ⟨m1, k1, e1, h1, h2⟩⟩⟩ := h
  exact ⟨(in_u64 h0), (in_u64 h1), (Nat.le_trans h2.2 (by omega))⟩
theorem Se.Q_mono {a : Se} {n m : Nat} (h : Se.Q a n) (hm : n ≤ m) : Se.Q a m := let ⟨k, h1, h2⟩ := h; ⟨k, Nat.le_trans h1 hm, h2⟩
theorem Se.Q.pos {a : Se} {n : Nat} (h : Se.Q a n) : 1 ≤ n := let ⟨k, h1, _⟩ := h; by omega
theorem SessionSeeks_true (a0 : (List Se)) (n0 : Nat) (q0 : (Open.QSl Se.Q) a0 n0) (a1 : Se) (n1 : Nat) (q1 : Se.Q a1 n1) (hb : n0 + (n1 + (0)) ≤ 1048576) :
    CW cfg [] 3 [AVal.lst (a0.map Se.enc), Se.enc a1] (fun _ => none) (fun v _ => v = .bool true) := by
  have h0 := qsl_len q0 (fun _ _ h => h.pos); have h1 := Se.ok q1
  exact lawSeeks a0 a1 (by omega) (by omega) rfl
theorem SessionLast_true (a0 : (List Se)) (n0 : Nat) (q0 : (Open.QSl Se.Q) a0 n0) (a1 : Se) (n1 : Nat) (q1 : Se.Q a1 n1) (a2 : Se) (n2 : Nat) (q2 : Se.Q a2 n2) (hb : n0 + (n1 + (n2 + (0))) ≤ 1048576) :
    CW cfg [] 5 [AVal.lst (a0.map Se.enc), Se.enc a1, Se.enc a2] (fun _ => none) (fun v _ => v = .bool true) := by
  have h0 := qsl_len q0 (fun _ _ h => h.pos); have h1 := Se.ok q1; have h2 := Se.ok q2
  exact lawLast a0 a1 a2 (by omega) (by omega) (by omega) rfl
theorem SessionOnce_true (a0 : (List Se)) (n0 : Nat) (q0 : (Open.QSl Se.Q) a0 n0) (a1 : Se) (n1 : Nat) (q1 : Se.Q a1 n1) (a2 : (List Se)) (n2 : Nat) (q2 : (Open.QSl Se.Q) a2 n2) (hb : n0 + (n1 + (n2 + (0))) ≤ 1048576) :
    CW cfg [] 4 [AVal.lst (a0.map Se.enc), Se.enc a1, AVal.lst (a2.map Se.enc)] (fun _ => none) (fun v _ => v = .bool true) := by
  have h0 := qsl_len q0 (fun _ _ h => h.pos); have h1 := Se.ok q1; have h2 := qsl_len q2 (fun _ _ h => h.pos)
  exact lawOnce a0 a1 a2 (by omega) (by omega) h1.2.1 (by omega) (fun x hx => by obtain ⟨m, hm, hq⟩ := qsl_mem q2 x hx; have := Se.ok hq; omega) rfl
end Go.Proofs.Ytlnoligkgkngaaa.X
