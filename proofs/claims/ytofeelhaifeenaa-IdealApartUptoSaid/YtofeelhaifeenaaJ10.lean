/- Layer 03: the laws for every argument. -/
import Derived.Test.YtofeelhaifeenaaJ9
set_option linter.unusedVariables false
namespace Go.Proofs.Ytofeelhaifeenaa.X
open Go Go.RowKit
def Ca.Q (x : Ca) (n : Nat) : Prop := Open.QSt (Open.QPair (Open.QInt .i64) (Open.QPair (Open.QInt .u64) (Open.QPair (Open.QInt .u64) (Open.QPair (Open.QInt .u64) (Open.QPair Open.QStr Open.QStr))))) (x.d, x.k, x.n, x.h, x.a, x.b) n
theorem Ca.ok {a : Ca} {n : Nat} (h : Ca.Q a n) : (-9223372036854775808 ≤ a.d ∧ a.d ≤ 9223372036854775807) ∧ (0 ≤ a.k ∧ a.k ≤ 18446744073709551615) ∧ (0 ≤ a.n ∧ a.n ≤ 18446744073709551615) ∧ (0 ≤ a.h ∧ a.h ≤ 18446744073709551615) ∧ a.a.size + 1 ≤ n ∧ a.b.size + 1 ≤ n := by
  obtain ⟨mm, hm, ⟨m0, k0, e0, h0, ⟨m1, k1, e1, h1, ⟨m2, k2, e2, h2, ⟨m3, k3, e3, h3, ⟨m4, k4, e4, h4, h5⟩⟩⟩⟩⟩⟩ := h
  exact ⟨(in_i64 h0), (in_u64 h1), (in_u64 h2), (in_u64 h3), (Nat.le_trans h4.2 (by omega)), (Nat.le_trans h5.2 (by omega))⟩
theorem Ca.Q_mono {a : Ca} {n m : Nat} (h : Ca.Q a n) (hm : n ≤ m) : Ca.Q a m := let ⟨k, h1, h2⟩ := h; ⟨k, Nat.le_trans h1 hm, h2⟩
theorem Ca.Q.pos {a : Ca} {n : Nat} (h : Ca.Q a n) : 1 ≤ n := let ⟨k, h1, _⟩ := h; by omega
theorem IdealPlays_true (a0 : (List Int)) (n0 : Nat) (q0 : (Open.QSl (Open.QInt .u64)) a0 n0) (a1 : (List Ca)) (n1 : Nat) (q1 : (Open.QSl Ca.Q) a1 n1) (hb : n0 + (n1 + (0)) ≤ 1048576) :
    CW cfg [] 3 [AVal.lst (a0.map (fun a : Int => AVal.int .u64 a)), AVal.lst (a1.map Ca.enc)] (fun _ => none) (fun v _ => v = .bool true) := by
  have h0 := qsl_len q0 (fun _ _ h => h.2)
  exact lawPlays a0 a1 (by omega) rfl
end Go.Proofs.Ytofeelhaifeenaa.X
