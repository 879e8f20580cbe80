/- Layer 04: KeysVolumes for every argument. -/
import Derived.Test.YtimdjcfkffkeiaaKY4
import Derived.Test.YtimdjcfkffkeiaaKY6
set_option linter.unusedVariables false
namespace Go.Proofs.Ytimdjcfkffkeiaa.X
open Go Go.RowKit
structure A3 where
  x : Int
  y : Int
  z : Int
def A3.enc (a : A3) : AVal := .agg [.int .u64 a.x, .int .u64 a.y, .int .u64 a.z]
def A3.Q (x : A3) (n : Nat) : Prop := Open.QSt (Open.QPair (Open.QInt .u64) (Open.QPair (Open.QInt .u64) (Open.QInt .u64))) (x.x, x.y, x.z) n
theorem A3.ok {a : A3} {n : Nat} (h : A3.Q a n) : (0 ≤ a.x ∧ a.x ≤ 18446744073709551615) ∧ (0 ≤ a.y ∧ a.y ≤ 18446744073709551615) ∧ (0 ≤ a.z ∧ a.z ≤ 18446744073709551615) := by
  obtain ⟨mm, hm, ⟨m0, k0, e0, h0, ⟨m1, k1, e1, h1, h2⟩⟩⟩ := h
  exact ⟨(in_u64 h0), (in_u64 h1), (in_u64 h2)⟩
theorem A3.Q_mono {a : A3} {n m : Nat} (h : A3.Q a n) (hm : n ≤ m) : A3.Q a m := let ⟨k, h1, h2⟩ := h; ⟨k, Nat.le_trans h1 hm, h2⟩
theorem A3.Q.pos {a : A3} {n : Nat} (h : A3.Q a n) : 1 ≤ n := let ⟨k, h1, _⟩ := h; by omega
theorem KeysVolumes_true (a0 : Kc) (n0 : Nat) (q0 : Kc.Q a0 n0) (a1 : A3) (n1 : Nat) (q1 : A3.Q a1 n1) (a2 : A3) (n2 : Nat) (q2 : A3.Q a2 n2) (hb : n0 + (n1 + (n2 + (0))) ≤ 1048576) :
    CW cfg [] 7 [Kc.enc a0, A3.enc a1, A3.enc a2] (fun _ => none) (fun v _ => v = .bool true) := by
  have h0 := Kc.ok q0
  exact lawVolumes a0 (by omega) (by omega) (a1.x, a1.y, a1.z) (a2.x, a2.y, a2.z) (A3.ok q1) (A3.ok q2) rfl
end Go.Proofs.Ytimdjcfkffkeiaa.X
