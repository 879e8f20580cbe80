/- Layer 04: the laws for every argument. -/
import Derived.Test.YtimdjcfkffkeiaaKY5
set_option linter.unusedVariables false
namespace Go.Proofs.Ytimdjcfkffkeiaa.X
open Go Go.RowKit
def Ca.Q (x : Ca) (n : Nat) : Prop := Open.QSt (Open.QPair (Open.QInt .i64) (Open.QPair (Open.QInt .u64) (Open.QPair (Open.QInt .u64) (Open.QPair (Open.QInt .u64) (Open.QPair Open.QStr Open.QStr))))) (x.d, x.k, x.n, x.h, x.a, x.b) n
theorem Ca.ok {a : Ca} {n : Nat} (h : Ca.Q a n) : (-9223372036854775808 ≤ a.d ∧ a.d ≤ 9223372036854775807) ∧ (0 ≤ a.k ∧ a.k ≤ 18446744073709551615) ∧ (0 ≤ a.n ∧ a.n ≤ 18446744073709551615) ∧ (0 ≤ a.h ∧ a.h ≤ 18446744073709551615) ∧ a.a.size + 1 ≤ n ∧ a.b.size + 1 ≤ n := by
  obtain ⟨mm, hm, ⟨m0, k0, e0, h0, ⟨m1, k1, e1, h1, ⟨m2, k2, e2, h2, ⟨m3, k3, e3, h3, ⟨m4, k4, e4, h4, h5⟩⟩⟩⟩⟩⟩ := h
  exact ⟨(in_i64 h0), (in_u64 h1), (in_u64 h2), (in_u64 h3), (Nat.le_trans h4.2 (by omega)), (Nat.le_trans h5.2 (by omega))⟩
theorem Ca.Q_mono {a : Ca} {n m : Nat} (h : Ca.Q a n) (hm : n ≤ m) : Ca.Q a m := let ⟨k, h1, h2⟩ := h; ⟨k, Nat.le_trans h1 hm, h2⟩
theorem Ca.Q.pos {a : Ca} {n : Nat} (h : Ca.Q a n) : 1 ≤ n := let ⟨k, h1, _⟩ := h; by omega
def Kc.Q (x : Kc) (n : Nat) : Prop := Open.QSt (Open.QPair (Open.QSl (Open.QInt .u64)) (Open.QPair (Open.QSl Ca.Q) (Open.QInt .u64))) (x.d, x.l, x.key) n
theorem Kc.ok {a : Kc} {n : Nat} (h : Kc.Q a n) : (a.d.length + 1 ≤ n ∧ ∀ x ∈ a.d, 0 ≤ x ∧ x ≤ 18446744073709551615) ∧ (a.l.length + 1 ≤ n ∧ ∀ x ∈ a.l, Ca.Q x n) ∧ (0 ≤ a.key ∧ a.key ≤ 18446744073709551615) := by
  obtain ⟨mm, hm, ⟨m0, k0, e0, h0, ⟨m1, k1, e1, h1, h2⟩⟩⟩ := h
  exact ⟨(⟨Nat.le_trans (qsl_len h0 (fun _ _ h => h.2)) (by omega), fun x hx => let ⟨_, h⟩ := qsl_mem h0 x hx; in_u64 h.2⟩), (⟨Nat.le_trans (qsl_len h1 (fun _ _ h => h.pos)) (by omega), fun x hx => let ⟨_, h⟩ := qsl_mem h1 x hx; Ca.Q_mono h.2 (by omega)⟩), (in_u64 h2)⟩
theorem Kc.Q_mono {a : Kc} {n m : Nat} (h : Kc.Q a n) (hm : n ≤ m) : Kc.Q a m := let ⟨k, h1, h2⟩ := h; ⟨k, Nat.le_trans h1 hm, h2⟩
theorem Kc.Q.pos {a : Kc} {n : Nat} (h : Kc.Q a n) : 1 ≤ n := let ⟨k, h1, _⟩ := h; by omega
theorem KeysSteps_true (a0 : Kc) (n0 : Nat) (q0 : Kc.Q a0 n0) (a1 : (List Int)) (n1 : Nat) (q1 : (Open.QSl (Open.QInt .u64)) a1 n1) (a2 : (List Int)) (n2 : Nat) (q2 : (Open.QSl (Open.QInt .u64)) a2 n2) (hb : n0 + (n1 + (n2 + (0))) ≤ 1048576) :
    CW cfg [] 3 [Kc.enc a0, AVal.lst (a1.map (fun a : Int => AVal.int .u64 a)), AVal.lst (a2.map (fun a : Int => AVal.int .u64 a))] (fun _ => none) (fun v _ => v = .bool true) := by
  have h0 := Kc.ok q0; have h1 := qsl_len q1 (fun _ _ h => h.2); have h2 := qsl_len q2 (fun _ _ h => h.2)
  exact lawSteps a0 (by omega) (by omega) a1 a2 (by omega) (by omega) (fun n hn => by obtain ⟨m, hm, hq⟩ := qsl_mem q1 n hn; exact in_u64 hq) (fun n hn => by obtain ⟨m, hm, hq⟩ := qsl_mem q2 n hn; exact in_u64 hq) rfl
theorem KeysApart_true (a0 : Kc) (n0 : Nat) (q0 : Kc.Q a0 n0) (a1 : (List Int)) (n1 : Nat) (q1 : (Open.QSl (Open.QInt .u64)) a1 n1) (a2 : (List Int)) (n2 : Nat) (q2 : (Open.QSl (Open.QInt .u64)) a2 n2) (hb : n0 + (n1 + (n2 + (0))) ≤ 1048576) :
    CW cfg [] 5 [Kc.enc a0, AVal.lst (a1.map (fun a : Int => AVal.int .u64 a)), AVal.lst (a2.map (fun a : Int => AVal.int .u64 a))] (fun _ => none) (fun v _ => v = .bool true) := by
  have h0 := Kc.ok q0; have h1 := qsl_len q1 (fun _ _ h => h.2); have h2 := qsl_len q2 (fun _ _ h => h.2)
  exact lawApart a0 (by omega) (by omega) a1 a2 (by omega) (by omega) (fun n hn => by obtain ⟨m, hm, hq⟩ := qsl_mem q1 n hn; exact in_u64 hq) (fun n hn => by obtain ⟨m, hm, hq⟩ := qsl_mem q2 n hn; exact in_u64 hq) rfl
theorem KeysCount_true (a0 : Kc) (n0 : Nat) (q0 : Kc.Q a0 n0) (a1 : (List Int)) (n1 : Nat) (q1 : (Open.QSl (Open.QInt .u64)) a1 n1) (a2 : Int) (n2 : Nat) (q2 : (Open.QInt .u64) a2 n2) (hb : n0 + (n1 + (n2 + (0))) ≤ 1048576) :
    CW cfg [] 4 [Kc.enc a0, AVal.lst (a1.map (fun a : Int => AVal.int .u64 a)), AVal.int .u64 a2] (fun _ => none) (fun v _ => v = .bool true) := by
  have h0 := Kc.ok q0; have h1 := qsl_len q1 (fun _ _ h => h.2)
  exact lawCount a0 (by omega) (by omega) a1 a2 (by omega) (fun n hn => by obtain ⟨m, hm, hq⟩ := qsl_mem q1 n hn; exact in_u64 hq) (in_u64 q2) rfl
theorem KeysDerive_true (a0 : Kc) (n0 : Nat) (q0 : Kc.Q a0 n0) (a1 : (List Int)) (n1 : Nat) (q1 : (Open.QSl (Open.QInt .u64)) a1 n1) (a2 : Int) (n2 : Nat) (q2 : (Open.QInt .u64) a2 n2) (hb : n0 + (n1 + (n2 + (0))) ≤ 1048576) :
    CW cfg [] 6 [Kc.enc a0, AVal.lst (a1.map (fun a : Int => AVal.int .u64 a)), AVal.int .u64 a2] (fun _ => none) (fun v _ => v = .bool true) := by
  have h0 := Kc.ok q0; have h1 := qsl_len q1 (fun _ _ h => h.2)
  exact lawDerive a0 (by omega) (by omega) a1 a2 (by omega) (fun n hn => by obtain ⟨m, hm, hq⟩ := qsl_mem q1 n hn; exact in_u64 hq) (in_u64 q2) rfl
end Go.Proofs.Ytimdjcfkffkeiaa.X
