/- Layer 05: the laws for every argument. -/
import Derived.Test.YtcihdjdcmahacaaSL4
set_option linter.unusedVariables false
namespace Go.Proofs.Ytcihdjdcmahacaa.X
open Go Go.RowKit
def Lf.Q (x : Lf) (n : Nat) : Prop := Open.QSt (Open.QPair (Open.QInt .u64) (Open.QPair (Open.QInt .u64) (Open.QPair (Open.QInt .u64) (Open.QInt .u64)))) (x.v, x.e, x.n, x.c) n
theorem Lf.ok {a : Lf} {n : Nat} (h : Lf.Q a n) : (0 ≤ a.v ∧ a.v ≤ 18446744073709551615) ∧ (0 ≤ a.e ∧ a.e ≤ 18446744073709551615) ∧ (0 ≤ a.n ∧ a.n ≤ 18446744073709551615) ∧ (0 ≤ a.c ∧ a.c ≤ 18446744073709551615) := by
  obtain ⟨mm, hm, ⟨m0, k0, e0, h0, ⟨m1, k1, e1, h1, ⟨m2, k2, e2, h2, h3⟩⟩⟩⟩ := h
  exact ⟨(in_u64 h0), (in_u64 h1), (in_u64 h2), (in_u64 h3)⟩
theorem Lf.Q_mono {a : Lf} {n m : Nat} (h : Lf.Q a n) (hm : n ≤ m) : Lf.Q a m := let ⟨k, h1, h2⟩ := h; ⟨k, Nat.le_trans h1 hm, h2⟩
theorem Lf.Q.pos {a : Lf} {n : Nat} (h : Lf.Q a n) : 1 ≤ n := let ⟨k, h1, _⟩ := h; by omega
def Cs.Q (x : Cs) (n : Nat) : Prop := Open.QSt (Open.QPair (Open.QSl (Open.QInt .u64)) (Open.QPair (Open.QInt .u64) (Open.QPair (Open.QInt .u64) (Open.QPair (Open.QInt .u64) (Open.QPair (Open.QInt .u64) (Open.QPair (Open.QInt .u64) Open.QStr)))))) (x.d, x.key, x.vol, x.sec, x.ver, x.ep, x.plain) n
theorem Cs.ok {a : Cs} {n : Nat} (h : Cs.Q a n) : (a.d.length + 1 ≤ n ∧ ∀ x ∈ a.d, 0 ≤ x ∧ x ≤ 18446744073709551615) ∧ (0 ≤ a.key ∧ a.key ≤ 18446744073709551615) ∧ (0 ≤ a.vol ∧ a.vol ≤ 18446744073709551615) ∧ (0 ≤ a.sec ∧ a.sec ≤ 18446744073709551615) ∧ (0 ≤ a.ver ∧ a.ver ≤ 18446744073709551615) ∧ (0 ≤ a.ep ∧ a.ep ≤ 18446744073709551615) ∧ a.plain.size + 1 ≤ n := by
  obtain ⟨mm, hm, ⟨m0, k0, e0, h0, ⟨m1, k1, e1, h1, ⟨m2, k2, e2, h2, ⟨m3, k3, e3, h3, ⟨m4, k4, e4, h4, ⟨m5, k5, e5, h5, h6⟩⟩⟩⟩⟩⟩⟩ := h
  exact ⟨(⟨Nat.le_trans (qsl_len h0 (fun _ _ h => h.2)) (by omega), fun x hx => let ⟨_, h⟩ := qsl_mem h0 x hx; in_u64 h.2⟩), (in_u64 h1), (in_u64 h2), (in_u64 h3), (in_u64 h4), (in_u64 h5), (Nat.le_trans h6.2 (by omega))⟩
theorem Cs.Q_mono {a : Cs} {n m : Nat} (h : Cs.Q a n) (hm : n ≤ m) : Cs.Q a m := let ⟨k, h1, h2⟩ := h; ⟨k, Nat.le_trans h1 hm, h2⟩
theorem Cs.Q.pos {a : Cs} {n : Nat} (h : Cs.Q a n) : 1 ≤ n := let ⟨k, h1, _⟩ := h; by omega
def Ot.Q (x : Ot) (n : Nat) : Prop := Open.QSt (Open.QPair Cs.Q (Open.QPair (Open.QInt .u64) (Open.QPair (Open.QInt .u64) (Open.QInt .u64)))) (x.x, x.key, x.vol, x.sec) n
theorem Ot.ok {a : Ot} {n : Nat} (h : Ot.Q a n) : Cs.Q a.x n ∧ (0 ≤ a.key ∧ a.key ≤ 18446744073709551615) ∧ (0 ≤ a.vol ∧ a.vol ≤ 18446744073709551615) ∧ (0 ≤ a.sec ∧ a.sec ≤ 18446744073709551615) := by
  obtain ⟨mm, hm, ⟨m0, k0, e0, h0, ⟨m1, k1, e1, h1, ⟨m2, k2, e2, h2, h3⟩⟩⟩⟩ := h
  exact ⟨(Cs.Q_mono h0 (by omega)), (in_u64 h1), (in_u64 h2), (in_u64 h3)⟩
theorem Ot.Q_mono {a : Ot} {n m : Nat} (h : Ot.Q a n) (hm : n ≤ m) : Ot.Q a m := let ⟨k, h1, h2⟩ := h; ⟨k, Nat.le_trans h1 hm, h2⟩
theorem Ot.Q.pos {a : Ot} {n : Nat} (h : Ot.Q a n) : 1 ≤ n := let ⟨k, h1, _⟩ := h; by omega
theorem Cs.good_of {a : Cs} {n : Nat} (h : Cs.Q a n) (hn : n ≤ 1048576) : a.good := by
  have h0 := Cs.ok h
  exact ⟨by omega, by omega, by omega, by omega, by omega⟩
theorem SealTexts_true (a0 : Lf) (n0 : Nat) (q0 : Lf.Q a0 n0) (a1 : ByteArray) (n1 : Nat) (q1 : Open.QStr a1 n1) (hb : n0 + (n1 + (0)) ≤ 1048576) :
    CW cfg [] 3 [Lf.enc a0, AVal.str a1] (fun _ => none) (fun v _ => v = .bool true) :=
  lawTexts a0 a1 (Lf.ok q0) (by have := q1.2; omega) rfl
theorem SealOpens_true (a0 : Ot) (n0 : Nat) (q0 : Ot.Q a0 n0) (hb : n0 + (0) ≤ 1048576) :
    CW cfg [] 5 [Ot.enc a0] (fun _ => none) (fun v _ => v = .bool true) := by
  have h0 := Ot.ok q0
  exact lawOpens a0 (Cs.good_of h0.1 (by omega)) h0.2.2.1 h0.2.2.2 rfl
theorem SealBinds_true (a0 : Cs) (n0 : Nat) (q0 : Cs.Q a0 n0) (a1 : Lf) (n1 : Nat) (q1 : Lf.Q a1 n1) (hb : n0 + (n1 + (0)) ≤ 1048576) :
    CW cfg [] 6 [Cs.enc a0, Lf.enc a1] (fun _ => none) (fun v _ => v = .bool true) :=
  lawBinds a0 a1 (Cs.good_of q0 (by omega)) (Lf.ok q1) rfl
theorem SealLocks_true (a0 : Cs) (n0 : Nat) (q0 : Cs.Q a0 n0) (a1 : Lf) (n1 : Nat) (q1 : Lf.Q a1 n1) (hb : n0 + (n1 + (0)) ≤ 1048576) :
    CW cfg [] 8 [Cs.enc a0, Lf.enc a1] (fun _ => none) (fun v _ => v = .bool true) :=
  lawLocks a0 a1 (Cs.good_of q0 (by omega)) (Cs.ok q0).2.1 (Lf.ok q1) rfl
theorem SealFresh_true (a0 : Cs) (n0 : Nat) (q0 : Cs.Q a0 n0) (a1 : ByteArray) (n1 : Nat) (q1 : Open.QStr a1 n1) (hb : n0 + (n1 + (0)) ≤ 1048576) :
    CW cfg [] 4 [Cs.enc a0, AVal.str a1] (fun _ => none) (fun v _ => v = .bool true) :=
  lawFresh a0 a1 (Cs.good_of q0 (by omega)) rfl
theorem SealKeeps_true (a0 : Cs) (n0 : Nat) (q0 : Cs.Q a0 n0) (a1 : (List ByteArray)) (n1 : Nat) (q1 : (Open.QSl Open.QStr) a1 n1) (hb : n0 + (n1 + (0)) ≤ 1048576) :
    CW cfg [] 7 [Cs.enc a0, AVal.lst (a1.map (fun s : ByteArray => AVal.str s))] (fun _ => none) (fun v _ => v = .bool true) := by
  have h1 := qsl_len q1 (fun _ _ h => Nat.le_trans (by omega) h.2)
  exact lawKeeps a0 a1 (Cs.good_of q0 (by omega)) (by omega) rfl
end Go.Proofs.Ytcihdjdcmahacaa.X
