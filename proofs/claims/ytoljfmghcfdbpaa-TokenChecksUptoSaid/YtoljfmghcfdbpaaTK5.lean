/- Layer 07: the laws for every argument. -/
import Derived.Test.YtoljfmghcfdbpaaTK4
set_option linter.unusedVariables false
namespace Go.Proofs.Ytoljfmghcfdbpaa.X
open Go Go.RowKit
def Tk.Q (x : Tk) (n : Nat) : Prop := Open.QSt (Open.QPair (Open.QInt .u64) (Open.QPair (Open.QInt .u64) (Open.QPair (Open.QInt .u64) (Open.QPair (Open.QInt .u64) (Open.QInt .u64))))) (x.tn, x.vo, x.ep, x.ri, x.tag) n
theorem Tk.ok {a : Tk} {n : Nat} (h : Tk.Q a n) : (0 ≤ a.tn ∧ a.tn ≤ 18446744073709551615) ∧ (0 ≤ a.vo ∧ a.vo ≤ 18446744073709551615) ∧ (0 ≤ a.ep ∧ a.ep ≤ 18446744073709551615) ∧ (0 ≤ a.ri ∧ a.ri ≤ 18446744073709551615) ∧ (0 ≤ a.tag ∧ a.tag ≤ 18446744073709551615) := by
  obtain ⟨mm, hm, ⟨m0, k0, e0, h0, ⟨m1, k1, e1, h1, ⟨m2, k2, e2, h2, ⟨m3, k3, e3, h3, h4⟩⟩⟩⟩⟩ := h
  exact ⟨(in_u64 h0), (in_u64 h1), (in_u64 h2), (in_u64 h3), (in_u64 h4)⟩
theorem Tk.Q_mono {a : Tk} {n m : Nat} (h : Tk.Q a n) (hm : n ≤ m) : Tk.Q a m := let ⟨k, h1, h2⟩ := h; ⟨k, Nat.le_trans h1 hm, h2⟩
theorem Tk.Q.pos {a : Tk} {n : Nat} (h : Tk.Q a n) : 1 ≤ n := let ⟨k, h1, _⟩ := h; by omega
def Us.Q (x : Us) (n : Nat) : Prop := Open.QSt (Open.QPair (Open.QSl (Open.QInt .u64)) (Open.QPair (Open.QInt .u64) (Open.QSl Tk.Q))) (x.d, x.key, x.iss) n
theorem Us.ok {a : Us} {n : Nat} (h : Us.Q a n) : (a.d.length + 1 ≤ n ∧ ∀ x ∈ a.d, 0 ≤ x ∧ x ≤ 18446744073709551615) ∧ (0 ≤ a.key ∧ a.key ≤ 18446744073709551615) ∧ (a.iss.length + 1 ≤ n ∧ ∀ x ∈ a.iss, Tk.Q x n) := by
  obtain ⟨mm, hm, ⟨m0, k0, e0, h0, ⟨m1, k1, e1, h1, h2⟩⟩⟩ := h
  exact ⟨(⟨Nat.le_trans (qsl_len h0 (fun _ _ h => h.2)) (by omega), fun x hx => let ⟨_, h⟩ := qsl_mem h0 x hx; in_u64 h.2⟩), (in_u64 h1), (⟨Nat.le_trans (qsl_len h2 (fun _ _ h => h.pos)) (by omega), fun x hx => let ⟨_, h⟩ := qsl_mem h2 x hx; Tk.Q_mono h.2 (by omega)⟩)⟩
theorem Us.Q_mono {a : Us} {n m : Nat} (h : Us.Q a n) (hm : n ≤ m) : Us.Q a m := let ⟨k, h1, h2⟩ := h; ⟨k, Nat.le_trans h1 hm, h2⟩
theorem Us.Q.pos {a : Us} {n : Nat} (h : Us.Q a n) : 1 ≤ n := let ⟨k, h1, _⟩ := h; by omega
def As.Q (x : As) (n : Nat) : Prop := Open.QSt (Open.QPair Tk.Q (Open.QPair (Open.QInt .u64) (Open.QPair (Open.QInt .u64) (Open.QInt .u64)))) (x.t, x.vol, x.ep, x.want) n
theorem As.ok {a : As} {n : Nat} (h : As.Q a n) : Tk.Q a.t n ∧ (0 ≤ a.vol ∧ a.vol ≤ 18446744073709551615) ∧ (0 ≤ a.ep ∧ a.ep ≤ 18446744073709551615) ∧ (0 ≤ a.want ∧ a.want ≤ 18446744073709551615) := by
  obtain ⟨mm, hm, ⟨m0, k0, e0, h0, ⟨m1, k1, e1, h1, ⟨m2, k2, e2, h2, h3⟩⟩⟩⟩ := h
  exact ⟨(Tk.Q_mono h0 (by omega)), (in_u64 h1), (in_u64 h2), (in_u64 h3)⟩
theorem As.Q_mono {a : As} {n m : Nat} (h : As.Q a n) (hm : n ≤ m) : As.Q a m := let ⟨k, h1, h2⟩ := h; ⟨k, Nat.le_trans h1 hm, h2⟩
theorem As.Q.pos {a : As} {n : Nat} (h : As.Q a n) : 1 ≤ n := let ⟨k, h1, _⟩ := h; by omega
def Le.Q (x : Le) (n : Nat) : Prop := Open.QSt (Open.QPair Us.Q (Open.QPair As.Q (Open.QPair (Open.QInt .u64) (Open.QInt .u64)))) (x.x, x.a, x.ahead, x.less) n
theorem Le.ok {a : Le} {n : Nat} (h : Le.Q a n) : Us.Q a.x n ∧ As.Q a.a n ∧ (0 ≤ a.ahead ∧ a.ahead ≤ 18446744073709551615) ∧ (0 ≤ a.less ∧ a.less ≤ 18446744073709551615) := by
  obtain ⟨mm, hm, ⟨m0, k0, e0, h0, ⟨m1, k1, e1, h1, ⟨m2, k2, e2, h2, h3⟩⟩⟩⟩ := h
  exact ⟨(Us.Q_mono h0 (by omega)), (As.Q_mono h1 (by omega)), (in_u64 h2), (in_u64 h3)⟩
theorem Le.Q_mono {a : Le} {n m : Nat} (h : Le.Q a n) (hm : n ≤ m) : Le.Q a m := let ⟨k, h1, h2⟩ := h; ⟨k, Nat.le_trans h1 hm, h2⟩
theorem Le.Q.pos {a : Le} {n : Nat} (h : Le.Q a n) : 1 ≤ n := let ⟨k, h1, _⟩ := h; by omega
theorem Us.good_of {a : Us} {n : Nat} (h : Us.Q a n) (hn : n ≤ 1048576) : a.good := by
  have h0 := Us.ok h
  exact ⟨by omega, by omega, fun t ht => Tk.ok (h0.2.2.2 t ht)⟩
theorem TokenTexts_true (a0 : Tk) (n0 : Nat) (q0 : Tk.Q a0 n0) (a1 : ByteArray) (n1 : Nat) (q1 : Open.QStr a1 n1) (hb : n0 + (n1 + (0)) ≤ 1048576) :
    CW cfg [] 3 [Tk.enc a0, AVal.str a1] (fun _ => none) (fun v _ => v = .bool true) :=
  lawTexts a0 a1 (Tk.ok q0) (by have := q1.2; omega) rfl
theorem TokenForged_true (a0 : Us) (n0 : Nat) (q0 : Us.Q a0 n0) (a1 : As) (n1 : Nat) (q1 : As.Q a1 n1) (hb : n0 + (n1 + (0)) ≤ 1048576) :
    CW cfg [] 5 [Us.enc a0, As.enc a1] (fun _ => none) (fun v _ => v = .bool true) :=
  lawForged a0 a1 (Us.good_of q0 (by omega)) (Tk.ok (As.ok q1).1) rfl
theorem TokenApart_true (a0 : Us) (n0 : Nat) (q0 : Us.Q a0 n0) (hb : n0 + (0) ≤ 1048576) :
    CW cfg [] 6 [Us.enc a0] (fun _ => none) (fun v _ => v = .bool true) :=
  lawApart a0 (Us.good_of q0 (by omega)) rfl
theorem TokenEpochs_true (a0 : Le) (n0 : Nat) (q0 : Le.Q a0 n0) (hb : n0 + (0) ≤ 1048576) :
    CW cfg [] 4 [Le.enc a0] (fun _ => none) (fun v _ => v = .bool true) :=
  lawEpochs a0 (Us.good_of (Le.ok q0).1 (by omega)) (Tk.ok (As.ok (Le.ok q0).2.1).1) rfl
end Go.Proofs.Ytoljfmghcfdbpaa.X
