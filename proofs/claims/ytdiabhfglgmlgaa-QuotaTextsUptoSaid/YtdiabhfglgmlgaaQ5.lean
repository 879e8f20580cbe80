/- Layer 12: the laws for every argument. -/
import Derived.Test.YtdiabhfglgmlgaaI
import Derived.Test.YtdiabhfglgmlgaaQ4
set_option linter.unusedVariables false
namespace Go.Proofs.Ytdiabhfglgmlgaa.X
open Go Go.RowKit
structure Tw where
  a : Int
  b : Int
def Tw.enc (x : Tw) : AVal := .agg [.int .u64 x.a, .int .u64 x.b]
def Qu.Q (x : Qu) (n : Nat) : Prop := Open.QSt (Open.QPair (Open.QInt .u64) (Open.QPair (Open.QInt .u64) (Open.QInt .u64))) (x.tn, x.us, x.li) n
theorem Qu.ok {a : Qu} {n : Nat} (h : Qu.Q a n) : (0 ≤ a.tn ∧ a.tn ≤ 18446744073709551615) ∧ (0 ≤ a.us ∧ a.us ≤ 18446744073709551615) ∧ (0 ≤ a.li ∧ a.li ≤ 18446744073709551615) := by
  obtain ⟨mm, hm, ⟨m0, k0, e0, h0, ⟨m1, k1, e1, h1, h2⟩⟩⟩ := h
  exact ⟨(in_u64 h0), (in_u64 h1), (in_u64 h2)⟩
theorem Qu.Q_mono {a : Qu} {n m : Nat} (h : Qu.Q a n) (hm : n ≤ m) : Qu.Q a m := let ⟨k, h1, h2⟩ := h; ⟨k, Nat.le_trans h1 hm, h2⟩
theorem Qu.Q.pos {a : Qu} {n : Nat} (h : Qu.Q a n) : 1 ≤ n := let ⟨k, h1, _⟩ := h; by omega
def Tw.Q (x : Tw) (n : Nat) : Prop := Open.QSt (Open.QPair (Open.QInt .u64) (Open.QInt .u64)) (x.a, x.b) n
theorem Tw.ok {a : Tw} {n : Nat} (h : Tw.Q a n) : (0 ≤ a.a ∧ a.a ≤ 18446744073709551615) ∧ (0 ≤ a.b ∧ a.b ≤ 18446744073709551615) := by
  obtain ⟨mm, hm, ⟨m0, k0, e0, h0, h1⟩⟩ := h
  exact ⟨(in_u64 h0), (in_u64 h1)⟩
theorem Tw.Q_mono {a : Tw} {n m : Nat} (h : Tw.Q a n) (hm : n ≤ m) : Tw.Q a m := let ⟨k, h1, h2⟩ := h; ⟨k, Nat.le_trans h1 hm, h2⟩
theorem Tw.Q.pos {a : Tw} {n : Nat} (h : Tw.Q a n) : 1 ≤ n := let ⟨k, h1, _⟩ := h; by omega
theorem fit_of {a : List Qu} {n : Nat} (q : Open.QSl Qu.Q a n) : Fit a := fun x hx => by
  obtain ⟨m, _, hq⟩ := qsl_mem q x hx
  have := Qu.ok hq
  exact this
theorem QuotaChanges_true (a0 : (List Qu)) (n0 : Nat) (q0 : (Open.QSl Qu.Q) a0 n0) (a1 : Int) (n1 : Nat) (q1 : (Open.QInt .u64) a1 n1) (a2 : Int) (n2 : Nat) (q2 : (Open.QInt .u64) a2 n2) (hb : n0 + (n1 + (n2 + (0))) ≤ 1048576) :
    CW cfg [] 3 [AVal.lst (a0.map Qu.enc), AVal.int .u64 a1, AVal.int .u64 a2] (fun _ => none) (fun v _ => v = .bool true) := by
  have h0 := qsl_len q0 (fun _ _ h => h.pos)
  exact lawChanges a0 a1 a2 (by omega) (fit_of q0) (in_u64 q2) rfl
theorem QuotaBack_true (a0 : (List Qu)) (n0 : Nat) (q0 : (Open.QSl Qu.Q) a0 n0) (a1 : Int) (n1 : Nat) (q1 : (Open.QInt .u64) a1 n1) (a2 : Tw) (n2 : Nat) (q2 : Tw.Q a2 n2) (hb : n0 + (n1 + (n2 + (0))) ≤ 1048576) :
    CW cfg [] 4 [AVal.lst (a0.map Qu.enc), AVal.int .u64 a1, Tw.enc a2] (fun _ => none) (fun v _ => v = .bool true) := by
  have h0 := qsl_len q0 (fun _ _ h => h.pos)
  have h2 := Tw.ok q2
  exact lawBack a0 a1 a2.a a2.b (by omega) (fit_of q0) h2.1 h2.2 rfl
theorem QuotaStays_true (a0 : (List Qu)) (n0 : Nat) (q0 : (Open.QSl Qu.Q) a0 n0) (a1 : Int) (n1 : Nat) (q1 : (Open.QInt .u64) a1 n1) (a2 : Int) (n2 : Nat) (q2 : (Open.QInt .u64) a2 n2) (hb : n0 + (n1 + (n2 + (0))) ≤ 1048576) :
    CW cfg [] 5 [AVal.lst (a0.map Qu.enc), AVal.int .u64 a1, AVal.int .u64 a2] (fun _ => none) (fun v _ => v = .bool true) := by
  have h0 := qsl_len q0 (fun _ _ h => h.pos)
  exact lawStays a0 a1 a2 (by omega) (fit_of q0) (in_u64 q2) rfl
theorem QuotaLimits_true (a0 : (List Qu)) (n0 : Nat) (q0 : (Open.QSl Qu.Q) a0 n0) (a1 : Int) (n1 : Nat) (q1 : (Open.QInt .u64) a1 n1) (a2 : Int) (n2 : Nat) (q2 : (Open.QInt .u64) a2 n2) (hb : n0 + (n1 + (n2 + (0))) ≤ 1048576) :
    CW cfg [] 6 [AVal.lst (a0.map Qu.enc), AVal.int .u64 a1, AVal.int .u64 a2] (fun _ => none) (fun v _ => v = .bool true) := by
  have h0 := qsl_len q0 (fun _ _ h => h.pos)
  exact lawLimits a0 a1 a2 (by omega) (fit_of q0) (in_u64 q2) (in_u64 q1) rfl
end Go.Proofs.Ytdiabhfglgmlgaa.X
