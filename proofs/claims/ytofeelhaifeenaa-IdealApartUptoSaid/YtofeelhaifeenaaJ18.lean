/- Layer 03: the laws for every argument. -/
import Derived.Test.YtofeelhaifeenaaJ10
import Derived.Test.YtofeelhaifeenaaJ17
set_option linter.unusedVariables false
namespace Go.Proofs.Ytofeelhaifeenaa.X
open Go Go.RowKit
def Tw.Q (x : Tw) (n : Nat) : Prop := Open.QSt (Open.QPair Open.QStr (Open.QPair Open.QStr (Open.QPair (Open.QInt .u64) (Open.QPair (Open.QInt .u64) (Open.QInt .u64))))) (x.a, x.b, x.k, x.l, x.n) n
theorem Tw.ok {a : Tw} {n : Nat} (h : Tw.Q a n) : a.a.size + 1 ≤ n ∧ a.b.size + 1 ≤ n ∧ (0 ≤ a.k ∧ a.k ≤ 18446744073709551615) ∧ (0 ≤ a.l ∧ a.l ≤ 18446744073709551615) ∧ (0 ≤ a.n ∧ a.n ≤ 18446744073709551615) := by
  obtain ⟨mm, hm, ⟨m0, k0, e0, h0, ⟨m1, k1, e1, h1, ⟨m2, k2, e2, h2, ⟨m3, k3, e3, h3, h4⟩⟩⟩⟩⟩ := h
  exact ⟨(Nat.le_trans h0.2 (by omega)), (Nat.le_trans h1.2 (by omega)), (in_u64 h2), (in_u64 h3), (in_u64 h4)⟩
theorem Tw.Q_mono {a : Tw} {n m : Nat} (h : Tw.Q a n) (hm : n ≤ m) : Tw.Q a m := let ⟨k, h1, h2⟩ := h; ⟨k, Nat.le_trans h1 hm, h2⟩
theorem Tw.Q.pos {a : Tw} {n : Nat} (h : Tw.Q a n) : 1 ≤ n := let ⟨k, h1, _⟩ := h; by omega
theorem IdealShown_true (a0 : (List Int)) (n0 : Nat) (q0 : (Open.QSl (Open.QInt .u64)) a0 n0) (a1 : (List Ca)) (n1 : Nat) (q1 : (Open.QSl Ca.Q) a1 n1) (a2 : Int) (n2 : Nat) (q2 : (Open.QInt .u64) a2 n2) (hb : n0 + (n1 + (n2 + (0))) ≤ 1048576) :
    CW cfg [] 7 [AVal.lst (a0.map (fun a : Int => AVal.int .u64 a)), AVal.lst (a1.map Ca.enc), AVal.int .u64 a2] (fun _ => none) (fun v _ => v = .bool true) := by
  have h0 := qsl_len q0 (fun _ _ h => h.2); have h1 := qsl_len q1 (fun _ _ h => h.pos)
  exact lawShown a0 a1 a2 (by omega) (by omega) rfl
theorem IdealDraws_true (a0 : (List Int)) (n0 : Nat) (q0 : (Open.QSl (Open.QInt .u64)) a0 n0) (a1 : (List Ca)) (n1 : Nat) (q1 : (Open.QSl Ca.Q) a1 n1) (a2 : ByteArray) (n2 : Nat) (q2 : Open.QStr a2 n2) (hb : n0 + (n1 + (n2 + (0))) ≤ 1048576) :
    CW cfg [] 8 [AVal.lst (a0.map (fun a : Int => AVal.int .u64 a)), AVal.lst (a1.map Ca.enc), AVal.str a2] (fun _ => none) (fun v _ => v = .bool true) := by
  have h0 := qsl_len q0 (fun _ _ h => h.2); have h1 := qsl_len q1 (fun _ _ h => h.pos)
  exact lawDraws a0 a1 a2 (by omega) (by omega) (by have := q2.2; omega) rfl
theorem IdealOpens_true (a0 : (List Int)) (n0 : Nat) (q0 : (Open.QSl (Open.QInt .u64)) a0 n0) (a1 : (List Ca)) (n1 : Nat) (q1 : (Open.QSl Ca.Q) a1 n1) (a2 : Tw) (n2 : Nat) (q2 : Tw.Q a2 n2) (hb : n0 + (n1 + (n2 + (0))) ≤ 1048576) :
    CW cfg [] 5 [AVal.lst (a0.map (fun a : Int => AVal.int .u64 a)), AVal.lst (a1.map Ca.enc), Tw.enc a2] (fun _ => none) (fun v _ => v = .bool true) := by
  have h0 := qsl_len q0 (fun _ _ h => h.2); have h1 := qsl_len q1 (fun _ _ h => h.pos); have h2 := Tw.ok q2
  exact lawOpens a0 a1 a2 (by omega) (by omega) (by omega) h2.2.2.2.2 rfl
theorem IdealAgain_true (a0 : (List Int)) (n0 : Nat) (q0 : (Open.QSl (Open.QInt .u64)) a0 n0) (a1 : (List Ca)) (n1 : Nat) (q1 : (Open.QSl Ca.Q) a1 n1) (a2 : Tw) (n2 : Nat) (q2 : Tw.Q a2 n2) (hb : n0 + (n1 + (n2 + (0))) ≤ 1048576) :
    CW cfg [] 6 [AVal.lst (a0.map (fun a : Int => AVal.int .u64 a)), AVal.lst (a1.map Ca.enc), Tw.enc a2] (fun _ => none) (fun v _ => v = .bool true) := by
  have h0 := qsl_len q0 (fun _ _ h => h.2); have h1 := qsl_len q1 (fun _ _ h => h.pos); have h2 := Tw.ok q2
  exact lawAgain a0 a1 a2 (by omega) (by omega) (by omega) rfl
theorem IdealApart_true (a0 : (List Int)) (n0 : Nat) (q0 : (Open.QSl (Open.QInt .u64)) a0 n0) (a1 : (List Ca)) (n1 : Nat) (q1 : (Open.QSl Ca.Q) a1 n1) (a2 : Tw) (n2 : Nat) (q2 : Tw.Q a2 n2) (hb : n0 + (n1 + (n2 + (0))) ≤ 1048576) :
    CW cfg [] 4 [AVal.lst (a0.map (fun a : Int => AVal.int .u64 a)), AVal.lst (a1.map Ca.enc), Tw.enc a2] (fun _ => none) (fun v _ => v = .bool true) := by
  have h0 := qsl_len q0 (fun _ _ h => h.2); have h1 := qsl_len q1 (fun _ _ h => h.pos); have h2 := Tw.ok q2
  exact lawApart a0 a1 a2 (by omega) (by omega) (by omega) rfl
end Go.Proofs.Ytofeelhaifeenaa.X
