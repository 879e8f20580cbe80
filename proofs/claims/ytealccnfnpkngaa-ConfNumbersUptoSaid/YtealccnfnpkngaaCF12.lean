/- Layer 14: ConfRuns, ConfBalanced, ConfNumbers for every argument. -/
import Derived.Test.YtealccnfnpkngaaCF11
import Derived.Test.YtealccnfnpkngaaI
set_option linter.unusedVariables false
namespace Go.Proofs.Ytealccnfnpkngaa.X
open Go Go.RowKit
def Qu.Q (x : Qu) (n : Nat) : Prop := Open.QSt (Open.QPair (Open.QInt .u64) (Open.QPair (Open.QInt .u64) (Open.QInt .u64))) (x.tn, x.us, x.li) n
theorem Qu.ok {a : Qu} {n : Nat} (h : Qu.Q a n) : (0 ≤ a.tn ∧ a.tn ≤ 18446744073709551615) ∧ (0 ≤ a.us ∧ a.us ≤ 18446744073709551615) ∧ (0 ≤ a.li ∧ a.li ≤ 18446744073709551615) := by
  obtain ⟨mm, hm, ⟨m0, k0, e0, h0, ⟨m1, k1, e1, h1, h2⟩⟩⟩ := h
  exact ⟨(in_u64 h0), (in_u64 h1), (in_u64 h2)⟩
theorem Qu.Q_mono {a : Qu} {n m : Nat} (h : Qu.Q a n) (hm : n ≤ m) : Qu.Q a m := let ⟨k, h1, h2⟩ := h; ⟨k, Nat.le_trans h1 hm, h2⟩
theorem Qu.Q.pos {a : Qu} {n : Nat} (h : Qu.Q a n) : 1 ≤ n := let ⟨k, h1, _⟩ := h; by omega
def Pl.Q (x : Pl) (n : Nat) : Prop := Open.QSt (Open.QPair (Open.QInt .u64) (Open.QPair (Open.QInt .u64) (Open.QPair (Open.QInt .u64) (Open.QPair (Open.QInt .u64) (Open.QInt .u64))))) (x.vo, x.te, x.de, x.ep, x.gr) n
theorem Pl.ok {a : Pl} {n : Nat} (h : Pl.Q a n) : (0 ≤ a.vo ∧ a.vo ≤ 18446744073709551615) ∧ (0 ≤ a.te ∧ a.te ≤ 18446744073709551615) ∧ (0 ≤ a.de ∧ a.de ≤ 18446744073709551615) ∧ (0 ≤ a.ep ∧ a.ep ≤ 18446744073709551615) ∧ (0 ≤ a.gr ∧ a.gr ≤ 18446744073709551615) := by
  obtain ⟨mm, hm, ⟨m0, k0, e0, h0, ⟨m1, k1, e1, h1, ⟨m2, k2, e2, h2, ⟨m3, k3, e3, h3, h4⟩⟩⟩⟩⟩ := h
  exact ⟨(in_u64 h0), (in_u64 h1), (in_u64 h2), (in_u64 h3), (in_u64 h4)⟩
theorem Pl.Q_mono {a : Pl} {n m : Nat} (h : Pl.Q a n) (hm : n ≤ m) : Pl.Q a m := let ⟨k, h1, h2⟩ := h; ⟨k, Nat.le_trans h1 hm, h2⟩
theorem Pl.Q.pos {a : Pl} {n : Nat} (h : Pl.Q a n) : 1 ≤ n := let ⟨k, h1, _⟩ := h; by omega
def Cf.Q (x : Cf) (n : Nat) : Prop := Open.QSt (Open.QPair (Open.QSl Qu.Q) (Open.QPair (Open.QSl Pl.Q) (Open.QInt .u64))) (x.qs, x.ps, x.nx) n
theorem Cf.ok {a : Cf} {n : Nat} (h : Cf.Q a n) : (a.qs.length + 1 ≤ n ∧ ∀ x ∈ a.qs, Qu.Q x n) ∧ (a.ps.length + 1 ≤ n ∧ ∀ x ∈ a.ps, Pl.Q x n) ∧ (0 ≤ a.nx ∧ a.nx ≤ 18446744073709551615) := by
  obtain ⟨mm, hm, ⟨m0, k0, e0, h0, ⟨m1, k1, e1, h1, h2⟩⟩⟩ := h
  exact ⟨(⟨Nat.le_trans (qsl_len h0 (fun _ _ h => h.pos)) (by omega), fun x hx => let ⟨_, h⟩ := qsl_mem h0 x hx; Qu.Q_mono h.2 (by omega)⟩), (⟨Nat.le_trans (qsl_len h1 (fun _ _ h => h.pos)) (by omega), fun x hx => let ⟨_, h⟩ := qsl_mem h1 x hx; Pl.Q_mono h.2 (by omega)⟩), (in_u64 h2)⟩
theorem Cf.Q_mono {a : Cf} {n m : Nat} (h : Cf.Q a n) (hm : n ≤ m) : Cf.Q a m := let ⟨k, h1, h2⟩ := h; ⟨k, Nat.le_trans h1 hm, h2⟩
theorem Cf.Q.pos {a : Cf} {n : Nat} (h : Cf.Q a n) : 1 ≤ n := let ⟨k, h1, _⟩ := h; by omega
def Dc.Q (x : Dc) (n : Nat) : Prop := Open.QSt (Open.QPair (Open.QInt .i64) (Open.QPair (Open.QInt .u64) (Open.QInt .u64))) (x.d, x.a, x.b) n
theorem Dc.ok {a : Dc} {n : Nat} (h : Dc.Q a n) : (-9223372036854775808 ≤ a.d ∧ a.d ≤ 9223372036854775807) ∧ (0 ≤ a.a ∧ a.a ≤ 18446744073709551615) ∧ (0 ≤ a.b ∧ a.b ≤ 18446744073709551615) := by
  obtain ⟨mm, hm, ⟨m0, k0, e0, h0, ⟨m1, k1, e1, h1, h2⟩⟩⟩ := h
  exact ⟨(in_i64 h0), (in_u64 h1), (in_u64 h2)⟩
theorem Dc.Q_mono {a : Dc} {n m : Nat} (h : Dc.Q a n) (hm : n ≤ m) : Dc.Q a m := let ⟨k, h1, h2⟩ := h; ⟨k, Nat.le_trans h1 hm, h2⟩
theorem Dc.Q.pos {a : Dc} {n : Nat} (h : Dc.Q a n) : 1 ≤ n := let ⟨k, h1, _⟩ := h; by omega
theorem cf_fits {c : Cf} {n : Nat} (h : Cf.Q c n) (hn : n ≤ 1048576) : c.fit := by
  obtain ⟨⟨h1, h2⟩, ⟨h3, h4⟩, h5⟩ := Cf.ok h
  exact ⟨fun x hx => Qu.ok (h2 x hx), fun x hx => Pl.ok (h4 x hx), h5, by omega, by omega⟩
theorem dc_fits {l : List Dc} {n : Nat} (q : Open.QSl Dc.Q l n) : ∀ x ∈ l, x.fit := fun x hx => by
  obtain ⟨m, _, hq⟩ := qsl_mem q x hx
  have := Dc.ok hq
  exact ⟨this.2.1, this.2.2⟩
theorem ConfRuns_true (a0 : Cf) (n0 : Nat) (q0 : Cf.Q a0 n0) (a1 : Int) (n1 : Nat) (q1 : (Open.QInt .i64) a1 n1) (a2 : (List Dc)) (n2 : Nat) (q2 : Open.QSl Dc.Q a2 n2) (hb : n0 + (n1 + (n2 + (0))) ≤ 1048576) :
    CW cfg [] 3 [Cf.enc a0, AVal.int .i64 a1, AVal.lst (a2.map Dc.enc)] (fun _ => none) (fun v _ => v = .bool true) := by
  have h0 := qsl_len q2 (fun _ _ h => h.pos)
  exact lawRuns (cf_fits q0 (by omega)) (by omega) (dc_fits q2) rfl
theorem ConfBalanced_true (a0 : Int) (n0 : Nat) (q0 : (Open.QInt .i64) a0 n0) (a1 : (List Dc)) (n1 : Nat) (q1 : Open.QSl Dc.Q a1 n1) (hb : n0 + (n1 + (0)) ≤ 1048576) :
    CW cfg [] 4 [AVal.int .i64 a0, AVal.lst (a1.map Dc.enc)] (fun _ => none) (fun v _ => v = .bool true) := by
  have h0 := qsl_len q1 (fun _ _ h => h.pos)
  exact lawBalanced (by omega) (dc_fits q1) rfl
theorem ConfNumbers_true (a0 : (List Dc)) (n0 : Nat) (q0 : Open.QSl Dc.Q a0 n0) (hb : n0 + (0) ≤ 1048576) :
    CW cfg [] 5 [AVal.lst (a0.map Dc.enc)] (fun _ => none) (fun v _ => v = .bool true) := by
  have h0 := qsl_len q0 (fun _ _ h => h.pos)
  exact lawNumbers (by omega) (dc_fits q0) rfl
end Go.Proofs.Ytealccnfnpkngaa.X
