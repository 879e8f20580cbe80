/- Layer 19: MeshPlays for every argument. -/
import Derived.Test.YtollcfhmmlpleaaM15
import Derived.Test.YtollcfhmmlpleaaI
set_option linter.unusedVariables false
namespace Go.Proofs.Ytollcfhmmlpleaa.X
open Go Go.RowKit
def Lt.Q (x : Lt) (n : Nat) : Prop := Open.QSt (Open.QPair (Open.QInt .u64) (Open.QPair (Open.QInt .u64) Open.QStr)) (x.f, x.t, x.s) n
theorem Lt.ok {a : Lt} {n : Nat} (h : Lt.Q a n) : (0 ≤ a.f ∧ a.f ≤ 18446744073709551615) ∧ (0 ≤ a.t ∧ a.t ≤ 18446744073709551615) ∧ a.s.size + 1 ≤ n := by
  obtain ⟨mm, hm, ⟨m0, k0, e0, h0, ⟨m1, k1, e1, h1, h2⟩⟩⟩ := h
  exact ⟨(in_u64 h0), (in_u64 h1), (Nat.le_trans h2.2 (by omega))⟩
theorem Lt.Q_mono {a : Lt} {n m : Nat} (h : Lt.Q a n) (hm : n ≤ m) : Lt.Q a m := let ⟨k, h1, h2⟩ := h; ⟨k, Nat.le_trans h1 hm, h2⟩
theorem Lt.Q.pos {a : Lt} {n : Nat} (h : Lt.Q a n) : 1 ≤ n := let ⟨k, h1, _⟩ := h; by omega
def Ac.Q (x : Ac) (n : Nat) : Prop := Open.QSt (Open.QPair (Open.QInt .i64) (Open.QPair (Open.QInt .i64) (Open.QPair (Open.QSl Lt.Q) (Open.QPair (Open.QInt .u64) (Open.QInt .u64))))) (x.d, x.pk, x.l, x.f, x.t) n
theorem Ac.ok {a : Ac} {n : Nat} (h : Ac.Q a n) : (-9223372036854775808 ≤ a.d ∧ a.d ≤ 9223372036854775807) ∧ (-9223372036854775808 ≤ a.pk ∧ a.pk ≤ 9223372036854775807) ∧ (a.l.length + 1 ≤ n ∧ ∀ x ∈ a.l, Lt.Q x n) ∧ (0 ≤ a.f ∧ a.f ≤ 18446744073709551615) ∧ (0 ≤ a.t ∧ a.t ≤ 18446744073709551615) := by
  obtain ⟨mm, hm, ⟨m0, k0, e0, h0, ⟨m1, k1, e1, h1, ⟨m2, k2, e2, h2, ⟨m3, k3, e3, h3, h4⟩⟩⟩⟩⟩ := h
  exact ⟨(in_i64 h0), (in_i64 h1), (⟨Nat.le_trans (qsl_len h2 (fun _ _ h => h.pos)) (by omega), fun x hx => let ⟨_, h⟩ := qsl_mem h2 x hx; Lt.Q_mono h.2 (by omega)⟩), (in_u64 h3), (in_u64 h4)⟩
theorem Ac.Q_mono {a : Ac} {n m : Nat} (h : Ac.Q a n) (hm : n ≤ m) : Ac.Q a m := let ⟨k, h1, h2⟩ := h; ⟨k, Nat.le_trans h1 hm, h2⟩
theorem Ac.Q.pos {a : Ac} {n : Nat} (h : Ac.Q a n) : 1 ≤ n := let ⟨k, h1, _⟩ := h; by omega
theorem MeshPlays_true (a0 : (List Ac)) (n0 : Nat) (q0 : (Open.QSl Ac.Q) a0 n0) (hb : n0 + (0) ≤ 1048576) :
    CW cfg [] 6 [AVal.lst (a0.map Ac.enc)] (fun _ => none) (fun v _ => v = .bool true) := by
  have h0 := qsl_len q0 (fun _ _ h => h.pos)
  exact lawPlays a0 (by omega) (fun x hx => by obtain ⟨m, hm, hq⟩ := qsl_mem q0 x hx; have := Ac.ok hq; exact ⟨this.2.1, by omega⟩) rfl
end Go.Proofs.Ytollcfhmmlpleaa.X
