/- Layer 24: HistTurns, HistWider, HistReads for every argument. -/
import Derived.Test.YtgeadlkaniggdaaHS14
set_option linter.unusedVariables false
namespace Go.Proofs.Ytgeadlkaniggdaa.X
open Go Go.RowKit HM
def Tu.Q (x : Tu) (n : Nat) : Prop := Open.QSt (Open.QPair Open.QBool (Open.QPair Open.QStr (Open.QPair (Open.QInt .i64) (Open.QInt .i64)))) (x.w, x.tx, x.ea, x.la) n
theorem Tu.ok {a : Tu} {n : Nat} (h : Tu.Q a n) : 1 ≤ n ∧ a.tx.size + 1 ≤ n ∧ (-9223372036854775808 ≤ a.ea ∧ a.ea ≤ 9223372036854775807) ∧ (-9223372036854775808 ≤ a.la ∧ a.la ≤ 9223372036854775807) := by
  obtain ⟨mm, hm, ⟨m0, k0, e0, h0, ⟨m1, k1, e1, h1, ⟨m2, k2, e2, h2, h3⟩⟩⟩⟩ := h
  exact ⟨(by omega), (Nat.le_trans h1.2 (by omega)), (in_i64 h2), (in_i64 h3)⟩
theorem Tu.Q_mono {a : Tu} {n m : Nat} (h : Tu.Q a n) (hm : n ≤ m) : Tu.Q a m := let ⟨k, h1, h2⟩ := h; ⟨k, Nat.le_trans h1 hm, h2⟩
theorem Tu.Q.pos {a : Tu} {n : Nat} (h : Tu.Q a n) : 1 ≤ n := let ⟨k, h1, _⟩ := h; by omega
def A3.Q (x : A3) (n : Nat) : Prop := Open.QSt (Open.QPair (Open.QInt .i64) (Open.QPair (Open.QInt .i64) (Open.QInt .i64))) (x.x, x.y, x.z) n
theorem A3.ok {a : A3} {n : Nat} (h : A3.Q a n) : (-9223372036854775808 ≤ a.x ∧ a.x ≤ 9223372036854775807) ∧ (-9223372036854775808 ≤ a.y ∧ a.y ≤ 9223372036854775807) ∧ (-9223372036854775808 ≤ a.z ∧ a.z ≤ 9223372036854775807) := by
  obtain ⟨mm, hm, ⟨m0, k0, e0, h0, ⟨m1, k1, e1, h1, h2⟩⟩⟩ := h
  exact ⟨(in_i64 h0), (in_i64 h1), (in_i64 h2)⟩
theorem A3.Q_mono {a : A3} {n m : Nat} (h : A3.Q a n) (hm : n ≤ m) : A3.Q a m := let ⟨k, h1, h2⟩ := h; ⟨k, Nat.le_trans h1 hm, h2⟩
theorem A3.Q.pos {a : A3} {n : Nat} (h : A3.Q a n) : 1 ≤ n := let ⟨k, h1, _⟩ := h; by omega
theorem HistTurns_true (a0 : (List Tu)) (n0 : Nat) (q0 : Open.QSl Tu.Q a0 n0) (a1 : Int) (n1 : Nat) (q1 : (Open.QInt .i64) a1 n1) (hb : n0 + (n1 + (0)) ≤ 1048576) :
    CW cfg [] 5 [AVal.lst (a0.map Tu.enc), AVal.int .i64 a1] (fun _ => none) (fun v _ => v = .bool true) := by
  have h0 := qsl_len q0 (fun _ _ h => h.pos)
  exact lawTurns (by omega) rfl
theorem hfits {l : List Hop} {n : Nat} (q : Open.QSl Hop.Q l n) : ∀ x ∈ l, x.fit := fun x hx => by
  obtain ⟨m, _, hq⟩ := qsl_mem q x hx
  have := Hop.ok hq
  exact ⟨this.2.2.1, this.2.2.2⟩
theorem HistWider_true (a0 : (List Hop)) (n0 : Nat) (q0 : Open.QSl Hop.Q a0 n0) (a1 : A3) (n1 : Nat) (q1 : A3.Q a1 n1) (hb : n0 + (n1 + (0)) ≤ 1048576) :
    CW cfg [] 6 [AVal.lst (a0.map Hop.enc), A3.enc a1] (fun _ => none) (fun v _ => v = .bool true) := by
  have h0 := qsl_len q0 (fun _ _ h => h.pos)
  exact lawWider (by omega) (hfits q0) rfl
theorem HistReads_true (a0 : (List Hop)) (n0 : Nat) (q0 : Open.QSl Hop.Q a0 n0) (a1 : ByteArray) (n1 : Nat) (q1 : Open.QStr a1 n1) (hb : n0 + (n1 + (0)) ≤ 1048576) :
    CW cfg [] 7 [AVal.lst (a0.map Hop.enc), AVal.str a1] (fun _ => none) (fun v _ => v = .bool true) := by
  have h0 := qsl_len q0 (fun _ _ h => h.pos)
  exact lawReads (by omega) rfl
end Go.Proofs.Ytgeadlkaniggdaa.X
