/- Layer 20: the laws for every argument. -/
import Derived.Test.YtamdokgbenbndaaTI18
import Derived.Test.YtamdokgbenbndaaI
set_option linter.unusedVariables false
namespace Go.Proofs.Ytamdokgbenbndaa.X
open Go Go.RowKit
def Du.Q (x : Du) (n : Nat) : Prop := Open.QSt (Open.QPair (Open.QInt .u64) Open.QStr) (x.at', x.wh) n
theorem Du.ok {a : Du} {n : Nat} (h : Du.Q a n) : (0 ≤ a.at' ∧ a.at' ≤ 18446744073709551615) ∧ a.wh.size + 1 ≤ n := by
  obtain ⟨mm, hm, ⟨m0, k0, e0, h0, h1⟩⟩ := h
  exact ⟨(in_u64 h0), (Nat.le_trans h1.2 (by omega))⟩
theorem Du.Q_mono {a : Du} {n m : Nat} (h : Du.Q a n) (hm : n ≤ m) : Du.Q a m := let ⟨k, h1, h2⟩ := h; ⟨k, Nat.le_trans h1 hm, h2⟩
theorem Du.Q.pos {a : Du} {n : Nat} (h : Du.Q a n) : 1 ≤ n := let ⟨k, h1, _⟩ := h; by omega
def At.Q (x : At) (n : Nat) : Prop := Open.QSt (Open.QPair (Open.QInt .i64) (Open.QPair (Open.QInt .u64) Open.QStr)) (x.d, x.at', x.wh) n
theorem At.ok {a : At} {n : Nat} (h : At.Q a n) : (-9223372036854775808 ≤ a.d ∧ a.d ≤ 9223372036854775807) ∧ (0 ≤ a.at' ∧ a.at' ≤ 18446744073709551615) ∧ a.wh.size + 1 ≤ n := by
  obtain ⟨mm, hm, ⟨m0, k0, e0, h0, ⟨m1, k1, e1, h1, h2⟩⟩⟩ := h
  exact ⟨(in_i64 h0), (in_u64 h1), (Nat.le_trans h2.2 (by omega))⟩
theorem At.Q_mono {a : At} {n m : Nat} (h : At.Q a n) (hm : n ≤ m) : At.Q a m := let ⟨k, h1, h2⟩ := h; ⟨k, Nat.le_trans h1 hm, h2⟩
theorem At.Q.pos {a : At} {n : Nat} (h : At.Q a n) : 1 ≤ n := let ⟨k, h1, _⟩ := h; by omega
theorem du_fits {l : List Du} {n : Nat} (q : Open.QSl Du.Q l n) : ∀ x ∈ l, x.fit := fun x hx => by
  obtain ⟨m, _, hq⟩ := qsl_mem q x hx
  exact ⟨(Du.ok hq).1⟩
theorem TimerPlays_true (a0 : (List At)) (n0 : Nat) (q0 : Open.QSl At.Q a0 n0) (hb : n0 + (0) ≤ 1048576) :
    CW cfg [] 5 [AVal.lst (a0.map At.enc)] (fun _ => none) (fun v _ => v = .bool true) := by
  have h0 := qsl_len q0 (fun _ _ h => h.pos)
  exact lawPlays (by omega) rfl
theorem TimerOrders_true (a0 : (List Du)) (n0 : Nat) (q0 : Open.QSl Du.Q a0 n0) (a1 : Int) (n1 : Nat) (q1 : (Open.QInt .u64) a1 n1) (hb : n0 + (n1 + (0)) ≤ 1048576) :
    CW cfg [] 3 [AVal.lst (a0.map Du.enc), AVal.int .u64 a1] (fun _ => none) (fun v _ => v = .bool true) := by
  have h0 := qsl_len q0 (fun _ _ h => h.pos)
  exact lawOrders (by omega) rfl
theorem TimerDrops_true (a0 : (List Du)) (n0 : Nat) (q0 : Open.QSl Du.Q a0 n0) (a1 : ByteArray) (n1 : Nat) (q1 : Open.QStr a1 n1) (a2 : Int) (n2 : Nat) (q2 : (Open.QInt .u64) a2 n2) (hb : n0 + (n1 + (n2 + (0))) ≤ 1048576) :
    CW cfg [] 6 [AVal.lst (a0.map Du.enc), AVal.str a1, AVal.int .u64 a2] (fun _ => none) (fun v _ => v = .bool true) := by
  have h0 := qsl_len q0 (fun _ _ h => h.pos)
  exact lawDrops (by omega) rfl
theorem TimerNext_true (a0 : (List Du)) (n0 : Nat) (q0 : Open.QSl Du.Q a0 n0) (hb : n0 + (0) ≤ 1048576) :
    CW cfg [] 4 [AVal.lst (a0.map Du.enc)] (fun _ => none) (fun v _ => v = .bool true) := by
  have h0 := qsl_len q0 (fun _ _ h => h.pos)
  exact lawNext (du_fits q0) (by omega) rfl
end Go.Proofs.Ytamdokgbenbndaa.X
