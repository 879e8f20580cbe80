/- The walks of WireLengths, WireJoins, WireTakes: the printed functions' contracts with what they answer. -/
import Derived.Test.YtkjlbmdcaehgiaaL1
import Derived.Test.YtkjlbmdcaehgiaaOpen
set_option linter.unusedVariables false
namespace Go.Proofs.Ytkjlbmdcaehgiaa.L
open Go.RowKit Go.Proofs.YtkjlbmdcaehgiaaW.PrintWords Go.Proofs.Ytkjlbmdcaehgiaa.PAll Go.Proofs.Ytkjlbmdcaehgiaa.WP

theorem qnums {l : List Int} {n : Nat} (q : (Open.QSl (Open.QInt .u64)) l n) : W64 l ∧ l.length ≤ n := by
  obtain ⟨m, hm, h⟩ := q
  refine ⟨fun x hx => ?_, ?_⟩
  · obtain ⟨_, _, hw, _⟩ := h.mem x hx
    have := bounds_u64 hw
    omega
  · have := h.len (fun a n h => h.2)
    omega
theorem WireLengths_walk (w : World) (a0 : Int) (n0 : Nat) (q0 : Open.QInt .u64 a0 n0) (a1 : ByteArray) (n1 : Nat) (q1 : Open.QStr a1 n1) (s1 : a1.size ≤ 140737488351232) :
    Calls Try.prog 4 #[.int .u64 a0, .string a1] w fun e w' => e = .returned (.bool true) ∧ Below w.heap.size w w' :=
  countersignlaw01_WireLengths.calls 200 a0 a1 true w (WireLengths_f a0 a1 q0.1 s1 (Nat.le_refl _))
theorem WireJoins_walk (w : World) (A0 : Option Addr) (c0 : Nat) (l0 : (List Int)) (hl0 : l0.length ≤ c0) (hr0 : (Kd.int .u64).C w A0 l0.length l0) (n0 : Nat) (q0 : (Open.QSl (Open.QInt .u64)) l0 n0) (A1 : Option Addr) (c1 : Nat) (l1 : (List Int)) (hl1 : l1.length ≤ c1) (hr1 : (Kd.int .u64).C w A1 l1.length l1) (n1 : Nat) (q1 : (Open.QSl (Open.QInt .u64)) l1 n1) (hb : n0 + (n1 + (0)) ≤ 1048576) :
    Calls Try.prog 6 #[.slice A0 l0.length c0, .slice A1 l1.length c1] w fun e w' => e = .returned (.bool true) ∧ Below w.heap.size w w' := by
  have h0 := qnums q0
  have h1 := qnums q1
  exact countersignlaw01_WireJoins.calls 100000000 A0 c0 l0 A1 c1 l1 true w hr0 hl0 hr1 hl1 (WireJoins_f l0 l1 h0.1 h1.1 (by omega) (by omega) (Nat.le_refl _))
theorem WireTakes_walk (w : World) (a0 : ByteArray) (n0 : Nat) (q0 : Open.QStr a0 n0) (a1 : Int) (n1 : Nat) (q1 : Open.QInt .i64 a1 n1) (hb : n0 + (n1 + (0)) ≤ 1048576) :
    Calls Try.prog 7 #[.string a0, .int .i64 a1] w fun e w' => e = .returned (.bool true) ∧ Below w.heap.size w w' := by
  have h0 := q0.2
  exact countersignlaw01_WireTakes.calls 100000000 a0 a1 true w (WireTakes_f a0 a1 (bounds_i64 q1.1) (by omega) (Nat.le_refl _))
end Go.Proofs.Ytkjlbmdcaehgiaa.L
