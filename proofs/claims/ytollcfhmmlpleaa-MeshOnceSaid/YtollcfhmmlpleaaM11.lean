/- Layer 19: the law MeshOnce for every argument. -/
import Derived.Test.YtollcfhmmlpleaaM10
set_option linter.unusedVariables false
namespace Go.Proofs.Ytollcfhmmlpleaa.X
open Go Go.RowKit
theorem int64 {a : Int} {n : Nat} (h : Open.QInt .i64 a n) : -9223372036854775808 ≤ a ∧ a ≤ 9223372036854775807 := by
  have := h.1
  simp [Lit.wf, IntKind.min, IntKind.max, IntKind.signed, IntKind.bits] at this
  omega
theorem MeshOnce_true (a0 : (List Lt)) (n0 : Nat) (q0 : (Open.QSl (fun x : Lt => (Open.QSt (Open.QPair (Open.QInt .u64) (Open.QPair (Open.QInt .u64) Open.QStr))) (x.f, x.t, x.s))) a0 n0) (a1 : (List Int)) (n1 : Nat) (q1 : (Open.QSl (Open.QInt .i64)) a1 n1) (y0 : a0.length * 32 ≤ 140737488351232) (y1 : a1.length * 8 ≤ 140737488351232) :
    CW cfg [] 3 [AVal.lst (a0.map Lt.enc), AVal.lst (a1.map (fun a : Int => AVal.int .i64 a))] (fun _ => none) (fun v _ => v = .bool true) := by
  refine once a0 a1 (by omega) (by omega) (fun a ha => ?_)
  obtain ⟨m, hm, hq⟩ := q1
  obtain ⟨k, _, hk⟩ := hq.mem a ha
  exact int64 hk
end Go.Proofs.Ytollcfhmmlpleaa.X
