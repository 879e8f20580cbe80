/- Layer 19: the law MeshFull for every argument. -/
import Derived.Test.YtollcfhmmlpleaaI
import Derived.Test.YtollcfhmmlpleaaM7
set_option linter.unusedVariables false
namespace Go.Proofs.Ytollcfhmmlpleaa.X
open Go Go.RowKit
theorem int64 {a : Int} {n : Nat} (h : Open.QInt .i64 a n) : -9223372036854775808 ≤ a ∧ a ≤ 9223372036854775807 := by
  have := h.1
  simp [Lit.wf, IntKind.min, IntKind.max, IntKind.signed, IntKind.bits] at this
  omega
theorem sl_len {α : Type} {Q : α → Nat → Prop} {l : List α} {n : Nat} (h : Open.QSl Q l n) (h1 : ∀ a n, Q a n → 1 ≤ n) : l.length ≤ n := by
  obtain ⟨m, hm, hq⟩ := h
  have := hq.len h1
  omega
theorem MeshFull_true (a0 : (List Lt)) (n0 : Nat) (q0 : (Open.QSl (fun x : Lt => (Open.QSt (Open.QPair (Open.QInt .u64) (Open.QPair (Open.QInt .u64) Open.QStr))) (x.f, x.t, x.s))) a0 n0) (a1 : Int) (n1 : Nat) (q1 : (Open.QInt .i64) a1 n1) (y0 : a0.length * 32 ≤ 140737488351232) :
    CW cfg [] 4 [AVal.lst (a0.map Lt.enc), AVal.int .i64 a1] (fun _ => none) (fun v _ => v = .bool true) :=
  full a1 (int64 q1) (by omega)
end Go.Proofs.Ytollcfhmmlpleaa.X
