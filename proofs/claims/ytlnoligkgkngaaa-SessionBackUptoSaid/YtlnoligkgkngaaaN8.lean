/- Layer 11: the laws of texts for every argument. -/
import Derived.Test.YtlnoligkgkngaaaI
import Derived.Test.YtlnoligkgkngaaaN5
import Derived.Test.YtlnoligkgkngaaaN7
set_option linter.unusedVariables false
namespace Go.Proofs.Ytlnoligkgkngaaa.X
open Go Go.RowKit
theorem sums {a : List Se} {n : Nat} (q : Open.QSl Se.Q a n) : sumA a ≤ n := by
  have := qsl_sum (f := fun x : Se => x.an.size) (fun a m h => by have := (Se.ok h).2.2; omega) q
  unfold sumA; omega
theorem fits {a : List Se} {n : Nat} (q : Open.QSl Se.Q a n) : ∀ x ∈ a, x.fit := fun x hx => by
  obtain ⟨m, _, hq⟩ := qsl_mem q x hx
  have := Se.ok hq
  exact ⟨this.1, this.2.1⟩
theorem SessionTexts_true (a0 : (List Se)) (n0 : Nat) (q0 : (Open.QSl Se.Q) a0 n0) (a1 : ByteArray) (n1 : Nat) (q1 : Open.QStr a1 n1) (hb : n0 + (n1 + (0)) ≤ 1048576) :
    CW cfg [] 6 [AVal.lst (a0.map Se.enc), AVal.str a1] (fun _ => none) (fun v _ => v = .bool true) := by
  have h0 := qsl_len q0 (fun _ _ h => h.pos); have h1 := q1.2; have h2 := sums q0
  exact lawTexts a0 a1 (by omega) (by omega) (fits q0) (by omega) rfl
theorem SessionBack_true (a0 : (List Se)) (n0 : Nat) (q0 : (Open.QSl Se.Q) a0 n0) (a1 : ByteArray) (n1 : Nat) (q1 : Open.QStr a1 n1) (hb : n0 + (n1 + (0)) ≤ 1048576) :
    CW cfg [] 7 [AVal.lst (a0.map Se.enc), AVal.str a1] (fun _ => none) (fun v _ => v = .bool true) := by
  have h0 := qsl_len q0 (fun _ _ h => h.pos); have h1 := q1.2; have h2 := sums q0
  exact lawBackS a0 a1 (by omega) (by omega) (fits q0) (by omega) rfl
end Go.Proofs.Ytlnoligkgkngaaa.X
