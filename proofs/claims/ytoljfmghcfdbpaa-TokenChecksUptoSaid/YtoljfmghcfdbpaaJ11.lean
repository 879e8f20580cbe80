/- The reference's oracle: what holds where nothing bad happened. -/
import Derived.Test.YtoljfmghcfdbpaaJ9
set_option linter.unusedVariables false
set_option linter.unusedSimpArgs false
namespace Go.Proofs.Ytoljfmghcfdbpaa.X
open Go Go.RowKit
namespace Rf
variable {S : Rf}
structure Good (S : Rf) : Prop where
  nd : S.rows.Pairwise fun x y => x.h ≠ y.h
  nz : ∀ x ∈ S.rows, x.h ≠ 0
  mt : ∀ h ∈ S.met, S.issued h = false
structure Inv (S : Rf) : Prop where
  good : S.bads = 0 → S.Good
  uniq : S.rows.Pairwise fun x y => x.same y = false
theorem issued_iff {h : Int} : S.issued h = true ↔ ∃ x ∈ S.rows, x.h = h := by simp [issued]
theorem issued_draw (x : Rw) (h : Int) : (S.draw x).issued h = (S.issued h || decide (S.next = h)) := by simp [issued, draw]
theorem draw_bads (x : Rw) : S.bads ≤ (S.draw x).bads := by simp [draw]
theorem draw_inv (hi : S.Inv) (x : Rw) (hx : ∀ y ∈ S.rows, y.same ⟨x.t, x.k, x.n, x.a, x.b, S.next⟩ = false) : (S.draw x).Inv := by
  refine ⟨fun hb => ?_, ?_⟩
  · have h0 : S.bads = 0 ∧ S.isBad S.next = false := by
      simp only [draw] at hb
      cases h : S.isBad S.next with
      | true => rw [h] at hb; simp at hb
      | false => rw [h] at hb; simp at hb; exact ⟨hb, rfl⟩
    have hg := hi.good h0.1
    have hn := h0.2
    simp only [isBad, Bool.or_eq_false_iff, decide_eq_false_iff_not] at hn
    obtain ⟨⟨n0, ni⟩, ns⟩ := hn
    refine ⟨?_, ?_, ?_⟩
    · simp only [draw]
      rw [List.pairwise_append]
      refine ⟨hg.nd, by simp, fun a ha b hb' => ?_⟩
      simp only [List.mem_singleton] at hb'
      subst hb'
      intro he
      have : S.issued S.next = true := issued_iff.2 ⟨a, ha, he⟩
      rw [ni] at this; cases this
    · intro y hy
      simp only [draw, List.mem_append, List.mem_singleton] at hy
      rcases hy with hy | hy
      · exact hg.nz y hy
      · subst hy; exact n0
    · intro h hh
      have hh : h ∈ S.met := hh
      rw [issued_draw, hg.mt h hh, Bool.false_or, decide_eq_false_iff_not]
      intro he
      simp only [shown, List.any_eq_false, decide_eq_true_eq] at ns
      exact ns h hh he.symm
  · simp only [draw]
    rw [List.pairwise_append]
    refine ⟨hi.uniq, by simp, fun a ha b hb' => ?_⟩
    simp only [List.mem_singleton] at hb'
    subst hb'
    exact hx a ha
theorem same_symm {x y : Rw} (h : x.same y = false) {v : Int} (ht : x.t ≠ 0 ∨ x.t = 0) : y.same ⟨x.t, x.k, x.n, x.a, x.b, v⟩ = false := by
  cases hb : y.same ⟨x.t, x.k, x.n, x.a, x.b, v⟩ with
  | false => rfl
  | true =>
    simp only [Rw.same, Bool.and_eq_true, decide_eq_true_eq, ne_eq] at hb
    obtain ⟨⟨⟨⟨⟨h0, h1⟩, h2⟩, h3⟩, h4⟩, h5⟩ := hb
    have : x.same y = true := by
      simp only [Rw.same, Bool.and_eq_true, decide_eq_true_eq, ne_eq]
      exact ⟨⟨⟨⟨⟨by rw [h1]; exact h0, h1.symm⟩, h2.symm⟩, h3.symm⟩, h4.symm⟩, h5.symm⟩
    rw [h] at this; cases this
theorem value_inv (hi : S.Inv) (x : Rw) : (S.value x).2.Inv := by
  unfold value
  split
  · exact hi
  · rename_i h
    rw [List.find?_eq_none] at h
    exact draw_inv hi x fun y hy => same_symm (by have := h y hy; simpa using this) (Decidable.em _ |>.symm)
theorem fresh_inv (hi : S.Inv) : S.fresh.Inv := draw_inv hi _ fun y hy => by
  cases hb : y.same ⟨0, 0, 0, ⟨#[]⟩, ⟨#[]⟩, S.next⟩ with
  | false => rfl
  | true =>
    simp only [Rw.same, Bool.and_eq_true, decide_eq_true_eq, ne_eq] at hb
    obtain ⟨⟨⟨⟨⟨h0, h1⟩, _⟩, _⟩, _⟩, _⟩ := hb
    exact absurd h1.symm h0
theorem meet_inv (hi : S.Inv) (h : Int) : (S.meet h).Inv := by
  unfold meet
  split
  · exact hi
  · rename_i hn
    refine ⟨fun hb => ?_, hi.uniq⟩
    have hg := hi.good hb
    refine ⟨hg.nd, hg.nz, fun g hg' => ?_⟩
    simp only [List.mem_append, List.mem_singleton] at hg'
    rcases hg' with hg' | rfl
    · exact hg.mt g hg'
    · show S.issued g = false
      simpa using hn
theorem verify_inv (hi : S.Inv) (k : Int) (a : ByteArray) (t : Int) : (S.verify k a t).2.Inv := by
  unfold verify; split
  · split
    · exact hi
    · exact meet_inv hi t
  · exact meet_inv hi t
theorem opens_inv (hi : S.Inv) (k n : Int) (a : ByteArray) (t : Int) : (S.opens k n a t).2.Inv := by
  unfold opens; split
  · exact hi
  · exact meet_inv hi t
theorem act_inv (hi : S.Inv) (c : Ca) : (S.act c).2.2.2.Inv := by
  unfold act
  repeat' split
  all_goals first | exact fresh_inv hi | exact value_inv hi _ | exact verify_inv hi _ _ _ | exact opens_inv hi _ _ _ _ | exact meet_inv hi _ | exact hi
theorem new_inv (d : List Int) : (Rf.new d).Inv := ⟨fun _ => ⟨List.Pairwise.nil, by simp [Rf.new], by simp [Rf.new]⟩, List.Pairwise.nil⟩
/-- An oracle behind calls. -/
def run (S : Rf) : List Ca → Rf
  | [] => S
  | c :: l => (S.act c).2.2.2.run l
theorem run_snoc : ∀ (l : List Ca) (S : Rf) (c : Ca), S.run (l ++ [c]) = ((S.run l).act c).2.2.2
  | [], _, _ => rfl
  | b :: l, S, c => run_snoc l _ c
theorem run_inv : ∀ (l : List Ca) {S : Rf}, S.Inv → (S.run l).Inv
  | [], _, h => h
  | c :: l, _, h => run_inv l (act_inv h c)
theorem run_le : ∀ (l : List Ca) {S : Rf} {N : Nat}, S.le N → (S.run l).le (N + l.length)
  | [], _, _, h => h
  | c :: l, _, N, h => by have := run_le l (act_le h c); simp only [List.length_cons]; exact this.mono (by omega)
theorem meet_old {h : Int} (hi : S.issued h = true) : S.meet h = S := by simp [meet, hi]
end Rf
end Go.Proofs.Ytoljfmghcfdbpaa.X
