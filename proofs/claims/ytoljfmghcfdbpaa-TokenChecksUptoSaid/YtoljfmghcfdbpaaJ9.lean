/- The reference's oracle: bounds. -/
import Derived.Test.YtoljfmghcfdbpaaJ8
set_option linter.unusedVariables false
set_option linter.unusedSimpArgs false
set_option maxRecDepth 100000
namespace Go.Proofs.Ytoljfmghcfdbpaa.X
open Go Go.RowKit
variable {ν β ps pos' : Nm} {H : Heap} {Q : AVal → Heap → Prop} {L : List Asr} {q : Nm} {k : Nat} {S : Rf}
theorem of_ok (S : Rf) : S.of.ok := by
  refine ⟨fun h => ?_, fun p => ?_, ?_⟩
  · show 0 ≤ (S.issF h).getD 0 ∧ (S.issF h).getD 0 ≤ ((S.rows.length : Nat) : Int)
    unfold Rf.issF
    split
    · simp
    · simp only [Option.getD_some]
      have := List.countP_le_length (p := fun x : Rw => decide (x.h = h)) (l := S.rows)
      omega
  · show 0 ≤ (S.opF p).getD 0 ∧ (S.opF p).getD 0 ≤ (((S.rows.filter Rf.t3).map (·.b)).length : Int)
    unfold Rf.opF
    have := firstI_range (Rf.isOpen p.1 p.2.1 p.2.2.2 p.2.2.1) (S.rows.filter Rf.t3)
    rw [show firstI (Rf.isOpen p.1 p.2.1 p.2.2.2 p.2.2.1) (S.rows.filter Rf.t3) 0 = S.opI p from rfl] at this
    rw [List.length_map]
    split
    · simp
    · simp only [Option.getD_some]; omega
  · show ((S.rows.filter Rf.t3).map (·.b)).length ≤ S.rows.length
    rw [List.length_map]; exact List.length_filter_le _ _
theorem Rf.le.mono {N M : Nat} (h : S.le N) (hm : N ≤ M) : S.le M := ⟨Nat.le_trans h.rows hm, Nat.le_trans h.met hm, Nat.le_trans h.bads hm⟩
theorem Rf.draw_le {N : Nat} (h : S.le N) (x : Rw) : (S.draw x).le (N + 1) := by
  refine ⟨?_, Nat.le_succ_of_le h.met, ?_⟩
  · simp only [draw, List.length_append, List.length_singleton]; exact Nat.succ_le_succ h.rows
  · have := h.bads
    simp only [draw]; split <;> omega
theorem Rf.value_le {N : Nat} (h : S.le N) (x : Rw) : (S.value x).2.le (N + 1) := by
  unfold value; split
  · exact h.mono (Nat.le_succ _)
  · exact draw_le h x
theorem Rf.meet_le {N : Nat} (h : S.le N) (x : Int) : (S.meet x).le (N + 1) := by
  unfold meet; split
  · exact h.mono (Nat.le_succ _)
  · refine ⟨Nat.le_succ_of_le h.rows, ?_, Nat.le_succ_of_le h.bads⟩
    simp only [List.length_append, List.length_singleton]; exact Nat.succ_le_succ h.met
theorem Rf.verify_le {N : Nat} (h : S.le N) (k : Int) (a : ByteArray) (t : Int) : (S.verify k a t).2.le (N + 1) := by
  unfold verify; split
  · split
    · exact h.mono (Nat.le_succ _)
    · exact meet_le h t
  · exact meet_le h t
theorem Rf.opens_le {N : Nat} (h : S.le N) (k n : Int) (a : ByteArray) (t : Int) : (S.opens k n a t).2.le (N + 1) := by
  unfold opens; split
  · exact h.mono (Nat.le_succ _)
  · exact meet_le h t
theorem Rf.act_le {N : Nat} (h : S.le N) (c : Ca) : (S.act c).2.2.2.le (N + 1) := by
  unfold act
  repeat' split
  all_goals first | exact draw_le h _ | exact value_le h _ | exact verify_le h _ _ _ | exact opens_le h _ _ _ _ | exact meet_le h _ | exact h.mono (Nat.le_succ _)
theorem Rf.new_le (d : List Int) : (Rf.new d).le 0 := ⟨Nat.le_refl _, Nat.le_refl _, Nat.le_refl _⟩
end Go.Proofs.Ytoljfmghcfdbpaa.X
