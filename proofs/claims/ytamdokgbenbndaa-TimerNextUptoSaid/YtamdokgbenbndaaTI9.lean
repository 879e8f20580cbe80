/- Layer 20: a queue as what is in it, in the order of adding. -/
import Derived.Test.YtamdokgbenbndaaTI8
import Derived.Test.YtamdokgbenbndaaTI7
set_option linter.unusedVariables false
set_option linter.unusedSimpArgs false
namespace Go.Proofs.Ytamdokgbenbndaa.X
open Go Go.RowKit
/-- Where the first of the least is. -/
def bstN (l : List Int) : Nat → Option Nat
  | 0 => none
  | i + 1 => match bstN l i with
    | none => some i
    | some b => if l.getD i 0 < l.getD b 0 then some i else some b
theorem bstN_spec (l : List Int) : ∀ i, ∃ k, bstN l (i + 1) = some k ∧ k ≤ i ∧ (∀ j, j < k → l.getD k 0 < l.getD j 0) ∧ ∀ j, j ≤ i → l.getD k 0 ≤ l.getD j 0
  | 0 => ⟨0, rfl, Nat.le_refl _, fun j hj => by omega, fun j hj => by rw [show j = 0 by omega]; exact Int.le_refl _⟩
  | i + 1 => by
    obtain ⟨k, h1, h2, h3, h4⟩ := bstN_spec l i
    rw [bstN, h1]
    by_cases hh : l.getD (i + 1) 0 < l.getD k 0
    · refine ⟨i + 1, if_pos hh, Nat.le_refl _, fun j hj => Int.lt_of_lt_of_le hh (h4 j (by omega)), fun j hj => ?_⟩
      by_cases e : j = i + 1
      · rw [e]; exact Int.le_refl _
      · exact Int.le_of_lt (Int.lt_of_lt_of_le hh (h4 j (by omega)))
    · refine ⟨k, if_neg hh, by omega, h3, fun j hj => ?_⟩
      by_cases e : j = i + 1
      · rw [e]; omega
      · exact h4 j (by omega)
def bst (l : List Int) : Option Nat := bstN l l.length
theorem bst_nil : bst [] = none := rfl
theorem bst_some {l : List Int} (h : l ≠ []) : ∃ k, bst l = some k ∧ k < l.length ∧ (∀ j, j < k → l.getD k 0 < l.getD j 0) ∧ ∀ j, j < l.length → l.getD k 0 ≤ l.getD j 0 := by
  obtain ⟨i, hi⟩ : ∃ i, l.length = i + 1 := ⟨l.length - 1, by have := List.length_pos_iff.2 h; omega⟩
  obtain ⟨k, h1, h2, h3, h4⟩ := bstN_spec l i
  exact ⟨k, by rw [bst, hi]; exact h1, by omega, h3, fun j hj => h4 j (by omega)⟩
def ats (B : List It) : List Int := B.map It.at'
theorem ats_getD {B : List It} {k : Nat} (hk : k < B.length) : (ats B).getD k 0 = B[k].at' := by simp [ats, List.getD_eq_getElem?_getD, hk]
structure TQ (h B : List It) (n : Int) : Prop where
  perm : h.Perm B
  heap : hpN h 0 h.length
  asc : B.Pairwise (fun x y => x.nr < y.nr)
  lt : ∀ x ∈ B, 0 ≤ x.nr ∧ x.nr < n
theorem asc_lt {B : List It} (h : B.Pairwise (fun x y => x.nr < y.nr)) {i j : Nat} (hij : i < j) (hj : j < B.length) : B[i].nr < B[j].nr := List.pairwise_iff_getElem.1 h i j (by omega) hj hij
theorem asc_inj {B : List It} (h : B.Pairwise (fun x y => x.nr < y.nr)) {i j : Nat} (hi : i < B.length) (hj : j < B.length) (he : B[i].nr = B[j].nr) : i = j := by
  rcases Nat.lt_trichotomy i j with h1 | h1 | h1
  · have := asc_lt h h1 hj; omega
  · exact h1
  · have := asc_lt h h1 hi; omega
theorem TQ.nil : TQ [] [] 0 := ⟨.refl _, fun c c0 cn => by simp at cn, .nil, by simp⟩
theorem TQ.len {h B : List It} {n : Int} (hT : TQ h B n) : h.length = B.length := hT.perm.length_eq
/-- What comes next is the first of the least. -/
theorem TQ.head {h B : List It} {n : Int} (hT : TQ h B n) (h0 : 0 < B.length) : ∃ k, bst (ats B) = some k ∧ ∃ hk : k < B.length, nth h 0 = B[k] := by
  have hl := hT.len
  obtain ⟨k, h1, h2, h3, h4⟩ := bst_some (l := ats B) (fun e => by have := congrArg List.length e; simp [ats] at this; rw [this] at h0; simp at h0)
  have hk : k < B.length := by simpa [ats] using h2
  refine ⟨k, h1, hk, ?_⟩
  have hx : nth h 0 ∈ B := hT.perm.mem_iff.1 (by rw [nth_eq (by omega)]; exact List.getElem_mem _)
  have hle : leI (nth h 0) B[k] := by
    have hm : B[k] ∈ h := hT.perm.mem_iff.2 (List.getElem_mem _)
    obtain ⟨c, hc, e⟩ := List.mem_iff_getElem.1 hm
    have := head_least hT.heap c hc
    rw [nth_eq hc, e] at this
    exact this
  obtain ⟨j, hj, e⟩ := List.mem_iff_getElem.1 hx
  rw [← e] at hle ⊢
  rw [leI_iff] at hle
  have e1 := ats_getD hk
  have e2 := ats_getD hj
  rcases Nat.lt_trichotomy j k with hjk | hjk | hjk
  · have := h3 j hjk; omega
  · subst hjk; rfl
  · have h5 := h4 j (by simpa [ats] using hj)
    have h6 := asc_lt hT.asc hjk hj
    omega
theorem TQ.add {h B : List It} {n a : Int} {w : ByteArray} (hT : TQ h B n) (hn : 0 ≤ n) : TQ (addF h ⟨a, w, n⟩) (B ++ [⟨a, w, n⟩]) (n + 1) := by
  have hp := push_perm h ⟨a, w, n⟩
  refine ⟨hp.trans (hT.perm.append_right _), ?_, ?_, fun x hx => ?_⟩
  · have := push_ok (x := ⟨a, w, n⟩) hT.heap
    have hl := hp.length_eq
    rw [List.length_append, List.length_singleton] at hl
    unfold addF; rw [hl]; exact this
  · refine List.pairwise_append.2 ⟨hT.asc, List.pairwise_singleton _ _, fun x hx y hy => ?_⟩
    obtain rfl : y = ⟨a, w, n⟩ := by simpa using hy
    exact (hT.lt x hx).2
  · rcases List.mem_append.1 hx with h1 | h1
    · have := hT.lt x h1; omega
    · obtain rfl : x = ⟨a, w, n⟩ := by simpa using h1
      exact ⟨hn, by show n < n + 1; omega⟩
theorem eraseIdx_perm {α : Type} : ∀ {l : List α} {k : Nat} (hk : k < l.length), ([l[k]] ++ l.eraseIdx k).Perm l
  | [], _, hk => by simp at hk
  | a :: l, 0, _ => .refl _
  | a :: l, k + 1, hk => by
    have := eraseIdx_perm (l := l) (k := k) (by simpa using hk)
    simp only [List.getElem_cons_succ, List.eraseIdx_cons_succ, List.singleton_append] at *
    exact (List.Perm.swap _ _ _).trans (this.cons a)
theorem TQ.pop {h B : List It} {n : Int} (hT : TQ h B n) {k : Nat} (hk : k < B.length) (he : nth h 0 = B[k]) : TQ (popF h) (B.eraseIdx k) n := by
  have hl := hT.len
  obtain ⟨h1, h2⟩ := pop_ok (h := h) (by omega) hT.heap
  refine ⟨?_, h1, hT.asc.sublist (List.eraseIdx_sublist _ _), fun x hx => hT.lt x (List.mem_of_mem_eraseIdx hx)⟩
  have h3 : (B[k] :: popF h).Perm (B[k] :: B.eraseIdx k) := by
    refine (List.perm_append_singleton _ _).symm.trans ?_
    rw [← he]
    refine (h2.trans hT.perm).trans ?_
    rw [he]
    exact (eraseIdx_perm hk).symm
  exact h3.cons_inv
theorem TQ.drop {h B : List It} {n : Int} (hT : TQ h B n) (p : It → Bool) : TQ (initF (h.filter p) ((h.filter p).length / 2)) (B.filter p) n := by
  obtain ⟨h1, h2⟩ := init_all (h.filter p)
  refine ⟨h2.trans (hT.perm.filter p), ?_, hT.asc.sublist List.filter_sublist, fun x hx => hT.lt x (List.mem_filter.1 hx).1⟩
  rw [h2.length_eq]; exact h1
end Go.Proofs.Ytamdokgbenbndaa.X
