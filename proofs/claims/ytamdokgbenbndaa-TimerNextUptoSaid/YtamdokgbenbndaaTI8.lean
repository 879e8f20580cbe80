/- Layer 20: plain theory of the heap. -/
import Derived.Test.YtamdokgbenbndaaTI5
set_option linter.unusedVariables false
set_option linter.unusedSimpArgs false
namespace Go.Proofs.Ytamdokgbenbndaa.X
open Go Go.RowKit
def zI : It := ⟨0, ⟨#[]⟩, 0⟩
def nth (h : List It) (i : Nat) : It := h.getD i zI
def leI (x y : It) : Prop := lessI y x = false
theorem leI_iff {x y : It} : leI x y ↔ x.at' < y.at' ∨ (x.at' = y.at' ∧ x.nr ≤ y.nr) := by
  unfold leI lessI
  rw [decide_eq_false_iff_not]
  constructor
  · intro h; omega
  · intro h; omega
theorem leI_trans {x y z : It} (h1 : leI x y) (h2 : leI y z) : leI x z := by rw [leI_iff] at *; omega
theorem leI_total (x y : It) : leI x y ∨ leI y x := by rw [leI_iff, leI_iff]; omega
theorem leI_refl (x : It) : leI x x := by rw [leI_iff]; omega
theorem leI_of_less {x y : It} (h : lessI x y = true) : leI x y := by
  rw [leI_iff]; unfold lessI at h; rw [decide_eq_true_eq] at h; omega
theorem nth_eq {h : List It} {i : Nat} (hi : i < h.length) : nth h i = h[i] := by simp [nth, hi]
theorem lessA_nth {h : List It} {a b : Nat} (ha : a < h.length) (hb : b < h.length) : lessA h a b = lessI (nth h a) (nth h b) := by
  rw [lessA_eq ha hb, nth_eq ha, nth_eq hb]
theorem nth_swp {h : List It} {i j : Nat} (hi : i < h.length) (hj : j < h.length) (k : Nat) : nth (swp h i j) k = if k = j then nth h i else if k = i then nth h j else nth h k := by
  rw [swp_eq hi hj]
  unfold nth
  simp only [List.getD_eq_getElem?_getD, List.getElem?_set, List.length_set]
  by_cases h1 : k = j
  · subst h1; simp [hj, hi]
  · by_cases h2 : k = i
    · subst h2
      rw [if_neg (fun e => h1 e.symm), if_neg h1]; simp [hi, hj]
    · rw [if_neg (fun e => h1 e.symm), if_neg (fun e => h2 e.symm), if_neg h1, if_neg h2]
theorem swp_perm {h : List It} {i j : Nat} (hi : i < h.length) (hj : j < h.length) : (swp h i j).Perm h := by
  rw [swp_eq hi hj]; exact List.set_set_perm hi hj
/-- The heap's order, for the places below n whose parent is at lo or behind. -/
def hpN (h : List It) (lo n : Nat) : Prop := ∀ c, 0 < c → c < n → lo ≤ (c - 1) / 2 → leI (nth h ((c - 1) / 2)) (nth h c)
theorem kid_par {h : List It} {n i : Nat} : (kid h n i - 1) / 2 = i := by unfold kid; split <;> omega
theorem kid_le {h : List It} {n i : Nat} (hn : n ≤ h.length) (h0 : 2 * i + 1 < n) {c : Nat} (hc : c < n) (h1 : 0 < c) (hp : (c - 1) / 2 = i) : leI (nth h (kid h n i)) (nth h c) := by
  have hcc : c = 2 * i + 1 ∨ c = 2 * i + 2 := by omega
  unfold kid
  split
  · rename_i hk
    rw [lessA_nth (by omega) (by omega)] at hk
    rcases hcc with rfl | rfl
    · exact leI_of_less hk.2
    · exact leI_refl _
  · rename_i hk
    rcases hcc with rfl | rfl
    · exact leI_refl _
    · have : lessA h (2 * i + 2) (2 * i + 1) = false := by
        cases he : lessA h (2 * i + 2) (2 * i + 1) with
        | false => rfl
        | true => exact absurd ⟨hc, he⟩ hk
      rw [lessA_nth (by omega) (by omega)] at this
      exact this
theorem down_ok (h : List It) (i n lo : Nat) (hn : n ≤ h.length) (h1 : ∀ c, 0 < c → c < n → lo ≤ (c - 1) / 2 → (c - 1) / 2 ≠ i → leI (nth h ((c - 1) / 2)) (nth h c))
    (h2 : ∀ c, 0 < c → c < n → (c - 1) / 2 = i → 0 < i → lo ≤ (i - 1) / 2 → leI (nth h ((i - 1) / 2)) (nth h c)) : hpN (downF h i n) lo n := by
  by_cases h0 : 2 * i + 1 < n
  · have hkl := kid_lt (h := h) h0
    have hkg := kid_gt h n i
    have hkp := kid_par (h := h) (n := n) (i := i)
    by_cases hh : lessA h (kid h n i) i = true
    · rw [downF_go h0 hh]
      rw [lessA_nth (by omega) (by omega)] at hh
      have hsw := fun k => nth_swp (h := h) (i := i) (j := kid h n i) (by omega) (by omega) k
      refine down_ok (swp h i (kid h n i)) (kid h n i) n lo (by rw [swp_len]; exact hn) (fun c c0 cn cl cp => ?_) (fun c c0 cn cp k0 kl => ?_)
      · rw [hsw, hsw]
        rw [if_neg cp]
        by_cases e1 : (c - 1) / 2 = i
        · rw [if_pos e1]
          by_cases e2 : c = kid h n i
          · rw [if_pos e2]; exact leI_of_less hh
          · rw [if_neg e2, if_neg (by omega)]; exact kid_le hn h0 cn c0 e1
        · rw [if_neg e1]
          by_cases e2 : c = kid h n i
          · exfalso; rw [e2] at e1; omega
          · rw [if_neg e2]
            by_cases e3 : c = i
            · rw [if_pos e3, e3]; exact h2 _ (by omega) hkl hkp (by omega) (by rw [← e3]; exact cl)
            · rw [if_neg e3]; exact h1 c c0 cn cl e1
      · rw [hsw, hsw, hkp, if_neg (by omega), if_pos rfl, if_neg (by omega), if_neg (by omega), ← cp]
        exact h1 c c0 cn (by omega) (by omega)
    · rw [downF_stop (.inr (by simpa using hh))]
      have hh : lessA h (kid h n i) i = false := by simpa using hh
      rw [lessA_nth (by omega) (by omega)] at hh
      intro c c0 cn cl
      by_cases e : (c - 1) / 2 = i
      · rw [e]; exact leI_trans hh (kid_le hn h0 cn c0 e)
      · exact h1 c c0 cn cl e
  · rw [downF_stop (.inl h0)]
    intro c c0 cn cl
    exact h1 c c0 cn cl (by omega)
termination_by n - i
decreasing_by
  have := kid_gt h n i
  omega
theorem down_perm (h : List It) (i n : Nat) (hn : n ≤ h.length) : (downF h i n).Perm h := by
  by_cases h0 : 2 * i + 1 < n
  · by_cases hh : lessA h (kid h n i) i = true
    · have hkl := kid_lt (h := h) h0
      have hkg := kid_gt h n i
      rw [downF_go h0 hh]
      exact (down_perm (swp h i (kid h n i)) (kid h n i) n (by rw [swp_len]; exact hn)).trans (swp_perm (by omega) (by omega))
    · rw [downF_stop (.inr (by simpa using hh))]
  · rw [downF_stop (.inl h0)]
termination_by n - i
decreasing_by
  have := kid_gt h n i
  omega
theorem down_rest (h : List It) (i n : Nat) (hn : n ≤ h.length) (k : Nat) (hk : n ≤ k) : nth (downF h i n) k = nth h k := by
  by_cases h0 : 2 * i + 1 < n
  · by_cases hh : lessA h (kid h n i) i = true
    · have hkl := kid_lt (h := h) h0
      have hkg := kid_gt h n i
      rw [downF_go h0 hh, down_rest (swp h i (kid h n i)) (kid h n i) n (by rw [swp_len]; exact hn) k hk, nth_swp (by omega) (by omega), if_neg (by omega), if_neg (by omega)]
    · rw [downF_stop (.inr (by simpa using hh))]
  · rw [downF_stop (.inl h0)]
termination_by n - i
decreasing_by
  have := kid_gt h n i
  omega
theorem up_ok (h : List It) (j : Nat) (hj : j < h.length) (h1 : ∀ c, 0 < c → c < h.length → c ≠ j → leI (nth h ((c - 1) / 2)) (nth h c))
    (h2 : ∀ c, 0 < c → c < h.length → (c - 1) / 2 = j → 0 < j → leI (nth h ((j - 1) / 2)) (nth h c)) : hpN (upF h j) 0 h.length := by
  by_cases h0 : j = 0
  · rw [upF_stop (.inl h0)]
    intro c c0 cn _
    exact h1 c c0 cn (by omega)
  · by_cases hh : lessA h j ((j - 1) / 2) = true
    · rw [upF_go h0 hh]
      rw [lessA_nth (by omega) (by omega)] at hh
      have hsw := fun k => nth_swp (h := h) (i := (j - 1) / 2) (j := j) (by omega) (by omega) k
      have hl := swp_len h ((j - 1) / 2) j
      have := up_ok (swp h ((j - 1) / 2) j) ((j - 1) / 2) (by omega) (fun c c0 cn cp => ?_) (fun c c0 cn cp k0 => ?_)
      · rw [hl] at this; exact this
      · rw [hl] at cn
        rw [hsw, hsw]
        by_cases e1 : c = j
        · rw [if_pos e1, e1, if_neg (by omega), if_pos rfl]; exact leI_of_less hh
        · rw [if_neg e1, if_neg cp]
          by_cases e2 : (c - 1) / 2 = j
          · rw [if_pos e2]; exact h2 c c0 cn e2 (by omega)
          · rw [if_neg e2]
            by_cases e3 : (c - 1) / 2 = (j - 1) / 2
            · rw [if_pos e3]
              have := h1 c c0 cn e1
              rw [e3] at this
              exact leI_trans (leI_of_less hh) this
            · rw [if_neg e3]; exact h1 c c0 cn e1
      · rw [hl] at cn
        rw [hsw, hsw, if_neg (by omega), if_neg (by omega)]
        have hp := h1 ((j - 1) / 2) (by omega) (by omega) (by omega)
        by_cases e1 : c = j
        · rw [if_pos e1]; exact hp
        · rw [if_neg e1, if_neg (by omega)]
          have := h1 c c0 cn e1
          rw [cp] at this
          exact leI_trans hp this
    · rw [upF_stop (.inr (by simpa using hh))]
      have hh : lessA h j ((j - 1) / 2) = false := by simpa using hh
      rw [lessA_nth (by omega) (by omega)] at hh
      intro c c0 cn _
      by_cases e : c = j
      · rw [e]; exact hh
      · exact h1 c c0 cn e
termination_by j
decreasing_by omega
theorem up_perm (h : List It) (j : Nat) (hj : j < h.length) : (upF h j).Perm h := by
  by_cases h0 : j = 0
  · rw [upF_stop (.inl h0)]
  · by_cases hh : lessA h j ((j - 1) / 2) = true
    · rw [upF_go h0 hh]
      exact (up_perm (swp h ((j - 1) / 2) j) ((j - 1) / 2) (by rw [swp_len]; omega)).trans (swp_perm (by omega) (by omega))
    · rw [upF_stop (.inr (by simpa using hh))]
termination_by j
decreasing_by omega
theorem nth_app {h : List It} {x : It} {c : Nat} (hc : c < h.length) : nth (h ++ [x]) c = nth h c := by
  unfold nth; simp [List.getD_eq_getElem?_getD, List.getElem?_append_left hc]
theorem push_ok {h : List It} {x : It} (hh : hpN h 0 h.length) : hpN (upF (h ++ [x]) h.length) 0 (h.length + 1) := by
  have hl : (h ++ [x]).length = h.length + 1 := by simp
  have := up_ok (h ++ [x]) h.length (by omega) (fun c c0 cn cp => ?_) (fun c c0 cn cp _ => by omega)
  · rw [hl] at this; exact this
  · rw [nth_app (by omega), nth_app (by omega)]
    exact hh c c0 (by omega) (by omega)
theorem push_perm (h : List It) (x : It) : (upF (h ++ [x]) h.length).Perm (h ++ [x]) := up_perm _ _ (by simp)
theorem init_ok : ∀ (j : Nat) (h : List It), hpN h j h.length → hpN (initF h j) 0 h.length ∧ (initF h j).Perm h
  | 0, h, hh => ⟨hh, .refl _⟩
  | j + 1, h, hh => by
    have h1 := down_ok h j h.length j (by omega) (fun c c0 cn cl cp => hh c c0 cn (by omega)) (fun c c0 cn cp k0 kl => by omega)
    have hl := downF_len h j h.length
    obtain ⟨h2, h3⟩ := init_ok j (downF h j h.length) (by rw [hl]; exact h1)
    rw [hl] at h2
    exact ⟨h2, h3.trans (down_perm h j _ (by omega))⟩
theorem init_all (h : List It) : hpN (initF h (h.length / 2)) 0 h.length ∧ (initF h (h.length / 2)).Perm h := init_ok _ h (fun c c0 cn cl => by omega)
theorem head_least {h : List It} (hh : hpN h 0 h.length) : ∀ c, c < h.length → leI (nth h 0) (nth h c)
  | 0, _ => leI_refl _
  | c + 1, hc => leI_trans (head_least hh ((c + 1 - 1) / 2) (by omega)) (hh (c + 1) (by omega) hc (by omega))
termination_by c => c
decreasing_by omega
theorem split_last {l : List It} (h : 0 < l.length) : l = l.dropLast ++ [nth l (l.length - 1)] := by
  rw [nth_eq (by omega)]
  have hne : l ≠ [] := by rintro rfl; simp at h
  rw [← List.getLast_eq_getElem hne]
  exact (List.dropLast_concat_getLast hne).symm
theorem pop_ok {h : List It} (h0 : 0 < h.length) (hh : hpN h 0 h.length) : hpN (popF h) 0 (popF h).length ∧ (popF h ++ [nth h 0]).Perm h := by
  have hl := swp_len h 0 (h.length - 1)
  have hl2 := downF_len (swp h 0 (h.length - 1)) 0 (h.length - 1)
  have hsw := fun k => nth_swp (h := h) (i := 0) (j := h.length - 1) (by omega) (by omega) k
  have hlp : (popF h).length = h.length - 1 := by unfold popF; rw [List.length_dropLast]; omega
  have hnth : ∀ c, c < h.length - 1 → nth (popF h) c = nth (downF (swp h 0 (h.length - 1)) 0 (h.length - 1)) c := by
    intro c hc
    rw [nth_eq (by omega), nth_eq (by omega)]
    simp [popF]
  constructor
  · rw [hlp]
    have := down_ok (swp h 0 (h.length - 1)) 0 (h.length - 1) 0 (by omega) (fun c c0 cn cl cp => ?_) (fun c c0 cn cp k0 kl => by omega)
    · intro c c0 cn cl
      rw [hnth c cn, hnth _ (by omega)]
      exact this c c0 cn cl
    · rw [hsw, hsw, if_neg (by omega), if_neg (by omega), if_neg (by omega), if_neg (by omega)]
      exact hh c c0 (by omega) (by omega)
  · have h1 := split_last (l := downF (swp h 0 (h.length - 1)) 0 (h.length - 1)) (by omega)
    rw [down_rest _ _ _ (by omega) _ (by omega), hl2, hl, hsw, if_pos rfl] at h1
    have h2 : popF h ++ [nth h 0] = downF (swp h 0 (h.length - 1)) 0 (h.length - 1) := h1.symm
    rw [h2]
    exact (down_perm _ _ _ (by omega)).trans (swp_perm (by omega) (by omega))
end Go.Proofs.Ytamdokgbenbndaa.X
