/- Layer 20: what the laws say, in plain Lean. -/
import Derived.Test.YtamdokgbenbndaaTI10
set_option linter.unusedVariables false
set_option linter.unusedSimpArgs false
namespace Go.Proofs.Ytamdokgbenbndaa.X
open Go Go.RowKit
structure Du where
  at' : Int
  wh : ByteArray
  deriving DecidableEq
def Du.enc (x : Du) : AVal := .agg [.int .u64 x.at', .str x.wh]
def It.due (x : It) : Du := ⟨x.at', x.wh⟩
theorem dueV_due (x : It) : dueV x = x.due.enc := rfl
/-- The things, numbered from j on. -/
def mkB (l : List Du) (j : Nat) : List It := (l.zipIdx j).map fun p => ⟨p.1.at', p.1.wh, p.2⟩
theorem mkB_len (l : List Du) (j : Nat) : (mkB l j).length = l.length := by simp [mkB]
theorem mkB_snoc (l : List Du) (x : Du) (j : Nat) : mkB (l ++ [x]) j = mkB l j ++ [⟨x.at', x.wh, ((j + l.length : Nat) : Int)⟩] := by
  simp [mkB, List.zipIdx_append]
theorem mkB_due (l : List Du) (j : Nat) : (mkB l j).map It.due = l := by
  unfold mkB
  rw [List.map_map]
  have : (It.due ∘ fun p : Du × Nat => (⟨p.1.at', p.1.wh, p.2⟩ : It)) = Prod.fst := by funext p; rfl
  rw [this, List.zipIdx_map_fst]
theorem mkB_take {l : List Du} {i : Nat} (hi : i < l.length) : mkB (l.take (i + 1)) 0 = mkB (l.take i) 0 ++ [⟨l[i].at', l[i].wh, (i : Int)⟩] := by
  rw [List.take_succ_eq_append_getElem hi, mkB_snoc]
  congr 3
  rw [List.length_take]; congr 1; omega
theorem mkB_get {l : List Du} {j i : Nat} (hi : i < l.length) : (mkB l j)[i]'(by rw [mkB_len]; exact hi) = ⟨l[i].at', l[i].wh, ((j + i : Nat) : Int)⟩ := by simp [mkB]
theorem mkB_asc (l : List Du) (j : Nat) : (mkB l j).Pairwise (fun x y => x.nr < y.nr) := by
  rw [List.pairwise_iff_getElem]
  intro a b ha hb hab
  rw [mkB_len] at ha hb
  rw [mkB_get ha, mkB_get hb]
  show ((j + a : Nat) : Int) < ((j + b : Nat) : Int)
  omega
def atD (l : List Du) : List Int := l.map Du.at'
theorem ats_due (B : List It) : ats B = atD (B.map It.due) := by simp [ats, atD, It.due]
def zD : Du := ⟨0, ⟨#[]⟩⟩
/-- What is popped, by dues alone. -/
def popD (l : List Du) (now : Int) : (Du × Bool) × List Du := match bst (atD l) with
  | none => ((zD, false), l)
  | some k => if now < (l.getD k zD).at' then ((zD, false), l) else ((l.getD k zD, true), l.eraseIdx k)
def nxtD (l : List Du) : Du × Bool := match bst (atD l) with
  | none => (zD, false)
  | some k => (l.getD k zD, true)
theorem getD_due (B : List It) (k : Nat) : (B.map It.due).getD k zD = (B.getD k zI).due := by
  simp only [List.getD_eq_getElem?_getD, List.getElem?_map]
  cases B[k]? <;> rfl
theorem nxtB_D (B : List It) : nxtB B = ((nxtD (B.map It.due)).1.enc, (nxtD (B.map It.due)).2) := by
  unfold nxtB nxtD
  rw [← ats_due]
  cases bst (ats B) with
  | none => rfl
  | some k => simp only [getD_due]; rfl
theorem map_eraseIdx {α β : Type} (f : α → β) : ∀ (l : List α) (k : Nat), (l.eraseIdx k).map f = (l.map f).eraseIdx k
  | [], k => by simp
  | a :: l, 0 => by simp
  | a :: l, k + 1 => by simp [map_eraseIdx f l k]
theorem popB_D (B : List It) (now : Int) : (popB B now).1 = ((popD (B.map It.due) now).1.1.enc, (popD (B.map It.due) now).1.2) ∧ (popB B now).2.map It.due = (popD (B.map It.due) now).2 := by
  unfold popB popD
  rw [← ats_due]
  cases bst (ats B) with
  | none => exact ⟨rfl, rfl⟩
  | some k =>
    simp only [getD_due]
    by_cases h : now < (B.getD k zI).at'
    · rw [if_pos h, if_pos (show now < (B.getD k zI).due.at' from h)]; exact ⟨rfl, rfl⟩
    · rw [if_neg h, if_neg (show ¬ now < (B.getD k zI).due.at' from h)]; exact ⟨rfl, map_eraseIdx _ _ _⟩
theorem mkB_snoc0 (l : List Du) (x : Du) : mkB (l ++ [x]) 0 = mkB l 0 ++ [⟨x.at', x.wh, (l.length : Int)⟩] := by rw [mkB_snoc, Nat.zero_add]
def keepD (w : ByteArray) (l : List Du) : List Du := l.filter fun x => !decide (x.wh = w)
theorem keepD_yes {w : ByteArray} {l : List Du} {i : Nat} (hi : i < l.length) (h : l[i].wh ≠ w) : keepD w (l.take (i + 1)) = keepD w (l.take i) ++ [l[i]] := by
  unfold keepD
  rw [List.take_succ_eq_append_getElem hi, List.filter_append]
  congr 1
  simp [h]
theorem keepD_no {w : ByteArray} {l : List Du} {i : Nat} (hi : i < l.length) (h : l[i].wh = w) : keepD w (l.take (i + 1)) = keepD w (l.take i) := by
  unfold keepD
  rw [List.take_succ_eq_append_getElem hi, List.filter_append, show List.filter (fun x : Du => !decide (x.wh = w)) [l[i]] = [] by simp [h], List.append_nil]
/-! ### What pops and looks say -/
theorem atD_ne {l : List Du} (h : l ≠ []) : atD l ≠ [] := by simpa [atD] using h
theorem bst_cases (l : List Du) : (l = [] ∧ bst (atD l) = none) ∨ ∃ k, bst (atD l) = some k ∧ ∃ hk : k < l.length, l.getD k zD = l[k] := by
  by_cases h : l = []
  · subst h; exact .inl ⟨rfl, rfl⟩
  · obtain ⟨k, h1, h2, _⟩ := bst_some (atD_ne h)
    have hk : k < l.length := by simpa [atD] using h2
    exact .inr ⟨k, h1, hk, by simp [List.getD_eq_getElem?_getD, hk]⟩
theorem popD_sub {l D : List Du} {now : Int} {d : Du} {b : Bool} (h : popD l now = ((d, b), D)) : (b = true → d ∈ l) ∧ (∀ x ∈ D, x ∈ l) ∧ D.length ≤ l.length := by
  unfold popD at h
  rcases bst_cases l with ⟨h1, h2⟩ | ⟨k, h2, hk, h3⟩
  · rw [h2] at h
    simp only [Prod.mk.injEq] at h
    obtain ⟨⟨rfl, rfl⟩, rfl⟩ := h
    exact ⟨(fun h => by cases h), fun x h => h, Nat.le_refl _⟩
  · rw [h2] at h
    simp only [h3] at h
    split at h
    · simp only [Prod.mk.injEq] at h
      obtain ⟨⟨rfl, rfl⟩, rfl⟩ := h
      exact ⟨(fun h => by cases h), fun x h => h, Nat.le_refl _⟩
    · simp only [Prod.mk.injEq] at h
      obtain ⟨⟨rfl, rfl⟩, rfl⟩ := h
      exact ⟨fun _ => List.getElem_mem hk, fun x h => List.mem_of_mem_eraseIdx h, List.length_eraseIdx_le _ _⟩
theorem nxt_go {l : List Du} (h : 0 < l.length) : ∃ d D, nxtD l = (d, true) ∧ (∀ now, now < d.at' → popD l now = ((zD, false), l)) ∧ popD l d.at' = ((d, true), D) ∧ D.length = l.length - 1 ∧ d ∈ l ∧ ∀ x ∈ D, x ∈ l := by
  rcases bst_cases l with ⟨h1, h2⟩ | ⟨k, h2, hk, h3⟩
  · subst h1; simp at h
  · refine ⟨l[k], l.eraseIdx k, by simp only [nxtD, h2, h3], fun now hn => ?_, ?_, List.length_eraseIdx_of_lt hk, List.getElem_mem hk, fun x hx => List.mem_of_mem_eraseIdx hx⟩
    · simp only [popD, h2, h3]; rw [if_pos hn]
    · simp only [popD, h2, h3]; rw [if_neg (by omega)]
/-! ### TimerOrders -/
def isD (now : Int) (x : It) : Bool := decide (x.at' ≤ now)
/-- c came, B stays, of what B0 was. -/
structure Came (B0 B c : List It) (now : Int) : Prop where
  perm : (c ++ B).Perm B0
  asc : B.Pairwise (fun x y => x.nr < y.nr)
  sor : c.Pairwise (fun x y => lessI x y = true)
  ahd : ∀ x ∈ c, ∀ y ∈ B, lessI x y = true
  due : ∀ x ∈ c, x.at' ≤ now
theorem Came.zero {B0 : List It} {now : Int} (h : B0.Pairwise (fun x y => x.nr < y.nr)) : Came B0 B0 [] now := ⟨.refl _, h, .nil, by simp, by simp⟩
theorem lessI_iff {x y : It} : lessI x y = true ↔ x.at' < y.at' ∨ (x.at' = y.at' ∧ x.nr < y.nr) := by unfold lessI; rw [decide_eq_true_eq]
theorem Came.left {B0 B c : List It} {now : Int} (h : Came B0 B c now) : c.length + B.countP (isD now) = B0.countP (isD now) := by
  have h1 := h.perm.countP_eq (isD now)
  rw [List.countP_append] at h1
  have h2 : c.countP (isD now) = c.length := List.countP_eq_length.2 fun x hx => decide_eq_true (h.due x hx)
  omega
theorem best_less {B : List It} {k : Nat} (hk : k < B.length) (hasc : B.Pairwise (fun x y => x.nr < y.nr)) (h3 : ∀ j, j < k → (ats B).getD k 0 < (ats B).getD j 0) (h4 : ∀ j, j < (ats B).length → (ats B).getD k 0 ≤ (ats B).getD j 0) {j : Nat} (hj : j < B.length) (hne : j ≠ k) : lessI B[k] B[j] = true := by
  rw [lessI_iff]
  have e1 := ats_getD hk
  have e2 := ats_getD hj
  rcases Nat.lt_or_gt_of_ne hne with h | h
  · have := h3 j h; omega
  · have h5 := h4 j (by simpa [ats] using hj)
    have h6 := asc_lt hasc h hj
    omega
theorem Came.go {B0 B c : List It} {now : Int} (h : Came B0 B c now) (h0 : c.length < B0.countP (isD now)) : ∃ x : It, popB B now = ((x.due.enc, true), (popB B now).2) ∧ x.at' ≤ now ∧ (∀ y ∈ c, lessI y x = true) ∧ Came B0 (popB B now).2 (c ++ [x]) now ∧ x ∈ B := by
  have h1 := h.left
  obtain ⟨y, hy, hyd⟩ := List.countP_pos_iff.1 (show 0 < B.countP (isD now) by omega)
  have hyd : y.at' ≤ now := of_decide_eq_true hyd
  obtain ⟨j, hj, e⟩ := List.mem_iff_getElem.1 hy
  obtain ⟨k, k1, k2, k3, k4⟩ := bst_some (l := ats B) (fun e => by have := congrArg List.length e; simp [ats] at this; rw [this] at hj; simp at hj)
  have hk : k < B.length := by simpa [ats] using k2
  have hg : B.getD k zI = B[k] := by simp [List.getD_eq_getElem?_getD, hk]
  have hle : B[k].at' ≤ now := by
    have := k4 j (by simpa [ats] using hj)
    rw [ats_getD hk, ats_getD hj, e] at this; omega
  have hp : popB B now = ((B[k].due.enc, true), B.eraseIdx k) := by
    unfold popB
    simp only [k1, hg]
    rw [if_neg (by omega)]; rfl
  refine ⟨B[k], by rw [hp], hle, fun y hy => h.ahd y hy _ (List.getElem_mem hk), ?_, List.getElem_mem hk⟩
  rw [hp]
  refine ⟨?_, h.asc.sublist (List.eraseIdx_sublist _ _), List.pairwise_append.2 ⟨h.sor, List.pairwise_singleton _ _, fun x hx y hy => ?_⟩, fun x hx y hy => ?_, fun x hx => ?_⟩
  · rw [List.append_assoc]
    exact ((eraseIdx_perm hk).append_left c).trans h.perm
  · obtain rfl : y = B[k] := by simpa using hy
    exact h.ahd x hx _ (List.getElem_mem hk)
  · rcases List.mem_append.1 hx with hx | hx
    · exact h.ahd x hx y (List.mem_of_mem_eraseIdx hy)
    · obtain rfl : x = B[k] := by simpa using hx
      obtain ⟨j, hne, hj⟩ := List.mem_eraseIdx_iff_getElem?.1 hy
      obtain ⟨hj1, rfl⟩ := List.getElem?_eq_some_iff.1 hj
      exact best_less hk h.asc k3 k4 hj1 hne
  · rcases List.mem_append.1 hx with hx | hx
    · exact h.due x hx
    · obtain rfl : x = B[k] := by simpa using hx
      exact hle
theorem Came.stop {B0 B c : List It} {now : Int} (h : Came B0 B c now) (h0 : c.length = B0.countP (isD now)) : popB B now = ((zeroD, false), B) := by
  have h1 := h.left
  unfold popB
  cases hb : bst (ats B) with
  | none => rfl
  | some k =>
    by_cases hB : ats B = []
    · rw [hB] at hb; cases hb
    · obtain ⟨k', k1, k2, k3, k4⟩ := bst_some hB
      rw [hb] at k1
      obtain rfl : k = k' := Option.some.inj k1
      have hk : k < B.length := by simpa [ats] using k2
      have hg : B.getD k zI = B[k] := by simp [List.getD_eq_getElem?_getD, hk]
      have : ¬ B[k].at' ≤ now := fun hh => by
        have := (List.countP_pos_iff (p := isD now)).2 ⟨B[k], List.getElem_mem hk, (decide_eq_true hh : isD now B[k] = true)⟩
        omega
      simp only [hg]
      rw [if_pos (by omega)]
theorem filt_at {α : Type} {p : α → Bool} {l : List α} {k : Nat} (hk : k < l.length) (hp : p l[k] = true) : (l.filter p)[(l.take k).countP p]? = some l[k] := by
  have e : l = l.take k ++ l[k] :: l.drop (k + 1) := by rw [← List.drop_eq_getElem_cons hk, List.take_append_drop]
  have h1 : l.filter p = (l.take k).filter p ++ l[k] :: (l.drop (k + 1)).filter p := by
    conv => lhs; rw [e]
    rw [List.filter_append, List.filter_cons, if_pos hp]
  rw [h1, List.countP_eq_length_filter, List.getElem?_append_right (Nat.le_refl _), Nat.sub_self]
  rfl
/-- The things of one time come as they were added. -/
theorem Came.same {B0 B c : List It} {now a : Int} (h : Came B0 B c now) (h0 : c.length = B0.countP (isD now)) (hasc : B0.Pairwise (fun x y => x.nr < y.nr)) (ha : a ≤ now) : B0.filter (fun x => decide (x.at' = a)) = c.filter (fun x => decide (x.at' = a)) := by
  have h1 := h.left
  have hB : B.filter (fun x => decide (x.at' = a)) = [] := by
    rw [List.filter_eq_nil_iff]
    intro x hx hxa
    have hxa : x.at' = a := of_decide_eq_true hxa
    have := (List.countP_pos_iff (p := isD now)).2 ⟨x, hx, (decide_eq_true (by omega) : isD now x = true)⟩
    omega
  have hp := h.perm.filter (fun x => decide (x.at' = a))
  rw [List.filter_append, hB, List.append_nil] at hp
  refine (List.Perm.eq_of_pairwise (le := fun x y => x.nr < y.nr) (fun x y _ _ h1 h2 => by omega) ?_ ?_ hp).symm
  · refine List.Pairwise.imp_of_mem (fun {x y} hx hy hxy => ?_) (h.sor.sublist List.filter_sublist)
    have h1 : x.at' = a := of_decide_eq_true (List.mem_filter.1 hx).2
    have h2 : y.at' = a := of_decide_eq_true (List.mem_filter.1 hy).2
    rw [lessI_iff] at hxy; omega
  · exact hasc.sublist List.filter_sublist
theorem Came.nth {B0 B c : List It} {now : Int} (h : Came B0 B c now) (h0 : c.length = B0.countP (isD now)) (hasc : B0.Pairwise (fun x y => x.nr < y.nr)) {i k : Nat} (hi : i < c.length) (hk : k < B0.length) (ha : B0[k].at' = c[i].at') (hc : (B0.take k).countP (fun x => decide (x.at' = c[i].at')) = (c.take i).countP (fun x => decide (x.at' = c[i].at'))) : B0[k] = c[i] := by
  have hs := h.same h0 hasc (h.due _ (List.getElem_mem hi))
  have h1 := filt_at (p := fun x => decide (x.at' = c[i].at')) hk (decide_eq_true ha)
  have h2 := filt_at (p := fun x => decide (x.at' = c[i].at')) hi (decide_eq_true rfl)
  rw [hs, hc, h2] at h1
  exact (Option.some.inj h1).symm
end Go.Proofs.Ytamdokgbenbndaa.X
