/- Layer 12: the laws QuotaChanges, QuotaBack, QuotaLimits. -/
import Derived.Test.YtealccnfnpkngaaQ2
set_option linter.unusedVariables false
set_option linter.unusedSimpArgs false
set_option maxRecDepth 100000
namespace Go.Proofs.Ytealccnfnpkngaa.X
open Go Go.RowKit
variable {ν : Nm} {H : Heap} {Q : AVal → Heap → Prop}
theorem modQ_len (tn : Int) (f : Qu → Qu) (t : List Qu) : (modQ tn f t).length = t.length := by
  induction t with
  | nil => rfl
  | cons x r ih => simp only [modQ]; split <;> simp [ih]
theorem setQ_le (t : List Qu) (tn li : Int) : (setQ t tn li).1.length ≤ t.length + 1 := by
  unfold setQ; split
  · simp [modQ_len]
  · split <;> simp
theorem takeQ_le (t : List Qu) (tn n : Int) : (takeQ t tn n).1.length ≤ t.length + 1 := by
  unfold takeQ; split
  · split <;> simp [modQ_len]
  · simp
theorem giveQ_le (t : List Qu) (tn n : Int) : (giveQ t tn n).1.length ≤ t.length + 1 := by
  unfold giveQ; split <;> simp [modQ_len]
theorem getQ_mod {tn : Int} {f : Qu → Qu} (hf : ∀ x, (f x).tn = x.tn) (t : List Qu) : getQ tn (modQ tn f t) = (getQ tn t).map f := by
  induction t with
  | nil => rfl
  | cons x r ih =>
    by_cases h : x.tn = tn
    · have h2 : (f x).tn = tn := by rw [hf, h]
      simp [modQ, h, getQ, List.find?_cons, isT, h2]
    · simp only [getQ] at ih
      simp [modQ, h, getQ, List.find?_cons, isT]
      exact ih
theorem modQ_mod {tn : Int} {f g : Qu → Qu} (hg : ∀ x, (g x).tn = x.tn) (t : List Qu) : modQ tn f (modQ tn g t) = modQ tn (fun x => f (g x)) t := by
  induction t with
  | nil => rfl
  | cons x r ih =>
    by_cases h : x.tn = tn
    · have h2 : (g x).tn = tn := by rw [hg, h]
      simp [modQ, h, h2]
    · simp [modQ, h, ih]
theorem modQ_congr {tn : Int} {f g : Qu → Qu} (t : List Qu) (h : ∀ x, getQ tn t = some x → f x = g x) : modQ tn f t = modQ tn g t := by
  induction t with
  | nil => rfl
  | cons x r ih =>
    by_cases hx : x.tn = tn
    · simp only [modQ, if_pos hx]
      rw [h x (by simp [getQ, List.find?_cons, isT, hx])]
    · simp only [modQ, if_neg hx]
      rw [ih (fun y hy => h y (by simp only [getQ, List.find?_cons, isT, hx, decide_false]; exact hy))]
theorem modQ_id {tn : Int} (t : List Qu) : modQ tn (fun x => x) t = t := by
  induction t with
  | nil => rfl
  | cons x r ih => simp only [modQ]; split <;> simp [ih]
theorem getQ_mem {tn : Int} {t : List Qu} {r : Qu} (h : getQ tn t = some r) : r ∈ t ∧ r.tn = tn := ⟨List.mem_of_find?_eq_some h, by have := List.find?_some h; simpa [isT] using this⟩
theorem modQ_mem {tn : Int} {f : Qu → Qu} {t : List Qu} {x : Qu} (h : x ∈ modQ tn f t) : x ∈ t ∨ ∃ r, getQ tn t = some r ∧ x = f r := by
  induction t with
  | nil => simp [modQ] at h
  | cons y r ih =>
    by_cases hy : y.tn = tn
    · simp only [modQ, if_pos hy, List.mem_cons] at h
      rcases h with rfl | h
      · exact .inr ⟨y, by simp [getQ, List.find?_cons, isT, hy], rfl⟩
      · exact .inl (by simp [h])
    · simp only [modQ, if_neg hy, List.mem_cons] at h
      rcases h with rfl | h
      · exact .inl (by simp)
      · rcases ih h with h | ⟨r', h1, h2⟩
        · exact .inl (by simp [h])
        · refine .inr ⟨r', ?_, h2⟩
          simp only [getQ, List.find?_cons, isT, hy, decide_false]; exact h1
theorem take_ok {t : List Qu} {tn n : Int} (h : (takeQ t tn n).2 = 0) : ∃ r, getQ tn t = some r ∧ r.us ≤ r.li ∧ n ≤ r.li - r.us ∧ (takeQ t tn n).1 = modQ tn (fun r => { r with us := r.us + n }) t := by
  unfold takeQ at h ⊢
  cases hg : getQ tn t with
  | none => rw [hg] at h; simp at h
  | some r =>
    rw [hg] at h
    simp only at h ⊢
    by_cases hc : r.us ≤ r.li ∧ n ≤ r.li - r.us
    · rw [if_pos hc]; exact ⟨r, rfl, hc.1, hc.2, rfl⟩
    · rw [if_neg hc] at h; simp at h
theorem take_fit {t : List Qu} {tn n : Int} (hf : Fit t) (h0 : 0 ≤ n) : Fit (takeQ t tn n).1 := by
  unfold takeQ
  cases hg : getQ tn t with
  | none => intro x hx; simp at hx
  | some r =>
    simp only
    split
    · rename_i hc
      intro x hx
      rcases modQ_mem hx with h | ⟨r', h1, rfl⟩
      · exact hf x h
      · rw [hg] at h1
        obtain rfl := Option.some.inj h1
        obtain ⟨f1, f2, f3⟩ := hf r (getQ_mem hg).1
        exact ⟨f1, ⟨by show 0 ≤ r.us + n; omega, by show r.us + n ≤ _; omega⟩, f3⟩
    · intro x hx; simp at hx
theorem set_fit {t : List Qu} {tn li : Int} (hf : Fit t) (ht : 0 ≤ tn ∧ tn ≤ 18446744073709551615) (h0 : 0 ≤ li ∧ li ≤ 18446744073709551615) : Fit (setQ t tn li).1 := by
  unfold setQ
  split
  · intro x hx
    rcases modQ_mem hx with h | ⟨r', h1, rfl⟩
    · exact hf x h
    · obtain ⟨f1, f2, f3⟩ := hf r' (getQ_mem h1).1
      exact ⟨f1, f2, h0⟩
  · split
    · intro x hx
      rcases List.mem_append.1 hx with h | h
      · exact hf x h
      · obtain rfl := List.mem_singleton.1 h
        exact ⟨ht, ⟨Int.le_refl 0, by show (0 : Int) ≤ 18446744073709551615; decide⟩, h0⟩
    · intro x hx; simp at hx
theorem give_take {t : List Qu} {tn n : Int} (hf : Fit t) (h0 : 0 ≤ n) (h : (takeQ t tn n).2 = 0) : giveQ (takeQ t tn n).1 tn n = (t, 0) := by
  obtain ⟨r, h1, h2, h3, h4⟩ := take_ok h
  rw [h4, giveQ, getQ_mod (f := fun r => { r with us := r.us + n }) (fun _ => rfl), h1]
  simp only [Option.map_some, modQ_mod (g := fun r => { r with us := r.us + n }) (fun _ => rfl)]
  congr 1
  rw [modQ_congr (g := fun x => x) t ?_, modQ_id]
  intro x hx
  obtain ⟨f1, f2, f3⟩ := hf x (getQ_mem hx).1
  have : min n (x.us + n) = n := by omega
  show (⟨x.tn, x.us + n - min n (x.us + n), x.li⟩ : Qu) = x
  rw [this, Int.add_sub_cancel]
theorem take_take {t : List Qu} {tn n m : Int} (h : (takeQ t tn n).2 = 0) (hm : 0 ≤ m) : takeQ (takeQ t tn n).1 tn m = takeQ t tn (n + m) ∧ ∃ r, getQ tn t = some r ∧ (r.li < n + m + r.us → takeQ t tn (n + m) = ([], 121)) := by
  obtain ⟨r, h1, h2, h3, h4⟩ := take_ok h
  rw [h4]
  refine ⟨?_, r, h1, fun hl => by rw [takeQ, h1]; simp only; rw [if_neg (by omega)]⟩
  rw [takeQ, getQ_mod (f := fun r => { r with us := r.us + n }) (fun _ => rfl), h1, takeQ, h1]
  simp only [Option.map_some]
  by_cases hc : r.us + n ≤ r.li ∧ m ≤ r.li - (r.us + n)
  · rw [if_pos hc, if_pos (by omega), modQ_mod (g := fun r => { r with us := r.us + n }) (fun _ => rfl)]
    congr 1
    refine modQ_congr t fun x _ => ?_
    show (⟨x.tn, x.us + n + m, x.li⟩ : Qu) = ⟨x.tn, x.us + (n + m), x.li⟩
    rw [Int.add_assoc]
  · rw [if_neg hc, if_neg (by omega)]
/-- All that QuotaBack needs of what was taken. -/
theorem back {t : List Qu} {tn n : Int} (hfit : Fit t) (hn0 : 0 ≤ n) (h : (takeQ t tn n).2 = 0) : ∃ (A : List Qu) (i0 : Nat) (hi0 : i0 < t.length), takeQ t tn n = (A, 0) ∧ giveQ A tn n = (t, 0) ∧ A.length = t.length ∧ Fit A ∧ atQ tn t = i0 ∧ A[i0]? = some ⟨t[i0].tn, t[i0].us + n, t[i0].li⟩ ∧ t[i0].us ≤ t[i0].li ∧ n ≤ t[i0].li - t[i0].us ∧ (∀ i, i ≠ i0 → A[i]? = t[i]?) ∧
    ∀ m, 0 ≤ m → takeQ A tn m = takeQ t tn (n + m) ∧ (18446744073709551615 < n + m → takeQ t tn (n + m) = ([], 121)) := by
  obtain ⟨r, hg, hr1, hr2, ha⟩ := take_ok h
  obtain ⟨i0, hi0, hat, hg2, htn, hset⟩ : ∃ (i : Nat) (h : i < t.length), atQ tn t = i ∧ getQ tn t = some t[i] ∧ t[i].tn = tn ∧ ∀ f, modQ tn f t = t.set i (f t[i]) := by
    rcases atQ_cases tn t with ⟨_, h⟩ | h
    · rw [hg] at h; cases h
    · exact h
  obtain rfl : r = t[i0] := by rw [hg] at hg2; exact Option.some.inj hg2
  refine ⟨(takeQ t tn n).1, i0, hi0, by rw [← h], give_take hfit hn0 h, by rw [ha, modQ_len], take_fit hfit hn0, hat, ?_, hr1, hr2, ?_, ?_⟩
  · rw [ha, hset, List.getElem?_set_self hi0]
  · intro i hi; rw [ha, hset, List.getElem?_set_ne (fun e => hi e.symm)]
  · intro m hm
    obtain ⟨h1, r', h2, h3⟩ := take_take h hm
    refine ⟨h1, fun hov => h3 ?_⟩
    obtain rfl : t[i0] = r' := by rw [hg] at h2; exact Option.some.inj h2
    obtain ⟨_, f2, f3⟩ := hfit _ (List.getElem_mem hi0)
    omega
end Go.Proofs.Ytealccnfnpkngaa.X
