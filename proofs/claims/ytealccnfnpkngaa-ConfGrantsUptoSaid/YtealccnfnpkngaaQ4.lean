/- Layer 12: Check; the laws QuotaLimits and QuotaStays. -/
import Derived.Test.YtealccnfnpkngaaQ3
set_option linter.unusedVariables false
set_option linter.unusedSimpArgs false
set_option maxRecDepth 100000
namespace Go.Proofs.Ytealccnfnpkngaa.X
open Go Go.RowKit
theorem EZ22_Q4 {c : Cfg} {ν : Nm} {e : Env} {H : Heap} {all : Array Oper} {i : Nat} {Q : Env → Heap → Prop} {x0 x1 x2 x3 x4 x5 x6 x7 x8 x9 x10 x11 x12 x13 x14 x15 x16 x17 x18 x19 x20 x21 : AVal} (he : e = [x0,x1,x2,x3,x4,x5,x6,x7,x8,x9,x10,x11,x12,x13,x14,x15,x16,x17,x18,x19,x20,x21]) (h : Q [x0,x1,x2,x3,x4,x5,x6,x7,x8,x9,x10,x11,x12,x13,x14,x15,x16,x17,x18,x19,x20,x21] H) : OW c ν all [] i e H Q := by subst he; exact OW_nil h
variable {ν : Nm} {H : Heap} {Q : AVal → Heap → Prop}
theorem getQ_some {tn : Int} {t : List Qu} (h : ∃ x ∈ t, x.tn = tn) : getQ tn t ≠ none := by
  intro hn
  rw [getQ, List.find?_eq_none] at hn
  obtain ⟨x, hx, he⟩ := h
  exact hn x hx (by simp [isT, he])
theorem limits {t A : List Qu} {tn li : Int} (hfit : Fit t) (h : setQ t tn li = (A, true)) : ∃ (i0 : Nat) (u : Int), i0 < A.length ∧ atQ tn A = i0 ∧ getQ tn A = some ⟨tn, u, li⟩ ∧ A[i0]? = some ⟨tn, u, li⟩ ∧ (0 ≤ u ∧ u ≤ 18446744073709551615) ∧ (atQ tn t = -1 ∨ ∃ i : Nat, i < t.length ∧ atQ tn t = i ∧ ∃ y, t[i]? = some ⟨tn, u, y⟩) := by
  have key : ∀ u, getQ tn A = some ⟨tn, u, li⟩ → ∃ i0 : Nat, i0 < A.length ∧ atQ tn A = i0 ∧ A[i0]? = some ⟨tn, u, li⟩ := by
    intro u hg
    rcases atQ_cases tn A with ⟨_, h2⟩ | ⟨i, hi, h1, h2, _⟩
    · rw [hg] at h2; cases h2
    · exact ⟨i, hi, h1, by rw [List.getElem?_eq_getElem hi, ← h2, hg]⟩
  unfold setQ at h
  rcases atQ_cases tn t with ⟨h1, h2⟩ | ⟨i, hi, h1, h2, h3, h4⟩
  · rw [h2] at h
    simp only at h
    split at h
    · obtain rfl : t ++ [⟨tn, 0, li⟩] = A := congrArg Prod.fst h
      have hg : getQ tn (t ++ [(⟨tn, 0, li⟩ : Qu)]) = some ⟨tn, 0, li⟩ := by
        rw [getQ, List.find?_append]
        rw [getQ] at h2
        rw [h2]; simp [isT]
      obtain ⟨i0, k1, k2, k3⟩ := key 0 hg
      exact ⟨i0, 0, k1, k2, hg, k3, by omega, .inl h1⟩
    · cases h
  · rw [h2] at h
    simp only at h
    obtain rfl : modQ tn (fun r => { r with li := li }) t = A := congrArg Prod.fst h
    have hg : getQ tn (modQ tn (fun r => { r with li := li }) t) = some ⟨tn, t[i].us, li⟩ := by
      rw [getQ_mod (f := fun r => { r with li := li }) (fun _ => rfl), h2, Option.map_some, h3]
    obtain ⟨i0, k1, k2, k3⟩ := key _ hg
    refine ⟨i0, t[i].us, k1, k2, hg, k3, (hfit _ (List.getElem_mem hi)).2.1, .inr ⟨i, hi, h1, t[i].li, ?_⟩⟩
    rw [List.getElem?_eq_getElem hi, ← h3]
theorem take_get {A : List Qu} {tn u li n : Int} (hg : getQ tn A = some ⟨tn, u, li⟩) : takeQ A tn n = if u ≤ li ∧ n ≤ li - u then (modQ tn (fun r => { r with us := r.us + n }) A, 0) else ([], 121) := by rw [takeQ, hg]
/-! ### A table that may be -/
def chkQ (t : List Qu) : Bool := decide (t.length ≤ 16 ∧ (t.map Qu.tn).Nodup)
theorem nodup_at {t : List Qu} (h : (t.map Qu.tn).Nodup) {i : Nat} (hi : i < t.length) : atQ t[i].tn t = i := by
  rcases atQ_cases t[i].tn t with ⟨_, h2⟩ | ⟨k, hk, h1, _, h3, _⟩
  · exact absurd h2 (getQ_some ⟨t[i], List.getElem_mem hi, rfl⟩)
  · rw [h1]
    have := (List.getElem_inj (i := k) (j := i) (h₀ := by simpa using hk) (h₁ := by simpa using hi) h).1 (by simpa using h3)
    rw [this]
theorem at_nodup {t : List Qu} (h : ∀ i (hi : i < t.length), atQ t[i].tn t = i) : (t.map Qu.tn).Nodup := by
  rw [List.Nodup, List.pairwise_iff_getElem]
  intro i j hi hj hij he
  simp only [List.length_map] at hi hj
  simp only [List.getElem_map] at he
  have h1 := h i hi
  have h2 := h j hj
  rw [he] at h1
  omega
theorem c_check {v : AVal} {t : List Qu} (hv : freeze [] H 8 v = .lst (t.map Qu.enc)) (hn : t.length ≤ 4294967296) (hq : Q (.bool (chkQ t)) H) : CW cfg ν 41 [v] H Q := by
  refine CW_borrowL (args' := [.lst (t.map Qu.enc)]) g41 F41 rfl (fz_cons (by first | assumption | exact freeze_plain rfl | exact Ls.freeze (by assumption) | rfl) fz_nil) ?_
  have hS0 : Own ν ν (fun _ => none) [] := Own.nil
  refine XW_sr ?_
  refine OW_as rfl rfl ?_
  refine EZ22_Q4 rfl ?_
  refine XW_seq ?_
  refine XW_sr ?_
  refine OW_mv rfl rfl ?_
  first
  | refine OW_lenL rfl rfl (by first | assumption | exact Ls.of | exact Ls.emp | exact Ls.nls) rfl rfl rfl (by first | exact List.length_map _ | rfl) ?_
  | refine OW_bi rfl rfl rfl ?_
  refine OW_bin rfl rfl rfl rfl rfl ?_
  refine EZ22_Q4 rfl ?_
  refine XW_if rfl (fun h1 => ?_) (fun h1 => ?_)
  ·try simp only [bs] at h1
   refine XW_sr ?_
   refine OW_as rfl rfl ?_
   refine EZ22_Q4 rfl ?_
   refine XW_ret ?_
   refine then_ret ?_
   -- outcome 1
   refine ret_ret (res1 rfl (rv_tmp rfl)) ⟨rfl, ?_⟩
   refine qcast hq ?_
   congr 1
   first | exact (decide_eq_false (fun e => by have := e.1; omega)).symm | exact (decide_eq_true ⟨hl, at_nodup (fun j hj => hI j hj (by omega))⟩).symm | exact (decide_eq_false (fun e => by have := nodup_at e.2 (i := i) (by omega); omega)).symm
  ·try simp only [bs] at h1
   refine XW_skip ?_
   refine then_norm ?_
   refine XW_seq ?_
   refine XW_sr ?_
   refine OW_mv rfl rfl ?_
   first
   | refine OW_lenL rfl rfl (by first | assumption | exact Ls.of | exact Ls.emp | exact Ls.nls) rfl rfl rfl (by first | exact List.length_map _ | rfl) ?_
   | refine OW_bi rfl rfl rfl ?_
   refine OW_mv rfl rfl ?_
   refine EZ22_Q4 rfl ?_
   refine XW_block ?_
   refine XW_whileN (I := fun ν' mm ee H' => ∃ (i : Nat), mm = t.length - i ∧ under (1 :: 0 :: 1 :: 1 :: ν) ν' = true ∧ Own ν ν' H' ([]) ∧ (i ≤ t.length ∧ t.length ≤ 16 ∧ ∀ j (hj : j < t.length), j < i → atQ t[j].tn t = j) ∧ ∃ g : Nat → AVal, ee = [.lst (t.map Qu.enc), g 1, g 2, g 3, g 4, g 5, g 6, g 7, .lst (t.map Qu.enc), .int .i64 t.length, .int .i64 i, g 11, g 12, g 13, g 14, g 15, g 16, g 17, g 18, g 19, g 20, g 21]) ?_ _ _ _ _ ⟨0, rfl, under_me, Own.cast (Own.mono (hS0) (le_app (p := ν) (b := [1, 0, 1, 1]))) (rfl), (⟨by omega, by omega, fun j hj h => by omega⟩), env_g rfl⟩
   rintro ν1 mm ee H1 ⟨i, rfl, hU1, hS1, ⟨hi, hl, hI⟩, g1, rfl⟩
   refine XW_sr ?_
   refine OW_bin rfl rfl rfl rfl rfl ?_
   refine EZ22_Q4 rfl ?_
   refine XW_seq ?_
   refine XW_if rfl (fun h4 => ?_) (fun h4 => ?_)
   ·try simp only [bs] at h4
    refine XW_skip ?_
    refine then_norm ?_
    refine XW_seq ?_
    refine XW_block ?_
    refine XW_sr ?_
    refine OW_mv rfl rfl ?_
    first
    | refine OW_iaL rfl rfl rfl Ls.of rfl rfl rfl (by first | rfl | exact (Int.toNat_of_nonneg (by omega)).symm) (by first | assumption | exact at_map (by first | assumption | omega) | exact at_lst (by omega) | rfl) rfl ?_
    | refine OW_iaL rfl rfl rfl (by assumption) rfl rfl rfl (by first | rfl | exact (Int.toNat_of_nonneg (by omega)).symm) (by first | assumption | exact at_map (by first | assumption | omega) | exact at_lst (by omega) | rfl) rfl ?_
    refine OW_loadE rfl rfl rfl (by first | exact part_whole rfl rfl rfl | rfl) ?_
    refine OW_env (e' := [_,_,_,_,_,_,_,_,_,_,_,_,_,_,_,_,_,_,_,_,_,_]) rfl ?_
    refine OW_allocR hS1 (le_app (p := ν1) (b := [3, 0, 0, 1, 1, 0])) (under_app [3, 0, 0, 1, 1, 0] (under_trans (under_app [1, 0, 1, 1] under_me) hU1)) rfl rfl rfl rfl fun H2 hS2 => ?_
    replace hS2 : Own _ _ _ ([_]) := hS2
    refine OW_as rfl rfl ?_
    first
    | refine OW_storeR hS2 (k := 0) rfl (le_lit (ν := ν1) (a := [4, 0, 0, 1, 1, 0]) (b := [5, 0, 0, 1, 1, 0]) (by decide)) rfl rfl rfl rfl ⟨rfl, rfl, Nat.le_of_ble_eq_true rfl⟩ (set_whole rfl rfl) fun H3 hS3 => ?_
    | refine OW_storeR hS2 (k := 0) rfl (le_lit (ν := ν1) (a := [4, 0, 0, 1, 1, 0]) (b := [5, 0, 0, 1, 1, 0]) (by decide)) rfl rfl rfl rfl ⟨rfl, rfl, Nat.le_of_ble_eq_true rfl⟩ (u2 := .agg [_, _, _]) rfl fun H3 hS3 => ?_
    replace hS3 : Own _ _ _ ([_]) := hS3
    refine EZ22_Q4 rfl ?_
    refine XW_sr ?_
    refine OW_mv rfl rfl ?_
    refine OW_fa rfl rfl rfl ?_
    refine OW_loadR hS3 (k := 0) rfl rfl rfl rfl rfl (by first | exact part_whole rfl rfl rfl | rfl) ?_
    refine OW_env (e' := [_,_,_,_,_,_,_,_,_,_,_,_,_,_,_,_,_,_,_,_,_,_]) rfl ?_
    refine OW_fn rfl rfl (c_findB (Ls.freeze Ls.of) (by omega) _ ?_) 
    refine OW_mv rfl rfl ?_
    refine OW_bin rfl rfl rfl rfl rfl ?_
    refine EZ22_Q4 rfl ?_
    refine XW_if rfl (fun h6 => ?_) (fun h6 => ?_)
    ·try simp only [bs] at h6
     refine XW_sr ?_
     refine OW_as rfl rfl ?_
     refine EZ22_Q4 rfl ?_
     refine XW_ret ?_
     refine block_ret ?_
     refine then_ret ?_
     refine block_ret ?_
     refine then_ret ?_
     -- outcome 2
     refine ret_ret (res1 rfl (rv_tmp rfl)) ⟨rfl, ?_⟩
     refine qcast hq ?_
     congr 1
     first | exact (decide_eq_false (fun e => by have := e.1; omega)).symm | exact (decide_eq_true ⟨hl, at_nodup (fun j hj => hI j hj (by omega))⟩).symm | exact (decide_eq_false (fun e => by have := nodup_at e.2 (i := i) (by omega); omega)).symm
    ·try simp only [bs] at h6
     refine XW_skip ?_
     refine block_norm ?_
     refine then_norm ?_
     refine XW_region ?_
     first
     | refine OW_bin rfl rfl rfl rfl (add_w64 (by first | omega | assumption | (simp only [ss]; omega))) ?_
     | refine OW_bin rfl rfl rfl rfl rfl ?_
     refine OW_mv rfl rfl ?_
     refine EZ22_Q4 rfl ?_
     have hSd1 : Own _ _ _ ([]) := (Own.drop hS3 (k := 0) rfl)
     -- round 0.1
     refine ⟨_, ?_, i + 1, rfl, under_in hU1, Own.cast (Own.mono (hSd1) (le_lit (ν := ν1) (a := [6, 0, 0, 1, 1, 0]) (b := [1]) (by decide))) (rfl), ?_, env_g rfl⟩
     · first | omega | (simp; omega)
     · exact ⟨by omega, hl, fun j hj h => by by_cases e : j = i; (subst e; omega); exact hI j hj (by omega)⟩
   ·try simp only [bs] at h4
    refine XW_exit ?_
    refine then_exit ?_
    refine block_exit ?_
    refine then_norm ?_
    refine XW_sr ?_
    refine OW_as rfl rfl ?_
    refine EZ22_Q4 rfl ?_
    refine XW_ret ?_
    -- outcome 3
    refine ret_ret (res1 rfl (rv_tmp rfl)) ⟨rfl, ?_⟩
    refine qcast hq ?_
    congr 1
    first | exact (decide_eq_false (fun e => by have := e.1; omega)).symm | exact (decide_eq_true ⟨hl, at_nodup (fun j hj => hI j hj (by omega))⟩).symm | exact (decide_eq_false (fun e => by have := nodup_at e.2 (i := i) (by omega); omega)).symm
/-- A is a table that may be, with t's tenants ahead. -/
def GoodQ (t A : List Qu) : Prop := chkQ A = true ∧ t.length ≤ A.length ∧ ∀ i (h : i < t.length) (h2 : i < A.length), A[i].tn = t[i].tn
theorem modQ_tn {tn : Int} {f : Qu → Qu} (hf : ∀ x, (f x).tn = x.tn) (t : List Qu) : (modQ tn f t).map Qu.tn = t.map Qu.tn := by
  induction t with
  | nil => rfl
  | cons x r ih => simp only [modQ]; split <;> simp [hf, ih]
theorem good_mod {tn : Int} {f : Qu → Qu} (hf : ∀ x, (f x).tn = x.tn) {t : List Qu} (h : chkQ t = true) : GoodQ t (modQ tn f t) := by
  have h := of_decide_eq_true h
  refine ⟨decide_eq_true ?_, by rw [modQ_len]; omega, fun i h1 h2 => ?_⟩
  · rw [modQ_len, modQ_tn hf]; exact h
  · have e := modQ_tn (tn := tn) hf t
    have := congrArg (fun l => l[i]?) e
    simp only [List.getElem?_map, List.getElem?_eq_getElem h1, List.getElem?_eq_getElem h2, Option.map_some] at this
    exact Option.some.inj this
theorem good_set {t : List Qu} {tn li : Int} (h : chkQ t = true) (hok : (setQ t tn li).2 = true) : GoodQ t (setQ t tn li).1 := by
  unfold setQ at hok ⊢
  cases hg : getQ tn t with
  | some r => simp only; refine good_mod ?_ h; intro _; rfl
  | none =>
    rw [hg] at hok
    simp only at hok ⊢
    split at hok
    · rename_i hl
      rw [if_pos hl]
      have h := of_decide_eq_true h
      refine ⟨decide_eq_true ⟨by simp; omega, ?_⟩, by simp, fun i h1 h2 => ?_⟩
      · rw [List.map_append, List.nodup_append]
        refine ⟨h.2, by simp, ?_⟩
        intro a ha b hb e
        obtain ⟨x, hx, rfl⟩ := List.mem_map.1 ha
        simp only [List.map_cons, List.map_nil, List.mem_singleton] at hb
        exact getQ_some ⟨x, hx, by rw [e, hb]⟩ hg
      · simp only [List.getElem_append_left h1]
    · cases hok
theorem good_take {t : List Qu} {tn n : Int} (h : chkQ t = true) (hok : (takeQ t tn n).2 = 0) : GoodQ t (takeQ t tn n).1 := by
  obtain ⟨r, _, _, _, ha⟩ := take_ok hok
  rw [ha]; refine good_mod ?_ h; intro _; rfl
theorem good_give {t : List Qu} {tn n : Int} (h : chkQ t = true) (hok : (giveQ t tn n).2 = 0) : GoodQ t (giveQ t tn n).1 := by
  unfold giveQ at hok ⊢
  cases hg : getQ tn t with
  | some r => simp only; refine good_mod ?_ h; intro _; rfl
  | none => rw [hg] at hok; simp at hok
theorem set_is (t : List Qu) (tn li : Int) : (setQ t tn li).2 = (decide (atQ tn t ≥ 0) || decide (t.length < 16)) := by
  rcases atQ_cases tn t with ⟨h1, h2⟩ | ⟨i, hi, h1, h2, _⟩
  · rw [setQ, h2, h1]; simp only; by_cases h : t.length < 16 <;> simp [h]
  · rw [setQ, h2, h1]; simp
theorem give_is (t : List Qu) (tn n : Int) : decide ((giveQ t tn n).2 = 0) = decide (atQ tn t ≥ 0) := by
  rcases atQ_cases tn t with ⟨h1, h2⟩ | ⟨i, hi, h1, h2, _⟩
  · rw [giveQ, h2, h1]; simp
  · rw [giveQ, h2, h1]; simp
theorem r_check {v : AVal} {t : List Qu} (hv : freeze [] H 8 v = .lst (t.map Qu.enc)) (hn : t.length ≤ 4294967296) (hq : Q (.bool (chkQ t)) H) : CW cfg ν 31 [v] H Q := by
  refine CW_borrowL (args' := [.lst (t.map Qu.enc)]) g31 F31 rfl (fz_cons (by first | assumption | exact freeze_plain rfl | exact Ls.freeze (by assumption) | rfl) fz_nil) ?_
  refine XW_sr ?_
  refine OW_as rfl rfl ?_
  refine EZ22_Q4 rfl ?_
  refine XW_seq ?_
  refine XW_sr ?_
  refine OW_as rfl rfl ?_
  refine EZ22_Q4 rfl ?_
  refine XW_block ?_
  refine XW_whileN (I := fun ν' mm ee H' => ∃ (i : Nat), mm = t.length - i ∧ under (1 :: 0 :: 1 :: ν) ν' = true ∧ (i ≤ t.length ∧ ∀ j (hj : j < t.length), j < i → atQ t[j].tn t = j) ∧ ∃ g : Nat → AVal, ee = [.lst (t.map Qu.enc), g 1, g 2, .int .i64 i, g 4, g 5, g 6, g 7, g 8, g 9, g 10, g 11, g 12, g 13, g 14, g 15, g 16, g 17, g 18, g 19, g 20, g 21]) ?_ _ _ _ _ ⟨0, rfl, under_me, (⟨by omega, fun j hj h => by omega⟩), env_g rfl⟩
  rintro ν1 mm ee H1 ⟨i, rfl, hU1, ⟨hi, hI⟩, g1, rfl⟩
  refine XW_seq ?_
  refine XW_sr ?_
  refine OW_mv rfl rfl ?_
  refine OW_mv rfl rfl ?_
  first
  | refine OW_lenL rfl rfl (by first | assumption | exact Ls.of | exact Ls.emp | exact Ls.nls) rfl rfl rfl (by first | exact List.length_map _ | rfl) ?_
  | refine OW_bi rfl rfl rfl ?_
  refine OW_env (e' := [_,_,_,_,_,_,_,_,_,_,_,_,_,_,_,_,_,_,_,_,_,_]) rfl ?_
  refine OW_bin rfl rfl rfl rfl rfl ?_
  refine EZ22_Q4 rfl ?_
  refine XW_if rfl (fun h2 => ?_) (fun h2 => ?_)
  ·try simp only [bs] at h2
   refine XW_skip ?_
   refine then_norm ?_
   refine XW_seq ?_
   refine XW_block ?_
   refine XW_sr ?_
   refine OW_mv rfl rfl ?_
   refine OW_mv rfl rfl ?_
   refine OW_mv rfl rfl ?_
   refine OW_env (e' := [_,_,_,_,_,_,_,_,_,_,_,_,_,_,_,_,_,_,_,_,_,_]) rfl ?_
   first
   | refine OW_iaL rfl rfl rfl Ls.of rfl rfl rfl (by first | rfl | exact (Int.toNat_of_nonneg (by omega)).symm) (by first | assumption | exact at_map (by first | assumption | omega) | exact at_lst (by omega) | rfl) rfl ?_
   | refine OW_iaL rfl rfl rfl (by assumption) rfl rfl rfl (by first | rfl | exact (Int.toNat_of_nonneg (by omega)).symm) (by first | assumption | exact at_map (by first | assumption | omega) | exact at_lst (by omega) | rfl) rfl ?_
   refine OW_fa rfl rfl rfl ?_
   refine OW_loadE rfl rfl rfl (by first | exact part_whole rfl rfl rfl | rfl) ?_
   refine OW_env (e' := [_,_,_,_,_,_,_,_,_,_,_,_,_,_,_,_,_,_,_,_,_,_]) rfl ?_
   refine OW_fn rfl rfl (c_Find (Ls.freeze Ls.of) (by omega) _ ?_) 
   refine OW_mv rfl rfl ?_
   refine OW_bin rfl rfl rfl rfl rfl ?_
   refine EZ22_Q4 rfl ?_
   refine XW_if rfl (fun h4 => ?_) (fun h4 => ?_)
   ·try simp only [bs] at h4
    refine XW_sr ?_
    refine OW_as rfl rfl ?_
    refine EZ22_Q4 rfl ?_
    refine XW_ret ?_
    refine block_ret ?_
    refine then_ret ?_
    refine block_ret ?_
    refine then_ret ?_
    -- outcome 1
    refine ret_ret (res1 rfl (rv_tmp rfl)) ⟨rfl, ?_⟩
    refine qcast hq ?_
    congr 1
    first | exact (decide_eq_false (fun e => by have := nodup_at e.2 (i := i) (by omega); omega)).symm | (have hnd := at_nodup (fun j hj => hI j hj (by omega)); exact decide_eq_decide.2 ⟨fun h => ⟨by omega, hnd⟩, fun h => by have := h.1; omega⟩)
   ·try simp only [bs] at h4
    refine XW_skip ?_
    refine block_norm ?_
    refine then_norm ?_
    refine XW_region ?_
    refine OW_mv rfl rfl ?_
    first
    | refine OW_bin rfl rfl rfl rfl (add_w64 (by first | omega | assumption | (simp only [ss]; omega))) ?_
    | refine OW_bin rfl rfl rfl rfl rfl ?_
    refine OW_as rfl rfl ?_
    refine EZ22_Q4 rfl ?_
    -- round 0.1
    refine ⟨_, ?_, i + 1, rfl, under_in hU1, ?_, env_g rfl⟩
    · first | omega | (simp; omega)
    · exact ⟨by omega, fun j hj h => by by_cases e : j = i; (subst e; omega); exact hI j hj (by omega)⟩
  ·try simp only [bs] at h2
   refine XW_exit ?_
   refine then_exit ?_
   refine block_exit ?_
   refine then_norm ?_
   refine XW_sr ?_
   refine OW_mv rfl rfl ?_
   first
   | refine OW_lenL rfl rfl (by first | assumption | exact Ls.of | exact Ls.emp | exact Ls.nls) rfl rfl rfl (by first | exact List.length_map _ | rfl) ?_
   | refine OW_bi rfl rfl rfl ?_
   refine OW_bin rfl rfl rfl rfl rfl ?_
   refine OW_env (e' := [_,_,_,_,_,_,_,_,_,_,_,_,_,_,_,_,_,_,_,_,_,_]) rfl ?_
   refine OW_as rfl rfl ?_
   refine EZ22_Q4 rfl ?_
   refine XW_ret ?_
   -- outcome 2
   refine ret_ret (res1 rfl (rv_tmp rfl)) ⟨rfl, ?_⟩
   refine qcast hq ?_
   congr 1
   first | exact (decide_eq_false (fun e => by have := nodup_at e.2 (i := i) (by omega); omega)).symm | (have hnd := at_nodup (fun j hj => hI j hj (by omega)); exact decide_eq_decide.2 ⟨fun h => ⟨by omega, hnd⟩, fun h => by have := h.1; omega⟩)
end Go.Proofs.Ytealccnfnpkngaa.X
