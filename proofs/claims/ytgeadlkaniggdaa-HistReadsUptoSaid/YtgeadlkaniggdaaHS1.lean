/- Histories of one sector, in plain Lean: the least order, found in two ways. -/
import Derived.Test.YtgeadlkaniggdaaZ
set_option linter.unusedVariables false
set_option linter.unusedSimpArgs false
namespace Go.Proofs.Ytgeadlkaniggdaa.X
open Go
structure Hop where
  w : Bool
  tx : ByteArray
  fr : Int
  to : Int
  deriving DecidableEq
namespace HM
def ahd (a b : Hop) : Bool := decide (0 ≤ a.to ∧ a.to < b.fr)
def ahI (l : List Hop) (j i : Nat) : Bool := match l[j]?, l[i]? with
  | some y, some x => ahd y x
  | _, _ => false
def wAt (l : List Hop) (i : Nat) : Bool := match l[i]? with
  | some x => x.w
  | none => false
def ended (l : List Hop) (i : Nat) : Bool := match l[i]? with
  | some x => decide (0 ≤ x.to)
  | none => false
def lastI (l : List Hop) (o : List Nat) : Int := o.foldl (fun m i => if wAt l i then (i : Int) else m) (-1)
def txtI (l : List Hop) (la : Int) : ByteArray := if la < 0 then ⟨#[]⟩ else match l[la.toNat]? with
  | some x => x.tx
  | none => ⟨#[]⟩
theorem lastI_snoc (l : List Hop) (o : List Nat) (i : Nat) : lastI l (o ++ [i]) = if wAt l i then (i : Int) else lastI l o := by
  unfold lastI; rw [List.foldl_append]; rfl
/-- May an operation stand behind others, by what it tells? -/
def rok (l : List Hop) (o : List Nat) (i : Nat) : Bool := match l[i]? with
  | some x => x.w || (decide (0 ≤ x.to) && decide (x.tx = txtI l (lastI l o)))
  | none => false
def nxt (l : List Hop) (o : List Nat) (i : Nat) : Bool := decide (i ∉ o) && rok l o i && (List.range l.length).all fun k => decide (k ∈ o) || !(ahI l k i)
def cpl (l : List Hop) (o : List Nat) : Bool := (List.range l.length).all fun i => !(ended l i) || decide (i ∈ o)
def goF (l : List Hop) (g : List Nat → Option (List Nat)) (o : List Nat) (i : Nat) : Option (List Nat) := if nxt l o i then g (o ++ [i]) else none
def go (l : List Hop) : Nat → List Nat → Option (List Nat)
  | 0, o => if cpl l o then some o else none
  | k + 1, o => if cpl l o then some o else (List.range l.length).findSome? (goF l (go l k) o)
def rgt (l : List Hop) (o : List Nat) : Bool := (List.range o.length).all fun p => match o[p]? with
  | some i => rok l (o.take p) i && (o.drop p).all fun j => !(ahI l j i)
  | none => false
def rgoF (g : List Nat → Option (List Nat)) (o : List Nat) (i : Nat) : Option (List Nat) := if i ∈ o then none else g (o ++ [i])
def rgo (l : List Hop) : Nat → List Nat → Option (List Nat)
  | 0, o => if rgt l o then (if cpl l o then some o else none) else none
  | k + 1, o => if rgt l o then (if cpl l o then some o else (List.range l.length).findSome? (rgoF (rgo l k) o)) else none
def fu (n : Nat) (o : List Nat) : Nat := (List.range n).countP fun j => decide (j ∉ o)

/-! ### how many are left -/
theorem fu_zero (o : List Nat) : fu 0 o = 0 := rfl
theorem fu_succ (n : Nat) (o : List Nat) : fu (n + 1) o = fu n o + if n ∈ o then 0 else 1 := by
  unfold fu
  rw [List.range_succ, List.countP_append]
  by_cases h : n ∈ o <;> simp [h]
theorem fu_snoc_ge {n : Nat} {o : List Nat} {i : Nat} (h : n ≤ i) : fu n (o ++ [i]) = fu n o := by
  induction n with
  | zero => rfl
  | succ n ih =>
    rw [fu_succ, fu_succ, ih (by omega)]
    have : (n ∈ o ++ [i]) ↔ n ∈ o := by simp; omega
    by_cases hn : n ∈ o
    · rw [if_pos hn, if_pos (this.2 hn)]
    · rw [if_neg hn, if_neg (fun h => hn (this.1 h))]
theorem fu_snoc {n : Nat} {o : List Nat} {i : Nat} (h : i < n) (hi : i ∉ o) : fu n (o ++ [i]) + 1 = fu n o := by
  induction n with
  | zero => omega
  | succ n ih =>
    rw [fu_succ, fu_succ]
    by_cases he : i = n
    · subst he
      rw [fu_snoc_ge (Nat.le_refl _), if_neg hi, if_pos (by simp)]
    · have := ih (by omega)
      have hm : (n ∈ o ++ [i]) ↔ n ∈ o := by simp; omega
      by_cases hn : n ∈ o
      · rw [if_pos hn, if_pos (hm.2 hn)]; omega
      · rw [if_neg hn, if_neg (fun h => hn (hm.1 h))]; omega
theorem fu_snoc_in {n : Nat} {o : List Nat} {i : Nat} (hi : i ∈ o) : fu n (o ++ [i]) = fu n o := by
  unfold fu
  congr 1
  funext j
  have : (j ∈ o ++ [i]) ↔ j ∈ o := by
    simp; rintro rfl; exact hi
  simp only [this]
theorem fu_len (n : Nat) (o : List Nat) : n ≤ fu n o + o.length := by
  suffices h : ∀ r : List Nat, n ≤ fu n r.reverse + r.length by have := h o.reverse; simpa using this
  intro r
  induction r with
  | nil =>
    have : fu n [] = n := by unfold fu; rw [List.countP_eq_length.2 (by simp)]; simp
    show n ≤ fu n [] + 0; omega
  | cons a r ih =>
    rw [List.reverse_cons, List.length_cons]
    by_cases h : a ∈ r.reverse
    · rw [fu_snoc_in h]; omega
    · by_cases ha : a < n
      · have := fu_snoc ha h; omega
      · rw [fu_snoc_ge (by omega)]; omega
theorem fu_nil (n : Nat) : fu n [] = n := by unfold fu; rw [List.countP_eq_length.2 (by simp)]; simp
theorem fu_congr {n : Nat} {o p : List Nat} (h : ∀ j, j ∈ o ↔ j ∈ p) : fu n o = fu n p := by
  unfold fu; congr 1; funext j; simp only [h j]
theorem count_in (n : Nat) (o : List Nat) (f : Nat → Bool) (h : ∀ j, j < n → f j = true → j ∈ o) : (List.range n).countP f + fu n o ≤ n := by
  induction n with
  | zero => simp [fu_zero]
  | succ n ih =>
    have := ih (fun j hj => h j (by omega))
    rw [List.range_succ, List.countP_append, fu_succ]
    by_cases hf : f n = true
    · rw [if_pos (h n (by omega) hf)]; simp [hf]; omega
    · simp [hf]; split <;> omega

/-! ### what a place knows -/
def Sim (l : List Hop) (o p : List Nat) : Prop := (∀ j, j ∈ o ↔ j ∈ p) ∧ lastI l o = lastI l p
theorem Sim.snoc {l : List Hop} {o p : List Nat} (h : Sim l o p) (i : Nat) : Sim l (o ++ [i]) (p ++ [i]) :=
  ⟨fun j => by simp [h.1 j], by rw [lastI_snoc, lastI_snoc, h.2]⟩
theorem Sim.nxt {l : List Hop} {o p : List Nat} (h : Sim l o p) (i : Nat) : nxt l o i = nxt l p i := by
  unfold HM.nxt rok; simp only [h.1, h.2]
theorem Sim.cpl {l : List Hop} {o p : List Nat} (h : Sim l o p) : cpl l o = cpl l p := by
  unfold HM.cpl; simp only [h.1]
theorem some_congr {α β γ : Type} {f : α → Option β} {g : α → Option γ} : ∀ (r : List α), (∀ a, (f a).isSome = (g a).isSome) → (r.findSome? f).isSome = (r.findSome? g).isSome
  | [], _ => rfl
  | a :: r, h => by
    have ha := h a
    simp only [List.findSome?_cons]
    cases hf : f a <;> cases hg : g a <;> rw [hf, hg] at ha <;> simp at ha ⊢
    exact some_congr r h
theorem Sim.go {l : List Hop} : ∀ (k : Nat) {o p : List Nat}, Sim l o p → (go l k o).isSome = (go l k p).isSome
  | 0, o, p, h => by
    simp only [HM.go, h.cpl]; split <;> rfl
  | k + 1, o, p, h => by
    simp only [HM.go, h.cpl]
    split
    · rfl
    · refine some_congr _ fun i => ?_
      unfold goF
      rw [h.nxt i]
      split
      · exact Sim.go k (h.snoc i)
      · rfl

/-! ### the two ways -/
def cls (l : List Hop) (o : List Nat) : Prop := ∀ p ∈ o, ∀ j, j < l.length → j ∉ o → ahI l j p = false
theorem ahI_lt {l : List Hop} {j i : Nat} (h : ahI l j i = true) : j < l.length ∧ i < l.length ∧ ended l j = true := by
  unfold ahI at h
  split at h
  · rename_i y x h1 h2
    have e1 := (List.getElem?_eq_some_iff.1 h1).1
    have e2 := (List.getElem?_eq_some_iff.1 h2).1
    refine ⟨e1, e2, ?_⟩
    unfold ended; rw [h1]
    unfold ahd at h
    have := of_decide_eq_true h
    exact decide_eq_true this.1
  · cases h
theorem rgt_iff {l : List Hop} {o : List Nat} : rgt l o = true ↔ ∀ p (hp : p < o.length), rok l (o.take p) o[p] = true ∧ ∀ k (hk : k < o.length), p ≤ k → ahI l o[k] o[p] = false := by
  unfold rgt
  rw [List.all_eq_true]
  constructor
  · intro h p hp
    have := h p (by simpa using hp)
    rw [List.getElem?_eq_getElem hp] at this
    simp only [Bool.and_eq_true, List.all_eq_true, Bool.not_eq_true'] at this
    refine ⟨this.1, fun k hk hpk => this.2 o[k] ?_⟩
    exact List.mem_drop_iff_getElem.2 ⟨k - p, by omega, by congr 1; omega⟩
  · intro h p hp
    have hp : p < o.length := by simpa using hp
    obtain ⟨h1, h2⟩ := h p hp
    rw [List.getElem?_eq_getElem hp]
    simp only [Bool.and_eq_true, List.all_eq_true, Bool.not_eq_true']
    refine ⟨h1, fun x hx => ?_⟩
    obtain ⟨k, hk, rfl⟩ := List.mem_drop_iff_getElem.1 hx
    exact h2 (p + k) (by omega) (by omega)
theorem rgt_snoc {l : List Hop} {o : List Nat} {i : Nat} : rgt l (o ++ [i]) = true ↔ rgt l o = true ∧ rok l o i = true ∧ ahI l i i = false ∧ ∀ p ∈ o, ahI l i p = false := by
  rw [rgt_iff, rgt_iff]
  constructor
  · intro h
    refine ⟨fun p hp => ?_, ?_, ?_, fun p hp => ?_⟩
    · obtain ⟨h1, h2⟩ := h p (by simp; omega)
      rw [List.getElem_append_left hp, List.take_append_of_le_length (by omega)] at h1
      refine ⟨h1, fun k hk hpk => ?_⟩
      have := h2 k (by simp; omega) hpk
      rw [List.getElem_append_left hp, List.getElem_append_left hk] at this
      exact this
    · have := (h o.length (by simp)).1
      simpa using this
    · have := (h o.length (by simp)).2 o.length (by simp) (Nat.le_refl _)
      simpa using this
    · obtain ⟨k, hk, rfl⟩ := List.mem_iff_getElem.1 hp
      have := (h k (by simp; omega)).2 o.length (by simp) (by omega)
      rw [List.getElem_append_left hk] at this
      simpa using this
  · rintro ⟨h1, h2, h3, h4⟩ p hp
    rw [List.length_append, List.length_singleton] at hp
    by_cases he : p = o.length
    · subst he
      refine ⟨by simpa using h2, fun k hk hpk => ?_⟩
      rw [List.length_append, List.length_singleton] at hk
      obtain rfl : k = o.length := by omega
      simpa using h3
    · have hlt : p < o.length := by omega
      obtain ⟨k1, k2⟩ := h1 p hlt
      rw [List.getElem_append_left hlt, List.take_append_of_le_length (by omega)]
      refine ⟨k1, fun k hk hpk => ?_⟩
      rw [List.length_append, List.length_singleton] at hk
      by_cases hk2 : k = o.length
      · subst hk2
        have := h4 o[p] (List.getElem_mem hlt)
        simpa using this
      · rw [List.getElem_append_left (by omega)]
        exact k2 k (by omega) hpk
theorem rgt_nil (l : List Hop) : rgt l [] = true := rfl
theorem nxt_iff {l : List Hop} {o : List Nat} {i : Nat} : nxt l o i = true ↔ i ∉ o ∧ rok l o i = true ∧ ∀ k, k < l.length → k ∉ o → ahI l k i = false := by
  unfold nxt
  simp only [Bool.and_eq_true, decide_eq_true_eq, List.all_eq_true, List.mem_range, Bool.or_eq_true, Bool.not_eq_true', and_assoc]
  constructor
  · rintro ⟨h1, h2, h3⟩
    exact ⟨h1, h2, fun k hk hn => (h3 k hk).resolve_left hn⟩
  · rintro ⟨h1, h2, h3⟩
    exact ⟨h1, h2, fun k hk => by by_cases hn : k ∈ o; exact .inl hn; exact .inr (h3 k hk hn)⟩
theorem cpl_iff {l : List Hop} {o : List Nat} : cpl l o = true ↔ ∀ i, ended l i = true → i ∈ o := by
  unfold cpl
  simp only [List.all_eq_true, List.mem_range, Bool.or_eq_true, Bool.not_eq_true', decide_eq_true_eq]
  constructor
  · intro h i hi
    have hlt : i < l.length := by
      unfold ended at hi
      cases hx : l[i]? with
      | none => rw [hx] at hi; cases hi
      | some x => exact (List.getElem?_eq_some_iff.1 hx).1
    rcases h i hlt with h1 | h1
    · rw [hi] at h1; cases h1
    · exact h1
  · intro h i _
    cases he : ended l i with
    | false => exact .inl rfl
    | true => exact .inr (h i he)
theorem rok_lt {l : List Hop} {o : List Nat} {i : Nat} (h : rok l o i = true) : i < l.length := by
  unfold rok at h
  cases hx : l[i]? with
  | none => rw [hx] at h; cases h
  | some x => exact (List.getElem?_eq_some_iff.1 hx).1
theorem findSome_congr {α β : Type} {f g : α → Option β} : ∀ (r : List α), (∀ a ∈ r, f a = g a) → r.findSome? f = r.findSome? g
  | [], _ => rfl
  | a :: r, h => by
    simp only [List.findSome?_cons]
    rw [h a (by simp), findSome_congr r (fun b hb => h b (by simp [hb]))]
theorem rgo_no {l : List Hop} {k : Nat} {o : List Nat} (h : rgt l o = false) : rgo l k o = none := by
  cases k <;> simp [rgo, h]
theorem rgo_bad {l : List Hop} : ∀ (k : Nat) {o : List Nat} {j p : Nat}, j ∉ o → p ∈ o → ahI l j p = true → rgo l k o = none := by
  intro k
  induction k with
  | zero =>
    intro o j p hj hp ha
    have hc : cpl l o = false := by
      cases hc : cpl l o with
      | false => rfl
      | true => exact absurd (cpl_iff.1 hc j (ahI_lt ha).2.2) hj
    simp [rgo, hc]
  | succ k ih =>
    intro o j p hj hp ha
    have hc : cpl l o = false := by
      cases hc : cpl l o with
      | false => rfl
      | true => exact absurd (cpl_iff.1 hc j (ahI_lt ha).2.2) hj
    have hn : (List.range l.length).findSome? (rgoF (rgo l k) o) = none := by
      rw [List.findSome?_eq_none_iff]
      intro m _
      unfold rgoF
      split
      · rfl
      · by_cases hm : m = j
        · subst hm
          refine rgo_no ?_
          cases hr : rgt l (o ++ [m]) with
          | false => rfl
          | true => rw [(rgt_snoc.1 hr).2.2.2 p hp] at ha; cases ha
        · exact ih (j := j) (p := p) (by simp [hj]; exact fun h => hm h.symm) (by simp [hp]) ha
    simp [rgo, hc, hn]
theorem rgo_go {l : List Hop} : ∀ (k : Nat) {o : List Nat}, rgt l o = true → cls l o → rgo l k o = go l k o := by
  intro k
  induction k with
  | zero => intro o h1 h2; simp [rgo, go, h1]
  | succ k ih =>
    intro o h1 h2
    simp only [rgo, go, h1, if_true]
    split
    · rfl
    · refine findSome_congr _ fun i hi => ?_
      have hil : i < l.length := by simpa using hi
      unfold rgoF goF
      by_cases hio : i ∈ o
      · rw [if_pos hio, if_neg (fun h => (nxt_iff.1 h).1 hio)]
      · rw [if_neg hio]
        by_cases hx : nxt l o i = true
        · rw [if_pos hx]
          obtain ⟨n1, n2, n3⟩ := nxt_iff.1 hx
          refine ih (rgt_snoc.2 ⟨h1, n2, n3 i hil hio, fun p hp => h2 p hp i hil hio⟩) ?_
          intro p hp j hj hjo
          have hjo2 : j ∉ o := fun h => hjo (by simp [h])
          rcases List.mem_append.1 hp with h | h
          · exact h2 p h j hj hjo2
          · rw [List.mem_singleton.1 h]; exact n3 j hj hjo2
        · rw [if_neg hx]
          cases hr : rok l o i with
          | false =>
            refine rgo_no ?_
            cases hq : rgt l (o ++ [i]) with
            | false => rfl
            | true => rw [(rgt_snoc.1 hq).2.1] at hr; cases hr
          | true =>
            have : ∃ j, j < l.length ∧ j ∉ o ∧ ahI l j i = true := by
              refine Classical.byContradiction fun hno => hx (nxt_iff.2 ⟨hio, hr, fun j hj hjo => ?_⟩)
              cases ha : ahI l j i with
              | false => rfl
              | true => exact absurd ⟨j, hj, hjo, ha⟩ hno
            obtain ⟨j, hj, hjo, ha⟩ := this
            by_cases hji : j = i
            · subst hji
              refine rgo_no ?_
              cases hq : rgt l (o ++ [j]) with
              | false => rfl
              | true => rw [(rgt_snoc.1 hq).2.2.1] at ha; cases ha
            · exact rgo_bad k (j := j) (p := i) (by simp [hjo, hji]) (by simp) ha
theorem rgo_some {l : List Hop} : ∀ (k : Nat) {o r : List Nat}, rgo l k o = some r → o.Nodup → (∀ i ∈ o, i < l.length) → rgt l r = true ∧ cpl l r = true ∧ r.Nodup ∧ (∀ i ∈ r, i < l.length) := by
  intro k
  induction k with
  | zero =>
    intro o r h hn hb
    simp only [rgo] at h
    split at h
    · split at h
      · cases h; exact ⟨by assumption, by assumption, hn, hb⟩
      · cases h
    · cases h
  | succ k ih =>
    intro o r h hn hb
    simp only [rgo] at h
    split at h
    · split at h
      · cases h; exact ⟨by assumption, by assumption, hn, hb⟩
      · obtain ⟨i, hi, hf⟩ := List.exists_of_findSome?_eq_some h
        unfold rgoF at hf
        split at hf
        · cases hf
        · rename_i hio
          refine ih hf ?_ ?_
          · rw [List.nodup_append]
            exact ⟨hn, by simp, fun a ha b hb => by rw [List.mem_singleton.1 hb]; rintro rfl; exact hio ha⟩
          · intro j hj
            rcases List.mem_append.1 hj with h | h
            · exact hb j h
            · rw [List.mem_singleton.1 h]; simpa using hi
    · cases h
theorem rgt_prefix {l : List Hop} : ∀ (s : List Nat) {o : List Nat}, rgt l (o ++ s) = true → rgt l o = true
  | [], o, h => by simpa using h
  | a :: s, o, h => by
    have : rgt l ((o ++ [a]) ++ s) = true := by simpa using h
    exact (rgt_snoc.1 (rgt_prefix s this)).1
theorem rgo_is {l : List Hop} : ∀ (s : List Nat) {o : List Nat} (k : Nat), rgt l (o ++ s) = true → cpl l (o ++ s) = true → (o ++ s).Nodup → (∀ i ∈ s, i < l.length) → fu l.length o ≤ k → (rgo l k o).isSome = true := by
  intro s
  induction s with
  | nil =>
    intro o k h1 h2 h3 h4 h5
    rw [List.append_nil] at h1 h2
    cases k <;> simp [rgo, h1, h2]
  | cons x s ih =>
    intro o k h1 h2 h3 h4 h5
    have hr := rgt_prefix _ h1
    have hx : x ∉ o := by
      rw [List.nodup_append] at h3
      exact fun h => h3.2.2 x h x (by simp) rfl
    have hxl := h4 x (by simp)
    have hf := fu_snoc hxl hx
    cases k with
    | zero => omega
    | succ k =>
      simp only [rgo, hr, if_true]
      split
      · rfl
      · have := ih (o := o ++ [x]) k (by simpa using h1) (by simpa using h2) (by simpa using h3) (fun i hi => h4 i (by simp [hi])) (by omega)
        rw [List.findSome?_isSome_iff]
        refine ⟨x, by simpa using hxl, ?_⟩
        unfold rgoF; rw [if_neg hx]; exact this
/-- A history's least order. -/
def ordO (l : List Hop) : Option (List Nat) := go l l.length []
theorem ordO_r (l : List Hop) : ordO l = rgo l l.length [] := (rgo_go _ (rgt_nil l) (fun p hp => by simp at hp)).symm
theorem ordO_some {l : List Hop} {r : List Nat} (h : ordO l = some r) : rgt l r = true ∧ cpl l r = true ∧ r.Nodup ∧ (∀ i ∈ r, i < l.length) := by
  rw [ordO_r] at h
  exact rgo_some _ h (by simp) (by simp)
theorem ordO_iff {l : List Hop} : (ordO l).isSome = true ↔ ∃ o : List Nat, rgt l o = true ∧ cpl l o = true ∧ o.Nodup ∧ ∀ i ∈ o, i < l.length := by
  constructor
  · intro h
    obtain ⟨r, hr⟩ := Option.isSome_iff_exists.1 h
    exact ⟨r, ordO_some hr⟩
  · rintro ⟨o, h1, h2, h3, h4⟩
    rw [ordO_r]
    exact rgo_is o (o := []) _ h1 h2 h3 h4 (by rw [fu_nil]; exact Nat.le_refl _)
end HM
end Go.Proofs.Ytgeadlkaniggdaa.X
