/- Layer 14: what commands make of states, in plain Lean. -/
import Derived.Test.YtealccnfnpkngaaCF7
set_option linter.unusedVariables false
set_option linter.unusedSimpArgs false
namespace Go.Proofs.Ytealccnfnpkngaa.X
open Go Go.RowKit WM
variable {c : Cf} {gs : Int}
structure NumC (c : Cf) : Prop where
  q : Fit c.qs
  p : ∀ x ∈ c.ps, x.fit
  n : 0 ≤ c.nx ∧ c.nx ≤ 18446744073709551615
theorem OkC.fit (h : OkC c gs) (hn : NumC c) : c.fit := ⟨hn.q, hn.p, hn.n, by have := (of_decide_eq_true h.q).1; omega, by have := h.l; omega⟩
theorem nd_at {t : List Pl} (h : (t.map Pl.vo).Nodup) {i : Nat} (hi : i < t.length) : atP t[i].vo t = i := by
  rcases atP_cases t[i].vo t with ⟨_, h2⟩ | ⟨k, hk, h1, h3⟩
  · exact absurd rfl (h2 _ (List.getElem_mem hi))
  · rw [h1]
    have := (List.getElem_inj (i := k) (j := i) (h₀ := by simpa using hk) (h₁ := by simpa using hi) h).1 (by simpa using h3)
    rw [this]
theorem at_nd {t : List Pl} (h : ∀ i (hi : i < t.length), atP t[i].vo t = i) : (t.map Pl.vo).Nodup := by
  rw [List.Nodup, List.pairwise_iff_getElem]
  intro i j hi hj hij he
  simp only [List.length_map] at hi hj
  simp only [List.getElem_map] at he
  have h1 := h i hi
  have h2 := h j hj
  rw [he] at h1
  omega
theorem map_set_same {α β : Type} {f : α → β} {t : List α} {i : Nat} {x : α} (hi : i < t.length) (h : f x = f t[i]) : (t.set i x).map f = t.map f := by
  rw [List.map_set, h]
  refine List.ext_getElem (by simp) fun j h1 h2 => ?_
  rw [List.getElem_set]
  split
  · rename_i e; subst e; simp
  · rfl
theorem ld_map (t : List Pl) (g : Int) : ldG t g = (t.map Pl.gr).countP (fun y => decide (y = g)) := by
  rw [List.countP_map]; rfl
theorem ld_snoc (t : List Pl) (x : Pl) (g : Int) : ldG (t ++ [x]) g = ldG t g + if x.gr = g then 1 else 0 := by
  unfold ldG
  rw [List.countP_append, List.countP_singleton]
  congr 1
  by_cases h : x.gr = g <;> simp [inG, h]
/-- A step: what may come of it. -/
inductive Step (c : Cf) (gs d a b : Int) : Cf × Int × Int → Prop
  | no {e : Int} : e ≠ 0 → Step c gs d a b (c, 0, e)
  | ten : d = 0 → (setQ c.qs a b).2 = true → Step c gs d a b (⟨(setQ c.qs a b).1, c.ps, c.nx⟩, 0, 0)
  | vol : d = 1 → 0 ≤ atQ a c.qs → ¬ 4 < b → c.ps.length < 32 → c.nx ≠ 18446744073709551615 → (takeQ c.qs a (2 ^ b.toNat : Nat)).2 = 0 →
      Step c gs d a b (⟨(takeQ c.qs a (2 ^ b.toNat : Nat)).1, c.ps ++ [⟨c.nx, a, b, 0, (lstN c.ps gs.toNat : Nat)⟩], c.nx + 1⟩, c.nx, 0)
  | bmp {i : Nat} (hi : i < c.ps.length) : d = 2 → c.ps[i].vo = a → atP a c.ps = i → c.ps[i].ep ≠ 18446744073709551615 → Step c gs d a b (⟨c.qs, c.ps.set i c.ps[i].up, c.nx⟩, c.ps[i].ep + 1, 0)
theorem take_err {t : List Qu} {tn n : Int} (h : (takeQ t tn n).2 ≠ 0) : (takeQ t tn n).2 = 120 ∨ (takeQ t tn n).2 = 121 := by
  unfold takeQ at h ⊢
  split
  · split
    · rename_i h1 h2; simp only [h1, h2, if_true] at h; simp at h
    · exact .inr rfl
  · exact .inl rfl
theorem runS_step (hf : c.fit) (d a b : Int) : Step c gs d a b (runS c gs d a b) := by
  unfold runS
  split
  · exact .no (by decide)
  · split
    · rename_i h1 h2
      unfold tenS
      split
      · rename_i h3; exact .ten h2 h3
      · exact .no (by decide)
    · split
      · rename_i h1 h2 h3
        unfold volS
        split
        · exact .no (by decide)
        · split
          · exact .no (by decide)
          · split
            · exact .no (by decide)
            · split
              · rename_i h7; exact .no h7
              · rename_i h4 h5 h6 h7
                have h7 : (takeQ c.qs a (2 ^ b.toNat : Nat)).2 = 0 := by omega
                exact .vol h3 (by omega) h5 (by omega) (fun e => h6 (.inr e)) h7
      · rename_i h1 h2 h3
        have hd : d = 2 := by omega
        rcases bmp_cases hf a with ⟨h4, h5⟩ | ⟨hi, h4, h5, h6⟩
        · rw [h5]; exact .no (by decide)
        · rw [h6]
          rcases atP_cases a c.ps with ⟨h7, _⟩ | ⟨i, hi2, h7, h8⟩
          · omega
          · have e : (atP a c.ps).toNat = i := by omega
            split
            · exact .no (by decide)
            · rename_i h9
              simp only [e] at h9 ⊢
              exact .bmp hi2 hd h8 h7 h9
theorem good_chk {t A : List Qu} (h : GoodQ t A) : chkQ A = true := h.1
theorem step_ok {d a b : Int} {r : Cf × Int × Int} (hs : Step c gs d a b r) (ho : OkC c gs) (hn : NumC c) (ha : 0 ≤ a ∧ a ≤ 18446744073709551615) (hb : 0 ≤ b ∧ b ≤ 18446744073709551615) : OkC r.1 gs ∧ NumC r.1 ∧ (r.2.2 ≠ 0 → r.1 = c) := by
  have hnd := at_nd (t := c.ps) (fun i hi => (ho.p i hi).1)
  have hg := ho.hg
  cases hs with
  | no h => exact ⟨ho, hn, fun _ => rfl⟩
  | ten h1 h2 => exact ⟨⟨ho.hg, good_chk (good_set ho.q h2), ho.l, ho.p⟩, ⟨set_fit hn.q ha hb, hn.p, hn.n⟩, fun h => absurd rfl h⟩
  | vol h1 h2 h3 h4 h5 h6 =>
    have hp := pow_le (b := b) ⟨hb.1, by omega⟩
    have hl := (lstN_spec c.ps (gs.toNat - 1)).1
    rw [show gs.toNat - 1 + 1 = gs.toNat by omega] at hl
    have hnn := hn.n
    refine ⟨⟨ho.hg, good_chk (good_take ho.q h6), by simp; omega, fun i hi => ?_⟩, ⟨take_fit hn.q (by omega), fun x hx => ?_, by show 0 ≤ c.nx + 1 ∧ c.nx + 1 ≤ _; omega⟩, fun h => absurd rfl h⟩
    · have hnd2 : ((c.ps ++ [(⟨c.nx, a, b, 0, (lstN c.ps gs.toNat : Nat)⟩ : Pl)]).map Pl.vo).Nodup := by
        rw [List.map_append, List.nodup_append]
        refine ⟨hnd, by simp, fun x hx y hy => ?_⟩
        obtain ⟨p, hp, rfl⟩ := List.mem_map.1 hx
        obtain ⟨j, hj, rfl⟩ := List.mem_iff_getElem.1 hp
        have := (ho.p j hj).2.1
        simp only [List.map_cons, List.map_nil, List.mem_singleton] at hy
        omega
      refine ⟨nd_at hnd2 hi, ?_⟩
      by_cases e : i < c.ps.length
      · obtain ⟨_, k1, k2, k3⟩ := ho.p i e
        simp only [List.getElem_append_left e]
        show _ < c.nx + 1 ∧ _
        exact ⟨by omega, k2, k3⟩
      · have : i = c.ps.length := by simp at hi; omega
        subst this
        simp only [List.getElem_append_right (Nat.le_refl _), Nat.sub_self, List.getElem_cons_zero]
        show c.nx < c.nx + 1 ∧ b ≤ 4 ∧ ((lstN c.ps gs.toNat : Nat) : Int) < gs
        omega
    · rcases List.mem_append.1 hx with hx | hx
      · exact hn.p x hx
      · obtain rfl := List.mem_singleton.1 hx
        exact ⟨hn.n, ha, hb, ⟨Int.le_refl 0, by show (0 : Int) ≤ 18446744073709551615; decide⟩, by show (0 : Int) ≤ ((lstN c.ps gs.toNat : Nat) : Int); omega, by show ((lstN c.ps gs.toNat : Nat) : Int) ≤ _; omega⟩
  | @bmp i hi h1 h2 h3 h4 =>
    have e1 := map_set_same (f := Pl.vo) (x := c.ps[i].up) hi rfl
    obtain ⟨f1, f2, f3, f4, f5⟩ := hn.p c.ps[i] (List.getElem_mem hi)
    refine ⟨⟨ho.hg, ho.q, by simpa using ho.l, fun j hj => ?_⟩, ⟨hn.q, fun x hx => ?_, hn.n⟩, fun h => absurd rfl h⟩
    · have hj2 : j < c.ps.length := by simpa using hj
      refine ⟨nd_at (by rw [e1]; exact hnd) hj, ?_⟩
      obtain ⟨_, k1, k2, k3⟩ := ho.p j hj2
      simp only [List.getElem_set]
      split
      · rename_i e; subst e; exact ⟨k1, k2, k3⟩
      · exact ⟨k1, k2, k3⟩
    · rcases List.mem_or_eq_of_mem_set hx with hx | rfl
      · exact hn.p x hx
      · exact ⟨f1, f2, f3, by show 0 ≤ c.ps[i].ep + 1 ∧ c.ps[i].ep + 1 ≤ _; omega, f5⟩
/-! ### The places -/
theorem step_keep {d a b : Int} {r : Cf × Int × Int} (hs : Step c gs d a b r) (ho : OkC c gs) : c.ps.length ≤ r.1.ps.length ∧ ∀ k (h : k < c.ps.length) (h2 : k < r.1.ps.length), r.1.ps[k].vo = c.ps[k].vo ∧ r.1.ps[k].te = c.ps[k].te ∧ r.1.ps[k].de = c.ps[k].de ∧ r.1.ps[k].gr = c.ps[k].gr ∧ c.ps[k].ep ≤ r.1.ps[k].ep ∧ (d = 1 → r.2.2 = 0 → c.ps[k].vo ≠ r.2.1) := by
  cases hs with
  | no h => exact ⟨Nat.le_refl _, fun k h1 h2 => ⟨rfl, rfl, rfl, rfl, Int.le_refl _, fun _ h3 => absurd h3 h⟩⟩
  | ten h1 h2 => exact ⟨Nat.le_refl _, fun k h3 h4 => ⟨rfl, rfl, rfl, rfl, Int.le_refl _, fun h => by omega⟩⟩
  | vol h1 h2 h3 h4 h5 h6 =>
    refine ⟨by simp, fun k h7 h8 => ?_⟩
    simp only [List.getElem_append_left h7]
    exact ⟨trivial, trivial, trivial, trivial, Int.le_refl _, fun _ _ => by have := (ho.p k h7).2.1; show _ ≠ c.nx; omega⟩
  | @bmp i hi h1 h2 h3 h4 =>
    refine ⟨by simp, fun k h7 h8 => ?_⟩
    simp only [List.getElem_set]
    by_cases e : i = k
    · subst e
      simp only [if_pos rfl]
      exact ⟨rfl, rfl, rfl, rfl, by show _ ≤ c.ps[i].ep + 1; omega, fun h => by omega⟩
    · simp only [if_neg e]
      exact ⟨trivial, trivial, trivial, trivial, Int.le_refl _, fun h => by omega⟩
def BalC (c : Cf) (n : Nat) : Prop := ∀ g h : Nat, g < n → h < n → ldG c.ps g ≤ ldG c.ps h + 1
theorem step_bal {n : Nat} {d a b : Int} {r : Cf × Int × Int} (hs : Step c n d a b r) (hn : 0 < n) (hB : BalC c n) : BalC r.1 n := by
  cases hs with
  | no h => exact hB
  | ten h1 h2 => exact hB
  | vol h1 h2 h3 h4 h5 h6 =>
    intro g h hg hh
    obtain ⟨k1, k2, k3⟩ := lstN_spec c.ps (n - 1)
    rw [show n - 1 + 1 = n by omega] at k1 k2 k3
    have hB1 := hB g h hg hh
    have hk := k2 h (by omega)
    have hk2 := k2 g (by omega)
    show ldG (c.ps ++ [_]) _ ≤ ldG (c.ps ++ [_]) _ + 1
    rw [ld_snoc, ld_snoc]
    simp only [Int.toNat_natCast]
    by_cases e1 : ((lstN c.ps n : Nat) : Int) = g
    · rw [if_pos e1]
      rw [← e1]
      split <;> omega
    · rw [if_neg e1]
      split <;> omega
  | @bmp i hi h1 h2 h3 h4 =>
    intro g h hg hh
    have e1 := map_set_same (f := Pl.gr) (x := c.ps[i].up) hi rfl
    have := hB g h hg hh
    rw [ld_map, ld_map] at this
    show ldG (c.ps.set i _) _ ≤ ldG (c.ps.set i _) _ + 1
    rw [ld_map, ld_map, e1]; exact this
/-! ### What tenants have reserved -/
def sumT (t : List Pl) (tn : Int) : Nat := (t.map fun x => if x.te = tn then 2 ^ x.de.toNat else 0).sum
def usedQ (t : List Qu) (tn : Int) : Int := match getQ tn t with
  | some r => r.us
  | none => 0
theorem sumT_snoc (t : List Pl) (x : Pl) (tn : Int) : sumT (t ++ [x]) tn = sumT t tn + if x.te = tn then 2 ^ x.de.toNat else 0 := by simp [sumT]
theorem getQ_ne {tn tm : Int} {f : Qu → Qu} (hf : ∀ x, (f x).tn = x.tn) (h : tm ≠ tn) (t : List Qu) : getQ tm (modQ tn f t) = getQ tm t := by
  induction t with
  | nil => rfl
  | cons x r ih =>
    by_cases hx : x.tn = tn
    · have h1 : ¬ x.tn = tm := fun e => h (by omega)
      have h2 : ¬ (f x).tn = tm := by rw [hf]; exact h1
      simp [modQ, hx, getQ, List.find?_cons, isT, h2]
      rw [show decide (tn = tm) = false from decide_eq_false (fun e => h e.symm)]
    · simp only [getQ] at ih
      simp only [modQ, if_neg hx, getQ, List.find?_cons]
      split
      · rfl
      · exact ih
theorem getQ_some_of {tn : Int} {t : List Qu} (h : 0 ≤ atQ tn t) : ∃ r, getQ tn t = some r := by
  rcases atQ_cases tn t with ⟨h1, _⟩ | ⟨i, hi, _, h2, _⟩
  · omega
  · exact ⟨_, h2⟩
def ResC (c : Cf) (m : Int) : Prop := c.nx = m ∧ (c.ps.length : Int) = m ∧ ∀ tn, (sumT c.ps tn : Int) = usedQ c.qs tn
theorem step_res {d a b m : Int} {r : Cf × Int × Int} (hs : Step c gs d a b r) (hb : 0 ≤ b) (hR : ResC c m) : (d = 1 ∧ r.2.2 = 0 → r.2.1 = m ∧ ResC r.1 (m + 1)) ∧ (¬ (d = 1 ∧ r.2.2 = 0) → ResC r.1 m) := by
  obtain ⟨R1, R2, R3⟩ := hR
  cases hs with
  | no h => exact ⟨fun h1 => absurd h1.2 h, fun _ => ⟨R1, R2, R3⟩⟩
  | ten h1 h2 =>
    refine ⟨fun h => by omega, fun _ => ⟨R1, R2, fun tn => ?_⟩⟩
    rw [R3]
    unfold usedQ setQ at *
    simp only at h2 ⊢
    by_cases e : tn = a
    · subst e
      cases hg : getQ tn c.qs with
      | some x => simp only [getQ_mod (f := fun r => { r with li := b }) (fun _ => rfl), hg, Option.map_some]
      | none =>
        rw [hg] at h2
        simp only at h2 ⊢
        split at h2
        · rename_i h3
          simp only [if_pos h3, getQ, List.find?_append]
          simp only [getQ] at hg
          simp [hg, isT]
        · cases h2
    · cases hg : getQ a c.qs with
      | some x => simp only [getQ_ne (f := fun r => { r with li := b }) (fun _ => rfl) e]
      | none =>
        rw [hg] at h2
        simp only at h2 ⊢
        split at h2
        · rename_i h3
          simp only [if_pos h3, getQ, List.find?_append]
          cases hg2 : List.find? (isT tn) c.qs with
          | some y => rfl
          | none =>
            have : ¬ a = tn := fun h => e h.symm
            simp [isT, this]
        · cases h2
  | vol h1 h2 h3 h4 h5 h6 =>
    refine ⟨fun _ => ⟨R1, by show c.nx + 1 = m + 1; omega, by show ((c.ps ++ [_]).length : Int) = m + 1; simp; omega, fun tn => ?_⟩, fun h => absurd ⟨h1, rfl⟩ h⟩
    obtain ⟨x, k1, k2, k3, k4⟩ := take_ok h6
    show (sumT (c.ps ++ [_]) tn : Int) = usedQ (takeQ c.qs a _).1 tn
    rw [sumT_snoc, k4]
    have := R3 tn
    unfold usedQ at *
    by_cases e : a = tn
    · subst e
      rw [if_pos rfl, getQ_mod (f := fun r => { r with us := r.us + ((2 ^ b.toNat : Nat) : Int) }) (fun _ => rfl), k1, Option.map_some]
      rw [k1] at this
      simp only at this ⊢
      rw [← this]; exact Int.natCast_add _ _
    · rw [if_neg e, getQ_ne (f := fun r => { r with us := r.us + ((2 ^ b.toNat : Nat) : Int) }) (fun _ => rfl) (fun h => e h.symm)]
      exact this
  | @bmp i hi h1 h2 h3 h4 =>
    refine ⟨fun h => by omega, fun _ => ⟨R1, by show ((c.ps.set i _).length : Int) = m; rw [List.length_set]; exact R2, fun tn => ?_⟩⟩
    show (sumT (c.ps.set i _) tn : Int) = _
    have e1 := map_set_same (f := fun x : Pl => if x.te = tn then 2 ^ x.de.toNat else 0) (x := c.ps[i].up) hi rfl
    unfold sumT
    rw [e1]; exact R3 tn
theorem used_at {t : List Qu} (h : chkQ t = true) {i : Nat} (hi : i < t.length) : usedQ t t[i].tn = t[i].us := by
  have hnd := (of_decide_eq_true h).2
  have h1 := nodup_at hnd hi
  unfold usedQ
  rcases atQ_cases t[i].tn t with ⟨h2, _⟩ | ⟨k, hk, h2, h3, _⟩
  · omega
  · obtain rfl : k = i := by omega
    rw [h3]
end Go.Proofs.Ytealccnfnpkngaa.X
