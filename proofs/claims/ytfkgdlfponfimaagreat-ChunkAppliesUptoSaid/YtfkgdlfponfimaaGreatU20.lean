import Derived.Test.YtfkgdlfponfimaaGreatU19
import Derived.Still
/- Regions whose order is drawn: whatever the order, what clashes waits: the text's order serves. -/
namespace Go.Proofs.YtfkgdlfponfimaaGreat.X
open Go Go.RowKit
variable {B : BT} {P : Program} {ν : Nm} {G G' : Gh} {H H1 : Heap} {W W' : World} {c : Cfg}
structure Tr (c : Cfg) (rec : RecA) (ν : Nm) (ops : Array Oper) (rs : List Tmp) (HK : Heap) (es : Nat → Env) (Hs : Nat → Heap) (vs : Nat → AVal) (i : Nat) : Prop where
  step : ∀ j o, i ≤ j → ops[j]? = some o → es (j + 1) = putT (es j) o.dst (vs j) ∧
    ((Region.wanted o (ayielded ops (es j)) = true ∧ aoperF c rec ops rs HK (j :: ν) (es j) (Hs j) o = some (vs j, Hs (j + 1))) ∨ (Region.wanted o (ayielded ops (es j)) = false ∧ vs j = .undef ∧ Hs (j + 1) = Hs j))
theorem trace {rec : RecA} {ops : Array Oper} {rs : List Tmp} {HK : Heap} : ∀ (l : List Oper) (i : Nat) (e : Env) (H : Heap) (e1 : Env) (H1 : Heap), aopsF c rec ν ops rs HK l i e H = some (e1, H1) → (∀ j, l[j]? = ops[i + j]?) →
    ∃ es Hs vs, Tr c rec ν ops rs HK es Hs vs i ∧ es i = e ∧ Hs i = H ∧ es (i + l.length) = e1 ∧ Hs (i + l.length) = H1 := by
  intro l
  induction l with
  | nil =>
    intro i e H e1 H1 hl hall
    simp only [aopsF] at hl
    obtain ⟨rfl, rfl⟩ := Prod.mk.inj (Option.some.inj hl)
    refine ⟨fun _ => e, fun _ => H, fun _ => .undef, ⟨fun j o hj ho => ?_⟩, Z, Z, Z, Z⟩
    have h0 := hall (j - i)
    rw [show i + (j - i) = j by omega, ho] at h0
    simp at h0
  | cons o l ih =>
    intro i e H e1 H1 hl hall
    have ho : ops[i]? = some o := by simpa using (hall 0).symm
    have hall' : ∀ j, l[j]? = ops[i + 1 + j]? := fun j => by have := hall (j + 1); simpa [Nat.add_assoc, Nat.add_comm 1 j] using this
    have build : ∀ v H2, aopsF c rec ν ops rs HK l (i + 1) (putT e o.dst v) H2 = some (e1, H1) → ((Region.wanted o (ayielded ops e) = true ∧ aoperF c rec ops rs HK (i :: ν) e H o = some (v, H2)) ∨ (Region.wanted o (ayielded ops e) = false ∧ v = .undef ∧ H2 = H)) →
        ∃ es Hs vs, Tr c rec ν ops rs HK es Hs vs i ∧ es i = e ∧ Hs i = H ∧ es (i + (o :: l).length) = e1 ∧ Hs (i + (o :: l).length) = H1 := by
      intro v H2 h1 h2
      obtain ⟨es, Hs, vs, ht, t1, t2, t3, t4⟩ := ih (i + 1) _ H2 e1 H1 h1 hall'
      have hne : ∀ {j}, i + 1 ≤ j → j ≠ i := fun h => by omega
      refine ⟨fun j => if j = i then e else es j, fun j => if j = i then H else Hs j, fun j => if j = i then v else vs j, ⟨fun j o' hj ho' => ?_⟩, if_pos Z, if_pos Z, ?_, ?_⟩
      · by_cases hji : j = i
        · subst hji
          rw [ho] at ho'
          obtain rfl := Option.some.inj ho'
          simp only [if_true, if_neg (show ¬ (j + 1 = j) by omega)]
          refine ⟨t1, ?_⟩
          rw [t2]; exact h2
        · have := ht.step j o' (by omega) ho'
          simp only [if_neg hji, if_neg (show ¬ (j + 1 = i) by omega)]
          exact this
      · simp only [List.length_cons, if_neg (show ¬ (i + (l.length + 1) = i) by omega)]
        rw [show i + (l.length + 1) = i + 1 + l.length by omega]; exact t3
      · simp only [List.length_cons, if_neg (show ¬ (i + (l.length + 1) = i) by omega)]
        rw [show i + (l.length + 1) = i + 1 + l.length by omega]; exact t4
    simp only [aopsF] at hl
    split at hl
    · rename_i hw
      cases hop : aoperF c rec ops rs HK (i :: ν) e H o with
      | none => rw [hop] at hl; cases hl
      | some r =>
        obtain ⟨v, H2⟩ := r
        rw [hop] at hl
        exact build v H2 hl (.inl ⟨hw, hop⟩)
    · rename_i hw
      exact build .undef H hl (.inr ⟨by simpa using hw, rfl, rfl⟩)
def envD (ops : Array Oper) (vs : Nat → AVal) (e : Env) (D : Nat → Bool) : Nat → Env
  | 0 => e
  | m + 1 => if D m then putT (envD ops vs e D m) ((ops[m]?).bind (·.dst)) (vs m) else envD ops vs e D m
def edges (ops : Array Oper) (k : Nat) (D : Nat → Bool) : Prop := ∀ o, ops[k]? = some o → ∀ e ∈ o.after, Region.binds .any e = true → D e.on = true
theorem waits_listed {ops : Array Oper} {D : Nat → Bool} (hD : ∀ k, D k = true → edges ops k D) : ∀ (n k i : Nat), waits ops n k i = true → edges ops k D → D i = true := by
  intro n
  induction n with
  | zero => intro k i h; simp [waits] at h
  | succ n ih =>
    intro k i h he
    simp only [waits] at h
    cases ho : ops[k]? with
    | none => rw [ho] at h; cases h
    | some o =>
      rw [ho] at h
      simp only [List.any_eq_true, Bool.and_eq_true, Bool.or_eq_true, beq_iff_eq] at h
      obtain ⟨e, h1, h2, h3⟩ := h
      have h4 := he o ho e (by simpa using h1) h2
      rcases h3 with rfl | h3
      · exact h4
      · exact ih e.on i h3 (hD e.on h4)
structure DOK (c : Cfg) (rs : List Tmp) (ops : Array Oper) : Prop where
  back : ∀ k y, ops[k]? = some y → ∀ e ∈ y.after, Region.binds .any e = true → e.on < k
  clash : ∀ i k x y, i < k → ops[i]? = some x → ops[k]? = some y → clash c ops rs x y = true → waits ops 4 k i = true
theorem drawOK_spec {rs : List Tmp} {ops : Array Oper} (h : drawOK c rs ops = true) : DOK c rs ops := by
  unfold drawOK at h
  rw [List.all_eq_true] at h
  constructor
  · intro k y hy e he hb
    have hk : k < ops.size := (Array.getElem?_eq_some_iff.1 hy).1
    have := h k (List.mem_range.2 hk)
    rw [hy] at this
    simp only [Bool.and_eq_true, backEdges, List.all_eq_true] at this
    have := this.1 e (by simpa using he)
    simpa [hb] using this
  · intro i k x y hik hx hy hc
    have hk : k < ops.size := (Array.getElem?_eq_some_iff.1 hy).1
    have := h k (List.mem_range.2 hk)
    rw [hy] at this
    simp only [Bool.and_eq_true, List.all_eq_true] at this
    have := this.2 i (List.mem_range.2 hik)
    rw [hx] at this
    simpa [hc] using this
theorem no_clash {rs : List Tmp} {ops : Array Oper} {x y : Oper} (h : clash c ops rs x y = false) : x.apart ops y = true ∧ ¬ (cls c ops rs x = 3 ∧ 1 ≤ cls c ops rs y) ∧ ¬ (1 ≤ cls c ops rs x ∧ cls c ops rs y = 3) := by
  simp only [clash, Bool.or_eq_false_iff, Bool.not_eq_false', Bool.and_eq_false_iff, beq_eq_false_iff_ne, decide_eq_false_iff_not] at h
  obtain ⟨⟨h1, h2⟩, h3⟩ := h
  exact ⟨h1, fun ⟨a, b⟩ => h2.elim (fun h => h a) (fun h => h b), fun ⟨a, b⟩ => h3.elim (fun h => h a) (fun h => h b)⟩
section
variable {ops : Array Oper} {rs : List Tmp} {HK : Heap} {es : Nat → Env} {Hs : Nat → Heap} {vs : Nat → AVal} {rec : RecA} {D : Nat → Bool}
theorem putT_other {e : Env} {d : Option Tmp} {v : AVal} {t : Tmp} (h : d ≠ some t) : (putT e d v)[t]? = e[t]? := by
  cases d with
  | none => rfl
  | some d => exact List.getElem?_set_ne (fun e => h (by rw [e]))
theorem look_env (ht : Tr c rec ν ops rs HK es Hs vs 0) (hd : DOK c rs ops) (hD : ∀ k, D k = true → edges ops k D) {i : Nat} {y : Oper} (hy : ops[i]? = some y) (hDi : D i = false) (he : edges ops i D) {t : Tmp} (hlook : t ∈ y.looksAt ops) :
    ∀ m, m ≤ ops.size → (envD ops vs (es 0) D m)[t]? = (es (min m i))[t]? := by
  intro m
  induction m with
  | zero => intro _; rw [Nat.zero_min]; rfl
  | succ m ih =>
    intro hm
    have ih := ih (by omega)
    obtain ⟨x, hx⟩ : ∃ x, ops[m]? = some x := ⟨_, Array.getElem?_eq_getElem (by omega : m < ops.size)⟩
    have hst := ht.step m x (Nat.zero_le _) hx
    simp only [envD, hx, Option.bind_some]
    by_cases hmi : m < i
    · rw [Nat.min_eq_left (by omega)] at ih
      rw [Nat.min_eq_left (by omega : m + 1 ≤ i), hst.1]
      by_cases hdst : x.dst = some t
      · have hc : clash c ops rs x y = true := by
          cases hcl : clash c ops rs x y with
          | true => rfl
          | false => exact absurd hlook ((Oper.apart_spec (no_clash hcl).1).1 t hdst)
        have hDm : D m = true := waits_listed hD 4 i m (hd.clash m i x y hmi hx hy hc) he
        rw [if_pos hDm, hdst]
        show ((envD ops vs (es 0) D m).set t (vs m))[t]? = ((es m).set t (vs m))[t]?
        by_cases hlt : t < (es m).length
        · have hlt' : t < (envD ops vs (es 0) D m).length := by
            have := List.getElem?_eq_getElem hlt
            rw [← ih] at this
            exact (List.getElem?_eq_some_iff.1 this).1
          rw [List.getElem?_set_self hlt, List.getElem?_set_self hlt']
        · have h1 : (es m)[t]? = none := List.getElem?_eq_none (Nat.le_of_not_lt hlt)
          rw [h1] at ih
          have h2 := List.getElem?_eq_none_iff.1 ih
          rw [List.getElem?_eq_none (by rw [List.length_set]; exact h2), List.getElem?_eq_none (by rw [List.length_set]; exact Nat.le_of_not_lt hlt)]
      · rw [putT_other hdst]
        split
        · rw [putT_other hdst]; exact ih
        · exact ih
    · rw [Nat.min_eq_right (by omega)] at ih
      rw [Nat.min_eq_right (by omega : i ≤ m + 1)]
      split
      · rename_i hDm
        have hdst : x.dst ≠ some t := by
          intro hdst
          have hne : m ≠ i := fun e => by subst e; rw [hDi] at hDm; cases hDm
          have hc : clash c ops rs y x = true := by
            cases hcl : clash c ops rs y x with
            | true => rfl
            | false => exact absurd hlook ((Oper.apart_spec (no_clash hcl).1).2.2 t hdst)
          have := waits_listed hD 4 m i (hd.clash i m y x (by omega) hy hx hc) (hD m hDm)
          rw [hDi] at this; cases this
        rw [putT_other hdst]; exact ih
      · exact ih
theorem add_env (hd : DOK c rs ops) (hD : ∀ k, D k = true → edges ops k D) {i : Nat} {y : Oper} (hy : ops[i]? = some y) (hDi : D i = false) (e : Env) :
    ∀ m, m ≤ ops.size → envD ops vs e (fun k => if k = i then true else D k) m = if i < m then putT (envD ops vs e D m) y.dst (vs i) else envD ops vs e D m := by
  intro m
  induction m with
  | zero => intro _; rw [if_neg (by omega)]; rfl
  | succ m ih =>
    intro hm
    have ih := ih (by omega)
    obtain ⟨x, hx⟩ : ∃ x, ops[m]? = some x := ⟨_, Array.getElem?_eq_getElem (by omega : m < ops.size)⟩
    simp only [envD, ih]
    by_cases hmi : m = i
    · subst hmi
      rw [hy] at hx
      obtain rfl := Option.some.inj hx
      simp [hDi, hy]
    · rw [if_neg hmi]
      by_cases hlt : i < m
      · rw [if_pos hlt, if_pos (show i < m + 1 by omega)]
        cases hDm : D m with
        | false => simp
        | true =>
          simp only [if_true, hx, Option.bind_some]
          have hc : clash c ops rs y x = false := by
            cases hcl : clash c ops rs y x with
            | false => rfl
            | true =>
              have := waits_listed hD 4 m i (hd.clash i m y x hlt hy hx hcl) (hD m hDm)
              rw [hDi] at this; cases this
          have hne := (Oper.apart_spec (no_clash hc).1).2.1
          cases hyd : y.dst with
          | none => rfl
          | some d =>
            cases hxd : x.dst with
            | none => rfl
            | some d2 =>
              have : d ≠ d2 := fun e => hne d hyd (by rw [hxd, e])
              simp only [putT]
              exact List.set_comm _ _ this
      · rw [if_neg hlt, if_neg (show ¬ i < m + 1 by omega)]
theorem all_env (ht : Tr c rec ν ops rs HK es Hs vs 0) (hall : ∀ k, k < ops.size → D k = true) : ∀ m, m ≤ ops.size → envD ops vs (es 0) D m = es m := by
  intro m
  induction m with
  | zero => intro _; rfl
  | succ m ih =>
    intro hm
    have ih1 := ih (by omega)
    obtain ⟨x, hx⟩ : ∃ x, ops[m]? = some x := ⟨_, Array.getElem?_eq_getElem (by omega : m < ops.size)⟩
    have hst := ht.step m x (Nat.zero_le _) hx
    simp only [envD, hall m (by omega), if_true, hx, Option.bind_some, ih1]
    exact hst.1.symm
def nA (ops : Array Oper) (i : Nat) : Bool := match ops[i]? with
  | some o => isA o
  | none => false
def cl3 (c : Cfg) (ops : Array Oper) (rs : List Tmp) (i : Nat) : Bool := match ops[i]? with
  | some o => cls c ops rs o == 3
  | none => false
def ahead (ν : Nm) (ops : Array Oper) (M : Nat) (q : Nm) (i : Nat) : Prop := M ≤ i ∧ nA ops i = true ∧ under (i :: ν) q = true
open Classical in
noncomputable def heapM (ν : Nm) (ops : Array Oper) (Hs : Nat → Heap) (M : Nat) : Heap := fun q => if h : ∃ i, ahead ν ops M q i then Hs (h.choose + 1) q else Hs M q
theorem under_one {q : Nm} {i j : Nat} (h1 : under (i :: ν) q = true) (h2 : under (j :: ν) q = true) : i = j := by
  by_cases h : i = j
  · exact h
  · rw [under_apart h h1] at h2; cases h2
theorem heapM_in {M i : Nat} {q : Nm} (h : ahead ν ops M q i) : heapM ν ops Hs M q = Hs (i + 1) q := by
  have hex : ∃ i, ahead ν ops M q i := ⟨i, h⟩
  have : hex.choose = i := under_one hex.choose_spec.2.2 h.2.2
  unfold heapM
  rw [dif_pos hex, this]
theorem heapM_out {M : Nat} {q : Nm} (h : ∀ i, ¬ ahead ν ops M q i) : heapM ν ops Hs M q = Hs M q := by
  unfold heapM
  rw [dif_neg (fun ⟨i, hi⟩ => h i hi)]
theorem heapM_none (ops : Array Oper) (Hs : Nat → Heap) {M i : Nat} {q : Nm} (hu : under (i :: ν) q = true) (hn : nA ops i = false) : heapM ν ops Hs M q = Hs M q := heapM_out fun j hj => by
  have := under_one hj.2.2 hu
  subst this
  exact absurd hj.2.1 (by rw [hn]; decide)
theorem heapM_cases (ops : Array Oper) (Hs : Nat → Heap) (M : Nat) (q : Nm) : (∃ i, ahead ν ops M q i ∧ heapM ν ops Hs M q = Hs (i + 1) q) ∨ ((∀ i, ¬ ahead ν ops M q i) ∧ heapM ν ops Hs M q = Hs M q) := by
  by_cases h : ∃ i, ahead ν ops M q i
  · obtain ⟨i, hi⟩ := h; exact .inl ⟨i, hi, heapM_in hi⟩
  · have h' : ∀ i, ¬ ahead ν ops M q i := fun i hi => h ⟨i, hi⟩
    exact .inr ⟨h', heapM_out h'⟩
theorem isA_made {e : Env} {o : Oper} {v : AVal} (ha : isA o = true) (h : aoper c rec ν e H o = some (v, H1)) : ∃ ob, ∀ H', aoper c rec ν e H' o = some (v, H'.put ν (some ob)) := by
  obtain ⟨dst, op, type, pos, after, guard⟩ := o
  cases op <;> first
    | (simp [isA] at ha; done)
    | skip
  all_goals
    unfold aoper at h ⊢
    simp only [isCall, Bool.false_eq_true, if_false, aop] at h ⊢
  case alloc t =>
    unfold aAlloc at h ⊢
    split at h
    · rename_i ti hti
      try simp only [hti]
      split at h
      · rename_i hk
        obtain ⟨rfl, rfl⟩ := Prod.mk.inj (Option.some.inj h)
        try simp only [hk]
        exact ⟨_, fun H' => rfl⟩
      · rename_i hk
        split at h
        · rename_i hz
          obtain ⟨rfl, rfl⟩ := Prod.mk.inj (Option.some.inj h)
          exact ⟨.row ti.size [ti.zero], fun H' => by first | rfl | rw [if_pos hz]⟩
        · cases h
    · cases h
  case box t x =>
    cases hx : ev e x with
    | none => rw [hx] at h; cases h
    | some u =>
      rw [hx] at h
      try simp only at h ⊢
      unfold aBox at h ⊢
      split at h
      · rename_i ti hti
        try simp only [hti]
        split at h
        · rename_i hz
          obtain ⟨rfl, rfl⟩ := Prod.mk.inj (Option.some.inj h)
          exact ⟨.row ti.size [u], fun H' => by rw [if_pos hz]⟩
        · cases h
      · cases h
  case makeSlice t l m =>
    cases hx : ev e l with
    | none => rw [hx] at h; cases h
    | some u =>
      cases hy : ev e m with
      | none => rw [hx, hy] at h; cases h
      | some w =>
        rw [hx, hy] at h
        try simp only at h ⊢
        unfold aMakeSlice at h ⊢
        cases hti : c.T t with
        | none => rw [hti] at h; cases h
        | some ti =>
          cases u <;> first | (rw [hti] at h; cases h; done) | skip
          cases w <;> first | (rw [hti] at h; cases h; done) | skip
          rw [hti] at h
          try simp only at h ⊢
          split at h
          · rename_i el hk
            try simp only [hk]
            split at h
            · rename_i ei hei
              try simp only [hei]
              split at h
              · rename_i hz
                obtain ⟨rfl, rfl⟩ := Prod.mk.inj (Option.some.inj h)
                exact ⟨_, fun H' => by rw [if_pos hz]⟩
              · cases h
            · cases h
          · cases h
  case makeMap t r =>
    cases r with
    | none =>
      simp only at h ⊢
      obtain ⟨rfl, rfl⟩ := Prod.mk.inj (Option.some.inj h)
      exact ⟨_, fun H' => rfl⟩
    | some _ => simp [isA] at ha
theorem isA_notflagged {o : Oper} (ha : isA o = true) : flagged ops rs o = false := by
  obtain ⟨dst, op, type, pos, after, guard⟩ := o
  cases op <;> first | rfl | (simp [isA] at ha)
theorem cls_heap {e : Env} {o : Oper} {v : AVal} (hk : cls c ops rs o ≠ 3) (ha : isA o = false) (hl : aoperF c rec ops rs HK ν e H o = some (v, H1)) : H1 = H := by
  unfold aoperF at hl
  split at hl
  · split at hl
    · exact (Prod.mk.inj (Option.some.inj hl)).2.symm
    · cases hl
  · rename_i hf
    refine class1_heap (fun h3 => hk ?_) hl
    unfold cls
    rw [if_neg hf, if_neg (by simp [ha])]; exact h3
section
variable (hrn : RN rec) (ht : Tr c rec ν ops rs HK es Hs vs 0)
include hrn ht
theorem Tr.nil {q : Nm} {k : Nat} (h0 : Hs k q = none) : ∀ m, k ≤ m → m ≤ ops.size → (∀ j, k ≤ j → j < m → under (j :: ν) q = false) → Hs m q = none := by
  intro m hkm
  induction m with
  | zero => intro _ _; obtain rfl : k = 0 := by omega
            exact h0
  | succ m ih =>
    intro hm hu
    by_cases e : k = m + 1
    · subst e; exact h0
    · have ih := ih (by omega) (by omega) (fun j h1 h2 => hu j h1 (by omega))
      obtain ⟨x, hx⟩ : ∃ x, ops[m]? = some x := ⟨_, Array.getElem?_eq_getElem (by omega : m < ops.size)⟩
      rcases (ht.step m x (Nat.zero_le _) hx).2 with ⟨_, hop⟩ | ⟨_, _, hH⟩
      · exact aoperF_none hrn hop (hu m (by omega) (by omega)) ih
      · rw [hH]; exact ih
theorem Tr.later (h0 : ∀ q, under ν q = true → Hs 0 q = none) {q : Nm} {i j : Nat} (hu : under (i :: ν) q = true) (hji : j ≤ i) (hj : j ≤ ops.size) : Hs j q = none :=
  ht.nil hrn (k := 0) (h0 q (under_of_cons hu)) j (Nat.zero_le _) hj fun m _ hm => under_apart (by omega) hu
theorem Tr.outside {q : Nm} (hu : under ν q = false) (h0 : Hs 0 q = none) {j : Nat} (hj : j ≤ ops.size) : Hs j q = none :=
  ht.nil hrn (k := 0) h0 j (Nat.zero_le _) hj fun m _ _ => under_of_cons_false hu
end
theorem Tr.still (ht : Tr c rec ν ops rs HK es Hs vs 0) {j : Nat} (hj : j < ops.size) (h3 : cl3 c ops rs j = false) {q : Nm} (hq : nA ops j = true → under (j :: ν) q = false) : Hs (j + 1) q = Hs j q := by
  obtain ⟨x, hx⟩ : ∃ x, ops[j]? = some x := ⟨_, Array.getElem?_eq_getElem hj⟩
  have h3' : cls c ops rs x ≠ 3 := by simpa [cl3, hx] using h3
  have hA : nA ops j = isA x := by simp [nA, hx]
  rcases (ht.step j x (Nat.zero_le _) hx).2 with ⟨_, hop⟩ | ⟨_, _, hH⟩
  · cases ha : isA x with
    | true =>
      have hop2 : aoper c rec (j :: ν) (es j) (Hs j) x = some (vs j, Hs (j + 1)) := by
        unfold aoperF at hop
        rw [isA_notflagged ha] at hop
        simpa using hop
      obtain ⟨ob, hob⟩ := isA_made ha hop2
      have h1 := hob (Hs j)
      rw [hop2] at h1
      have h2 := (Prod.mk.inj (Option.some.inj h1)).2
      rw [h2, put_other _ _ (ne_under (hq (by rw [hA, ha])))]
    | false => rw [cls_heap h3' ha hop]
  · rw [hH]
theorem heapM_same (ht : Tr c rec ν ops rs HK es Hs vs 0) {a : Nat} : ∀ b, a ≤ b → b ≤ ops.size → (∀ m, a ≤ m → m < b → cl3 c ops rs m = false) → heapM ν ops Hs a = heapM ν ops Hs b := by
  intro b hab
  induction b with
  | zero => intro _ _; obtain rfl : a = 0 := by omega
            rfl
  | succ b ih =>
    intro hb h3
    by_cases e : a = b + 1
    · rw [e]
    · rw [ih (by omega) (by omega) (fun m h1 h2 => h3 m h1 (by omega))]
      have hb3 := h3 b (by omega) (by omega)
      funext q
      rcases heapM_cases (ν := ν) ops Hs (b + 1) q with ⟨i, hi, e1⟩ | ⟨hno, e1⟩
      · rw [e1, heapM_in (i := i) ⟨by have := hi.1; omega, hi.2⟩]
      · rw [e1]
        by_cases hub : nA ops b = true ∧ under (b :: ν) q = true
        · exact heapM_in ⟨Nat.le_refl _, hub.1, hub.2⟩
        · rw [heapM_out (fun i hi => by
            by_cases e2 : i = b
            · subst e2; exact hub hi.2
            · exact hno i ⟨by have := hi.1; omega, hi.2⟩)]
          exact (ht.still (by omega) hb3 (fun hA => by
            cases hu : under (b :: ν) q with
            | false => rfl
            | true => exact absurd ⟨hA, hu⟩ hub)).symm
end
def cnt (D : Nat → Bool) : Nat → Nat
  | 0 => 0
  | m + 1 => cnt D m + if D m then 0 else 1
theorem cnt_zero {D : Nat → Bool} : ∀ m, cnt D m = 0 → ∀ k, k < m → D k = true := by
  intro m
  induction m with
  | zero => intro _ k hk; omega
  | succ m ih =>
    intro h k hk
    simp only [cnt] at h
    by_cases hkm : k = m
    · subst hkm
      cases hD : D k with
      | true => rfl
      | false => rw [hD] at h; simp at h
    · exact ih (by omega) k (by omega)
theorem cnt_add {D : Nat → Bool} {i : Nat} (hD : D i = false) : ∀ m, cnt (fun k => if k = i then true else D k) m + (if i < m then 1 else 0) = cnt D m := by
  intro m
  induction m with
  | zero => rfl
  | succ m ih =>
    simp only [cnt]
    by_cases hmi : m = i
    · subst hmi
      rw [if_neg (Nat.lt_irrefl m)] at ih
      simp only [if_true, hD, Bool.false_eq_true, if_false, Nat.lt_succ_self]
      omega
    · simp only [if_neg hmi]
      by_cases hlt : i < m
      · rw [if_pos hlt] at ih
        rw [if_pos (show i < m + 1 by omega)]
        omega
      · rw [if_neg hlt] at ih
        rw [if_neg (show ¬ i < m + 1 by omega)]
        omega
theorem getD_set {listed : Array Bool} {i : Nat} (hi : i < listed.size) : (fun k => (listed.setIfInBounds i true).getD k false) = fun k => if k = i then true else listed.getD k false := by
  funext k
  by_cases hk : k = i
  · subst hk; simp [hi]
  · rw [if_neg hk, getD_set_ne false (fun e => hk e.symm)]
theorem R.frame {G2 : Gh} {J Hv H2 J2 : Heap} {W2 : World} (h : R B G J W) (hsub : ∀ q l ob, G.mu q = some l → Hv q = some ob → J q = some ob)
    (h2 : R B G2 H2 W2) (hs : St ν G G2 Hv H2 W W2)
    (hJ2 : ∀ q l ob, G2.mu q = some l → J2 q = some ob → H2 q = some ob ∨ (G.mu q = some l ∧ J q = some ob ∧ Hv q = none))
    (hp : ∀ q, under ν q = false → J q = none → J2 q = none) (hun : ∀ q, under ν q = false → G.mu q = none → J2 q = J q) : R B G2 J2 W2 ∧ St ν G G2 J J2 W W2 := by
  have ow0 : ∀ b, Ow G Hv W b → Ow G J W b := fun b ⟨q, l, ob, e1, e2, e3⟩ => ⟨q, l, ob, e1, hsub q l ob e1 e2, e3⟩
  have notv : ∀ q l ob k, G.mu q = some l → J q = some ob → Hv q = none → ownB ob l W k → ¬ Ow G Hv W k := by
    rintro q l ob k e1 e2 e3 e4 ⟨q', l', ob', f1, f2, f3⟩
    have := h.dj q q' l l' ob ob' k e1 e2 f1 (hsub _ _ _ f1 f2) e4 f3
    subst this
    rw [e3] at f2; cases f2
  have still : ∀ q l ob k, G.mu q = some l → J q = some ob → Hv q = none → ownB ob l W k → W2.heap[k]? = W.heap[k]? := fun q l ob k e1 e2 e3 e4 =>
    hs.fr k (e4.lt (h.ob q l ob e1 e2)) (notv q l ob k e1 e2 e3 e4)
  have back : ∀ q l ob k, G.mu q = some l → J q = some ob → Hv q = none → ownB ob l W2 k → ownB ob l W k := fun q l ob k e1 e2 e3 e4 => e4.back (still q l ob _ e1 e2 e3 (.inl rfl))
  refine ⟨⟨h2.f, fun b o v e => ?_, fun q l ob e1 e2 => ?_, fun q q' l l' ob ob' k e1 e2 e3 e4 e5 e6 => ?_⟩, hs.le, hs.mu', fun b o v e => ?_, hp, hs.sz, fun b hb hn => hs.fr b hb (fun e => hn (ow0 b e)), ?_, hs.sm, hun⟩
  · rintro ⟨q, l, ob, e1, e2, e3⟩
    rcases hJ2 q l ob e1 e2 with e4 | ⟨e4, e5, e6⟩
    · exact h2.fo b o v e ⟨q, l, ob, e1, e4, e3⟩
    · have e7 := back q l ob b e4 e5 e6 e3
      rcases hs.F' b o v e with e8 | e8 | e8
      · exact h.fo b o v e8 ⟨q, l, ob, e4, e5, e7⟩
      · exact absurd (e7.lt (h.ob q l ob e4 e5)) (by omega)
      · exact notv q l ob b e4 e5 e6 e7 e8
  · rcases hJ2 q l ob e1 e2 with e4 | ⟨e4, e5, e6⟩
    · exact h2.ob q l ob e1 e4
    · exact (h.ob q l ob e4 e5).congr hs.le fun k hk => still q l ob k e4 e5 e6 hk
  · have one : ∀ p p' m m' o o', G2.mu p = some m → H2 p = some o → G.mu p' = some m' → J p' = some o' → Hv p' = none → ownB o m W2 k → ownB o' m' W2 k → False := by
      intro p p' m m' o o' f1 f2 f3 f4 f5 f6 f7
      have f8 := back p' m' o' k f3 f4 f5 f7
      rcases hs.ow k ⟨p, m, o, f1, f2, f6⟩ with f9 | f9
      · exact absurd (f8.lt (h.ob p' m' o' f3 f4)) (by omega)
      · exact notv p' m' o' k f3 f4 f5 f8 f9
    rcases hJ2 q l ob e1 e2 with a4 | ⟨a4, a5, a6⟩
    · rcases hJ2 q' l' ob' e3 e4 with b4 | ⟨b4, b5, b6⟩
      · exact h2.dj q q' l l' ob ob' k e1 a4 e3 b4 e5 e6
      · exact (one q q' l l' ob ob' e1 a4 b4 b5 b6 e5 e6).elim
    · rcases hJ2 q' l' ob' e3 e4 with b4 | ⟨b4, b5, b6⟩
      · exact (one q' q l' l ob' ob e3 b4 a4 a5 a6 e6 e5).elim
      · exact h.dj q q' l l' ob ob' k a4 a5 b4 b5 (back _ _ _ _ a4 a5 a6 e5) (back _ _ _ _ b4 b5 b6 e6)
  · rcases hs.F' b o v e with e8 | e8 | e8
    · exact .inl e8
    · exact .inr (.inl e8)
    · exact .inr (.inr (ow0 b e8))
  · rintro b ⟨q, l, ob, e1, e2, e3⟩
    rcases hJ2 q l ob e1 e2 with e4 | ⟨e4, e5, e6⟩
    · exact (hs.ow b ⟨q, l, ob, e1, e4, e3⟩).imp id (ow0 b)
    · exact .inr ⟨q, l, ob, e4, e5, back q l ob b e4 e5 e6 e3⟩
theorem root_known {e : Env} {a : Act} (hE : ER G e a) : ∀ (rs : List Tmp) (q : Nm), q ∈ rootNames e rs → ∃ l, G.mu q = some l
  | [], q, h => by simp [rootNames] at h
  | t :: rs, q, h => by
    have hv := hE.get t
    simp only [rootNames] at h
    split at h
    · rename_i p i o he
      rw [he] at hv
      rcases List.mem_cons.1 h with rfl | h
      · generalize a.tmps.getD t undef = z at hv
        cases hv with
        | ptr hm => exact ⟨_, hm⟩
      · exact root_known hE rs q h
    · rename_i p w o n he
      rw [he] at hv
      rcases List.mem_cons.1 h with rfl | h
      · generalize a.tmps.getD t undef = z at hv
        cases hv with
        | slc hm => exact ⟨_, hm⟩
      · exact root_known hE rs q h
    · exact root_known hE rs q h
theorem deep_known {e : Env} {a : Act} {W : World} (h : R B G H W) (hE : ER G e a) : ∀ (rs : List Tmp) (q : Nm), q ∈ deepNames H e rs → ∃ l, G.mu q = some l
  | [], q, h1 => by simp [deepNames] at h1
  | t :: rs, q, h1 => by
    have hv := hE.get (t % 1000000)
    simp only [deepNames] at h1
    have rec1 := deep_known h hE rs q
    cases hb : Nat.ble 1000000 t with
    | false => rw [hb] at h1; exact rec1 h1
    | true =>
      rw [hb] at h1
      rcases List.mem_append.1 h1 with h1 | h1
      · unfold deepAt at h1
        split at h1
        · rename_i p i o he
          rw [he] at hv
          generalize a.tmps.getD (t % 1000000) undef = z at hv
          cases hv with
          | ptr hm =>
            split at h1
            · rename_i w xs hH
              split at h1
              · rename_i x hx
                split at h1
                · rename_i p2 w2 o2 n2 hc
                  obtain ⟨hw2, cur, T', r1, r2, r3, r4, r5, r6⟩ := h.ob p _ _ hm hH
                  obtain rfl : q = p2 := by simpa using h1
                  have hin : AVal.slc q w2 o2 n2 ∈ flat xs := List.mem_flatMap.2 ⟨x, List.mem_of_getElem? hx, List.mem_of_getElem? hc⟩
                  obtain ⟨j, hj, ej⟩ := List.mem_iff_getElem.1 hin
                  have hl := r6.1
                  have hv2 := r6.2 j _ _ (List.getElem?_eq_getElem hj) (List.getElem?_eq_getElem (show j < (cur.toList.take (xs.length * w)).length by omega))
                  rw [ej] at hv2
                  generalize (cur.toList.take (xs.length * w))[j]'(by omega) = z2 at hv2
                  cases hv2 with
                  | slc hm2 => exact ⟨_, hm2⟩
                · simp at h1
              · simp at h1
            · simp at h1
        · simp at h1
      · exact rec1 h1
theorem draw_sound (hc : COK B P c) : DrawSound B P c := by
  intro rec hrec hrn ν ops rs id e H e1 H1 hdr hl G W a h hf hE
  have hd := drawOK_spec hdr
  have hknown : ∀ q, q ∈ asideN H e rs → ∃ l, G.mu q = some l := fun q hq => (List.mem_append.1 hq).elim (root_known hE rs q) (deep_known h hE rs q)
  generalize hqs : asideN H e rs = qs at hl hknown ⊢
  obtain ⟨es, Hs, vs, ht, rfl, h00, t3, t4⟩ := trace ops.toList 0 e (hideL qs H) e1 H1 hl (fun j => by simp)
  simp only [Nat.zero_add, Array.length_toList] at t3 t4
  have hKu : ∀ q, q ∈ qs → under ν q = false := fun q hq => by
    obtain ⟨l, hl⟩ := hknown q hq
    cases hu : under ν q with
    | false => rfl
    | true => rw [(hf q hu).1] at hl; cases hl
  have hK0 : ∀ q, q ∈ qs → ∀ j, j ≤ ops.size → Hs j q = none := fun q hq j hj => ht.outside hrn (hKu q hq) (by rw [h00]; simp [hideL, hq]) hj
  have h0 : ∀ q, under ν q = true → Hs 0 q = none := fun q hu => by
    rw [h00]; unfold hideL; split
    · rfl
    · exact (hf q hu).2
  have later : ∀ {q : Nm} {i j : Nat}, under (i :: ν) q = true → j ≤ i → j ≤ ops.size → Hs j q = none := fun hu h1 h2 => ht.later hrn h0 hu h1 h2
  have nAlt : ∀ {i : Nat}, nA ops i = true → i < ops.size := fun {i} hi => by
    unfold nA at hi
    split at hi
    · rename_i hx; exact (Array.getElem?_eq_some_iff.1 hx).1
    · cases hi
  refine wp_region_any hc.mixed ?_
  have key : ∀ (fuel : Nat) (listed : Array Bool) (a' : Act) (w' : World), listed.size = ops.size → cnt (fun k => listed.getD k false) ops.size = fuel → (∀ k, listed.getD k false = true → edges ops k (fun j => listed.getD j false)) →
      (∃ G' M, M ≤ ops.size ∧ (∀ m, cl3 c ops rs m = true → (M ≤ m → listed.getD m false = false) ∧ (m < M → listed.getD m false = true)) ∧ R B G' (backL qs H (heapM ν ops Hs M)) w' ∧ ER G' (envD ops vs (es 0) (fun k => listed.getD k false) ops.size) a' ∧ St ν G G' H (backL qs H (heapM ν ops Hs M)) W w' ∧
        (∀ i, i < ops.size → listed.getD i false = false → ∀ q, under (i :: ν) q = true → G'.mu q = none ∧ (nA ops i = false → heapM ν ops Hs M q = none)) ∧
        (∀ i, i < M → nA ops i = true → listed.getD i false = false → ∀ q, under (i :: ν) q = true → Hs M q = Hs (i + 1) q)) → a'.defers = a.defers →
      wpAny P .any ops (XPost B ν G H (backL qs H H1) W .norm e1 a.defers) fuel listed a' w' := by
    intro fuel
    induction fuel with
    | zero =>
      rintro listed a' w' hsz hcnt hD ⟨G', M, hM, hM3, g1, g2, g3, g4, g5⟩ hds
      have hall := cnt_zero ops.size hcnt
      have f1 := all_env (D := fun k => listed.getD k false) ht hall ops.size (Nat.le_refl _)
      have f2 : heapM ν ops Hs M = H1 := by
        rw [heapM_same ht ops.size hM (Nat.le_refl _) (fun m h1 h2 => by
          cases h3 : cl3 c ops rs m with
          | false => rfl
          | true =>
            have := (hM3 m h3).1 h1
            rw [hall m h2] at this; cases this), ← t4]
        funext q
        exact heapM_out fun i hi => by have := nAlt hi.2.1; have := hi.1; omega
      rw [f1] at g2
      rw [f2] at g1 g3
      refine ⟨?_, Z, hds, G', g1, by rw [← t3]; exact g2, g3⟩
      cases hr : Region.ready .any ops listed with
      | nil => rfl
      | cons i r =>
        have hi : i ∈ Region.ready .any ops listed := by rw [hr]; exact List.mem_cons_self
        rw [mem_ready] at hi
        obtain ⟨hi1, o, ho, _⟩ := hi
        have hlt : i < ops.size := (Array.getElem?_eq_some_iff.1 ho).1
        have := hall i hlt
        simp only [Array.getD_eq_getD_getElem?] at this hi1
        rw [Array.getElem?_eq_getElem (by omega : i < listed.size)] at this hi1
        simp only [Option.getD_some] at this hi1
        rw [this] at hi1; cases hi1
    | succ fuel ih =>
      rintro listed a' w' hsz hcnt hD ⟨G', M, hM, hM3, g1, g2, g3, g4, g5⟩ hds
      have same : ∀ i, i < ops.size → listed.getD i true = listed.getD i false := by
        intro i hi
        simp only [Array.getD_eq_getD_getElem?]
        rw [Array.getElem?_eq_getElem (by omega : i < listed.size)]
        rfl
      constructor
      · intro hr
        exfalso
        have least : ∀ k, k ≤ ops.size → (∀ i, i < k → listed.getD i false = true) := by
          intro k
          induction k with
          | zero => intro _ i hi; omega
          | succ k ihk =>
            intro hk i hi
            have ihk := ihk (by omega)
            by_cases hik : i = k
            · subst hik
              cases hDi : listed.getD i false with
              | true => rfl
              | false =>
                obtain ⟨x, hx⟩ : ∃ x, ops[i]? = some x := ⟨_, Array.getElem?_eq_getElem (by omega : i < ops.size)⟩
                have hmem : i ∈ Region.ready .any ops listed := by
                  rw [mem_ready]
                  exact ⟨by rw [same i (by omega)]; exact hDi, x, hx, fun e he hb => ihk e.on (hd.back i x hx e he hb)⟩
                rw [hr] at hmem; cases hmem
            · exact ihk i (by omega)
        have hall := least ops.size (Nat.le_refl _)
        have : ∀ m, m ≤ ops.size → cnt (fun k => listed.getD k false) m = 0 := by
          intro m
          induction m with
          | zero => intro _; rfl
          | succ m ihm => intro hm; simp only [cnt, ihm (by omega), hall m (by omega), if_true]
        rw [this ops.size (Nat.le_refl _)] at hcnt
        omega
      · intro i hi
        have hi' := hi
        rw [mem_ready] at hi'
        obtain ⟨hi1, y, hy, hedge⟩ := hi'
        have hlt : i < ops.size := (Array.getElem?_eq_some_iff.1 hy).1
        have hDi : listed.getD i false = false := by rw [← same i hlt]; exact hi1
        have hedges : edges ops i (fun j => listed.getD j false) := fun o ho e he hb => by
          rw [hy] at ho
          obtain rfl := Option.some.inj ho
          exact hedge e he hb
        have hgs := getD_set (listed := listed) (i := i) (by omega)
        have hD' : ∀ k, (listed.setIfInBounds i true).getD k false = true → edges ops k (fun j => (listed.setIfInBounds i true).getD j false) := by
          intro k hk
          rw [hgs]
          have hk' : (if k = i then true else listed.getD k false) = true := (congrFun hgs k).symm.trans hk
          have base : edges ops k (fun j => listed.getD j false) := by
            by_cases hki : k = i
            · subst hki; exact hedges
            · rw [if_neg hki] at hk'; exact hD k hk'
          intro o ho e he hb
          have := base o ho e he hb
          show (if e.on = i then true else listed.getD e.on false) = true
          split
          · rfl
          · exact this
        have hcnt' : cnt (fun k => (listed.setIfInBounds i true).getD k false) ops.size = fuel := by
          rw [hgs]
          have := cnt_add (D := fun k => listed.getD k false) hDi ops.size
          rw [if_pos hlt, hcnt] at this
          omega
        have hst := ht.step i y (Nat.zero_le _) hy
        have henv := fun t ht' => look_env ht hd hD hy hDi hedges (t := t) ht' ops.size (Nat.le_refl _)
        rw [Nat.min_eq_right (by omega : i ≤ ops.size)] at henv
        have hadd := add_env (vs := vs) hd hD hy hDi (es 0) ops.size (Nat.le_refl _)
        rw [if_pos hlt] at hadd
        have hAy : nA ops i = isA y := by simp [nA, hy]
        have h3y : cl3 c ops rs i = (cls c ops rs y == 3) := by simp [cl3, hy]
        have turn : 1 ≤ cls c ops rs y → ∀ m, cl3 c ops rs m = true → m ≠ i → (m < i → listed.getD m false = true) ∧ (i < m → listed.getD m false = false) := by
          intro hk m hm3 hmi
          obtain ⟨x, hx, hx3⟩ : ∃ x, ops[m]? = some x ∧ cls c ops rs x = 3 := by
            unfold cl3 at hm3
            split at hm3
            · rename_i x hx; exact ⟨x, hx, by simpa using hm3⟩
            · cases hm3
          constructor
          · intro hlt2
            have hcl : clash c ops rs x y = true := by
              cases hcl : clash c ops rs x y with
              | true => rfl
              | false => exact absurd ⟨hx3, hk⟩ (no_clash hcl).2.1
            exact waits_listed hD 4 i m (hd.clash m i x y hlt2 hx hy hcl) hedges
          · intro hlt2
            cases hDm : listed.getD m false with
            | false => rfl
            | true =>
              have hcl : clash c ops rs y x = true := by
                cases hcl : clash c ops rs y x with
                | true => rfl
                | false => exact absurd ⟨hk, hx3⟩ (no_clash hcl).2.2
              have := waits_listed hD 4 m i (hd.clash i m y x hlt2 hy hx hcl) (hD m hDm)
              rw [hDi] at this; cases this
        have hMi : 1 ≤ cls c ops rs y → heapM ν ops Hs M = heapM ν ops Hs i := by
          intro hk
          rcases Nat.le_total M i with hle | hle
          · refine heapM_same ht i hle (by omega) fun m h1 h2 => ?_
            cases h3 : cl3 c ops rs m with
            | false => rfl
            | true =>
              have e1 := (turn hk m h3 (by omega)).1 h2
              rw [(hM3 m h3).1 h1] at e1; cases e1
          · refine (heapM_same ht M hle hM fun m h1 h2 => ?_).symm
            cases h3 : cl3 c ops rs m with
            | false => rfl
            | true =>
              by_cases hmi : m = i
              · subst hmi
                have e1 := (hM3 m h3).2 h2
                rw [hDi] at e1; cases e1
              · have e1 := (turn hk m h3 hmi).2 (by omega)
                rw [(hM3 m h3).2 h2] at e1; cases e1
        have hops : Evs G' (es i) a' y.op.operands := by
          intro x hx u hu
          cases x with
          | tmp t =>
            have hlook : t ∈ y.looksAt ops := by
              unfold Oper.looksAt
              refine List.mem_append_left _ (List.mem_filterMap.2 ⟨.tmp t, by simpa using hx, Z⟩)
            simp only [ev] at hu
            obtain rfl := Option.some.inj hu
            have := ER.get g2 t
            rw [List.getD_eq_getElem?_getD, henv t hlook, ← List.getD_eq_getElem?_getD] at this
            exact this
          | const v => exact constAny_sound hu
          | global g => cases hu
          | func f => simp only [ev] at hu; obtain rfl := Option.some.inj hu; exact .fn rfl (fun i x v hx => by simp at hx)
        have hwant : Region.wanted y (yielded ops a'.tmps) = Region.wanted y (ayielded ops (es i)) := by
          unfold Region.wanted
          cases hg : y.guard with
          | none => rfl
          | some gd =>
            obtain ⟨j, want⟩ := gd
            simp only
            have : yielded ops a'.tmps j = ayielded ops (es i) j := by
              rw [yielded_eq g2]
              unfold ayielded
              cases hdj : (ops[j]?).bind (·.dst) with
              | none => rfl
              | some d =>
                have hlook : d ∈ y.looksAt ops := by
                  unfold Oper.looksAt
                  refine List.mem_append_right _ ?_
                  rw [hg]
                  simp only [hdj, Option.toList, List.mem_singleton]
                simp only [Option.bind_some, henv d hlook]
            rw [this]
        have next : ∀ (v' : Value) (w2 : World) (G2 : Gh) (M2 : Nat), M2 ≤ ops.size → (∀ m, cl3 c ops rs m = true → (M2 ≤ m → (if m = i then true else listed.getD m false) = false) ∧ (m < M2 → (if m = i then true else listed.getD m false) = true)) → VR G2 (vs i) v' → R B G2 (backL qs H (heapM ν ops Hs M2)) w2 →
            St (i :: ν) G' G2 (backL qs H (heapM ν ops Hs M)) (backL qs H (heapM ν ops Hs M2)) w' w2 →
            (∀ j, j < M2 → nA ops j = true → j ≠ i → listed.getD j false = false → ∀ q, under (j :: ν) q = true → Hs M2 q = Hs (j + 1) q) →
            wpAny P .any ops (XPost B ν G H (backL qs H H1) W .norm e1 a.defers) fuel (listed.setIfInBounds i true) (a'.put y.dst v') w2 := by
          intro v' w2 G2 M2 hM2 hM23 hvr hr2 hs2 h5
          refine ih _ _ w2 (by simpa using hsz) hcnt' hD' ⟨G2, M2, hM2, fun m hm => ?_, hr2, ?_, g3.trans hs2.up, fun j hj hDj q hq => ?_, fun j hj hA hDj => ?_⟩ ((put_defers _ _ _).trans hds)
          · have e1 : (listed.setIfInBounds i true).getD m false = if m = i then true else listed.getD m false := congrFun hgs m
            rw [e1]; exact hM23 m hm
          · rw [hgs, hadd]; exact (g2.mono hs2.le).put y.dst hvr
          · have hDj' : (if j = i then true else listed.getD j false) = false := (congrFun hgs j).symm.trans hDj
            have hji : j ≠ i := fun e => by rw [if_pos e] at hDj'; cases hDj'
            rw [if_neg hji] at hDj'
            obtain ⟨q1, q2⟩ := g4 j hj hDj' q hq
            have hu := under_apart hji hq
            refine ⟨(hs2.mu' q hu).trans q1, fun hn => ?_⟩
            have hqK : ¬ q ∈ qs := fun hk => by have := hKu q hk; rw [under_of_cons hq] at this; cases this
            have e1 : backL qs H (heapM ν ops Hs M) q = none := by unfold backL; rw [if_neg hqK]; exact q2 hn
            have e2 := hs2.hp q hu e1
            unfold backL at e2
            rwa [if_neg hqK] at e2
          · have hDj' : (if j = i then true else listed.getD j false) = false := (congrFun hgs j).symm.trans hDj
            have hji : j ≠ i := fun e => by rw [if_pos e] at hDj'; cases hDj'
            rw [if_neg hji] at hDj'
            exact h5 j hj hA hji hDj'
        have next0 : cl3 c ops rs i = false → ∀ (v' : Value) (w2 : World) (G2 : Gh), VR G2 (vs i) v' → R B G2 (backL qs H (heapM ν ops Hs M)) w2 →
            St (i :: ν) G' G2 (backL qs H (heapM ν ops Hs M)) (backL qs H (heapM ν ops Hs M)) w' w2 →
            wpAny P .any ops (XPost B ν G H (backL qs H H1) W .norm e1 a.defers) fuel (listed.setIfInBounds i true) (a'.put y.dst v') w2 := by
          intro h3 v' w2 G2 hvr hr2 hs2
          refine next v' w2 G2 M hM (fun m hm => ?_) hvr hr2 hs2 (fun j hj hA hji hDj => g5 j hj hA hDj)
          have hmi : m ≠ i := fun e => by subst e; rw [h3] at hm; cases hm
          rw [if_neg hmi]; exact hM3 m hm
        have hMle : cl3 c ops rs i = true → M ≤ i := fun h3 => by
          rcases Nat.lt_or_ge i M with hlt2 | hge
          · have := (hM3 i h3).2 hlt2
            rw [hDi] at this; cases this
          · exact hge
        have next3 : cl3 c ops rs i = true → ∀ (v' : Value) (w2 : World) (G2 : Gh), VR G2 (vs i) v' → R B G2 (backL qs H (heapM ν ops Hs (i + 1))) w2 →
            St (i :: ν) G' G2 (backL qs H (heapM ν ops Hs M)) (backL qs H (heapM ν ops Hs (i + 1))) w' w2 → (∀ q, under (i :: ν) q = false → G'.mu q = none → Hs (i + 1) q = Hs i q) →
            wpAny P .any ops (XPost B ν G H (backL qs H H1) W .norm e1 a.defers) fuel (listed.setIfInBounds i true) (a'.put y.dst v') w2 := by
          intro h3 v' w2 G2 hvr hr2 hs2 hun
          have hk : 1 ≤ cls c ops rs y := by rw [h3y] at h3; have : cls c ops rs y = 3 := by simpa using h3
                                             omega
          refine next v' w2 G2 (i + 1) (by omega) (fun m hm => ?_) hvr hr2 hs2 (fun j hj hA hji hDj q hq => ?_)
          · by_cases hmi : m = i
            · subst hmi
              rw [if_pos rfl]
              exact ⟨fun hle => by omega, fun _ => rfl⟩
            · rw [if_neg hmi]
              have := turn hk m hm hmi
              exact ⟨fun hle => this.2 (by omega), fun hlt2 => this.1 (by omega)⟩
          · have hj2 : j < i := by omega
            rw [hun q (under_apart hji hq) (g4 j (nAlt hA) hDj q hq).1]
            have e1 : heapM ν ops Hs i q = Hs i q := heapM_out fun m hm => by
              have := under_one hm.2.2 hq
              have := hm.1
              omega
            rw [← e1, ← hMi hk]
            rcases Nat.lt_or_ge j M with hjM | hjM
            · rw [heapM_out (fun m hm => by
                have := under_one hm.2.2 hq
                have := hm.1
                omega)]
              exact g5 j hjM hA hDj q hq
            · exact heapM_in ⟨hjM, hA, hq⟩
        have hFr : nA ops i = false → Fresh (i :: ν) G' (backL qs H (heapM ν ops Hs M)) := fun hn q hq => by
          obtain ⟨q1, q2⟩ := g4 i hlt hDi q hq
          have hqK : ¬ q ∈ qs := fun hk => by have := hKu q hk; rw [under_of_cons hq] at this; cases this
          exact ⟨q1, by unfold backL; rw [if_neg hqK]; exact q2 hn⟩
        unfold wpOp
        rw [hy]
        simp only
        rw [hwant]
        rcases hst.2 with ⟨hw, hop⟩ | ⟨hw, hv, hHs⟩
        · rw [if_pos hw]
          refine .inl ?_
          by_cases hfl : flagged ops rs y = true
          · -- it stands aside
            have h3 : cl3 c ops rs i = false := by rw [h3y]; simp [cls, hfl]
            have hn : nA ops i = false := by
              rw [hAy]
              cases ha : isA y with
              | false => rfl
              | true => rw [isA_notflagged ha] at hfl; cases hfl
            have hload : ∃ t x, y.op = .load t x := by
              obtain ⟨dst, op, type, pos, after, guard⟩ := y
              cases op <;> first | exact ⟨_, _, rfl⟩ | (simp [flagged] at hfl)
            have hop2 : aoper c rec (i :: ν) (es i) (onlyL qs H) y = some (vs i, onlyL qs H) := by
              obtain ⟨t, x, ho⟩ := hload
              unfold aoperF at hop
              rw [if_pos hfl] at hop
              unfold aoper
              have hic : isCall y.op = false := by rw [ho]; rfl
              rw [hic]
              simp only [Bool.false_eq_true, if_false]
              split at hop
              · rename_i v hx hop3
                have e1 := (Prod.mk.inj (Option.some.inj hop)).1
                subst e1
                rw [hop3]
                congr 1
                congr 1
                unfold aop at hop3
                rw [ho] at hop3
                simp only at hop3
                cases hx1 : ev (es i) x with
                | none => rw [hx1] at hop3; cases hop3
                | some u => rw [hx1] at hop3; exact (some_pair hop3).2
              · cases hop
            have g1' : R B G' (onlyL qs H) w' := g1.sub fun q ob e => by
              unfold onlyL at e
              split at e
              · rename_i hq; unfold backL; rw [if_pos hq]; exact e
              · cases e
            have hfr : Fresh (i :: ν) G' (onlyL qs H) := fun q hq => ⟨(hFr hn q hq).1, by
              unfold onlyL
              split
              · rename_i hk; have := hKu q hk; rw [under_of_cons hq] at this; cases this
              · rfl⟩
            refine oper_sound hc hrec hop2 hops g1' hfr ?_
            intro v' w2 G2 k1 k2 k3
            obtain ⟨r1, r2⟩ := R.frame (J2 := backL qs H (heapM ν ops Hs M)) g1 (fun q l ob _ e => by
              unfold onlyL at e
              split at e
              · rename_i hq; unfold backL; rw [if_pos hq]; exact e
              · cases e) k2 k3 (fun q l ob e1 e2 => by
              by_cases hq : q ∈ qs
              · left; unfold backL at e2; rw [if_pos hq] at e2; unfold onlyL; rw [if_pos hq]; exact e2
              · right
                refine ⟨?_, e2, by unfold onlyL; rw [if_neg hq]⟩
                cases hu : under (i :: ν) q with
                | false => rw [← k3.mu' q hu]; exact e1
                | true => rw [(hFr hn q hu).2] at e2; cases e2) (fun _ _ e => e) (fun _ _ _ => rfl)
            exact next0 h3 v' w2 G2 k1 r1 r2
          · have hfl' : flagged ops rs y = false := by simpa using hfl
            have hop2 : aoper c rec (i :: ν) (es i) (Hs i) y = some (vs i, Hs (i + 1)) := by
              unfold aoperF at hop
              rw [hfl'] at hop
              simpa using hop
            cases hA : isA y with
            | true =>
              have h3 : cl3 c ops rs i = false := by rw [h3y]; simp [cls, hfl', hA]
              obtain ⟨ob, hob⟩ := isA_made hA hop2
              have hi1 : Hs (i + 1) = (Hs i).put (i :: ν) (some ob) := by
                have e1 := hob (Hs i)
                rw [hop2] at e1
                exact (Prod.mk.inj (Option.some.inj e1)).2
              have hJ : ∀ q, under (i :: ν) q = true → backL qs H (heapM ν ops Hs M) q = Hs (i + 1) q := by
                intro q hq
                have hqK : ¬ q ∈ qs := fun hk => by have := hKu q hk; rw [under_of_cons hq] at this; cases this
                unfold backL
                rw [if_neg hqK]
                rcases Nat.lt_or_ge i M with hiM | hiM
                · rw [heapM_out (fun m hm => by
                    have := under_one hm.2.2 hq
                    have := hm.1
                    omega)]
                  exact g5 i hiM (by rw [hAy, hA]) hDi q hq
                · exact heapM_in ⟨hiM, by rw [hAy, hA], hq⟩
              let Hv : Heap := fun q => if under (i :: ν) q then none else backL qs H (heapM ν ops Hs M) q
              have hsub : ∀ q ob, Hv q = some ob → backL qs H (heapM ν ops Hs M) q = some ob := fun q ob e => by
                have e : (if under (i :: ν) q then none else backL qs H (heapM ν ops Hs M) q) = some ob := e
                split at e
                · cases e
                · exact e
              have g1' : R B G' Hv w' := g1.sub hsub
              have hfr : Fresh (i :: ν) G' Hv := fun q hq => ⟨(g4 i hlt hDi q hq).1, by show (if under (i :: ν) q then none else _) = none; rw [if_pos hq]⟩
              refine oper_sound hc hrec (hob Hv) hops g1' hfr ?_
              intro v' w2 G2 k1 k2 k3
              obtain ⟨r1, r2⟩ := R.frame (J2 := backL qs H (heapM ν ops Hs M)) g1 (fun q l ob _ e => hsub q ob e) k2 k3 (fun q l ob2 e1 e2 => by
                left
                cases hu : under (i :: ν) q with
                | true =>
                  rw [hJ q hu, hi1] at e2
                  by_cases hqi : q = i :: ν
                  · subst hqi; rw [put_same] at e2 ⊢; exact e2
                  · rw [put_other _ _ hqi, later hu (Nat.le_refl _) (by omega)] at e2; cases e2
                | false =>
                  rw [put_other _ _ (ne_under hu)]
                  show (if under (i :: ν) q then none else _) = _
                  rw [hu]
                  exact e2) (fun _ _ e => e) (fun _ _ _ => rfl)
              exact next0 h3 v' w2 G2 k1 r1 r2
            | false =>
              have hn : nA ops i = false := by rw [hAy, hA]
              have hcls : cls c ops rs y = opClass c y := by unfold cls; rw [if_neg hfl, if_neg (by simp [hA])]
              by_cases h0c : opClass c y = 0
              · -- it does not look at the heap
                have h3 : cl3 c ops rs i = false := by rw [h3y, hcls, h0c]; rfl
                have hop3 := (class0_heap h0c hop2).2 (backL qs H (heapM ν ops Hs M))
                refine oper_sound hc hrec hop3 hops g1 (hFr hn) ?_
                intro v' w2 G2 k1 k2 k3
                exact next0 h3 v' w2 G2 k1 k2 k3
              · have hk : 1 ≤ cls c ops rs y := by omega
                have hMe := hMi hk
                have hJi : ∀ q, ¬ q ∈ qs → backL qs H (heapM ν ops Hs M) q = heapM ν ops Hs i q := fun q hq => by unfold backL; rw [if_neg hq, hMe]
                have hsub : ∀ q l ob, G'.mu q = some l → Hs i q = some ob → backL qs H (heapM ν ops Hs M) q = some ob := by
                  intro q l ob _ e
                  have hqK : ¬ q ∈ qs := fun hk => by rw [hK0 q hk i (by omega)] at e; cases e
                  rw [hJi q hqK]
                  rcases heapM_cases (ν := ν) ops Hs i q with ⟨j, hj, e1⟩ | ⟨_, e1⟩
                  · rw [later hj.2.2 hj.1 (by omega)] at e; cases e
                  · rw [e1]; exact e
                have g1' : R B G' (Hs i) w' := by
                  have s1 : R B G' (fun q => if (G'.mu q).isSome then Hs i q else none) w' := g1.sub fun q ob e => by
                    split at e
                    · rename_i hm
                      obtain ⟨l, hl⟩ := Option.isSome_iff_exists.1 hm
                      exact hsub q l ob hl e
                    · cases e
                  have kn : ∀ q l, G'.mu q = some l → (if (G'.mu q).isSome = true then Hs i q else none) = Hs i q := fun q l e => by rw [e]; rfl
                  have ow1 : ∀ b, Ow G' (Hs i) w' b → Ow G' (fun q => if (G'.mu q).isSome then Hs i q else none) w' b := fun b ⟨q, l, ob, x1, x2, x3⟩ => ⟨q, l, ob, x1, (kn q l x1).trans x2, x3⟩
                  exact ⟨s1.f, fun b o v e e' => s1.fo b o v e (ow1 b e'), fun q l ob x1 x2 => s1.ob q l ob x1 ((kn q l x1).trans x2), fun q q' l l' o1 o2 k x1 x2 x3 x4 => s1.dj q q' l l' o1 o2 k x1 ((kn q l x1).trans x2) x3 ((kn q' l' x3).trans x4)⟩
                have hfr : Fresh (i :: ν) G' (Hs i) := fun q hq => ⟨(g4 i hlt hDi q hq).1, later hq (Nat.le_refl _) (by omega)⟩
                refine oper_sound hc hrec hop2 hops g1' hfr ?_
                intro v' w2 G2 k1 k2 k3
                have hJ2 : ∀ q, ¬ q ∈ qs → (∃ j, ahead ν ops (i + 1) q j) ∨ ((∀ j, ¬ ahead ν ops (i + 1) q j) ∧ heapM ν ops Hs (i + 1) q = Hs (i + 1) q ∧ heapM ν ops Hs i q = Hs i q) := by
                  intro q hq
                  rcases heapM_cases (ν := ν) ops Hs (i + 1) q with ⟨j, hj, e1⟩ | ⟨hno, e1⟩
                  · exact .inl ⟨j, hj⟩
                  · refine .inr ⟨hno, e1, heapM_out fun j hj => ?_⟩
                    by_cases hji : j = i
                    · subst hji; exact absurd hj.2.1 (by rw [hn]; decide)
                    · exact hno j ⟨by have := hj.1; omega, hj.2⟩
                have hin : ∀ q j, ahead ν ops (i + 1) q j → heapM ν ops Hs (i + 1) q = heapM ν ops Hs i q := fun q j hj => by
                  rw [heapM_in hj, heapM_in (M := i) (i := j) ⟨by have := hj.1; omega, hj.2⟩]
                obtain ⟨r1, r2⟩ := R.frame (J2 := backL qs H (heapM ν ops Hs (i + 1))) g1 hsub k2 k3 (fun q l ob e1 e2 => by
                  by_cases hq : q ∈ qs
                  · right
                    obtain ⟨l2, hl2⟩ := hknown q hq
                    have e3 := g3.le.mu q l2 hl2
                    have e4 := k3.le.mu q l2 e3
                    rw [e1] at e4
                    obtain rfl := Option.some.inj e4
                    refine ⟨e3, ?_, hK0 q hq i (by omega)⟩
                    unfold backL at e2 ⊢
                    rw [if_pos hq] at e2 ⊢; exact e2
                  · have e2' : heapM ν ops Hs (i + 1) q = some ob := by unfold backL at e2; rw [if_neg hq] at e2; exact e2
                    rcases hJ2 q hq with ⟨j, hj⟩ | ⟨_, e3, _⟩
                    · right
                      have hu : under (i :: ν) q = false := under_apart (by have := hj.1; omega) hj.2.2
                      exact ⟨by rw [← k3.mu' q hu]; exact e1, by rw [hJi q hq, ← hin q j hj]; exact e2', later hj.2.2 (by have := hj.1; omega) (by omega)⟩
                    · left; rw [← e3]; exact e2') (fun q hu e => by
                  by_cases hq : q ∈ qs
                  · unfold backL at e ⊢; rw [if_pos hq] at e ⊢; exact e
                  · rw [hJi q hq] at e
                    show (if q ∈ qs then H q else heapM ν ops Hs (i + 1) q) = none
                    rw [if_neg hq]
                    rcases hJ2 q hq with ⟨j, hj⟩ | ⟨_, e3, e4⟩
                    · rw [hin q j hj]; exact e
                    · rw [e3]; exact k3.hp q hu (by rw [← e4]; exact e)) (fun q hu e => by
                  by_cases hq : q ∈ qs
                  · unfold backL; rw [if_pos hq, if_pos hq]
                  · rw [hJi q hq]
                    show (if q ∈ qs then H q else heapM ν ops Hs (i + 1) q) = _
                    rw [if_neg hq]
                    rcases hJ2 q hq with ⟨j, hj⟩ | ⟨_, e3, e4⟩
                    · exact hin q j hj
                    · rw [e3, e4]; exact k3.un q hu e)
                cases h3 : cl3 c ops rs i with
                | true => exact next3 h3 v' w2 G2 k1 r1 r2 (fun q hu e => k3.un q hu e)
                | false =>
                  have e1 : heapM ν ops Hs (i + 1) = heapM ν ops Hs M := by
                    rw [hMe]
                    exact (heapM_same ht (i + 1) (by omega) (by omega) fun m h1 h2 => by
                      obtain rfl : m = i := by omega
                      exact h3).symm
                  rw [e1] at r1 r2
                  exact next0 h3 v' w2 G2 k1 r1 r2
        · rw [if_neg (by rw [hw]; simp)]
          have hvr : VR G' (vs i) undef := by rw [hv]; exact undef_VR
          cases h3 : cl3 c ops rs i with
          | false => exact next0 h3 undef w' G' hvr g1 (St.refl _ _ _ _)
          | true =>
            have hk : 1 ≤ cls c ops rs y := by
              rw [h3y] at h3
              have : cls c ops rs y = 3 := by simpa using h3
              omega
            have hn : nA ops i = false := by
              rw [hAy]
              cases ha : isA y with
              | false => rfl
              | true =>
                have : cls c ops rs y = 0 := by unfold cls; rw [isA_notflagged ha, ha]; rfl
                omega
            have e1 : heapM ν ops Hs (i + 1) = heapM ν ops Hs M := by
              rw [hMi hk]
              funext q
              rcases heapM_cases (ν := ν) ops Hs (i + 1) q with ⟨j, hj, e1⟩ | ⟨hno, e1⟩
              · rw [e1, heapM_in (M := i) (i := j) ⟨by have := hj.1; omega, hj.2⟩]
              · rw [e1, hHs]
                exact (heapM_out fun j hj => by
                  by_cases hji : j = i
                  · subst hji; exact absurd hj.2.1 (by rw [hn]; decide)
                  · exact hno j ⟨by have := hj.1; omega, hj.2⟩).symm
            exact next3 h3 undef w' G' hvr (by rw [e1]; exact g1) (by rw [e1]; exact St.refl _ _ _ _) (fun q _ _ => by rw [hHs])
  have hrep : (fun k => (Array.replicate ops.size false).getD k false) = fun _ => false := by
    funext k
    simp only [Array.getD_eq_getD_getElem?, Array.getElem?_replicate]
    split <;> rfl
  have hrk : ∀ k, (Array.replicate ops.size false).getD k false = false := fun k => congrFun hrep k
  have hno : ∀ m, envD ops vs (es 0) (fun _ => false) m = es 0 := by
    intro m
    induction m with
    | zero => rfl
    | succ m ih => simpa [envD] using ih
  have hcn : ∀ m, cnt (fun _ => false) m = m := by
    intro m
    induction m with
    | zero => rfl
    | succ m ih => simp [cnt, ih]
  have hJ0 : ∀ q l, G.mu q = some l → backL qs H (heapM ν ops Hs 0) q = H q := by
    intro q l e
    unfold backL
    split
    · rfl
    · rename_i hq
      rw [heapM_out (fun i hi => by
        have := (hf q (under_of_cons hi.2.2)).1
        rw [e] at this; cases this), h00]
      unfold hideL
      rw [if_neg hq]
  have hun0 : ∀ q, under ν q = false → backL qs H (heapM ν ops Hs 0) q = H q := by
    intro q hu
    unfold backL
    split
    · rfl
    · rename_i hq
      rw [heapM_out (fun i hi => by rw [under_of_cons hi.2.2] at hu; cases hu), h00]
      unfold hideL
      rw [if_neg hq]
  have hR0 : R B G (backL qs H (heapM ν ops Hs 0)) W.drew := by
    have hr := h.drew
    have ow1 : ∀ b, Ow G (backL qs H (heapM ν ops Hs 0)) W.drew b → Ow G H W.drew b := fun b ⟨q, l, ob, x1, x2, x3⟩ => ⟨q, l, ob, x1, by rw [← hJ0 q l x1]; exact x2, x3⟩
    exact ⟨hr.f, fun b o v e e' => hr.fo b o v e (ow1 b e'), fun q l ob x1 x2 => hr.ob q l ob x1 (by rw [← hJ0 q l x1]; exact x2), fun q q' l l' o1 o2 k x1 x2 x3 x4 => hr.dj q q' l l' o1 o2 k x1 (by rw [← hJ0 q l x1]; exact x2) x3 (by rw [← hJ0 q' l' x3]; exact x4)⟩
  refine key ops.size (Array.replicate ops.size false) a _ (by simp) (by rw [hrep, hcn]) (fun k hk => by rw [hrk k] at hk; cases hk) ⟨G, 0, Nat.zero_le _, fun m _ => ⟨fun _ => hrk m, fun hm => by omega⟩, hR0, ?_, ?_, fun i hi _ q hq => ⟨(hf q (under_of_cons hq)).1, fun hn => ?_⟩, fun i hi => by omega⟩ Z
  · rw [hrep, hno]; exact hE
  · refine ⟨Gle.refl G, fun _ _ => rfl, fun _ _ _ e => .inl e, fun q hu e => by rw [hun0 q hu]; exact e, Nat.le_refl _, fun _ _ _ => rfl, fun b ⟨q, l, ob, x1, x2, x3⟩ => .inr ⟨q, l, ob, x1, by rw [← hJ0 q l x1]; exact x2, x3⟩, ⟨rfl, rfl, rfl⟩, fun q hu _ => hun0 q hu⟩
  · rw [heapM_none ops Hs hq hn]
    exact h0 q (under_of_cons hq)
theorem sound (hc : COK B P c) {k : Nat} {f : FuncId} {args : List AVal} {args' : Array Value} {v : AVal} (hl : acall c (aexec c k) ν f args H = some (v, H1)) (h : R B G H W) (hf : Fresh ν G H) (ha : L2 (VR G) args args'.toList) :
    Calls P f args' W (CPost B ν G H H1 W v) := (acall_sound hc (exec_sound hc (draw_sound hc) k).1 hl h hf ha).2
end Go.Proofs.YtfkgdlfponfimaaGreat.X
