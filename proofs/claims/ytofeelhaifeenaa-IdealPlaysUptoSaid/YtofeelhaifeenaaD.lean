/- Regions whose order is drawn: whatever the order, what clashes waits: the text's order serves. -/
import Derived.Test.YtofeelhaifeenaaY
import Derived.Still
set_option linter.unusedVariables false
set_option linter.unusedSimpArgs false
namespace Go.Proofs.Ytofeelhaifeenaa.X
open Go Go.RowKit
variable {B : BT} {P : Program} {ν : Nm} {G G' : Gh} {H H1 : Heap} {W W' : World} {c : Cfg}

/-- The text's order, step by step. -/
structure Tr (c : Cfg) (rec : RecA) (ν : Nm) (ops : Array Oper) (es : Nat → Env) (Hs : Nat → Heap) (vs : Nat → AVal) (i : Nat) : Prop where
  step : ∀ j o, i ≤ j → ops[j]? = some o → es (j + 1) = putT (es j) o.dst (vs j) ∧
    ((Region.wanted o (ayielded ops (es j)) = true ∧ aoper c rec (j :: ν) (es j) (Hs j) o = some (vs j, Hs (j + 1))) ∨ (Region.wanted o (ayielded ops (es j)) = false ∧ vs j = .undef ∧ Hs (j + 1) = Hs j))
theorem trace {rec : RecA} {ops : Array Oper} : ∀ (l : List Oper) (i : Nat) (e : Env) (H : Heap) (e1 : Env) (H1 : Heap), aops c rec ν ops l i e H = some (e1, H1) → (∀ j, l[j]? = ops[i + j]?) →
    ∃ es Hs vs, Tr c rec ν ops es Hs vs i ∧ es i = e ∧ Hs i = H ∧ es (i + l.length) = e1 ∧ Hs (i + l.length) = H1 := by
  intro l
  induction l with
  | nil =>
    intro i e H e1 H1 hl hall
    simp only [aops] at hl
    obtain ⟨rfl, rfl⟩ := Prod.mk.inj (Option.some.inj hl)
    refine ⟨fun _ => e, fun _ => H, fun _ => .undef, ⟨fun j o hj ho => ?_⟩, rfl, rfl, rfl, rfl⟩
    have h0 := hall (j - i)
    rw [show i + (j - i) = j by omega, ho] at h0
    simp at h0
  | cons o l ih =>
    intro i e H e1 H1 hl hall
    have ho : ops[i]? = some o := by simpa using (hall 0).symm
    have hall' : ∀ j, l[j]? = ops[i + 1 + j]? := fun j => by have := hall (j + 1); simpa [Nat.add_assoc, Nat.add_comm 1 j] using this
    have build : ∀ v H2, aops c rec ν ops l (i + 1) (putT e o.dst v) H2 = some (e1, H1) → ((Region.wanted o (ayielded ops e) = true ∧ aoper c rec (i :: ν) e H o = some (v, H2)) ∨ (Region.wanted o (ayielded ops e) = false ∧ v = .undef ∧ H2 = H)) →
        ∃ es Hs vs, Tr c rec ν ops es Hs vs i ∧ es i = e ∧ Hs i = H ∧ es (i + (o :: l).length) = e1 ∧ Hs (i + (o :: l).length) = H1 := by
      intro v H2 h1 h2
      obtain ⟨es, Hs, vs, ht, t1, t2, t3, t4⟩ := ih (i + 1) _ H2 e1 H1 h1 hall'
      have hne : ∀ {j}, i + 1 ≤ j → j ≠ i := fun h => by omega
      refine ⟨fun j => if j = i then e else es j, fun j => if j = i then H else Hs j, fun j => if j = i then v else vs j, ⟨fun j o' hj ho' => ?_⟩, if_pos rfl, if_pos rfl, ?_, ?_⟩
      · by_cases hji : j = i
        · subst hji
          rw [ho] at ho'
          obtain rfl := Option.some.inj ho'
          simp only [if_true, if_neg (show ¬ (j + 1 = j) by omega)]
          refine ⟨t1, ?_⟩
          rw [t2]; exact h2
        · have := ht.step j o' (by omega) ho'
          simp only [if_neg hji, if_neg (show ¬ (j + 1 = i) by omega)]
          exact this
      · simp only [List.length_cons, if_neg (show ¬ (i + (l.length + 1) = i) by omega)]
        rw [show i + (l.length + 1) = i + 1 + l.length by omega]; exact t3
      · simp only [List.length_cons, if_neg (show ¬ (i + (l.length + 1) = i) by omega)]
        rw [show i + (l.length + 1) = i + 1 + l.length by omega]; exact t4
    simp only [aops] at hl
    split at hl
    · rename_i hw
      cases hop : aoper c rec (i :: ν) e H o with
      | none => rw [hop] at hl; cases hl
      | some r =>
        obtain ⟨v, H2⟩ := r
        rw [hop] at hl
        exact build v H2 hl (.inl ⟨hw, hop⟩)
    · rename_i hw
      exact build .undef H hl (.inr ⟨by simpa using hw, rfl, rfl⟩)
def envD (ops : Array Oper) (vs : Nat → AVal) (e : Env) (D : Nat → Bool) : Nat → Env
  | 0 => e
  | m + 1 => if D m then putT (envD ops vs e D m) ((ops[m]?).bind (·.dst)) (vs m) else envD ops vs e D m
def isE3 (c : Cfg) (ops : Array Oper) (m : Nat) : Bool := match ops[m]? with
  | some o => opClass c o == 3
  | none => false
def heapD (c : Cfg) (ops : Array Oper) (Hs : Nat → Heap) (H : Heap) (D : Nat → Bool) : Nat → Heap
  | 0 => H
  | m + 1 => if D m && isE3 c ops m then Hs (m + 1) else heapD c ops Hs H D m

/-! ### Which operations look at the heap, which write it -/
def pairH (x : Option AVal) (H : Heap) : Option (AVal × Heap) := match x with
  | some v => some (v, H)
  | none => none
theorem class0_heap {rec : RecA} {e : Env} {o : Oper} {v : AVal} (hk : opClass c o = 0) (hl : aoper c rec ν e H o = some (v, H1)) : H1 = H ∧ ∀ H2, aoper c rec ν e H2 o = some (v, H2) := by
  obtain ⟨dst, op, type, pos, after, guard⟩ := o
  have pv : ∀ {x : Option AVal}, (match x with | some v => some (v, H) | none => none : Option (AVal × Heap)) = some (v, H1) → H1 = H ∧ ∀ H2, pairH x H2 = some (v, H2) := by
    intro x hx
    obtain ⟨rfl, rfl⟩ := some_pair hx
    exact ⟨rfl, fun _ => rfl⟩
  cases op <;> first
    | (simp [opClass] at hk; done)
    | skip
  case call k =>
    cases hc : k.callee with
    | builtin b =>
      have hic : isCall (.call k) = false := by simp [isCall, hc]
      unfold aoper at hl ⊢
      simp only [hic, Bool.false_eq_true, if_false, aop, hc] at hl ⊢
      simp only [opClass, hc] at hk
      cases ha : evs e k.args.toList with
      | none => rw [ha] at hl; cases hl
      | some us =>
        rw [ha] at hl
        simp only at hl ⊢
        unfold aBuiltin at hl ⊢
        split at hl <;> (try (simp at hk; done)) <;> (try (cases hl; done))
        · rename_i x
          split at hl
          · rename_i hlk
            have hln : ∀ H2, lenOf H2 x = lenOf H x := by
              intro H2
              cases x <;> try rfl
              unfold lenKind at hlk
              split at hlk
              · split at hlk
                · split at hlk <;> first | (cases hlk; done) | (rename_i h1 h2; simp at h2) | contradiction
                · cases hlk
              · cases hlk
            cases hn : lenOf H x with
            | none => rw [hn] at hl; cases hl
            | some n =>
              rw [hn] at hl
              obtain ⟨rfl, rfl⟩ := Prod.mk.inj (Option.some.inj hl)
              refine ⟨rfl, fun H2 => ?_⟩
              simp only [hlk, if_true, hln H2, hn]
          · cases hl
        · rename_i x r
          cases hm : aMinMaxAll false x r with
          | none => rw [hm] at hl; cases hl
          | some u =>
            rw [hm] at hl
            obtain ⟨rfl, rfl⟩ := Prod.mk.inj (Option.some.inj hl)
            exact ⟨rfl, fun H2 => rfl⟩
        · rename_i x r
          cases hm : aMinMaxAll true x r with
          | none => rw [hm] at hl; cases hl
          | some u =>
            rw [hm] at hl
            obtain ⟨rfl, rfl⟩ := Prod.mk.inj (Option.some.inj hl)
            exact ⟨rfl, fun H2 => rfl⟩
    | value fo =>
      simp only [opClass, hc] at hk
      cases fo <;> try (simp at hk; done)
      rename_i f
      simp only at hk
      cases hg : c.given f with
      | some g => rw [hg] at hk; simp at hk
      | none =>
        rw [hg] at hk
        simp only at hk
        cases hfi : c.fn f with
        | none => rw [hfi] at hk; simp at hk
        | some fi =>
          rw [hfi] at hk
          simp only at hk
          cases hm : fi.mode <;> rw [hm] at hk <;> try (simp at hk; done)
          have hic : isCall (.call k) = true := by simp [isCall, hc]
          unfold aoper at hl ⊢
          simp only [hic, if_true, callOf, hc, ev] at hl ⊢
          cases ha : evs e k.args.toList with
          | none => rw [ha] at hl; cases hl
          | some us =>
            rw [ha] at hl
            simp only [acall, hg, hfi, hm] at hl ⊢
            cases hrun : runF c.T rec fi ν (us ++ []) (fun _ => none) with
            | none => rw [hrun] at hl; cases hl
            | some r =>
              obtain ⟨u, H3⟩ := r
              rw [hrun] at hl
              obtain ⟨rfl, rfl⟩ := Prod.mk.inj (Option.some.inj hl)
              exact ⟨rfl, fun H2 => rfl⟩
    | invoke x m => simp [opClass, hc] at hk
  all_goals
    unfold aoper at hl ⊢
    simp only [isCall, Bool.false_eq_true, if_false, aop] at hl ⊢
  all_goals (try (cases hl; done))
  case move x => exact pv hl
  case assign x => exact pv hl
  case pick x y z =>
    cases hx : ev e x with
    | none => rw [hx] at hl; cases hl
    | some u =>
      rw [hx] at hl
      cases u <;> try (cases hl; done)
      rename_i b
      cases b
      · exact pv hl
      · exact pv hl
  case build t ps =>
    cases hp : evParts e ps.toList with
    | none => rw [hp] at hl; cases hl
    | some l => rw [hp] at hl; exact pv hl
  case buildSlice t n ps =>
    cases hp : evParts e ps.toList with
    | none => rw [hp] at hl; cases hl
    | some l => rw [hp] at hl; exact pv hl
  case nilCheck x =>
    cases hx : ev e x with
    | none => rw [hx] at hl; cases hl
    | some u =>
      rw [hx] at hl
      cases u <;> try (cases hl; done)
      all_goals
        obtain ⟨rfl, rfl⟩ := Prod.mk.inj (Option.some.inj hl)
        exact ⟨rfl, fun _ => rfl⟩
  case binOp op t x y yt =>
    cases hx : ev e x with
    | none => rw [hx] at hl; cases hl
    | some u =>
      cases hy : ev e y with
      | none => rw [hx, hy] at hl; cases hl
      | some w =>
        rw [hx, hy] at hl
        simp only at hl ⊢
        split at hl
        · rename_i hn
          simp only [hn, if_true]
          exact pv hl
        · cases hl
  case unOp op t x =>
    cases hx : ev e x with
    | none => rw [hx] at hl; cases hl
    | some u => rw [hx] at hl; exact pv hl
  case makeInterface t x =>
    cases hx : ev e x with
    | none => rw [hx] at hl; cases hl
    | some u =>
      rw [hx] at hl
      simp only at hl ⊢
      cases ht : c.T t with
      | none => rw [ht] at hl; cases hl
      | some ti =>
        rw [ht] at hl
        simp only at hl ⊢
        cases hk2 : ti.k <;> rw [hk2] at hl <;> first
          | (cases hl; done)
          | (obtain ⟨rfl, rfl⟩ := Prod.mk.inj (Option.some.inj hl); exact ⟨rfl, fun _ => rfl⟩)
  case makeFunc fn first cap =>
    cases fn <;> try (cases hl; done)
    simp only at hl ⊢
    split at hl
    · rename_i hfi
      simp only [hfi, if_true]
      cases ha : evs e cap.toList with
      | none => rw [ha] at hl; cases hl
      | some us =>
        rw [ha] at hl
        obtain ⟨rfl, rfl⟩ := Prod.mk.inj (Option.some.inj hl)
        exact ⟨rfl, fun _ => rfl⟩
    · cases hl
  case slice t x lo hi mx =>
    cases hx : ev e x with
    | none => rw [hx] at hl; cases hl
    | some u =>
      rw [hx] at hl
      have hb : ¬ (lo.isSome && hi.isSome) = true := by
        intro hb
        simp only [opClass, hb, if_true] at hk
        cases hk
      simp only [hb, if_false] at hl ⊢
      split at hl
      · exact pv hl
      · cases hl
  case fieldAddr t x f =>
    cases hx : ev e x with
    | none => rw [hx] at hl; cases hl
    | some u => rw [hx] at hl; exact pv hl
  case field t x f =>
    cases hx : ev e x with
    | none => rw [hx] at hl; cases hl
    | some u => rw [hx] at hl; exact pv hl
  case indexAddr t x y =>
    cases hx : ev e x with
    | none => rw [hx] at hl; cases hl
    | some u =>
      cases hy : ev e y with
      | none => rw [hx, hy] at hl; cases hl
      | some w => rw [hx, hy] at hl; exact pv hl
  case index t x y =>
    cases hx : ev e x with
    | none => rw [hx] at hl; cases hl
    | some u =>
      cases hy : ev e y with
      | none => rw [hx, hy] at hl; cases hl
      | some w => rw [hx, hy] at hl; exact pv hl
  case typeAssert x xt t ok =>
    split at hl
    · cases hl
    · rename_i hok
      simp only [hok, if_false]
      cases hx : ev e x with
      | none => rw [hx] at hl; cases hl
      | some u =>
        rw [hx] at hl
        cases u <;> try (cases hl; done)
        rename_i ut w
        cases ht : c.T t with
        | none => rw [ht] at hl; cases hl
        | some ti =>
          rw [ht] at hl
          simp only at hl ⊢
          cases hk2 : ti.k <;> rw [hk2] at hl <;> first
            | (cases hl; done)
            | (simp only at hl ⊢
               split at hl
               · rename_i hut
                 obtain ⟨rfl, rfl⟩ := Prod.mk.inj (Option.some.inj hl)
                 refine ⟨rfl, fun H2 => ?_⟩
                 rw [if_pos hut]
                 simp
               · cases hl)
  case extract x i =>
    cases hx : ev e x with
    | none => rw [hx] at hl; cases hl
    | some u =>
      rw [hx] at hl
      cases u <;> try (cases hl; done)
      exact pv hl
theorem class1_heap {rec : RecA} {e : Env} {o : Oper} {v : AVal} (hk : opClass c o ≠ 3) (hl : aoper c rec ν e H o = some (v, H1)) : H1 = H := by
  by_cases h0 : opClass c o = 0
  · exact (class0_heap h0 hl).1
  · obtain ⟨dst, op, type, pos, after, guard⟩ := o
    cases op <;> first
      | (simp [opClass] at hk; done)
      | (simp [opClass] at h0; done)
      | skip
    case load t x =>
      unfold aoper at hl
      simp only [isCall, Bool.false_eq_true, if_false, aop] at hl
      obtain ⟨u, hu, hl⟩ := ev1 hl
      exact (some_pair hl).2
    case convert s d x =>
      unfold aoper at hl
      simp only [isCall, Bool.false_eq_true, if_false, aop] at hl
      obtain ⟨u, hu, hl⟩ := ev1 hl
      exact (some_pair hl).2
    case lookup t m k ok =>
      unfold aoper at hl
      simp only [isCall, Bool.false_eq_true, if_false, aop] at hl
      obtain ⟨u, w, hu, hw, hl⟩ := ev2 hl
      exact (some_pair hl).2
    case slice t x lo hi mx =>
      unfold aoper at hl
      simp only [isCall, Bool.false_eq_true, if_false, aop] at hl
      obtain ⟨u, hu, hl⟩ := ev1 hl
      split at hl
      · exact (some_pair hl).2
      · cases hl
    case call k =>
      cases hc : k.callee with
      | builtin b => simp only [opClass, hc] at hk h0; cases b <;> simp at hk h0
      | invoke x m => simp [opClass, hc] at hk
      | value fo =>
        simp only [opClass, hc] at hk h0
        cases fo <;> try (simp at hk; done)
        rename_i f
        simp only at hk h0
        cases hg : c.given f with
        | some g => rw [hg] at hk; simp at hk
        | none =>
          rw [hg] at hk h0
          simp only at hk h0
          cases hfi : c.fn f with
          | none => rw [hfi] at hk; simp at hk
          | some fi =>
            rw [hfi] at hk h0
            simp only at hk h0
            cases hm : fi.mode <;> rw [hm] at hk h0 <;> try (simp at hk h0; done)
            have hic : isCall (.call k) = true := by simp [isCall, hc]
            unfold aoper at hl
            simp only [hic, if_true, callOf, hc, ev] at hl
            cases ha : evs e k.args.toList with
            | none => rw [ha] at hl; cases hl
            | some us =>
              rw [ha] at hl
              simp only [acall, hg, hfi, hm] at hl
              split at hl
              · split at hl
                · exact (Prod.mk.inj (Option.some.inj hl)).2.symm
                · cases hl
              · cases hl
/-! ### Who waits for whom -/
def edges (ops : Array Oper) (k : Nat) (D : Nat → Bool) : Prop := ∀ o, ops[k]? = some o → ∀ e ∈ o.after, Region.binds .any e = true → D e.on = true
theorem waits_listed {ops : Array Oper} {D : Nat → Bool} (hD : ∀ k, D k = true → edges ops k D) : ∀ (n k i : Nat), waits ops n k i = true → edges ops k D → D i = true := by
  intro n
  induction n with
  | zero => intro k i h; simp [waits] at h
  | succ n ih =>
    intro k i h he
    simp only [waits] at h
    cases ho : ops[k]? with
    | none => rw [ho] at h; cases h
    | some o =>
      rw [ho] at h
      simp only [List.any_eq_true, Bool.and_eq_true, Bool.or_eq_true, beq_iff_eq] at h
      obtain ⟨e, h1, h2, h3⟩ := h
      have h4 := he o ho e (by simpa using h1) h2
      rcases h3 with rfl | h3
      · exact h4
      · exact ih e.on i h3 (hD e.on h4)
structure DOK (c : Cfg) (ops : Array Oper) : Prop where
  back : ∀ k y, ops[k]? = some y → ∀ e ∈ y.after, Region.binds .any e = true → e.on < k
  clash : ∀ i k x y, i < k → ops[i]? = some x → ops[k]? = some y → clash c ops x y = true → waits ops 4 k i = true
theorem drawOK_spec {ops : Array Oper} (h : drawOK c ops = true) : DOK c ops := by
  unfold drawOK at h
  rw [List.all_eq_true] at h
  constructor
  · intro k y hy e he hb
    have hk : k < ops.size := (Array.getElem?_eq_some_iff.1 hy).1
    have := h k (List.mem_range.2 hk)
    rw [hy] at this
    simp only [Bool.and_eq_true, backEdges, List.all_eq_true] at this
    have := this.1 e (by simpa using he)
    simpa [hb] using this
  · intro i k x y hik hx hy hc
    have hk : k < ops.size := (Array.getElem?_eq_some_iff.1 hy).1
    have := h k (List.mem_range.2 hk)
    rw [hy] at this
    simp only [Bool.and_eq_true, List.all_eq_true] at this
    have := this.2 i (List.mem_range.2 hik)
    rw [hx] at this
    simpa [hc] using this
/-- Two that do not clash. -/
theorem no_clash {ops : Array Oper} {x y : Oper} (h : clash c ops x y = false) : x.apart ops y = true ∧ ¬ (opClass c x = 3 ∧ 1 ≤ opClass c y) ∧ ¬ (1 ≤ opClass c x ∧ opClass c y = 3) := by
  simp only [clash, Bool.or_eq_false_iff, Bool.not_eq_false', Bool.and_eq_false_iff, beq_eq_false_iff_ne, decide_eq_false_iff_not] at h
  obtain ⟨⟨h1, h2⟩, h3⟩ := h
  exact ⟨h1, fun ⟨a, b⟩ => h2.elim (fun h => h a) (fun h => h b), fun ⟨a, b⟩ => h3.elim (fun h => h a) (fun h => h b)⟩
section
variable {ops : Array Oper} {es : Nat → Env} {Hs : Nat → Heap} {vs : Nat → AVal} {rec : RecA} {D : Nat → Bool}
theorem putT_other {e : Env} {d : Option Tmp} {v : AVal} {t : Tmp} (h : d ≠ some t) : (putT e d v)[t]? = e[t]? := by
  cases d with
  | none => rfl
  | some d => exact List.getElem?_set_ne (fun e => h (by rw [e]))
theorem putT_len (e : Env) (d : Option Tmp) (v : AVal) : (putT e d v).length = e.length := by cases d <;> simp [putT]
/-- What an operation looks at is as in the text's order. -/
theorem look_env (ht : Tr c rec ν ops es Hs vs 0) (hd : DOK c ops) (hD : ∀ k, D k = true → edges ops k D) {i : Nat} {y : Oper} (hy : ops[i]? = some y) (hDi : D i = false) (he : edges ops i D) {t : Tmp} (hlook : t ∈ y.looksAt ops) :
    ∀ m, m ≤ ops.size → (envD ops vs (es 0) D m)[t]? = (es (min m i))[t]? := by
  intro m
  induction m with
  | zero => intro _; rw [Nat.zero_min]; rfl
  | succ m ih =>
    intro hm
    have ih := ih (by omega)
    obtain ⟨x, hx⟩ : ∃ x, ops[m]? = some x := ⟨_, Array.getElem?_eq_getElem (by omega : m < ops.size)⟩
    have hst := ht.step m x (Nat.zero_le _) hx
    simp only [envD, hx, Option.bind_some]
    by_cases hmi : m < i
    · rw [Nat.min_eq_left (by omega)] at ih
      rw [Nat.min_eq_left (by omega : m + 1 ≤ i), hst.1]
      by_cases hdst : x.dst = some t
      · have hc : clash c ops x y = true := by
          cases hcl : clash c ops x y with
          | true => rfl
          | false => exact absurd hlook ((Oper.apart_spec (no_clash hcl).1).1 t hdst)
        have hDm : D m = true := waits_listed hD 4 i m (hd.clash m i x y hmi hx hy hc) he
        rw [if_pos hDm, hdst]
        show ((envD ops vs (es 0) D m).set t (vs m))[t]? = ((es m).set t (vs m))[t]?
        by_cases hlt : t < (es m).length
        · have hlt' : t < (envD ops vs (es 0) D m).length := by
            have := List.getElem?_eq_getElem hlt
            rw [← ih] at this
            exact (List.getElem?_eq_some_iff.1 this).1
          rw [List.getElem?_set_self hlt, List.getElem?_set_self hlt']
        · have h1 : (es m)[t]? = none := List.getElem?_eq_none (Nat.le_of_not_lt hlt)
          rw [h1] at ih
          have h2 := List.getElem?_eq_none_iff.1 ih
          rw [List.getElem?_eq_none (by rw [List.length_set]; exact h2), List.getElem?_eq_none (by rw [List.length_set]; exact Nat.le_of_not_lt hlt)]
      · rw [putT_other hdst]
        split
        · rw [putT_other hdst]; exact ih
        · exact ih
    · rw [Nat.min_eq_right (by omega)] at ih
      rw [Nat.min_eq_right (by omega : i ≤ m + 1)]
      split
      · rename_i hDm
        have hdst : x.dst ≠ some t := by
          intro hdst
          have hne : m ≠ i := fun e => by subst e; rw [hDi] at hDm; cases hDm
          have hc : clash c ops y x = true := by
            cases hcl : clash c ops y x with
            | true => rfl
            | false => exact absurd hlook ((Oper.apart_spec (no_clash hcl).1).2.2 t hdst)
          have := waits_listed hD 4 m i (hd.clash i m y x (by omega) hy hx hc) (hD m hDm)
          rw [hDi] at this; cases this
        rw [putT_other hdst]; exact ih
      · exact ih
/-- The heap is as in the text's order, for what looks at it. -/
theorem look_heap (ht : Tr c rec ν ops es Hs vs 0) (hd : DOK c ops) (hD : ∀ k, D k = true → edges ops k D) {i : Nat} {y : Oper} (hy : ops[i]? = some y) (hDi : D i = false) (he : edges ops i D) (hk : 1 ≤ opClass c y) :
    ∀ m, m ≤ ops.size → heapD c ops Hs (Hs 0) D m = Hs (min m i) := by
  intro m
  induction m with
  | zero => intro _; rw [Nat.zero_min]; rfl
  | succ m ih =>
    intro hm
    have ih := ih (by omega)
    obtain ⟨x, hx⟩ : ∃ x, ops[m]? = some x := ⟨_, Array.getElem?_eq_getElem (by omega : m < ops.size)⟩
    have hst := ht.step m x (Nat.zero_le _) hx
    have e3 : isE3 c ops m = (opClass c x == 3) := by simp [isE3, hx]
    simp only [heapD, e3]
    by_cases hmi : m < i
    · rw [Nat.min_eq_left (by omega)] at ih
      rw [Nat.min_eq_left (by omega : m + 1 ≤ i)]
      by_cases h3 : opClass c x = 3
      · have hc : clash c ops x y = true := by
          cases hcl : clash c ops x y with
          | true => rfl
          | false => exact absurd ⟨h3, hk⟩ (no_clash hcl).2.1
        have hDm : D m = true := waits_listed hD 4 i m (hd.clash m i x y hmi hx hy hc) he
        simp [hDm, h3]
      · have : (D m && opClass c x == 3) = false := by simp [h3]
        rw [this]
        simp only [Bool.false_eq_true, if_false]
        rw [ih]
        rcases hst.2 with ⟨_, hop⟩ | ⟨_, _, hH⟩
        · exact (class1_heap h3 hop).symm
        · exact hH.symm
    · rw [Nat.min_eq_right (by omega)] at ih
      rw [Nat.min_eq_right (by omega : i ≤ m + 1)]
      have : (D m && opClass c x == 3) = false := by
        cases hDm : D m with
        | false => rfl
        | true =>
          have h3 : opClass c x ≠ 3 := by
            intro h3
            have hne : m ≠ i := fun e => by subst e; rw [hDi] at hDm; cases hDm
            have hc : clash c ops y x = true := by
              cases hcl : clash c ops y x with
              | true => rfl
              | false => exact absurd ⟨hk, h3⟩ (no_clash hcl).2.2
            have := waits_listed hD 4 m i (hd.clash i m y x (by omega) hy hx hc) (hD m hDm)
            rw [hDi] at this; cases this
          simp [h3]
      rw [this]
      exact ih
/-- One more operation is done: the environment. -/
theorem add_env (hd : DOK c ops) (hD : ∀ k, D k = true → edges ops k D) {i : Nat} {y : Oper} (hy : ops[i]? = some y) (hDi : D i = false) (e : Env) :
    ∀ m, m ≤ ops.size → envD ops vs e (fun k => if k = i then true else D k) m = if i < m then putT (envD ops vs e D m) y.dst (vs i) else envD ops vs e D m := by
  intro m
  induction m with
  | zero => intro _; rw [if_neg (by omega)]; rfl
  | succ m ih =>
    intro hm
    have ih := ih (by omega)
    obtain ⟨x, hx⟩ : ∃ x, ops[m]? = some x := ⟨_, Array.getElem?_eq_getElem (by omega : m < ops.size)⟩
    simp only [envD, ih]
    by_cases hmi : m = i
    · subst hmi
      rw [hy] at hx
      obtain rfl := Option.some.inj hx
      simp [hDi, hy]
    · rw [if_neg hmi]
      by_cases hlt : i < m
      · rw [if_pos hlt, if_pos (show i < m + 1 by omega)]
        cases hDm : D m with
        | false => simp
        | true =>
          simp only [if_true, hx, Option.bind_some]
          have hc : clash c ops y x = false := by
            cases hcl : clash c ops y x with
            | false => rfl
            | true =>
              have := waits_listed hD 4 m i (hd.clash i m y x hlt hy hx hcl) (hD m hDm)
              rw [hDi] at this; cases this
          have hne := (Oper.apart_spec (no_clash hc).1).2.1
          cases hyd : y.dst with
          | none => rfl
          | some d =>
            cases hxd : x.dst with
            | none => rfl
            | some d2 =>
              have : d ≠ d2 := fun e => hne d hyd (by rw [hxd, e])
              simp only [putT]
              exact List.set_comm _ _ this
      · rw [if_neg hlt, if_neg (show ¬ i < m + 1 by omega)]
theorem add_heap (hd : DOK c ops) (hD : ∀ k, D k = true → edges ops k D) {i : Nat} {y : Oper} (hy : ops[i]? = some y) (hDi : D i = false) (H : Heap) :
    ∀ m, m ≤ ops.size → heapD c ops Hs H (fun k => if k = i then true else D k) m = if i < m ∧ opClass c y = 3 then Hs (i + 1) else heapD c ops Hs H D m := by
  intro m
  induction m with
  | zero => intro _; rw [if_neg (by omega)]; rfl
  | succ m ih =>
    intro hm
    have ih := ih (by omega)
    obtain ⟨x, hx⟩ : ∃ x, ops[m]? = some x := ⟨_, Array.getElem?_eq_getElem (by omega : m < ops.size)⟩
    have e3 : isE3 c ops m = (opClass c x == 3) := by simp [isE3, hx]
    simp only [heapD, ih, e3]
    by_cases hmi : m = i
    · subst hmi
      rw [hy] at hx
      obtain rfl := Option.some.inj hx
      by_cases h3 : opClass c y = 3
      · simp [h3]
      · simp [h3]
    · rw [if_neg hmi]
      cases hDm : D m with
      | false =>
        simp only [Bool.false_and, Bool.false_eq_true, if_false]
        by_cases hlt : i < m
        · simp [hlt, Nat.lt_succ_of_lt hlt]
        · rw [if_neg (by omega), if_neg (by omega)]
      | true =>
        simp only [Bool.true_and]
        by_cases h3x : opClass c x = 3
        · simp only [h3x, beq_self_eq_true, if_true]
          by_cases hlt : i < m ∧ opClass c y = 3
          · exfalso
            have hc : clash c ops y x = true := by
              cases hcl : clash c ops y x with
              | true => rfl
              | false => exact absurd ⟨hlt.2, by omega⟩ (no_clash hcl).2.1
            have := waits_listed hD 4 m i (hd.clash i m y x hlt.1 hy hx hc) (hD m hDm)
            rw [hDi] at this; cases this
          · rw [if_neg]
            rintro ⟨h1, h2⟩
            exact hlt ⟨by omega, h2⟩
        · have : (opClass c x == 3) = false := by simpa using h3x
          rw [this]
          simp only [Bool.false_eq_true, if_false]
          by_cases hlt : i < m
          · simp [hlt, Nat.lt_succ_of_lt hlt]
          · rw [if_neg (by omega), if_neg (by omega)]
theorem all_env (ht : Tr c rec ν ops es Hs vs 0) (hall : ∀ k, k < ops.size → D k = true) : ∀ m, m ≤ ops.size → envD ops vs (es 0) D m = es m ∧ heapD c ops Hs (Hs 0) D m = Hs m := by
  intro m
  induction m with
  | zero => intro _; exact ⟨rfl, rfl⟩
  | succ m ih =>
    intro hm
    obtain ⟨ih1, ih2⟩ := ih (by omega)
    obtain ⟨x, hx⟩ : ∃ x, ops[m]? = some x := ⟨_, Array.getElem?_eq_getElem (by omega : m < ops.size)⟩
    have hst := ht.step m x (Nat.zero_le _) hx
    have e3 : isE3 c ops m = (opClass c x == 3) := by simp [isE3, hx]
    simp only [envD, heapD, hall m (by omega), if_true, hx, Option.bind_some, ih1, ih2, Bool.true_and, e3]
    refine ⟨hst.1.symm, ?_⟩
    by_cases h3 : opClass c x = 3
    · simp [h3]
    · have : (opClass c x == 3) = false := by simpa using h3
      rw [this]
      simp only [Bool.false_eq_true, if_false]
      rcases hst.2 with ⟨_, hop⟩ | ⟨_, _, hH⟩
      · exact (class1_heap h3 hop).symm
      · exact hH.symm
end
def cnt (D : Nat → Bool) : Nat → Nat
  | 0 => 0
  | m + 1 => cnt D m + if D m then 0 else 1
theorem cnt_zero {D : Nat → Bool} : ∀ m, cnt D m = 0 → ∀ k, k < m → D k = true := by
  intro m
  induction m with
  | zero => intro _ k hk; omega
  | succ m ih =>
    intro h k hk
    simp only [cnt] at h
    by_cases hkm : k = m
    · subst hkm
      cases hD : D k with
      | true => rfl
      | false => rw [hD] at h; simp at h
    · exact ih (by omega) k (by omega)
theorem cnt_add {D : Nat → Bool} {i : Nat} (hD : D i = false) : ∀ m, cnt (fun k => if k = i then true else D k) m + (if i < m then 1 else 0) = cnt D m := by
  intro m
  induction m with
  | zero => rfl
  | succ m ih =>
    simp only [cnt]
    by_cases hmi : m = i
    · subst hmi
      rw [if_neg (Nat.lt_irrefl m)] at ih
      simp only [if_true, hD, Bool.false_eq_true, if_false, Nat.lt_succ_self]
      omega
    · simp only [if_neg hmi]
      by_cases hlt : i < m
      · rw [if_pos hlt] at ih
        rw [if_pos (show i < m + 1 by omega)]
        omega
      · rw [if_neg hlt] at ih
        rw [if_neg (show ¬ i < m + 1 by omega)]
        omega
theorem getD_set {listed : Array Bool} {i : Nat} (hi : i < listed.size) : (fun k => (listed.setIfInBounds i true).getD k false) = fun k => if k = i then true else listed.getD k false := by
  funext k
  by_cases hk : k = i
  · subst hk; simp [hi]
  · rw [if_neg hk, getD_set_ne false (fun e => hk e.symm)]
theorem draw_sound (hc : COK B P c) : DrawSound B P c := by
  intro rec hrec ν ops id e H e1 H1 hdr hl G W a h hf hE
  have hd := drawOK_spec hdr
  obtain ⟨es, Hs, vs, ht, rfl, rfl, t3, t4⟩ := trace ops.toList 0 e H e1 H1 hl (fun j => by simp)
  simp only [Nat.zero_add, Array.length_toList] at t3 t4
  refine wp_region_any hc.mixed ?_
  have key : ∀ (fuel : Nat) (listed : Array Bool) (a' : Act) (w' : World), listed.size = ops.size → cnt (fun k => listed.getD k false) ops.size = fuel → (∀ k, listed.getD k false = true → edges ops k (fun j => listed.getD j false)) →
      (∃ G', R B G' (heapD c ops Hs (Hs 0) (fun k => listed.getD k false) ops.size) w' ∧ ER G' (envD ops vs (es 0) (fun k => listed.getD k false) ops.size) a' ∧ St ν G G' (Hs 0) (heapD c ops Hs (Hs 0) (fun k => listed.getD k false) ops.size) W w' ∧
        ∀ i, i < ops.size → listed.getD i false = false → Fresh (i :: ν) G' (heapD c ops Hs (Hs 0) (fun k => listed.getD k false) ops.size)) → a'.defers = a.defers →
      wpAny P .any ops (XPost B ν G (Hs 0) H1 W .norm e1 a.defers) fuel listed a' w' := by
    intro fuel
    induction fuel with
    | zero =>
      rintro listed a' w' hsz hcnt hD ⟨G', g1, g2, g3, g4⟩ hds
      have hall := cnt_zero ops.size hcnt
      obtain ⟨f1, f2⟩ := all_env (c := c) (D := fun k => listed.getD k false) ht hall ops.size (Nat.le_refl _)
      rw [f1] at g2
      rw [f2] at g1 g3
      refine ⟨?_, rfl, hds, G', by rw [← t4]; exact g1, by rw [← t3]; exact g2, by rw [← t4]; exact g3⟩
      cases hr : Region.ready .any ops listed with
      | nil => rfl
      | cons i r =>
        have hi : i ∈ Region.ready .any ops listed := by rw [hr]; exact List.mem_cons_self
        rw [mem_ready] at hi
        obtain ⟨hi1, o, ho, _⟩ := hi
        have hlt : i < ops.size := (Array.getElem?_eq_some_iff.1 ho).1
        have := hall i hlt
        simp only [Array.getD_eq_getD_getElem?] at this hi1
        rw [Array.getElem?_eq_getElem (by omega : i < listed.size)] at this hi1
        simp only [Option.getD_some] at this hi1
        rw [this] at hi1; cases hi1
    | succ fuel ih =>
      rintro listed a' w' hsz hcnt hD ⟨G', g1, g2, g3, g4⟩ hds
      have same : ∀ i, i < ops.size → listed.getD i true = listed.getD i false := by
        intro i hi
        simp only [Array.getD_eq_getD_getElem?]
        rw [Array.getElem?_eq_getElem (by omega : i < listed.size)]
        rfl
      constructor
      · intro hr
        exfalso
        have least : ∀ k, k ≤ ops.size → (∀ i, i < k → listed.getD i false = true) := by
          intro k
          induction k with
          | zero => intro _ i hi; omega
          | succ k ihk =>
            intro hk i hi
            have ihk := ihk (by omega)
            by_cases hik : i = k
            · subst hik
              cases hDi : listed.getD i false with
              | true => rfl
              | false =>
                obtain ⟨x, hx⟩ : ∃ x, ops[i]? = some x := ⟨_, Array.getElem?_eq_getElem (by omega : i < ops.size)⟩
                have hmem : i ∈ Region.ready .any ops listed := by
                  rw [mem_ready]
                  exact ⟨by rw [same i (by omega)]; exact hDi, x, hx, fun e he hb => ihk e.on (hd.back i x hx e he hb)⟩
                rw [hr] at hmem; cases hmem
            · exact ihk i (by omega)
        have hall := least ops.size (Nat.le_refl _)
        have : ∀ m, m ≤ ops.size → cnt (fun k => listed.getD k false) m = 0 := by
          intro m
          induction m with
          | zero => intro _; rfl
          | succ m ihm => intro hm; simp only [cnt, ihm (by omega), hall m (by omega), if_true]
        rw [this ops.size (Nat.le_refl _)] at hcnt
        omega
      · intro i hi
        have hi' := hi
        rw [mem_ready] at hi'
        obtain ⟨hi1, y, hy, hedge⟩ := hi'
        have hlt : i < ops.size := (Array.getElem?_eq_some_iff.1 hy).1
        have hDi : listed.getD i false = false := by rw [← same i hlt]; exact hi1
        have hedges : edges ops i (fun j => listed.getD j false) := fun o ho e he hb => by
          rw [hy] at ho
          obtain rfl := Option.some.inj ho
          exact hedge e he hb
        have hgs := getD_set (listed := listed) (i := i) (by omega)
        have hD' : ∀ k, (listed.setIfInBounds i true).getD k false = true → edges ops k (fun j => (listed.setIfInBounds i true).getD j false) := by
          intro k hk
          rw [hgs]
          have hk' : (if k = i then true else listed.getD k false) = true := (congrFun hgs k).symm.trans hk
          have base : edges ops k (fun j => listed.getD j false) := by
            by_cases hki : k = i
            · subst hki; exact hedges
            · rw [if_neg hki] at hk'; exact hD k hk'
          intro o ho e he hb
          have := base o ho e he hb
          show (if e.on = i then true else listed.getD e.on false) = true
          split
          · rfl
          · exact this
        have hcnt' : cnt (fun k => (listed.setIfInBounds i true).getD k false) ops.size = fuel := by
          rw [hgs]
          have := cnt_add (D := fun k => listed.getD k false) hDi ops.size
          rw [if_pos hlt, hcnt] at this
          omega
        have hst := ht.step i y (Nat.zero_le _) hy
        have henv := fun t ht' => look_env ht hd hD hy hDi hedges (t := t) ht' ops.size (Nat.le_refl _)
        rw [Nat.min_eq_right (by omega : i ≤ ops.size)] at henv
        have hadd := add_env (vs := vs) hd hD hy hDi (es 0) ops.size (Nat.le_refl _)
        rw [if_pos hlt] at hadd
        have haddh := add_heap (Hs := Hs) hd hD hy hDi (Hs 0) ops.size (Nat.le_refl _)
        -- what the operation looks at
        have hops : Evs G' (es i) a' y.op.operands := by
          intro x hx u hu
          cases x with
          | tmp t =>
            have hlook : t ∈ y.looksAt ops := by
              unfold Oper.looksAt
              refine List.mem_append_left _ (List.mem_filterMap.2 ⟨.tmp t, by simpa using hx, rfl⟩)
            simp only [ev] at hu
            obtain rfl := Option.some.inj hu
            have := ER.get g2 t
            rw [List.getD_eq_getElem?_getD, henv t hlook, ← List.getD_eq_getElem?_getD] at this
            exact this
          | const v => exact constAny_sound hu
          | global g => cases hu
          | func f => simp only [ev] at hu; obtain rfl := Option.some.inj hu; exact .fn rfl (fun i x v hx => by simp at hx)
        have hwant : Region.wanted y (yielded ops a'.tmps) = Region.wanted y (ayielded ops (es i)) := by
          unfold Region.wanted
          cases hg : y.guard with
          | none => rfl
          | some gd =>
            obtain ⟨j, want⟩ := gd
            simp only
            have : yielded ops a'.tmps j = ayielded ops (es i) j := by
              rw [yielded_eq g2]
              unfold ayielded
              cases hdj : (ops[j]?).bind (·.dst) with
              | none => rfl
              | some d =>
                have hlook : d ∈ y.looksAt ops := by
                  unfold Oper.looksAt
                  refine List.mem_append_right _ ?_
                  rw [hg]
                  simp only [hdj, Option.toList, List.mem_singleton]
                simp only [Option.bind_some, henv d hlook]
            rw [this]
        have next : ∀ (v : AVal) (v' : Value) (w2 : World) (G2 : Gh) (H2 : Heap), vs i = v → heapD c ops Hs (Hs 0) (fun k => if k = i then true else listed.getD k false) ops.size = H2 → VR G2 v v' → R B G2 H2 w2 → St (i :: ν) G' G2 (heapD c ops Hs (Hs 0) (fun k => listed.getD k false) ops.size) H2 w' w2 →
            wpAny P .any ops (XPost B ν G (Hs 0) H1 W .norm e1 a.defers) fuel (listed.setIfInBounds i true) (a'.put y.dst v') w2 := by
          intro v v' w2 G2 H2 hv hH hvr hr2 hs2
          refine ih _ _ w2 (by simpa using hsz) hcnt' hD' ?_ ((put_defers _ _ _).trans hds)
          rw [hgs, hH, hadd, hv]
          refine ⟨G2, hr2, (g2.mono hs2.le).put y.dst hvr, g3.trans hs2.up, fun j hj hDj => ?_⟩
          have hDj' : (if j = i then true else listed.getD j false) = false := (congrFun hgs j).symm.trans hDj
          have hji : j ≠ i := fun e => by rw [if_pos e] at hDj'; cases hDj'
          rw [if_neg hji] at hDj'
          intro q hq
          obtain ⟨q1, q2⟩ := g4 j hj hDj' q hq
          have hu := under_apart hji hq
          exact ⟨(hs2.mu' q hu).trans q1, hs2.hp q hu q2⟩
        unfold wpOp
        rw [hy]
        simp only
        rw [hwant]
        rcases hst.2 with ⟨hw, hop⟩ | ⟨hw, hv, hHs⟩
        · rw [if_pos hw]
          refine .inl ?_
          by_cases h0 : opClass c y = 0
          · have hop2 := (class0_heap h0 hop).2 (heapD c ops Hs (Hs 0) (fun k => listed.getD k false) ops.size)
            refine oper_sound hc hrec hop2 hops g1 (g4 i hlt hDi) ?_
            intro v' w2 G2 k1 k2 k3
            refine next _ v' w2 G2 _ rfl ?_ k1 k2 k3
            rw [haddh, if_neg (by omega)]
          · have hheap := look_heap ht hd hD hy hDi hedges (by omega : 1 ≤ opClass c y) ops.size (Nat.le_refl _)
            rw [Nat.min_eq_right (by omega : i ≤ ops.size)] at hheap
            rw [← hheap] at hop
            refine oper_sound hc hrec hop hops g1 (g4 i hlt hDi) ?_
            intro v' w2 G2 k1 k2 k3
            refine next _ v' w2 G2 _ rfl ?_ k1 k2 k3
            rw [haddh]
            by_cases h3 : opClass c y = 3
            · rw [if_pos ⟨hlt, h3⟩]
            · rw [if_neg (fun e => h3 e.2)]
              exact (class1_heap h3 hop).symm
        · rw [if_neg (by rw [hw]; simp)]
          refine next .undef undef w' G' _ hv ?_ undef_VR g1 (St.refl _ _ _ _)
          rw [haddh]
          by_cases h3 : opClass c y = 3
          · have hheap := look_heap ht hd hD hy hDi hedges (by omega : 1 ≤ opClass c y) ops.size (Nat.le_refl _)
            rw [Nat.min_eq_right (by omega : i ≤ ops.size)] at hheap
            rw [if_pos ⟨hlt, h3⟩, hHs, hheap]
          · rw [if_neg (fun e => h3 e.2)]
  have hrep : (fun k => (Array.replicate ops.size false).getD k false) = fun _ => false := by
    funext k
    simp only [Array.getD_eq_getD_getElem?, Array.getElem?_replicate]
    split <;> rfl
  have hno : ∀ m, envD ops vs (es 0) (fun _ => false) m = es 0 ∧ heapD c ops Hs (Hs 0) (fun _ => false) m = Hs 0 := by
    intro m
    induction m with
    | zero => exact ⟨rfl, rfl⟩
    | succ m ih => simpa [envD, heapD] using ih
  have hcn : ∀ m, cnt (fun _ => false) m = m := by
    intro m
    induction m with
    | zero => rfl
    | succ m ih => simp [cnt, ih]
  refine key ops.size (Array.replicate ops.size false) a _ (by simp) (by rw [hrep, hcn]) (fun k hk => by have h2 : false = true := (congrFun hrep k).symm.trans hk; cases h2) ?_ rfl
  rw [hrep, (hno _).1, (hno _).2]
  exact ⟨G, h.drew, hE, ⟨Gle.refl G, fun _ _ => rfl, fun _ _ _ e => .inl e, fun _ _ e => e, Nat.le_refl _, fun _ _ _ => rfl, fun b e => .inr e, ⟨rfl, rfl, rfl⟩⟩, fun i hi _ => hf.down i⟩
/-- What the simple machine answers to a call, the model answers. -/
theorem sound (hc : COK B P c) {k : Nat} {f : FuncId} {args : List AVal} {args' : Array Value} {v : AVal} (hl : acall c (aexec c k) ν f args H = some (v, H1)) (h : R B G H W) (hf : Fresh ν G H) (ha : L2 (VR G) args args'.toList) :
    Calls P f args' W (CPost B ν G H H1 W v) := (acall_sound hc (exec_sound hc (draw_sound hc) k).1 hl h hf ha).2
end Go.Proofs.Ytofeelhaifeenaa.X
