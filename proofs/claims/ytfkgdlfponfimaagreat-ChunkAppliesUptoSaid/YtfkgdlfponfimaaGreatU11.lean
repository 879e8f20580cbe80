import Derived.Test.YtfkgdlfponfimaaGreatU10
/- Every operation that is no call. -/
namespace Go.Proofs.YtfkgdlfponfimaaGreat.X
open Go Go.RowKit
variable {B : BT} {P : Program} {ν : Nm} {G G' : Gh} {H H1 : Heap} {W W' : World}
theorem const_sound {c : Value} {u : AVal} (h : constVal c = some u) : VR G u c := by
  unfold constVal at h
  split at h <;> first | (cases h; done) | (obtain rfl := Option.some.inj h; constructor)
theorem constVal_one {c : Value} {u : AVal} (h : constVal c = some u) : u.one = true := by
  unfold constVal at h
  split at h <;> first | (cases h; done) | (obtain rfl := Option.some.inj h; rfl)
theorem constAny_sound {c : Value} {u : AVal} (h : constAny c = some u) : VR G u c := by
  unfold constAny at h
  split at h
  · rename_i cs
    cases hm : cs.toList.mapM constVal with
    | none => rw [hm] at h; cases h
    | some us =>
      rw [hm] at h
      obtain rfl := Option.some.inj h
      have key : ∀ (l : List Value) (us : List AVal), l.mapM constVal = some us → L2 (VR G) us l ∧ ∀ u ∈ us, u.one = true := by
        intro l
        induction l with
        | nil => intro us h; simp at h; subst h; exact ⟨L2.nil, fun u hu => by simp at hu⟩
        | cons x l ih =>
          intro us h
          simp only [List.mapM_cons] at h
          cases hx : constVal x with
          | none => rw [hx] at h; cases h
          | some y =>
            rw [hx] at h
            cases hl : l.mapM constVal with
            | none => rw [hl] at h; cases h
            | some ys =>
              rw [hl] at h
              obtain rfl := Option.some.inj h
              obtain ⟨h1, h2⟩ := ih ys hl
              exact ⟨L2.cons (const_sound hx) h1, fun u hu => (List.mem_cons.1 hu).elim (fun e => e ▸ constVal_one hx) (h2 u)⟩
      obtain ⟨h1, h2⟩ := key _ _ hm
      exact VR.mkAgg h1 h2
  · rename_i vs
    split at h
    · rename_i h0
      obtain rfl := Option.some.inj h
      have : vs = #[] := by simpa using h0
      subst this
      exact VR.mkTup L2.nil
    · cases h
  · exact const_sound h
def Evs (G : Gh) (e : Env) (a : Act) (xs : Array Operand) : Prop := ∀ x ∈ xs, ∀ u, ev e x = some u → VR G u (a.eval x)
theorem evs_sound {e : Env} {a : Act} : ∀ (xs : List Operand) (us : List AVal), evs e xs = some us → (∀ x ∈ xs, ∀ u, ev e x = some u → VR G u (a.eval x)) → L2 (VR G) us (xs.map a.eval) := by
  intro xs
  induction xs with
  | nil => intro us h _; simp only [evs] at h; obtain rfl := Option.some.inj h; exact L2.nil
  | cons x xs ih =>
    intro us h hx
    simp only [evs] at h
    cases hv : ev e x with
    | none => rw [hv] at h; cases h
    | some v =>
      rw [hv] at h
      simp only at h
      cases hr : evs e xs with
      | none => rw [hr] at h; cases h
      | some vs =>
        rw [hr] at h
        obtain rfl := Option.some.inj h
        exact L2.cons (hx x List.mem_cons_self v hv) (ih vs hr fun y hy => hx y (List.mem_cons_of_mem _ hy))
theorem evParts_sound {e : Env} {a : Act} : ∀ (xs : List (Nat × Operand)) (us : List (Nat × AVal)), evParts e xs = some us → (∀ x ∈ xs, ∀ u, ev e x.2 = some u → VR G u (a.eval x.2)) → PR G us (xs.map fun (i, x) => (i, a.eval x)) := by
  intro xs
  induction xs with
  | nil => intro us h _; simp only [evParts] at h; obtain rfl := Option.some.inj h; exact L2.nil
  | cons x xs ih =>
    obtain ⟨i, x⟩ := x
    intro us h hx
    simp only [evParts] at h
    cases hv : ev e x with
    | none => rw [hv] at h; cases h
    | some v =>
      rw [hv] at h
      simp only at h
      cases hr : evParts e xs with
      | none => rw [hr] at h; cases h
      | some vs =>
        rw [hr] at h
        simp only at h
        split at h
        · rename_i ht
          obtain rfl := Option.some.inj h
          exact L2.cons ⟨rfl, hx (i, x) List.mem_cons_self v hv, notTup ht⟩ (ih vs hr fun y hy => hx y (List.mem_cons_of_mem _ hy))
        · cases h
theorem minmax_sound {isMax : Bool} : ∀ (ys : List AVal) (x v : AVal) (ys' : List Value) (x' : Value), aMinMaxAll isMax x ys = some v → VR G x x' → L2 (VR G) ys ys' →
    ∃ v', (ys'.foldlM (if isMax then Builtin.max2 else Builtin.min2) x').run P W = .ok v' W ∧ VR G v v' := by
  intro ys
  induction ys with
  | nil =>
    intro x v ys' x' h hx hy
    have : ys' = [] := List.eq_nil_of_length_eq_zero (by simpa using hy.1.symm)
    subst this
    simp only [aMinMaxAll] at h
    obtain rfl := Option.some.inj h
    exact ⟨x', rfl, hx⟩
  | cons y ys ih =>
    intro x v ys' x' h hx hy
    obtain ⟨y', ys'', rfl⟩ : ∃ p' ps'', ys' = p' :: ps'' := by
      cases ys' with
      | nil => exact absurd hy.1 (by simp)
      | cons a b => exact ⟨a, b, rfl⟩
    have hyy := hy.2 0 y y' rfl rfl
    have htl : L2 (VR G) ys ys'' := ⟨by simpa using hy.1, fun j a b ha hb => hy.2 (j + 1) a b (by simpa using ha) (by simpa using hb)⟩
    simp only [aMinMaxAll] at h
    cases hm : aMinMax isMax x y with
    | none => rw [hm] at h; cases h
    | some z =>
      rw [hm] at h
      simp only at h
      cases hx with
      | int k a => cases hyy with
        | int k' b =>
          simp only [aMinMax] at hm
          obtain rfl := Option.some.inj hm
          obtain ⟨v', g1, g2⟩ := ih _ v ys'' _ h (.int k _) htl
          refine ⟨v', ?_, g2⟩
          simp only [List.foldlM_cons, Sem.run_bind]
          cases isMax <;> simp only [Bool.false_eq_true, if_false, if_true, Builtin.max2, Builtin.min2, Sem.run_pure, Result.andThen_ok] <;> simpa using g1
        | _ => cases hm
      | _ => cases hm
def Ans (P : Program) (o : Oper) (a : Act) (W : World) (v' : Value) (W' : World) : Prop :=
  (execOp a.eval o).run P W = .ok (.value v') W' ∨ ((execOp a.eval o).run P W = .ok .skip W' ∧ v' = undef)
def Good (B : BT) (P : Program) (ν : Nm) (G : Gh) (H H1 : Heap) (W : World) (o : Oper) (a : Act) (v : AVal) : Prop :=
  ∃ v' W' G', Ans P o a W v' W' ∧ VR G' v v' ∧ R B G' H1 W' ∧ St ν G G' H H1 W W'
theorem Good.pure {o : Oper} {a : Act} {v : AVal} {v' : Value} (h : R B G H W) (hr : (execOp a.eval o).run P W = .ok (.value v') W) (hv : VR G v v') : Good B P ν G H H W o a v := ⟨v', W, G, .inl hr, hv, h, St.refl _ _ _ _⟩
theorem undef_VR : VR G .undef undef := VR.mkTup L2.nil
end Go.Proofs.YtfkgdlfponfimaaGreat.X
