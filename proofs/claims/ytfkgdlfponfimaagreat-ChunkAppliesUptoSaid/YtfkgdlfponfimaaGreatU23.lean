import Derived.Test.YtfkgdlfponfimaaGreatU1
/- Rules for what the simple machine answers: one operation, one piece of code, one call at a time. -/
namespace Go.Proofs.YtfkgdlfponfimaaGreat.X
open Go
variable {c : Cfg} {ν : Nm} {e : Env} {H : Heap}
def RLe (r s : RecA) : Prop := ∀ ν code e H x, r ν code e H = some x → s ν code e H = some x
theorem runF_mono {r s : RecA} (h : RLe r s) {fi : FI} {args : List AVal} {x : AVal × Heap} (hx : runF c.T r fi ν args H = some x) : runF c.T s fi ν args H = some x := by
  unfold runF at *
  cases hr : r ν fi.body (args ++ List.replicate (fi.ntmps - args.length) .undef) H with
  | none => rw [hr] at hx; cases hx
  | some y => rw [hr] at hx; rw [h _ _ _ _ _ hr]; exact hx
theorem acall_mono {r s : RecA} (h : RLe r s) {f : FuncId} {args : List AVal} {x : AVal × Heap} (hx : acall c r ν f args H = some x) : acall c s ν f args H = some x := by
  unfold acall at *
  cases hg : c.given f with
  | some g => rw [hg] at hx; exact hx
  | none =>
    rw [hg] at hx
    simp only at hx ⊢
    cases hf : c.fn f with
    | none => rw [hf] at hx; cases hx
    | some fi =>
      rw [hf] at hx
      simp only at hx ⊢
      cases hm : fi.mode <;> rw [hm] at hx <;> simp only at hx ⊢
      · cases hr : runF c.T r fi ν args (fun _ => none) with
        | none => rw [hr] at hx; cases hx
        | some y => rw [hr] at hx; rw [runF_mono h hr]; exact hx
      · cases hr : runF c.T r fi ν (args.map (freeze [] H 8)) (fun _ => none) with
        | none => rw [hr] at hx; cases hx
        | some y => rw [hr] at hx; rw [runF_mono h hr]; exact hx
      · cases hr : runF c.T r fi ν args H with
        | none => rw [hr] at hx; cases hx
        | some y => rw [hr] at hx; rw [runF_mono h hr]; exact hx
      · exact runF_mono h hx
      · split at hx
        · rename_i hn
          rw [if_pos hn]
          cases h1 : runF c.T r fi ν [.nls] (fun _ => none) with
          | none => rw [h1] at hx; cases hx
          | some y =>
            cases h2 : runF c.T r fi ν [.nne] (fun _ => none) with
            | none => rw [h1, h2] at hx; cases hx
            | some z => rw [h1, h2] at hx; rw [runF_mono h h1, runF_mono h h2]; exact hx
        · rename_i hn
          rw [if_neg hn]
          exact runF_mono h hx
      · cases hr : runF c.T r fi ν (args.map (lookA H)) (fun _ => none) with
        | none => rw [hr] at hx; cases hx
        | some y => rw [hr] at hx; rw [runF_mono h hr]; exact hx
      · cases hr : runF c.T r fi ν args H with
        | none => rw [hr] at hx; cases hx
        | some y => rw [hr] at hx; rw [runF_mono h hr]; exact hx
      · exact runF_mono h hx
      · cases hr : runF c.T r fi ν (args.map (freeze [] H 8)) (lose (reach [] H 9 (.tup args)) H) with
        | none => rw [hr] at hx; cases hx
        | some y => rw [hr] at hx; rw [runF_mono h hr]; exact hx
theorem aoper_mono {r s : RecA} (h : RLe r s) {o : Oper} {x : AVal × Heap} (hx : aoper c r ν e H o = some x) : aoper c s ν e H o = some x := by
  unfold aoper at *
  split at hx
  · rename_i hc
    rw [if_pos hc]
    cases hco : callOf c e H o with
    | none => rw [hco] at hx; cases hx
    | some fa => obtain ⟨f, args⟩ := fa; rw [hco] at hx; exact acall_mono h hx
  · rename_i hc
    rw [if_neg hc]; exact hx
theorem aops_mono {r s : RecA} (h : RLe r s) {all : Array Oper} : ∀ (l : List Oper) (i : Nat) (e : Env) (H : Heap) (x : Env × Heap), aops c r ν all l i e H = some x → aops c s ν all l i e H = some x
  | [], _, _, _, _, hx => hx
  | o :: l, i, e, H, x, hx => by
    simp only [aops] at *
    split at hx
    · rename_i hw
      rw [if_pos hw]
      cases ho : aoper c r (i :: ν) e H o with
      | none => rw [ho] at hx; cases hx
      | some y => rw [ho] at hx; rw [aoper_mono h ho]; exact aops_mono h l _ _ _ x hx
    · rename_i hw
      rw [if_neg hw]
      exact aops_mono h l _ _ _ x hx
theorem aoperF_mono {r s : RecA} (h : RLe r s) {all : Array Oper} {rs : List Tmp} {HK : Heap} {o : Oper} {x : AVal × Heap} (hx : aoperF c r all rs HK ν e H o = some x) : aoperF c s all rs HK ν e H o = some x := by
  unfold aoperF at *
  split at hx
  · rename_i hc; rw [if_pos hc]; exact hx
  · rename_i hc; rw [if_neg hc]; exact aoper_mono h hx
theorem aopsF_mono {r s : RecA} (h : RLe r s) {all : Array Oper} {rs : List Tmp} {HK : Heap} : ∀ (l : List Oper) (i : Nat) (e : Env) (H : Heap) (x : Env × Heap), aopsF c r ν all rs HK l i e H = some x → aopsF c s ν all rs HK l i e H = some x
  | [], _, _, _, _, hx => hx
  | o :: l, i, e, H, x, hx => by
    simp only [aopsF] at *
    split at hx
    · rename_i hw
      rw [if_pos hw]
      cases ho : aoperF c r all rs HK (i :: ν) e H o with
      | none => rw [ho] at hx; cases hx
      | some y => rw [ho] at hx; rw [aoperF_mono h ho]; exact aopsF_mono h l _ _ _ x hx
    · rename_i hw
      rw [if_neg hw]
      exact aopsF_mono h l _ _ _ x hx
theorem aregion_mono {r s : RecA} (h : RLe r s) {id : Nat} {ops : Array Oper} {d : Bool} {x : Env × Heap} (hx : aregion c r ν id ops d e H = some x) : aregion c s ν id ops d e H = some x := by
  unfold aregion at *
  split at hx
  · exact aops_mono h _ _ _ _ _ hx
  · rename_i a b _
    cases ho : aopsF c r ν ops (a :: b) (onlyL (asideN H e (a :: b)) H) ops.toList 0 e (hideL (asideN H e (a :: b)) H) with
    | none => rw [ho] at hx; cases hx
    | some y => rw [ho] at hx; rw [aopsF_mono h _ _ _ _ _ ho]; exact hx
theorem aexec_succ : ∀ k, RLe (aexec c k) (aexec c (k + 1))
  | 0 => fun ν code e H x h => by simp [aexec] at h
  | k + 1 => fun ν code e H x h => by
    have ih := aexec_succ k
    have loop : ∀ a, (match aexec c k (0 :: ν) a e H with
      | some (.norm, e1, H1) => aexec c k (1 :: ν) (.loop a) e1 H1
      | r => r) = some x → (match aexec c (k + 1) (0 :: ν) a e H with
      | some (.norm, e1, H1) => aexec c (k + 1) (1 :: ν) (.loop a) e1 H1
      | r => r) = some x := by
      intro a h
      cases hr : aexec c k (0 :: ν) a e H with
      | none => rw [hr] at h; cases h
      | some y =>
        obtain ⟨o, e1, H1⟩ := y
        rw [hr] at h
        rw [ih _ _ _ _ _ hr]
        cases o with
        | norm => exact ih _ _ _ _ _ h
        | exit id => exact h
        | ret => exact h
    cases code <;> (try (simp only [aexec] at h; cases h; done))
    case skip => exact h
    case exit => exact h
    case ret => exact h
    case region id ops d =>
      unfold aexec at h ⊢
      simp only at h ⊢
      cases hr : aregion c (aexec c k) ν id ops d e H with
      | none => rw [hr] at h; cases h
      | some y => rw [hr] at h; rw [aregion_mono ih hr]; exact h
    case seq a b =>
      unfold aexec at h ⊢
      simp only at h ⊢
      cases hr : aexec c k (0 :: ν) a e H with
      | none => rw [hr] at h; cases h
      | some y =>
        obtain ⟨o, e1, H1⟩ := y
        rw [hr] at h
        rw [ih _ _ _ _ _ hr]
        cases o with
        | norm => exact ih _ _ _ _ _ h
        | exit id => exact h
        | ret => exact h
    case cond x' a b =>
      unfold aexec at h ⊢
      simp only at h ⊢
      split at h
      · rename_i hv; exact ih _ _ _ _ _ h
      · rename_i hv; exact ih _ _ _ _ _ h
      · cases h
    case block id a =>
      unfold aexec at h ⊢
      simp only at h ⊢
      cases hr : aexec c k ν a e H with
      | none => rw [hr] at h; cases h
      | some y => rw [hr] at h; rw [ih _ _ _ _ _ hr]; exact h
    case loop a =>
      unfold aexec at h ⊢
      exact loop a h
theorem RLe.refl (r : RecA) : RLe r r := fun _ _ _ _ _ h => h
theorem aexec_le {k m : Nat} (h : k ≤ m) : RLe (aexec c k) (aexec c m) := by
  induction m with
  | zero => obtain rfl : k = 0 := by omega
            exact RLe.refl _
  | succ m ih =>
    by_cases e : k = m + 1
    · subst e; exact RLe.refl _
    · exact fun ν code e H x hx => aexec_succ m _ _ _ _ _ (ih (by omega) _ _ _ _ _ hx)
def CW (c : Cfg) (ν : Nm) (f : FuncId) (args : List AVal) (H : Heap) (Q : AVal → Heap → Prop) : Prop := ∃ k v H1, acall c (aexec c k) ν f args H = some (v, H1) ∧ Q v H1
def XW (c : Cfg) (ν : Nm) (code : Code) (e : Env) (H : Heap) (Q : AOut → Env → Heap → Prop) : Prop := ∃ k o e1 H1, aexec c k ν code e H = some (o, e1, H1) ∧ Q o e1 H1
def OW (c : Cfg) (ν : Nm) (all : Array Oper) (l : List Oper) (i : Nat) (e : Env) (H : Heap) (Q : Env → Heap → Prop) : Prop := ∃ k e1 H1, aops c (aexec c k) ν all l i e H = some (e1, H1) ∧ Q e1 H1
theorem CW.mono {f : FuncId} {args : List AVal} {Q Q' : AVal → Heap → Prop} (h : CW c ν f args H Q) (hq : ∀ v H1, Q v H1 → Q' v H1) : CW c ν f args H Q' :=
  let ⟨k, v, H1, h1, h2⟩ := h; ⟨k, v, H1, h1, hq _ _ h2⟩
theorem XW.mono {code : Code} {Q Q' : AOut → Env → Heap → Prop} (h : XW c ν code e H Q) (hq : ∀ o e1 H1, Q o e1 H1 → Q' o e1 H1) : XW c ν code e H Q' :=
  let ⟨k, o, e1, H1, h1, h2⟩ := h; ⟨k, o, e1, H1, h1, hq _ _ _ h2⟩
def thenW (c : Cfg) (ν : Nm) (b : Code) (Q : AOut → Env → Heap → Prop) : AOut → Env → Heap → Prop
  | .norm, e1, H1 => XW c ν b e1 H1 Q
  | o, e1, H1 => Q o e1 H1
def blockW (id : Nat) (Q : AOut → Env → Heap → Prop) : AOut → Env → Heap → Prop
  | .exit j, e1, H1 => if j = id then Q .norm e1 H1 else Q (.exit j) e1 H1
  | o, e1, H1 => Q o e1 H1
section
variable {Q : AOut → Env → Heap → Prop}
theorem At (h : Q .norm e H) : XW c ν .skip e H Q := ⟨1, _, _, _, rfl, h⟩
theorem AY {id : Nat} (h : Q (.exit id) e H) : XW c ν (.exit id) e H Q := ⟨1, _, _, _, rfl, h⟩
theorem Ap (h : Q .ret e H) : XW c ν .ret e H Q := ⟨1, _, _, _, rfl, h⟩
theorem AC {id : Nat} {ops : Array Oper} {d : Bool} (h : OW c ν ops ops.toList 0 e H (Q .norm)) (hr : (if d = true then c.roots id ops else []) = [] := by rfl) : XW c ν (.region id ops d) e H Q := by
  obtain ⟨k, e1, H1, h1, h2⟩ := h
  exact ⟨k + 1, _, e1, H1, by simp only [aexec, aregion, hr, h1], h2⟩
def OWF (c : Cfg) (ν : Nm) (all : Array Oper) (rs : List Tmp) (HK : Heap) (l : List Oper) (i : Nat) (e : Env) (H : Heap) (Q : Env → Heap → Prop) : Prop := ∃ k e1 H1, aopsF c (aexec c k) ν all rs HK l i e H = some (e1, H1) ∧ Q e1 H1
theorem XW_regionF {id : Nat} {ops : Array Oper} {d : Bool} {r : Tmp} {rs : List Tmp} {qs : List Nm} (hr : (if d = true then c.roots id ops else []) = r :: rs) (hq : asideN H e (r :: rs) = qs)
    (h : OWF c ν ops (r :: rs) (onlyL qs H) ops.toList 0 e (hideL qs H) (fun e1 H1 => Q .norm e1 (backL qs H H1))) : XW c ν (.region id ops d) e H Q := by
  obtain ⟨k, e1, H1, h1, h2⟩ := h
  subst hq
  exact ⟨k + 1, _, e1, _, by simp only [aexec, aregion, hr, h1], h2⟩
theorem seq_any {a b : Code} {k m : Nat} {o o2 : AOut} {e1 e2 : Env} {H1 H2 : Heap} (h1 : aexec c k (0 :: ν) a e H = some (.norm, e1, H1)) (h2 : aexec c m (1 :: ν) b e1 H1 = some (o2, e2, H2)) : aexec c (k + m + 1) ν (.seq a b) e H = some (o2, e2, H2) := by
  simp only [aexec, aexec_le (show k ≤ k + m by omega) _ _ _ _ _ h1]
  exact aexec_le (show m ≤ k + m by omega) _ _ _ _ _ h2
theorem Aq {a b : Code} (h : XW c (0 :: ν) a e H (thenW c (1 :: ν) b Q)) : XW c ν (.seq a b) e H Q := by
  obtain ⟨k, o, e1, H1, h1, h2⟩ := h
  cases o with
  | norm =>
    obtain ⟨m, o2, e2, H2, h3, h4⟩ := h2
    exact ⟨k + m + 1, o2, e2, H2, seq_any (o := .norm) h1 h3, h4⟩
  | exit id => exact ⟨k + 1, _, e1, H1, by simp only [aexec, h1], h2⟩
  | ret => exact ⟨k + 1, _, e1, H1, by simp only [aexec, h1], h2⟩
theorem XW_cond {x : Operand} {a b : Code} {t : Bool} (hx : ev e x = some (.bool t)) (h : XW c ν (if t then a else b) e H Q) : XW c ν (.cond x a b) e H Q := by
  obtain ⟨k, o, e1, H1, h1, h2⟩ := h
  cases t
  · exact ⟨k + 1, o, e1, H1, by simp only [aexec, hx]; exact h1, h2⟩
  · exact ⟨k + 1, o, e1, H1, by simp only [aexec, hx]; exact h1, h2⟩
theorem AD {id : Nat} {a : Code} (h : XW c ν a e H (blockW id Q)) : XW c ν (.block id a) e H Q := by
  obtain ⟨k, o, e1, H1, h1, h2⟩ := h
  cases o with
  | norm => exact ⟨k + 1, _, e1, H1, by simp only [aexec, h1], h2⟩
  | ret => exact ⟨k + 1, _, e1, H1, by simp only [aexec, h1], h2⟩
  | exit j =>
    by_cases hj : j = id
    · subst hj
      have h2 : Q .norm e1 H1 := by simpa [blockW] using h2
      exact ⟨k + 1, _, e1, H1, by simp only [aexec, h1, if_true], h2⟩
    · have h2 : Q (.exit j) e1 H1 := by simpa [blockW, hj] using h2
      exact ⟨k + 1, _, e1, H1, by simp only [aexec, h1, if_neg hj], h2⟩
theorem XW_loop {a : Code} (h : XW c (0 :: ν) a e H (thenW c (1 :: ν) (.loop a) Q)) : XW c ν (.loop a) e H Q := by
  obtain ⟨k, o, e1, H1, h1, h2⟩ := h
  cases o with
  | norm =>
    obtain ⟨m, o2, e2, H2, h3, h4⟩ := h2
    refine ⟨k + m + 1, o2, e2, H2, ?_, h4⟩
    simp only [aexec, aexec_le (show k ≤ k + m by omega) _ _ _ _ _ h1]
    exact aexec_le (show m ≤ k + m by omega) _ _ _ _ _ h3
  | exit id => exact ⟨k + 1, _, e1, H1, by simp only [aexec, h1], h2⟩
  | ret => exact ⟨k + 1, _, e1, H1, by simp only [aexec, h1], h2⟩
theorem AV {a : Code} (I : Nm → Nat → Env → Heap → Prop) (h : ∀ ν n e H, I ν n e H → XW c (0 :: ν) a e H (fun o e1 H1 => match o with
    | .norm => ∃ m, m < n ∧ I (1 :: ν) m e1 H1
    | o => Q o e1 H1)) : ∀ n ν e H, I ν n e H → XW c ν (.loop a) e H Q := by
  intro n
  induction n using Nat.strongRecOn with
  | _ n ih =>
    intro ν e H hI
    refine XW_loop ((h ν n e H hI).mono ?_)
    intro o e1 H1 hq
    cases o with
    | norm => obtain ⟨m, hm, hI'⟩ := hq; exact ih m hm _ _ _ hI'
    | exit id => exact hq
    | ret => exact hq
end
section
variable {all : Array Oper} {i : Nat} {o : Oper} {r : List Oper} {Q : Env → Heap → Prop}
theorem AL (h : Q e H) : OW c ν all [] i e H Q := ⟨0, e, H, rfl, h⟩
theorem BH {v : AVal} {H1 : Heap} (hw : Region.wanted o (ayielded all e) = true) (hc : isCall o.op = false) (ho : aop c (i :: ν) e H o = some (v, H1)) (h : OW c ν all r (i + 1) (putT e o.dst v) H1 Q) : OW c ν all (o :: r) i e H Q := by
  obtain ⟨k, e2, H2, h1, h2⟩ := h
  refine ⟨k, e2, H2, ?_, h2⟩
  simp only [aops, hw, if_true, aoper, hc, Bool.false_eq_true, if_false, ho]
  exact h1
theorem OW_skip (hw : Region.wanted o (ayielded all e) = false) (h : OW c ν all r (i + 1) (putT e o.dst .undef) H Q) : OW c ν all (o :: r) i e H Q := by
  obtain ⟨k, e2, H2, h1, h2⟩ := h
  refine ⟨k, e2, H2, ?_, h2⟩
  simp only [aops, hw, Bool.false_eq_true, if_false]
  exact h1
theorem OW_call {f : FuncId} {args : List AVal} (hw : Region.wanted o (ayielded all e) = true) (hc : isCall o.op = true) (ho : callOf c e H o = some (f, args)) (h : CW c (i :: ν) f args H (fun v H1 => OW c ν all r (i + 1) (putT e o.dst v) H1 Q)) : OW c ν all (o :: r) i e H Q := by
  obtain ⟨k, v, H1, h1, m, e2, H2, h3, h4⟩ := h
  refine ⟨k + m, e2, H2, ?_, h4⟩
  simp only [aops, hw, if_true, aoper, hc, ho, acall_mono (aexec_le (show k ≤ k + m by omega)) h1]
  exact aops_mono (aexec_le (show m ≤ k + m by omega)) _ _ _ _ _ h3
variable {rs : List Tmp} {HK : Heap}
theorem OWF_nil (h : Q e H) : OWF c ν all rs HK [] i e H Q := ⟨0, e, H, rfl, h⟩
theorem Bf (hf : flagged all rs o = false) (h : OW c ν all [o] i e H (fun e1 H1 => OWF c ν all rs HK r (i + 1) e1 H1 Q)) : OWF c ν all rs HK (o :: r) i e H Q := by
  obtain ⟨k, e1, H1, h1, m, e2, H2, h2, h3⟩ := h
  refine ⟨k + m, e2, H2, ?_, h3⟩
  simp only [aops] at h1
  simp only [aopsF, aoperF, hf, Bool.false_eq_true, if_false]
  split at h1
  · rename_i hw
    rw [if_pos hw]
    cases ho : aoper c (aexec c k) (i :: ν) e H o with
    | none => rw [ho] at h1; cases h1
    | some y =>
      rw [ho] at h1
      simp only at h1
      obtain ⟨rfl, rfl⟩ := Prod.mk.inj (Option.some.inj h1)
      rw [aoper_mono (aexec_le (show k ≤ k + m by omega)) ho]
      exact aopsF_mono (aexec_le (show m ≤ k + m by omega)) _ _ _ _ _ h2
  · rename_i hw
    rw [if_neg hw]
    obtain ⟨rfl, rfl⟩ := Prod.mk.inj (Option.some.inj h1)
    exact aopsF_mono (aexec_le (show m ≤ k + m by omega)) _ _ _ _ _ h2
theorem flagged_load {rs : List Tmp} (hf : flagged all rs o = true) : isCall o.op = false := by
  obtain ⟨dst, op, type, pos, after, guard⟩ := o
  cases op <;> first | rfl | (simp [flagged] at hf)
theorem OWF_fl (hf : flagged all rs o = true) (h : OW c ν all [o] i e HK (fun e1 _ => OWF c ν all rs HK r (i + 1) e1 H Q)) : OWF c ν all rs HK (o :: r) i e H Q := by
  obtain ⟨k, e1, H1, h1, m, e2, H2, h2, h3⟩ := h
  refine ⟨k + m, e2, H2, ?_, h3⟩
  simp only [aops, aoper, flagged_load hf, Bool.false_eq_true, if_false] at h1
  simp only [aopsF, aoperF, hf, if_true]
  split at h1
  · rename_i hw
    rw [if_pos hw]
    cases ho : aop c (i :: ν) e HK o with
    | none => rw [ho] at h1; cases h1
    | some y =>
      obtain ⟨v, H3⟩ := y
      rw [ho] at h1
      simp only at h1
      obtain ⟨rfl, rfl⟩ := Prod.mk.inj (Option.some.inj h1)
      exact aopsF_mono (aexec_le (show m ≤ k + m by omega)) _ _ _ _ _ h2
  · rename_i hw
    rw [if_neg hw]
    obtain ⟨rfl, rfl⟩ := Prod.mk.inj (Option.some.inj h1)
    exact aopsF_mono (aexec_le (show m ≤ k + m by omega)) _ _ _ _ _ h2
end
section
variable {f : FuncId} {fi : FI} {args : List AVal} {Q : AVal → Heap → Prop}
def retW (T : TT) (fi : FI) (Q : AVal → Heap → Prop) : AOut → Env → Heap → Prop
  | .exit _, _, _ => False
  | _, e1, H1 => ∃ v, resOf T fi e1 H1 = some v ∧ Q v H1
def start (fi : FI) (args : List AVal) : Env := args ++ List.replicate (fi.ntmps - args.length) .undef
theorem runF_of (h : XW c ν fi.body (start fi args) H (retW c.T fi Q)) : ∃ k v H1, runF c.T (aexec c k) fi ν args H = some (v, H1) ∧ Q v H1 := by
  obtain ⟨k, o, e1, H1, h1, h2⟩ := h
  have : ∃ v, resOf c.T fi e1 H1 = some v ∧ Q v H1 := by
    cases o with
    | exit id => exact h2.elim
    | norm => exact h2
    | ret => exact h2
  obtain ⟨v, h3, h4⟩ := this
  refine ⟨k, v, H1, ?_, h4⟩
  unfold runF
  unfold start at h1
  rw [h1]
  cases o with
  | exit id => exact h2.elim
  | norm => simp only [h3]
  | ret => simp only [h3]
theorem Be (hg : c.given f = none) (hf : c.fn f = some fi) (hm : fi.mode = .pure) (h : XW c ν fi.body (start fi args) (fun _ => none) (retW c.T fi fun v H1 => Q (freeze ν H1 8 v) H)) : CW c ν f args H Q := by
  obtain ⟨k, v, H1, h1, h2⟩ := runF_of h
  exact ⟨k, _, _, by simp only [acall, hg, hf, hm, h1], h2⟩
theorem CW_borrow (hg : c.given f = none) (hf : c.fn f = some fi) (hm : fi.mode = .borrow) (h : XW c ν fi.body (start fi (args.map (freeze [] H 8))) (fun _ => none) (retW c.T fi fun v H1 => scalars v = true ∧ Q v H)) : CW c ν f args H Q := by
  obtain ⟨k, v, H1, h1, h2, h3⟩ := runF_of h
  exact ⟨k, _, _, by simp only [acall, hg, hf, hm, h1, h2, if_true], h3⟩
theorem CW_full (hg : c.given f = none) (hf : c.fn f = some fi) (hm : fi.mode = .full) (h : XW c ν fi.body (start fi args) H (retW c.T fi fun v H1 => Q (freeze ν H1 8 v) (rest ν H H1))) : CW c ν f args H Q := by
  obtain ⟨k, v, H1, h1, h2⟩ := runF_of h
  exact ⟨k, _, _, by simp only [acall, hg, hf, hm, h1], h2⟩
theorem CW_cast (hg : c.given f = none) (hf : c.fn f = some fi) (hm : fi.mode = .cast) (h : XW c ν fi.body (start fi args) H (retW c.T fi fun v H1 => Q (freeze [] H1 8 v) (lose (reach [] H1 8 v) H1))) : CW c ν f args H Q := by
  obtain ⟨k, v, H1, h1, h2⟩ := runF_of h
  exact ⟨k, _, _, by simp only [acall, hg, hf, hm, h1], h2⟩
theorem CW_give {args' : List AVal} (hg : c.given f = none) (hf : c.fn f = some fi) (hm : fi.mode = .give) (ha : args.map (freeze [] H 8) = args') (h : XW c ν fi.body (start fi args') (lose (reach [] H 9 (.tup args)) H) (retW c.T fi Q)) : CW c ν f args H Q := by
  subst ha
  obtain ⟨k, v, H1, h1, h2⟩ := runF_of h
  exact ⟨k, _, _, by simp only [acall, hg, hf, hm, h1], h2⟩
theorem Bu {args' : List AVal} (hg : c.given f = none) (hf : c.fn f = some fi) (hm : fi.mode = .giveC) (ha : args.map (freeze [] H 8) = args') (h : XW c ν fi.body (start fi args') (lose (reach [] H 9 (.tup args)) H) (retW c.T fi fun v H1 => Q (freeze [] H1 8 v) (lose (reach [] H1 8 v) H1))) : CW c ν f args H Q := by
  subst ha
  obtain ⟨k, v, H1, h1, h2⟩ := runF_of h
  exact ⟨k, _, _, by simp only [acall, hg, hf, hm, h1], h2⟩
theorem AX (hg : c.given f = none) (hf : c.fn f = some fi) (hm : fi.mode = .keep) (h : XW c ν fi.body (start fi args) H (retW c.T fi Q)) : CW c ν f args H Q := by
  obtain ⟨k, v, H1, h1, h2⟩ := runF_of h
  exact ⟨k, _, _, by simp only [acall, hg, hf, hm, h1], h2⟩
theorem BI (hg : c.given f = none) (hf : c.fn f = some fi) (hm : fi.mode = .clone) (hn : noneIn args = false) (h : XW c ν fi.body (start fi args) H (retW c.T fi Q)) : CW c ν f args H Q := by
  obtain ⟨k, v, H1, h1, h2⟩ := runF_of h
  exact ⟨k, _, _, by simp only [acall, hg, hf, hm, hn, Bool.false_eq_true, if_false, h1], h2⟩
end
end Go.Proofs.YtfkgdlfponfimaaGreat.X
