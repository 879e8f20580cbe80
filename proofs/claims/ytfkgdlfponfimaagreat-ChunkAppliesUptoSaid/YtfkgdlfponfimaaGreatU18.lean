import Derived.Test.YtfkgdlfponfimaaGreatU17
/- Which operations look at the heap, which write it; no name comes to be there but under one's own. -/
namespace Go.Proofs.YtfkgdlfponfimaaGreat.X
open Go Go.RowKit
variable {B : BT} {P : Program} {ν : Nm} {G G' : Gh} {H H1 : Heap} {W W' : World} {c : Cfg}
def pairH (x : Option AVal) (H : Heap) : Option (AVal × Heap) := match x with
  | some v => some (v, H)
  | none => none
theorem class0_heap {rec : RecA} {e : Env} {o : Oper} {v : AVal} (hk : opClass c o = 0) (hl : aoper c rec ν e H o = some (v, H1)) : H1 = H ∧ ∀ H2, aoper c rec ν e H2 o = some (v, H2) := by
  obtain ⟨dst, op, type, pos, after, guard⟩ := o
  have pv : ∀ {x : Option AVal}, (match x with | some v => some (v, H) | none => none : Option (AVal × Heap)) = some (v, H1) → H1 = H ∧ ∀ H2, pairH x H2 = some (v, H2) := by
    intro x hx
    obtain ⟨rfl, rfl⟩ := some_pair hx
    exact ⟨rfl, fun _ => rfl⟩
  cases op <;> first
    | (simp [opClass] at hk; done)
    | skip
  case call k =>
    cases hc : k.callee with
    | builtin b =>
      have hic : isCall (.call k) = false := by simp [isCall, hc]
      unfold aoper at hl ⊢
      simp only [hic, Bool.false_eq_true, if_false, aop, hc] at hl ⊢
      simp only [opClass, hc] at hk
      cases ha : evs e k.args.toList with
      | none => rw [ha] at hl; cases hl
      | some us =>
        rw [ha] at hl
        simp only at hl ⊢
        unfold aBuiltin at hl ⊢
        split at hl <;> (try (simp at hk; done)) <;> (try (cases hl; done))
        · rename_i x
          split at hl
          · rename_i hlk
            have hln : ∀ H2, lenOf H2 x = lenOf H x := by
              intro H2
              cases x <;> try rfl
              unfold lenKind at hlk
              split at hlk
              · split at hlk
                · split at hlk <;> first | (cases hlk; done) | (rename_i h1 h2; simp at h2) | contradiction
                · cases hlk
              · cases hlk
            cases hn : lenOf H x with
            | none => rw [hn] at hl; cases hl
            | some n =>
              rw [hn] at hl
              obtain ⟨rfl, rfl⟩ := Prod.mk.inj (Option.some.inj hl)
              refine ⟨Z, fun H2 => ?_⟩
              simp only [hlk, if_true, hln H2, hn]
          · cases hl
        · rename_i x r
          cases hm : aMinMaxAll false x r with
          | none => rw [hm] at hl; cases hl
          | some u =>
            rw [hm] at hl
            obtain ⟨rfl, rfl⟩ := Prod.mk.inj (Option.some.inj hl)
            exact ⟨rfl, fun H2 => rfl⟩
        · rename_i x r
          cases hm : aMinMaxAll true x r with
          | none => rw [hm] at hl; cases hl
          | some u =>
            rw [hm] at hl
            obtain ⟨rfl, rfl⟩ := Prod.mk.inj (Option.some.inj hl)
            exact ⟨rfl, fun H2 => rfl⟩
    | value fo =>
      simp only [opClass, hc] at hk
      cases fo <;> try (simp at hk; done)
      rename_i f
      simp only at hk
      cases hg : c.given f with
      | some g => rw [hg] at hk; simp at hk
      | none =>
        rw [hg] at hk
        simp only at hk
        cases hfi : c.fn f with
        | none => rw [hfi] at hk; simp at hk
        | some fi =>
          rw [hfi] at hk
          simp only at hk
          cases hm : fi.mode <;> rw [hm] at hk <;> try (simp at hk; done)
          have hic : isCall (.call k) = true := by simp [isCall, hc]
          unfold aoper at hl ⊢
          simp only [hic, if_true, callOf, hc, ev] at hl ⊢
          cases ha : evs e k.args.toList with
          | none => rw [ha] at hl; cases hl
          | some us =>
            rw [ha] at hl
            simp only [acall, hg, hfi, hm] at hl ⊢
            cases hrun : runF c.T rec fi ν (us ++ []) (fun _ => none) with
            | none => rw [hrun] at hl; cases hl
            | some r =>
              obtain ⟨u, H3⟩ := r
              rw [hrun] at hl
              obtain ⟨rfl, rfl⟩ := Prod.mk.inj (Option.some.inj hl)
              exact ⟨rfl, fun H2 => rfl⟩
    | invoke x m => simp [opClass, hc] at hk
  all_goals
    unfold aoper at hl ⊢
    simp only [isCall, Bool.false_eq_true, if_false, aop] at hl ⊢
  all_goals (try (cases hl; done))
  case convert s d x =>
    simp only [opClass] at hk
    split at hk
    · rename_i hi
      unfold intT at hi
      cases hx : ev e x with
      | none => rw [hx] at hl; cases hl
      | some u =>
        rw [hx] at hl
        simp only at hl ⊢
        cases hd : c.T d with
        | none => rw [hd] at hi; cases hi
        | some ti =>
          rw [hd] at hi
          simp only at hi
          cases hk2 : ti.k <;> rw [hk2] at hi <;> try (cases hi; done)
          have e : ∀ H2, aConv c.T H2 s d u = aConv c.T H s d u := fun H2 => by
            unfold aConv
            rw [hd]
            cases c.T s with
            | none => rfl
            | some _ => simp only [hk2]; cases u <;> rfl
          obtain ⟨rfl, _⟩ := pv hl
          refine ⟨Z, fun H2 => ?_⟩
          rw [e H2]
          exact (pv hl).2 H2
    · cases hk
  case move x => exact pv hl
  case assign x => exact pv hl
  case pick x y z =>
    cases hx : ev e x with
    | none => rw [hx] at hl; cases hl
    | some u =>
      rw [hx] at hl
      cases u <;> try (cases hl; done)
      rename_i b
      cases b
      · exact pv hl
      · exact pv hl
  case build t ps =>
    cases hp : evParts e ps.toList with
    | none => rw [hp] at hl; cases hl
    | some l => rw [hp] at hl; exact pv hl
  case buildSlice t n ps =>
    cases hp : evParts e ps.toList with
    | none => rw [hp] at hl; cases hl
    | some l => rw [hp] at hl; exact pv hl
  case nilCheck x =>
    cases hx : ev e x with
    | none => rw [hx] at hl; cases hl
    | some u =>
      rw [hx] at hl
      cases u <;> try (cases hl; done)
      all_goals
        obtain ⟨rfl, rfl⟩ := Prod.mk.inj (Option.some.inj hl)
        exact ⟨rfl, fun _ => rfl⟩
  case binOp op t x y yt =>
    cases hx : ev e x with
    | none => rw [hx] at hl; cases hl
    | some u =>
      cases hy : ev e y with
      | none => rw [hx, hy] at hl; cases hl
      | some w =>
        rw [hx, hy] at hl
        simp only at hl ⊢
        split at hl
        · rename_i hn
          simp only [hn, if_true]
          exact pv hl
        · cases hl
  case unOp op t x =>
    cases hx : ev e x with
    | none => rw [hx] at hl; cases hl
    | some u => rw [hx] at hl; exact pv hl
  case makeInterface t x =>
    cases hx : ev e x with
    | none => rw [hx] at hl; cases hl
    | some u =>
      rw [hx] at hl
      simp only at hl ⊢
      cases ht : c.T t with
      | none => rw [ht] at hl; cases hl
      | some ti =>
        rw [ht] at hl
        simp only at hl ⊢
        cases hk2 : ti.k <;> rw [hk2] at hl <;> first
          | (cases hl; done)
          | (obtain ⟨rfl, rfl⟩ := Prod.mk.inj (Option.some.inj hl); exact ⟨rfl, fun _ => rfl⟩)
  case makeFunc fn first cap =>
    cases fn <;> try (cases hl; done)
    simp only at hl ⊢
    split at hl
    · rename_i hfi
      simp only [hfi, if_true]
      cases ha : evs e cap.toList with
      | none => rw [ha] at hl; cases hl
      | some us =>
        rw [ha] at hl
        obtain ⟨rfl, rfl⟩ := Prod.mk.inj (Option.some.inj hl)
        exact ⟨rfl, fun _ => rfl⟩
    · rename_i hfi
      simp only [hfi, if_false]
      split at hl
      · rename_i hca
        simp only [hca, if_true]
        cases ha : evs e first.toList with
        | none => rw [ha] at hl; cases hl
        | some us =>
          rw [ha] at hl
          obtain ⟨rfl, rfl⟩ := Prod.mk.inj (Option.some.inj hl)
          exact ⟨rfl, fun _ => rfl⟩
      · cases hl
  case slice t x lo hi mx =>
    cases hx : ev e x with
    | none => rw [hx] at hl; cases hl
    | some u =>
      rw [hx] at hl
      have hb : ¬ (lo.isSome && hi.isSome) = true := by
        intro hb
        simp only [opClass, hb, if_true] at hk
        cases hk
      simp only [hb, if_false] at hl ⊢
      split at hl
      · exact pv hl
      · cases hl
  case fieldAddr t x f =>
    cases hx : ev e x with
    | none => rw [hx] at hl; cases hl
    | some u => rw [hx] at hl; exact pv hl
  case field t x f =>
    cases hx : ev e x with
    | none => rw [hx] at hl; cases hl
    | some u => rw [hx] at hl; exact pv hl
  case indexAddr t x y =>
    cases hx : ev e x with
    | none => rw [hx] at hl; cases hl
    | some u =>
      cases hy : ev e y with
      | none => rw [hx, hy] at hl; cases hl
      | some w => rw [hx, hy] at hl; exact pv hl
  case index t x y =>
    cases hx : ev e x with
    | none => rw [hx] at hl; cases hl
    | some u =>
      cases hy : ev e y with
      | none => rw [hx, hy] at hl; cases hl
      | some w => rw [hx, hy] at hl; exact pv hl
  case typeAssert x xt t ok =>
    split at hl
    · cases hl
    · rename_i hok
      simp only [hok, if_false]
      cases hx : ev e x with
      | none => rw [hx] at hl; cases hl
      | some u =>
        rw [hx] at hl
        cases u <;> try (cases hl; done)
        rename_i ut w
        cases ht : c.T t with
        | none => rw [ht] at hl; cases hl
        | some ti =>
          rw [ht] at hl
          simp only at hl ⊢
          cases hk2 : ti.k <;> rw [hk2] at hl <;> first
            | (cases hl; done)
            | (simp only at hl ⊢
               split at hl
               · rename_i hut
                 obtain ⟨rfl, rfl⟩ := Prod.mk.inj (Option.some.inj hl)
                 refine ⟨Z, fun H2 => ?_⟩
                 rw [if_pos hut]
                 simp
               · cases hl)
  case extract x i =>
    cases hx : ev e x with
    | none => rw [hx] at hl; cases hl
    | some u =>
      rw [hx] at hl
      cases u <;> try (cases hl; done)
      exact pv hl
theorem class1_heap {rec : RecA} {e : Env} {o : Oper} {v : AVal} (hk : opClass c o ≠ 3) (hl : aoper c rec ν e H o = some (v, H1)) : H1 = H := by
  by_cases h0 : opClass c o = 0
  · exact (class0_heap h0 hl).1
  · obtain ⟨dst, op, type, pos, after, guard⟩ := o
    cases op <;> first
      | (simp [opClass] at hk; done)
      | (simp [opClass] at h0; done)
      | skip
    case load t x =>
      unfold aoper at hl
      simp only [isCall, Bool.false_eq_true, if_false, aop] at hl
      obtain ⟨u, hu, hl⟩ := ev1 hl
      exact (some_pair hl).2
    case convert s d x =>
      unfold aoper at hl
      simp only [isCall, Bool.false_eq_true, if_false, aop] at hl
      obtain ⟨u, hu, hl⟩ := ev1 hl
      exact (some_pair hl).2
    case lookup t m k ok =>
      unfold aoper at hl
      simp only [isCall, Bool.false_eq_true, if_false, aop] at hl
      obtain ⟨u, w, hu, hw, hl⟩ := ev2 hl
      exact (some_pair hl).2
    case slice t x lo hi mx =>
      unfold aoper at hl
      simp only [isCall, Bool.false_eq_true, if_false, aop] at hl
      obtain ⟨u, hu, hl⟩ := ev1 hl
      split at hl
      · exact (some_pair hl).2
      · cases hl
    case call k =>
      cases hc : k.callee with
      | builtin b => simp only [opClass, hc] at hk h0; cases b <;> simp at hk h0
      | invoke x m => simp [opClass, hc] at hk
      | value fo =>
        simp only [opClass, hc] at hk h0
        cases fo <;> try (simp at hk; done)
        rename_i f
        simp only at hk h0
        cases hg : c.given f with
        | some g => rw [hg] at hk; simp at hk
        | none =>
          rw [hg] at hk h0
          simp only at hk h0
          cases hfi : c.fn f with
          | none => rw [hfi] at hk; simp at hk
          | some fi =>
            rw [hfi] at hk h0
            simp only at hk h0
            cases hm : fi.mode <;> rw [hm] at hk h0 <;> try (simp at hk h0; done)
            all_goals
              have hic : isCall (.call k) = true := by simp [isCall, hc]
              unfold aoper at hl
              simp only [hic, if_true, callOf, hc, ev] at hl
              cases ha : evs e k.args.toList with
              | none => rw [ha] at hl; cases hl
              | some us =>
                rw [ha] at hl
                simp only [acall, hg, hfi, hm] at hl
                split at hl
                · split at hl
                  · exact (Prod.mk.inj (Option.some.inj hl)).2.symm
                  · cases hl
                · cases hl
section
variable {T : TT} {t : TypeId} {a x y v l : AVal} {q : Nm}
theorem ne_under (h : under ν q = false) : q ≠ ν := fun e => by subst e; rw [under_self] at h; cases h
theorem put_none {p : Nm} {ob : Option AObj} (h : q ≠ p) (hn : H q = none) : H.put p ob q = none := by rw [put_other H _ h]; exact hn
theorem ne_there {p : Nm} {ob : AObj} (hn : H q = none) (hp : H p = some ob) : q ≠ p := fun e => by subst e; rw [hn] at hp; cases hp
theorem aStore_none (h : aStore T H t a x = some H1) (hn : H q = none) : H1 q = none := by
  unfold aStore at h
  repeat' split at h
  all_goals first
    | (cases h; done)
    | (obtain rfl := Option.some.inj h; exact put_none (ne_there hn (by assumption)) hn)
theorem aMapSet_none (h : aMapSet T H t a x y = some H1) (hn : H q = none) : H1 q = none := by
  unfold aMapSet at h
  repeat' split at h
  all_goals first
    | (cases h; done)
    | (obtain rfl := Option.some.inj h; exact put_none (ne_there hn (by assumption)) hn)
theorem aAlloc_none (h : aAlloc T ν H t = some (v, H1)) (hq : under ν q = false) (hn : H q = none) : H1 q = none := by
  unfold aAlloc at h
  repeat' split at h
  all_goals first
    | (cases h; done)
    | (obtain ⟨rfl, rfl⟩ := Prod.mk.inj (Option.some.inj h); exact put_none (ne_under hq) hn)
theorem aBox_none (h : aBox T ν H t x = some (v, H1)) (hq : under ν q = false) (hn : H q = none) : H1 q = none := by
  unfold aBox at h
  repeat' split at h
  all_goals first
    | (cases h; done)
    | (obtain ⟨rfl, rfl⟩ := Prod.mk.inj (Option.some.inj h); exact put_none (ne_under hq) hn)
theorem aMakeSlice_none (h : aMakeSlice T ν H t x y = some (v, H1)) (hq : under ν q = false) (hn : H q = none) : H1 q = none := by
  unfold aMakeSlice at h
  repeat' split at h
  all_goals first
    | (cases h; done)
    | (obtain ⟨rfl, rfl⟩ := Prod.mk.inj (Option.some.inj h); exact put_none (ne_under hq) hn)
theorem aAppend_none (h : aAppend T ν H t x y = some (v, H1)) (hq : under ν q = false) (hn : H q = none) : H1 q = none := by
  unfold aAppend at h
  repeat' split at h
  all_goals first
    | (cases h; done)
    | (obtain ⟨rfl, rfl⟩ := Prod.mk.inj (Option.some.inj h); first
        | exact hn
        | exact put_none (ne_under hq) hn
        | exact put_none (ne_there hn (by assumption)) hn
        | exact put_none (ne_under hq) (put_none (ne_there hn (by assumption)) hn))
theorem aClear_none (h : aClear T H t x = some H1) (hn : H q = none) : H1 q = none := by
  unfold aClear at h
  repeat' split at h
  all_goals first
    | (cases h; done)
    | (obtain rfl := Option.some.inj h; first
        | exact hn
        | exact put_none (ne_there hn (by assumption)) hn)
theorem aCopy_none {d s : AVal} (h : aCopy T H t d s = some (v, H1)) (hn : H q = none) : H1 q = none := by
  unfold aCopy at h
  repeat' split at h
  all_goals first
    | (cases h; done)
    | (obtain ⟨rfl, rfl⟩ := Prod.mk.inj (Option.some.inj h); exact put_none (ne_there hn (by assumption)) hn)
theorem aBuiltin_none {b : Builtin} {ts : List TypeId} {us : List AVal} (h : aBuiltin T ν H b ts us = some (v, H1)) (hq : under ν q = false) (hn : H q = none) : H1 q = none := by
  unfold aBuiltin at h
  repeat' split at h
  all_goals first
    | (cases h; done)
    | exact aAppend_none h hq hn
    | exact aCopy_none h hn
    | (obtain ⟨rfl, rfl⟩ := Prod.mk.inj (Option.some.inj h); first
        | exact hn
        | exact aClear_none (by assumption) hn)
theorem aop_none {e : Env} {o : Oper} (h : aop c ν e H o = some (v, H1)) (hq : under ν q = false) (hn : H q = none) : H1 q = none := by
  by_cases hc : isCall o.op = true
  · obtain ⟨dst, op, type, pos, after, guard⟩ := o
    cases op <;> try (cases hc; done)
    rename_i k
    simp only [aop] at h
    cases hk : k.callee with
    | builtin b => simp [isCall, hk] at hc
    | value f => rw [hk] at h; cases h
    | invoke x m => rw [hk] at h; cases h
  by_cases h3 : opClass c o = 3
  · obtain ⟨dst, op, type, pos, after, guard⟩ := o
    cases op <;> first
      | (simp [opClass] at h3; done)
      | skip
    all_goals simp only [aop] at h
    all_goals (try (repeat' split at h))
    all_goals first
      | (cases h; done)
      | (rename_i h1; obtain ⟨rfl, rfl⟩ := Prod.mk.inj (Option.some.inj h); first | exact aStore_none h1 hn | exact aMapSet_none h1 hn)
      | exact aAlloc_none h hq hn
      | exact aBox_none h hq hn
      | exact aMakeSlice_none h hq hn
      | exact aBuiltin_none h hq hn
      | (obtain ⟨rfl, rfl⟩ := Prod.mk.inj (Option.some.inj h); first | exact hn | exact put_none (ne_under hq) hn)
      | skip
    all_goals (simp [opClass] at h3)
  · have : aoper c (fun _ _ _ _ => none) ν e H o = some (v, H1) := by unfold aoper; rw [if_neg hc]; exact h
    rw [class1_heap h3 this]; exact hn
def RN (rec : RecA) : Prop := ∀ ν code e H o e1 H1 q, rec ν code e H = some (o, e1, H1) → under ν q = false → H q = none → H1 q = none
variable {rec : RecA}
theorem runF_none (hr : RN rec) {fi : FI} {args : List AVal} (h : runF T rec fi ν args H = some (v, H1)) (hq : under ν q = false) (hn : H q = none) : H1 q = none := by
  unfold runF at h
  split at h
  · cases h
  · rename_i hrec
    split at h
    · obtain ⟨rfl, rfl⟩ := Prod.mk.inj (Option.some.inj h)
      exact hr _ _ _ _ _ _ _ _ hrec hq hn
    · cases h
  · cases h
theorem aGiven_none {g : Given} {args : List AVal} (h : aGiven g args H = some (v, H1)) (hn : H q = none) : H1 q = none := by
  unfold aGiven at h
  repeat' split at h
  all_goals first
    | (cases h; done)
    | (obtain ⟨rfl, rfl⟩ := Prod.mk.inj (Option.some.inj h); exact put_none (ne_there hn (by assumption)) hn)
theorem lose_none {D : List Nm} (hn : H q = none) : lose D H q = none := by
  unfold lose; split
  · rfl
  · exact hn
theorem acall_none (hr : RN rec) {f : FuncId} {args : List AVal} (h : acall c rec ν f args H = some (v, H1)) (hq : under ν q = false) (hn : H q = none) : H1 q = none := by
  unfold acall at h
  split at h
  · exact aGiven_none h hn
  · split at h
    · cases h
    · split at h
      · split at h
        · obtain ⟨rfl, rfl⟩ := Prod.mk.inj (Option.some.inj h); exact hn
        · cases h
      · split at h
        · split at h
          · obtain ⟨rfl, rfl⟩ := Prod.mk.inj (Option.some.inj h); exact hn
          · cases h
        · cases h
      · split at h
        · rename_i hf
          obtain ⟨rfl, rfl⟩ := Prod.mk.inj (Option.some.inj h)
          unfold rest
          rw [if_neg (by simp [hq])]
          exact runF_none hr hf hq hn
        · cases h
      · exact runF_none hr h hq hn
      · split at h
        · split at h
          · split at h
            · obtain ⟨rfl, rfl⟩ := Prod.mk.inj (Option.some.inj h); exact hn
            · cases h
          · cases h
        · exact runF_none hr h hq hn
      · split at h
        · split at h
          · obtain ⟨rfl, rfl⟩ := Prod.mk.inj (Option.some.inj h); exact hn
          · cases h
        · cases h
      · split at h
        · rename_i hf
          obtain ⟨rfl, rfl⟩ := Prod.mk.inj (Option.some.inj h)
          unfold lose
          split
          · rfl
          · exact runF_none hr hf hq hn
        · cases h
      · exact runF_none hr h hq (lose_none hn)
      · split at h
        · rename_i hf
          obtain ⟨rfl, rfl⟩ := Prod.mk.inj (Option.some.inj h)
          exact lose_none (runF_none hr hf hq (lose_none hn))
        · cases h
theorem aoper_none (hr : RN rec) {e : Env} {o : Oper} (h : aoper c rec ν e H o = some (v, H1)) (hq : under ν q = false) (hn : H q = none) : H1 q = none := by
  unfold aoper at h
  split at h
  · split at h
    · exact acall_none hr h hq hn
    · cases h
  · exact aop_none h hq hn
theorem aoperF_none (hr : RN rec) {all : Array Oper} {rs : List Tmp} {HK : Heap} {e : Env} {o : Oper} (h : aoperF c rec all rs HK ν e H o = some (v, H1)) (hq : under ν q = false) (hn : H q = none) : H1 q = none := by
  unfold aoperF at h
  split at h
  · split at h
    · obtain ⟨rfl, rfl⟩ := Prod.mk.inj (Option.some.inj h); exact hn
    · cases h
  · exact aoper_none hr h hq hn
theorem aops_none (hr : RN rec) {all : Array Oper} : ∀ (l : List Oper) (i : Nat) (e : Env) (H : Heap) (e1 : Env) (H1 : Heap), aops c rec ν all l i e H = some (e1, H1) → under ν q = false → H q = none → H1 q = none
  | [], _, _, _, _, _, h, _, hn => by
    simp only [aops] at h
    obtain ⟨rfl, rfl⟩ := Prod.mk.inj (Option.some.inj h); exact hn
  | o :: l, i, e, H, e1, H1, h, hq, hn => by
    simp only [aops] at h
    split at h
    · split at h
      · rename_i ho
        exact aops_none hr l _ _ _ _ _ h hq (aoper_none hr ho (under_of_cons_false hq) hn)
      · cases h
    · exact aops_none hr l _ _ _ _ _ h hq hn
theorem aopsF_none (hr : RN rec) {all : Array Oper} {rs : List Tmp} {HK : Heap} : ∀ (l : List Oper) (i : Nat) (e : Env) (H : Heap) (e1 : Env) (H1 : Heap), aopsF c rec ν all rs HK l i e H = some (e1, H1) → under ν q = false → H q = none → H1 q = none
  | [], _, _, _, _, _, h, _, hn => by
    simp only [aopsF] at h
    obtain ⟨rfl, rfl⟩ := Prod.mk.inj (Option.some.inj h); exact hn
  | o :: l, i, e, H, e1, H1, h, hq, hn => by
    simp only [aopsF] at h
    split at h
    · split at h
      · rename_i ho
        exact aopsF_none hr l _ _ _ _ _ h hq (aoperF_none hr ho (under_of_cons_false hq) hn)
      · cases h
    · exact aopsF_none hr l _ _ _ _ _ h hq hn
theorem aregion_none (hr : RN rec) {id : Nat} {ops : Array Oper} {d : Bool} {e e1 : Env} (h : aregion c rec ν id ops d e H = some (e1, H1)) (hq : under ν q = false) (hn : H q = none) : H1 q = none := by
  unfold aregion at h
  split at h
  · exact aops_none hr _ _ _ _ _ _ h hq hn
  · split at h
    · rename_i ho
      obtain ⟨rfl, rfl⟩ := Prod.mk.inj (Option.some.inj h)
      unfold backL
      split
      · exact hn
      · exact aopsF_none hr _ _ _ _ _ _ ho hq (by unfold hideL; split <;> first | rfl | exact hn)
    · cases h
theorem aexec_none : ∀ k, RN (aexec c k)
  | 0 => fun ν code e H o e1 H1 q h _ _ => by simp [aexec] at h
  | k + 1 => fun ν code e H o e1 H1 q h hq hn => by
    have ih := aexec_none k
    cases code <;> (try (simp only [aexec] at h; cases h; done))
    all_goals simp only [aexec] at h
    case skip => obtain ⟨_, h⟩ := Prod.mk.inj (Option.some.inj h); obtain ⟨_, rfl⟩ := Prod.mk.inj h; exact hn
    case exit => obtain ⟨_, h⟩ := Prod.mk.inj (Option.some.inj h); obtain ⟨_, rfl⟩ := Prod.mk.inj h; exact hn
    case ret => obtain ⟨_, h⟩ := Prod.mk.inj (Option.some.inj h); obtain ⟨_, rfl⟩ := Prod.mk.inj h; exact hn
    case region id ops d =>
      split at h
      · rename_i ho
        obtain ⟨_, h⟩ := Prod.mk.inj (Option.some.inj h); obtain ⟨_, rfl⟩ := Prod.mk.inj h
        exact aregion_none ih ho hq hn
      · cases h
    case seq a b =>
      split at h
      · rename_i ho
        exact ih _ _ _ _ _ _ _ _ h (under_of_cons_false hq) (ih _ _ _ _ _ _ _ _ ho (under_of_cons_false hq) hn)
      · exact ih _ _ _ _ _ _ _ _ h (under_of_cons_false hq) hn
    case cond x a b =>
      split at h
      · exact ih _ _ _ _ _ _ _ _ h hq hn
      · exact ih _ _ _ _ _ _ _ _ h hq hn
      · cases h
    case block id a =>
      split at h
      · rename_i ho
        have := ih _ _ _ _ _ _ _ _ ho hq hn
        split at h
        · obtain ⟨_, h⟩ := Prod.mk.inj (Option.some.inj h); obtain ⟨_, rfl⟩ := Prod.mk.inj h; exact this
        · obtain ⟨_, h⟩ := Prod.mk.inj (Option.some.inj h); obtain ⟨_, rfl⟩ := Prod.mk.inj h; exact this
      · exact ih _ _ _ _ _ _ _ _ h hq hn
    case loop a =>
      split at h
      · rename_i ho
        exact ih _ _ _ _ _ _ _ _ h (under_of_cons_false hq) (ih _ _ _ _ _ _ _ _ ho (under_of_cons_false hq) hn)
      · exact ih _ _ _ _ _ _ _ _ h (under_of_cons_false hq) hn
end
end Go.Proofs.YtfkgdlfponfimaaGreat.X
