import Derived.Test.YtfkgdlfponfimaaGreatU13
/- Every operation that is no call, put together. -/
namespace Go.Proofs.YtfkgdlfponfimaaGreat.X
open Go Go.RowKit
variable {B : BT} {P : Program} {ν : Nm} {G G' : Gh} {H H1 : Heap} {W W' : World}
theorem ev1 {e : Env} {x : Operand} {α : Type} {f : AVal → Option α} {r : α} (h : (match ev e x with | some a => f a | none => none) = some r) : ∃ u, ev e x = some u ∧ f u = some r := by
  cases hx : ev e x with
  | none => rw [hx] at h; cases h
  | some u => rw [hx] at h; exact ⟨u, rfl, h⟩
theorem ev2 {e : Env} {x y : Operand} {α : Type} {f : AVal → AVal → Option α} {r : α} (h : (match ev e x, ev e y with | some a, some b => f a b | _, _ => none) = some r) : ∃ u w, ev e x = some u ∧ ev e y = some w ∧ f u w = some r := by
  cases hx : ev e x with
  | none => rw [hx] at h; cases h
  | some u =>
    cases hy : ev e y with
    | none => rw [hx, hy] at h; cases h
    | some w => rw [hx, hy] at h; exact ⟨u, w, rfl, rfl, h⟩
theorem run_exec_v {s : Sem Value} {v' : Value} {W' : World} (h : s.run P W = .ok v' W') : (do pure (.value (← s)) : Sem Next).run P W = .ok (.value v') W' := by
  simp only [Sem.run_bind, h, Result.andThen_ok, Sem.run_pure]
theorem run_exec_u {s : Sem Unit} {W' : World} (h : s.run P W = .ok () W') : (do s; pure .skip : Sem Next).run P W = .ok .skip W' := by
  simp only [Sem.run_bind, h, Result.andThen_ok, Sem.run_pure]
theorem aop_sound {c : Cfg} (hT : TTok B P c.T) (h : R B G H W) (hf : Fresh ν G H) {e : Env} {a : Act} {o : Oper} {v : AVal} (hl : aop c ν e H o = some (v, H1)) (hops : Evs G e a o.op.operands) : Good B P ν G H H1 W o a v := by
  obtain ⟨dst, op, type, pos, after, guard⟩ := o
  unfold aop at hl
  simp only at hl hops
  have val : ∀ {x : Option AVal} {u : AVal}, (match x with | some v => some (v, H) | none => none : Option (AVal × Heap)) = some (v, H1) → x = some u → u = v ∧ H1 = H := by
    intro x u h1 h2
    obtain ⟨h3, h4⟩ := some_pair h1
    rw [h2] at h3
    exact ⟨Option.some.inj h3, h4⟩
  cases op <;> (try (simp only at hl; cases hl; done)) <;> simp only [Op.operands] at hops <;> simp only at hl
  case move x =>
    obtain ⟨h1, rfl⟩ := some_pair hl
    exact Good.pure h rfl (hops x (by simp) _ h1)
  case assign x =>
    obtain ⟨h1, rfl⟩ := some_pair hl
    exact Good.pure h rfl (hops x (by simp) _ h1)
  case pick x y z =>
    cases hx : ev e x with
    | none => rw [hx] at hl; cases hl
    | some u =>
      rw [hx] at hl
      have hv := hops x (by simp) u hx
      cases u <;> try (cases hl; done)
      rename_i b
      cases hv' : a.eval x <;> rw [hv'] at hv <;> cases hv
      cases b
      · obtain ⟨h1, rfl⟩ := some_pair hl
        refine Good.pure (v' := a.eval z) h ?_ (hops z (by simp) _ h1)
        simp only [execOp, hv', asBool, Sem.run_bind, Sem.run_pure, Result.andThen_ok]; rfl
      · obtain ⟨h1, rfl⟩ := some_pair hl
        refine Good.pure (v' := a.eval y) h ?_ (hops y (by simp) _ h1)
        simp only [execOp, hv', asBool, Sem.run_bind, Sem.run_pure, Result.andThen_ok]; rfl
  case alloc t =>
    obtain ⟨v', W', G', r1, r2, r3, r4⟩ := alloc_sound hT h hf hl
    exact ⟨v', W', G', .inl (run_exec_v r1), r2, r3, r4⟩
  case box t x =>
    obtain ⟨u, hu, hl⟩ := ev1 hl
    obtain ⟨v', W', G', r1, r2, r3, r4⟩ := aBox_sound hT h hf (hops x (by simp) u hu) hl
    exact ⟨v', W', G', .inl (run_exec_v r1), r2, r3, r4⟩
  case build t ps =>
    cases hp : evParts e ps.toList with
    | none => rw [hp] at hl; cases hl
    | some l =>
      rw [hp] at hl
      obtain ⟨h1, rfl⟩ := some_pair hl
      have hpr := evParts_sound (G := G) (a := a) ps.toList l hp (fun x hx u hu => hops x.2 (by simp only [List.mem_toArray, List.mem_map]; exact ⟨x, hx, rfl⟩) u hu)
      obtain ⟨v', r1, r2⟩ := build_sound (W := W) (ps' := ps.map fun (i, x) => (i, a.eval x)) hT h1 (by simpa using hpr)
      exact ⟨v', W, G, .inl (run_exec_v r1), r2, h, St.refl _ _ _ _⟩
  case buildSlice t len ps =>
    cases hp : evParts e ps.toList with
    | none => rw [hp] at hl; cases hl
    | some l =>
      rw [hp] at hl
      obtain ⟨h1, rfl⟩ := some_pair hl
      have hpr := evParts_sound (G := G) (a := a) ps.toList l hp (fun x hx u hu => hops x.2 (by simp only [List.mem_toArray, List.mem_map]; exact ⟨x, hx, rfl⟩) u hu)
      obtain ⟨v', W', G', r1, r2, r3, r4⟩ := buildSlice_sound (ν := ν) (ps' := ps.map fun (i, x) => (i, a.eval x)) hT h h1 (by simpa using hpr)
      exact ⟨v', W', G', .inl (run_exec_v r1), r2, r3, r4⟩
  case load t x =>
    obtain ⟨u, hu, hl⟩ := ev1 hl
    obtain ⟨h1, rfl⟩ := some_pair hl
    obtain ⟨v', r1, r2⟩ := load_sound hT h h1 (hops x (by simp) u hu)
    exact ⟨v', W, G, .inl (run_exec_v r1), r2, h, St.refl _ _ _ _⟩
  case store t x y =>
    obtain ⟨u, w, hu, hw, hl⟩ := ev2 hl
    obtain ⟨h1, rfl⟩ := some_heap hl
    obtain ⟨W', r1, r2, r3⟩ := store_sound (ν := ν) hT h h1 (hops x (by simp) u hu) (hops y (by simp) w hw)
    exact ⟨undef, W', G, .inr ⟨run_exec_u r1, rfl⟩, undef_VR, r2, r3⟩
  case makeMap t r =>
    cases r with
    | none =>
      obtain ⟨rfl, rfl⟩ := Prod.mk.inj (Option.some.inj hl)
      obtain ⟨v', W', G', r1, r2, r3, r4⟩ := makeMap_sound (P := P) h hf t
      exact ⟨v', W', G', .inl (run_exec_v r1), r2, r3, r4⟩
    | some _ => cases hl
  case lookup t m k ok =>
    obtain ⟨u, w, hu, hw, hl⟩ := ev2 hl
    obtain ⟨h1, rfl⟩ := some_pair hl
    obtain ⟨v', r1, r2⟩ := lookup_sound hT h h1 (hops m (by simp) u hu) (hops k (by simp) w hw)
    exact ⟨v', W, G, .inl (run_exec_v r1), r2, h, St.refl _ _ _ _⟩
  case mapUpdate t m k x =>
    obtain ⟨u, w, hu, hw, hl⟩ := ev2 hl
    obtain ⟨y, hy, hl⟩ := ev1 hl
    obtain ⟨h1, rfl⟩ := some_heap hl
    obtain ⟨W', r1, r2, r3⟩ := mapSet_sound (ν := ν) hT h h1 (hops m (by simp) u hu) (hops k (by simp) w hw) (hops x (by simp) y hy)
    exact ⟨undef, W', G, .inr ⟨run_exec_u r1, rfl⟩, undef_VR, r2, r3⟩
  case nilCheck x =>
    cases hx : ev e x with
    | none => rw [hx] at hl; cases hl
    | some u =>
      rw [hx] at hl
      have hv := hops x (by simp) u hx
      cases u <;> try (cases hl; done)
      all_goals
        obtain ⟨rfl, rfl⟩ := Prod.mk.inj (Option.some.inj hl)
        refine ⟨a.eval x, W, G, .inl ?_, hv, h, St.refl _ _ _ _⟩
        cases hv' : a.eval x <;> rw [hv'] at hv <;> cases hv <;> simp only [execOp, hv'] <;> rfl
  case binOp op t x y yt =>
    obtain ⟨u, w, hu, hw, hl⟩ := ev2 hl
    split at hl
    · rename_i hn
      obtain ⟨h1, rfl⟩ := some_pair hl
      obtain ⟨v', r1, r2⟩ := bin_sound (W := W) hT h1 (hops x (by simp) u hu) (hops y (by simp) w hw) x y (fun e => by
        subst e
        simp only [nilOk, Bool.or_eq_true] at hn
        rcases hn with hn | hn
        · cases x <;> first | exact ⟨_, .inl rfl⟩ | cases hn
        · cases y <;> first | exact ⟨_, .inr rfl⟩ | cases hn)
      exact ⟨v', W, G, .inl (run_exec_v r1), r2, h, St.refl _ _ _ _⟩
    · cases hl
  case unOp op t x =>
    obtain ⟨u, hu, hl⟩ := ev1 hl
    obtain ⟨h1, rfl⟩ := some_pair hl
    have hv := hops x (by simp) u hu
    unfold aUn at h1
    split at h1
    · rename_i k n
      obtain rfl := Option.some.inj h1
      cases hv' : a.eval x <;> rw [hv'] at hv <;> cases hv
      exact ⟨_, W, G, .inl (by simp only [execOp, hv']; exact run_exec_v rfl), .int _ _, h, St.refl _ _ _ _⟩
    · rename_i k n
      cases hv' : a.eval x <;> rw [hv'] at hv <;> cases hv
      simp only [aInt] at h1
      obtain rfl := Option.some.inj h1
      exact ⟨_, W, G, .inl (by simp only [execOp, hv']; exact run_exec_v rfl), .int _ _, h, St.refl _ _ _ _⟩
    · rename_i b
      obtain rfl := Option.some.inj h1
      cases hv' : a.eval x <;> rw [hv'] at hv <;> cases hv
      exact ⟨_, W, G, .inl (by simp only [execOp, hv']; exact run_exec_v rfl), .bool _, h, St.refl _ _ _ _⟩
    · cases h1
  case convert s d x =>
    obtain ⟨u, hu, hl⟩ := ev1 hl
    obtain ⟨h1, rfl⟩ := some_pair hl
    obtain ⟨v', r1, r2⟩ := conv_sound hT h h1 (hops x (by simp) u hu)
    exact ⟨v', W, G, .inl (run_exec_v r1), r2, h, St.refl _ _ _ _⟩
  case makeInterface t x =>
    obtain ⟨u, hu, hl⟩ := ev1 hl
    cases hti : c.T t with
    | none => rw [hti] at hl; cases hl
    | some ti =>
      rw [hti] at hl
      simp only at hl
      have hv := hops x (by simp) u hu
      obtain ⟨d, hd, hk⟩ := under_d (hT t ti hti)
      have hl' : some (AVal.ifc t u, H) = some (v, H1) ∧ ∀ ms, d ≠ .interface ms := by
        cases hkk : ti.k <;> rw [hkk] at hl hk <;> first | (cases hl; done) | exact ⟨hl, by rintro ms rfl; simp [KR] at hk⟩
      obtain ⟨hl1, hl2⟩ := hl'
      obtain ⟨rfl, rfl⟩ := Prod.mk.inj (Option.some.inj hl1)
      refine ⟨.iface t (a.eval x), W, G, .inl ?_, .ifc hv, h, St.refl _ _ _ _⟩
      refine run_exec_v ?_
      simp only [Instr.makeInterface, Sem.run_bind, run_underlying hd, Result.andThen_ok]
      cases d <;> first | exact absurd rfl (hl2 _) | rfl
  case makeFunc fn first cap =>
    cases fn <;> try (cases hl; done)
    rename_i f
    simp only at hl
    split at hl
    · rename_i hfirst
      cases hp : evs e cap.toList with
      | none => rw [hp] at hl; cases hl
      | some l =>
        rw [hp] at hl
        obtain ⟨rfl, rfl⟩ := Prod.mk.inj (Option.some.inj hl)
        have h2 := evs_sound (G := G) (a := a) cap.toList l hp (fun x hx u hu => hops x (by simp; right; simpa using hx) u hu)
        have hfe : first = #[] := by simpa using hfirst
        subst hfe
        refine ⟨.func (.func f) #[] (cap.map a.eval), W, G, .inl (run_exec_v (by simp [Instr.makeFunc])), ?_, h, St.refl _ _ _ _⟩
        have h3 : L2 (VR G) l (cap.map a.eval).toList := by simpa using h2
        exact .fn h3.1 h3.2
    · split at hl
      · rename_i hcap
        cases hp : evs e first.toList with
        | none => rw [hp] at hl; cases hl
        | some l =>
          rw [hp] at hl
          obtain ⟨rfl, rfl⟩ := Prod.mk.inj (Option.some.inj hl)
          have h2 := evs_sound (G := G) (a := a) first.toList l hp (fun x hx u hu => hops x (by simp; left; simpa using hx) u hu)
          have hfe : cap = #[] := by simpa using hcap
          subst hfe
          refine ⟨.func (.func f) (first.map a.eval) #[], W, G, .inl (run_exec_v (by simp [Instr.makeFunc])), ?_, h, St.refl _ _ _ _⟩
          have h3 : L2 (VR G) l (first.map a.eval).toList := by simpa using h2
          exact .bfn h3.1 h3.2
      · cases hl
  case makeSlice t x y =>
    obtain ⟨u, w, hu, hw, hl⟩ := ev2 hl
    obtain ⟨v', W', G', r1, r2, r3, r4⟩ := makeSlice_sound hT h hf (hops x (by simp) u hu) (hops y (by simp) w hw) hl
    exact ⟨v', W', G', .inl (run_exec_v r1), r2, r3, r4⟩
  case slice t x lo hi mx =>
    obtain ⟨u, hu, hl⟩ := ev1 hl
    have ob : ∀ (y : Option Operand) (z : Option AVal), (match y with | none => some none | some o => (ev e o).map some) = some z → (∀ o, y = some o → ∀ u, ev e o = some u → VR G u (a.eval o)) → VRo G z (y.map a.eval) := by
      intro y z hz ho
      cases y with
      | none => obtain rfl := Option.some.inj hz; exact trivial
      | some o =>
        obtain ⟨w, hw, rfl⟩ := Option.map_eq_some_iff.1 hz
        exact ho o rfl w hw
    split at hl
    · rename_i l1 h1 m1 e1 e2 e3
      obtain ⟨hs, rfl⟩ := some_pair hl
      have hv : ∃ v', (Instr.sliceAt t (a.eval x) (lo.map a.eval) (hi.map a.eval) (mx.map a.eval)).run P W = .ok v' W ∧ VR G v v' := by
        cases hsl : aSlice c.T t u l1 h1 m1 with
        | some r =>
          rw [hsl] at hs
          obtain rfl := Option.some.inj hs
          exact slice_sound (W := W) hT hsl (hops x (by simp) u hu) (ob lo l1 e1 (fun o ho => hops o (by subst ho; simp))) (ob hi h1 e2 (fun o ho => hops o (by subst ho; simp))) (ob mx m1 e3 (fun o ho => hops o (by subst ho; simp)))
        | none =>
          rw [hsl] at hs
          simp only at hs
          split at hs
          case isFalse => cases hs
          exact sliceX_sound (W := W) hT h hs (hops x (by simp) u hu) (ob lo l1 e1 (fun o ho => hops o (by subst ho; simp))) (ob hi h1 e2 (fun o ho => hops o (by subst ho; simp))) (ob mx m1 e3 (fun o ho => hops o (by subst ho; simp)))
      obtain ⟨v', r1, r2⟩ := hv
      exact ⟨v', W, G, .inl (run_exec_v r1), r2, h, St.refl _ _ _ _⟩
    · cases hl
  case fieldAddr t x f =>
    obtain ⟨u, hu, hl⟩ := ev1 hl
    obtain ⟨h1, rfl⟩ := some_pair hl
    obtain ⟨v', r1, r2⟩ := fieldAddr_sound (W := W) hT h1 (hops x (by simp) u hu)
    exact ⟨v', W, G, .inl (run_exec_v r1), r2, h, St.refl _ _ _ _⟩
  case field t x f =>
    obtain ⟨u, hu, hl⟩ := ev1 hl
    obtain ⟨h1, rfl⟩ := some_pair hl
    obtain ⟨v', r1, r2⟩ := field_sound (W := W) hT h1 (hops x (by simp) u hu)
    exact ⟨v', W, G, .inl (run_exec_v r1), r2, h, St.refl _ _ _ _⟩
  case indexAddr t x y =>
    obtain ⟨u, w, hu, hw, hl⟩ := ev2 hl
    obtain ⟨h1, rfl⟩ := some_pair hl
    obtain ⟨v', r1, r2⟩ := indexAddr_sound (W := W) hT h1 (hops x (by simp) u hu) (hops y (by simp) w hw)
    exact ⟨v', W, G, .inl (run_exec_v r1), r2, h, St.refl _ _ _ _⟩
  case index t x y =>
    obtain ⟨u, w, hu, hw, hl⟩ := ev2 hl
    obtain ⟨h1, rfl⟩ := some_pair hl
    obtain ⟨v', r1, r2⟩ := index_sound (W := W) hT h1 (hops x (by simp) u hu) (hops y (by simp) w hw)
    exact ⟨v', W, G, .inl (run_exec_v r1), r2, h, St.refl _ _ _ _⟩
  case typeAssert x xt t ok =>
    split at hl
    · cases hl
    · rename_i hok
      have hok' : ok = false := by simpa using hok
      subst hok'
      cases hx : ev e x with
      | none => rw [hx] at hl; cases hl
      | some u =>
        rw [hx] at hl
        cases u <;> try (cases hl; done)
        rename_i ut w
        cases hti : c.T t with
        | none => rw [hti] at hl; cases hl
        | some ti =>
          rw [hti] at hl
          simp only at hl
          have hv := hops x (by simp) _ hx
          obtain ⟨d, hd, hk⟩ := under_d (hT t ti hti)
          have hl' : (if ut = t then some (w, H) else none) = some (v, H1) ∧ ∀ ms, d ≠ .interface ms := by
            cases hkk : ti.k <;> rw [hkk] at hl hk <;> first | (cases hl; done) | exact ⟨hl, by rintro ms rfl; simp [KR] at hk⟩
          obtain ⟨hl1, hl2⟩ := hl'
          split at hl1
          · rename_i hut
            subst hut
            obtain ⟨rfl, rfl⟩ := Prod.mk.inj (Option.some.inj hl1)
            cases hv' : a.eval x <;> rw [hv'] at hv <;> cases hv
            rename_i v' hvr
            refine ⟨v', W, G, .inl ?_, hvr, h, St.refl _ _ _ _⟩
            refine run_exec_v ?_
            simp only [hv', Instr.typeAssert, Sem.run_bind, run_underlying hd, Result.andThen_ok]
            cases d <;> first | exact absurd rfl (hl2 _) | (simp; done)
          · cases hl1
  case extract x i =>
    cases hx : ev e x with
    | none => rw [hx] at hl; cases hl
    | some u =>
      rw [hx] at hl
      cases u <;> try (cases hl; done)
      rename_i vs
      obtain ⟨h1, rfl⟩ := some_pair hl
      have hv := hops x (by simp) _ hx
      have hvs : ∃ vs', a.eval x = .tuple vs' ∧ L2 (VR G) vs vs'.toList := by
        cases vs with
        | nil => simp at h1
        | cons w ws =>
          cases hv' : a.eval x <;> rw [hv'] at hv <;> cases hv
          rename_i vs' hlen hall
          exact ⟨vs', rfl, hlen, hall⟩
      obtain ⟨vs', hv', hlen, hall⟩ := hvs
      obtain ⟨y, hy1, hy2⟩ := L2.get (r := VR G) ⟨hlen, hall⟩ h1
      refine ⟨y, W, G, .inl ?_, hy2, h, St.refl _ _ _ _⟩
      refine run_exec_v ?_
      have : vs'[i]? = some y := by simpa using hy1
      simp only [hv', Instr.extract, this, Sem.run_pure]
  case call k =>
    cases hc : k.callee <;> rw [hc] at hl <;> try (cases hl; done)
    rename_i b
    simp only at hl
    cases hp : evs e k.args.toList with
    | none => rw [hp] at hl; cases hl
    | some us =>
      rw [hp] at hl
      have h2 := evs_sound (G := G) (a := a) k.args.toList us hp (fun x hx u hu => hops x (by simp [Call.operands]; right; simpa using hx) u hu)
      obtain ⟨v', W', G', r1, r2, r3, r4⟩ := builtin_sound (ty := type) (cs := k.args.map fun | .const _ => true | _ => false) hT h hf hl h2
      refine ⟨v', W', G', .inl ?_, r2, r3, r4⟩
      simp only [execOp, resolve, hc, Sem.run_bind, Sem.run_pure, Result.andThen_ok, invoke]
      have e1 : (List.map a.eval k.args.toList).toArray = k.args.map a.eval := by apply Array.ext'; simp
      rw [e1] at r1
      rw [Array.toArray_toList] at r1
      exact r1
end Go.Proofs.YtfkgdlfponfimaaGreat.X
