import Derived.Test.YtfkgdlfponfimaaGreatU11
/- Every operation that is no call: what the simple machine answers, the model answers. -/
namespace Go.Proofs.YtfkgdlfponfimaaGreat.X
open Go Go.RowKit
variable {B : BT} {P : Program} {ν : Nm} {G G' : Gh} {H H1 : Heap} {W W' : World}
theorem some_pair {v : AVal} {H1 : Heap} {x : Option AVal} (h : (match x with | some v => some (v, H) | none => none : Option (AVal × Heap)) = some (v, H1)) : x = some v ∧ H1 = H := by
  cases x with
  | none => cases h
  | some u => obtain ⟨rfl, rfl⟩ := Prod.mk.inj (Option.some.inj h); exact ⟨rfl, rfl⟩
theorem some_heap {v : AVal} {H1 : Heap} {x : Option Heap} (h : (match x with | some h => some (.undef, h) | none => none : Option (AVal × Heap)) = some (v, H1)) : x = some H1 ∧ v = .undef := by
  cases x with
  | none => cases h
  | some u => obtain ⟨rfl, rfl⟩ := Prod.mk.inj (Option.some.inj h); exact ⟨rfl, rfl⟩
theorem L2_one {us : List AVal} {vs : List Value} {x : AVal} (h : L2 (VR G) us vs) (hu : us = [x]) : ∃ v, vs = [v] ∧ VR G x v := by
  subst hu
  match vs, h with
  | [v], h => exact ⟨v, rfl, h.2 0 _ _ rfl rfl⟩
  | [], h => exact absurd h.1 (by simp)
  | _ :: _ :: _, h => exact absurd h.1 (by simp)
theorem L2_two {us : List AVal} {vs : List Value} {x y : AVal} (h : L2 (VR G) us vs) (hu : us = [x, y]) : ∃ v w, vs = [v, w] ∧ VR G x v ∧ VR G y w := by
  subst hu
  match vs, h with
  | [v, w], h => exact ⟨v, w, rfl, h.2 0 _ _ rfl rfl, h.2 1 _ _ rfl rfl⟩
  | [], h => exact absurd h.1 (by simp)
  | [_], h => exact absurd h.1 (by simp)
  | _ :: _ :: _ :: _, h => exact absurd h.1 (by simp)
theorem builtin_sound {T : TT} (hT : TTok B P T) (h : R B G H W) (hf : Fresh ν G H) {b : Builtin} {ts : List TypeId} {us : List AVal} {vs : List Value} {ty : TypeId} {cs : Array Bool} {v : AVal} (hl : aBuiltin T ν H b ts us = some (v, H1)) (hu : L2 (VR G) us vs) :
    ∃ v' W' G', (builtin b ts.toArray ty cs vs.toArray).run P W = .ok (.value v') W' ∧ VR G' v v' ∧ R B G' H1 W' ∧ St ν G G' H H1 W W' := by
  unfold aBuiltin at hl
  split at hl
  · -- len
    rename_i x
    obtain ⟨y, rfl, hy⟩ := L2_one hu rfl
    split at hl
    · rename_i hk
      cases hn : lenOf H x with
      | none => rw [hn] at hl; cases hl
      | some n =>
        rw [hn] at hl
        obtain ⟨rfl, rfl⟩ := Prod.mk.inj (Option.some.inj hl)
        refine ⟨.int .i64 n, W, G, ?_, .int _ _, h, St.refl _ _ _ _⟩
        cases ts with
        | nil => simp [lenKind] at hk
        | cons t ts =>
          simp only [lenKind] at hk
          cases hti : T t with
          | none => rw [hti] at hk; cases hk
          | some ti =>
            rw [hti] at hk
            simp only at hk
            have run : ∀ d, P.underlying t = some d → (match d, y with | .string, .string s => (Pure.pure (goInt s.size) : Sem Value) | .slice _, .slice _ m _ => Pure.pure (goInt m) | _, _ => stuck "") = Pure.pure (.int .i64 n) → (builtin .len (t :: ts).toArray ty cs [y].toArray).run P W = .ok (.value (.int .i64 n)) W := by
              intro d hd he
              simp only [builtin, Builtin.len_, List.getElem?_toArray, List.getElem?_cons_zero, Sem.run_bind, run_underlying hd, Result.andThen_ok]
              cases d <;> cases y <;> first
                | (simp only at he; simp only [he, Sem.run_pure, Result.andThen_ok]; done)
                | (exfalso; have := congrArg (fun s : Sem Value => s.run P W) he; simp at this; done)
            cases hkk : ti.k <;> rw [hkk] at hk <;> try (cases hy <;> cases hk; done)
            · cases hy with
              | str s => exact run _ (under_str (hT t ti hti) hkk) (by simp only [lenOf] at hn; obtain rfl := Option.some.inj hn; rfl)
              | _ => cases hk
            · rename_i e
              have hd := under_slice (hT t ti hti) hkk
              cases hy with
              | nls => exact run _ hd (by simp only [lenOf] at hn; obtain rfl := Option.some.inj hn; rfl)
              | nne => exact run _ hd (by simp only [lenOf] at hn; obtain rfl := Option.some.inj hn; rfl)
              | emp => exact run _ hd (by simp only [lenOf] at hn; obtain rfl := Option.some.inj hn; rfl)
              | lst0 => exact run _ hd (by simp only [lenOf] at hn; obtain rfl := Option.some.inj hn; rfl)
              | lst => exact run _ hd (by simp only [lenOf] at hn; obtain rfl := Option.some.inj hn; rfl)
              | slc => exact run _ hd (by simp only [lenOf] at hn; obtain rfl := Option.some.inj hn; rfl)
              | str => cases hk
              | nilm => cases hk
              | map => cases hk
              | _ => simp [lenOf] at hn
    · cases hl
  · -- clear
    rename_i x
    obtain ⟨y, rfl, hy⟩ := L2_one hu rfl
    split at hl
    · rename_i t
      cases hc : aClear T H t x with
      | none => rw [hc] at hl; cases hl
      | some h1 =>
        rw [hc] at hl
        obtain ⟨rfl, rfl⟩ := Prod.mk.inj (Option.some.inj hl)
        obtain ⟨W', r1, r2, r3⟩ := clear_sound (ν := ν) (ty := ty) hT h hc hy
        exact ⟨.tuple #[], W', G, by simp only [builtin, Sem.run_bind, r1, Result.andThen_ok, Sem.run_pure], VR.mkTup L2.nil, r2, r3⟩
    · cases hl
  · -- append
    rename_i x y
    obtain ⟨x', y', rfl, hx, hy⟩ := L2_two hu rfl
    split at hl
    · rename_i t t2
      split at hl
      · rename_i hs
        obtain ⟨v', W', G', r1, r2, r3, r4⟩ := append_sound (ty := ty) hT h hf hl hs hx hy
        exact ⟨v', W', G', by simp only [builtin, Sem.run_bind, r1, Result.andThen_ok, Sem.run_pure], r2, r3, r4⟩
      · cases hl
    · cases hl
  · -- copy
    rename_i x y
    obtain ⟨x', y', rfl, hx, hy⟩ := L2_two hu rfl
    split at hl
    · rename_i t t2
      obtain ⟨v', W', G', r1, r2, r3, r4⟩ := copy_sound (ν := ν) (t2 := t2) (ty := ty) hT h hl hx hy
      exact ⟨v', W', G', by simp only [builtin, Sem.run_bind, r1, Result.andThen_ok, Sem.run_pure], r2, r3, r4⟩
    · cases hl
  · rename_i x r
    cases hm : aMinMaxAll false x r with
    | none => rw [hm] at hl; cases hl
    | some u =>
      rw [hm] at hl
      obtain ⟨rfl, rfl⟩ := Prod.mk.inj (Option.some.inj hl)
      obtain ⟨y, ys, rfl⟩ : ∃ p' ps'', vs = p' :: ps'' := by
        cases vs with
        | nil => exact absurd hu.1 (by simp)
        | cons a b => exact ⟨a, b, rfl⟩
      obtain ⟨v', g1, g2⟩ := minmax_sound (P := P) (W := W) r x u ys y hm (hu.2 0 _ _ rfl rfl) ⟨by simpa using hu.1, fun j a b ha hb => hu.2 (j + 1) a b (by simpa using ha) (by simpa using hb)⟩
      refine ⟨v', W, G, ?_, g2, h, St.refl _ _ _ _⟩
      simp only [Bool.false_eq_true, if_false] at g1
      simp only [builtin, Builtin.min_, Sem.run_bind, g1, Result.andThen_ok, Sem.run_pure]
  · rename_i x r
    cases hm : aMinMaxAll true x r with
    | none => rw [hm] at hl; cases hl
    | some u =>
      rw [hm] at hl
      obtain ⟨rfl, rfl⟩ := Prod.mk.inj (Option.some.inj hl)
      obtain ⟨y, ys, rfl⟩ : ∃ p' ps'', vs = p' :: ps'' := by
        cases vs with
        | nil => exact absurd hu.1 (by simp)
        | cons a b => exact ⟨a, b, rfl⟩
      obtain ⟨v', g1, g2⟩ := minmax_sound (P := P) (W := W) r x u ys y hm (hu.2 0 _ _ rfl rfl) ⟨by simpa using hu.1, fun j a b ha hb => hu.2 (j + 1) a b (by simpa using ha) (by simpa using hb)⟩
      refine ⟨v', W, G, ?_, g2, h, St.refl _ _ _ _⟩
      simp only [if_true] at g1
      simp only [builtin, Builtin.max_, Sem.run_bind, g1, Result.andThen_ok, Sem.run_pure]
  · cases hl
theorem mixed_int {T : TT} {op : BinOp} {t : TypeId} {k : IntKind} {a : Int} {y v : AVal} (hy : ∀ k' b, y ≠ .int k' b) : aBin T op t (.int k a) y ≠ some v := by
  intro h
  have h' : aCmp op (aEqB T t (.int k a) y) = some v := by cases y <;> first | exact absurd rfl (hy _ _) | exact h
  have : aEqB T t (.int k a) y = none := by
    simp only [aEqB, aEqA, aEq]
    cases hti : T t with
    | none => rfl
    | some ti =>
      simp only
      cases hk : ti.k <;> (cases y <;> first | exact absurd rfl (hy _ _) | rfl)
  rw [this] at h'
  cases op <;> cases h'
theorem mixed_str {T : TT} {op : BinOp} {t : TypeId} {a : ByteArray} {y v : AVal} (hy : ∀ b, y ≠ .str b) : aBin T op t (.str a) y ≠ some v := by
  intro h
  have h' : aCmp op (aEqB T t (.str a) y) = some v := by cases y <;> first | exact absurd rfl (hy _) | exact h
  have : aEqB T t (.str a) y = none := by
    simp only [aEqB, aEqA, aEq]
    cases hti : T t with
    | none => rfl
    | some ti =>
      simp only
      cases hk : ti.k <;> (cases y <;> first | exact absurd rfl (hy _) | rfl)
  rw [this] at h'
  cases op <;> cases h'
theorem bin_sound {T : TT} (hT : TTok B P T) {op : BinOp} {t : TypeId} {x y v : AVal} {x' y' : Value} (hl : aBin T op t x y = some v) (hx : VR G x x') (hy : VR G y y') (xo yo : Operand) (hc : x = .nili → ∃ c, xo = .const c ∨ yo = .const c) :
    ∃ v', (do eqGuard op t xo yo x' y'; binOp op t x' y' : Sem Value).run P W = .ok v' W ∧ VR G v v' := by
  have general : (∀ k a, x ≠ .int k a) → (∀ s, x ≠ .str s) → ∃ v', (do eqGuard op t xo yo x' y'; binOp op t x' y' : Sem Value).run P W = .ok v' W ∧ VR G v v' := by
    intro n1 n2
    have hl' : aCmp op (aEqB T t x y) = some v := by
      cases x <;> first | exact absurd rfl (n1 _ _) | exact absurd rfl (n2 _) | exact hl
    cases heqB : aEqB T t x y with
    | none => rw [heqB] at hl'; cases op <;> cases hl'
    | some b =>
      rw [heqB] at hl'
      have hthree : (eqGuard op t xo yo x' y').run P W = .ok () W ∧ (Op.equal t x' y').run P W = .ok b W ∧ ∀ vs, x ≠ .tup vs := by
        unfold aEqB at heqB
        split at heqB
        · rename_i b2 heq
          obtain rfl := Option.some.inj heqB
          refine ⟨guard_plain (P := P) (W := W) (op := op) hT heq hx hy xo yo hc, eq_sound hT 4 t x y b2 x' y' heq hx hy 9996, ?_⟩
          rintro vs rfl
          simp only [aEq] at heq
          cases hti : T t with
          | none => rw [hti] at heq; cases heq
          | some ti => rw [hti] at heq; simp only at heq; cases hk : ti.k <;> rw [hk] at heq <;> cases heq
        · obtain ⟨q1, q2, xs, rfl⟩ := eqA_sound (P := P) (W := W) (op := op) hT heqB hx hy xo yo
          exact ⟨q1, q2, fun vs e => by cases e⟩
      obtain ⟨hg, he, hnt⟩ := hthree
      have hsh : (∀ k n, x' ≠ .int k n) ∧ (∀ s, x' ≠ .string s) ∧ (∀ k n, x' ≠ .float k n) ∧ (∀ k n m, x' ≠ .complex k n m) := by
        cases hx <;> first | exact absurd rfl (n1 _ _) | exact absurd rfl (n2 _) | exact absurd rfl (hnt _) | simp
      have hb : op = .eql ∨ op = .neq := by cases op <;> first | (exact .inl rfl) | (exact .inr rfl) | (cases hl')
      rcases hb with rfl | rfl
      · obtain rfl := Option.some.inj hl'
        refine ⟨.bool b, ?_, .bool b⟩
        have : binOp .eql t x' y' = (do pure (.bool (← Op.equal t x' y')) : Sem Value) := by
          cases x' <;> first | exact absurd rfl (hsh.1 _ _) | exact absurd rfl (hsh.2.1 _) | exact absurd rfl (hsh.2.2.1 _ _) | exact absurd rfl (hsh.2.2.2 _ _ _) | (cases y' <;> rfl)
        rw [this]
        simp only [Sem.run_bind, hg, Result.andThen_ok, he, Sem.run_pure]
      · obtain rfl := Option.some.inj hl'
        refine ⟨.bool (!b), ?_, .bool _⟩
        have : binOp .neq t x' y' = (do pure (.bool (!(← Op.equal t x' y'))) : Sem Value) := by
          cases x' <;> first | exact absurd rfl (hsh.1 _ _) | exact absurd rfl (hsh.2.1 _) | exact absurd rfl (hsh.2.2.1 _ _) | exact absurd rfl (hsh.2.2.2 _ _ _) | (cases y' <;> rfl)
        rw [this]
        simp only [Sem.run_bind, hg, Result.andThen_ok, he, Sem.run_pure]
  have noguard : ∀ {w : Value}, (∀ cs, x' ≠ .agg cs) → x' ≠ .nilIface → (binOp op t x' y').run P W = .ok w W → (do eqGuard op t xo yo x' y'; binOp op t x' y' : Sem Value).run P W = .ok w W := by
    intro w n1 n2 hr
    have : (eqGuard op t xo yo x' y').run P W = .ok () W := by
      unfold eqGuard
      cases x' <;> first | exact absurd rfl (n1 _) | exact absurd rfl n2 | (simp; done) | (simp; split <;> simp)
    simp only [Sem.run_bind, this, Result.andThen_ok, hr]
  cases hx with
  | int k a => cases hy with
    | int k' b =>
      simp only [aBin] at hl
      by_cases h1 : op = .shl
      · subst h1
        simp only [aIntB] at hl
        split at hl
        · cases hl
        · rename_i hb
          obtain rfl := Option.some.inj hl
          refine ⟨_, noguard (by simp) (by simp) (w := .int k (k.wrap (a * 2 ^ min b.toNat k.bits))) ?_, .int _ _⟩
          simp only [binOp, Op.shift]
          rw [if_neg hb]; rfl
      · by_cases h2 : op = .shr
        · subst h2
          simp only [aIntB] at hl
          split at hl
          · cases hl
          · rename_i hb
            obtain rfl := Option.some.inj hl
            refine ⟨_, noguard (by simp) (by simp) (w := .int k (a.fdiv (2 ^ min b.toNat k.bits))) ?_, .int _ _⟩
            simp only [binOp, Op.shift]
            rw [if_neg hb]; rfl
        · have hl' : (if k = k' then aInt op k a b else none) = some v := by
            cases op <;> first | exact absurd rfl h1 | exact absurd rfl h2 | exact hl
          split at hl'
          · rename_i hk; subst hk
            obtain ⟨v', g1, g2⟩ := int_sound (P := P) (W := W) (G := G) (t := t) hl' ⟨h1, h2⟩
            exact ⟨v', noguard (by simp) (by simp) g1, g2⟩
          · cases hl'
    | _ => exact absurd hl (mixed_int (by simp))
  | str a => cases hy with
    | str b =>
      simp only [aBin] at hl
      obtain ⟨v', g1, g2⟩ := str_sound (P := P) (W := W) (G := G) hl
      refine ⟨v', noguard (by simp) (by simp) ?_, g2⟩
      rw [← g1]
      cases op <;> rfl
    | _ => exact absurd hl (mixed_str (by simp))
  | _ => exact general (by simp) (by simp)
end Go.Proofs.YtfkgdlfponfimaaGreat.X
