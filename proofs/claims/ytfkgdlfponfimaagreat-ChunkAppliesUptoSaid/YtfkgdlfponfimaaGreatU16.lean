import Derived.Test.YtfkgdlfponfimaaGreatU15
import Derived.Calls
import Derived.LoopN
import Derived.Orders
/- Calls: what the simple machine answers to a call, the model answers, if what it answers to code does. -/
namespace Go.Proofs.YtfkgdlfponfimaaGreat.X
open Go Go.RowKit
variable {B : BT} {P : Program} {ν : Nm} {G G' : Gh} {H H1 : Heap} {W W' : World} {c : Cfg}
def ER (G : Gh) (e : Env) (a : Act) : Prop := L2 (VR G) e a.tmps.toList
def toExit : AOut → Exit
  | .norm => .normal
  | .exit id => .exit id
  | .ret => .ret
def CPost (B : BT) (ν : Nm) (G : Gh) (H H1 : Heap) (W : World) (v : AVal) : Ending → World → Prop := fun e w' => ∃ v' G', e = .returned v' ∧ VR G' v v' ∧ R B G' H1 w' ∧ St ν G G' H H1 W w'
def XPost (B : BT) (ν : Nm) (G : Gh) (H H1 : Heap) (W : World) (o : AOut) (e1 : Env) (ds : List Deferred) : Exit → Act → World → Prop := fun ex a' w' => ex = toExit o ∧ a'.defers = ds ∧ ∃ G', R B G' H1 w' ∧ ER G' e1 a' ∧ St ν G G' H H1 W w'
def GivenOK (B : BT) (P : Program) (g : Given) (f : FuncId) : Prop :=
  (∃ fn, P.funcs[f]? = some fn ∧ fn.body.isSome = true ∧ fn.name ≠ "runtime.NumGoroutine") ∧
  ∀ args H v H1, aGiven g args H = some (v, H1) → ∀ ν G W (args' : Array Value), R B G H W → Fresh ν G H → L2 (VR G) args args'.toList → Calls P f args' W (CPost B ν G H H1 W v)
def intT (c : Cfg) (d : TypeId) : Bool := match c.T d with
  | some ti => match ti.k with
    | .int _ => true
    | _ => false
  | none => false
def opClass (c : Cfg) (o : Oper) : Nat := match o.op with
  | .convert _ d _ => if intT c d = true then 0 else 1
  | .load .. | .lookup .. => 1
  | .slice _ _ lo hi _ => if (lo.isSome && hi.isSome) = true then 1 else 0
  | .store .. | .alloc _ | .box .. | .makeSlice .. | .makeMap .. | .mapUpdate .. => 3
  | .call k => match k.callee with
    | .builtin b => match b with
      | .len | .min | .max => 0
      | _ => 3
    | .value f => match f with
      | .func f => match c.given f with
        | some _ => 3
        | none => match c.fn f with
          | some fi => match fi.mode with
            | .pure => 0
            | .borrow => 1
            | .look => 1
            | _ => 3
          | none => 3
      | _ => 3
    | .invoke _ _ => 3
  | _ => 0
def isA (o : Oper) : Bool := match o.op with
  | .alloc _ | .box .. | .makeSlice .. => true
  | .makeMap _ r => r.isNone
  | _ => false
def cls (c : Cfg) (ops : Array Oper) (rs : List Tmp) (o : Oper) : Nat := if flagged ops rs o = true then 0 else if isA o = true then 0 else opClass c o
def clash (c : Cfg) (ops : Array Oper) (rs : List Tmp) (x y : Oper) : Bool := !(x.apart ops y) || (cls c ops rs x == 3 && decide (1 ≤ cls c ops rs y)) || (decide (1 ≤ cls c ops rs x) && cls c ops rs y == 3)
def backEdges (o : Oper) (i : Nat) : Bool := o.after.toList.all fun e => !Region.binds .any e || decide (e.on < i)
def waits (ops : Array Oper) : Nat → Nat → Nat → Bool
  | 0, _, _ => false
  | n + 1, k, i => match ops[k]? with
    | some o => o.after.toList.any fun e => Region.binds .any e && (e.on == i || waits ops n e.on i)
    | none => false
def drawOK (c : Cfg) (rs : List Tmp) (ops : Array Oper) : Bool :=
  (List.range ops.size).all fun k => match ops[k]? with
    | some y => backEdges y k && (List.range k).all fun i => match ops[i]? with
      | some x => !(clash c ops rs x y) || waits ops 4 k i
      | none => true
    | none => true
def codeOK (c : Cfg) : Code → Bool
  | .region id ops d => !d || drawOK c (c.roots id ops) ops
  | .seq a b => codeOK c a && codeOK c b
  | .cond _ a b => codeOK c a && codeOK c b
  | .block _ a => codeOK c a
  | .loop a => codeOK c a
  | _ => true
def toRV : RV → ResultVar
  | .tmp t => .tmp t
  | .cell a t => .cell a t
def Handed (P : Program) (W : World) (d : Option TypeId) (v u : Value) : Prop := match d with
  | none => u = v
  | some el => (Instr.loadAt el v).run P W = .ok u W
structure COK (B : BT) (P : Program) (c : Cfg) : Prop where
  T : TTok B P c.T
  fn : ∀ f fi, c.fn f = some fi → ∃ fn, P.funcs[f]? = some fn ∧ fn.body = some fi.body ∧ fn.ntmps = fi.ntmps ∧ fn.results.toList = fi.results.map toRV ∧ codeOK c fi.body = true ∧ fn.name ≠ "runtime.NumGoroutine"
  given : ∀ f g, c.given f = some g → GivenOK B P g f
  meth : ∀ t m f d, c.meth t m = some (f, d) → (∃ fn, P.funcs[f]? = some fn ∧ fn.body.isSome = true ∧ fn.name ≠ "runtime.NumGoroutine") ∧ ∀ v W u, Handed P W d v u → (method (P.types.size + Made.depth) t v m).run P W = .ok (f, u) W
  mixed : P.follows .mixedOrders = true
def ExOK (B : BT) (P : Program) (c : Cfg) (rec : RecA) : Prop :=
  ∀ ν code e H o e1 H1, rec ν code e H = some (o, e1, H1) → codeOK c code = true → ∀ G W a, R B G H W → Fresh ν G H → ER G e a → code.wp P (XPost B ν G H H1 W o e1 a.defers) a W
theorem ER.get {e : Env} {a : Act} (h : ER G e a) (t : Tmp) : VR G (e.getD t .undef) (a.tmps.getD t undef) := by
  by_cases ht : t < e.length
  · obtain ⟨y, hy, hr⟩ := L2.get h (List.getElem?_eq_getElem ht)
    have e1 : e.getD t .undef = e[t] := by rw [List.getD_eq_getElem?_getD, List.getElem?_eq_getElem ht]; rfl
    have e2 : a.tmps.getD t undef = y := by
      have : a.tmps[t]? = some y := by simpa using hy
      simp [Array.getD_eq_getD_getElem?, this]
    rw [e1, e2]; exact hr
  · have e1 : e.getD t .undef = .undef := by rw [List.getD_eq_getElem?_getD, List.getElem?_eq_none (Nat.le_of_not_lt ht)]; rfl
    have e2 : a.tmps.getD t undef = undef := by
      have hl : e.length = a.tmps.size := by simpa using h.1
      have : a.tmps[t]? = none := by rw [Array.getElem?_eq_none]; rw [← hl]; exact Nat.le_of_not_lt ht
      simp [Array.getD_eq_getD_getElem?, this]
    rw [e1, e2]; exact undef_VR
theorem evs_of_ER {e : Env} {a : Act} (h : ER G e a) (xs : Array Operand) : Evs G e a xs := by
  intro x hx u hu
  cases x with
  | tmp t => simp only [ev] at hu; obtain rfl := Option.some.inj hu; exact h.get t
  | const v => exact constAny_sound hu
  | global g => cases hu
  | func f => simp only [ev] at hu; obtain rfl := Option.some.inj hu; exact .fn rfl (fun i x v hx => by simp at hx)
theorem ER.mono {e : Env} {a : Act} (h : ER G e a) (hg : Gle G G') : ER G' e a := L2.mono h fun _ _ hv => hv.mono hg
theorem ER.put {e : Env} {a : Act} (h : ER G e a) (dst : Option Tmp) {v : AVal} {v' : Value} (hv : VR G v v') : ER G (putT e dst v) (a.put dst v') := by
  cases dst with
  | none => exact h
  | some d =>
    have : (a.put (some d) v').tmps.toList = a.tmps.toList.set d v' := by simp [Act.put]
    show L2 (VR G) (e.set d v) _
    rw [this]
    exact L2.set h d hv
theorem put_defers (a : Act) (dst : Option Tmp) (v : Value) : (a.put dst v).defers = a.defers := by cases dst <;> rfl
theorem R.restore (h : R B G H W) (hf : Fresh ν G H) (hle : Gle G G') (hmu : ∀ q, under ν q = false → G'.mu q = G.mu q) (hF : ∀ b o v, G'.F b o = some v → G.F b o = some v ∨ W.heap.size ≤ b) (hc : ∀ b o v, G'.F b o = some v → W'.cell? ⟨b, o, none⟩ = some v)
    (hsz : W.heap.size ≤ W'.heap.size) (hb : ∀ b, b < W.heap.size → W'.heap[b]? = W.heap[b]?) (hsm : Same W W') : R B G' H W' ∧ St ν G G' H H W W' := by
  have live : ∀ q l ob, G'.mu q = some l → H q = some ob → G.mu q = some l := by
    intro q l ob h1 h2
    cases hu : under ν q with
    | true => rw [(hf q hu).2] at h2; cases h2
    | false => rw [← hmu q hu]; exact h1
  have back : ∀ q l ob k, G.mu q = some l → H q = some ob → ownB ob l W' k → ownB ob l W k := fun q l ob k h1 h2 h3 => h3.back (hb _ (h.ob q l ob h1 h2).lt)
  have ow : ∀ b, Ow G' H W' b → Ow G H W b := fun b ⟨q, l, ob, h1, h2, h3⟩ => ⟨q, l, ob, live _ _ _ h1 h2, h2, back _ _ _ _ (live _ _ _ h1 h2) h2 h3⟩
  refine ⟨⟨hc, fun b o v e e' => ?_, fun q l ob h1 h2 => ?_, fun q q' l l' o1 o2 k h1 h2 h3 h4 h5 h6 => ?_⟩, hle, hmu, fun b o v e => ?_, fun _ _ e => e, hsz, fun b hlt _ => hb b hlt, fun b e => .inr (ow b e), hsm, fun _ _ _ => Z⟩
  · have hO := ow b e'
    have := h.lt hO
    rcases hF b o v e with e | e
    · exact h.fo b o v e hO
    · omega
  · exact (h.ob q l ob (live _ _ _ h1 h2) h2).congr hle fun k hk => hb k (hk.lt (h.ob q l ob (live _ _ _ h1 h2) h2))
  · exact h.dj q q' l l' o1 o2 k (live _ _ _ h1 h2) h2 (live _ _ _ h3 h4) h4 (back _ _ _ _ (live _ _ _ h1 h2) h2 h5) (back _ _ _ _ (live _ _ _ h3 h4) h4 h6)
  · rcases hF b o v e with e | e
    · exact .inl e
    · exact .inr (.inl e)
theorem empty_R (h : R B G H W) : R B G (fun _ => none) W := h.sub (fun q ob e => by cases e)
theorem no_own : ∀ b, ¬ Ow G (fun _ => none) W b := fun b ⟨q, l, ob, _, h2, _⟩ => by cases h2
theorem runF_sound (hc : COK B P c) {rec : RecA} (hr : ExOK B P c rec) {f : FuncId} {fi : FI} (hfi : c.fn f = some fi) {args : List AVal} {args' : Array Value} {v : AVal} (hl : runF c.T rec fi ν args H = some (v, H1)) (h : R B G H W) (hf : Fresh ν G H) (ha : L2 (VR G) args args'.toList) :
    Calls P f args' W (CPost B ν G H H1 W v) := by
  obtain ⟨fn, h1, h2, h3, h4, h5, _⟩ := hc.fn f fi hfi
  unfold runF at hl
  have hal : args.length = args'.size := by simpa using ha.1
  have hER : ER G (args ++ List.replicate (fi.ntmps - args.length) .undef) { tmps := args' ++ Array.replicate (fn.ntmps - args'.size) undef, defers := [] } := by
    show L2 (VR G) _ (args' ++ Array.replicate (fn.ntmps - args'.size) undef).toList
    rw [Array.toList_append, Array.toList_replicate, h3, ← hal]
    exact ha.append (L2.replicate _ undef_VR)
  cases hrec : rec ν fi.body (args ++ List.replicate (fi.ntmps - args.length) .undef) H with
  | none => rw [hrec] at hl; cases hl
  | some r =>
    obtain ⟨o, e1, H2⟩ := r
    rw [hrec] at hl
    have hwp := hr _ _ _ _ _ _ _ hrec h5 G W { tmps := args' ++ Array.replicate (fn.ntmps - args'.size) undef, defers := [] } h hf hER
    refine calls_of_wp h1 h2 (wp_mono hwp ?_)
    have fin : ∀ (a' : Act) (w' : World) (u : AVal), (∃ G', R B G' H2 w' ∧ ER G' e1 a' ∧ St ν G G' H H2 W w') → resOf c.T fi e1 H2 = some u → v = u → H1 = H2 → a'.defers = [] → (a'.defers = [] ∧ ∃ v', (results fn a'.tmps).run P w' = .ok v' w' ∧ CPost B ν G H H1 W v (.returned v') w') := by
      rintro a' w' u ⟨G', g1, g2, g3⟩ hres rfl rfl hd
      have key : ∀ (g : ResultVar → Sem Value), (∀ t, g (.tmp t) = pure (a'.tmps.getD t undef)) → (∀ b t, g (.cell b t) = (do loadVar t (← asAddr (a'.tmps.getD b undef)))) → ∀ (l : List RV) (us : List AVal), rvsOf c.T e1 H1 l = some us →
          ∃ vs, ((l.map toRV).mapM g).run P w' = .ok vs w' ∧ L2 (VR G') us vs := by
        intro g hg1 hg2 l
        induction l with
        | nil => intro us hus; simp only [rvsOf] at hus; obtain rfl := Option.some.inj hus; exact ⟨[], rfl, L2.nil⟩
        | cons r l ih =>
          intro us hus
          simp only [rvsOf] at hus
          cases hr1 : rvOf c.T e1 H1 r with
          | none => rw [hr1] at hus; cases hus
          | some y =>
            rw [hr1] at hus
            simp only at hus
            cases hr2 : rvsOf c.T e1 H1 l with
            | none => rw [hr2] at hus; cases hus
            | some ys =>
              rw [hr2] at hus
              obtain rfl := Option.some.inj hus
              obtain ⟨vs, k1, k2⟩ := ih ys hr2
              have : ∃ y', (g (toRV r)).run P w' = .ok y' w' ∧ VR G' y y' := by
                cases r with
                | tmp t =>
                  simp only [rvOf] at hr1
                  obtain rfl := Option.some.inj hr1
                  exact ⟨_, by simp only [toRV, hg1, Sem.run_pure], g2.get t⟩
                | cell b t =>
                  simp only [rvOf] at hr1
                  have hv := g2.get b
                  obtain ⟨y', m1, m2⟩ := load_sound hc.T g1 hr1 hv
                  refine ⟨y', ?_, m2⟩
                  simp only [toRV, hg2]
                  rw [← m1]
                  unfold aLoad at hr1
                  cases hT : c.T t with
                  | none => rw [hT] at hr1; cases hr1
                  | some ti =>
                    rw [hT] at hr1
                    cases hb : e1.getD b .undef <;> rw [hb] at hr1 hv <;> (try (cases hr1; done)) <;> (cases hb' : a'.tmps.getD b undef <;> rw [hb'] at hv <;> cases hv <;> rfl)
              obtain ⟨y', m1, m2⟩ := this
              exact ⟨y' :: vs, by simp only [List.map_cons, List.mapM_cons, Sem.run_bind, m1, k1, Result.andThen_ok, Sem.run_pure], L2.cons m2 k2⟩
      unfold resOf at hres
      cases hvs : rvsOf c.T e1 H1 fi.results with
      | none => rw [hvs] at hres; cases hres
      | some us =>
        rw [hvs] at hres
        obtain rfl := Option.some.inj hres
        obtain ⟨vs, k1, k2⟩ := key (fun | .tmp t => pure (a'.tmps.getD t undef) | .cell a t => do loadVar t (← asAddr (a'.tmps.getD a undef))) (fun t => rfl) (fun b t => rfl) fi.results us hvs
        have hrun : (results fn a'.tmps).run P w' = .ok (if h : vs.toArray.size = 1 then vs.toArray[0] else .tuple vs.toArray) w' := by
          unfold results
          rw [Array.mapM_eq_mapM_toList, h4, Sem.run_bind, Sem.run_map]
          erw [k1]
          rfl
        refine ⟨hd, _, hrun, _, G', Z, ?_, g1, g3⟩
        by_cases h1 : ∃ x, us = [x]
        · obtain ⟨x, rfl⟩ := h1
          match vs, k2 with
          | [y], k2 => exact k2.2 0 _ _ rfl rfl
          | [], k2 => exact absurd k2.1 (by simp)
          | _ :: _ :: _, k2 => exact absurd k2.1 (by simp)
        · have hne : vs.toArray.size ≠ 1 := by
            intro hl1
            simp only [List.size_toArray] at hl1
            rw [← k2.1] at hl1
            match us, hl1, h1 with
            | [x], _, h1 => exact h1 ⟨x, rfl⟩
          rw [dif_neg hne]
          have ho : oneOf us = .tup us := by
            match us, h1 with
            | [], _ => rfl
            | [x], h1 => exact absurd ⟨x, rfl⟩ h1
            | _ :: _ :: _, _ => rfl
          rw [ho]
          exact VR.mkTup (by simpa using k2)
    rintro ex a' w' ⟨hex, hd, hG⟩
    cases o with
    | norm =>
      simp only at hl
      cases hro : resOf c.T fi e1 H2 with
      | none => rw [hro] at hl; cases hl
      | some u =>
        rw [hro] at hl
        obtain ⟨rfl, rfl⟩ := Prod.mk.inj (Option.some.inj hl)
        subst hex
        exact fin a' w' _ hG hro rfl rfl hd
    | ret =>
      simp only at hl
      cases hro : resOf c.T fi e1 H2 with
      | none => rw [hro] at hl; cases hl
      | some u =>
        rw [hro] at hl
        obtain ⟨rfl, rfl⟩ := Prod.mk.inj (Option.some.inj hl)
        subst hex
        exact fin a' w' _ hG hro rfl rfl hd
    | exit id => cases hl
end Go.Proofs.YtfkgdlfponfimaaGreat.X
