import Derived.Test.YtfkgdlfponfimaaGreatU26
/- Maps as functions, and things made of things. -/
namespace Go.Proofs.YtfkgdlfponfimaaGreat.X
open Go
variable {c : Cfg} {ν : Nm} {e : Env} {H H1 : Heap}
def Asr.ex {α : Type} (f : α → Asr) : Asr := ⟨fun H fp => ∃ a, (f a).holds H fp, fun ⟨a, h⟩ hf => ⟨a, (f a).framed h hf⟩⟩
def Asr.all (L : List Asr) : Asr := ⟨hold L, hold.framed⟩
theorem hold_app : ∀ {L1 L2 : List Asr} {fp : List Nm}, hold (L1 ++ L2) H fp ↔ ∃ f1 f2, fp = f1 ++ f2 ∧ (∀ p ∈ f1, p ∉ f2) ∧ hold L1 H f1 ∧ hold L2 H f2
  | [], L2, fp => ⟨fun h => ⟨[], fp, rfl, by simp, rfl, h⟩, fun ⟨f1, f2, h0, _, h1, h2⟩ => by
      have h1 : f1 = [] := h1
      subst h1; subst h0; exact h2⟩
  | a :: L1, L2, fp => by
    constructor
    · rintro ⟨f1, f2, rfl, hd, h1, h2⟩
      obtain ⟨g1, g2, rfl, hd2, h3, h4⟩ := hold_app.1 h2
      exact ⟨f1 ++ g1, g2, by rw [List.append_assoc], fun p hp hm => (List.mem_append.1 hp).elim (fun h => hd p h (by simp [hm])) (fun h => hd2 p h hm), ⟨f1, g1, rfl, fun p hp hm => hd p hp (by simp [hm]), h1, h3⟩, h4⟩
    · rintro ⟨_, g2, rfl, hd2, ⟨f1, g1, rfl, hd, h1, h3⟩, h4⟩
      exact ⟨f1, g1 ++ g2, by rw [List.append_assoc], fun p hp hm => (List.mem_append.1 hm).elim (hd p hp) (hd2 p (by simp [hp])), h1, hold_app.2 ⟨g1, g2, rfl, fun p hp hm => hd2 p (by simp [hp]) hm, h3, h4⟩⟩
theorem hold_swap {a b : Asr} {L : List Asr} {fp : List Nm} (h : hold (a :: b :: L) H fp) : ∃ fp', hold (b :: a :: L) H fp' ∧ ∀ p, p ∈ fp' ↔ p ∈ fp := by
  obtain ⟨f1, _, rfl, hd, h1, f2, f3, rfl, hd2, h2, h3⟩ := h
  refine ⟨f2 ++ (f1 ++ f3), ⟨f2, f1 ++ f3, Z, fun p hp hm => ?_, h2, f1, f3, Z, fun p hp hm => hd p hp (by simp [hm]), h1, h3⟩, fun p => ?_⟩
  · rcases List.mem_append.1 hm with hm | hm
    · exact hd p hm (by simp [hp])
    · exact hd2 p hp hm
  · simp only [List.mem_append]
    constructor
    · rintro (h | h | h) <;> simp [h]
    · rintro (h | h | h) <;> simp [h]
theorem hold_pick : ∀ {L : List Asr} {k : Nat} {a : Asr} {fp : List Nm}, hold L H fp → L[k]? = some a → ∃ fp', hold (a :: L.eraseIdx k) H fp' ∧ ∀ p, p ∈ fp' ↔ p ∈ fp
  | [], _, _, _, _, hk => by simp at hk
  | b :: L, 0, a, fp, h, hk => by
    obtain rfl : b = a := by simpa using hk
    exact ⟨fp, h, fun _ => Iff.rfl⟩
  | b :: L, k + 1, a, fp, ⟨f1, f2, h0, hd, h1, h2⟩, hk => by
    obtain ⟨f3, h3, h4⟩ := hold_pick (k := k) h2 (by simpa using hk)
    have : hold (b :: a :: L.eraseIdx k) H (f1 ++ f3) := ⟨f1, f3, rfl, fun p hp hm => hd p hp ((h4 p).1 hm), h1, h3⟩
    obtain ⟨f5, h5, h6⟩ := hold_swap this
    exact ⟨f5, h5, fun p => by rw [h6, h0]; simp [h4]⟩
theorem hold_unpick : ∀ {L : List Asr} {k : Nat} {a b : Asr} {fp : List Nm}, hold (b :: L.eraseIdx k) H fp → L[k]? = some a → ∃ fp', hold (L.set k b) H fp' ∧ ∀ p, p ∈ fp' ↔ p ∈ fp
  | [], _, _, _, _, _, hk => by simp at hk
  | d :: L, 0, a, b, fp, h, hk => ⟨fp, h, fun _ => Iff.rfl⟩
  | d :: L, k + 1, a, b, fp, h, hk => by
    obtain ⟨f5, h5, h6⟩ := hold_swap (a := b) (b := d) (L := L.eraseIdx k) h
    obtain ⟨f1, f2, h0, hd, h1, h2⟩ := h5
    obtain ⟨f3, h3, h4⟩ := hold_unpick (k := k) (a := a) (b := b) h2 (by simpa using hk)
    exact ⟨f1 ++ f3, ⟨f1, f3, rfl, fun p hp hm => hd p hp ((h4 p).1 hm), h1, h3⟩, fun p => by rw [← h6, h0]; simp [h4]⟩
namespace Own
variable {β pos pos' : Nm} {L : List Asr} {k : Nat}
theorem pick (h : Own β pos H L) {a : Asr} (hk : L[k]? = some a) : Own β pos H (a :: L.eraseIdx k) := by
  obtain ⟨fp, h1, h2⟩ := h
  obtain ⟨fp', h3, h4⟩ := hold_pick h1 hk
  exact ⟨fp', h3, fun p hp => h2 p ((h4 p).1 hp)⟩
theorem unpick {a b : Asr} (h : Own β pos H (b :: L.eraseIdx k)) (hk : L[k]? = some a) : Own β pos H (L.set k b) := by
  obtain ⟨fp, h1, h2⟩ := h
  obtain ⟨fp', h3, h4⟩ := hold_unpick h1 hk
  exact ⟨fp', h3, fun p hp => h2 p ((h4 p).1 hp)⟩
theorem un_all {L1 : List Asr} (h : Own β pos H (Asr.all L1 :: L)) : Own β pos H (L1 ++ L) := let ⟨fp, h1, h2⟩ := h; ⟨fp, hold_app.2 h1, h2⟩
theorem mk_all {L1 : List Asr} (h : Own β pos H (L1 ++ L)) : Own β pos H (Asr.all L1 :: L) := let ⟨fp, h1, h2⟩ := h; ⟨fp, hold_app.1 h1, h2⟩
theorem un_ex {α : Type} {f : α → Asr} (h : Own β pos H (Asr.ex f :: L)) : ∃ a, Own β pos H (f a :: L) := by
  obtain ⟨fp, ⟨f1, f2, h0, hd, ⟨a, h1⟩, h2⟩, h3⟩ := h
  exact ⟨a, fp, ⟨f1, f2, h0, hd, h1, h2⟩, h3⟩
theorem mk_ex {α : Type} {f : α → Asr} (a : α) (h : Own β pos H (f a :: L)) : Own β pos H (Asr.ex f :: L) := by
  obtain ⟨fp, ⟨f1, f2, h0, hd, h1, h2⟩, h3⟩ := h
  exact ⟨fp, ⟨f1, f2, h0, hd, ⟨a, h1⟩, h2⟩, h3⟩
end Own
section
variable {α κ : Type} [DecidableEq α]
def assoc : List (α × κ) → α → Option κ
  | [], _ => none
  | (b, v) :: r, a => if a = b then some v else assoc r a
def assocI : List (α × κ) → α → Option Nat
  | [], _ => none
  | (b, _) :: r, a => if a = b then some 0 else (assocI r a).map (· + 1)
theorem assocI_spec : ∀ (l : List (α × κ)) (a : α), (assocI l a = none ∧ assoc l a = none) ∨ ∃ i v, assocI l a = some i ∧ assoc l a = some v ∧ l[i]? = some (a, v)
  | [], _ => .inl ⟨rfl, rfl⟩
  | (b, v) :: r, a => by
    by_cases h : a = b
    · subst h; exact .inr ⟨0, v, by simp [assocI], by simp [assoc], rfl⟩
    · rcases assocI_spec r a with ⟨h1, h2⟩ | ⟨i, w, h1, h2, h3⟩
      · exact .inl ⟨by simp [assocI, h, h1], by simp [assoc, h, h2]⟩
      · exact .inr ⟨i + 1, w, by simp [assocI, h, h1], by simp [assoc, h, h2], by simpa using h3⟩
theorem assoc_set : ∀ (l : List (α × κ)) (a : α) (i : Nat) (w : κ), assocI l a = some i → ∀ x, assoc (l.set i (a, w)) x = if x = a then some w else assoc l x
  | [], _, _, _, h => by simp [assocI] at h
  | (b, v) :: r, a, i, w, h => by
    intro x
    simp only [assocI] at h
    split at h
    · rename_i hab
      subst hab
      obtain rfl := Option.some.inj h
      simp only [List.set_cons_zero, assoc]
      split <;> rfl
    · rename_i hab
      obtain ⟨j, hj, rfl⟩ := Option.map_eq_some_iff.1 h
      have ih := assoc_set r a j w hj x
      simp only [List.set_cons_succ, assoc]
      rw [ih]
      by_cases h1 : x = b
      · subst h1
        rw [if_pos rfl, if_neg (fun e => hab e.symm), if_pos rfl]
      · rw [if_neg h1, if_neg h1]
theorem assoc_snoc : ∀ (l : List (α × κ)) (a : α) (w : κ), assoc l a = none → ∀ x, assoc (l ++ [(a, w)]) x = if x = a then some w else assoc l x
  | [], a, w, _, x => by simp [assoc]
  | (b, v) :: r, a, w, h, x => by
    simp only [assoc] at h
    split at h
    · cases h
    · rename_i hab
      have ih := assoc_snoc r a w h x
      simp only [List.cons_append, assoc]
      rw [ih]
      by_cases h1 : x = b
      · subst h1
        rw [if_pos rfl, if_neg (fun e => hab e.symm), if_pos rfl]
      · rw [if_neg h1, if_neg h1]
def KeyOk (T : TT) (kt : TypeId) (E : α → AVal) : Prop := (∀ a b, aEq T 4 kt (E a) (E b) = some (decide (a = b))) ∧ ∀ a, kSame (E a) (E a) = true
def pr (E : α → AVal) (V : κ → AVal) (p : α × κ) : AVal × AVal := (E p.1, V p.2)
theorem aFind_map {T : TT} {kt : TypeId} {E : α → AVal} (V : κ → AVal) (hE : KeyOk T kt E) (a : α) : ∀ (l : List (α × κ)) (i : Nat), aFind T kt (E a) (l.map (pr E V)) i = some ((assocI l a).map (· + i))
  | [], i => rfl
  | (b, v) :: r, i => by
    simp only [List.map_cons, pr, aFind, hE.1 a b]
    by_cases h : a = b
    · subst h
      simp only [decide_true, hE.2 a, if_true, assocI, if_true, Option.map_some, Nat.zero_add]
    · have e := aFind_map V hE a r (i + 1)
      simp only [h, decide_false, assocI, if_false]
      show aFind T kt (E a) (r.map (pr E V)) (i + 1) = _
      rw [e]
      cases assocI r a <;> simp <;> omega
def mpF (q : Nm) (E : α → AVal) (V : κ → AVal) (f : α → Option κ) : Asr :=
  ⟨fun H fp => fp = [q] ∧ ∃ l : List (α × κ), H q = some (.map (l.map (pr E V))) ∧ ∀ a, assoc l a = f a, fun ⟨h0, l, h1, h2⟩ hf => ⟨h0, l, by rw [hf _ (by rw [h0]; simp)]; exact h1, h2⟩⟩
end
section
variable {all : Array Oper} {i : Nat} {dst : Option Tmp} {ty : TypeId} {pos : String} {after : Array Edge} {gd : Option (Nat × Bool)} {r : List Oper} {Q : Env → Heap → Prop}
variable {x y z : Operand} {q : Nm} {a b v u : AVal} {t kt et : TypeId} {ti ei : TI} {β ps : Nm} {L : List Asr} {k : Nat} {ok : Bool}
theorem OW_lookup (hw : Region.wanted ⟨dst, .lookup t x y ok, ty, pos, after, gd⟩ (ayielded all e) = true) (hx : evq e x = some a) (hy : evq e y = some b) (hl : aLookup c.T H t a b ok = some v) (h : OW c ν all r (i + 1) (putT e dst v) H Q) : OW c ν all (⟨dst, .lookup t x y ok, ty, pos, after, gd⟩ :: r) i e H Q :=
  BH (v := v) (H1 := H) hw rfl (by simp only [aop, Bt hx, Bt hy, hl]) h
theorem OW_mapset (hw : Region.wanted ⟨dst, .mapUpdate t x y z, ty, pos, after, gd⟩ (ayielded all e) = true) (hx : evq e x = some a) (hy : evq e y = some b) (hz : evq e z = some u) (hl : aMapSet c.T H t a b u = some H1) (h : OW c ν all r (i + 1) (putT e dst .undef) H1 Q) : OW c ν all (⟨dst, .mapUpdate t x y z, ty, pos, after, gd⟩ :: r) i e H Q :=
  BH (v := .undef) (H1 := H1) hw rfl (by simp only [aop, Bt hx, Bt hy, Bt hz, hl]) h
variable {α κ : Type} [DecidableEq α] {E : α → AVal} {V : κ → AVal} {f : α → Option κ}
theorem lookup_at {T : TT} (hq : ∃ l : List (α × κ), H q = some (.map (l.map (pr E V))) ∧ ∀ a, assoc l a = f a) (ht : T t = some ti) (hk : ti.k = .map kt et) (he : T et = some ei) (hE : KeyOk T kt E) {z0 : κ} (hz : ei.zero = V z0) (k : α) :
    aLookup T H t (.map q) (E k) ok = some (if ok = true then .tup [V ((f k).getD z0), .bool (f k).isSome] else V ((f k).getD z0)) := by
  obtain ⟨l, h1, h2⟩ := hq
  simp only [aLookup, ht, hk, he, hE.1 k k, h1, aFind_map V hE k l 0]
  rcases assocI_spec l k with ⟨h3, h4⟩ | ⟨j, w, h3, h4, h5⟩
  · rw [h2] at h4
    simp only [h3, Option.map_none, hz, h4, Option.getD_none, Option.isSome_none]
  · rw [h2] at h4
    have h6 : (l.map (pr E V))[j]? = some (pr E V (k, w)) := by rw [List.getElem?_map, h5]; rfl
    simp only [h3, Option.map_some, Nat.add_zero, h6, h4, Option.getD_some, Option.isSome_some, pr]
theorem OW_lookM (hS : Own β ps H L) (hL : L[k]? = some (mpF q E V f)) (hw : Region.wanted ⟨dst, .lookup t x y ok, ty, pos, after, gd⟩ (ayielded all e) = true) (hx : evq e x = some (.map q)) (w : α) (hy : evq e y = some (E w))
    (ht : c.T t = some ti) (hk : ti.k = .map kt et) (he : c.T et = some ei) (hE : KeyOk c.T kt E) {z0 : κ} (hz : ei.zero = V z0)
    (h : OW c ν all r (i + 1) (putT e dst (if ok = true then .tup [V ((f w).getD z0), .bool (f w).isSome] else V ((f w).getD z0))) H Q) : OW c ν all (⟨dst, .lookup t x y ok, ty, pos, after, gd⟩ :: r) i e H Q := by
  obtain ⟨fp, ⟨_, hf⟩, _⟩ := hS.get hL
  exact OW_lookup hw hx hy (lookup_at hf ht hk he hE hz w) h
theorem OW_lookT (hS : Own β ps H L) (hL : L[k]? = some (mpF q E V f)) (hw : Region.wanted ⟨dst, .lookup t x y true, ty, pos, after, gd⟩ (ayielded all e) = true) (hx : evq e x = some (.map q)) (w : α) (hy : evq e y = some (E w))
    (ht : c.T t = some ti) (hk : ti.k = .map kt et) (he : c.T et = some ei) (hE : KeyOk c.T kt E) {z0 : κ} (hz : ei.zero = V z0)
    (h : OW c ν all r (i + 1) (putT e dst (.tup [V ((f w).getD z0), .bool (f w).isSome])) H Q) : OW c ν all (⟨dst, .lookup t x y true, ty, pos, after, gd⟩ :: r) i e H Q := OW_lookM hS hL hw hx w hy ht hk he hE hz h
theorem OW_lookV (hS : Own β ps H L) (hL : L[k]? = some (mpF q E V f)) (hw : Region.wanted ⟨dst, .lookup t x y false, ty, pos, after, gd⟩ (ayielded all e) = true) (hx : evq e x = some (.map q)) (w : α) (hy : evq e y = some (E w))
    (ht : c.T t = some ti) (hk : ti.k = .map kt et) (he : c.T et = some ei) (hE : KeyOk c.T kt E) {z0 : κ} (hz : ei.zero = V z0)
    (h : OW c ν all r (i + 1) (putT e dst (V ((f w).getD z0))) H Q) : OW c ν all (⟨dst, .lookup t x y false, ty, pos, after, gd⟩ :: r) i e H Q := OW_lookM hS hL hw hx w hy ht hk he hE hz h
theorem OW_setM (hS : Own β ps H L) (hL : L[k]? = some (mpF q E V f)) (hle : le ps (i :: ν)) (hw : Region.wanted ⟨dst, .mapUpdate t x y z, ty, pos, after, gd⟩ (ayielded all e) = true) (hx : evq e x = some (.map q)) (w : α) (hy : evq e y = some (E w)) {vv : κ} (hz : evq e z = some (V vv))
    (ht : c.T t = some ti) (hk : ti.k = .map kt et) (hE : KeyOk c.T kt E)
    (h : ∀ H2, Own β ((i + 1) :: ν) H2 (L.set k (mpF q E V fun x => if x = w then some vv else f x)) → OW c ν all r (i + 1) (putT e dst .undef) H2 Q) : OW c ν all (⟨dst, .mapUpdate t x y z, ty, pos, after, gd⟩ :: r) i e H Q := by
  have hbf : before (i :: ν) ((i + 1) :: ν) := Au (ν := ν) (a := [i]) (b := [i + 1]) (by simp [befL, lexd])
  obtain ⟨fp, ⟨hf0, l, h1, h2⟩, hfp, hup⟩ := hS.upd hL (pos' := (i + 1) :: ν) (hle.trans (Ax hbf))
  have key : ∃ l', aMapSet c.T H t (.map q) (E w) (V vv) = some (H.put q (some (.map (l'.map (pr E V))))) ∧ ∀ x, assoc l' x = if x = w then some vv else f x := by
    rcases assocI_spec l w with ⟨h3, h4⟩ | ⟨j, u, h3, h4, h5⟩
    · refine ⟨l ++ [(w, vv)], ?_, fun x => by rw [assoc_snoc l w vv h4, h2]⟩
      simp only [aMapSet, ht, hk, hE.1 w w, h1, aFind_map V hE w l 0, h3, Option.map_none, List.map_append, List.map_cons, List.map_nil, pr]
    · refine ⟨l.set j (w, vv), ?_, fun x => by rw [assoc_set l w j vv h3, h2]⟩
      simp only [aMapSet, ht, hk, hE.1 w w, h1, aFind_map V hE w l 0, h3, Option.map_some, Nat.add_zero, List.map_set, pr]
  obtain ⟨l', h3, h4⟩ := key
  refine OW_mapset hw hx hy hz h3 (h _ (hup _ fp (mpF q E V fun x => if x = w then some vv else f x) ⟨hf0, l', put_same, h4⟩ (fun p hp _ => put_ne (fun e => hp (by rw [hf0, e]; simp))) (fun p hp => .inl hp) (fun p hp => ⟨(hle _ (hfp p hp).1).trans hbf, (hfp p hp).2⟩)))
theorem OW_makeM {t : TypeId} (E : α → AVal) (V : κ → AVal) (hS : Own β ps H L) (hle : le ps (i :: ν)) (hβ : under β (i :: ν) = true) (hw : Region.wanted ⟨dst, .makeMap t none, ty, pos, after, gd⟩ (ayielded all e) = true)
    (h : ∀ H2, Own β ((i + 1) :: ν) H2 (mpF (i :: ν) E V (fun _ => none) :: L) → OW c ν all r (i + 1) (putT e dst (.map (i :: ν))) H2 Q) : OW c ν all (⟨dst, .makeMap t none, ty, pos, after, gd⟩ :: r) i e H Q := by
  have hbf : before (i :: ν) ((i + 1) :: ν) := Au (ν := ν) (a := [i]) (b := [i + 1]) (by simp [befL, lexd])
  exact BH (v := .map (i :: ν)) (H1 := H.put (i :: ν) (some (.map []))) hw rfl rfl (h _ (hS.add hle hbf hβ (fun p hp => put_ne hp) ⟨rfl, [], put_same, fun _ => rfl⟩))
theorem Own.one {O : AVal} {w : Nat} {xs : List AVal} (hS : Own β ps H L) (hL : L[k]? = some (sl O w xs)) : O.isTup = false ∧ O.cells = [O] := by
  obtain ⟨f, hf, _⟩ := hS.get hL
  have hf : Sl H w xs O f := hf
  cases hf <;> exact ⟨rfl, rfl⟩
theorem Bs {us : List AVal} {w : Nat} {u2 : AVal} (hS : Own β ps H L) (hL : L[k]? = some (row q w [.agg us])) (hle : le ps (i :: ν)) (hw : Region.wanted ⟨dst, .store t x y, ty, pos, after, gd⟩ (ayielded all e) = true) {off : Nat} (hx : evq e x = some (.ptr q 0 off)) (hy : evq e y = some v)
    (hv : v.isTup = false ∧ v.cells = [v]) (ht : c.T t = some ti) (hz : ti.size = 1) (ho : off < us.length) (hu : .agg (us.set off v) = u2)
    (h : ∀ H2, Own β ((i + 1) :: ν) H2 (L.set k (row q w [u2])) → OW c ν all r (i + 1) (putT e dst .undef) H2 Q) : OW c ν all (⟨dst, .store t x y, ty, pos, after, gd⟩ :: r) i e H Q := by
  refine Av hS hL hle hw hx hy ht ⟨hv.1, by rw [hv.2, hz]; rfl, by rw [hz]; exact ho⟩ (u2 := u2) ?_ h
  rw [← hu, hv.2]
  simp only [setCells, List.length_singleton]
  congr 1
  rw [List.set_eq_take_append_cons_drop, if_pos ho]
  simp
theorem pcons {j : Nat} {rr : List (Nat × Operand)} {l : List (Nat × AVal)} (hx : evq e x = some v) (ht : v.isTup = false) (hr : evParts e rr = some l) : evParts e ((j, x) :: rr) = some ((j, v) :: l) := by
  simp only [evParts, Bt hx, hr, ht, if_true]
theorem fill1 {cs cs' : List AVal} {pl : List (Nat × Nat)} {j off sz : Nat} {vc : List AVal} {rr : List (Nat × AVal)} {o : Option (List AVal)} (hp : pl[j]? = some (off, sz)) (hv : v.cells = vc) (hl : vc.length = sz) (hb : off + sz ≤ cs.length) (hc : cs.take off ++ vc ++ cs.drop (off + sz) = cs') (hr : fillA cs' pl rr = o) : fillA cs pl ((j, v) :: rr) = o := by
  simp only [fillA, hp, hv, hl, hb, and_self, if_true, hc, hr]
theorem OW_bdP {pss : Array (Nat × Operand)} {l : List (Nat × AVal)} {fs : List (Nat × TypeId)} {pl : List (Nat × Nat)} {cs : List AVal} (hw : Region.wanted ⟨dst, .build t pss, ty, pos, after, gd⟩ (ayielded all e) = true) (hx : evParts e pss.toList = some l) (ht : c.T t = some ti) (hk : ti.k = .strct fs) (hp : placesOf c.T fs = some pl) (hf : fillA ti.zero.cells pl l = some cs)
    (h : OW c ν all r (i + 1) (putT e dst (.agg cs)) H Q) : OW c ν all (⟨dst, .build t pss, ty, pos, after, gd⟩ :: r) i e H Q :=
  BH (v := .agg cs) (H1 := H) hw rfl (by simp only [aop, hx, aBuild, ht, hk, hp, hf]) h
end
section
variable {all : Array Oper} {i : Nat} {dst : Option Tmp} {ty : TypeId} {pos : String} {after : Array Edge} {gd : Option (Nat × Bool)} {r : List Oper} {Q : Env → Heap → Prop}
variable {x y z : Operand} {t el : TypeId} {ti ei : TI} {xs : List AVal} {β ps : Nm} {L : List Asr} {k w : Nat} {O : AVal}
end
section
variable {β ps : Nm} {L : List Asr}
theorem Own.re {a b : Asr} (h : Own β ps H (a :: L)) (e : a = b) : Own β ps H (b :: L) := e ▸ h
theorem Bn {α : Type} {a : α} : ∀ {L : List α} {k : Nat}, L[k]? = some a → L.set k a = L
  | [], _, h => by simp at h
  | b :: L, 0, h => by simp at h; simp [h]
  | b :: L, k + 1, h => by simp only [List.set_cons_succ]; rw [Bn (by simpa using h)]
theorem hold_rot : ∀ {A : List Asr} {X : Asr} {L : List Asr} {fp : List Nm}, hold (X :: (A ++ L)) H fp → ∃ fp', hold (A ++ X :: L) H fp' ∧ ∀ p, p ∈ fp' ↔ p ∈ fp
  | [], X, L, fp, h => ⟨fp, h, fun _ => Iff.rfl⟩
  | a :: A, X, L, fp, h => by
    obtain ⟨f1, h1, h2⟩ := hold_swap h
    obtain ⟨g1, g2, rfl, hd, h3, h4⟩ := h1
    obtain ⟨f3, h5, h6⟩ := hold_rot h4
    exact ⟨g1 ++ f3, ⟨g1, f3, rfl, fun p hp hm => hd p hp ((h6 p).1 hm), h3, h5⟩, fun p => by rw [← h2]; simp [h6]⟩
theorem hold_tor : ∀ {A : List Asr} {X : Asr} {L : List Asr} {fp : List Nm}, hold (A ++ X :: L) H fp → ∃ fp', hold (X :: (A ++ L)) H fp' ∧ ∀ p, p ∈ fp' ↔ p ∈ fp
  | [], X, L, fp, h => ⟨fp, h, fun _ => Iff.rfl⟩
  | a :: A, X, L, fp, h => by
    obtain ⟨f1, f2, rfl, hd, h3, h4⟩ := h
    obtain ⟨f3, h5, h6⟩ := hold_tor h4
    have : hold (a :: X :: (A ++ L)) H (f1 ++ f3) := ⟨f1, f3, rfl, fun p hp hm => hd p hp ((h6 p).1 hm), h3, h5⟩
    obtain ⟨f5, h7, h8⟩ := hold_swap this
    exact ⟨f5, h7, fun p => by rw [h8]; simp [h6]⟩
theorem Own.rot {A : List Asr} {X : Asr} (h : Own β ps H (X :: (A ++ L))) : Own β ps H (A ++ X :: L) := by
  obtain ⟨fp, h1, h2⟩ := h
  obtain ⟨f, h3, h4⟩ := hold_rot h1
  exact ⟨f, h3, fun p hp => h2 p ((h4 p).1 hp)⟩
theorem Own.tor {A : List Asr} {X : Asr} (h : Own β ps H (A ++ X :: L)) : Own β ps H (X :: (A ++ L)) := by
  obtain ⟨fp, h1, h2⟩ := h
  obtain ⟨f, h3, h4⟩ := hold_tor h1
  exact ⟨f, h3, fun p hp => h2 p ((h4 p).1 hp)⟩
theorem Own.put2 {X a : Asr} {k : Nat} (h : Own β ps H (X :: a :: L.eraseIdx k)) (hL : L[k]? = some a) : Own β ps H (X :: L) :=
  (Own.unpick (L := X :: L) (k := k + 1) (Own.rot (A := [_]) h) (by simpa using hL)).cast (Bn (by simpa using hL))
end
section
variable {c : Cfg} {ν : Nm} {e : Env} {all : Array Oper} {i : Nat} {dst : Option Tmp} {ty : TypeId} {pos : String} {after : Array Edge} {gd : Option (Nat × Bool)} {r : List Oper} {Q : Env → Heap → Prop}
variable {x y : Operand} {t el : TypeId} {ti ei : TI} {β ps : Nm} {L : List Asr} {w : Nat}
theorem OW_msO (hS : Own β ps H L) (hle : le ps (i :: ν)) (hβ : under β (i :: ν) = true) (hw : Region.wanted ⟨dst, .makeSlice t x y, ty, pos, after, gd⟩ (ayielded all e) = true) {n : Int} {k1 k2 : IntKind} (hx : evq e x = some (.int k1 n)) (hy : evq e y = some (.int k2 n)) (ht : c.T t = some ti) (hk : ti.k = .slice el) (he : c.T el = some ei) (hz : ei.size = w) (hz2 : zeroCellsOk ei = true)
    {m : Nat} (hn : n = (m : Int)) (hb : m * (ei.bytes + 1) ≤ 1099511627776)
    (h : ∀ O2 H2, Own β ((i + 1) :: ν) H2 (sl O2 w (List.replicate m ei.zero) :: L) → OW c ν all r (i + 1) (putT e dst O2) H2 Q) : OW c ν all (⟨dst, .makeSlice t x y, ty, pos, after, gd⟩ :: r) i e H Q := by
  have hbf : before (i :: ν) ((i + 1) :: ν) := Au (ν := ν) (a := [i]) (b := [i + 1]) (by simp [befL, lexd])
  subst hn
  subst hz
  refine OW_ms (v := .slc (i :: ν) ei.size 0 m) (H1 := H.put (i :: ν) (some (.row ei.size (List.replicate m ei.zero)))) hw hx hy ?_ (h _ _ (hS.add (a := sl (.slc (i :: ν) ei.size 0 m) ei.size (List.replicate m ei.zero)) hle hbf hβ (fun p hp => put_ne hp) (.row put_same (by simp) (by rw [List.take_of_length_le (by simp)]))))
  have hb2 : (m : Int) * ((ei.bytes : Int) + 1) ≤ 1099511627776 := by have := Int.ofNat_le.2 hb; simpa using this
  simp only [aMakeSlice, ht, hk, he]
  rw [if_pos ⟨by omega, by omega, hb2, hz2⟩]
  simp
end
end Go.Proofs.YtfkgdlfponfimaaGreat.X
