import Derived.Test.YtfkgdlfponfimaaGreatU23
/- Rules of reckoning, one for each kind of step. -/
namespace Go.Proofs.YtfkgdlfponfimaaGreat.X
open Go
variable {c : Cfg} {ν : Nm} {e : Env} {H : Heap}
section
variable {Q : AOut → Env → Heap → Prop}
theorem Ag {b : Code} (h : XW c ν b e H Q) : thenW c ν b Q .norm e H := h
theorem AQ {b : Code} {id : Nat} (h : Q (.exit id) e H) : thenW c ν b Q (.exit id) e H := h
theorem Ao {b : Code} (h : Q .ret e H) : thenW c ν b Q .ret e H := h
theorem AJ {id : Nat} (h : Q .norm e H) : blockW id Q .norm e H := h
theorem AA {id : Nat} (h : Q .ret e H) : blockW id Q .ret e H := h
theorem AN {id : Nat} (h : Q .norm e H) : blockW id Q (.exit id) e H := by simpa [blockW] using h
theorem block_exit_ne {id j : Nat} (hj : (j == id) = false) (h : Q (.exit j) e H) : blockW id Q (.exit j) e H := by
  have : j ≠ id := by simpa using hj
  simpa [blockW, this] using h
theorem Ac {id : Nat} {ops : Array Oper} {d : Bool} {b : Code} (h : OW c (0 :: ν) ops ops.toList 0 e H (fun e1 H1 => XW c (1 :: ν) b e1 H1 Q)) (hr : (if d = true then c.roots id ops else []) = [] := by rfl) : XW c ν (.seq (.region id ops d) b) e H Q := Aq (AC h hr)
theorem XW_srF {id : Nat} {ops : Array Oper} {d : Bool} {b : Code} {r : Tmp} {rs : List Tmp} {qs : List Nm} (hr : (if d = true then c.roots id ops else []) = r :: rs) (hq : asideN H e (r :: rs) = qs)
    (h : OWF c (0 :: ν) ops (r :: rs) (onlyL qs H) ops.toList 0 e (hideL qs H) (fun e1 H1 => XW c (1 :: ν) b e1 (backL qs H H1) Q)) : XW c ν (.seq (.region id ops d) b) e H Q := Aq (XW_regionF hr hq h)
theorem AH {x : Operand} {a b : Code} {t : Bool} (hx : ev e x = some (.bool t)) (h1 : t = true → XW c ν a e H Q) (h2 : t = false → XW c ν b e H Q) : XW c ν (.cond x a b) e H Q := by
  refine XW_cond hx ?_
  cases t
  · exact h2 rfl
  · exact h1 rfl
theorem AZ {x : Operand} {a b : Code} {t : Bool} (hx : ev e x = some (.bool t)) (ht : t = true) (h1 : XW c ν a e H Q) : XW c ν (.cond x a b) e H Q := AH hx (fun _ => h1) (fun h => by rw [ht] at h; cases h)
theorem Bd {x : Operand} {a b : Code} {t : Bool} (hx : ev e x = some (.bool t)) (ht : t = false) (h1 : XW c ν b e H Q) : XW c ν (.cond x a b) e H Q := AH hx (fun h => by rw [ht] at h; cases h) (fun _ => h1)
end
section
variable {T : TT} {fi : FI} {Q : AVal → Heap → Prop}
theorem ret_norm {v : AVal} (h : resOf T fi e H = some v) (hq : Q v H) : retW T fi Q .norm e H := ⟨v, h, hq⟩
theorem Ak {v : AVal} (h : resOf T fi e H = some v) (hq : Q v H) : retW T fi Q .ret e H := ⟨v, h, hq⟩
end
def evq (e : Env) : Operand → Option AVal
  | .tmp t => e[t]?
  | x => ev e x
theorem Bt {x : Operand} {v : AVal} (h : evq e x = some v) : ev e x = some v := by
  cases x with
  | tmp t => simp only [evq] at h; simp only [ev, List.getD_eq_getElem?_getD, h, Option.getD_some]
  | _ => exact h
def evqs (e : Env) : List Operand → Option (List AVal)
  | [] => some []
  | x :: xs => match evq e x with
    | some v => match evqs e xs with
      | some vs => some (v :: vs)
      | none => none
    | none => none
theorem evqs_evs : ∀ {xs : List Operand} {vs : List AVal}, evqs e xs = some vs → evs e xs = some vs
  | [], vs, h => h
  | x :: xs, vs, h => by
    simp only [evqs] at h
    cases hx : evq e x with
    | none => rw [hx] at h; cases h
    | some v =>
      rw [hx] at h
      cases hxs : evqs e xs with
      | none => rw [hxs] at h; cases h
      | some us =>
        rw [hxs] at h
        simp only [evs, Bt hx, evqs_evs hxs]; exact h
def evqParts (e : Env) : List (Nat × Operand) → Option (List (Nat × AVal))
  | [] => some []
  | (i, x) :: r => match evq e x with
    | some v => match evqParts e r with
      | some l => if v.isTup = false then some ((i, v) :: l) else none
      | none => none
    | none => none
theorem evqParts_ev : ∀ {xs : List (Nat × Operand)} {vs : List (Nat × AVal)}, evqParts e xs = some vs → evParts e xs = some vs
  | [], vs, h => h
  | (i, x) :: xs, vs, h => by
    simp only [evqParts] at h
    cases hx : evq e x with
    | none => rw [hx] at h; cases h
    | some v =>
      rw [hx] at h
      cases hxs : evqParts e xs with
      | none => rw [hxs] at h; cases h
      | some us =>
        rw [hxs] at h
        simp only [evParts, Bt hx, evqParts_ev hxs]; exact h
theorem aLoad_ptr {T : TT} {t : TypeId} {ti : TI} {q : Nm} {i off w : Nat} {xs : List AVal} {y v : AVal} (hT : T t = some ti) (hq : H q = some (.row w xs)) (hi : xs[i]? = some y) (hp : part ti y off = some v) : aLoad T H t (.ptr q i off) = some v := by
  simp only [aLoad, hT, hq, hi, hp]
theorem aLoad_ept {T : TT} {t : TypeId} {ti : TI} {off : Nat} {y v : AVal} (hT : T t = some ti) (hp : part ti y off = some v) : aLoad T H t (.ept y off) = some v := by
  simp only [aLoad, hT, hp]
theorem aStore_ptr {T : TT} {t : TypeId} {ti : TI} {q : Nm} {i off w : Nat} {xs : List AVal} {y v : AVal} (hT : T t = some ti) (hq : H q = some (.row w xs)) (hi : xs[i]? = some y) (hv : v.isTup = false ∧ v.cells.length = ti.size ∧ off + ti.size ≤ y.cells.length) :
    aStore T H t (.ptr q i off) v = some (H.put q (some (.row w (xs.set i (setCells y off v.cells))))) := by
  simp only [aStore, hT, hq, hi, if_pos hv]
section
variable {all : Array Oper} {i : Nat} {dst : Option Tmp} {ty : TypeId} {pos : String} {after : Array Edge} {gd : Option (Nat × Bool)} {r : List Oper} {Q : Env → Heap → Prop}
theorem Ay {e' : Env} (he : e = e') (h : OW c ν all r i e' H Q) : OW c ν all r i e H Q := by subst he; exact h
theorem Am {e' : Env} (he : e = e') (h : Q e' H) : OW c ν all [] i e H Q := by subst he; exact AL h
variable {x y z : Operand} {ps : Array (Nat × Operand)} {os : Array Operand} {q : Nm} {k m n : Nat} {a b v w d : AVal} {t t2 : TypeId} {op : BinOp} {uop : UnOp} {vs : List AVal} {l : List (Nat × AVal)} {f : FuncId} {H1 : Heap} {lo hi mx : Option Operand} {l1 h1 m1 : Option AVal}
theorem Aa (hw : Region.wanted ⟨dst, .move x, ty, pos, after, gd⟩ (ayielded all e) = true) (hx : evq e x = some v) (h : OW c ν all r (i + 1) (putT e dst v) H Q) : OW c ν all (⟨dst, .move x, ty, pos, after, gd⟩ :: r) i e H Q :=
  BH (v := v) (H1 := H) hw rfl (by simp only [aop, Bt hx]) h
theorem Ab (hw : Region.wanted ⟨dst, .assign x, ty, pos, after, gd⟩ (ayielded all e) = true) (hx : evq e x = some v) (h : OW c ν all r (i + 1) (putT e dst v) H Q) : OW c ν all (⟨dst, .assign x, ty, pos, after, gd⟩ :: r) i e H Q :=
  BH (v := v) (H1 := H) hw rfl (by simp only [aop, Bt hx]) h
theorem AO (hw : Region.wanted ⟨dst, .nilCheck x, ty, pos, after, gd⟩ (ayielded all e) = true) (hx : evq e x = some (.ptr q k m)) (h : OW c ν all r (i + 1) (putT e dst (.ptr q k m)) H Q) : OW c ν all (⟨dst, .nilCheck x, ty, pos, after, gd⟩ :: r) i e H Q :=
  BH (v := (.ptr q k m)) (H1 := H) hw rfl (by simp only [aop, Bt hx]) h
theorem BD (hw : Region.wanted ⟨dst, .load t x, ty, pos, after, gd⟩ (ayielded all e) = true) (hx : evq e x = some a) (hl : aLoad c.T H t a = some v) (h : OW c ν all r (i + 1) (putT e dst v) H Q) : OW c ν all (⟨dst, .load t x, ty, pos, after, gd⟩ :: r) i e H Q :=
  BH (v := v) (H1 := H) hw rfl (by simp only [aop, Bt hx, hl]) h
theorem Ah (hw : Region.wanted ⟨dst, .binOp op t x y t2, ty, pos, after, gd⟩ (ayielded all e) = true) (hx : evq e x = some a) (hy : evq e y = some b) (hn : nilOk x y a = true) (hb : aBin c.T op t a b = some v) (h : OW c ν all r (i + 1) (putT e dst v) H Q) : OW c ν all (⟨dst, .binOp op t x y t2, ty, pos, after, gd⟩ :: r) i e H Q :=
  BH (v := v) (H1 := H) hw rfl (by simp only [aop, Bt hx, Bt hy, hn, if_true, hb]) h
theorem BE (hw : Region.wanted ⟨dst, .unOp uop t x, ty, pos, after, gd⟩ (ayielded all e) = true) (hx : evq e x = some a) (hb : aUn uop a = some v) (h : OW c ν all r (i + 1) (putT e dst v) H Q) : OW c ν all (⟨dst, .unOp uop t x, ty, pos, after, gd⟩ :: r) i e H Q :=
  BH (v := v) (H1 := H) hw rfl (by simp only [aop, Bt hx, hb]) h
theorem Bc (hw : Region.wanted ⟨dst, .convert t t2 x, ty, pos, after, gd⟩ (ayielded all e) = true) (hx : evq e x = some a) (hb : aConv c.T H t t2 a = some v) (h : OW c ν all r (i + 1) (putT e dst v) H Q) : OW c ν all (⟨dst, .convert t t2 x, ty, pos, after, gd⟩ :: r) i e H Q :=
  BH (v := v) (H1 := H) hw rfl (by simp only [aop, Bt hx, hb]) h
theorem Al (hw : Region.wanted ⟨dst, .fieldAddr t x n, ty, pos, after, gd⟩ (ayielded all e) = true) (hx : evq e x = some a) (hb : aFieldAddr c.T t a n = some v) (h : OW c ν all r (i + 1) (putT e dst v) H Q) : OW c ν all (⟨dst, .fieldAddr t x n, ty, pos, after, gd⟩ :: r) i e H Q :=
  BH (v := v) (H1 := H) hw rfl (by simp only [aop, Bt hx, hb]) h
theorem OW_ia (hw : Region.wanted ⟨dst, .indexAddr t x y, ty, pos, after, gd⟩ (ayielded all e) = true) (hx : evq e x = some a) (hy : evq e y = some b) (hb : aIndexAddr c.T t a b = some v) (h : OW c ν all r (i + 1) (putT e dst v) H Q) : OW c ν all (⟨dst, .indexAddr t x y, ty, pos, after, gd⟩ :: r) i e H Q :=
  BH (v := v) (H1 := H) hw rfl (by simp only [aop, Bt hx, Bt hy, hb]) h
theorem OW_ix (hw : Region.wanted ⟨dst, .index t x y, ty, pos, after, gd⟩ (ayielded all e) = true) (hx : evq e x = some a) (hy : evq e y = some b) (hb : aIndex c.T t a b = some v) (h : OW c ν all r (i + 1) (putT e dst v) H Q) : OW c ν all (⟨dst, .index t x y, ty, pos, after, gd⟩ :: r) i e H Q :=
  BH (v := v) (H1 := H) hw rfl (by simp only [aop, Bt hx, Bt hy, hb]) h
theorem AK (hw : Region.wanted ⟨dst, .extract x n, ty, pos, after, gd⟩ (ayielded all e) = true) (hx : evq e x = some (.tup vs)) (hb : vs[n]? = some v) (h : OW c ν all r (i + 1) (putT e dst v) H Q) : OW c ν all (⟨dst, .extract x n, ty, pos, after, gd⟩ :: r) i e H Q :=
  BH (v := v) (H1 := H) hw rfl (by simp only [aop, Bt hx, hb]) h
theorem BF (hw : Region.wanted ⟨dst, .build t ps, ty, pos, after, gd⟩ (ayielded all e) = true) (hx : evqParts e ps.toList = some l) (hb : aBuild c.T t l = some v) (h : OW c ν all r (i + 1) (putT e dst v) H Q) : OW c ν all (⟨dst, .build t ps, ty, pos, after, gd⟩ :: r) i e H Q :=
  BH (v := v) (H1 := H) hw rfl (by simp only [aop, evqParts_ev hx, hb]) h
theorem Bq (hw : Region.wanted ⟨dst, .buildSlice t n ps, ty, pos, after, gd⟩ (ayielded all e) = true) (hx : evqParts e ps.toList = some l) (hb : aBuildSlice c.T t n l = some v) (h : OW c ν all r (i + 1) (putT e dst v) H Q) : OW c ν all (⟨dst, .buildSlice t n ps, ty, pos, after, gd⟩ :: r) i e H Q :=
  BH (v := v) (H1 := H) hw rfl (by simp only [aop, evqParts_ev hx, hb]) h
theorem OW_mf (hw : Region.wanted ⟨dst, .makeFunc (.func f) #[] os, ty, pos, after, gd⟩ (ayielded all e) = true) (hx : evqs e os.toList = some vs) (h : OW c ν all r (i + 1) (putT e dst (.fn f vs)) H Q) : OW c ν all (⟨dst, .makeFunc (.func f) #[] os, ty, pos, after, gd⟩ :: r) i e H Q :=
  BH (v := (.fn f vs)) (H1 := H) hw rfl (by simp [aop, evqs_evs hx]) h
theorem Aw {bb : Bool} (hw : Region.wanted ⟨dst, .pick x y z, ty, pos, after, gd⟩ (ayielded all e) = true) (hx : evq e x = some (.bool bb)) (hy : evq e (if bb then y else z) = some v) (h : OW c ν all r (i + 1) (putT e dst v) H Q) : OW c ν all (⟨dst, .pick x y z, ty, pos, after, gd⟩ :: r) i e H Q :=
  BH (v := v) (H1 := H) hw rfl (by cases bb <;> simp only [aop, Bt hx] <;> simp at hy <;> simp only [Bt hy]) h
theorem OW_alloc (hw : Region.wanted ⟨dst, .alloc t, ty, pos, after, gd⟩ (ayielded all e) = true) (hb : aAlloc c.T (i :: ν) H t = some (v, H1)) (h : OW c ν all r (i + 1) (putT e dst v) H1 Q) : OW c ν all (⟨dst, .alloc t, ty, pos, after, gd⟩ :: r) i e H Q :=
  BH (v := v) (H1 := H1) hw rfl (by simp only [aop, hb]) h
theorem OW_box (hw : Region.wanted ⟨dst, .box t x, ty, pos, after, gd⟩ (ayielded all e) = true) (hx : evq e x = some a) (hb : aBox c.T (i :: ν) H t a = some (v, H1)) (h : OW c ν all r (i + 1) (putT e dst v) H1 Q) : OW c ν all (⟨dst, .box t x, ty, pos, after, gd⟩ :: r) i e H Q :=
  BH (v := v) (H1 := H1) hw rfl (by simp only [aop, Bt hx, hb]) h
theorem OW_ms (hw : Region.wanted ⟨dst, .makeSlice t x y, ty, pos, after, gd⟩ (ayielded all e) = true) (hx : evq e x = some a) (hy : evq e y = some b) (hb : aMakeSlice c.T (i :: ν) H t a b = some (v, H1)) (h : OW c ν all r (i + 1) (putT e dst v) H1 Q) : OW c ν all (⟨dst, .makeSlice t x y, ty, pos, after, gd⟩ :: r) i e H Q :=
  BH (v := v) (H1 := H1) hw rfl (by simp only [aop, Bt hx, Bt hy, hb]) h
theorem OW_store (hw : Region.wanted ⟨dst, .store t x y, ty, pos, after, gd⟩ (ayielded all e) = true) (hx : evq e x = some a) (hy : evq e y = some b) (hb : aStore c.T H t a b = some H1) (h : OW c ν all r (i + 1) (putT e dst .undef) H1 Q) : OW c ν all (⟨dst, .store t x y, ty, pos, after, gd⟩ :: r) i e H Q :=
  BH (v := .undef) (H1 := H1) hw rfl (by simp only [aop, Bt hx, Bt hy, hb]) h
def evqo (e : Env) : Option Operand → Option (Option AVal)
  | none => some none
  | some o => match evq e o with
    | some v => some (some v)
    | none => none
theorem evqo_ev {x : Option Operand} {v : Option AVal} (h : evqo e x = some v) : (x = none ∧ v = none) ∨ ∃ o u, x = some o ∧ v = some u ∧ ev e o = some u := by
  cases x with
  | none => exact .inl ⟨rfl, (Option.some.inj h).symm⟩
  | some o =>
    simp only [evqo] at h
    cases ho : evq e o with
    | none => rw [ho] at h; cases h
    | some u => rw [ho] at h; exact .inr ⟨o, u, rfl, (Option.some.inj h).symm, Bt ho⟩
theorem BM (hw : Region.wanted ⟨dst, .slice t x lo hi mx, ty, pos, after, gd⟩ (ayielded all e) = true) (hx : evq e x = some a) (h1' : evqo e lo = some l1) (h2' : evqo e hi = some h1) (h3' : evqo e mx = some m1) (hb : aSlice c.T t a l1 h1 m1 = some v) (h : OW c ν all r (i + 1) (putT e dst v) H Q) : OW c ν all (⟨dst, .slice t x lo hi mx, ty, pos, after, gd⟩ :: r) i e H Q :=
  BH (v := v) (H1 := H) hw rfl (by simp only [aop, Bt hx]; rcases evqo_ev h1' with ⟨rfl, rfl⟩ | ⟨o1, u1, rfl, rfl, k1⟩ <;> rcases evqo_ev h2' with ⟨rfl, rfl⟩ | ⟨o2, u2, rfl, rfl, k2⟩ <;> rcases evqo_ev h3' with ⟨rfl, rfl⟩ | ⟨o3, u3, rfl, rfl, k3⟩ <;> simp only [*, Option.map_some]) h
theorem BL {bi : Builtin} {ts : Array TypeId} (hw : Region.wanted ⟨dst, .call ⟨.builtin bi, os, ts⟩, ty, pos, after, gd⟩ (ayielded all e) = true) (hx : evqs e os.toList = some vs) (hb : aBuiltin c.T (i :: ν) H bi ts.toList vs = some (v, H1)) (h : OW c ν all r (i + 1) (putT e dst v) H1 Q) : OW c ν all (⟨dst, .call ⟨.builtin bi, os, ts⟩, ty, pos, after, gd⟩ :: r) i e H Q :=
  BH (v := v) (H1 := H1) hw rfl (by simp only [aop, evqs_evs hx, hb]) h
theorem AB {ts : Array TypeId} (hw : Region.wanted ⟨dst, .call ⟨.value (.func f), os, ts⟩, ty, pos, after, gd⟩ (ayielded all e) = true) (hx : evqs e os.toList = some vs) (h : CW c (i :: ν) f vs H (fun v H1 => OW c ν all r (i + 1) (putT e dst v) H1 Q)) : OW c ν all (⟨dst, .call ⟨.value (.func f), os, ts⟩, ty, pos, after, gd⟩ :: r) i e H Q :=
  OW_call hw rfl (by simp only [callOf, ev, evqs_evs hx, List.append_nil]) h
theorem OW_fv {ts : Array TypeId} {caps : List AVal} (hw : Region.wanted ⟨dst, .call ⟨.value x, os, ts⟩, ty, pos, after, gd⟩ (ayielded all e) = true) (hf : evq e x = some (.fn f caps)) (hx : evqs e os.toList = some vs) (h : CW c (i :: ν) f (vs ++ caps) H (fun v H1 => OW c ν all r (i + 1) (putT e dst v) H1 Q)) : OW c ν all (⟨dst, .call ⟨.value x, os, ts⟩, ty, pos, after, gd⟩ :: r) i e H Q :=
  OW_call hw rfl (by simp only [callOf, Bt hf, evqs_evs hx]) h
def TK.notI : TK → Bool
  | .iface => false
  | _ => true
theorem An {o : Oper} (hw : Region.wanted o (ayielded all e) = false) (h : OW c ν all r (i + 1) (putT e o.dst .undef) H Q) : OW c ν all (o :: r) i e H Q := OW_skip hw h
end
end Go.Proofs.YtfkgdlfponfimaaGreat.X
