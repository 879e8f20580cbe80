import Derived.Test.YtfkgdlfponfimaaGreatU26
/- Maps as functions, and things made of things. -/
set_option linter.unusedVariables false
set_option linter.unusedSimpArgs false
namespace Go.Proofs.YtfkgdlfponfimaaGreat.X
open Go
variable {c : Cfg} {ν : Nm} {e : Env} {H H1 : Heap}
def Asr.ex {α : Type} (f : α → Asr) : Asr := ⟨fun H fp => ∃ a, (f a).holds H fp, fun ⟨a, h⟩ hf => ⟨a, (f a).framed h hf⟩⟩
def Asr.all (L : List Asr) : Asr := ⟨hold L, hold.framed⟩
theorem hold_swap {a b : Asr} {L : List Asr} {fp : List Nm} (h : hold (a :: b :: L) H fp) : ∃ fp', hold (b :: a :: L) H fp' ∧ ∀ p, p ∈ fp' ↔ p ∈ fp := by
  obtain ⟨f1, _, rfl, hd, h1, f2, f3, rfl, hd2, h2, h3⟩ := h
  refine ⟨f2 ++ (f1 ++ f3), ⟨f2, f1 ++ f3, rfl, fun p hp hm => ?_, h2, f1, f3, rfl, fun p hp hm => hd p hp (by simp [hm]), h1, h3⟩, fun p => ?_⟩
  · rcases List.mem_append.1 hm with hm | hm
    · exact hd p hm (by simp [hp])
    · exact hd2 p hp hm
  · simp only [List.mem_append]
    constructor
    · rintro (h | h | h) <;> simp [h]
    · rintro (h | h | h) <;> simp [h]
theorem hold_pick : ∀ {L : List Asr} {k : Nat} {a : Asr} {fp : List Nm}, hold L H fp → L[k]? = some a → ∃ fp', hold (a :: L.eraseIdx k) H fp' ∧ ∀ p, p ∈ fp' ↔ p ∈ fp
  | [], _, _, _, _, hk => by simp at hk
  | b :: L, 0, a, fp, h, hk => by
    obtain rfl : b = a := by simpa using hk
    exact ⟨fp, h, fun _ => Iff.rfl⟩
  | b :: L, k + 1, a, fp, ⟨f1, f2, h0, hd, h1, h2⟩, hk => by
    obtain ⟨f3, h3, h4⟩ := hold_pick (k := k) h2 (by simpa using hk)
    have : hold (b :: a :: L.eraseIdx k) H (f1 ++ f3) := ⟨f1, f3, rfl, fun p hp hm => hd p hp ((h4 p).1 hm), h1, h3⟩
    obtain ⟨f5, h5, h6⟩ := hold_swap this
    exact ⟨f5, h5, fun p => by rw [h6, h0]; simp [h4]⟩
namespace Own
variable {β pos pos' : Nm} {L : List Asr} {k : Nat}
theorem pick (h : Own β pos H L) {a : Asr} (hk : L[k]? = some a) : Own β pos H (a :: L.eraseIdx k) := by
  obtain ⟨fp, h1, h2⟩ := h
  obtain ⟨fp', h3, h4⟩ := hold_pick h1 hk
  exact ⟨fp', h3, fun p hp => h2 p ((h4 p).1 hp)⟩
end Own
section
variable {α κ : Type} [DecidableEq α]
def assoc : List (α × κ) → α → Option κ
  | [], _ => none
  | (b, v) :: r, a => if a = b then some v else assoc r a
def assocI : List (α × κ) → α → Option Nat
  | [], _ => none
  | (b, _) :: r, a => if a = b then some 0 else (assocI r a).map (· + 1)
def KeyOk (T : TT) (kt : TypeId) (E : α → AVal) : Prop := (∀ a b, aEq T 4 kt (E a) (E b) = some (decide (a = b))) ∧ ∀ a, kSame (E a) (E a) = true
def pr (E : α → AVal) (V : κ → AVal) (p : α × κ) : AVal × AVal := (E p.1, V p.2)
def mpF (q : Nm) (E : α → AVal) (V : κ → AVal) (f : α → Option κ) : Asr :=
  ⟨fun H fp => fp = [q] ∧ ∃ l : List (α × κ), H q = some (.map (l.map (pr E V))) ∧ ∀ a, assoc l a = f a, fun ⟨h0, l, h1, h2⟩ hf => ⟨h0, l, by rw [hf _ (by rw [h0]; simp)]; exact h1, h2⟩⟩
end
section
variable {all : Array Oper} {i : Nat} {dst : Option Tmp} {ty : TypeId} {pos : String} {after : Array Edge} {gd : Option (Nat × Bool)} {r : List Oper} {Q : Env → Heap → Prop}
variable {x y z : Operand} {q : Nm} {a b v u : AVal} {t kt et : TypeId} {ti ei : TI} {β ps : Nm} {L : List Asr} {k : Nat} {ok : Bool}
variable {α κ : Type} [DecidableEq α] {E : α → AVal} {V : κ → AVal} {f : α → Option κ}
theorem Own.one {O : AVal} {w : Nat} {xs : List AVal} (hS : Own β ps H L) (hL : L[k]? = some (sl O w xs)) : O.isTup = false ∧ O.cells = [O] := by
  obtain ⟨f, hf, _⟩ := hS.get hL
  have hf : Sl H w xs O f := hf
  cases hf <;> exact ⟨rfl, rfl⟩
theorem OW_storeC {us : List AVal} {w : Nat} {u2 : AVal} (hS : Own β ps H L) (hL : L[k]? = some (row q w [.agg us])) (hle : le ps (i :: ν)) (hw : Region.wanted ⟨dst, .store t x y, ty, pos, after, gd⟩ (ayielded all e) = true) {off : Nat} (hx : evq e x = some (.ptr q 0 off)) (hy : evq e y = some v)
    (hv : v.isTup = false ∧ v.cells = [v]) (ht : c.T t = some ti) (hz : ti.size = 1) (ho : off < us.length) (hu : .agg (us.set off v) = u2)
    (h : ∀ H2, Own β ((i + 1) :: ν) H2 (L.set k (row q w [u2])) → OW c ν all r (i + 1) (putT e dst .undef) H2 Q) : OW c ν all (⟨dst, .store t x y, ty, pos, after, gd⟩ :: r) i e H Q := by
  refine OW_storeR hS hL hle hw hx hy ht ⟨hv.1, by rw [hv.2, hz]; rfl, by rw [hz]; exact ho⟩ (u2 := u2) ?_ h
  rw [← hu, hv.2]
  simp only [setCells, List.length_singleton]
  congr 1
  rw [List.set_eq_take_append_cons_drop, if_pos ho]
  simp
end
section
variable {all : Array Oper} {i : Nat} {dst : Option Tmp} {ty : TypeId} {pos : String} {after : Array Edge} {gd : Option (Nat × Bool)} {r : List Oper} {Q : Env → Heap → Prop}
variable {x y z : Operand} {t el : TypeId} {ti ei : TI} {xs : List AVal} {β ps : Nm} {L : List Asr} {k w : Nat} {O : AVal}
end
section
variable {β ps : Nm} {L : List Asr}
theorem hold_rot : ∀ {A : List Asr} {X : Asr} {L : List Asr} {fp : List Nm}, hold (X :: (A ++ L)) H fp → ∃ fp', hold (A ++ X :: L) H fp' ∧ ∀ p, p ∈ fp' ↔ p ∈ fp
  | [], X, L, fp, h => ⟨fp, h, fun _ => Iff.rfl⟩
  | a :: A, X, L, fp, h => by
    obtain ⟨f1, h1, h2⟩ := hold_swap h
    obtain ⟨g1, g2, rfl, hd, h3, h4⟩ := h1
    obtain ⟨f3, h5, h6⟩ := hold_rot h4
    exact ⟨g1 ++ f3, ⟨g1, f3, rfl, fun p hp hm => hd p hp ((h6 p).1 hm), h3, h5⟩, fun p => by rw [← h2]; simp [h6]⟩
theorem Own.rot {A : List Asr} {X : Asr} (h : Own β ps H (X :: (A ++ L))) : Own β ps H (A ++ X :: L) := by
  obtain ⟨fp, h1, h2⟩ := h
  obtain ⟨f, h3, h4⟩ := hold_rot h1
  exact ⟨f, h3, fun p hp => h2 p ((h4 p).1 hp)⟩
end
section
variable {c : Cfg} {ν : Nm} {e : Env} {all : Array Oper} {i : Nat} {dst : Option Tmp} {ty : TypeId} {pos : String} {after : Array Edge} {gd : Option (Nat × Bool)} {r : List Oper} {Q : Env → Heap → Prop}
variable {x y : Operand} {t el : TypeId} {ti ei : TI} {β ps : Nm} {L : List Asr} {w : Nat}
end
end Go.Proofs.YtfkgdlfponfimaaGreat.X
