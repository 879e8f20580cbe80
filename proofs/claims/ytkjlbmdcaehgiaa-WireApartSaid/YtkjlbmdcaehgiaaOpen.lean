/- How an argument that can be read as data lies in memory: kind by kind, with what its bulk says of its sizes. -/
import Derived.Test.YtkjlbmdcaehgiaaRows
import Derived.Test.YtkjlbmdcaehgiaaWWords
import Derived.WalkKit
import Derived.ProofKit
import Derived.OpenShut
import Derived.ShutString
import Derived.ChangeOld
import Derived.Below
import Derived.SizedLaws
import Derived.Deep.Slices
import Derived.Deep.CondSized
set_option linter.unusedVariables false
set_option linter.unusedSimpArgs false
namespace Go.Proofs.Ytkjlbmdcaehgiaa.Open
open Go.ChangeShapes Go.WideShapes Go.ChangeAt Go.RowKit Go.Proofs.YtkjlbmdcaehgiaaW.PrintWords

/-- What reads as data at type t lies as kind d says, and Q holds of it and its bulk. -/
def Opens {α : Type} (t : Nat) (d : Kd α) (Q : α → Nat → Prop) : Prop :=
  ∀ (H : Type) (enc : TypeId × Value → H) (w : World) (fuel : Nat) (cs : List Value) (x : DataW H × List MemPlace), DataW.trod enc Try.prog w 0 (fun _ => true) true fuel t cs = some x → ∃ a, d.K w a cs ∧ Q a (Rows.uptoBulk x.1)

theorem opens_mono {α : Type} {t : Nat} {d : Kd α} {Q Q' : α → Nat → Prop} (h : Opens t d Q) (hq : ∀ a n, Q a n → Q' a n) : Opens t d Q' := fun H enc w fuel cs x hx => by
  obtain ⟨a, h1, h2⟩ := h H enc w fuel cs x hx
  exact ⟨a, h1, hq _ _ h2⟩
theorem opens_iso {α β : Type} {t : Nat} {d : Kd α} {Q : α → Nat → Prop} (h : Opens t d Q) (f : β → α) (g : α → β) (hg : ∀ a, f (g a) = a) : Opens t (Kd.iso d f) (fun b n => Q (f b) n) := fun H enc w fuel cs x hx => by
  obtain ⟨a, h1, h2⟩ := h H enc w fuel cs x hx
  exact ⟨g a, show d.K w (f (g a)) cs by rw [hg]; exact h1, show Q (f (g a)) _ by rw [hg]; exact h2⟩

def QInt (k : IntKind) (a : Int) (n : Nat) : Prop := (Lit.int k a).wf = true ∧ 1 ≤ n
theorem opens_int {t : Nat} {k : IntKind} (ht : Try.prog.underlying t = some (.int k)) : Opens t (Kd.int k) (QInt k) := by
  intro H enc w fuel cs x h
  cases fuel with
  | zero => simp [DataW.trod] at h
  | succ fuel =>
    unfold DataW.trod at h
    rw [ht] at h
    split at h <;> simp_all
    rename_i k' n hk
    obtain ⟨⟨h1, h2⟩, rfl⟩ := h
    subst h1
    subst hk
    exact ⟨_, rfl, h2, by simp [Rows.uptoBulk]⟩
def QStr (s : ByteArray) (n : Nat) : Prop := s.size ≤ maxLen ∧ s.size + 1 ≤ n
theorem opens_string {t : Nat} (ht : Try.prog.underlying t = some .string) : Opens t Kd.string QStr := by
  intro H enc w fuel cs x h
  cases fuel with
  | zero => simp [DataW.trod] at h
  | succ fuel =>
    unfold DataW.trod at h
    rw [ht] at h
    split at h <;> simp_all
    rename_i s
    obtain ⟨h1, rfl⟩ := h
    exact ⟨s, rfl, h1, by simp [Rows.uptoBulk]⟩
def QBool (b : Bool) (n : Nat) : Prop := 1 ≤ n
theorem opens_bool {t : Nat} (ht : Try.prog.underlying t = some .bool) : Opens t Kd.bool QBool := by
  intro H enc w fuel cs x h
  cases fuel with
  | zero => simp [DataW.trod] at h
  | succ fuel =>
    unfold DataW.trod at h
    rw [ht] at h
    split at h <;> simp_all
    obtain rfl := h
    rename_i b
    cases b
    · exact .inl ⟨rfl, by simp [QBool, Rows.uptoBulk]⟩
    · exact .inr ⟨rfl, by simp [QBool, Rows.uptoBulk]⟩

/-- Each element, with a bound of its own; these bounds together are at most n. -/
inductive QAll {α : Type} (Q : α → Nat → Prop) : List α → Nat → Prop where
  | nil (n : Nat) : QAll Q [] n
  | cons {a : α} {l : List α} {m n : Nat} : Q a m → QAll Q l n → QAll Q (a :: l) (m + n)
theorem QAll.mem {α : Type} {Q : α → Nat → Prop} {l : List α} {n : Nat} (h : QAll Q l n) : ∀ a ∈ l, ∃ m, m ≤ n ∧ Q a m := by
  induction h with
  | nil n => intro a ha; simp at ha
  | cons h1 h2 ih =>
    intro a ha
    rcases List.mem_cons.1 ha with rfl | ha
    · exact ⟨_, Nat.le_add_right _ _, h1⟩
    · obtain ⟨m, hm, hq⟩ := ih a ha
      exact ⟨m, by omega, hq⟩
theorem QAll.len {α : Type} {Q : α → Nat → Prop} (h1 : ∀ a n, Q a n → 1 ≤ n) {l : List α} {n : Nat} (h : QAll Q l n) : l.length ≤ n := by
  induction h with
  | nil n => simp
  | cons ha h2 ih => have := h1 _ _ ha; simp; omega
theorem bulkAll_append {H : Type} (a b : List (DataW H)) : Rows.uptoBulkAll (a ++ b) = Rows.uptoBulkAll a + Rows.uptoBulkAll b := by
  induction a with
  | nil => simp [Rows.uptoBulkAll]
  | cons x a ih => simp only [List.cons_append, Rows.uptoBulkAll, ih]; omega
def QSl {α : Type} (Q : α → Nat → Prop) (l : List α) (n : Nat) : Prop := ∃ m, m + 1 ≤ n ∧ QAll Q l m
theorem range_all {α : Type} {H : Type} {Q : α → Nat → Prop} (D : Nat → DataW H) : ∀ (n s : Nat) (f : Nat → α), (∀ i, s ≤ i → i < s + n → Q (f i) (Rows.uptoBulk (D i))) → QAll Q ((List.range' s n).map f) (Rows.uptoBulkAll ((List.range' s n).map D)) := by
  intro n
  induction n with
  | zero => intro s f h; simp only [List.range'_zero, List.map_nil]; exact .nil _
  | succ n ih =>
    intro s f h
    simp only [List.range'_succ, List.map_cons, Rows.uptoBulkAll]
    exact .cons (h s (Nat.le_refl _) (by omega)) (ih (s + 1) f (fun i h1 h2 => h i (by omega) (by omega)))
theorem opens_slice {α : Type} {t e : Nat} {d : Kd α} {Q : α → Nat → Prop} (ht : Try.prog.underlying t = some (.slice e)) (hc : Try.prog.cellsOf e = d.sz) (hd : Opens e d Q) : Opens t (Kd.slice e d) (QSl Q) := by
  intro H enc w fuel cs x h
  rcases Deep.open_slice ht h with ⟨rfl, rfl⟩ | ⟨a, len, cap, m, n, D, Pl, rfl, hb, hl, hm, rfl, rfl, hi⟩
  · exact ⟨[], ⟨none, 0, rfl, Nat.le_refl _, rfl, by simp, fun h => absurd h (by simp)⟩, 0, by simp [Rows.uptoBulk], .nil _⟩
  · simp only [if_true] at hi ⊢
    have hi' : ∀ i, i < len → ∃ y : α × List Value, w.cells? 0 (a.add (i * Try.prog.cellsOf e)) (Try.prog.cellsOf e) = some y.2 ∧ d.K w y.1 y.2 ∧ Q y.1 (Rows.uptoBulk (D i)) := by
      intro i hlt
      obtain ⟨cs', h1, h2⟩ := hi i (by omega)
      obtain ⟨y, h3, h4⟩ := hd H enc w n cs' _ h2
      exact ⟨(y, cs'), h1, h3, h4⟩
    by_cases h0 : len = 0
    · subst h0
      exact ⟨[], ⟨some a, m, by simp, by simp, rfl, by simp, fun h => absurd h (by simp)⟩, 0, by simp only [Rows.uptoBulk]; omega, .nil _⟩
    obtain ⟨y0, _⟩ := hi' 0 (by omega)
    haveI : Inhabited (α × List Value) := ⟨y0⟩
    obtain ⟨f, hf⟩ : ∃ f : Nat → α × List Value, ∀ i, i < len → w.cells? 0 (a.add (i * Try.prog.cellsOf e)) (Try.prog.cellsOf e) = some (f i).2 ∧ d.K w (f i).1 (f i).2 ∧ Q (f i).1 (Rows.uptoBulk (D i)) := Deep.choose_lt hi'
    have hml : maxLen ≤ 9223372036854775807 := by unfold maxLen; omega
    refine ⟨(List.range len).map fun i => (f i).1, ⟨some a, m, by simp, by simpa using hl, by simp, by simp; omega, fun _ => ⟨a, rfl, ?_⟩⟩, ?_⟩
    · intro j p hj
      have hlt : j < len := by
        have := (List.getElem?_eq_some_iff.1 hj).1
        simpa using this
      have hp : p = (f j).1 := by
        simp [hlt] at hj
        exact hj.symm
      subst hp
      obtain ⟨h1, h2, _⟩ := hf j hlt
      obtain ⟨_, hlen, hcell⟩ := World.cells?_some h1
      refine ⟨(f j).2, by rw [hlen, hc], h2, fun i u hu => ?_⟩
      have hlt2 : i < Try.prog.cellsOf e := by rw [← hlen]; exact (List.getElem?_eq_some_iff.1 hu).1
      have := hcell i hlt2
      rw [Deep.add_add, hc] at this
      rw [this, hu]
    · refine ⟨Rows.uptoBulkAll ((List.range len).map D), ?_, ?_⟩
      · simp only [Rows.uptoBulk]; omega
      · rw [List.range_eq_range']
        exact range_all D len 0 (fun i => (f i).1) (fun i _ h2 => (hf i (by omega)).2.2)

/-- Fields from an offset on. -/
def OpensF {α : Type} (fs : List Field) (off : Nat) (d : Kd α) (Q : α → Nat → Prop) : Prop :=
  ∀ (H : Type) (enc : TypeId × Value → H) (w : World) (fuel : Nat) (cs : List Value) (xs : List (DataW H × List MemPlace)), cs.length = off + d.sz → xs.length = fs.length →
    (∀ (i : Nat) (f : Field), fs[i]? = some f → DataW.trod enc Try.prog w 0 (fun _ => true) true fuel f.type ((cs.drop f.offset).take (Try.prog.cellsOf f.type)) = xs[i]?) → ∃ a, d.K w a (cs.drop off) ∧ Q a (Rows.uptoBulkAll (xs.map (·.1)))
theorem opensF_last {α : Type} {f : Field} {off : Nat} {d : Kd α} {Q : α → Nat → Prop} (ho : f.offset = off) (hc : Try.prog.cellsOf f.type = d.sz) (h : Opens f.type d Q) : OpensF [f] off d (fun a n => Q a n) := by
  intro H enc w fuel cs xs hl hx hall
  obtain ⟨x, rfl⟩ : ∃ x, xs = [x] := by
    match xs, hx with
    | [x], _ => exact ⟨x, rfl⟩
  have h0 := hall 0 f rfl
  rw [ho, hc, List.take_of_length_le (by simp; omega)] at h0
  obtain ⟨a, h1, h2⟩ := h H enc w fuel _ x h0
  exact ⟨a, h1, by simpa [Rows.uptoBulkAll] using h2⟩
def QPair {α β : Type} (Q1 : α → Nat → Prop) (Q2 : β → Nat → Prop) (p : α × β) (n : Nat) : Prop := ∃ m k, m + k = n ∧ Q1 p.1 m ∧ Q2 p.2 k
theorem opensF_cons {α β : Type} {f : Field} {fs : List Field} {off off2 : Nat} {d1 : Kd α} {d2 : Kd β} {Q1 : α → Nat → Prop} {Q2 : β → Nat → Prop} (ho : f.offset = off) (hc : Try.prog.cellsOf f.type = d1.sz) (ho2 : off2 = off + d1.sz) (h : Opens f.type d1 Q1) (h2 : OpensF fs off2 d2 Q2) :
    OpensF (f :: fs) off (Kd.pair d1 d2) (QPair Q1 Q2) := by
  intro H enc w fuel cs xs hl hx hall
  have hsz : (Kd.pair d1 d2).sz = d1.sz + d2.sz := rfl
  obtain ⟨x, ys, rfl⟩ : ∃ x ys, xs = x :: ys := by
    match xs, hx with
    | x :: ys, _ => exact ⟨x, ys, rfl⟩
  have h0 := hall 0 f rfl
  rw [ho, hc] at h0
  obtain ⟨a, a1, a2⟩ := h H enc w fuel _ x h0
  obtain ⟨b, b1, b2⟩ := h2 H enc w fuel cs ys (by omega) (by simpa using hx) (fun i g hg => hall (i + 1) g hg)
  refine ⟨(a, b), ⟨_, _, ?_, a1, b1⟩, _, _, rfl, a2, b2⟩
  rw [ho2, ← List.drop_drop, List.take_append_drop]
def QSt {α : Type} (Q : α → Nat → Prop) (a : α) (n : Nat) : Prop := ∃ m, m + 1 ≤ n ∧ Q a m
theorem opens_struct {α : Type} {t : Nat} {fs : Array Field} {d : Kd α} {Q : α → Nat → Prop} (ht : Try.prog.underlying t = some (.struct fs)) (hc : Try.prog.cellsOf t = d.sz) (h : OpensF fs.toList 0 d Q) : Opens t d (QSt Q) := by
  intro H enc w fuel cs x hx
  obtain ⟨xs, n, rfl, rfl, hl, hxl, hall⟩ := DataW.trod_struct ht hx
  obtain ⟨a, h1, h2⟩ := h H enc w n cs xs (by omega) (by simpa using hxl) (fun i f hf => hall i f (by simpa using hf))
  refine ⟨a, by simpa using h1, _, ?_, h2⟩
  simp only [Rows.uptoBulk]; omega

/-! ### an argument -/
section
variable {α : Type} {t : Nat} {d : Kd α} {Q : α → Nat → Prop} {H : Type} {enc : TypeId × Value → H} {W : World} {v : Value} {x : DataW H} {p : List MemPlace} {b0 : Nat} {r : Reach}
theorem arg (h : Opens t d Q) (hv : DataW.Trod enc Try.prog W 0 (fun _ => true) true t v x p) : ∃ a, d.K W a v.cells.toList ∧ Q a (Rows.uptoBulk x) := by
  obtain ⟨fuel, hf⟩ := hv
  exact h H enc W fuel _ _ hf
theorem arg_slice {e : Nat} {d : Kd α} {Q : α → Nat → Prop} (ht : Try.prog.underlying t = some (.slice e)) (h : Opens t (Kd.slice e d) (QSl Q)) (hval : Value.okWide Try.prog W r b0 t v) (hv : DataW.Trod enc Try.prog W 0 (fun _ => true) true t v x p) :
    ∃ A c xs, v = .slice A xs.length c ∧ xs.length ≤ c ∧ d.C W A xs.length xs ∧ QSl Q xs (Rows.uptoBulk x) := by
  obtain ⟨a, len, cap, rfl⟩ := okWide_slice ht hval
  obtain ⟨xs, ⟨A, c, hcs, hl, hC⟩, hQ⟩ := arg h hv
  simp only [Value.cells, List.cons.injEq, and_true, Value.slice.injEq] at hcs
  obtain ⟨rfl, rfl, rfl⟩ := hcs
  exact ⟨_, _, xs, rfl, hl, hC, hQ⟩
theorem arg_struct {fs : Array Field} (ht : Try.prog.underlying t = some (.struct fs)) (h : Opens t d Q) (hval : Value.okWide Try.prog W r b0 t v) (hv : DataW.Trod enc Try.prog W 0 (fun _ => true) true t v x p) :
    ∃ cs a, v = .agg cs ∧ d.K W a cs.toList ∧ Q a (Rows.uptoBulk x) := by
  obtain ⟨cs, rfl, _⟩ := okWide_struct ht hval
  obtain ⟨a, h1, h2⟩ := arg h hv
  exact ⟨cs, a, rfl, h1, h2⟩
end
/-- Arrays of two, of three. -/
theorem opens_array2 {α : Type} {t e : Nat} {d : Kd α} {Q : α → Nat → Prop} (ht : Try.prog.underlying t = some (.array 2 e)) (hc : Try.prog.cellsOf e = d.sz) (hct : Try.prog.cellsOf t = d.sz + d.sz) (h : Opens e d Q) : Opens t (Kd.pair d d) (QSt (QPair Q Q)) := by
  intro H enc w fuel cs x hx
  obtain ⟨xs, n, rfl, rfl, hl, hxl, hall⟩ := DataW.trod_array ht hx
  obtain ⟨x0, x1, rfl⟩ : ∃ x0 x1, xs = [x0, x1] := by
    match xs, hxl with
    | [x0, x1], _ => exact ⟨x0, x1, rfl⟩
  have h0 := hall 0 (by omega)
  have h1 := hall 1 (by omega)
  rw [hc] at h0 h1
  rw [Nat.zero_mul, List.drop_zero] at h0
  rw [Nat.one_mul] at h1
  have e1 : (cs.drop d.sz).take d.sz = cs.drop d.sz := List.take_of_length_le (by simp; omega)
  rw [e1] at h1
  obtain ⟨a, a1, a2⟩ := h H enc w n _ x0 h0
  obtain ⟨b, b1, b2⟩ := h H enc w n _ x1 h1
  refine ⟨(a, b), ⟨_, _, (List.take_append_drop d.sz cs).symm, a1, b1⟩, _, ?_, _, _, rfl, a2, b2⟩
  simp only [Rows.uptoBulk, List.map_cons, List.map_nil, Rows.uptoBulkAll]; omega
theorem opens_array3 {α : Type} {t e : Nat} {d : Kd α} {Q : α → Nat → Prop} (ht : Try.prog.underlying t = some (.array 3 e)) (hc : Try.prog.cellsOf e = d.sz) (hct : Try.prog.cellsOf t = d.sz + (d.sz + d.sz)) (h : Opens e d Q) : Opens t (Kd.pair d (Kd.pair d d)) (QSt (QPair Q (QPair Q Q))) := by
  intro H enc w fuel cs x hx
  obtain ⟨xs, n, rfl, rfl, hl, hxl, hall⟩ := DataW.trod_array ht hx
  obtain ⟨x0, x1, x2, rfl⟩ : ∃ x0 x1 x2, xs = [x0, x1, x2] := by
    match xs, hxl with
    | [x0, x1, x2], _ => exact ⟨x0, x1, x2, rfl⟩
  have h0 := hall 0 (by omega)
  have h1 := hall 1 (by omega)
  have h2 := hall 2 (by omega)
  rw [hc] at h0 h1 h2
  rw [Nat.zero_mul, List.drop_zero] at h0
  rw [Nat.one_mul] at h1
  have e2 : (cs.drop (2 * d.sz)).take d.sz = cs.drop (2 * d.sz) := List.take_of_length_le (by simp; omega)
  rw [e2] at h2
  obtain ⟨a, a1, a2⟩ := h H enc w n _ x0 h0
  obtain ⟨b, b1, b2⟩ := h H enc w n _ x1 h1
  obtain ⟨c, c1, c2⟩ := h H enc w n _ x2 h2
  refine ⟨(a, b, c), ⟨_, _, (List.take_append_drop d.sz cs).symm, a1, _, _, ?_, b1, c1⟩, _, ?_, _, _, rfl, a2, _, _, rfl, b2, c2⟩
  · rw [Nat.two_mul, ← List.drop_drop, List.take_append_drop]
  · simp only [Rows.uptoBulk, List.map_cons, List.map_nil, Rows.uptoBulkAll]; omega
theorem okWide_arrN {t e n : Nat} {W : World} {r : Reach} {b0 : Nat} {v : Value} (ht : Try.prog.underlying t = some (.array n e)) (h : Value.okWide Try.prog W r b0 t v) : ∃ cs, v = .agg cs := by
  unfold Value.okWide at h
  rw [ht] at h
  obtain ⟨cs, rfl, _⟩ := h
  exact ⟨cs, rfl⟩
theorem arg_array2 {α : Type} {t e : Nat} {d : Kd α} {Q : α → Nat → Prop} {H : Type} {enc : TypeId × Value → H} {W : World} {v : Value} {x : DataW H} {p : List MemPlace} {b0 : Nat} {r : Reach} (ht : Try.prog.underlying t = some (.array 2 e)) (hc : Try.prog.cellsOf e = d.sz) (hct : Try.prog.cellsOf t = d.sz + d.sz) (h : Opens e d Q)
    (hval : Value.okWide Try.prog W r b0 t v) (hv : DataW.Trod enc Try.prog W 0 (fun _ => true) true t v x p) : ∃ cs a, v = .agg cs ∧ (Kd.pair d d).K W a cs.toList ∧ QSt (QPair Q Q) a (Rows.uptoBulk x) := by
  obtain ⟨cs, rfl⟩ := okWide_arrN ht hval
  obtain ⟨a, h1, h2⟩ := arg (opens_array2 ht hc hct h) hv
  exact ⟨cs, a, rfl, h1, h2⟩
theorem arg_array3 {α : Type} {t e : Nat} {d : Kd α} {Q : α → Nat → Prop} {H : Type} {enc : TypeId × Value → H} {W : World} {v : Value} {x : DataW H} {p : List MemPlace} {b0 : Nat} {r : Reach} (ht : Try.prog.underlying t = some (.array 3 e)) (hc : Try.prog.cellsOf e = d.sz) (hct : Try.prog.cellsOf t = d.sz + (d.sz + d.sz)) (h : Opens e d Q)
    (hval : Value.okWide Try.prog W r b0 t v) (hv : DataW.Trod enc Try.prog W 0 (fun _ => true) true t v x p) : ∃ cs a, v = .agg cs ∧ (Kd.pair d (Kd.pair d d)).K W a cs.toList ∧ QSt (QPair Q (QPair Q Q)) a (Rows.uptoBulk x) := by
  obtain ⟨cs, rfl⟩ := okWide_arrN ht hval
  obtain ⟨a, h1, h2⟩ := arg (opens_array3 ht hc hct h) hv
  exact ⟨cs, a, rfl, h1, h2⟩
theorem bound {H : Type} {l : List (DataW H)} (hk : Rows.uptoSmall H l = true) : Rows.uptoBulkAll l ≤ 1048576 := of_decide_eq_true hk
/-- A slice's own weight. -/
theorem sized_sl {H : Type} {enc : TypeId × Value → H} {W : World} {base : Nat} {spare : Nat → Bool} {held : Bool} {t e : TypeId} {a : Option Addr} {len cap : Nat} {d : DataW H} {ps : List MemPlace} {ts : List TypeId} {ds : List (DataW H)} {j : Nat}
    (hsz : (DataW.weightsEach Try.prog ts ds).all (· ≤ reachBytes) = true) (ht : ts[j]? = some t) (hd : ds[j]? = some d) (hu : Try.prog.underlying t = some (.slice e)) {B : Nat} (hB : Try.prog.bytesOf e = B)
    (h : DataW.Trod enc Try.prog W base spare held t (.slice a len cap) d ps) : len * B ≤ 140737488351232 := by
  obtain ⟨fuel, hf⟩ := h
  rcases Deep.open_slice hu hf with ⟨hcs, _⟩ | ⟨x, l, c, m, n, D, Pl, hcs, _, hl, _, hm, hx, _⟩
  · simp [Value.cells] at hcs
    obtain ⟨rfl, rfl, rfl⟩ := hcs
    simp
  · simp [Value.cells] at hcs
    obtain ⟨rfl, rfl, rfl⟩ := hcs
    obtain ⟨hx, _⟩ := Prod.mk.inj hx
    subst hx
    have z := sized_slice hsz ht hd hu
    rw [hB] at z
    simp only [List.length_map, List.length_range] at z
    exact Nat.le_trans (Nat.mul_le_mul_right _ (by omega)) z
/-- Two strings in an array: each one's own weight. -/
theorem sized_str2 {H : Type} {enc : TypeId × Value → H} {W : World} {t e : TypeId} {cs : Array Value} {d : DataW H} {ps : List MemPlace} {ts : List TypeId} {ds : List (DataW H)} {j : Nat} {a : ByteArray × ByteArray}
    (hsz : (DataW.weightsEach Try.prog ts ds).all (· ≤ reachBytes) = true) (ht : ts[j]? = some t) (hd : ds[j]? = some d) (hu : Try.prog.underlying t = some (.array 2 e)) (he : Try.prog.underlying e = some .string) (hc : Try.prog.cellsOf e = 1)
    (h : DataW.Trod enc Try.prog W 0 (fun _ => true) true t (.agg cs) d ps) (hk : (Kd.pair Kd.string Kd.string).K W a cs.toList) : a.1.size ≤ 140737488351232 ∧ a.2.size ≤ 140737488351232 := by
  obtain ⟨fuel, hf⟩ := h
  obtain ⟨_, _, hcs, rfl, rfl⟩ := hk
  have hcs : cs.toList = [.string a.1, .string a.2] := hcs
  rw [show (Value.agg cs).cells.toList = cs.toList from rfl, hcs] at hf
  obtain ⟨xs, n, rfl, hx, hl, hxl, hall⟩ := DataW.trod_array hu hf
  obtain ⟨x0, x1, rfl⟩ : ∃ x0 x1, xs = [x0, x1] := by
    match xs, hxl with
    | [x0, x1], _ => exact ⟨x0, x1, rfl⟩
  have key : ∀ (s : ByteArray) (x : DataW H × List MemPlace), DataW.trod enc Try.prog W 0 (fun _ => true) true n e [.string s] = some x → x.1 = .lit (.string s.data.toList) := by
    intro s x h
    cases n with
    | zero => simp [DataW.trod] at h
    | succ n =>
      unfold DataW.trod at h
      rw [he] at h
      split at h <;> simp_all
      obtain ⟨_, rfl⟩ := h
      rfl
  have h0 := hall 0 (by omega)
  have h1 := hall 1 (by omega)
  rw [hc] at h0 h1
  have k0 := key a.1 x0 h0
  have k1 := key a.2 x1 h1
  obtain ⟨hx, _⟩ := Prod.mk.inj hx
  rw [List.map_cons, List.map_cons, List.map_nil, k0, k1] at hx
  have z := fun n hn => of_decide_eq_true (List.all_eq_true.1 hsz n (DataW.weights_mem_each ht hd n hn))
  rw [hx] at z
  have w0 := z a.1.data.toList.length (by simp [DataW.weights, hu, DataW.weightsAll])
  have w1 := z a.2.data.toList.length (by simp [DataW.weights, hu, DataW.weightsAll])
  exact ⟨w0, w1⟩
theorem own : ownKnob Try.prog.godebug = none := by kernel_rfl
theorem laidOut : laidOutB Try.prog = true := by kernel_rfl
end Go.Proofs.Ytkjlbmdcaehgiaa.Open
