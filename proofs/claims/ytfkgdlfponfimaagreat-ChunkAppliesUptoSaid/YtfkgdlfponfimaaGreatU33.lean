import Derived.Test.YtfkgdlfponfimaaGreatRows
import Derived.Test.YtfkgdlfponfimaaGreatProg
import Derived.Test.YtfkgdlfponfimaaGreatU21
import Derived.WalkKit
import Derived.ProofKit
import Derived.OpenShut
import Derived.ShutString
import Derived.ChangeOld
import Derived.Below
import Derived.SizedLaws
import Derived.Deep.Slices
import Derived.Deep.CondSized
/- How an argument that can be read as data lies in memory, as a value of the simple machine: kind by kind, with what its bulk says of its sizes. -/
set_option maxRecDepth 100000
namespace Go.Proofs.YtfkgdlfponfimaaGreat.Open
open Go.ChangeShapes Go.WideShapes Go.ChangeAt Go.RowKit Go.Proofs.YtfkgdlfponfimaaGreat.X
def Kr {α : Type} (fc : α → List AVal) (sz : Nat) (w : World) (a : α) (cs : List Value) : Prop := cs.length = sz ∧ L2 (VR (G0 w)) (fc a) cs ∧ ∀ c ∈ fc a, c.one = true
def Opens {α : Type} (t : Nat) (f : α → AVal) (sz : Nat) (Q : α → Nat → Prop) : Prop :=
  ∀ (H : Type) (enc : TypeId × Value → H) (w : World) (fuel : Nat) (cs : List Value) (x : DataW H × List MemPlace), DataW.trod enc Tryz.prog w 0 (fun _ => true) true fuel t cs = some x → ∃ a, Kr (fun a => (f a).cells) sz w a cs ∧ Q a (Rows.uptoBulk x.1)
theorem opens_iso {α β : Type} {t sz : Nat} {f : α → AVal} {Q : α → Nat → Prop} (h : Opens t f sz Q) (f2 : β → AVal) (g : α → β) (hg : ∀ a, f2 (g a) = f a) {Q' : β → Nat → Prop} (hq : ∀ a n, Q a n → Q' (g a) n) : Opens t f2 sz Q' := fun H enc w fuel cs x hx => by
  obtain ⟨a, h1, h2⟩ := h H enc w fuel cs x hx
  refine ⟨g a, ?_, hq _ _ h2⟩
  unfold Kr at *
  show cs.length = sz ∧ L2 (VR (G0 w)) (f2 (g a)).cells cs ∧ ∀ c ∈ (f2 (g a)).cells, c.one = true
  rw [hg]; exact h1
def QInt (k : IntKind) (a : Int) (n : Nat) : Prop := (Lit.int k a).wf = true ∧ 1 ≤ n
theorem kr_one {α : Type} {f : α → AVal} {w : World} {a : α} {v : Value} (h : VR (G0 w) (f a) v) (ho : (f a).cells = [f a]) (h1 : (f a).one = true) : Kr (fun a => (f a).cells) 1 w a [v] := by
  refine ⟨Z, ?_, ?_⟩
  · show L2 _ (f a).cells [v]
    rw [ho]; exact L2.cons h L2.nil
  · intro c hc
    have hc : c ∈ (f a).cells := hc
    rw [ho] at hc
    have : c = f a := by simpa using hc
    rw [this]; exact h1
theorem opens_int {t : Nat} {k : IntKind} (ht : Tryz.prog.underlying t = some (.int k)) : Opens t (fun a => .int k a) 1 (QInt k) := by
  intro H enc w fuel cs x h
  cases fuel with
  | zero => simp [DataW.trod] at h
  | succ fuel =>
    unfold DataW.trod at h
    rw [ht] at h
    split at h <;> simp_all
    rename_i k' n hk
    obtain ⟨⟨h1, h2⟩, rfl⟩ := h
    subst h1
    subst hk
    exact ⟨_, kr_one (f := fun a => AVal.int k a) (.int _ _) rfl rfl, h2, by simp [Rows.uptoBulk]⟩
def QStr (s : ByteArray) (n : Nat) : Prop := s.size ≤ maxLen ∧ s.size + 1 ≤ n
theorem opens_string {t : Nat} (ht : Tryz.prog.underlying t = some .string) : Opens t (fun s => .str s) 1 QStr := by
  intro H enc w fuel cs x h
  cases fuel with
  | zero => simp [DataW.trod] at h
  | succ fuel =>
    unfold DataW.trod at h
    rw [ht] at h
    split at h <;> simp_all
    rename_i s
    obtain ⟨h1, rfl⟩ := h
    exact ⟨s, kr_one (f := fun a => AVal.str a) (.str _) rfl rfl, h1, by simp [Rows.uptoBulk]⟩
def QBool (b : Bool) (n : Nat) : Prop := 1 ≤ n
inductive QAll {α : Type} (Q : α → Nat → Prop) : List α → Nat → Prop where
  | nil (n : Nat) : QAll Q [] n
  | cons {a : α} {l : List α} {m n : Nat} : Q a m → QAll Q l n → QAll Q (a :: l) (m + n)
theorem QAll.mem {α : Type} {Q : α → Nat → Prop} {l : List α} {n : Nat} (h : QAll Q l n) : ∀ a ∈ l, ∃ m, m ≤ n ∧ Q a m := by
  induction h with
  | nil n => intro a ha; simp at ha
  | cons h1 h2 ih =>
    intro a ha
    rcases List.mem_cons.1 ha with rfl | ha
    · exact ⟨_, Nat.le_add_right _ _, h1⟩
    · obtain ⟨m, hm, hq⟩ := ih a ha
      exact ⟨m, by omega, hq⟩
theorem QAll.len {α : Type} {Q : α → Nat → Prop} (h1 : ∀ a n, Q a n → 1 ≤ n) {l : List α} {n : Nat} (h : QAll Q l n) : l.length ≤ n := by
  induction h with
  | nil n => simp
  | cons ha h2 ih => have := h1 _ _ ha; simp; omega
def QSl {α : Type} (Q : α → Nat → Prop) (l : List α) (n : Nat) : Prop := ∃ m, m + 1 ≤ n ∧ QAll Q l m
theorem range_all {α : Type} {H : Type} {Q : α → Nat → Prop} (D : Nat → DataW H) : ∀ (n s : Nat) (f : Nat → α), (∀ i, s ≤ i → i < s + n → Q (f i) (Rows.uptoBulk (D i))) → QAll Q ((List.range' s n).map f) (Rows.uptoBulkAll ((List.range' s n).map D)) := by
  intro n
  induction n with
  | zero => intro s f h; simp only [List.range'_zero, List.map_nil]; exact .nil _
  | succ n ih =>
    intro s f h
    simp only [List.range'_succ, List.map_cons, Rows.uptoBulkAll]
    exact .cons (h s (Nat.le_refl _) (by omega)) (ih (s + 1) f (fun i h1 h2 => h i (by omega) (by omega)))
theorem rows_list {α : Type} {g : α → AVal} {sz b o : Nat} {w : World} (fa : Nat → α) (fc : Nat → List Value) : ∀ (n s : Nat), (∀ i, s ≤ i → i < s + n → Kr (fun a => (g a).cells) sz w (fa i) (fc i) ∧ ∀ r u, (fc i)[r]? = some u → w.cell? ⟨b, o + i * sz + r, none⟩ = some u) →
    wide sz ((List.range' s n).map fun i => g (fa i)) ∧ L2 (VR (G0 w)) (flat ((List.range' s n).map fun i => g (fa i))) ((List.range' s n).flatMap fc) ∧ ∀ k u, ((List.range' s n).flatMap fc)[k]? = some u → w.cell? ⟨b, o + s * sz + k, none⟩ = some u := by
  intro n
  induction n with
  | zero => intro s _; exact ⟨fun x hx => by simp at hx, L2.nil, fun k u h => by simp at h⟩
  | succ n ih =>
    intro s h
    obtain ⟨⟨h1, h2, h3⟩, h4⟩ := h s (Nat.le_refl _) (by omega)
    obtain ⟨i1, i2, i3⟩ := ih (s + 1) (fun i a1 a2 => h i (by omega) (by omega))
    rw [List.range'_succ, List.map_cons, List.flatMap_cons, flat_cons]
    refine ⟨fun x hx => ?_, h2.append i2, fun k u hk => ?_⟩
    · rcases List.mem_cons.1 hx with rfl | hx
      · exact ⟨by rw [← h1]; exact h2.1, h3⟩
      · exact i1 x hx
    · by_cases hl : k < sz
      · rw [List.getElem?_append_left (by omega)] at hk
        exact h4 k u hk
      · rw [List.getElem?_append_right (by omega), h1] at hk
        have := i3 _ u hk
        rw [show o + s * sz + k = o + (s + 1) * sz + (k - sz) by rw [Nat.add_mul]; omega]
        exact this
theorem opens_slice {α : Type} {t e sz : Nat} {g : α → AVal} {Q : α → Nat → Prop} (ht : Tryz.prog.underlying t = some (.slice e)) (hc : Tryz.prog.cellsOf e = sz) (hz : 0 < sz) (hd : Opens e g sz Q) : Opens t (fun l : List α => .lst (l.map g)) 1 (QSl Q) := by
  intro H enc w fuel cs x h
  rcases Deep.open_slice ht h with ⟨rfl, rfl⟩ | ⟨a, len, cap0, m, n, D, Pl, rfl, hb, hl, hm, rfl, rfl, hi⟩
  · exact ⟨[], kr_one (f := fun l : List α => AVal.lst (l.map g)) (.lst0 (fun _ => rfl)) rfl rfl, 0, by simp [Rows.uptoBulk], .nil _⟩
  · simp only [if_true] at hi ⊢
    have hi' : ∀ i, i < len → ∃ y : α × List Value, w.cells? 0 (a.add (i * Tryz.prog.cellsOf e)) (Tryz.prog.cellsOf e) = some y.2 ∧ Kr (fun a => (g a).cells) sz w y.1 y.2 ∧ Q y.1 (Rows.uptoBulk (D i)) := by
      intro i hlt
      obtain ⟨cs', h1, h2⟩ := hi i (by omega)
      obtain ⟨y, h3, h4⟩ := hd H enc w n cs' _ h2
      exact ⟨(y, cs'), h1, h3, h4⟩
    by_cases h0 : len = 0
    · subst h0
      exact ⟨[], kr_one (f := fun l : List α => AVal.lst (l.map g)) (.lst0 (fun e => by cases e)) rfl rfl, 0, by simp only [Rows.uptoBulk]; omega, .nil _⟩
    obtain ⟨y0, hy0⟩ := hi' 0 (by omega)
    haveI : Inhabited (α × List Value) := ⟨y0⟩
    obtain ⟨f, hf⟩ : ∃ f : Nat → α × List Value, ∀ i, i < len → w.cells? 0 (a.add (i * Tryz.prog.cellsOf e)) (Tryz.prog.cellsOf e) = some (f i).2 ∧ Kr (fun a => (g a).cells) sz w (f i).1 (f i).2 ∧ Q (f i).1 (Rows.uptoBulk (D i)) := Deep.choose_lt hi'
    have hspot : a = ⟨a.block, a.off, none⟩ := by
      obtain ⟨_, hlen, hcell⟩ := World.cells?_some hy0.1
      have hc0 := hcell 0 (by omega)
      have e0 : (a.add (0 * Tryz.prog.cellsOf e)).add 0 = a := by simp [Addr.add]
      rw [e0, List.getElem?_eq_getElem (by omega)] at hc0
      obtain ⟨bl, o, sp⟩ := a
      cases sp with
      | none => rfl
      | some s =>
        simp only [World.cell?, Option.isSome_some, if_true] at hc0
        split at hc0 <;> cases hc0
    obtain ⟨bl, o, hab⟩ : ∃ bl o, a = ⟨bl, o, none⟩ := ⟨_, _, hspot⟩
    subst hab
    obtain ⟨r1, r2, r3⟩ := rows_list (g := g) (sz := sz) (b := bl) (o := o) (w := w) (fun i => (f i).1) (fun i => (f i).2) len 0 (fun i _ h2 => by
      obtain ⟨k1, k2, _⟩ := hf i (by omega)
      refine ⟨k2, fun r u hr => ?_⟩
      obtain ⟨_, hlen, hcell⟩ := World.cells?_some k1
      have hlt : r < Tryz.prog.cellsOf e := by rw [← hlen]; exact (List.getElem?_eq_some_iff.1 hr).1
      have := hcell r hlt
      rw [hr, hc, Addr.add_lit, Addr.add_lit] at this
      exact this)
    rw [← List.range_eq_range'] at r1 r2 r3
    have hml : maxLen ≤ 9223372036854775807 := by unfold maxLen; omega
    refine ⟨(List.range len).map fun i => (f i).1, kr_one (f := fun l : List α => AVal.lst (l.map g)) ?_ Z Z, ?_⟩
    · have hlen : ((List.range len).map fun i => g (f i).1).length = len := by simp
      have := VR.lst (G := G0 w) (xs := (List.range len).map fun i => g (f i).1) (b := bl) (o := o) (w := sz) ((List.range len).flatMap fun i => (f i).2) (fun e => by rw [e] at hlen; exact h0 hlen.symm) r1 (by rw [hlen]; exact hl) (fun k u hk => by have := r3 k u hk; rw [Nat.zero_mul, Nat.add_zero] at this; exact this) r2.1 r2.2
      rw [hlen] at this
      simpa [List.map_map, Function.comp_def] using this
    · refine ⟨Rows.uptoBulkAll ((List.range len).map D), ?_, ?_⟩
      · simp only [Rows.uptoBulk]; omega
      · rw [List.range_eq_range']
        exact range_all D len 0 (fun i => (f i).1) (fun i _ h2 => (hf i (by omega)).2.2)
def OpensF {α : Type} (fs : List Field) (off : Nat) (fc : α → List AVal) (sz : Nat) (Q : α → Nat → Prop) : Prop :=
  ∀ (H : Type) (enc : TypeId × Value → H) (w : World) (fuel : Nat) (cs : List Value) (xs : List (DataW H × List MemPlace)), cs.length = off + sz → xs.length = fs.length →
    (∀ (i : Nat) (f : Field), fs[i]? = some f → DataW.trod enc Tryz.prog w 0 (fun _ => true) true fuel f.type ((cs.drop f.offset).take (Tryz.prog.cellsOf f.type)) = xs[i]?) → ∃ a, Kr fc sz w a (cs.drop off) ∧ Q a (Rows.uptoBulkAll (xs.map (·.1)))
theorem opensF_last {α : Type} {f : Field} {off sz : Nat} {g : α → AVal} {Q : α → Nat → Prop} (ho : f.offset = off) (hc : Tryz.prog.cellsOf f.type = sz) (h : Opens f.type g sz Q) : OpensF [f] off (fun a => (g a).cells) sz (fun a n => Q a n) := by
  intro H enc w fuel cs xs hl hx hall
  obtain ⟨x, rfl⟩ : ∃ x, xs = [x] := by
    match xs, hx with
    | [x], _ => exact ⟨x, rfl⟩
  have h0 := hall 0 f rfl
  rw [ho, hc, List.take_of_length_le (by simp; omega)] at h0
  obtain ⟨a, h1, h2⟩ := h H enc w fuel _ x h0
  exact ⟨a, h1, by simpa [Rows.uptoBulkAll] using h2⟩
def QPair {α β : Type} (Q1 : α → Nat → Prop) (Q2 : β → Nat → Prop) (p : α × β) (n : Nat) : Prop := ∃ m k, m + k = n ∧ Q1 p.1 m ∧ Q2 p.2 k
theorem opensF_cons {α β : Type} {f : Field} {fs : List Field} {off off2 s1 s2 : Nat} {g : α → AVal} {gc : β → List AVal} {Q1 : α → Nat → Prop} {Q2 : β → Nat → Prop} (ho : f.offset = off) (hc : Tryz.prog.cellsOf f.type = s1) (ho2 : off2 = off + s1) (h : Opens f.type g s1 Q1) (h2 : OpensF fs off2 gc s2 Q2) :
    OpensF (f :: fs) off (fun p : α × β => (g p.1).cells ++ gc p.2) (s1 + s2) (QPair Q1 Q2) := by
  intro H enc w fuel cs xs hl hx hall
  obtain ⟨x, ys, rfl⟩ : ∃ x ys, xs = x :: ys := by
    match xs, hx with
    | x :: ys, _ => exact ⟨x, ys, rfl⟩
  have h0 := hall 0 f rfl
  rw [ho, hc] at h0
  obtain ⟨a, ⟨a1, a2, a3⟩, a4⟩ := h H enc w fuel _ x h0
  obtain ⟨b, ⟨b1, b2, b3⟩, b4⟩ := h2 H enc w fuel cs ys (by omega) (by simpa using hx) (fun i g hg => hall (i + 1) g hg)
  refine ⟨(a, b), ⟨by simp; omega, ?_, ?_⟩, _, _, Z, a4, b4⟩
  · have := a2.append b2
    rwa [ho2, ← List.drop_drop, List.take_append_drop] at this
  · intro c hc
    rcases List.mem_append.1 hc with hc | hc
    · exact a3 c hc
    · exact b3 c hc
def QSt {α : Type} (Q : α → Nat → Prop) (a : α) (n : Nat) : Prop := ∃ m, m + 1 ≤ n ∧ Q a m
theorem opens_struct {α : Type} {t sz : Nat} {fs : Array Field} {gc : α → List AVal} {Q : α → Nat → Prop} (ht : Tryz.prog.underlying t = some (.struct fs)) (hc : Tryz.prog.cellsOf t = sz) (h : OpensF fs.toList 0 gc sz Q) : Opens t (fun a => .agg (gc a)) sz (QSt Q) := by
  intro H enc w fuel cs x hx
  obtain ⟨xs, n, rfl, rfl, hl, hxl, hall⟩ := DataW.trod_struct ht hx
  obtain ⟨a, h1, h2⟩ := h H enc w n cs xs (by omega) (by simpa using hxl) (fun i f hf => hall i f (by simpa using hf))
  rw [List.drop_zero] at h1
  refine ⟨a, h1, _, ?_, h2⟩
  simp only [Rows.uptoBulk]; omega
def fld (t off : Nat) : Field := { name := "", type := t, offset := off, embedded := false, tag := "", pkgPath := "", byteOffset := 0 }
section
variable {α : Type} {t sz : Nat} {f : α → AVal} {Q : α → Nat → Prop} {H : Type} {enc : TypeId × Value → H} {W : World} {v : Value} {x : DataW H} {p : List MemPlace} {b0 : Nat} {r : Reach}
theorem arg (h : Opens t f sz Q) (hv : DataW.Trod enc Tryz.prog W 0 (fun _ => true) true t v x p) : ∃ a, Kr (fun a => (f a).cells) sz W a v.cells.toList ∧ Q a (Rows.uptoBulk x) := by
  obtain ⟨fuel, hf⟩ := hv
  exact h H enc W fuel _ _ hf
theorem arg_struct {fs : Array Field} {gc : α → List AVal} (ht : Tryz.prog.underlying t = some (.struct fs)) (h : Opens t (fun a => .agg (gc a)) sz Q) (hval : Value.okWide Tryz.prog W r b0 t v) (hv : DataW.Trod enc Tryz.prog W 0 (fun _ => true) true t v x p) :
    ∃ a, VR (G0 W) (.agg (gc a)) v ∧ Q a (Rows.uptoBulk x) := by
  obtain ⟨cs, rfl, _⟩ := okWide_struct ht hval
  obtain ⟨a, ⟨_, h2, h3⟩, hQ⟩ := arg h hv
  exact ⟨a, .agg h3 h2.1 h2.2, hQ⟩
end
theorem bound {H : Type} {l : List (DataW H)} (hk : Rows.uptoSmall H l = true) : Rows.uptoBulkAll l ≤ 1048576 := of_decide_eq_true hk
theorem own : ownKnob Tryz.prog.godebug = none := by kernel_rfl
theorem laidOut : laidOutB Tryz.prog = true := by kernel_rfl
end Go.Proofs.YtfkgdlfponfimaaGreat.Open
namespace Go.Proofs.YtfkgdlfponfimaaGreat.X
theorem in_u64 {a : Int} {n : Nat} (h : Open.QInt .u64 a n) : 0 ≤ a ∧ a ≤ 18446744073709551615 := by
  have := h.1
  simp [Lit.wf, IntKind.min, IntKind.max, IntKind.signed, IntKind.bits] at this
  omega
theorem in_i64 {a : Int} {n : Nat} (h : Open.QInt .i64 a n) : -9223372036854775808 ≤ a ∧ a ≤ 9223372036854775807 := by
  have := h.1
  simp [Lit.wf, IntKind.min, IntKind.max, IntKind.signed, IntKind.bits] at this
  omega
theorem qsl_len {α : Type} {Q : α → Nat → Prop} {l : List α} {n : Nat} (h : Open.QSl Q l n) (h1 : ∀ a n, Q a n → 1 ≤ n) : l.length + 1 ≤ n := by
  obtain ⟨m, hm, hq⟩ := h
  have := hq.len h1
  omega
theorem qsl_mem {α : Type} {Q : α → Nat → Prop} {l : List α} {n : Nat} (h : Open.QSl Q l n) : ∀ a ∈ l, ∃ m, m ≤ n ∧ Q a m := by
  obtain ⟨m, hm, hq⟩ := h
  intro a ha
  obtain ⟨k, hk, h2⟩ := hq.mem a ha
  exact ⟨k, by omega, h2⟩
theorem qall_sum {α : Type} {Q : α → Nat → Prop} {f : α → Nat} (h1 : ∀ a m, Q a m → f a ≤ m) {l : List α} {n : Nat} (h : Open.QAll Q l n) : (l.map f).sum ≤ n := by
  induction h with
  | nil n => simp
  | cons ha h2 ih => have := h1 _ _ ha; simp only [List.map_cons, List.sum_cons]; omega
theorem qsl_sum {α : Type} {Q : α → Nat → Prop} {f : α → Nat} (h1 : ∀ a m, Q a m → f a ≤ m) {l : List α} {n : Nat} (h : Open.QSl Q l n) : (l.map f).sum + 1 ≤ n := by
  obtain ⟨m, hm, hq⟩ := h
  have := qall_sum h1 hq
  omega
end Go.Proofs.YtfkgdlfponfimaaGreat.X
