import Derived.Test.YtfkgdlfponfimaaGreatU25
/- Own things of the heap side by side: each with the names that it has for itself; all names are ahead of a place in the code. -/
namespace Go.Proofs.YtfkgdlfponfimaaGreat.X
open Go
variable {c : Cfg} {ν : Nm} {e : Env} {H H1 : Heap}
theorem bs : (∀ (p : Prop) [Decidable p], (decide p = true) = p) ∧ (∀ (p : Prop) [Decidable p], (decide p = false) = ¬ p) ∧ (∀ b : Bool, ((!b) = true) = (b = false)) ∧ (∀ b : Bool, ((!b) = false) = (b = true)) ∧ (∀ a b : Bool, ((a && b) = true) = (a = true ∧ b = true)) ∧ (∀ a b : Bool, ((a || b) = true) = (a = true ∨ b = true)) ∧
    (∀ b : Bool, (¬ b = true) = (b = false)) ∧ (∀ b : Bool, (¬ b = false) = (b = true)) ∧ (∀ (p : Prop) [Decidable p], (¬ ¬ p) = p) ∧ (∀ (α : Type) (a b : List α), (a ++ b).length = a.length + b.length) ∧ (∀ (α : Type) (a : α) (b : List α), (a :: b).length = b.length + 1) ∧ (∀ α : Type, ([] : List α).length = 0) ∧ (∀ (α : Type) (n : Nat) (b : List α), (b.drop n).length = b.length - n) ∧ (∀ (α : Type) (n : Nat) (b : List α), (b.take n).length = min n b.length) ∧ (∀ (α : Type) [BEq α] [LawfulBEq α] (a b : α), ((a == b) = true) = (a = b)) ∧ (∀ (α : Type) [BEq α] [LawfulBEq α] (a b : α), ((a != b) = true) = (a ≠ b)) := by
  refine ⟨fun p _ => decide_eq_true_eq, fun p _ => propext decide_eq_false_iff_not, fun b => by simp, fun b => by simp, fun a b => by simp, fun a b => by simp, fun b => by simp, fun b => by simp, fun p _ => propext Decidable.not_not, fun _ a b => by simp, fun _ a b => by simp, fun _ => Z, fun _ a b => by simp, fun _ a b => by simp, fun _ _ _ a b => propext beq_iff_eq, fun _ _ _ a b => propext bne_iff_ne⟩
theorem ss : (∀ a b : ByteArray, (a ++ b).size = a.size + b.size) ∧ (∀ (a : ByteArray) (i j : Nat), (a.extract i j).size = min j a.size - i) ∧ (∀ (α β : Type) (f : α → β) (l : List α), (l.map f).length = l.length) ∧ (∀ (α : Type) (a b : List α), (a ++ b).length = a.length + b.length) ∧ (∀ (α : Type) (a : α) (b : List α), (a :: b).length = b.length + 1) ∧ (∀ α : Type, ([] : List α).length = 0) ∧ (∀ (α : Type) (n : Nat) (b : List α), (b.drop n).length = b.length - n) ∧ (∀ (α : Type) (n : Nat) (b : List α), (b.take n).length = min n b.length) := by
  refine ⟨fun a b => ByteArray.size_append, fun a i j => by simp, fun _ _ f l => by simp, fun _ a b => by simp, fun _ a b => by simp, fun _ => Z, fun _ a b => by simp, fun _ a b => by simp⟩
def before (p q : Nm) : Prop := ∃ s a b x y, p = a ++ x :: s ∧ q = b ++ y :: s ∧ x < y
theorem before.ne {p q : Nm} (h : before p q) : p ≠ q := by
  obtain ⟨s, a, b, x, y, rfl, rfl, hl⟩ := h
  intro he
  have hab : a.length = b.length := by
    have := congrArg List.length he
    simp at this; omega
  have := (List.append_inj he hab).2
  have := (List.cons.inj this).1
  omega
theorem before.ext {p q : Nm} (h : before p q) (a b : Nm) : before (a ++ p) (b ++ q) := by
  obtain ⟨s, a', b', x, y, rfl, rfl, hl⟩ := h
  exact ⟨s, a ++ a', b ++ b', x, y, by simp, by simp, hl⟩
theorem before.trans {p q r : Nm} (h : before p q) (h2 : before q r) : before p r := by
  obtain ⟨s, a, b, x, y, rfl, e1, hl⟩ := h
  obtain ⟨s2, a2, b2, x2, y2, e2, rfl, hl2⟩ := h2
  rw [e1] at e2
  have hs : (y :: s) <:+ (b ++ y :: s) := ⟨b, rfl⟩
  have hs2 : (x2 :: s2) <:+ (b ++ y :: s) := by rw [e2]; exact ⟨a2, rfl⟩
  rcases Nat.lt_trichotomy s.length s2.length with hlt | heq | hgt
  · have : (y :: s) <:+ (x2 :: s2) := List.suffix_of_suffix_length_le hs hs2 (by simp; omega)
    obtain ⟨d, hd⟩ := this
    cases d with
    | nil => simp at hd; rw [hd.2] at hlt; omega
    | cons z d =>
      simp only [List.cons_append, List.cons.injEq] at hd
      exact ⟨s, a, b2 ++ y2 :: d, x, y, rfl, by rw [← hd.2]; simp, hl⟩
  · have : (y :: s) <:+ (x2 :: s2) := List.suffix_of_suffix_length_le hs hs2 (by simp; omega)
    have := this.eq_of_length (by simp [heq])
    obtain ⟨rfl, rfl⟩ := List.cons.inj this
    exact ⟨s, a, b2, x, y2, rfl, rfl, by omega⟩
  · have : (x2 :: s2) <:+ (y :: s) := List.suffix_of_suffix_length_le hs2 hs (by simp; omega)
    obtain ⟨d, hd⟩ := this
    cases d with
    | nil => simp at hd; rw [hd.2] at hgt; omega
    | cons z d =>
      simp only [List.cons_append, List.cons.injEq] at hd
      exact ⟨s2, a ++ x :: d, b2, x2, y2, by rw [← hd.2]; simp, rfl, hl2⟩
def lexd : List Nat → List Nat → Bool
  | x :: xs, y :: ys => if x < y then true else if x = y then lexd xs ys else false
  | _, _ => false
theorem lexd_sound : ∀ (a b : List Nat), lexd a b = true → ∃ s x y a' b', a = s ++ x :: a' ∧ b = s ++ y :: b' ∧ x < y
  | [], _, h => by simp [lexd] at h
  | _ :: _, [], h => by simp [lexd] at h
  | x :: xs, y :: ys, h => by
    simp only [lexd] at h
    split at h
    · rename_i hlt; exact ⟨[], x, y, xs, ys, rfl, rfl, hlt⟩
    · split at h
      · rename_i he
        subst he
        obtain ⟨s, x', y', a', b', rfl, rfl, hl⟩ := lexd_sound xs ys h
        exact ⟨x :: s, x', y', a', b', rfl, rfl, hl⟩
      · cases h
def befL (a b : List Nat) : Bool := lexd a.reverse b.reverse
theorem Au {a b : List Nat} (h : befL a b = true) : before (a ++ ν) (b ++ ν) := by
  obtain ⟨s, x, y, a', b', e1, e2, hl⟩ := lexd_sound _ _ h
  have e1 := congrArg List.reverse e1
  have e2 := congrArg List.reverse e2
  simp at e1 e2
  exact ⟨s.reverse ++ ν, a'.reverse, b'.reverse, x, y, by rw [e1]; simp, by rw [e2]; simp, hl⟩
def le (p q : Nm) : Prop := ∀ r, before r p → before r q
theorem le_refl {p : Nm} : le p p := fun _ h => h
theorem AE {b p : Nm} : le p (b ++ p) := fun r h => by have := h.ext [] b; simpa using this
theorem Ax {p q : Nm} (h : before p q) : le p q := fun _ h1 => h1.trans h
theorem le.trans {p q r : Nm} (h : le p q) (h2 : le q r) : le p r := fun _ h1 => h2 _ (h _ h1)
theorem Ar {a b : List Nat} (h : befL a b = true) : le (a ++ ν) (b ++ ν) := Ax (Au h)
theorem Az {a p q : Nm} (h : before p q) : before (a ++ p) q := by have := h.ext a []; simpa using this
theorem Bg {a p p' q : Nm} (hU : under p p' = true) (h : before p q) : before (a ++ p') q := by
  simp only [under, List.isSuffixOf_iff_suffix] at hU
  obtain ⟨d, rfl⟩ := hU
  rw [← List.append_assoc]
  exact Az h
theorem Af {β p : Nm} (a : Nm) (h : under β p = true) : under β (a ++ p) = true := by
  simp only [under, List.isSuffixOf_iff_suffix] at *
  exact h.trans (List.suffix_append a p)
theorem Bh {p : Nm} : under [] p = true := by simp [under]
structure Asr where
  holds : Heap → List Nm → Prop
  framed : ∀ {H H1 : Heap} {fp : List Nm}, holds H fp → (∀ p ∈ fp, H1 p = H p) → holds H1 fp
def sl (O : AVal) (w : Nat) (xs : List AVal) : Asr := ⟨fun H fp => Sl H w xs O fp, fun h hf => h.frame hf⟩
def row (q : Nm) (w : Nat) (xs : List AVal) : Asr := ⟨fun H fp => fp = [q] ∧ H q = some (.row w xs), fun h hf => ⟨h.1, by rw [hf _ (by rw [h.1]; simp)]; exact h.2⟩⟩
def bld (q : Nm) (s : ByteArray) : Asr := ⟨fun H fp => fp = [q] ∧ H q = some (.bld s), fun h hf => ⟨h.1, by rw [hf _ (by rw [h.1]; simp)]; exact h.2⟩⟩
def mp (q : Nm) (es : List (AVal × AVal)) : Asr := ⟨fun H fp => fp = [q] ∧ H q = some (.map es), fun h hf => ⟨h.1, by rw [hf _ (by rw [h.1]; simp)]; exact h.2⟩⟩
def Asr.star (a b : Asr) : Asr := ⟨fun H fp => ∃ f1 f2, fp = f1 ++ f2 ∧ (∀ p ∈ f1, p ∉ f2) ∧ a.holds H f1 ∧ b.holds H f2, fun ⟨f1, f2, h0, h1, h2, h3⟩ hf => ⟨f1, f2, h0, h1, a.framed h2 fun p hp => hf p (by rw [h0]; simp [hp]), b.framed h3 fun p hp => hf p (by rw [h0]; simp [hp])⟩⟩
def hold : List Asr → Heap → List Nm → Prop
  | [], _, fp => fp = []
  | a :: L, H, fp => ∃ f1 f2, fp = f1 ++ f2 ∧ (∀ p ∈ f1, p ∉ f2) ∧ a.holds H f1 ∧ hold L H f2
theorem hold.framed : ∀ {L : List Asr} {H H1 : Heap} {fp : List Nm}, hold L H fp → (∀ p ∈ fp, H1 p = H p) → hold L H1 fp
  | [], _, _, _, h, _ => h
  | a :: L, H, H1, fp, ⟨f1, f2, h0, h1, h2, h3⟩, hf => ⟨f1, f2, h0, h1, a.framed h2 fun p hp => hf p (by rw [h0]; simp [hp]), hold.framed h3 fun p hp => hf p (by rw [h0]; simp [hp])⟩
theorem hold.focus : ∀ {L : List Asr} {k : Nat} {a : Asr} {H : Heap} {fp : List Nm}, hold L H fp → L[k]? = some a →
    ∃ f1 f2, a.holds H f1 ∧ (∀ p ∈ f1, p ∉ f2) ∧ (∀ p, p ∈ fp ↔ p ∈ f1 ∨ p ∈ f2) ∧
      (∀ H' f1' a', a'.holds H' f1' → (∀ p ∈ f2, H' p = H p) → (∀ p ∈ f1', p ∉ f2) → ∃ fp', hold (L.set k a') H' fp' ∧ ∀ p ∈ fp', p ∈ f1' ∨ p ∈ f2) ∧
      (∀ H', (∀ p ∈ f2, H' p = H p) → hold (L.eraseIdx k) H' f2)
  | [], _, _, _, _, _, hk => by simp at hk
  | a :: L, 0, b, H, fp, ⟨f1, f2, h0, h1, h2, h3⟩, hk => by
    obtain rfl : a = b := by simpa using hk
    exact ⟨f1, f2, h2, h1, fun p => by rw [h0]; simp, fun H' f1' a' k1 k2 k3 => ⟨f1' ++ f2, ⟨f1', f2, rfl, k3, k1, hold.framed h3 k2⟩, fun p hp => by simpa using hp⟩, fun H' k2 => hold.framed h3 k2⟩
  | a :: L, k + 1, b, H, fp, ⟨f1, f2, h0, h1, h2, h3⟩, hk => by
    obtain ⟨g1, g2, i1, i2, i3, i4, i5⟩ := hold.focus (k := k) (a := b) h3 (by simpa using hk)
    have hg1 : ∀ p ∈ g1, p ∈ f2 := fun p hp => (i3 p).2 (.inl hp)
    have hg2 : ∀ p ∈ g2, p ∈ f2 := fun p hp => (i3 p).2 (.inr hp)
    refine ⟨g1, f1 ++ g2, i1, fun p hp hm => ?_, fun p => ?_, fun H' f1' a' k1 k2 k3 => ?_, fun H' k2 => ?_⟩
    · rcases List.mem_append.1 hm with hm | hm
      · exact h1 p hm (hg1 p hp)
      · exact i2 p hp hm
    · rw [h0, List.mem_append, i3, List.mem_append]
      constructor
      · rintro (h | h | h) <;> simp [h]
      · rintro (h | h | h) <;> simp [h]
    · obtain ⟨fp', j1, j2⟩ := i4 H' f1' a' k1 (fun p hp => k2 p (by simp [hp])) (fun p hp hm => k3 p hp (by simp [hm]))
      refine ⟨f1 ++ fp', ⟨f1, fp', Z, fun p hp hm => ?_, a.framed h2 fun p hp => k2 p (by simp [hp]), j1⟩, fun p hp => ?_⟩
      · rcases j2 p hm with h | h
        · exact k3 p h (by simp [hp])
        · exact h1 p hp (hg2 p h)
      · rcases List.mem_append.1 hp with h | h
        · simp [h]
        · rcases j2 p h with h | h <;> simp [h]
    · exact ⟨f1, g2, rfl, fun p hp hm => h1 p hp (hg2 p hm), a.framed h2 fun p hp => k2 p (by simp [hp]), i5 H' fun p hp => k2 p (by simp [hp])⟩
def Own (β pos : Nm) (H : Heap) (L : List Asr) : Prop := ∃ fp, hold L H fp ∧ ∀ p ∈ fp, before p pos ∧ under β p = true
namespace Own
variable {β pos pos' : Nm} {L : List Asr} {k : Nat}
theorem nil : Own β pos H [] := ⟨[], rfl, by simp⟩
theorem mono (h : Own β pos H L) (hl : le pos pos') : Own β pos' H L := let ⟨fp, h1, h2⟩ := h; ⟨fp, h1, fun p hp => ⟨hl _ (h2 p hp).1, (h2 p hp).2⟩⟩
theorem cast {L' : List Asr} (h : Own β pos H L) (he : L = L') : Own β pos H L' := he ▸ h
theorem same (h : Own β pos H L) (hH : ∀ p, before p pos → under β p = true → H1 p = H p) : Own β pos H1 L := let ⟨fp, h1, h2⟩ := h; ⟨fp, h1.framed fun p hp => hH p (h2 p hp).1 (h2 p hp).2, h2⟩
theorem rest (h : Own β pos H1 L) (hn : ∀ p, before p pos → under ν p = false) : Own β pos (X.rest ν H H1) L := h.same fun p h1 _ => by unfold X.rest; rw [hn p h1]; rfl
theorem drop (h : Own β pos H L) {a : Asr} (hk : L[k]? = some a) : Own β pos H (L.eraseIdx k) := by
  obtain ⟨fp, h1, h2⟩ := h
  obtain ⟨f1, f2, i1, i2, i3, i4, i5⟩ := h1.focus hk
  exact ⟨f2, i5 H fun _ _ => rfl, fun p hp => h2 p ((i3 p).2 (.inr hp))⟩
theorem drop0 {a : Asr} (h : Own β pos H (a :: L)) : Own β pos H L := h.drop (k := 0) Z
theorem get (h : Own β pos H L) {a : Asr} (hk : L[k]? = some a) : ∃ f, a.holds H f ∧ ∀ p ∈ f, before p pos ∧ under β p = true := by
  obtain ⟨fp, h1, h2⟩ := h
  obtain ⟨f1, f2, i1, i2, i3, i4, i5⟩ := h1.focus hk
  exact ⟨f1, i1, fun p hp => h2 p ((i3 p).2 (.inl hp))⟩
theorem upd (h : Own β pos H L) {a : Asr} (hk : L[k]? = some a) (hl : le pos pos') : ∃ f1, a.holds H f1 ∧ (∀ p ∈ f1, before p pos ∧ under β p = true) ∧
    ∀ H' f1' a', a'.holds H' f1' → (∀ p, p ∉ f1 → before p pos → H' p = H p) → (∀ p ∈ f1', p ∈ f1 ∨ ¬ before p pos) → (∀ p ∈ f1', before p pos' ∧ under β p = true) → Own β pos' H' (L.set k a') := by
  obtain ⟨fp, h1, h2⟩ := h
  obtain ⟨f1, f2, i1, i2, i3, i4, i5⟩ := h1.focus hk
  refine ⟨f1, i1, fun p hp => h2 p ((i3 p).2 (.inl hp)), fun H' f1' a' k1 k2 k3 k4 => ?_⟩
  have hb2 : ∀ p ∈ f2, before p pos := fun p hp => (h2 p ((i3 p).2 (.inr hp))).1
  obtain ⟨fp', j1, j2⟩ := i4 H' f1' a' k1 (fun p hp => k2 p (fun hm => i2 p hm hp) (hb2 p hp)) (fun p hp hm => (k3 p hp).elim (fun h => i2 p h hm) (fun h => h (hb2 p hm)))
  refine ⟨fp', j1, fun p hp => ?_⟩
  rcases j2 p hp with h | h
  · exact k4 p h
  · exact ⟨hl _ (hb2 p h), (h2 p ((i3 p).2 (.inr h))).2⟩
theorem add (h : Own β pos H L) {π : Nm} (hp : le pos π) (hl : before π pos') (hβ : under β π = true) {H' : Heap} (hH : ∀ p, p ≠ π → H' p = H p) {a : Asr} (ha : a.holds H' [π]) : Own β pos' H' (a :: L) := by
  obtain ⟨fp, h1, h2⟩ := h
  have hne : ∀ p ∈ fp, p ≠ π := fun p hp' => (hp _ (h2 p hp').1).ne
  refine ⟨[π] ++ fp, ⟨[π], fp, Z, fun p hp' hm => hne p hm (by simpa using hp'), ha, h1.framed fun p hp' => hH p (hne p hp')⟩, fun p hp' => ?_⟩
  rcases List.mem_append.1 hp' with h | h
  · obtain rfl : p = π := by simpa using h
    exact ⟨hl, hβ⟩
  · exact ⟨(hp _ (h2 p h).1).trans hl, (h2 p h).2⟩
theorem addN (h : Own β pos H L) {w : Nat} : Own β pos H (sl .nls w [] :: L) := let ⟨fp, h1, h2⟩ := h; ⟨fp, ⟨[], fp, rfl, by simp, .nls rfl, h1⟩, h2⟩
theorem addE (h : Own β pos H L) {w : Nat} : Own β pos H (sl .emp w [] :: L) := let ⟨fp, h1, h2⟩ := h; ⟨fp, ⟨[], fp, rfl, by simp, .emp rfl, h1⟩, h2⟩
theorem split {a b : Asr} (h : Own β pos H (a.star b :: L)) : Own β pos H (a :: b :: L) := by
  obtain ⟨fp, ⟨f1, f2, rfl, h1, ⟨g1, g2, rfl, k1, k2, k3⟩, h3⟩, h4⟩ := h
  exact ⟨_, ⟨g1, g2 ++ f2, by rw [List.append_assoc], fun p hp hm => (List.mem_append.1 hm).elim (k1 p hp) (h1 p (by simp [hp])), k2, g2, f2, rfl, fun p hp => h1 p (by simp [hp]), k3, h3⟩, h4⟩
end Own
def Ls (v : AVal) (xs : List AVal) : Prop := v = .lst xs ∨ (xs = [] ∧ (v = .emp ∨ v = .nls))
theorem Ls.of {xs : List AVal} : Ls (.lst xs) xs := .inl rfl
theorem Ls.emp : Ls .emp [] := .inr ⟨rfl, .inl rfl⟩
theorem Ls.nls : Ls .nls [] := .inr ⟨rfl, .inr rfl⟩
theorem Ls.lst {v : AVal} {xs : List AVal} {i : Nat} (h : Ls v xs) (hi : i < xs.length) : v = .lst xs := by
  rcases h with h | ⟨h, _⟩
  · exact h
  · subst h; simp at hi
theorem Ls.elems {v : AVal} {xs : List AVal} (h : Ls v xs) : elems H v = some xs := by
  rcases h with rfl | ⟨rfl, rfl | rfl⟩ <;> rfl
theorem Ls.freeze {v : AVal} {xs : List AVal} (h : Ls v xs) {n : Nat} : freeze ν H (n + 1) v = .lst xs := by
  rcases h with rfl | ⟨rfl, rfl | rfl⟩ <;> rfl
theorem Ls.len {v : AVal} {xs : List AVal} (h : Ls v xs) : lenOf H v = some xs.length := by
  rcases h with rfl | ⟨rfl, rfl | rfl⟩ <;> rfl
theorem Ls.kind {v : AVal} {xs : List AVal} (h : Ls v xs) {T : TT} {t e : TypeId} {ti : TI} {r : List TypeId} (ht : T t = some ti) (hk : ti.k = .slice e) : lenKind T (t :: r) v = true := by
  rcases h with rfl | ⟨rfl, rfl | rfl⟩ <;> simp only [lenKind, ht, hk]
theorem Ba {α : Type} {f : α → AVal} {l : List α} {i : Nat} (h : i < l.length) : (l.map f)[i]? = some (f l[i]) := by simp [h]
section
variable {all : Array Oper} {i : Nat} {dst : Option Tmp} {ty : TypeId} {pos : String} {after : Array Edge} {gd : Option (Nat × Bool)} {r : List Oper} {Q : Env → Heap → Prop}
variable {x y z : Operand} {os : Array Operand} {q : Nm} {a b v u : AVal} {t t2 el : TypeId} {ti ei : TI} {vs xs ys : List AVal} {β ps : Nm} {L : List Asr} {k w : Nat} {O Y : AVal}
theorem Bb (hw : Region.wanted ⟨dst, .indexAddr t x y, ty, pos, after, gd⟩ (ayielded all e) = true) {n : Int} {kk : IntKind} (hx : evq e x = some v) (hy : evq e y = some (.int kk n)) (hv : Ls v xs) (ht : c.T t = some ti) (hk : ti.k = .slice el) (he : c.T el = some ei)
    {j : Nat} (hj : n = (j : Int)) (hu : xs[j]? = some u) (hz : u.cells.length = ei.size) (h : OW c ν all r (i + 1) (putT e dst (.ept u 0)) H Q) : OW c ν all (⟨dst, .indexAddr t x y, ty, pos, after, gd⟩ :: r) i e H Q := by
  have hi := (List.getElem?_eq_some_iff.1 hu).1
  obtain rfl := hv.lst hi
  subst hj
  refine OW_ia hw hx hy ?_ h
  have h1 : (0 : Int) ≤ j ∧ (j : Int) < xs.length := by omega
  simp only [aIndexAddr, ht, hk, he, if_pos h1, Int.toNat_natCast, hu, if_pos hz]
theorem Bi (hS : Own β ps H L) (hL : L[k]? = some (sl O w xs)) (hw : Region.wanted ⟨dst, .indexAddr t x y, ty, pos, after, gd⟩ (ayielded all e) = true) {n : Int} {kk : IntKind} (hx : evq e x = some O) (hy : evq e y = some (.int kk n)) (ht : c.T t = some ti) (hk : ti.k = .slice el) (he : c.T el = some ei) (hz : ei.size = w)
    {j : Nat} (hj : n = (j : Int)) (hu : xs[j]? = some u) (h : ∀ q ys, O = .slc q w 0 xs.length → H q = some (.row w ys) → ys.take xs.length = xs → ys[j]? = some u → xs[j]? = some u → OW c ν all r (i + 1) (putT e dst (.ptr q j 0)) H Q) : OW c ν all (⟨dst, .indexAddr t x y, ty, pos, after, gd⟩ :: r) i e H Q := by
  have hi := (List.getElem?_eq_some_iff.1 hu).1
  obtain ⟨f, hf, _⟩ := hS.get hL
  subst hj
  cases hf with
  | emp he => rw [he] at hi; simp at hi
  | nls he => rw [he] at hi; simp at hi
  | @row q m ys h1 h2 h3 =>
    subst h2
    have h4 : ys[j]? = some u := by have hu2 := hu; rw [← h3, List.getElem?_take] at hu2; split at hu2 <;> simp_all
    refine OW_ia hw hx hy ?_ (h q ys Z h1 h3 h4 hu)
    have h5 : (0 : Int) ≤ j ∧ (j : Int) < (xs.length : Nat) ∧ w = ei.size := ⟨by omega, by omega, hz.symm⟩
    simp only [aIndexAddr, ht, hk, he, if_pos h5, Nat.zero_add, Int.toNat_natCast]
theorem Bj {ts : Array TypeId} (hw : Region.wanted ⟨dst, .call ⟨.builtin .len, os, ts⟩, ty, pos, after, gd⟩ (ayielded all e) = true) (hx : evqs e os.toList = some [v]) (hv : Ls v xs) {tr : List TypeId} (hts : ts.toList = t :: tr) (ht : c.T t = some ti) (hk : ti.k = .slice el) {n : Nat} (hn : xs.length = n)
    (h : OW c ν all r (i + 1) (putT e dst (.int .i64 n)) H Q) : OW c ν all (⟨dst, .call ⟨.builtin .len, os, ts⟩, ty, pos, after, gd⟩ :: r) i e H Q := by
  refine BL hw hx ?_ h
  rw [hts]; exact aLen (hv.kind ht hk) (by rw [← hn]; exact hv.len)
theorem BC (hS : Own β ps H L) (hL : L[k]? = some (sl O w xs)) {ts : Array TypeId} (hw : Region.wanted ⟨dst, .call ⟨.builtin .len, os, ts⟩, ty, pos, after, gd⟩ (ayielded all e) = true) (hx : evqs e os.toList = some [O]) {tr : List TypeId} (hts : ts.toList = t :: tr) (ht : c.T t = some ti) (hk : ti.k = .slice el) {n : Nat} (hn : xs.length = n)
    (h : OW c ν all r (i + 1) (putT e dst (.int .i64 n)) H Q) : OW c ν all (⟨dst, .call ⟨.builtin .len, os, ts⟩, ty, pos, after, gd⟩ :: r) i e H Q := by
  obtain ⟨f, hf, _⟩ := hS.get hL
  have hf : Sl H w xs O f := hf
  refine BL hw hx ?_ h
  rw [hts]; exact aLen (hf.kind ht hk) (by rw [← hn]; exact hf.len)
theorem By {s : ByteArray} {ts : Array TypeId} (hw : Region.wanted ⟨dst, .call ⟨.builtin .len, os, ts⟩, ty, pos, after, gd⟩ (ayielded all e) = true) (hx : evqs e os.toList = some [.str s]) (hk : lenKind c.T ts.toList (.str s) = true)
    (h : OW c ν all r (i + 1) (putT e dst (.int .i64 s.size)) H Q) : OW c ν all (⟨dst, .call ⟨.builtin .len, os, ts⟩, ty, pos, after, gd⟩ :: r) i e H Q := BL hw hx (aLen hk rfl) h
theorem Bz (hS : Own β ps H L) (hL : L[k]? = some (sl O w xs)) (hle : le ps (i :: ν)) (hβ : under β (i :: ν) = true) {ts : Array TypeId} (hw : Region.wanted ⟨dst, .call ⟨.builtin .append, os, ts⟩, ty, pos, after, gd⟩ (ayielded all e) = true) (hx : evqs e os.toList = some [O, Y]) (hts : ts.toList = [t, t2]) (hs : srcOk c.T [t, t2] = true)
    (ht : c.T t = some ti) (hk : ti.k = .slice el) (he : c.T el = some ei) (hz : ei.size = w) (hY : elems H Y = some ys) (hyw : ∀ y ∈ ys, y.cells.length = w) (hn : xs.length + ys.length ≤ 4294967296) (hb : ei.bytes + 1 ≤ 256)
    (h : ∀ O2 H2, Own β ((i + 1) :: ν) H2 (L.set k (sl O2 w (xs ++ ys))) → OW c ν all r (i + 1) (putT e dst O2) H2 Q) : OW c ν all (⟨dst, .call ⟨.builtin .append, os, ts⟩, ty, pos, after, gd⟩ :: r) i e H Q := by
  have hbf : before (i :: ν) ((i + 1) :: ν) := Au (ν := ν) (a := [i]) (b := [i + 1]) (by simp [befL, lexd])
  obtain ⟨f, hf, hfp, hup⟩ := hS.upd hL (pos' := (i + 1) :: ν) (hle.trans (Ax hbf))
  have hf : Sl H w xs O f := hf
  have hnew : ¬ before (i :: ν) ps := fun hb => (hle _ hb).ne rfl
  obtain ⟨O2, H2, ha, f2, hs2, hf2, hfr⟩ := hf.app (ν := i :: ν) ht hk he hz hY hyw (Nat.le_trans (Nat.mul_le_mul hn hb) (by decide)) (fun hm => (hle _ (hfp _ hm).1).ne rfl)
  refine BL hw hx (by rw [hts]; exact app_bi hs ha) (h O2 H2 (hup H2 f2 (sl O2 w (xs ++ ys)) hs2 (fun p hp hb => hfr p hp (fun e1 => hnew (by rw [← e1]; exact hb))) (fun p hp => (hf2 p hp).imp id (fun e1 => by rw [e1]; exact hnew)) (fun p hp => ?_)))
  rcases hf2 p hp with h | rfl
  · exact ⟨(hle _ (hfp p h).1).trans hbf, (hfp p h).2⟩
  · exact ⟨hbf, hβ⟩
theorem BG (hS : Own β ps H L) (hle : le ps (i :: ν)) (hβ : under β (i :: ν) = true) {ts : Array TypeId} (hw : Region.wanted ⟨dst, .call ⟨.builtin .append, os, ts⟩, ty, pos, after, gd⟩ (ayielded all e) = true) (hx : evqs e os.toList = some [.emp, Y]) (hts : ts.toList = [t, t2]) (hs : srcOk c.T [t, t2] = true)
    (ht : c.T t = some ti) (hk : ti.k = .slice el) (he : c.T el = some ei) (hz : ei.size = w) (hY : elems H Y = some ys) (hyw : ∀ y ∈ ys, y.cells.length = w) (hn : ys.length ≤ 4294967296) (hb : ei.bytes + 1 ≤ 256)
    (h : ∀ O2 H2, Own β ((i + 1) :: ν) H2 (sl O2 w ys :: L) → OW c ν all r (i + 1) (putT e dst O2) H2 Q) : OW c ν all (⟨dst, .call ⟨.builtin .append, os, ts⟩, ty, pos, after, gd⟩ :: r) i e H Q :=
  Bz (hS.addE (w := w)) (k := 0) Z hle hβ hw hx hts hs ht hk he hz hY hyw (by simpa using hn) hb h
theorem AG (hS : Own β ps H L) (hle : le ps (i :: ν)) (hβ : under β (i :: ν) = true) (hw : Region.wanted ⟨dst, .alloc t, ty, pos, after, gd⟩ (ayielded all e) = true) (ht : c.T t = some ti) (hk : (match ti.k with | .bld => false | _ => true) = true) (hz : zeroCellsOk ti = true)
    (h : ∀ H2, Own β ((i + 1) :: ν) H2 (row (i :: ν) ti.size [ti.zero] :: L) → OW c ν all r (i + 1) (putT e dst (.ptr (i :: ν) 0 0)) H2 Q) : OW c ν all (⟨dst, .alloc t, ty, pos, after, gd⟩ :: r) i e H Q := by
  have hbf : before (i :: ν) ((i + 1) :: ν) := Au (ν := ν) (a := [i]) (b := [i + 1]) (by simp [befL, lexd])
  refine OW_alloc (v := .ptr (i :: ν) 0 0) (H1 := H.put (i :: ν) (some (.row ti.size [ti.zero]))) hw ?_ (h _ (hS.add hle hbf hβ (fun p hp => put_ne hp) ⟨Z, put_same⟩))
  unfold aAlloc
  rw [ht]
  simp only [hz, if_true]
  split
  · rename_i hb; rw [hb] at hk; cases hk
  · rfl
theorem AR (hS : Own β ps H L) (hle : le ps (i :: ν)) (hβ : under β (i :: ν) = true) (hw : Region.wanted ⟨dst, .box t x, ty, pos, after, gd⟩ (ayielded all e) = true) (hx : evq e x = some a) (ht : c.T t = some ti) (hz : a.isTup = false ∧ a.cells.length = ti.size)
    (h : ∀ H2, Own β ((i + 1) :: ν) H2 (row (i :: ν) ti.size [a] :: L) → OW c ν all r (i + 1) (putT e dst (.ptr (i :: ν) 0 0)) H2 Q) : OW c ν all (⟨dst, .box t x, ty, pos, after, gd⟩ :: r) i e H Q := by
  have hbf : before (i :: ν) ((i + 1) :: ν) := Au (ν := ν) (a := [i]) (b := [i + 1]) (by simp [befL, lexd])
  refine OW_box (v := .ptr (i :: ν) 0 0) (H1 := H.put (i :: ν) (some (.row ti.size [a]))) hw hx ?_ (h _ (hS.add hle hbf hβ (fun p hp => put_ne hp) ⟨Z, put_same⟩))
  simp only [aBox, ht, if_pos hz]
theorem Ad (hS : Own β ps H L) (hL : L[k]? = some (row q w xs)) (hw : Region.wanted ⟨dst, .load t x, ty, pos, after, gd⟩ (ayielded all e) = true) {j off : Nat} (hx : evq e x = some (.ptr q j off)) (ht : c.T t = some ti) (hu : xs[j]? = some u) (hp : part ti u off = some v)
    (h : OW c ν all r (i + 1) (putT e dst v) H Q) : OW c ν all (⟨dst, .load t x, ty, pos, after, gd⟩ :: r) i e H Q := by
  obtain ⟨f, ⟨_, hf⟩, _⟩ := hS.get hL
  exact BD hw hx (aLoad_ptr ht hf hu hp) h
theorem AS (hw : Region.wanted ⟨dst, .load t x, ty, pos, after, gd⟩ (ayielded all e) = true) {off : Nat} (hx : evq e x = some (.ept u off)) (ht : c.T t = some ti) (hp : part ti u off = some v)
    (h : OW c ν all r (i + 1) (putT e dst v) H Q) : OW c ν all (⟨dst, .load t x, ty, pos, after, gd⟩ :: r) i e H Q := BD hw hx (aLoad_ept ht hp) h
theorem Bo (hw : Region.wanted ⟨dst, .load t x, ty, pos, after, gd⟩ (ayielded all e) = true) {j off : Nat} (hx : evq e x = some (.ptr q j off)) (hq : H q = some (.row w ys)) (hy : ys[j]? = some u) (ht : c.T t = some ti) (hp : part ti u off = some v)
    (h : OW c ν all r (i + 1) (putT e dst v) H Q) : OW c ν all (⟨dst, .load t x, ty, pos, after, gd⟩ :: r) i e H Q := BD hw hx (aLoad_ptr ht hq hy hp) h
theorem Av (hS : Own β ps H L) (hL : L[k]? = some (row q w [u])) (hle : le ps (i :: ν)) (hw : Region.wanted ⟨dst, .store t x y, ty, pos, after, gd⟩ (ayielded all e) = true) {off : Nat} (hx : evq e x = some (.ptr q 0 off)) (hy : evq e y = some v) (ht : c.T t = some ti) (hv : v.isTup = false ∧ v.cells.length = ti.size ∧ off + ti.size ≤ u.cells.length) {u2 : AVal} (hu : setCells u off v.cells = u2)
    (h : ∀ H2, Own β ((i + 1) :: ν) H2 (L.set k (row q w [u2])) → OW c ν all r (i + 1) (putT e dst .undef) H2 Q) : OW c ν all (⟨dst, .store t x y, ty, pos, after, gd⟩ :: r) i e H Q := by
  have hbf : before (i :: ν) ((i + 1) :: ν) := Au (ν := ν) (a := [i]) (b := [i + 1]) (by simp [befL, lexd])
  obtain ⟨f, ⟨hf0, hf⟩, hfp, hup⟩ := hS.upd hL (pos' := (i + 1) :: ν) (hle.trans (Ax hbf))
  refine OW_store hw hx hy (aStore_ptr ht hf Z hv) (h _ (hup _ f (row q w [u2]) ⟨hf0, ?_⟩ (fun p hp _ => put_ne (fun e => hp (by rw [hf0, e]; simp))) (fun p hp => .inl hp) (fun p hp => ⟨(hle _ (hfp p hp).1).trans hbf, (hfp p hp).2⟩)))
  rw [put_same, ← hu]; rfl
theorem Bv (hS : Own β ps H L) (hL : L[k]? = some (sl (.slc q w 0 xs.length) w xs)) (hle : le ps (i :: ν)) (hw : Region.wanted ⟨dst, .store t x y, ty, pos, after, gd⟩ (ayielded all e) = true) {j off : Nat} (hx : evq e x = some (.ptr q j off)) (hy : evq e y = some v) (ht : c.T t = some ti) (hj : xs[j]? = some u) (hv : v.isTup = false ∧ v.cells.length = ti.size ∧ off + ti.size ≤ u.cells.length) {u2 : AVal} (hu : setCells u off v.cells = u2)
    (h : ∀ H2, Own β ((i + 1) :: ν) H2 (L.set k (sl (.slc q w 0 xs.length) w (xs.set j u2))) → OW c ν all r (i + 1) (putT e dst .undef) H2 Q) : OW c ν all (⟨dst, .store t x y, ty, pos, after, gd⟩ :: r) i e H Q := by
  have hbf : before (i :: ν) ((i + 1) :: ν) := Au (ν := ν) (a := [i]) (b := [i + 1]) (by simp [befL, lexd])
  obtain ⟨f, hf, hfp, hup⟩ := hS.upd hL (pos' := (i + 1) :: ν) (hle.trans (Ax hbf))
  have hf : Sl H w xs (.slc q w 0 xs.length) f := hf
  cases hf with
  | @row q m ys h1 h2 h3 =>
    have hi := (List.getElem?_eq_some_iff.1 hj).1
    have h4 : ys[j]? = some u := by rw [← h3, List.getElem?_take] at hj; split at hj <;> simp_all
    refine OW_store hw hx hy (aStore_ptr ht h1 h4 hv) (h _ (hup _ [q] (sl (.slc q w 0 xs.length) w (xs.set j u2)) ?_ (fun p hp _ => put_ne (by simpa using hp)) (fun p hp => .inl hp) (fun p hp => ⟨(hle _ (hfp p hp).1).trans hbf, (hfp p hp).2⟩)))
    refine Sl.row (ys := ys.set j u2) (by rw [put_same, hu]) (by simp) ?_
    have : ys.take xs.length = xs := h3
    rw [List.take_set, this]
theorem AT {o : Oper} {tt : Tmp} {bb : Bool} (hb : e[tt]? = some (.bool bb)) (h1 : bb = true → OW c ν all (o :: r) i (e.set tt (.bool true)) H Q) (h2 : bb = false → OW c ν all (o :: r) i (e.set tt (.bool false)) H Q) : OW c ν all (o :: r) i e H Q := by
  have he : ∀ b', bb = b' → e.set tt (.bool b') = e := fun b' hb' => by
    subst hb'
    apply List.ext_getElem?
    intro n
    rw [List.getElem?_set]
    split
    · rename_i hn; subst hn; rw [hb]; rw [if_pos (List.getElem?_eq_some_iff.1 hb).1]
    · rfl
  cases bb
  · have := h2 rfl; rwa [he _ rfl] at this
  · have := h1 rfl; rwa [he _ rfl] at this
def gone (q : Nm) : Asr := ⟨fun _ fp => fp = [q], fun h _ => h⟩
theorem Own.hide0 {pos : Nm} (h : Own β pos H L) : Own β pos (hideL [] H) L := h.same fun p _ _ => by simp [hideL]
theorem Own.hide {pos : Nm} {qs : List Nm} (h : Own β pos (hideL qs H) L) (hk : L[k]? = some (row q w xs)) : Own β pos (hideL (q :: qs) H) (L.set k (gone q)) := by
  obtain ⟨fp, h1, h2⟩ := h
  obtain ⟨f1, f2, ⟨i0, i1⟩, i2, i3, i4, i5⟩ := h1.focus hk
  subst i0
  obtain ⟨fp', j1, j2⟩ := i4 (hideL (q :: qs) H) [q] (gone q) rfl (fun p hp => by
    have : p ≠ q := fun e => i2 q (by simp) (e ▸ hp)
    simp [hideL, this]) (fun p hp => i2 p hp)
  exact ⟨fp', j1, fun p hp => h2 p ((i3 p).2 (j2 p hp))⟩
theorem Own.back0 {pos : Nm} (h : Own β pos H1 L) : Own β pos (backL [] H H1) L := h.same fun p _ _ => by simp [backL]
theorem Own.back {pos pos' : Nm} {L' : List Asr} {k' : Nat} {qs : List Nm} (h0 : Own β pos H L) (hk : L[k]? = some (row q w xs)) (h : Own β pos' (backL qs H H1) L') (hk' : L'[k']? = some (gone q)) : Own β pos' (backL (q :: qs) H H1) (L'.set k' (row q w xs)) := by
  obtain ⟨f, ⟨rfl, hr⟩, _⟩ := h0.get hk
  obtain ⟨fp, h1, h2⟩ := h
  obtain ⟨f1, f2, i1, i2, i3, i4, i5⟩ := h1.focus hk'
  have i1 : f1 = [q] := i1
  subst i1
  obtain ⟨fp', j1, j2⟩ := i4 (backL (q :: qs) H H1) [q] (row q w xs) ⟨rfl, by simp [backL, hr]⟩ (fun p hp => by
    have : p ≠ q := fun e => i2 q (by simp) (e ▸ hp)
    simp [backL, this]) (fun p hp => i2 p hp)
  exact ⟨fp', j1, fun p hp => h2 p ((i3 p).2 (j2 p hp))⟩
theorem BN {qs : List Nm} (hS : Own β ps H L) (hL : L[k]? = some (row q w xs)) (hq : q ∈ qs) (hw : Region.wanted ⟨dst, .load t x, ty, pos, after, gd⟩ (ayielded all e) = true) {j off : Nat} (hx : evq e x = some (.ptr q j off)) (ht : c.T t = some ti) (hu : xs[j]? = some u) (hp : part ti u off = some v)
    (h : OW c ν all r (i + 1) (putT e dst v) (onlyL qs H) Q) : OW c ν all (⟨dst, .load t x, ty, pos, after, gd⟩ :: r) i e (onlyL qs H) Q := by
  obtain ⟨f, ⟨_, hf⟩, _⟩ := hS.get hL
  exact BD hw hx (aLoad_ptr ht (show onlyL qs H q = _ by unfold onlyL; rw [if_pos hq]; exact hf) hu hp) h
theorem Own.slcOf (hS : Own β ps H L) (hL : L[k]? = some (sl O w xs)) (h0 : 0 < xs.length) : ∃ q, O = .slc q w 0 xs.length := by
  obtain ⟨f, hf, _⟩ := hS.get hL
  have hf : Sl H w xs O f := hf
  cases hf with
  | emp h => subst h; simp at h0
  | nls h => subst h; simp at h0
  | row h1 h2 h3 => subst h2; exact ⟨_, rfl⟩
variable {rs : List Tmp} {HK : Heap}
theorem BK {e' : Env} (he : e = e') (h : OWF c ν all rs HK r i e' H Q) : OWF c ν all rs HK r i e H Q := by subst he; exact h
theorem OWF_nilE {e' : Env} (he : e = e') (h : Q e' H) : OWF c ν all rs HK [] i e H Q := by subst he; exact OWF_nil h
end
section
variable {T : TT} {t : TypeId} {ti : TI}
theorem Bm {s d : TypeId} {si di : TI} {k k2 : IntKind} {n : Int} (hs : T s = some si) (hd : T d = some di) (hk : di.k = .int k) (hn : k.wrap n = n) : aConv T H s d (.int k2 n) = some (.int k n) := by
  simp only [aConv, hs, hd, hk, hn]
theorem w64 {n : Int} (h : -9223372036854775808 ≤ n ∧ n ≤ 9223372036854775807) : IntKind.i64.wrap n = n := IntWalk.i64_in _ h
theorem wu64 {n : Int} (h : 0 ≤ n ∧ n ≤ 18446744073709551615) : IntKind.u64.wrap n = n := IntWalk.u64_in _ h
theorem cat {x y : ByteArray} (h : x.size + y.size ≤ 9223372036854775807) : aBin T .add t (.str x) (.str y) = some (.str (x ++ y)) := by
  have : ¬ (((x.size + y.size : Nat) : Int) > IntKind.i64.max) := by show ¬ (_ > (9223372036854775807 : Int)); omega
  simp only [aBin, aStr, if_neg this]
theorem str_lo (ht : T t = some ti) (hk : ti.k = .str) {s : ByteArray} {kk : IntKind} {n : Int} (h0 : 0 ≤ n) (h : n ≤ s.size) : aSlice T t (.str s) (some (.int kk n)) none none = some (.str (s.extract n.toNat s.size)) := by
  simp only [aSlice, ht, hk, aBound, if_pos (And.intro h0 h)]
theorem str_hi (ht : T t = some ti) (hk : ti.k = .str) {s : ByteArray} {kk : IntKind} {n : Int} (h0 : 0 ≤ n) (h : n ≤ s.size) : aSlice T t (.str s) none (some (.int kk n)) none = some (.str (s.extract 0 n.toNat)) := by
  simp only [aSlice, ht, hk, aBound, if_pos (And.intro h0 h)]
theorem str_ix (ht : T t = some ti) (hk : ti.k = .str) {s : ByteArray} {kk : IntKind} {n : Int} (h0 : 0 ≤ n) (h : n < s.size) : aIndex T t (.str s) (.int kk n) = some (.int .u8 (s.data.toList.getD n.toNat 0).toNat) := by
  simp only [aIndex, ht, hk, if_pos (And.intro h0 h)]
end
def midW (M : Env → Heap → Prop) (Q : AOut → Env → Heap → Prop) : AOut → Env → Heap → Prop
  | .norm, e1, H1 => M e1 H1
  | o, e1, H1 => Q o e1 H1
theorem XW_mid {a b : Code} {Q : AOut → Env → Heap → Prop} (M : Env → Heap → Prop) (h1 : XW c (0 :: ν) a e H (midW M Q)) (h2 : ∀ e1 H1, M e1 H1 → XW c (1 :: ν) b e1 H1 Q) : XW c ν (.seq a b) e H Q := by
  refine Aq (h1.mono ?_)
  intro o e1 H1 hq
  cases o with
  | norm => exact h2 _ _ hq
  | exit id => exact hq
  | ret => exact hq
theorem Own.freeze {β pos : Nm} {L : List Asr} {k w n : Nat} {O : AVal} {xs : List AVal} (hS : Own ν pos H L) (hL : L[k]? = some (sl O w xs)) (hp : ∀ x ∈ xs, plain x = true) : X.freeze ν H (n + 1) O = .lst xs := by
  obtain ⟨f, hf, hu⟩ := hS.get hL
  have hf : Sl H w xs O f := hf
  exact hf.freeze (fun q hq => (hu q hq).2) hp
theorem Own.freeze0 {β pos : Nm} {L : List Asr} {k w n : Nat} {O : AVal} {xs : List AVal} (hS : Own β pos H L) (hL : L[k]? = some (sl O w xs)) (hp : ∀ x ∈ xs, plain x = true) : X.freeze [] H (n + 1) O = .lst xs := by
  obtain ⟨f, hf, hu⟩ := hS.get hL
  have hf : Sl H w xs O f := hf
  exact hf.freeze (fun q hq => Bh) hp
theorem Bx {α : Type} {f : α → AVal} {l : List α} (h : ∀ a, plain (f a) = true) : ∀ x ∈ l.map f, plain x = true := by
  intro x hx; obtain ⟨a, _, rfl⟩ := List.mem_map.1 hx; exact h a
theorem BA {α : Type} {f : α → AVal} {l : List α} {w : Nat} (h : ∀ a, (f a).cells.length = w) : ∀ x ∈ l.map f, x.cells.length = w := by
  intro x hx; obtain ⟨a, _, rfl⟩ := List.mem_map.1 hx; exact h a
theorem Br {x : AVal} {w : Nat} (h : x.cells.length = w) : ∀ y ∈ [x], y.cells.length = w := by
  intro y hy; rw [List.mem_singleton] at hy; rw [hy]; exact h
inductive Sv (H : Heap) (w : Nat) (xs : List AVal) : AVal → List Nm → Prop
  | emp : xs = [] → Sv H w xs .emp []
  | row {q : Nm} {off n : Nat} {ys : List AVal} : H q = some (.row w ys) → n = xs.length → off + n ≤ ys.length → (ys.drop off).take n = xs → Sv H w xs (.slc q w off n) [q]
theorem Sv.frame {w : Nat} {xs : List AVal} {S : AVal} {fp : List Nm} (h : Sv H w xs S fp) (hf : ∀ p ∈ fp, H1 p = H p) : Sv H1 w xs S fp := by
  cases h with
  | emp h => exact .emp h
  | row h1 h2 h3 h4 => exact .row (by rw [hf _ (by simp)]; exact h1) h2 h3 h4
def sv (O : AVal) (w : Nat) (xs : List AVal) : Asr := ⟨fun H fp => Sv H w xs O fp, fun h hf => h.frame hf⟩
theorem Sl.sv {w : Nat} {xs : List AVal} {S : AVal} {fp : List Nm} (h : Sl H w xs S fp) (hne : S ≠ .nls) : Sv H w xs S fp := by
  cases h with
  | emp h => exact .emp h
  | nls h => exact absurd rfl hne
  | @row q n ys h1 h2 h3 =>
    have : n ≤ ys.length := by
      have := congrArg List.length h3
      rw [List.length_take, ← h2] at this; omega
    exact .row h1 h2 (by omega) (by rw [List.drop_zero]; exact h3)
theorem Sv.freeze {w : Nat} {xs : List AVal} {S : AVal} {fp : List Nm} (h : Sv H w xs S fp) (hu : ∀ q ∈ fp, under ν q = true) (hp : ∀ x ∈ xs, plain x = true) {n : Nat} : X.freeze ν H (n + 1) S = .lst xs := by
  cases h with
  | emp h => subst h; rfl
  | @row q off m ys h1 h2 h3 h4 =>
    simp only [X.freeze, hu q (by simp), if_true, h1, if_pos h3, h4]
    congr 1
    exact map_same fun c hc => Ae (hp c hc)
section
variable {β pos pos' : Nm} {L : List Asr} {k w : Nat} {O v1 v2 v3 w1 w2 w3 : AVal} {xs : List AVal} {Q : AVal → Heap → Prop}
theorem Own.frz (hS : Own β pos H L) (hL : L[k]? = some (sl O w xs)) (hp : ∀ x ∈ xs, plain x = true) {n : Nat} : X.freeze β H (n + 1) O = .lst xs := hS.freeze (β := β) hL hp
theorem Own.elems (hS : Own β pos H L) (hL : L[k]? = some (sl O w xs)) : X.elems H O = some xs := by
  obtain ⟨f, hf, hu⟩ := hS.get hL
  have hf : Sl H w xs O f := hf
  exact hf.elems
theorem frz1 (h1 : X.freeze ν H1 8 v1 = w1) (hq : Q w1 H) : Q (X.freeze ν H1 8 v1) H := by rw [h1]; exact hq
theorem frz2 (h1 : X.freeze ν H1 7 v1 = w1) (h2 : X.freeze ν H1 7 v2 = w2) (hq : Q (.tup [w1, w2]) H) : Q (X.freeze ν H1 8 (.tup [v1, v2])) H := by
  rw [show X.freeze ν H1 8 (.tup [v1, v2]) = .tup [w1, w2] by rw [← h1, ← h2]; rfl]; exact hq
theorem frz3 (h1 : X.freeze ν H1 7 v1 = w1) (h2 : X.freeze ν H1 7 v2 = w2) (h3 : X.freeze ν H1 7 v3 = w3) (hq : Q (.tup [w1, w2, w3]) H) : Q (X.freeze ν H1 8 (.tup [v1, v2, v3])) H := by
  rw [show X.freeze ν H1 8 (.tup [v1, v2, v3]) = .tup [w1, w2, w3] by rw [← h1, ← h2, ← h3]; rfl]; exact hq
theorem qcast {a b : AVal} (hq : Q b H) (h : a = b) : Q a H := h ▸ hq
theorem BJ {f : FuncId} {fi : FI} {args args' : List AVal} (hg : c.given f = none) (hf : c.fn f = some fi) (hm : fi.mode = .borrow) (ha : args.map (X.freeze [] H 8) = args') (h : XW c ν fi.body (start fi args') (fun _ => none) (retW c.T fi fun v H1 => scalars v = true ∧ Q v H)) : CW c ν f args H Q := CW_borrow hg hf hm (by rw [ha]; exact h)
theorem AP (hS : Own β pos H L) {q : Nm} {j off : Nat} {u v : AVal} (hL : L[k]? = some (row q w xs)) {b : Tmp} {T : TT} {t : TypeId} {ti : TI} (he : e[b]? = some (.ptr q j off)) (ht : T t = some ti) (hu : xs[j]? = some u) (hp : part ti u off = some v) : rvOf T e H (.cell b t) = some v := by
  obtain ⟨f, ⟨_, hf⟩, _⟩ := hS.get hL
  exact rv_cell he (aLoad_ptr ht hf hu hp)
theorem res0 {T : TT} {fi : FI} (hr : fi.results = []) : resOf T fi e H = some (.tup []) := by simp only [resOf, hr, rvsOf, oneOf]
end
section
variable {T : TT} {t : TypeId} {ti : TI} {x v : AVal}
theorem Aj {off : Nat} (ha : ti.k.agg = true) (hz : off + ti.size = x.cells.length) (h0 : AVal.agg ((x.cells.drop off).take ti.size) = x) : part ti x off = some x := by
  unfold part
  rw [if_pos ha, if_pos (by omega), h0]
theorem bin_w {op : BinOp} {k : IntKind} {a b m n : Int} (h : aIntB op k k a b = some (.int k (k.wrap m))) (hn : k.wrap m = n) : aBin T op t (.int k a) (.int k b) = some (.int k n) := by
  show aIntB op k k a b = _
  rw [h, hn]
theorem AW {a b : Int} (h : -9223372036854775808 ≤ a + b ∧ a + b ≤ 9223372036854775807) : aBin T .add t (.int .i64 a) (.int .i64 b) = some (.int .i64 (a + b)) := add64 h
theorem sub_w64 {a b : Int} (h : -9223372036854775808 ≤ a - b ∧ a - b ≤ 9223372036854775807) : aBin T .sub t (.int .i64 a) (.int .i64 b) = some (.int .i64 (a - b)) := sub64 h
theorem mul_w64 {a b : Int} (h : -9223372036854775808 ≤ a * b ∧ a * b ≤ 9223372036854775807) : aBin T .mul t (.int .i64 a) (.int .i64 b) = some (.int .i64 (a * b)) := bin_w rfl (w64 h)
theorem add_wu64 {a b : Int} (h : 0 ≤ a + b ∧ a + b ≤ 18446744073709551615) : aBin T .add t (.int .u64 a) (.int .u64 b) = some (.int .u64 (a + b)) := addu64 h
theorem sub_wu64 {a b : Int} (h : 0 ≤ a - b ∧ a - b ≤ 18446744073709551615) : aBin T .sub t (.int .u64 a) (.int .u64 b) = some (.int .u64 (a - b)) := subu64 h
theorem mul_wu64 {a b : Int} (h : 0 ≤ a * b ∧ a * b ≤ 18446744073709551615) : aBin T .mul t (.int .u64 a) (.int .u64 b) = some (.int .u64 (a * b)) := bin_w rfl (wu64 h)
theorem rem_in {k : IntKind} {a b : Int} (h : b ≠ 0) : aBin T .rem t (.int k a) (.int k b) = some (.int k (a.tmod b)) := by
  cases k <;> (show (if b = 0 then none else some (AVal.int _ (a.tmod b))) = _; rw [if_neg h])
theorem quo_inu64 {a b : Int} (h : 0 ≤ a ∧ a ≤ 18446744073709551615 ∧ 1 ≤ b) : aBin T .quo t (.int .u64 a) (.int .u64 b) = some (.int .u64 (a / b)) := by
  show (if b = 0 then none else some (AVal.int .u64 (IntKind.u64.wrap (a.tdiv b)))) = _
  rw [if_neg (by omega), IntWalk.u64_quo _ _ h]
theorem rem_inu64 {a b : Int} (h : 0 ≤ a ∧ 1 ≤ b) : aBin T .rem t (.int .u64 a) (.int .u64 b) = some (.int .u64 (a % b)) := by
  rw [rem_in (by omega), Int.tmod_eq_emod_of_nonneg h.1]
theorem mn64 {ts : List TypeId} {a b : Int} : aBuiltin T ν H .min ts [.int .i64 a, .int .i64 b] = some (.int .i64 (min a b), H) := by
  show some (AVal.int .i64 (if b < a then b else a), H) = _
  congr 3; omega
theorem mx64 {ts : List TypeId} {a b : Int} : aBuiltin T ν H .max ts [.int .i64 a, .int .i64 b] = some (.int .i64 (max a b), H) := by
  show some (AVal.int .i64 (if b > a then b else a), H) = _
  congr 3; omega
theorem mnu64 {ts : List TypeId} {a b : Int} : aBuiltin T ν H .min ts [.int .u64 a, .int .u64 b] = some (.int .u64 (min a b), H) := by
  show some (AVal.int .u64 (if b < a then b else a), H) = _
  congr 3; omega
theorem mxu64 {ts : List TypeId} {a b : Int} : aBuiltin T ν H .max ts [.int .u64 a, .int .u64 b] = some (.int .u64 (max a b), H) := by
  show some (AVal.int .u64 (if b > a then b else a), H) = _
  congr 3; omega
end
section
variable {all : Array Oper} {i : Nat} {dst : Option Tmp} {ty : TypeId} {pos : String} {after : Array Edge} {gd : Option (Nat × Bool)} {r : List Oper} {Q : Env → Heap → Prop}
variable {x y z : Operand} {os : Array Operand} {q : Nm} {a b v u : AVal} {t t2 el : TypeId} {ti ei : TI} {vs xs ys : List AVal} {β ps : Nm} {L : List Asr} {k w : Nat} {O Y : AVal}
theorem OW_lenV (hS : Own β ps H L) (hL : L[k]? = some (sv O w xs)) {ts : Array TypeId} (hw : Region.wanted ⟨dst, .call ⟨.builtin .len, os, ts⟩, ty, pos, after, gd⟩ (ayielded all e) = true) (hx : evqs e os.toList = some [O]) {tr : List TypeId} (hts : ts.toList = t :: tr) (ht : c.T t = some ti) (hk : ti.k = .slice el) {n : Nat} (hn : xs.length = n)
    (h : OW c ν all r (i + 1) (putT e dst (.int .i64 n)) H Q) : OW c ν all (⟨dst, .call ⟨.builtin .len, os, ts⟩, ty, pos, after, gd⟩ :: r) i e H Q := by
  obtain ⟨f, hf, _⟩ := hS.get hL
  have hf : Sv H w xs O f := hf
  refine BL hw hx ?_ h
  rw [hts]
  cases hf with
  | emp h => subst h; subst hn; exact aLen (by simp only [lenKind, ht, hk]) rfl
  | row h1 h2 h3 h4 => subst hn; exact aLen (by simp only [lenKind, ht, hk]) (by rw [← h2]; rfl)
theorem OW_slV_lo (hS : Own β ps H L) (hL : L[k]? = some (sv O w xs)) (hle : le ps (i :: ν)) (hw : Region.wanted ⟨dst, .slice t x (some y) none none, ty, pos, after, gd⟩ (ayielded all e) = true) (hx : evq e x = some O) {n : Int} {kk : IntKind} (hy : evq e y = some (.int kk n)) (ht : c.T t = some ti) (hk : ti.k = .slice el) (he : c.T el = some ei) (hz : ei.size = w)
    {j : Nat} (hj : n = (j : Int)) (d1 : True) (hi : j ≤ xs.length) (d2 : True)
    (h : ∀ O2, Own β ((i + 1) :: ν) H (L.set k (sv O2 w (xs.drop j))) → OW c ν all r (i + 1) (putT e dst O2) H Q) : OW c ν all (⟨dst, .slice t x (some y) none none, ty, pos, after, gd⟩ :: r) i e H Q := by
  have hbf : before (i :: ν) ((i + 1) :: ν) := Au (ν := ν) (a := [i]) (b := [i + 1]) (by simp [befL, lexd])
  obtain ⟨f, hf, hfp, hup⟩ := hS.upd hL (pos' := (i + 1) :: ν) (hle.trans (Ax hbf))
  have hf : Sv H w xs O f := hf
  have hy' : evqo e (some y) = some (some (.int kk n)) := by simp only [evqo, hy]
  subst hj
  cases hf with
  | emp he2 =>
    subst he2
    obtain rfl : j = 0 := by simpa using hi
    refine BM (v := .emp) hw hx hy' Z Z (by simp [aSlice, ht, hk, he, aBound]) (h .emp (hup H [] (sv .emp w ([].drop 0)) (.emp Z) (fun _ _ _ => Z) (by simp) (by simp)))
  | @row q off m zs h1 h2 h3 h4 =>
    subst h2
    refine BM hw hx hy' Z Z (slc_lo ht hk he hz hi) (h _ (hup H [q] (sv _ w (xs.drop j)) (.row (ys := zs) h1 (by simp) (by omega) ?_) (fun _ _ _ => Z) (fun p hp => .inl hp) (fun p hp => ⟨(hle _ (hfp p hp).1).trans hbf, (hfp p hp).2⟩)))
    rw [← h4, List.drop_take, List.drop_drop]
    rw [h4]
end
inductive Rd (H : Heap) (w : Nat) (xs : List AVal) : AVal → Prop
  | ls {v : AVal} : Ls v xs → Rd H w xs v
  | own {v : AVal} {fp : List Nm} : Sl H w xs v fp → Rd H w xs v
theorem before.under {p : Nm} (h : before p ν) : under ν p = false := by
  cases h' : X.under ν p with
  | false => rfl
  | true =>
    obtain ⟨s, a, b, x, y, rfl, e1, hl⟩ := h
    simp only [X.under, List.isSuffixOf_iff_suffix] at h'
    rw [e1] at h'
    have h1 : (y :: s) <:+ (a ++ x :: s) := (List.suffix_append b (y :: s)).trans h'
    have h2 : (x :: s) <:+ (a ++ x :: s) := List.suffix_append a (x :: s)
    have := List.suffix_of_suffix_length_le h1 h2 (by simp)
    have := this.eq_of_length (by simp)
    have := (List.cons.inj this).1
    omega
section
variable {β ps pos' : Nm} {L : List Asr} {k kb w : Nat} {O S v : AVal} {xs : List AVal} {Q : AVal → Heap → Prop} {T : TT} {t el : TypeId} {ti ei : TI}
theorem Rd.len (h : Rd H w xs S) : lenOf H S = some xs.length := by
  cases h with
  | ls h => exact h.len
  | own h => exact h.len
theorem Rd.kind (h : Rd H w xs S) {r : List TypeId} (ht : T t = some ti) (hk : ti.k = .slice el) : lenKind T (t :: r) S = true := by
  cases h with
  | ls h => exact h.kind ht hk
  | own h => exact h.kind ht hk
theorem Rd.elems (h : Rd H w xs S) : elems H S = some xs := by
  cases h with
  | ls h => exact h.elems
  | own h => exact h.elems
theorem Rd.at (h : Rd H w xs S) (ht : T t = some ti) (hk : ti.k = .slice el) (he : T el = some ei) (hz : ei.size = w) {i : Nat} {kk : IntKind} {u : AVal} (hu : xs[i]? = some u) (hw : u.cells.length = w) (hp : part ei u 0 = some u) :
    ∃ P, aIndexAddr T t S (.int kk i) = some P ∧ aLoad T H el P = some u := by
  have hi := (List.getElem?_eq_some_iff.1 hu).1
  have h1 : (0 : Int) ≤ i ∧ (i : Int) < xs.length := by omega
  cases h with
  | ls h =>
    obtain rfl := h.lst hi
    exact ⟨.ept u 0, by simp only [aIndexAddr, ht, hk, he, if_pos h1, Int.toNat_natCast, hu, hw, hz, if_true], by simp only [aLoad, he, hp]⟩
  | own h =>
    cases h with
    | emp h => subst h; simp at hi
    | nls h => subst h; simp at hi
    | @row q n ys h2 h3 h4 =>
      subst h3
      have h5 : ys[i]? = some u := by have hu2 := hu; rw [← h4, List.getElem?_take] at hu2; split at hu2 <;> simp_all
      have h6 : (0 : Int) ≤ i ∧ (i : Int) < (xs.length : Nat) ∧ w = ei.size := ⟨by omega, by omega, hz.symm⟩
      exact ⟨.ptr q i 0, by simp only [aIndexAddr, ht, hk, he, if_pos h6, Int.toNat_natCast, Nat.zero_add], by simp only [aLoad, he, h2, h5, hp]⟩
theorem Own.two {a b : Asr} (hS : Own β ps H L) (hk : L[k]? = some a) (hkb : L[kb]? = some b) (hne : k ≠ kb) : ∃ f g, a.holds H f ∧ b.holds H g ∧ (∀ p ∈ f, p ∉ g) ∧ (∀ p ∈ f, before p ps ∧ X.under β p = true) ∧ (∀ p ∈ g, before p ps ∧ X.under β p = true) ∧
    ∀ H' f' a' pos', le ps pos' → a'.holds H' f' → (∀ p, p ∉ f → before p ps → H' p = H p) → (∀ p ∈ f', p ∈ f ∨ ¬ before p ps) → (∀ p ∈ f', before p pos' ∧ X.under β p = true) → Own β pos' H' (L.set k a') := by
  obtain ⟨fp, h1, h2⟩ := hS
  obtain ⟨f1, f2, i1, i2, i3, i4, i5⟩ := h1.focus hk
  have h5 := i5 H fun _ _ => rfl
  have hkb' : ∃ k' : Nat, (L.eraseIdx k)[k']? = some b := by
    rcases Nat.lt_or_gt_of_ne hne with h | h
    · exact ⟨kb - 1, by rw [List.getElem?_eraseIdx]; rw [if_neg (by omega)]; rw [show kb - 1 + 1 = kb by omega]; exact hkb⟩
    · exact ⟨kb, by rw [List.getElem?_eraseIdx]; rw [if_pos h]; exact hkb⟩
  obtain ⟨k', hk'⟩ := hkb'
  obtain ⟨g1, g2, j1, j2, j3, _, _⟩ := h5.focus hk'
  refine ⟨f1, g1, i1, j1, fun p hp hm => i2 p hp ((j3 p).2 (.inl hm)), fun p hp => h2 p ((i3 p).2 (.inl hp)), fun p hp => h2 p ((i3 p).2 (.inr ((j3 p).2 (.inl hp)))), ?_⟩
  intro H' f' a' pos' hl k1 k2 k3 k4
  obtain ⟨f1', l1, l2, l3⟩ := Own.upd (pos' := pos') ⟨fp, h1, h2⟩ hk hl
  have hb2 : ∀ p ∈ f2, before p ps := fun p hp => (h2 p ((i3 p).2 (.inr hp))).1
  obtain ⟨fp', q1, q2⟩ := i4 H' f' a' k1 (fun p hp => k2 p (fun hm => i2 p hm hp) (hb2 p hp)) (fun p hp hm => (k3 p hp).elim (fun h => i2 p h hm) (fun h => h (hb2 p hm)))
  refine ⟨fp', q1, fun p hp => ?_⟩
  rcases q2 p hp with h | h
  · exact k4 p h
  · exact ⟨hl _ (hb2 p h), (h2 p ((i3 p).2 (.inr h))).2⟩
theorem CW_clone0 {f : FuncId} {fi : FI} {args : List AVal} (hg : c.given f = none) (hf : c.fn f = some fi) (hm : fi.mode = .clone) (hn : noneIn args = true)
    (h1 : XW c ν fi.body (start fi [.nls]) (fun _ => none) (retW c.T fi fun v _ => isEmp v = true)) (h2 : XW c ν fi.body (start fi [.nne]) (fun _ => none) (retW c.T fi fun v _ => isEmp v = true)) (hq : Q .emp H) : CW c ν f args H Q := by
  obtain ⟨k1, v1, H1, a1, b1⟩ := runF_of h1
  obtain ⟨k2, v2, H2, a2, b2⟩ := runF_of h2
  have m1 := runF_mono (aexec_le (show k1 ≤ k1 + k2 by omega)) a1
  have m2 := runF_mono (aexec_le (show k2 ≤ k1 + k2 by omega)) a2
  exact ⟨k1 + k2, .emp, H, by simp only [acall, hg, hf, hm, hn, if_true, m1, m2, b1, b2, Bool.and_self], hq⟩
end
def firstI {α : Type} (p : α → Bool) : List α → Int → Int
  | [], _ => -1
  | x :: r, i => if p x then i else firstI p r (i + 1)
theorem firstI_spec {α : Type} (p : α → Bool) : ∀ (ls : List α) (k : Int), (firstI p ls k = -1 ∧ ls.filter (fun x => !p x) = ls) ∨ ∃ i, i < ls.length ∧ firstI p ls k = k + i ∧ (ls.take (i + 1)).filter (fun x => !p x) = ls.take i
  | [], k => .inl ⟨rfl, rfl⟩
  | x :: r, k => by
    by_cases hp : p x = true
    · exact .inr ⟨0, by simp, by simp [firstI, hp], by simp [hp]⟩
    · rcases firstI_spec p r (k + 1) with ⟨h1, h2⟩ | ⟨i, h1, h2, h3⟩
      · exact .inl ⟨by rw [firstI, if_neg hp, h1], by rw [List.filter_cons, if_pos (by simp [hp]), h2]⟩
      · refine .inr ⟨i + 1, by simp; omega, by rw [firstI, if_neg hp, h2]; omega, ?_⟩
        rw [List.take_succ_cons, List.filter_cons, if_pos (by simp [hp]), h3, List.take_succ_cons]
theorem firstI_cases {α : Type} (p : α → Bool) (ls : List α) : (firstI p ls 0 = -1 ∧ ∀ x ∈ ls, p x = false) ∨ ∃ (i : Nat) (h : i < ls.length), firstI p ls 0 = i ∧ p ls[i] = true ∧ ∀ x ∈ ls.take i, p x = false := by
  have gen : ∀ (ls : List α) (k : Int), (firstI p ls k = -1 ∧ ∀ x ∈ ls, p x = false) ∨ ∃ (i : Nat) (h : i < ls.length), firstI p ls k = k + i ∧ p ls[i] = true ∧ ∀ x ∈ ls.take i, p x = false := by
    intro ls
    induction ls with
    | nil => intro k; exact .inl ⟨rfl, by simp⟩
    | cons x r ih =>
      intro k
      by_cases hp : p x = true
      · exact .inr ⟨0, by simp, by simp [firstI, hp], by simpa using hp, by simp⟩
      · rcases ih (k + 1) with ⟨h1, h2⟩ | ⟨i, h0, h1, h2, h3⟩
        · exact .inl ⟨by rw [firstI, if_neg hp, h1], fun y hy => (List.mem_cons.1 hy).elim (fun e => by rw [e]; simpa using hp) (h2 y)⟩
        · refine .inr ⟨i + 1, by simp; omega, by rw [firstI, if_neg hp, h1]; omega, by simpa using h2, ?_⟩
          intro y hy
          rw [List.take_succ_cons] at hy
          rcases List.mem_cons.1 hy with rfl | hy
          · simpa using hp
          · exact h3 y hy
  have := gen ls 0
  simp only [Int.zero_add] at this
  exact this
theorem Sl.at' {w : Nat} {xs : List AVal} {S : AVal} {fp : List Nm} (h : Sl H w xs S fp) {i : Nat} {x : AVal} (hx : xs[i]? = some x) : ∃ q ys, S = .slc q w 0 xs.length ∧ fp = [q] ∧ H q = some (.row w ys) ∧ ys[i]? = some x ∧ i < xs.length ∧ ys.take xs.length = xs := by
  have hi := (List.getElem?_eq_some_iff.1 hx).1
  cases h with
  | emp h => subst h; simp at hi
  | nls h => subst h; simp at hi
  | @row q n ys h1 h2 h3 =>
    subst h2
    refine ⟨q, ys, Z, Z, h1, ?_, hi, h3⟩
    rw [← h3, List.getElem?_take] at hx
    rw [if_pos hi] at hx; exact hx
theorem firstI_range {α : Type} (p : α → Bool) (ls : List α) : firstI p ls 0 = -1 ∨ (0 ≤ firstI p ls 0 ∧ firstI p ls 0 < ls.length) := by
  rcases firstI_cases p ls with ⟨h1, _⟩ | ⟨i, h0, h1, _, _⟩
  · exact .inl h1
  · exact .inr (by omega)
theorem Own.toV {β pos : Nm} {L : List Asr} {k w : Nat} {O : AVal} {xs : List AVal} (hS : Own β pos H L) (hL : L[k]? = some (sl O w xs)) (h0 : 0 < xs.length) : Own β pos H (L.set k (sv O w xs)) := by
  obtain ⟨f, hf, hfp, hup⟩ := hS.upd hL (pos' := pos) le_refl
  have hf : Sl H w xs O f := hf
  have hne : O ≠ .nls := by
    rintro rfl
    cases hf with
    | nls h => subst h; simp at h0
  exact hup H f (sv O w xs) (hf.sv hne) (fun _ _ _ => rfl) (fun p hp => .inl hp) (fun p hp => hfp p hp)
section
variable {all : Array Oper} {i : Nat} {dst : Option Tmp} {ty : TypeId} {pos : String} {after : Array Edge} {gd : Option (Nat × Bool)} {r : List Oper} {Q : Env → Heap → Prop}
variable {x y z : Operand} {t el : TypeId} {ti ei : TI} {xs : List AVal} {β ps : Nm} {L : List Asr} {k w : Nat} {O : AVal}
theorem set_set {α : Type} {a b : α} : ∀ {L : List α} {k : Nat}, (L.set k a).set k b = L.set k b
  | [], k => by simp
  | x :: L, 0 => rfl
  | x :: L, k + 1 => by simp
theorem set_get {α : Type} {a b : α} : ∀ {L : List α} {k : Nat}, L[k]? = some b → (L.set k a)[k]? = some a
  | [], k, h => by simp at h
  | x :: L, 0, h => rfl
  | x :: L, k + 1, h => by simp at h ⊢; simpa using set_get (a := a) h
theorem OW_slO_lo (hS : Own β ps H L) (hL : L[k]? = some (sl O w xs)) (hle : le ps (i :: ν)) (hw : Region.wanted ⟨dst, .slice t x (some y) none none, ty, pos, after, gd⟩ (ayielded all e) = true) (hx : evq e x = some O) {n : Int} {kk : IntKind} (hy : evq e y = some (.int kk n)) (ht : c.T t = some ti) (hk : ti.k = .slice el) (he : c.T el = some ei) (hz : ei.size = w)
    {j : Nat} (hj : n = (j : Int)) (d1 : 0 < xs.length) (hi : j ≤ xs.length) (d2 : True)
    (h : ∀ O2, Own β ((i + 1) :: ν) H (L.set k (sv O2 w (xs.drop j))) → OW c ν all r (i + 1) (putT e dst O2) H Q) : OW c ν all (⟨dst, .slice t x (some y) none none, ty, pos, after, gd⟩ :: r) i e H Q :=
  OW_slV_lo (hS.toV hL d1) (set_get hL) hle hw hx hy ht hk he hz hj trivial hi trivial (fun O2 h2 => h O2 (by rw [set_set] at h2; exact h2))
end
theorem map_snoc {α : Type} {f : α → AVal} {l : List α} {a : α} : l.map f ++ [f a] = (l ++ [a]).map f := by simp
theorem Own.reS {β pos : Nm} {L : List Asr} {k w : Nat} {O : AVal} {xs : List AVal} (hS : Own β pos H L) (hL : L[k]? = some (sl O w xs)) {ys : List AVal} (h : xs = ys) : Own β pos H (L.set k (sl O w ys)) := by
  subst h
  refine hS.cast ?_
  apply List.ext_getElem?
  intro n
  rw [List.getElem?_set]
  split
  · rename_i hn; subst hn
    have hlt := (List.getElem?_eq_some_iff.1 hL).1
    rw [if_pos hlt]; exact hL
  · rfl
theorem Own.reV {β pos : Nm} {L : List Asr} {k w : Nat} {O : AVal} {xs : List AVal} (hS : Own β pos H L) (hL : L[k]? = some (sv O w xs)) {ys : List AVal} (h : xs = ys) : Own β pos H (L.set k (sv O w ys)) := by
  subst h
  refine hS.cast ?_
  apply List.ext_getElem?
  intro n
  rw [List.getElem?_set]
  split
  · rename_i hn; subst hn
    have hlt := (List.getElem?_eq_some_iff.1 hL).1
    rw [if_pos hlt]; exact hL
  · rfl
theorem Bw : ([] : List AVal).map (freeze [] H 8) = [] := rfl
theorem AF {a a' : AVal} {l l' : List AVal} (h : freeze [] H 8 a = a') (h2 : l.map (freeze [] H 8) = l') : (a :: l).map (freeze [] H 8) = a' :: l' := by rw [List.map_cons, h, h2]
def byt (c : UInt8) : AVal := .int .u8 c.toNat
theorem bytes_map (l : List UInt8) : bytesOfElems (l.map byt) = some l := by
  induction l with
  | nil => rfl
  | cons c r ih =>
    simp only [List.map_cons, byt, bytesOfElems]
    rw [show (List.map byt r) = List.map byt r from rfl] at ih
    rw [show bytesOfElems (List.map byt r) = some r from ih]
    simp
section
variable {all : Array Oper} {i : Nat} {dst : Option Tmp} {ty : TypeId} {pos : String} {after : Array Edge} {gd : Option (Nat × Bool)} {r : List Oper} {Q : Env → Heap → Prop}
variable {x : Operand} {t t2 el : TypeId} {ti ei ti2 : TI} {xs : List AVal} {β ps : Nm} {L : List Asr} {k w : Nat} {O : AVal}
theorem OW_bytesO (hS : Own β ps H L) (hL : L[k]? = some (sl O w xs)) (hw : Region.wanted ⟨dst, .convert t t2 x, ty, pos, after, gd⟩ (ayielded all e) = true) (hx : evq e x = some O) (ht : c.T t = some ti) (hk : ti.k = .slice el) (he : c.T el = some ei) (hek : ei.k = .int .u8) (ht2 : c.T t2 = some ti2) (hk2 : ti2.k = .str) {l : List UInt8} (hl : xs = l.map byt)
    (h : OW c ν all r (i + 1) (putT e dst (.str ⟨l.toArray⟩)) H Q) : OW c ν all (⟨dst, .convert t t2 x, ty, pos, after, gd⟩ :: r) i e H Q := by
  refine Bc hw hx ?_ h
  have h1 := hS.elems hL
  obtain ⟨f, hf, _⟩ := hS.get hL
  have hf : Sl H w xs O f := hf
  have h2 : bytesOfElems xs = some l := by rw [hl]; exact bytes_map l
  cases hf <;> simp only [aConv, ht, ht2, hk, hk2, he, hek, h1, h2]
end
theorem shr_u64 {T : TT} {t : TypeId} {n : Nat} {k2 : IntKind} {m : Nat} (hm : m ≤ 64) : aBin T .shr t (.int .u64 (n : Int)) (.int k2 (m : Int)) = some (.int .u64 ((n / 2 ^ m : Nat) : Int)) := by
  show (if (m : Int) < 0 then none else some (AVal.int .u64 (Int.fdiv n (2 ^ (min (m : Int).toNat 64))))) = _
  rw [if_neg (by omega), Int.toNat_natCast, Nat.min_eq_left hm]
  congr 2
  rw [Int.fdiv_eq_ediv_of_nonneg _ (by exact Int.le_of_lt (Int.pow_pos (by decide)))]
  rw [show ((2 : Int) ^ m) = ((2 ^ m : Nat) : Int) by simp]
  rfl
section
variable {all : Array Oper} {i : Nat} {dst : Option Tmp} {ty : TypeId} {pos : String} {after : Array Edge} {gd : Option (Nat × Bool)} {r : List Oper} {Q : Env → Heap → Prop}
variable {t : TypeId} {ti : TI} {β ps pos' q : Nm} {L : List Asr} {k : Nat} {b s : ByteArray}
end
abbrev c18 (a b c d e f g h i j k l m n o p q r : AVal) : Env := [a,b,c,d,e,f,g,h,i,j,k,l,m,n,o,p,q,r]
abbrev c19 (a b c d e f g h i j k l m n o p q r s : AVal) : Env := [a,b,c,d,e,f,g,h,i,j,k,l,m,n,o,p,q,r,s]
abbrev c22 (a b c d e f g h i j k l m n o p q r s t u v : AVal) : Env := [a,b,c,d,e,f,g,h,i,j,k,l,m,n,o,p,q,r,s,t,u,v]
abbrev c26 (a b c d e f g h i j k l m n o p q r s t u v w x y z : AVal) : Env := [a,b,c,d,e,f,g,h,i,j,k,l,m,n,o,p,q,r,s,t,u,v,w,x,y,z]
abbrev c29 (a b c d e f g h i j k l m n o p q r s t u v w x y z A B C : AVal) : Env := [a,b,c,d,e,f,g,h,i,j,k,l,m,n,o,p,q,r,s,t,u,v,w,x,y,z,A,B,C]
abbrev c30 (a b c d e f g h i j k l m n o p q r s t u v w x y z A B C D : AVal) : Env := [a,b,c,d,e,f,g,h,i,j,k,l,m,n,o,p,q,r,s,t,u,v,w,x,y,z,A,B,C,D]
abbrev c31 (a b c d e f g h i j k l m n o p q r s t u v w x y z A B C D E : AVal) : Env := [a,b,c,d,e,f,g,h,i,j,k,l,m,n,o,p,q,r,s,t,u,v,w,x,y,z,A,B,C,D,E]
abbrev c32 (a b c d e f g h i j k l m n o p q r s t u v w x y z A B C D E F : AVal) : Env := [a,b,c,d,e,f,g,h,i,j,k,l,m,n,o,p,q,r,s,t,u,v,w,x,y,z,A,B,C,D,E,F]
abbrev c33 (a b c d e f g h i j k l m n o p q r s t u v w x y z A B C D E F G : AVal) : Env := [a,b,c,d,e,f,g,h,i,j,k,l,m,n,o,p,q,r,s,t,u,v,w,x,y,z,A,B,C,D,E,F,G]
abbrev c34 (a b c d e f g h i j k l m n o p q r s t u v w x y z A B C D E F G H : AVal) : Env := [a,b,c,d,e,f,g,h,i,j,k,l,m,n,o,p,q,r,s,t,u,v,w,x,y,z,A,B,C,D,E,F,G,H]
abbrev c36 (a b c d e f g h i j k l m n o p q r s t u v w x y z A B C D E F G H I J : AVal) : Env := [a,b,c,d,e,f,g,h,i,j,k,l,m,n,o,p,q,r,s,t,u,v,w,x,y,z,A,B,C,D,E,F,G,H,I,J]
abbrev c37 (a b c d e f g h i j k l m n o p q r s t u v w x y z A B C D E F G H I J K : AVal) : Env := [a,b,c,d,e,f,g,h,i,j,k,l,m,n,o,p,q,r,s,t,u,v,w,x,y,z,A,B,C,D,E,F,G,H,I,J,K]
abbrev c38 (a b c d e f g h i j k l m n o p q r s t u v w x y z A B C D E F G H I J K L : AVal) : Env := [a,b,c,d,e,f,g,h,i,j,k,l,m,n,o,p,q,r,s,t,u,v,w,x,y,z,A,B,C,D,E,F,G,H,I,J,K,L]
abbrev c39 (a b c d e f g h i j k l m n o p q r s t u v w x y z A B C D E F G H I J K L M : AVal) : Env := [a,b,c,d,e,f,g,h,i,j,k,l,m,n,o,p,q,r,s,t,u,v,w,x,y,z,A,B,C,D,E,F,G,H,I,J,K,L,M]
abbrev c40 (a b c d e f g h i j k l m n o p q r s t u v w x y z A B C D E F G H I J K L M N : AVal) : Env := [a,b,c,d,e,f,g,h,i,j,k,l,m,n,o,p,q,r,s,t,u,v,w,x,y,z,A,B,C,D,E,F,G,H,I,J,K,L,M,N]
abbrev c41 (a b c d e f g h i j k l m n o p q r s t u v w x y z A B C D E F G H I J K L M N O : AVal) : Env := [a,b,c,d,e,f,g,h,i,j,k,l,m,n,o,p,q,r,s,t,u,v,w,x,y,z,A,B,C,D,E,F,G,H,I,J,K,L,M,N,O]
abbrev c43 (a b c d e f g h i j k l m n o p q r s t u v w x y z A B C D E F G H I J K L M N O P Q : AVal) : Env := [a,b,c,d,e,f,g,h,i,j,k,l,m,n,o,p,q,r,s,t,u,v,w,x,y,z,A,B,C,D,E,F,G,H,I,J,K,L,M,N,O,P,Q]
abbrev c44 (a b c d e f g h i j k l m n o p q r s t u v w x y z A B C D E F G H I J K L M N O P Q R : AVal) : Env := [a,b,c,d,e,f,g,h,i,j,k,l,m,n,o,p,q,r,s,t,u,v,w,x,y,z,A,B,C,D,E,F,G,H,I,J,K,L,M,N,O,P,Q,R]
abbrev c45 (a b c d e f g h i j k l m n o p q r s t u v w x y z A B C D E F G H I J K L M N O P Q R S : AVal) : Env := [a,b,c,d,e,f,g,h,i,j,k,l,m,n,o,p,q,r,s,t,u,v,w,x,y,z,A,B,C,D,E,F,G,H,I,J,K,L,M,N,O,P,Q,R,S]
abbrev c46 (a b c d e f g h i j k l m n o p q r s t u v w x y z A B C D E F G H I J K L M N O P Q R S T : AVal) : Env := [a,b,c,d,e,f,g,h,i,j,k,l,m,n,o,p,q,r,s,t,u,v,w,x,y,z,A,B,C,D,E,F,G,H,I,J,K,L,M,N,O,P,Q,R,S,T]
abbrev c48 (a b c d e f g h i j k l m n o p q r s t u v w x y z A B C D E F G H I J K L M N O P Q R S T U V : AVal) : Env := [a,b,c,d,e,f,g,h,i,j,k,l,m,n,o,p,q,r,s,t,u,v,w,x,y,z,A,B,C,D,E,F,G,H,I,J,K,L,M,N,O,P,Q,R,S,T,U,V]
abbrev c50 (a b c d e f g h i j k l m n o p q r s t u v w x y z A B C D E F G H I J K L M N O P Q R S T U V W X : AVal) : Env := [a,b,c,d,e,f,g,h,i,j,k,l,m,n,o,p,q,r,s,t,u,v,w,x,y,z,A,B,C,D,E,F,G,H,I,J,K,L,M,N,O,P,Q,R,S,T,U,V,W,X]
abbrev c52 (a b c d e f g h i j k l m n o p q r s t u v w x y z A B C D E F G H I J K L M N O P Q R S T U V W X Y Z : AVal) : Env := [a,b,c,d,e,f,g,h,i,j,k,l,m,n,o,p,q,r,s,t,u,v,w,x,y,z,A,B,C,D,E,F,G,H,I,J,K,L,M,N,O,P,Q,R,S,T,U,V,W,X,Y,Z]
abbrev c56 (a b c d e f g h i j k l m n o p q r s t u v w x y z A B C D E F G H I J K L M N O P Q R S T U V W X Y Z aa ab ac ad : AVal) : Env := [a,b,c,d,e,f,g,h,i,j,k,l,m,n,o,p,q,r,s,t,u,v,w,x,y,z,A,B,C,D,E,F,G,H,I,J,K,L,M,N,O,P,Q,R,S,T,U,V,W,X,Y,Z,aa,ab,ac,ad]
abbrev c59 (a b c d e f g h i j k l m n o p q r s t u v w x y z A B C D E F G H I J K L M N O P Q R S T U V W X Y Z aa ab ac ad ae af ag : AVal) : Env := [a,b,c,d,e,f,g,h,i,j,k,l,m,n,o,p,q,r,s,t,u,v,w,x,y,z,A,B,C,D,E,F,G,H,I,J,K,L,M,N,O,P,Q,R,S,T,U,V,W,X,Y,Z,aa,ab,ac,ad,ae,af,ag]
abbrev c60 (a b c d e f g h i j k l m n o p q r s t u v w x y z A B C D E F G H I J K L M N O P Q R S T U V W X Y Z aa ab ac ad ae af ag ah : AVal) : Env := [a,b,c,d,e,f,g,h,i,j,k,l,m,n,o,p,q,r,s,t,u,v,w,x,y,z,A,B,C,D,E,F,G,H,I,J,K,L,M,N,O,P,Q,R,S,T,U,V,W,X,Y,Z,aa,ab,ac,ad,ae,af,ag,ah]
abbrev c62 (a b c d e f g h i j k l m n o p q r s t u v w x y z A B C D E F G H I J K L M N O P Q R S T U V W X Y Z aa ab ac ad ae af ag ah ai aj : AVal) : Env := [a,b,c,d,e,f,g,h,i,j,k,l,m,n,o,p,q,r,s,t,u,v,w,x,y,z,A,B,C,D,E,F,G,H,I,J,K,L,M,N,O,P,Q,R,S,T,U,V,W,X,Y,Z,aa,ab,ac,ad,ae,af,ag,ah,ai,aj]
abbrev c64 (a b c d e f g h i j k l m n o p q r s t u v w x y z A B C D E F G H I J K L M N O P Q R S T U V W X Y Z aa ab ac ad ae af ag ah ai aj ak al : AVal) : Env := [a,b,c,d,e,f,g,h,i,j,k,l,m,n,o,p,q,r,s,t,u,v,w,x,y,z,A,B,C,D,E,F,G,H,I,J,K,L,M,N,O,P,Q,R,S,T,U,V,W,X,Y,Z,aa,ab,ac,ad,ae,af,ag,ah,ai,aj,ak,al]
abbrev c67 (a b c d e f g h i j k l m n o p q r s t u v w x y z A B C D E F G H I J K L M N O P Q R S T U V W X Y Z aa ab ac ad ae af ag ah ai aj ak al am an ao : AVal) : Env := [a,b,c,d,e,f,g,h,i,j,k,l,m,n,o,p,q,r,s,t,u,v,w,x,y,z,A,B,C,D,E,F,G,H,I,J,K,L,M,N,O,P,Q,R,S,T,U,V,W,X,Y,Z,aa,ab,ac,ad,ae,af,ag,ah,ai,aj,ak,al,am,an,ao]
abbrev c68 (a b c d e f g h i j k l m n o p q r s t u v w x y z A B C D E F G H I J K L M N O P Q R S T U V W X Y Z aa ab ac ad ae af ag ah ai aj ak al am an ao ap : AVal) : Env := [a,b,c,d,e,f,g,h,i,j,k,l,m,n,o,p,q,r,s,t,u,v,w,x,y,z,A,B,C,D,E,F,G,H,I,J,K,L,M,N,O,P,Q,R,S,T,U,V,W,X,Y,Z,aa,ab,ac,ad,ae,af,ag,ah,ai,aj,ak,al,am,an,ao,ap]
abbrev c70 (a b c d e f g h i j k l m n o p q r s t u v w x y z A B C D E F G H I J K L M N O P Q R S T U V W X Y Z aa ab ac ad ae af ag ah ai aj ak al am an ao ap aq ar : AVal) : Env := [a,b,c,d,e,f,g,h,i,j,k,l,m,n,o,p,q,r,s,t,u,v,w,x,y,z,A,B,C,D,E,F,G,H,I,J,K,L,M,N,O,P,Q,R,S,T,U,V,W,X,Y,Z,aa,ab,ac,ad,ae,af,ag,ah,ai,aj,ak,al,am,an,ao,ap,aq,ar]
abbrev c71 (a b c d e f g h i j k l m n o p q r s t u v w x y z A B C D E F G H I J K L M N O P Q R S T U V W X Y Z aa ab ac ad ae af ag ah ai aj ak al am an ao ap aq ar au : AVal) : Env := [a,b,c,d,e,f,g,h,i,j,k,l,m,n,o,p,q,r,s,t,u,v,w,x,y,z,A,B,C,D,E,F,G,H,I,J,K,L,M,N,O,P,Q,R,S,T,U,V,W,X,Y,Z,aa,ab,ac,ad,ae,af,ag,ah,ai,aj,ak,al,am,an,ao,ap,aq,ar,au]
abbrev c72 (a b c d e f g h i j k l m n o p q r s t u v w x y z A B C D E F G H I J K L M N O P Q R S T U V W X Y Z aa ab ac ad ae af ag ah ai aj ak al am an ao ap aq ar au av : AVal) : Env := [a,b,c,d,e,f,g,h,i,j,k,l,m,n,o,p,q,r,s,t,u,v,w,x,y,z,A,B,C,D,E,F,G,H,I,J,K,L,M,N,O,P,Q,R,S,T,U,V,W,X,Y,Z,aa,ab,ac,ad,ae,af,ag,ah,ai,aj,ak,al,am,an,ao,ap,aq,ar,au,av]
abbrev c75 (a b c d e f g h i j k l m n o p q r s t u v w x y z A B C D E F G H I J K L M N O P Q R S T U V W X Y Z aa ab ac ad ae af ag ah ai aj ak al am an ao ap aq ar au av aw ax ay : AVal) : Env := [a,b,c,d,e,f,g,h,i,j,k,l,m,n,o,p,q,r,s,t,u,v,w,x,y,z,A,B,C,D,E,F,G,H,I,J,K,L,M,N,O,P,Q,R,S,T,U,V,W,X,Y,Z,aa,ab,ac,ad,ae,af,ag,ah,ai,aj,ak,al,am,an,ao,ap,aq,ar,au,av,aw,ax,ay]
abbrev c76 (a b c d e f g h i j k l m n o p q r s t u v w x y z A B C D E F G H I J K L M N O P Q R S T U V W X Y Z aa ab ac ad ae af ag ah ai aj ak al am an ao ap aq ar au av aw ax ay az : AVal) : Env := [a,b,c,d,e,f,g,h,i,j,k,l,m,n,o,p,q,r,s,t,u,v,w,x,y,z,A,B,C,D,E,F,G,H,I,J,K,L,M,N,O,P,Q,R,S,T,U,V,W,X,Y,Z,aa,ab,ac,ad,ae,af,ag,ah,ai,aj,ak,al,am,an,ao,ap,aq,ar,au,av,aw,ax,ay,az]
abbrev c77 (a b c d e f g h i j k l m n o p q r s t u v w x y z A B C D E F G H I J K L M N O P Q R S T U V W X Y Z aa ab ac ad ae af ag ah ai aj ak al am an ao ap aq ar au av aw ax ay az aA : AVal) : Env := [a,b,c,d,e,f,g,h,i,j,k,l,m,n,o,p,q,r,s,t,u,v,w,x,y,z,A,B,C,D,E,F,G,H,I,J,K,L,M,N,O,P,Q,R,S,T,U,V,W,X,Y,Z,aa,ab,ac,ad,ae,af,ag,ah,ai,aj,ak,al,am,an,ao,ap,aq,ar,au,av,aw,ax,ay,az,aA]
abbrev c80 (a b c d e f g h i j k l m n o p q r s t u v w x y z A B C D E F G H I J K L M N O P Q R S T U V W X Y Z aa ab ac ad ae af ag ah ai aj ak al am an ao ap aq ar au av aw ax ay az aA aB aC aD : AVal) : Env := [a,b,c,d,e,f,g,h,i,j,k,l,m,n,o,p,q,r,s,t,u,v,w,x,y,z,A,B,C,D,E,F,G,H,I,J,K,L,M,N,O,P,Q,R,S,T,U,V,W,X,Y,Z,aa,ab,ac,ad,ae,af,ag,ah,ai,aj,ak,al,am,an,ao,ap,aq,ar,au,av,aw,ax,ay,az,aA,aB,aC,aD]
abbrev c83 (a b c d e f g h i j k l m n o p q r s t u v w x y z A B C D E F G H I J K L M N O P Q R S T U V W X Y Z aa ab ac ad ae af ag ah ai aj ak al am an ao ap aq ar au av aw ax ay az aA aB aC aD aE aF aG : AVal) : Env := [a,b,c,d,e,f,g,h,i,j,k,l,m,n,o,p,q,r,s,t,u,v,w,x,y,z,A,B,C,D,E,F,G,H,I,J,K,L,M,N,O,P,Q,R,S,T,U,V,W,X,Y,Z,aa,ab,ac,ad,ae,af,ag,ah,ai,aj,ak,al,am,an,ao,ap,aq,ar,au,av,aw,ax,ay,az,aA,aB,aC,aD,aE,aF,aG]
abbrev c88 (a b c d e f g h i j k l m n o p q r s t u v w x y z A B C D E F G H I J K L M N O P Q R S T U V W X Y Z aa ab ac ad ae af ag ah ai aj ak al am an ao ap aq ar au av aw ax ay az aA aB aC aD aE aF aG aH aI aJ aK aL : AVal) : Env := [a,b,c,d,e,f,g,h,i,j,k,l,m,n,o,p,q,r,s,t,u,v,w,x,y,z,A,B,C,D,E,F,G,H,I,J,K,L,M,N,O,P,Q,R,S,T,U,V,W,X,Y,Z,aa,ab,ac,ad,ae,af,ag,ah,ai,aj,ak,al,am,an,ao,ap,aq,ar,au,av,aw,ax,ay,az,aA,aB,aC,aD,aE,aF,aG,aH,aI,aJ,aK,aL]
abbrev c97 (a b c d e f g h i j k l m n o p q r s t u v w x y z A B C D E F G H I J K L M N O P Q R S T U V W X Y Z aa ab ac ad ae af ag ah ai aj ak al am an ao ap aq ar au av aw ax ay az aA aB aC aD aE aF aG aH aI aJ aK aL aM aN aO aP aQ aR aS aT aU : AVal) : Env := [a,b,c,d,e,f,g,h,i,j,k,l,m,n,o,p,q,r,s,t,u,v,w,x,y,z,A,B,C,D,E,F,G,H,I,J,K,L,M,N,O,P,Q,R,S,T,U,V,W,X,Y,Z,aa,ab,ac,ad,ae,af,ag,ah,ai,aj,ak,al,am,an,ao,ap,aq,ar,au,av,aw,ax,ay,az,aA,aB,aC,aD,aE,aF,aG,aH,aI,aJ,aK,aL,aM,aN,aO,aP,aQ,aR,aS,aT,aU]
abbrev c106 (a b c d e f g h i j k l m n o p q r s t u v w x y z A B C D E F G H I J K L M N O P Q R S T U V W X Y Z aa ab ac ad ae af ag ah ai aj ak al am an ao ap aq ar au av aw ax ay az aA aB aC aD aE aF aG aH aI aJ aK aL aM aN aO aP aQ aR aS aT aU aV aW aX aY aZ a0 a1 a2 a3 : AVal) : Env := [a,b,c,d,e,f,g,h,i,j,k,l,m,n,o,p,q,r,s,t,u,v,w,x,y,z,A,B,C,D,E,F,G,H,I,J,K,L,M,N,O,P,Q,R,S,T,U,V,W,X,Y,Z,aa,ab,ac,ad,ae,af,ag,ah,ai,aj,ak,al,am,an,ao,ap,aq,ar,au,av,aw,ax,ay,az,aA,aB,aC,aD,aE,aF,aG,aH,aI,aJ,aK,aL,aM,aN,aO,aP,aQ,aR,aS,aT,aU,aV,aW,aX,aY,aZ,a0,a1,a2,a3]
abbrev c126 (a b c d e f g h i j k l m n o p q r s t u v w x y z A B C D E F G H I J K L M N O P Q R S T U V W X Y Z aa ab ac ad ae af ag ah ai aj ak al am an ao ap aq ar au av aw ax ay az aA aB aC aD aE aF aG aH aI aJ aK aL aM aN aO aP aQ aR aS aT aU aV aW aX aY aZ a0 a1 a2 a3 a4 a5 a6 a7 a8 a9 ba bb bc bd be bf bg bh bi bj bk bl bm bn : AVal) : Env := [a,b,c,d,e,f,g,h,i,j,k,l,m,n,o,p,q,r,s,t,u,v,w,x,y,z,A,B,C,D,E,F,G,H,I,J,K,L,M,N,O,P,Q,R,S,T,U,V,W,X,Y,Z,aa,ab,ac,ad,ae,af,ag,ah,ai,aj,ak,al,am,an,ao,ap,aq,ar,au,av,aw,ax,ay,az,aA,aB,aC,aD,aE,aF,aG,aH,aI,aJ,aK,aL,aM,aN,aO,aP,aQ,aR,aS,aT,aU,aV,aW,aX,aY,aZ,a0,a1,a2,a3,a4,a5,a6,a7,a8,a9,ba,bb,bc,bd,be,bf,bg,bh,bi,bj,bk,bl,bm,bn]
abbrev c144 (a b c d e f g h i j k l m n o p q r s t u v w x y z A B C D E F G H I J K L M N O P Q R S T U V W X Y Z aa ab ac ad ae af ag ah ai aj ak al am an ao ap aq ar au av aw ax ay az aA aB aC aD aE aF aG aH aI aJ aK aL aM aN aO aP aQ aR aS aT aU aV aW aX aY aZ a0 a1 a2 a3 a4 a5 a6 a7 a8 a9 ba bb bc bd be bf bg bh bi bj bk bl bm bn bo bp bq br bs bt bu bv bw bx bz bA bB bC bD bE bF bG : AVal) : Env := [a,b,c,d,e,f,g,h,i,j,k,l,m,n,o,p,q,r,s,t,u,v,w,x,y,z,A,B,C,D,E,F,G,H,I,J,K,L,M,N,O,P,Q,R,S,T,U,V,W,X,Y,Z,aa,ab,ac,ad,ae,af,ag,ah,ai,aj,ak,al,am,an,ao,ap,aq,ar,au,av,aw,ax,ay,az,aA,aB,aC,aD,aE,aF,aG,aH,aI,aJ,aK,aL,aM,aN,aO,aP,aQ,aR,aS,aT,aU,aV,aW,aX,aY,aZ,a0,a1,a2,a3,a4,a5,a6,a7,a8,a9,ba,bb,bc,bd,be,bf,bg,bh,bi,bj,bk,bl,bm,bn,bo,bp,bq,br,bs,bt,bu,bv,bw,bx,bz,bA,bB,bC,bD,bE,bF,bG]
abbrev c167 (a b c d e f g h i j k l m n o p q r s t u v w x y z A B C D E F G H I J K L M N O P Q R S T U V W X Y Z aa ab ac ad ae af ag ah ai aj ak al am an ao ap aq ar au av aw ax ay az aA aB aC aD aE aF aG aH aI aJ aK aL aM aN aO aP aQ aR aS aT aU aV aW aX aY aZ a0 a1 a2 a3 a4 a5 a6 a7 a8 a9 ba bb bc bd be bf bg bh bi bj bk bl bm bn bo bp bq br bs bt bu bv bw bx bz bA bB bC bD bE bF bG bH bI bJ bK bL bM bN bO bP bQ bR bS bT bU bV bW bX bY bZ b0 b1 b2 b3 : AVal) : Env := [a,b,c,d,e,f,g,h,i,j,k,l,m,n,o,p,q,r,s,t,u,v,w,x,y,z,A,B,C,D,E,F,G,H,I,J,K,L,M,N,O,P,Q,R,S,T,U,V,W,X,Y,Z,aa,ab,ac,ad,ae,af,ag,ah,ai,aj,ak,al,am,an,ao,ap,aq,ar,au,av,aw,ax,ay,az,aA,aB,aC,aD,aE,aF,aG,aH,aI,aJ,aK,aL,aM,aN,aO,aP,aQ,aR,aS,aT,aU,aV,aW,aX,aY,aZ,a0,a1,a2,a3,a4,a5,a6,a7,a8,a9,ba,bb,bc,bd,be,bf,bg,bh,bi,bj,bk,bl,bm,bn,bo,bp,bq,br,bs,bt,bu,bv,bw,bx,bz,bA,bB,bC,bD,bE,bF,bG,bH,bI,bJ,bK,bL,bM,bN,bO,bP,bQ,bR,bS,bT,bU,bV,bW,bX,bY,bZ,b0,b1,b2,b3]
theorem EN {c : Cfg} {ν : Nm} {e : Env} {H : Heap} {all : Array Oper} {r : List Oper} {i : Nat} {Q : Env → Heap → Prop} (e' : Env) (he : e = e') (h : OW c ν all r i e' H Q) : OW c ν all r i e H Q := Ay he h
theorem EZ {c : Cfg} {ν : Nm} {e : Env} {H : Heap} {all : Array Oper} {i : Nat} {Q : Env → Heap → Prop} (e' : Env) (he : e = e') (h : Q e' H) : OW c ν all [] i e H Q := Am he h
end Go.Proofs.YtfkgdlfponfimaaGreat.X
