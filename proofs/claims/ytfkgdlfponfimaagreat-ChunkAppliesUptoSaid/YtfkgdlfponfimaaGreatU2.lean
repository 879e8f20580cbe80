import Derived.Test.YtfkgdlfponfimaaGreatU1
import Derived.Below
import Derived.Laws.AppendOwn
import Derived.Lib.Builder
import Derived.Lib.AppendStr
/- How the simple machine's state and the model's world agree. -/
namespace Go.Proofs.YtfkgdlfponfimaaGreat.X
open Go Go.RowKit
def AVal.one : AVal → Bool
  | .agg _ | .tup _ => false
  | _ => true
structure Loc where
  b : Nat
  cap : Nat
  w : Nat
structure Gh where
  mu : Nm → Option Loc
  F : Nat → Nat → Option Value
def L2 {α β : Type} (r : α → β → Prop) (xs : List α) (ys : List β) : Prop := xs.length = ys.length ∧ ∀ (i : Nat) x y, xs[i]? = some x → ys[i]? = some y → r x y
def flat (xs : List AVal) : List AVal := xs.flatMap AVal.cells
def wide (w : Nat) (xs : List AVal) : Prop := ∀ x ∈ xs, x.cells.length = w ∧ ∀ c ∈ x.cells, c.one = true
inductive VR (G : Gh) : AVal → Value → Prop where
  | bool (b : Bool) : VR G (.bool b) (.bool b)
  | int (k : IntKind) (n : Int) : VR G (.int k n) (.int k n)
  | str (s : ByteArray) : VR G (.str s) (.string s)
  | nilp : VR G .nilp (.pointer none)
  | ptr {q : Nm} {i off : Nat} {l : Loc} : G.mu q = some l → VR G (.ptr q i off) (.pointer (some ⟨l.b, i * l.w + off, none⟩))
  | ept {x : AVal} {off b o : Nat} (cv : List Value) : (∀ c ∈ x.cells, c.one = true) → (∀ k v, cv[k]? = some v → G.F b (o + k) = some v) → (x.cells.drop off).length = cv.length →
      (∀ (i : Nat) c v, (x.cells.drop off)[i]? = some c → cv[i]? = some v → VR G c v) → VR G (.ept x off) (.pointer (some ⟨b, o, none⟩))
  | nls : VR G .nls (.slice none 0 0)
  | nne {a : Addr} {c : Nat} : VR G .nne (.slice (some a) 0 c)
  | emp {a : Option Addr} : VR G .emp (.slice a 0 0)
  | lst0 {a : Option Addr} {c : Nat} : (a = none → c = 0) → VR G (.lst []) (.slice a 0 c)
  | lst {xs : List AVal} {b o w c : Nat} (cv : List Value) : xs ≠ [] → wide w xs → xs.length ≤ c → (∀ k v, cv[k]? = some v → G.F b (o + k) = some v) → (flat xs).length = cv.length →
      (∀ (i : Nat) x v, (flat xs)[i]? = some x → cv[i]? = some v → VR G x v) → VR G (.lst xs) (.slice (some ⟨b, o, none⟩) xs.length c)
  | slc {q : Nm} {w off len cap : Nat} {a : Addr} {l : Loc} : G.mu q = some l → l.w = w → cap + off = l.cap → len ≤ cap → (a = ⟨l.b, off * w, none⟩ ∨ cap = 0 ∧ off ≠ 0) → VR G (.slc q w off len) (.slice (some a) len cap)
  | nilm : VR G .nilm (.map none)
  | map {q : Nm} {l : Loc} : G.mu q = some l → VR G (.map q) (.map (some l.b))
  | nilf : VR G .nilf .nilFunc
  | fn {f : FuncId} {cap : List AVal} {vs : Array Value} : cap.length = vs.toList.length → (∀ (i : Nat) x v, cap[i]? = some x → vs.toList[i]? = some v → VR G x v) → VR G (.fn f cap) (.func (.func f) #[] vs)
  | bfn {f : FuncId} {cap : List AVal} {vs : Array Value} : cap.length = vs.toList.length → (∀ (i : Nat) x v, cap[i]? = some x → vs.toList[i]? = some v → VR G x v) → VR G (.bfn f cap) (.func (.func f) vs #[])
  | nili : VR G .nili .nilIface
  | ifc {t : TypeId} {x : AVal} {v : Value} : VR G x v → VR G (.ifc t x) (.iface t v)
  | agg {cs : List AVal} {vs : Array Value} : (∀ c ∈ cs, c.one = true) → cs.length = vs.toList.length → (∀ (i : Nat) x v, cs[i]? = some x → vs.toList[i]? = some v → VR G x v) → VR G (.agg cs) (.agg vs)
  | tup {cs : List AVal} {vs : Array Value} : cs.length = vs.toList.length → (∀ (i : Nat) x v, cs[i]? = some x → vs.toList[i]? = some v → VR G x v) → VR G (.tup cs) (.tuple vs)
  | any {a : Option Addr} {l c : Nat} : VR G (.tup []) (.slice a l c)
section
variable {α β : Type} {r : α → β → Prop}
theorem L2.nil : L2 r [] [] := ⟨rfl, fun i x y h => by simp at h⟩
theorem L2.cons {x : α} {y : β} {xs : List α} {ys : List β} (h : r x y) (h2 : L2 r xs ys) : L2 r (x :: xs) (y :: ys) := by
  refine ⟨by simp [h2.1], fun i a b ha hb => ?_⟩
  cases i with
  | zero => simp at ha hb; subst ha; subst hb; exact h
  | succ i => exact h2.2 i a b (by simpa using ha) (by simpa using hb)
theorem L2.append {xs xs' : List α} {ys ys' : List β} (h : L2 r xs ys) (h2 : L2 r xs' ys') : L2 r (xs ++ xs') (ys ++ ys') := by
  refine ⟨by simp [h.1, h2.1], fun i a b ha hb => ?_⟩
  by_cases hi : i < xs.length
  · rw [List.getElem?_append_left hi] at ha
    rw [List.getElem?_append_left (by rw [← h.1]; exact hi)] at hb
    exact h.2 i a b ha hb
  · rw [List.getElem?_append_right (by omega)] at ha
    rw [List.getElem?_append_right (by rw [← h.1]; omega), ← h.1] at hb
    exact h2.2 _ a b ha hb
theorem L2.drop {xs : List α} {ys : List β} (h : L2 r xs ys) (n : Nat) : L2 r (xs.drop n) (ys.drop n) :=
  ⟨by simp [h.1], fun i a b ha hb => h.2 (n + i) a b (by simpa using ha) (by simpa using hb)⟩
theorem L2.take {xs : List α} {ys : List β} (h : L2 r xs ys) (n : Nat) : L2 r (xs.take n) (ys.take n) := by
  refine ⟨by simp [h.1], fun i a b ha hb => ?_⟩
  rw [List.getElem?_take] at ha hb
  split at ha
  · rw [if_pos ‹_›] at hb; exact h.2 i a b ha hb
  · simp at ha
theorem L2.mono {s : α → β → Prop} {xs : List α} {ys : List β} (h : L2 r xs ys) (hs : ∀ x y, r x y → s x y) : L2 s xs ys := ⟨h.1, fun i a b ha hb => hs _ _ (h.2 i a b ha hb)⟩
theorem L2.get {xs : List α} {ys : List β} (h : L2 r xs ys) {i : Nat} {x : α} (hx : xs[i]? = some x) : ∃ y, ys[i]? = some y ∧ r x y := by
  have hi : i < xs.length := (List.getElem?_eq_some_iff.1 hx).1
  have hi' : i < ys.length := by rw [← h.1]; exact hi
  exact ⟨ys[i], List.getElem?_eq_getElem hi', h.2 i x _ hx (List.getElem?_eq_getElem hi')⟩
theorem L2.get' {xs : List α} {ys : List β} (h : L2 r xs ys) {i : Nat} {y : β} (hy : ys[i]? = some y) : ∃ x, xs[i]? = some x ∧ r x y := by
  have hi' : i < ys.length := (List.getElem?_eq_some_iff.1 hy).1
  have hi : i < xs.length := by rw [h.1]; exact hi'
  exact ⟨xs[i], List.getElem?_eq_getElem hi, h.2 i _ y (List.getElem?_eq_getElem hi) hy⟩
theorem L2.set {xs : List α} {ys : List β} (h : L2 r xs ys) (i : Nat) {x : α} {y : β} (hr : r x y) : L2 r (xs.set i x) (ys.set i y) := by
  refine ⟨by simp [h.1], fun j a b ha hb => ?_⟩
  rw [List.getElem?_set] at ha hb
  split at ha
  · rw [if_pos ‹_›] at hb
    split at ha
    · split at hb
      · simp at ha hb; subst ha; subst hb; exact hr
      · simp at hb
    · simp at ha
  · rw [if_neg ‹_›] at hb; exact h.2 j a b ha hb
theorem L2.replicate {x : α} {y : β} (n : Nat) (h : r x y) : L2 r (List.replicate n x) (List.replicate n y) := by
  refine ⟨by simp, fun j a b ha hb => ?_⟩
  rw [List.getElem?_replicate] at ha hb
  split at ha
  · rw [if_pos ‹_›] at hb; simp at ha hb; subst ha; subst hb; exact h
  · simp at ha
theorem L2.map {γ : Type} {f : α → γ} {s : γ → β → Prop} {xs : List α} {ys : List β} (h : L2 r xs ys) (hs : ∀ x y, r x y → s (f x) y) : L2 s (xs.map f) ys := by
  refine ⟨by simp [h.1], fun i a b ha hb => ?_⟩
  rw [List.getElem?_map] at ha
  obtain ⟨x, hx, rfl⟩ := Option.map_eq_some_iff.1 ha
  exact hs _ _ (h.2 i x b hx hb)
end
theorem flat_append (xs ys : List AVal) : flat (xs ++ ys) = flat xs ++ flat ys := by simp [flat]
theorem flat_cons (x : AVal) (ys : List AVal) : flat (x :: ys) = x.cells ++ flat ys := rfl
theorem flat_length {w : Nat} {xs : List AVal} (h : wide w xs) : (flat xs).length = xs.length * w := by
  induction xs with
  | nil => simp [flat]
  | cons x xs ih =>
    rw [flat_cons, List.length_append, ih (fun y hy => h y (List.mem_cons_of_mem _ hy)), (h x List.mem_cons_self).1]
    simp [Nat.add_mul]; omega
theorem flat_drop {w : Nat} {xs : List AVal} (h : wide w xs) (n : Nat) : flat (xs.drop n) = (flat xs).drop (n * w) := by
  induction xs generalizing n with
  | nil => simp [flat]
  | cons x xs ih =>
    cases n with
    | zero => simp
    | succ n =>
      rw [List.drop_succ_cons, ih (fun y hy => h y (List.mem_cons_of_mem _ hy)), flat_cons, List.drop_append, (h x List.mem_cons_self).1]
      have e : (n + 1) * w = n * w + w := by rw [Nat.add_mul]; omega
      have h0 : x.cells.drop ((n + 1) * w) = [] := List.drop_eq_nil_of_le (by rw [(h x List.mem_cons_self).1, e]; omega)
      rw [h0, List.nil_append, e]; congr 1; omega
theorem flat_take {w : Nat} {xs : List AVal} (h : wide w xs) (n : Nat) : flat (xs.take n) = (flat xs).take (n * w) := by
  induction xs generalizing n with
  | nil => simp [flat]
  | cons x xs ih =>
    cases n with
    | zero => simp [flat]
    | succ n =>
      rw [List.take_succ_cons, flat_cons, ih (fun y hy => h y (List.mem_cons_of_mem _ hy)), flat_cons, List.take_append, (h x List.mem_cons_self).1]
      have e : (n + 1) * w = n * w + w := by rw [Nat.add_mul]; omega
      have h0 : x.cells.take ((n + 1) * w) = x.cells := List.take_of_length_le (by rw [(h x List.mem_cons_self).1, e]; omega)
      rw [h0, e]; congr 2; omega
theorem wide_append {w : Nat} {xs ys : List AVal} (h : wide w xs) (h2 : wide w ys) : wide w (xs ++ ys) := fun x hx => (List.mem_append.1 hx).elim (h x) (h2 x)
theorem wide_drop {w : Nat} {xs : List AVal} (h : wide w xs) (n : Nat) : wide w (xs.drop n) := fun x hx => h x (List.mem_of_mem_drop hx)
theorem wide_take {w : Nat} {xs : List AVal} (h : wide w xs) (n : Nat) : wide w (xs.take n) := fun x hx => h x (List.mem_of_mem_take hx)
theorem flat_get {w : Nat} {xs : List AVal} (h : wide w xs) {i : Nat} {x : AVal} (hx : xs[i]? = some x) : ((flat xs).drop (i * w)).take w = x.cells := by
  have hi : i < xs.length := (List.getElem?_eq_some_iff.1 hx).1
  rw [← flat_drop h, List.drop_eq_getElem_cons hi, flat_cons]
  have hxe : xs[i] = x := (List.getElem?_eq_some_iff.1 hx).2
  rw [hxe, List.take_append, (h x (List.mem_of_getElem? hx)).1]
  simp [List.take_of_length_le, (h x (List.mem_of_getElem? hx)).1]
structure Gle (G G' : Gh) : Prop where
  mu : ∀ q l, G.mu q = some l → G'.mu q = some l
  F : ∀ b o v, G.F b o = some v → G'.F b o = some v
theorem Gle.refl (G : Gh) : Gle G G := ⟨fun _ _ h => h, fun _ _ _ h => h⟩
theorem Gle.trans {G G1 G2 : Gh} (h : Gle G G1) (h2 : Gle G1 G2) : Gle G G2 := ⟨fun q l e => h2.mu q l (h.mu q l e), fun b o v e => h2.F b o v (h.F b o v e)⟩
theorem VR.mono {G G' : Gh} (hg : Gle G G') {x : AVal} {v : Value} (h : VR G x v) : VR G' x v := by
  induction h with
  | bool b => exact .bool b
  | int k n => exact .int k n
  | str s => exact .str s
  | nilp => exact .nilp
  | ptr h => exact .ptr (hg.mu _ _ h)
  | ept cv h1 h2 h3 h4 ih => exact .ept cv h1 (fun k v e => hg.F _ _ _ (h2 k v e)) h3 ih
  | nls => exact .nls
  | nne => exact .nne
  | emp => exact .emp
  | lst0 h => exact .lst0 h
  | lst cv h0 h1 h2 h3 h4 h5 ih => exact .lst cv h0 h1 h2 (fun k v e => hg.F _ _ _ (h3 k v e)) h4 ih
  | slc h h1 h2 h3 h4 => exact .slc (hg.mu _ _ h) h1 h2 h3 h4
  | nilm => exact .nilm
  | map h => exact .map (hg.mu _ _ h)
  | nilf => exact .nilf
  | fn h1 h2 ih => exact .fn h1 ih
  | bfn h1 h2 ih => exact .bfn h1 ih
  | nili => exact .nili
  | ifc h ih => exact .ifc ih
  | agg h0 h1 h2 ih => exact .agg h0 h1 ih
  | tup h1 h2 ih => exact .tup h1 ih
  | any => exact .any
theorem VR.one {G : Gh} {x : AVal} {v : Value} (h : VR G x v) (hx : x.one = true) : v.oneCell' = true := by cases h <;> first | rfl | cases hx
theorem VR.cellsOf {G : Gh} {x : AVal} {v : Value} (h : VR G x v) (hf : ∀ vs, x ≠ .tup vs) : L2 (VR G) x.cells v.cells.toList ∧ ∀ c ∈ x.cells, c.one = true := by
  cases h with
  | agg h0 h1 h2 => exact ⟨⟨h1, h2⟩, h0⟩
  | tup h1 h2 => exact absurd rfl (hf _)
  | any => exact absurd rfl (hf _)
  | _ => exact ⟨L2.cons (by constructor <;> assumption) L2.nil, by intro c hc; simp [AVal.cells] at hc; subst hc; rfl⟩
def ownB (obj : AObj) (l : Loc) (W : World) (k : Nat) : Prop :=
  k = l.b ∨ ∃ s p v T, obj = .bld s ∧ W.heap[l.b]? = some (.cells #[p, v] T (0, 0)) ∧ v.ownBlock = some k
structure BT where
  tb : TypeId
  tu : TypeId
def OKrow (G : Gh) (w : Nat) (xs : List AVal) (l : Loc) (W : World) : Prop :=
  l.w = w ∧ ∃ cur T, W.heap[l.b]? = some (.cells cur T (0, 0)) ∧ cur.size = l.cap * w ∧ xs.length ≤ l.cap ∧ l.cap ≤ maxLen ∧ wide w xs ∧ L2 (VR G) (flat xs) (cur.toList.take (xs.length * w))
def OK (B : BT) (G : Gh) (obj : AObj) (l : Loc) (W : World) : Prop :=
  match obj with
  | .row w xs => OKrow G w xs l W
  | .map es => ∃ es' clock, W.heap[l.b]? = some (.map es' clock) ∧ L2 (fun (p : AVal × AVal) e => VR G p.1 e.key ∧ VR G p.2 e.val) es es'.toList
  | .bld s => Lib.IsBuilder B.tb B.tu 0 l.b (Lib.strCells s) W
def Ow (G : Gh) (H : Heap) (W : World) (b : Nat) : Prop := ∃ q l obj, G.mu q = some l ∧ H q = some obj ∧ ownB obj l W b
structure R (B : BT) (G : Gh) (H : Heap) (W : World) : Prop where
  f : ∀ b o v, G.F b o = some v → W.cell? ⟨b, o, none⟩ = some v
  fo : ∀ b o v, G.F b o = some v → ¬ Ow G H W b
  ob : ∀ q l obj, G.mu q = some l → H q = some obj → OK B G obj l W
  dj : ∀ q q' l l' obj obj' k, G.mu q = some l → H q = some obj → G.mu q' = some l' → H q' = some obj' → ownB obj l W k → ownB obj' l' W k → q = q'
def Same (W W' : World) : Prop := W'.os = W.os ∧ W'.tape = W.tape ∧ W'.output = W.output
theorem Same.refl (W : World) : Same W W := ⟨rfl, rfl, rfl⟩
theorem Same.trans {W W1 W2 : World} (h : Same W W1) (h2 : Same W1 W2) : Same W W2 := ⟨h2.1.trans h.1, h2.2.1.trans h.2.1, h2.2.2.trans h.2.2⟩
structure St (ν : Nm) (G G' : Gh) (H H1 : Heap) (W W' : World) : Prop where
  le : Gle G G'
  mu' : ∀ q, under ν q = false → G'.mu q = G.mu q
  F' : ∀ b o v, G'.F b o = some v → G.F b o = some v ∨ W.heap.size ≤ b ∨ Ow G H W b
  hp : ∀ q, under ν q = false → H q = none → H1 q = none
  sz : W.heap.size ≤ W'.heap.size
  fr : ∀ b, b < W.heap.size → ¬ Ow G H W b → W'.heap[b]? = W.heap[b]?
  ow : ∀ b, Ow G' H1 W' b → W.heap.size ≤ b ∨ Ow G H W b
  sm : Same W W'
  un : ∀ q, under ν q = false → G.mu q = none → H1 q = H q
theorem St.refl (ν : Nm) (G : Gh) (H : Heap) (W : World) : St ν G G H H W W :=
  ⟨Gle.refl G, fun _ _ => rfl, fun _ _ _ h => .inl h, fun _ _ h => h, Nat.le_refl _, fun _ _ _ => rfl, fun _ h => .inr h, Same.refl W, fun _ _ _ => rfl⟩
theorem under_self (ν : Nm) : under ν ν = true := by simp [under]
theorem under_of_cons {ν q : Nm} {i : Nat} (h : under (i :: ν) q = true) : under ν q = true := by
  simp only [under, List.isSuffixOf_iff_suffix] at *
  exact (List.suffix_cons i ν).trans h
theorem under_of_cons_false {ν q : Nm} {i : Nat} (h : under ν q = false) : under (i :: ν) q = false := by
  cases h' : under (i :: ν) q with
  | false => rfl
  | true => rw [under_of_cons h'] at h; cases h
theorem under_apart {ν q : Nm} {i j : Nat} (hij : i ≠ j) (h : under (i :: ν) q = true) : under (j :: ν) q = false := by
  cases h' : under (j :: ν) q with
  | false => rfl
  | true =>
    simp only [under, List.isSuffixOf_iff_suffix] at h h'
    have := List.suffix_of_suffix_length_le h h' (by simp)
    obtain ⟨t, ht⟩ := this
    have hl := congrArg List.length ht
    simp only [List.length_append, List.length_cons] at hl
    obtain rfl : t = [] := List.eq_nil_of_length_eq_zero (by omega)
    simp at ht
    exact absurd ht hij
theorem St.trans {ν : Nm} {G G1 G2 : Gh} {H H1 H2 : Heap} {W W1 W2 : World} (h : St ν G G1 H H1 W W1) (h2 : St ν G1 G2 H1 H2 W1 W2) : St ν G G2 H H2 W W2 where
  le := h.le.trans h2.le
  mu' q e := (h2.mu' q e).trans (h.mu' q e)
  F' b o v e := by
    rcases h2.F' b o v e with e | e | e
    · exact h.F' b o v e
    · exact .inr (.inl (Nat.le_trans h.sz e))
    · exact .inr (h.ow b e)
  hp q e e' := h2.hp q e (h.hp q e e')
  sz := Nat.le_trans h.sz h2.sz
  fr b hb hn := by
    have h1 : ¬ Ow G1 H1 W1 b := fun e => by
      rcases h.ow b e with e | e
      · omega
      · exact hn e
    exact (h2.fr b (Nat.lt_of_lt_of_le hb h.sz) h1).trans (h.fr b hb hn)
  ow b e := by
    rcases h2.ow b e with e | e
    · exact .inl (Nat.le_trans h.sz e)
    · exact h.ow b e
  sm := h.sm.trans h2.sm
  un q e e' := (h2.un q e ((h.mu' q e).trans e')).trans (h.un q e e')
theorem St.up {ν : Nm} {i : Nat} {G G' : Gh} {H H1 : Heap} {W W' : World} (h : St (i :: ν) G G' H H1 W W') : St ν G G' H H1 W W' :=
  ⟨h.le, fun q e => h.mu' q (under_of_cons_false e), h.F', fun q e => h.hp q (under_of_cons_false e), h.sz, h.fr, h.ow, h.sm, fun q e => h.un q (under_of_cons_false e)⟩
def Fresh (ν : Nm) (G : Gh) (H : Heap) : Prop := ∀ q, under ν q = true → G.mu q = none ∧ H q = none
theorem Fresh.down {ν : Nm} {G : Gh} {H : Heap} (h : Fresh ν G H) (i : Nat) : Fresh (i :: ν) G H := fun q e => h q (under_of_cons e)
theorem Fresh.next {ν : Nm} {i j : Nat} {G G' : Gh} {H H1 : Heap} {W W' : World} (h : Fresh ν G H) (hij : j ≠ i) (hs : St (i :: ν) G G' H H1 W W') : Fresh (j :: ν) G' H1 := fun q e => by
  have h1 := under_apart hij e
  obtain ⟨h2, h3⟩ := h q (under_of_cons e)
  exact ⟨(hs.mu' q h1).trans h2, hs.hp q h1 h3⟩
end Go.Proofs.YtfkgdlfponfimaaGreat.X
