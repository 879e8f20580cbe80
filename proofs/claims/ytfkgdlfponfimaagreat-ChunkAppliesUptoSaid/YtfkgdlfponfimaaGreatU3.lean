import Derived.Test.YtfkgdlfponfimaaGreatU2
/- The relation under the model's writes: a new block, a block written anew, cells that become a list's for good. -/
namespace Go.Proofs.YtfkgdlfponfimaaGreat.X
open Go Go.RowKit
variable {B : BT} {ν : Nm} {G G' : Gh} {H H1 : Heap} {W W' : World}
theorem old_block (W : World) (o : Obj) {b : Nat} (h : b < W.heap.size) : (W.alloc o).heap[b]? = W.heap[b]? := heap_alloc_old W o b h
theorem OKrow.mono (hg : Gle G G') {w : Nat} {xs : List AVal} {l : Loc} (h : OKrow G w xs l W) (hb : W'.heap[l.b]? = W.heap[l.b]?) : OKrow G' w xs l W' := by
  obtain ⟨h1, cur, T, h2, h3, h4, h5, h6, h7⟩ := h
  exact ⟨h1, cur, T, hb.trans h2, h3, h4, h5, h6, h7.mono fun _ _ e => e.mono hg⟩
theorem ownsRow_congr {e : TypeId} {v : Value} {n : Nat} {xs : List Value} (h : W.ownsRow 0 e 1 v n xs) (hb : ∀ k, v.ownBlock = some k → W'.heap[k]? = W.heap[k]?) : W'.ownsRow 0 e 1 v n xs := by
  refine ⟨h.1, ?_⟩
  rcases h.2 with hn | ⟨g, cap, cur, rfl, hb', hg, rest⟩
  · exact .inl hn
  · exact .inr ⟨g, cap, cur, rfl, hb', (hb g rfl).trans hg, rest⟩
theorem OK.congr (hg : Gle G G') {obj : AObj} {l : Loc} (h : OK B G obj l W) (hb : ∀ k, ownB obj l W k → W'.heap[k]? = W.heap[k]?) : OK B G' obj l W' := by
  have h0 := hb l.b (.inl rfl)
  cases obj with
  | row w xs => exact OKrow.mono hg h h0
  | map es =>
    obtain ⟨es', clock, h1, h2⟩ := h
    exact ⟨es', clock, h0.trans h1, h2.mono fun _ _ e => ⟨e.1.mono hg, e.2.mono hg⟩⟩
  | bld s =>
    have key : ∀ p, Lib.BuilderAt B.tb B.tu 0 l.b p (Lib.strCells s) W → Lib.BuilderAt B.tb B.tu 0 l.b p (Lib.strCells s) W' := by
      rintro p ⟨h1, v, h2, h3, h4⟩
      exact ⟨h1, v, h0.trans h2, ownsRow_congr h3 (fun k hk => hb k (.inr ⟨s, p, v, _, rfl, h2, hk⟩)), h4⟩
    exact h.imp (key _) (key _)
theorem ownB.back {obj : AObj} {l : Loc} {k : Nat} (hb : W'.heap[l.b]? = W.heap[l.b]?) (h : ownB obj l W' k) : ownB obj l W k := by
  rcases h with h | ⟨s, p, v, T, h1, h2, h3⟩
  · exact .inl h
  · exact .inr ⟨s, p, v, T, h1, hb ▸ h2, h3⟩
theorem OK.lt {obj : AObj} {l : Loc} (h : OK B G obj l W) : l.b < W.heap.size := by
  cases obj with
  | row w xs => obtain ⟨_, cur, T, h2, _⟩ := h; exact (Array.getElem?_eq_some_iff.1 h2).1
  | map es => obtain ⟨es', clock, h1, _⟩ := h; exact (Array.getElem?_eq_some_iff.1 h1).1
  | bld s => rcases h with h | h <;> exact h.lt
theorem ownB.lt {obj : AObj} {l : Loc} {k : Nat} (ho : OK B G obj l W) (h : ownB obj l W k) : k < W.heap.size := by
  rcases h with h | ⟨s, p, v, T, rfl, h2, h3⟩
  · subst h; exact ho.lt
  · have key : ∀ p', Lib.BuilderAt B.tb B.tu 0 l.b p' (Lib.strCells s) W → k < W.heap.size := by
      rintro p' ⟨_, v', h5, h6, _⟩
      rw [h2] at h5
      injection h5 with h5
      injection h5 with h5 _ _
      have : v = v' := by injection h5 with h5; injection h5 with _ h5; injection h5 with h5
      subst this
      exact (h6.lt k h3).2
    rcases ho with ho | ho
    · exact key _ ho
    · exact key _ ho
theorem R.lt (h : R B G H W) {b : Nat} (ho : Ow G H W b) : b < W.heap.size := by
  obtain ⟨q, l, obj, h1, h2, h3⟩ := ho
  exact h3.lt (h.ob q l obj h1 h2)
theorem cell_block {a : Addr} (h : W'.heap[a.block]? = W.heap[a.block]?) : W'.cell? a = W.cell? a := by simp [World.cell?, h]
theorem R.flt (h : R B G H W) {b o : Nat} {v : Value} (hf : G.F b o = some v) : b < W.heap.size := World.block_lt_of_cell? _ _ (h.f b o v hf)
theorem put_same (H : Heap) (q : Nm) (o : Option AObj) : H.put q o q = o := by simp [Heap.put]
theorem put_other (H : Heap) {q p : Nm} (o : Option AObj) (h : p ≠ q) : H.put q o p = H p := by simp [Heap.put, h]
theorem R.world (h : R B G H W) (hsm : Same W W') (hsz : W.heap.size ≤ W'.heap.size) (hb : ∀ b, b < W.heap.size → W'.heap[b]? = W.heap[b]?) : R B G H W' ∧ St ν G G H H W W' := by
  have back : ∀ q l obj k, G.mu q = some l → H q = some obj → ownB obj l W' k → ownB obj l W k := fun q l obj k h1 h2 h3 => h3.back (hb _ (h.ob q l obj h1 h2).lt)
  have ow : ∀ b, Ow G H W' b → Ow G H W b := fun b ⟨q, l, obj, h1, h2, h3⟩ => ⟨q, l, obj, h1, h2, back _ _ _ _ h1 h2 h3⟩
  refine ⟨⟨fun b o v e => ?_, fun b o v e e' => h.fo b o v e (ow b e'), fun q l obj h1 h2 => ?_, fun q q' l l' obj obj' k h1 h2 h3 h4 h5 h6 => ?_⟩, Gle.refl G, fun _ _ => Z, fun _ _ _ h => .inl h, fun _ _ h => h, hsz, fun b hlt _ => hb b hlt, fun b e => .inr (ow b e), hsm, fun _ _ _ => Z⟩
  · rw [cell_block (hb b (h.flt e))]; exact h.f b o v e
  · exact (h.ob q l obj h1 h2).congr (Gle.refl G) fun k hk => hb k (hk.lt (h.ob q l obj h1 h2))
  · exact h.dj q q' l l' obj obj' k h1 h2 h3 h4 (back _ _ _ _ h1 h2 h5) (back _ _ _ _ h3 h4 h6)
theorem R.drew (h : R B G H W) : R B G H W.drew := (h.world (ν := []) (W' := W.drew) ⟨rfl, rfl, rfl⟩ (Nat.le_refl _) fun _ _ => rfl).1
theorem R.promise (h : R B G H W) (F' : Nat → Nat → Option Value) (hF : ∀ b o v, G.F b o = some v → F' b o = some v) (hn : ∀ b o v, F' b o = some v → G.F b o = some v ∨ (W.cell? ⟨b, o, none⟩ = some v ∧ ¬ Ow G H W b)) :
    R B ⟨G.mu, F'⟩ H W ∧ Gle G ⟨G.mu, F'⟩ := by
  have hg : Gle G ⟨G.mu, F'⟩ := ⟨fun _ _ e => e, hF⟩
  refine ⟨⟨fun b o v e => ?_, fun b o v e e' => ?_, fun q l obj h1 h2 => (h.ob q l obj h1 h2).congr hg fun _ _ => Z, h.dj⟩, hg⟩
  · rcases hn b o v e with e | e
    · exact h.f b o v e
    · exact e.1
  · rcases hn b o v e with e | e
    · exact h.fo b o v e e'
    · exact e.2 e'
theorem R.object (h : R B G H W) (hf : Fresh ν G H) (o : Obj) (obj : AObj) (l : Loc) (hl : l.b = W.heap.size)
    (hok : ∀ G', Gle G G' → G'.F = G.F → OK B G' obj l (W.alloc o)) (hown : ∀ k, ownB obj l (W.alloc o) k → k = W.heap.size) :
    ∃ G', R B G' (H.put ν (some obj)) (W.alloc o) ∧ St ν G G' H (H.put ν (some obj)) W (W.alloc o) ∧ G'.mu ν = some l ∧ G'.F = G.F := by
  obtain ⟨h0, hH0⟩ := hf ν (under_self ν)
  let G' : Gh := ⟨fun q => if q = ν then some l else G.mu q, G.F⟩
  have hle : Gle G G' := ⟨fun q l' e => by
    show (if q = ν then some l else G.mu q) = some l'
    rw [if_neg (fun e' => by subst e'; rw [h0] at e; cases e)]; exact e, fun _ _ _ e => e⟩
  have hb : ∀ b, b < W.heap.size → (W.alloc o).heap[b]? = W.heap[b]? := fun b hb => heap_alloc_old W o b hb
  have split : ∀ q l' ob, G'.mu q = some l' → H.put ν (some obj) q = some ob → (q = ν ∧ l' = l ∧ ob = obj) ∨ (q ≠ ν ∧ G.mu q = some l' ∧ H q = some ob) := by
    intro q l' ob h1 h2
    by_cases e : q = ν
    · left
      subst e
      refine ⟨Z, ?_, ?_⟩
      · have h3 : (if q = q then some l else G.mu q) = some l' := h1
        rw [if_pos rfl] at h3; exact (Option.some.inj h3).symm
      · rw [put_same] at h2; exact (Option.some.inj h2).symm
    · right
      refine ⟨e, ?_, ?_⟩
      · have h3 : (if q = ν then some l else G.mu q) = some l' := h1
        rw [if_neg e] at h3; exact h3
      · rw [put_other H _ e] at h2; exact h2
  have back : ∀ q l' ob k, G.mu q = some l' → H q = some ob → ownB ob l' (W.alloc o) k → ownB ob l' W k := fun q l' ob k h1 h2 h3 => h3.back (hb _ (h.ob q l' ob h1 h2).lt)
  have ow : ∀ b, Ow G' (H.put ν (some obj)) (W.alloc o) b → W.heap.size ≤ b ∨ Ow G H W b := by
    rintro b ⟨q, l', ob, h1, h2, h3⟩
    rcases split q l' ob h1 h2 with ⟨rfl, rfl, rfl⟩ | ⟨_, h4, h5⟩
    · exact .inl (Nat.le_of_eq (hown b h3).symm)
    · exact .inr ⟨q, l', ob, h4, h5, back _ _ _ _ h4 h5 h3⟩
  refine ⟨G', ⟨fun b o' v e => ?_, fun b o' v e e' => ?_, fun q l' ob h1 h2 => ?_, fun q q' l1 l2 o1 o2 k h1 h2 h3 h4 h5 h6 => ?_⟩, ⟨hle, fun q e => ?_, fun b o' v e => .inl e, fun q e e' => ?_, by simp, fun b hlt _ => hb b hlt, ow, ⟨Z, Z, Z⟩, fun q e _ => put_other H _ (fun e'' => by subst e''; rw [under_self] at e; cases e)⟩, ?_, Z⟩
  · rw [cell_block (hb b (h.flt e))]; exact h.f b o' v e
  · rcases ow b e' with e' | e'
    · have := h.flt e; omega
    · exact h.fo b o' v e e'
  · rcases split q l' ob h1 h2 with ⟨rfl, rfl, rfl⟩ | ⟨_, h4, h5⟩
    · exact hok G' hle rfl
    · exact (h.ob q l' ob h4 h5).congr hle fun k hk => hb k (hk.lt (h.ob q l' ob h4 h5))
  · rcases split q l1 o1 h1 h2 with ⟨rfl, rfl, rfl⟩ | ⟨n1, h7, h8⟩
    · rcases split q' l2 o2 h3 h4 with ⟨rfl, rfl, rfl⟩ | ⟨n2, h9, h10⟩
      · rfl
      · have hk := hown k h5
        have := (back _ _ _ _ h9 h10 h6).lt (h.ob q' l2 o2 h9 h10)
        omega
    · rcases split q' l2 o2 h3 h4 with ⟨rfl, rfl, rfl⟩ | ⟨n2, h9, h10⟩
      · have hk := hown k h6
        have := (back _ _ _ _ h7 h8 h5).lt (h.ob q l1 o1 h7 h8)
        omega
      · exact h.dj q q' l1 l2 o1 o2 k h7 h8 h9 h10 (back _ _ _ _ h7 h8 h5) (back _ _ _ _ h9 h10 h6)
  · show (if q = ν then some l else G.mu q) = G.mu q
    rw [if_neg (fun e' => by subst e'; rw [under_self] at e; cases e)]
  · rw [put_other H _ (fun e'' => by subst e''; rw [under_self] at e; cases e)]; exact e'
  · show (if ν = ν then some l else G.mu ν) = some l
    rw [if_pos rfl]
theorem R.write (h : R B G H W) {q : Nm} {l : Loc} {obj obj' : AObj} (hq : G.mu q = some l) (hH : H q = some obj) (hsm : Same W W') (hsz : W'.heap.size = W.heap.size) (hb : ∀ b, b ≠ l.b → W'.heap[b]? = W.heap[b]?)
    (hok : OK B G obj' l W') (hown : ∀ k, ownB obj' l W' k → k = l.b) : R B G (H.put q (some obj')) W' ∧ St ν G G H (H.put q (some obj')) W W' := by
  have split : ∀ p l' ob, G.mu p = some l' → H.put q (some obj') p = some ob → (p = q ∧ l' = l ∧ ob = obj') ∨ (p ≠ q ∧ H p = some ob) := by
    intro p l' ob h1 h2
    by_cases e : p = q
    · left; subst e; rw [hq] at h1; rw [put_same] at h2
      exact ⟨rfl, (Option.some.inj h1).symm, (Option.some.inj h2).symm⟩
    · right; rw [put_other H _ e] at h2; exact ⟨e, h2⟩
  have ne : ∀ p l' ob, p ≠ q → G.mu p = some l' → H p = some ob → ∀ k, ownB ob l' W k → k ≠ l.b := by
    intro p l' ob e h1 h2 k h3 h4
    exact e (h.dj p q l' l ob obj k h1 h2 hq hH h3 (.inl h4))
  have back : ∀ p l' ob k, p ≠ q → G.mu p = some l' → H p = some ob → ownB ob l' W' k → ownB ob l' W k := fun p l' ob k e h1 h2 h3 => h3.back (hb _ (ne p l' ob e h1 h2 _ (.inl rfl)))
  have mine : Ow G H W l.b := ⟨q, l, obj, hq, hH, .inl rfl⟩
  have ow : ∀ b, Ow G (H.put q (some obj')) W' b → Ow G H W b := by
    rintro b ⟨p, l', ob, h1, h2, h3⟩
    rcases split p l' ob h1 h2 with ⟨rfl, rfl, rfl⟩ | ⟨e, h4⟩
    · rw [hown b h3]; exact mine
    · exact ⟨p, l', ob, h1, h4, back _ _ _ _ e h1 h4 h3⟩
  refine ⟨⟨fun b o v e => ?_, fun b o v e e' => h.fo b o v e (ow b e'), fun p l' ob h1 h2 => ?_, fun p p' l1 l2 o1 o2 k h1 h2 h3 h4 h5 h6 => ?_⟩, Gle.refl G, fun _ _ => Z, fun _ _ _ e => .inl e, fun p e e' => ?_, Nat.le_of_eq hsz.symm, fun b _ hn => hb b (fun e => hn (e ▸ mine)), fun b e => .inr (ow b e), hsm, fun p _ e => put_other H _ (fun e'' => by subst e''; rw [hq] at e; cases e)⟩
  · have : b ≠ l.b := fun e' => h.fo b o v e (e' ▸ mine)
    rw [cell_block (hb b this)]; exact h.f b o v e
  · rcases split p l' ob h1 h2 with ⟨rfl, rfl, rfl⟩ | ⟨e, h4⟩
    · exact hok
    · exact (h.ob p l' ob h1 h4).congr (Gle.refl G) fun k hk => hb k (ne p l' ob e h1 h4 k hk)
  · rcases split p l1 o1 h1 h2 with ⟨rfl, rfl, rfl⟩ | ⟨e, h7⟩
    · rcases split p' l2 o2 h3 h4 with ⟨rfl, rfl, rfl⟩ | ⟨e', h8⟩
      · rfl
      · have := hown k h5
        exact absurd this (ne p' l2 o2 e' h3 h8 k (back _ _ _ _ e' h3 h8 h6))
    · rcases split p' l2 o2 h3 h4 with ⟨rfl, rfl, rfl⟩ | ⟨e', h8⟩
      · have := hown k h6
        exact absurd this (ne p l1 o1 e h1 h7 k (back _ _ _ _ e h1 h7 h5))
      · exact h.dj p p' l1 l2 o1 o2 k h1 h7 h3 h8 (back _ _ _ _ e h1 h7 h5) (back _ _ _ _ e' h3 h8 h6)
  · have : p ≠ q := fun e'' => by subst e''; rw [hH] at e'; cases e'
    rw [put_other H _ this]; exact e'
theorem R.drop (h : R B G H W) (q : Nm) : R B G (H.put q none) W ∧ (under ν q = true ∨ (∃ l, G.mu q = some l) → St ν G G H (H.put q none) W W) := by
  have sub : ∀ p ob, H.put q none p = some ob → H p = some ob := by
    intro p ob e
    by_cases e' : p = q
    · subst e'; rw [put_same] at e; cases e
    · rw [put_other H _ e'] at e; exact e
  have ow : ∀ b, Ow G (H.put q none) W b → Ow G H W b := fun b ⟨p, l, ob, h1, h2, h3⟩ => ⟨p, l, ob, h1, sub _ _ h2, h3⟩
  refine ⟨⟨h.f, fun b o v e e' => h.fo b o v e (ow b e'), fun p l ob h1 h2 => h.ob p l ob h1 (sub _ _ h2), fun p p' l1 l2 o1 o2 k h1 h2 h3 h4 => h.dj p p' l1 l2 o1 o2 k h1 (sub _ _ h2) h3 (sub _ _ h4)⟩, fun hqq => ⟨Gle.refl G, fun _ _ => Z, fun _ _ _ e => .inl e, fun p e e' => ?_, Nat.le_refl _, fun _ _ _ => Z, fun b e => .inr (ow b e), Same.refl W, fun p e e' => put_other H _ (fun e'' => by subst e''; rcases hqq with h1 | ⟨l, h1⟩ <;> simp_all)⟩⟩
  by_cases e'' : p = q
  · subst e''; rw [put_same]
  · rw [put_other H _ e'']; exact e'
theorem put_put (H : Heap) (q : Nm) (a b : Option AObj) : (H.put q a).put q b = H.put q b := by
  funext p; by_cases e : p = q
  · subst e; rw [put_same, put_same]
  · rw [put_other _ _ e, put_other _ _ e, put_other _ _ e]
theorem R.ren (h : R B G H W) (hf : Fresh ν G H) {q : Nm} {l : Loc} {obj : AObj} (hq : G.mu q = some l) (hH : H q = some obj) :
    ∃ G', R B G' ((H.put q none).put ν (some obj)) W ∧ St ν G G' H ((H.put q none).put ν (some obj)) W W ∧ G'.mu ν = some l ∧ G'.F = G.F := by
  obtain ⟨h0, hH0⟩ := hf ν (under_self ν)
  let G' : Gh := ⟨fun p => if p = ν then some l else G.mu p, G.F⟩
  have hle : Gle G G' := ⟨fun p l' e => by
    show (if p = ν then some l else G.mu p) = some l'
    rw [if_neg (fun e' => by subst e'; rw [h0] at e; cases e)]; exact e, fun _ _ _ e => e⟩
  have hqν : q ≠ ν := fun e => by subst e; rw [h0] at hq; cases hq
  have split : ∀ p l' ob, G'.mu p = some l' → (H.put q none).put ν (some obj) p = some ob → (p = ν ∧ l' = l ∧ ob = obj) ∨ (p ≠ ν ∧ p ≠ q ∧ G.mu p = some l' ∧ H p = some ob) := by
    intro p l' ob h1 h2
    have h3 : (if p = ν then some l else G.mu p) = some l' := h1
    by_cases e : p = ν
    · left; subst e
      rw [if_pos rfl] at h3; rw [put_same] at h2
      exact ⟨rfl, (Option.some.inj h3).symm, (Option.some.inj h2).symm⟩
    · right
      rw [if_neg e] at h3; rw [put_other _ _ e] at h2
      have : p ≠ q := fun e' => by subst e'; rw [put_same] at h2; cases h2
      rw [put_other _ _ this] at h2
      exact ⟨e, this, h3, h2⟩
  have ow : ∀ b, Ow G' ((H.put q none).put ν (some obj)) W b → Ow G H W b := by
    rintro b ⟨p, l', ob, h1, h2, h3⟩
    rcases split p l' ob h1 h2 with ⟨rfl, rfl, rfl⟩ | ⟨_, _, h4, h5⟩
    · exact ⟨q, _, _, hq, hH, h3⟩
    · exact ⟨p, l', ob, h4, h5, h3⟩
  refine ⟨G', ⟨h.f, fun b o v e e' => h.fo b o v e (ow b e'), fun p l' ob h1 h2 => ?_, fun p p' l1 l2 o1 o2 k h1 h2 h3 h4 h5 h6 => ?_⟩, ⟨hle, fun p e => ?_, fun b o v e => .inl e, fun p e e' => ?_, Nat.le_refl _, fun _ _ _ => Z, fun b e => .inr (ow b e), Same.refl W, fun p e e' => by rw [put_other _ _ (fun e'' => by subst e''; rw [under_self] at e; cases e), put_other _ _ (fun e'' => by subst e''; rw [hq] at e'; cases e')]⟩, ?_, Z⟩
  · rcases split p l' ob h1 h2 with ⟨rfl, rfl, rfl⟩ | ⟨_, _, h4, h5⟩
    · exact (h.ob q _ _ hq hH).congr hle fun _ _ => rfl
    · exact (h.ob p l' ob h4 h5).congr hle fun _ _ => rfl
  · rcases split p l1 o1 h1 h2 with ⟨rfl, rfl, rfl⟩ | ⟨_, n1, h7, h8⟩
    · rcases split p' l2 o2 h3 h4 with ⟨rfl, rfl, rfl⟩ | ⟨_, n2, h9, h10⟩
      · rfl
      · exact absurd (h.dj q p' _ l2 _ o2 k hq hH h9 h10 h5 h6).symm n2
    · rcases split p' l2 o2 h3 h4 with ⟨rfl, rfl, rfl⟩ | ⟨_, n2, h9, h10⟩
      · exact absurd (h.dj p q l1 _ o1 _ k h7 h8 hq hH h5 h6) n1
      · exact h.dj p p' l1 l2 o1 o2 k h7 h8 h9 h10 h5 h6
  · show (if p = ν then some l else G.mu p) = G.mu p
    rw [if_neg (fun e' => by subst e'; rw [under_self] at e; cases e)]
  · rw [put_other _ _ (fun e'' => by subst e''; rw [under_self] at e; cases e)]
    by_cases e'' : p = q
    · subst e''; rw [put_same]
    · rw [put_other _ _ e'']; exact e'
  · show (if ν = ν then some l else G.mu ν) = some l
    rw [if_pos rfl]
theorem R.sub (h : R B G H W) (hs : ∀ q ob, H1 q = some ob → H q = some ob) : R B G H1 W :=
  have ow : ∀ b, Ow G H1 W b → Ow G H W b := fun b ⟨p, l, ob, h1, h2, h3⟩ => ⟨p, l, ob, h1, hs _ _ h2, h3⟩
  ⟨h.f, fun b o v e e' => h.fo b o v e (ow b e'), fun p l ob h1 h2 => h.ob p l ob h1 (hs _ _ h2), fun p p' l1 l2 o1 o2 k h1 h2 h3 h4 => h.dj p p' l1 l2 o1 o2 k h1 (hs _ _ h2) h3 (hs _ _ h4)⟩
end Go.Proofs.YtfkgdlfponfimaaGreat.X
