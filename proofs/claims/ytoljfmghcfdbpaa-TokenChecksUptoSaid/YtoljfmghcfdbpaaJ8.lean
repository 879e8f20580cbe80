/- The program's oracle and the reference's: the same, call by call. -/
import Derived.Test.YtoljfmghcfdbpaaJ7
set_option linter.unusedVariables false
set_option linter.unusedSimpArgs false
namespace Go.Proofs.Ytoljfmghcfdbpaa.X
open Go Go.RowKit
namespace Rf
variable {S : Rf}
def t3 (y : Rw) : Bool := decide (y.t = 3)
def hsF (S : Rf) (a : ByteArray) : Option Int := (S.rows.find? fun y => (Rw.mk 1 0 0 a ⟨#[]⟩ 0).same y).map (·.h)
def tgF (S : Rf) (p : Int × ByteArray) : Option Int := (S.rows.find? fun y => (Rw.mk 2 p.1 0 p.2 ⟨#[]⟩ 0).same y).map (·.h)
def seF (S : Rf) (p : Int × Int × ByteArray × ByteArray) : Option Int := (S.rows.find? fun y => (Rw.mk 3 p.1 p.2.1 p.2.2.1 p.2.2.2 0).same y).map (·.h)
def opI (S : Rf) (p : Int × Int × Int × ByteArray) : Int := firstI (isOpen p.1 p.2.1 p.2.2.2 p.2.2.1) (S.rows.filter t3) 0
def opF (S : Rf) (p : Int × Int × Int × ByteArray) : Option Int := if S.opI p < 0 then none else some (S.opI p + 1)
def issF (S : Rf) (h : Int) : Option Int := if S.rows.countP (fun x => decide (x.h = h)) = 0 then none else some (S.rows.countP (fun x => decide (x.h = h)) : Nat)
def metF (S : Rf) (h : Int) : Option Int := if h ∈ S.met then some 1 else none
def of (S : Rf) : Orf := ⟨S.draws, S.rows.length, decide (S.bads > 0), S.issF, S.metF, S.hsF, S.tgF, S.seF, S.opF, (S.rows.filter t3).map (·.b)⟩
theorem iss_pos (h : Int) : ((S.issF h).getD 0 > 0) ↔ S.issued h = true := by
  unfold issF issued
  rw [List.any_eq_true]
  split
  · rename_i h0
    rw [List.countP_eq_zero] at h0
    simp only [Option.getD_none, gt_iff_lt, Int.lt_irrefl, false_iff, not_exists, not_and]
    exact fun x hx => h0 x hx
  · rename_i h0
    have h1 : 0 < S.rows.countP (fun x => decide (x.h = h)) := by omega
    have h2 := List.countP_pos_iff.1 h1
    simp only [Option.getD_some]
    exact ⟨fun _ => h2, fun _ => by omega⟩
theorem met_pos (h : Int) : ((S.metF h).getD 0 > 0) ↔ S.shown h = true := by
  unfold metF shown
  rw [List.any_eq_true]
  split
  · rename_i h0; simp; exact h0
  · rename_i h0; simp; exact h0
theorem iss_zero (h : Int) : ((S.issF h).getD 0 = 0) ↔ S.issued h = false := by
  have := S.iss_pos h
  have h0 : 0 ≤ (S.issF h).getD 0 := by unfold issF; split <;> simp
  cases hb : S.issued h with
  | true => rw [hb] at this; simp at this ⊢; omega
  | false => rw [hb] at this; simp at this ⊢; omega
theorem of_next : S.of.next = S.next := rfl
theorem of_isBad (h : Int) : S.of.isBad h = decide (S.bads + (if S.isBad h then 1 else 0) > 0) := by
  unfold Orf.isBad isBad
  show (decide (S.bads > 0) || (decide (h = 0) || decide ((S.issF h).getD 0 > 0) || decide ((S.metF h).getD 0 > 0))) = _
  rw [show decide ((S.issF h).getD 0 > 0) = S.issued h by rw [Bool.eq_iff_iff, decide_eq_true_eq]; exact S.iss_pos h, show decide ((S.metF h).getD 0 > 0) = S.shown h by rw [Bool.eq_iff_iff, decide_eq_true_eq]; exact S.met_pos h]
  cases (decide (h = 0) || S.issued h || S.shown h) <;> simp
theorem iss_draw (x : Rw) (h : Int) : (S.draw x).issF h = if h = S.next then some ((S.issF S.next).getD 0 + 1) else S.issF h := by
  unfold issF draw
  simp only [List.countP_append, List.countP_singleton]
  by_cases e : h = S.next
  · subst e
    simp only [decide_true, if_true]
    rw [if_neg (by omega)]
    split
    · rename_i h0; simp [h0]
    · simp
  · have e' : ¬ S.next = h := fun e2 => e e2.symm
    simp [e, e']
theorem find_draw (x : Rw) (p : Rw → Bool) : ((S.draw x).rows.find? p) = (S.rows.find? p).or (if p ⟨x.t, x.k, x.n, x.a, x.b, S.next⟩ then some ⟨x.t, x.k, x.n, x.a, x.b, S.next⟩ else none) := by
  unfold draw
  rw [List.find?_append]
  congr 1
  simp only [List.find?_cons, List.find?_nil]
  split <;> simp_all
theorem of_draw (x : Rw) : (S.draw x).of = ⟨S.draws, S.rows.length + 1, S.of.isBad S.next, fun h => if h = S.next then some ((S.issF S.next).getD 0 + 1) else S.issF h, S.metF,
    fun a => (S.hsF a).or (if (Rw.mk 1 0 0 a ⟨#[]⟩ 0).same ⟨x.t, x.k, x.n, x.a, x.b, S.next⟩ then some S.next else none),
    fun p => (S.tgF p).or (if (Rw.mk 2 p.1 0 p.2 ⟨#[]⟩ 0).same ⟨x.t, x.k, x.n, x.a, x.b, S.next⟩ then some S.next else none),
    fun p => (S.seF p).or (if (Rw.mk 3 p.1 p.2.1 p.2.2.1 p.2.2.2 0).same ⟨x.t, x.k, x.n, x.a, x.b, S.next⟩ then some S.next else none),
    (S.draw x).opF, ((S.draw x).rows.filter t3).map (·.b)⟩ := by
  have h1 : ∀ (p : Rw → Bool), ((S.draw x).rows.find? p).map (·.h) = ((S.rows.find? p).map (·.h)).or (if p ⟨x.t, x.k, x.n, x.a, x.b, S.next⟩ then some S.next else none) := by
    intro p
    rw [find_draw]
    cases S.rows.find? p
    · simp only [Option.none_or, Option.map_none]; split <;> rfl
    · rfl
  unfold of
  congr 1
  · simp [draw]
  · exact (of_isBad (S := S) S.next).symm
  · funext h; exact S.iss_draw x h
  · funext a; exact h1 _
  · funext a; exact h1 _
  · funext a; exact h1 _
theorem filt_draw (x : Rw) : (S.draw x).rows.filter t3 = S.rows.filter t3 ++ (if x.t = 3 then [⟨x.t, x.k, x.n, x.a, x.b, S.next⟩] else []) := by
  unfold draw
  rw [List.filter_append]
  congr 1
  simp only [List.filter_cons, List.filter_nil, t3]
  by_cases h : x.t = 3 <;> simp [h]
theorem op_draw (x : Rw) (h : ¬ x.t = 3) : (S.draw x).opF = S.opF := by
  funext p
  have : (S.draw x).rows.filter t3 = S.rows.filter t3 := by rw [filt_draw, if_neg h, List.append_nil]
  unfold opF opI
  rw [this]
theorem same1 {t : Int} {k n : Int} {a b : ByteArray} {h : Int} {x : Rw} (ht : ¬ x.t = t) (h' : Int) : (Rw.mk t k n a b h).same ⟨x.t, x.k, x.n, x.a, x.b, h'⟩ = false := by simp [Rw.same, ht]
theorem ite_f {α : Type} {b : Bool} {x : Option α} {y : Option α} (h : b = false) : (y.or (if b = true then x else none)) = y := by subst h; simp
theorem fresh_of : S.of.fresh = S.fresh.of := by
  unfold fresh
  rw [of_draw, op_draw _ (by decide)]
  simp only [filt_draw]
  unfold Orf.fresh
  rw [of_next]
  simp only [same1 (x := ⟨0, 0, 0, ⟨#[]⟩, ⟨#[]⟩, 0⟩) (t := 1) (by decide), same1 (x := ⟨0, 0, 0, ⟨#[]⟩, ⟨#[]⟩, 0⟩) (t := 2) (by decide), same1 (x := ⟨0, 0, 0, ⟨#[]⟩, ⟨#[]⟩, 0⟩) (t := 3) (by decide)]
  simp [of]
theorem isSome_find {α β : Type} {o : Option α} {f : α → β} : (o.map f).isSome = o.isSome := by cases o <;> rfl
theorem upd_or {α : Type} [DecidableEq α] {f : α → Option Int} {a : α} {v : Int} {c : α → Bool} (hc : ∀ x, c x = decide (x = a)) (h : f a = none) : (fun x => if x = a then some v else f x) = fun x => (f x).or (if c x = true then some v else none) := by
  funext x
  by_cases e : x = a
  · subst e; simp [hc, h]
  · simp [hc, e]
theorem draw_flds (x : Rw) (h : ¬ x.t = 3) : ((S.draw x).rows.filter t3).map (·.b) = (S.rows.filter t3).map (·.b) := by rw [filt_draw, if_neg h, List.append_nil]
theorem hash_of (a : ByteArray) : S.of.hash a = ((S.hash a).1, (S.hash a).2.of) := by
  unfold hash value Orf.hash
  show (if (S.hsF a).isSome = true then _ else _) = _
  cases hf : S.rows.find? (fun y => (Rw.mk 1 0 0 a ⟨#[]⟩ 0).same y) with
  | some y =>
    have : S.hsF a = some y.h := by unfold hsF; rw [hf]; rfl
    rw [this]
    simp only [Option.isSome_some, if_true]
    show ((S.hsF a).getD 0, S.of) = _
    rw [this]; rfl
  | none =>
    have h0 : S.hsF a = none := by unfold hsF; rw [hf]; rfl
    rw [h0]
    simp only [Option.isSome_none, Bool.false_eq_true, if_false]
    rw [fresh_of, of_next]
    congr 1
    rw [of_draw (x := ⟨1, 0, 0, a, ⟨#[]⟩, 0⟩), op_draw _ (by show ¬ (1 : Int) = 3; decide), draw_flds _ (by show ¬ (1 : Int) = 3; decide)]
    unfold fresh
    rw [of_draw, op_draw _ (by decide), draw_flds _ (by decide)]
    simp only [same1 (x := ⟨0, 0, 0, ⟨#[]⟩, ⟨#[]⟩, 0⟩) (t := 1) (by decide), same1 (x := ⟨0, 0, 0, ⟨#[]⟩, ⟨#[]⟩, 0⟩) (t := 2) (by decide), same1 (x := ⟨0, 0, 0, ⟨#[]⟩, ⟨#[]⟩, 0⟩) (t := 3) (by decide), same1 (x := ⟨1, 0, 0, a, ⟨#[]⟩, 0⟩) (t := 2) (by show ¬ (1 : Int) = 2; decide), same1 (x := ⟨1, 0, 0, a, ⟨#[]⟩, 0⟩) (t := 3) (by show ¬ (1 : Int) = 3; decide), Bool.false_eq_true, if_false, Option.or_none]
    congr 1
    exact upd_or (c := fun x => (Rw.mk 1 0 0 x ⟨#[]⟩ 0).same ⟨1, 0, 0, a, ⟨#[]⟩, S.next⟩) (fun x => by
      by_cases e : x = a
      · subst e; simp [Rw.same]
      · simp [Rw.same, e, Ne.symm e]) h0
theorem mac_of (k : Int) (a : ByteArray) : S.of.mac k a = ((S.mac k a).1, (S.mac k a).2.of) := by
  unfold mac value Orf.mac
  show (if (S.tgF (k, a)).isSome = true then _ else _) = _
  cases hf : S.rows.find? (fun y => (Rw.mk 2 k 0 a ⟨#[]⟩ 0).same y) with
  | some y =>
    have : S.tgF (k, a) = some y.h := by unfold tgF; rw [hf]; rfl
    rw [this]
    simp only [Option.isSome_some, if_true]
    show ((S.tgF (k, a)).getD 0, S.of) = _
    rw [this]; rfl
  | none =>
    have h0 : S.tgF (k, a) = none := by unfold tgF; rw [hf]; rfl
    rw [h0]
    simp only [Option.isSome_none, Bool.false_eq_true, if_false]
    rw [fresh_of, of_next]
    congr 1
    rw [of_draw (x := ⟨2, k, 0, a, ⟨#[]⟩, 0⟩), op_draw _ (by show ¬ (2 : Int) = 3; decide), draw_flds _ (by show ¬ (2 : Int) = 3; decide)]
    unfold fresh
    rw [of_draw, op_draw _ (by decide), draw_flds _ (by decide)]
    simp only [same1 (x := ⟨0, 0, 0, ⟨#[]⟩, ⟨#[]⟩, 0⟩) (t := 1) (by decide), same1 (x := ⟨0, 0, 0, ⟨#[]⟩, ⟨#[]⟩, 0⟩) (t := 2) (by decide), same1 (x := ⟨0, 0, 0, ⟨#[]⟩, ⟨#[]⟩, 0⟩) (t := 3) (by decide), same1 (x := ⟨2, k, 0, a, ⟨#[]⟩, 0⟩) (t := 1) (by show ¬ (2 : Int) = 1; decide), same1 (x := ⟨2, k, 0, a, ⟨#[]⟩, 0⟩) (t := 3) (by show ¬ (2 : Int) = 3; decide), Bool.false_eq_true, if_false, Option.or_none]
    congr 1
    exact upd_or (c := fun x : Int × ByteArray => (Rw.mk 2 x.1 0 x.2 ⟨#[]⟩ 0).same ⟨2, k, 0, a, ⟨#[]⟩, S.next⟩) (fun x => by obtain ⟨x1, x2⟩ := x; by_cases e : x1 = k <;> by_cases e2 : x2 = a <;> simp [Rw.same, e, e2, eq_comm]) h0
theorem meet_of (h : Int) : S.of.meet h = (S.meet h).of := by
  unfold Orf.meet meet
  show (if (S.issF h).getD 0 = 0 then _ else _) = _
  cases hb : S.issued h with
  | true =>
    rw [if_neg (by rw [iss_zero, hb]; decide)]; rfl
  | false =>
    rw [if_pos (by rw [iss_zero, hb])]
    simp only [Bool.false_eq_true, if_false]
    unfold of
    congr 1
    funext x
    show (if x = h then some 1 else S.metF x) = if x ∈ S.met ++ [h] then some 1 else none
    unfold metF
    by_cases e : x = h <;> simp [e]
theorem verify_of (k : Int) (a : ByteArray) (t : Int) : S.of.verify k a t = ((S.verify k a t).1, (S.verify k a t).2.of) := by
  unfold Orf.verify verify
  show (if (S.tgF (k, a)).isSome = true ∧ (S.tgF (k, a)).getD 0 = t then _ else _) = _
  cases hf : S.rows.find? (fun y => (Rw.mk 2 k 0 a ⟨#[]⟩ 0).same y) with
  | some y =>
    have : S.tgF (k, a) = some y.h := by unfold tgF; rw [hf]; rfl
    rw [this]
    by_cases e : y.h = t
    · simp [e]
    · simp [e, meet_of]
  | none =>
    have h0 : S.tgF (k, a) = none := by unfold tgF; rw [hf]; rfl
    rw [h0]; simp [meet_of]
theorem opens_of (k n : Int) (a : ByteArray) (c : Int) : S.of.opens k n a c = ((S.opens k n a c).1, (S.opens k n a c).2.of) := by
  have hff : (S.rows.filter t3).find? (isOpen k n a c) = S.rows.find? (isOpen k n a c) := by
    rw [List.find?_filter]
    congr 1
    funext y
    unfold t3 isOpen
    by_cases e : y.t = 3 <;> simp [e]
  unfold Orf.opens opens
  show (if (S.opF (k, n, c, a)).getD 0 > 0 then _ else _) = _
  have hop : S.opI (k, n, c, a) = firstI (isOpen k n a c) (S.rows.filter t3) 0 := rfl
  rcases find_first (isOpen k n a c) (S.rows.filter t3) 0 (by omega) with ⟨h1, h2⟩ | ⟨i, h0, h1, h2⟩
  · rw [hff] at h1
    have e : (S.opF (k, n, c, a)).getD 0 = 0 := by unfold opF; rw [hop, h2]; rfl
    rw [e, h1]
    simp [meet_of]
  · rw [hff] at h1
    have e : S.opF (k, n, c, a) = some ((i : Int) + 1) := by unfold opF; rw [hop, h2, if_neg (by omega)]; congr 1; omega
    rw [e, h1]
    simp only [Option.getD_some]
    rw [if_pos (by omega)]
    show ((S.of.pl.getD ((S.opF (k, n, c, a)).getD 0).toNat.pred ⟨#[]⟩, true), S.of) = _
    rw [e]
    simp only [Option.getD_some]
    have : ((i : Int) + 1).toNat.pred = i := by rw [Nat.pred_eq_sub_one]; omega
    rw [this]
    congr 2
    show (((S.rows.filter t3).map (·.b)).getD i ⟨#[]⟩) = _
    rw [List.getD_eq_getElem?_getD, List.getElem?_map, List.getElem?_eq_getElem h0]; rfl
theorem seal_of (k n : Int) (a b : ByteArray) : S.of.sealv k n a b = ((S.sealv k n a b).1, (S.sealv k n a b).2.of) := by
  unfold sealv value Orf.sealv
  show (if (S.seF (k, n, a, b)).isSome = true then _ else _) = _
  cases hf : S.rows.find? (fun y => (Rw.mk 3 k n a b 0).same y) with
  | some y =>
    have : S.seF (k, n, a, b) = some y.h := by unfold seF; rw [hf]; rfl
    rw [this]
    simp only [Option.isSome_some, if_true]
    show ((S.seF (k, n, a, b)).getD 0, S.of) = _
    rw [this]; rfl
  | none =>
    have h0 : S.seF (k, n, a, b) = none := by unfold seF; rw [hf]; rfl
    rw [h0]
    simp only [Option.isSome_none, Bool.false_eq_true, if_false]
    rw [fresh_of, of_next]
    congr 1
    rw [of_draw (x := ⟨3, k, n, a, b, 0⟩)]
    unfold fresh
    rw [of_draw, op_draw _ (by decide), draw_flds _ (by decide)]
    simp only [same1 (x := ⟨0, 0, 0, ⟨#[]⟩, ⟨#[]⟩, 0⟩) (t := 1) (by decide), same1 (x := ⟨0, 0, 0, ⟨#[]⟩, ⟨#[]⟩, 0⟩) (t := 2) (by decide), same1 (x := ⟨0, 0, 0, ⟨#[]⟩, ⟨#[]⟩, 0⟩) (t := 3) (by decide), same1 (x := ⟨3, k, n, a, b, 0⟩) (t := 1) (by show ¬ (3 : Int) = 1; decide), same1 (x := ⟨3, k, n, a, b, 0⟩) (t := 2) (by show ¬ (3 : Int) = 2; decide), Bool.false_eq_true, if_false, Option.or_none]
    congr 1
    · exact upd_or (c := fun x : Int × Int × ByteArray × ByteArray => (Rw.mk 3 x.1 x.2.1 x.2.2.1 x.2.2.2 0).same ⟨3, k, n, a, b, S.next⟩) (fun x => by
        obtain ⟨x1, x2, x3, x4⟩ := x
        rw [Bool.eq_iff_iff, decide_eq_true_eq]
        simp only [Rw.same, Bool.and_eq_true, decide_eq_true_eq, Prod.mk.injEq]
        constructor
        · rintro ⟨⟨⟨⟨⟨_, _⟩, h2⟩, h3⟩, h4⟩, h5⟩; exact ⟨h2.symm, h3.symm, h4.symm, h5.symm⟩
        · rintro ⟨h2, h3, h4, h5⟩; exact ⟨⟨⟨⟨⟨by decide, trivial⟩, h2.symm⟩, h3.symm⟩, h4.symm⟩, h5.symm⟩) h0
    · show (if (S.opF (k, n, S.next, a)).getD 0 = 0 then (fun x => if x = (k, n, S.next, a) then some ((((S.rows.filter t3).map (·.b)).length : Int) + 1) else S.opF x) else S.opF) = _
      have hI : ∀ p, (S.draw ⟨3, k, n, a, b, 0⟩).opI p = if S.opI p < 0 then (if p = (k, n, S.next, a) then ((S.rows.filter t3).length : Int) else -1) else S.opI p := by
        intro p
        unfold opI
        rw [filt_draw, if_pos rfl]
        have hone : ∀ (l : List Rw) (m : Int), 0 ≤ m → ∀ y : Rw, firstI (isOpen p.1 p.2.1 p.2.2.2 p.2.2.1) (l ++ [y]) m = if firstI (isOpen p.1 p.2.1 p.2.2.2 p.2.2.1) l m < 0 then (if isOpen p.1 p.2.1 p.2.2.2 p.2.2.1 y = true then m + l.length else -1) else firstI (isOpen p.1 p.2.1 p.2.2.2 p.2.2.1) l m := by
          intro l
          induction l with
          | nil => intro m hm y; simp [firstI]
          | cons z l ih =>
            intro m hm y
            simp only [List.cons_append, firstI]
            split
            · rw [if_neg (by omega)]
            · rw [ih (m + 1) (by omega) y]
              simp only [List.length_cons]
              split
              · split
                · push_cast; omega
                · rfl
              · rfl
        rw [hone _ 0 (by omega)]
        have e : (isOpen p.1 p.2.1 p.2.2.2 p.2.2.1 ⟨3, k, n, a, b, S.next⟩ = true) ↔ p = (k, n, S.next, a) := by
          obtain ⟨x1, x2, x3, x4⟩ := p
          simp only [isOpen, Bool.and_eq_true, decide_eq_true_eq, Prod.mk.injEq]
          constructor
          · rintro ⟨⟨⟨⟨_, h2⟩, h3⟩, h4⟩, h5⟩; exact ⟨h2.symm, h3.symm, h5.symm, h4.symm⟩
          · rintro ⟨h2, h3, h5, h4⟩; exact ⟨⟨⟨⟨trivial, h2.symm⟩, h3.symm⟩, h4.symm⟩, h5.symm⟩
        simp only [e, Int.zero_add]
      have hneg : ∀ p, S.opI p < 0 ∨ 0 ≤ S.opI p := fun p => by omega
      funext p
      unfold opF
      simp only [hI]
      have hlen : (((S.rows.filter t3).map (·.b)).length : Int) = ((S.rows.filter t3).length : Int) := by simp
      rw [hlen]
      by_cases hk : S.opI (k, n, S.next, a) < 0
      · simp only [hk, if_true, Option.getD_none]
        by_cases hp : p = (k, n, S.next, a)
        · subst hp; simp only [hk, if_true]; rw [if_neg (by omega)]
        · simp only [hp, if_false]
          by_cases h2 : S.opI p < 0
          · simp [h2]
          · simp [h2]
      · simp only [hk, if_false, Option.getD_some]
        rw [if_neg (by omega)]
        by_cases hp : p = (k, n, S.next, a)
        · subst hp; simp only [hk, if_false]
        · simp only [hp, if_false]
          by_cases h2 : S.opI p < 0
          · simp [h2]
          · simp [h2]
    · show (S.rows.filter t3).map (·.b) ++ [b] = ((S.draw ⟨3, k, n, a, b, 0⟩).rows.filter t3).map (·.b)
      rw [filt_draw, if_pos rfl]; simp
end Rf
/-- Call by call. -/
theorem act_of (S : Rf) (c : Ca) : S.of.act c = ((S.act c).1, (S.act c).2.1, (S.act c).2.2.1, (S.act c).2.2.2.of) := by
  unfold Orf.act Rf.act
  repeat' split
  all_goals first | rfl | (simp only [Rf.fresh_of, Rf.hash_of, Rf.mac_of, Rf.verify_of, Rf.seal_of, Rf.opens_of, Rf.meet_of, Rf.of_next]; done) | skip
theorem of_new (d : List Int) : (Rf.new d).of = Orf.new d := by
  unfold Rf.new Rf.of Orf.new
  congr 1
end Go.Proofs.Ytoljfmghcfdbpaa.X
