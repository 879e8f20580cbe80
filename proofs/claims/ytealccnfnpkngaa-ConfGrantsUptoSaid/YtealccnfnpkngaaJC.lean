import Derived.Test.YtealccnfnpkngaaJB
/- The reference's oracle: bounds. -/
set_option linter.unusedVariables false
set_option linter.unusedSimpArgs false
set_option maxRecDepth 100000
namespace Go.Proofs.Ytealccnfnpkngaa.X
open Go Go.RowKit
variable {ν β ps pos' : Nm} {H : Heap} {Q : AVal → Heap → Prop} {L : List Asr} {q : Nm} {k : Nat} {S : Rf}
theorem of_ok (S : Rf) : S.of.ok := by
  refine ⟨fun h => ?_, fun p => ?_, ?_⟩
  · show 0 ≤ (S.issF h).getD 0 ∧ (S.issF h).getD 0 ≤ ((S.rows.length : Nat) : Int)
    unfold Rf.issF
    split
    · simp
    · simp only [Option.getD_some]
      have := List.countP_le_length (p := fun x : Rw => decide (x.h = h)) (l := S.rows)
      omega
  · show 0 ≤ (S.opF p).getD 0 ∧ (S.opF p).getD 0 ≤ (((S.rows.filter Rf.t3).map (·.b)).length : Int)
    unfold Rf.opF
    have := firstI_range (Rf.isOpen p.1 p.2.1 p.2.2.2 p.2.2.1) (S.rows.filter Rf.t3)
    rw [show firstI (Rf.isOpen p.1 p.2.1 p.2.2.2 p.2.2.1) (S.rows.filter Rf.t3) 0 = S.opI p from rfl] at this
    rw [List.length_map]
    split
    · simp
    · simp only [Option.getD_some]; omega
  · show ((S.rows.filter Rf.t3).map (·.b)).length ≤ S.rows.length
    rw [List.length_map]; exact List.length_filter_le _ _
theorem Rf.le.mono {N M : Nat} (h : S.le N) (hm : N ≤ M) : S.le M := ⟨Nat.le_trans h.rows hm, Nat.le_trans h.met hm, Nat.le_trans h.bads hm⟩
theorem Rf.draw_le {N : Nat} (h : S.le N) (x : Rw) : (S.draw x).le (N + 1) := by
  refine ⟨?_, Nat.le_succ_of_le h.met, ?_⟩
  · simp only [draw, List.length_append, List.length_singleton]; exact Nat.succ_le_succ h.rows
  · have := h.bads
    simp only [draw]; split <;> omega
theorem Rf.value_le {N : Nat} (h : S.le N) (x : Rw) : (S.value x).2.le (N + 1) := by
  unfold value; split
  · exact h.mono (Nat.le_succ _)
  · exact draw_le h x
theorem Rf.meet_le {N : Nat} (h : S.le N) (x : Int) : (S.meet x).le (N + 1) := by
  unfold meet; split
  · exact h.mono (Nat.le_succ _)
  · refine ⟨Nat.le_succ_of_le h.rows, ?_, Nat.le_succ_of_le h.bads⟩
    simp only [List.length_append, List.length_singleton]; exact Nat.succ_le_succ h.met
theorem Rf.verify_le {N : Nat} (h : S.le N) (k : Int) (a : ByteArray) (t : Int) : (S.verify k a t).2.le (N + 1) := by
  unfold verify; split
  · split
    · exact h.mono (Nat.le_succ _)
    · exact meet_le h t
  · exact meet_le h t
theorem Rf.opens_le {N : Nat} (h : S.le N) (k n : Int) (a : ByteArray) (t : Int) : (S.opens k n a t).2.le (N + 1) := by
  unfold opens; split
  · exact h.mono (Nat.le_succ _)
  · exact meet_le h t
theorem Rf.act_le {N : Nat} (h : S.le N) (c : Ca) : (S.act c).2.2.2.le (N + 1) := by
  unfold act
  repeat' split
  all_goals first | exact draw_le h _ | exact value_le h _ | exact verify_le h _ _ _ | exact opens_le h _ _ _ _ | exact meet_le h _ | exact h.mono (Nat.le_succ _)
theorem Rf.new_le (d : List Int) : (Rf.new d).le 0 := ⟨Nat.le_refl _, Nat.le_refl _, Nat.le_refl _⟩
end Go.Proofs.Ytealccnfnpkngaa.X
/- The reference's oracle: what holds where nothing bad happened. -/
set_option linter.unusedVariables false
set_option linter.unusedSimpArgs false
namespace Go.Proofs.Ytealccnfnpkngaa.X
open Go Go.RowKit
namespace Rf
variable {S : Rf}
structure Good (S : Rf) : Prop where
  nd : S.rows.Pairwise fun x y => x.h ≠ y.h
  nz : ∀ x ∈ S.rows, x.h ≠ 0
  mt : ∀ h ∈ S.met, S.issued h = false
structure Inv (S : Rf) : Prop where
  good : S.bads = 0 → S.Good
  uniq : S.rows.Pairwise fun x y => x.same y = false
theorem issued_iff {h : Int} : S.issued h = true ↔ ∃ x ∈ S.rows, x.h = h := by simp [issued]
theorem issued_draw (x : Rw) (h : Int) : (S.draw x).issued h = (S.issued h || decide (S.next = h)) := by simp [issued, draw]
theorem draw_bads (x : Rw) : S.bads ≤ (S.draw x).bads := by simp [draw]
theorem draw_inv (hi : S.Inv) (x : Rw) (hx : ∀ y ∈ S.rows, y.same ⟨x.t, x.k, x.n, x.a, x.b, S.next⟩ = false) : (S.draw x).Inv := by
  refine ⟨fun hb => ?_, ?_⟩
  · have h0 : S.bads = 0 ∧ S.isBad S.next = false := by
      simp only [draw] at hb
      cases h : S.isBad S.next with
      | true => rw [h] at hb; simp at hb
      | false => rw [h] at hb; simp at hb; exact ⟨hb, rfl⟩
    have hg := hi.good h0.1
    have hn := h0.2
    simp only [isBad, Bool.or_eq_false_iff, decide_eq_false_iff_not] at hn
    obtain ⟨⟨n0, ni⟩, ns⟩ := hn
    refine ⟨?_, ?_, ?_⟩
    · simp only [draw]
      rw [List.pairwise_append]
      refine ⟨hg.nd, by simp, fun a ha b hb' => ?_⟩
      simp only [List.mem_singleton] at hb'
      subst hb'
      intro he
      have : S.issued S.next = true := issued_iff.2 ⟨a, ha, he⟩
      rw [ni] at this; cases this
    · intro y hy
      simp only [draw, List.mem_append, List.mem_singleton] at hy
      rcases hy with hy | hy
      · exact hg.nz y hy
      · subst hy; exact n0
    · intro h hh
      have hh : h ∈ S.met := hh
      rw [issued_draw, hg.mt h hh, Bool.false_or, decide_eq_false_iff_not]
      intro he
      simp only [shown, List.any_eq_false, decide_eq_true_eq] at ns
      exact ns h hh he.symm
  · simp only [draw]
    rw [List.pairwise_append]
    refine ⟨hi.uniq, by simp, fun a ha b hb' => ?_⟩
    simp only [List.mem_singleton] at hb'
    subst hb'
    exact hx a ha
theorem same_symm {x y : Rw} (h : x.same y = false) {v : Int} (ht : x.t ≠ 0 ∨ x.t = 0) : y.same ⟨x.t, x.k, x.n, x.a, x.b, v⟩ = false := by
  cases hb : y.same ⟨x.t, x.k, x.n, x.a, x.b, v⟩ with
  | false => rfl
  | true =>
    simp only [Rw.same, Bool.and_eq_true, decide_eq_true_eq, ne_eq] at hb
    obtain ⟨⟨⟨⟨⟨h0, h1⟩, h2⟩, h3⟩, h4⟩, h5⟩ := hb
    have : x.same y = true := by
      simp only [Rw.same, Bool.and_eq_true, decide_eq_true_eq, ne_eq]
      exact ⟨⟨⟨⟨⟨by rw [h1]; exact h0, h1.symm⟩, h2.symm⟩, h3.symm⟩, h4.symm⟩, h5.symm⟩
    rw [h] at this; cases this
theorem value_inv (hi : S.Inv) (x : Rw) : (S.value x).2.Inv := by
  unfold value
  split
  · exact hi
  · rename_i h
    rw [List.find?_eq_none] at h
    exact draw_inv hi x fun y hy => same_symm (by have := h y hy; simpa using this) (Decidable.em _ |>.symm)
theorem fresh_inv (hi : S.Inv) : S.fresh.Inv := draw_inv hi _ fun y hy => by
  cases hb : y.same ⟨0, 0, 0, ⟨#[]⟩, ⟨#[]⟩, S.next⟩ with
  | false => rfl
  | true =>
    simp only [Rw.same, Bool.and_eq_true, decide_eq_true_eq, ne_eq] at hb
    obtain ⟨⟨⟨⟨⟨h0, h1⟩, _⟩, _⟩, _⟩, _⟩ := hb
    exact absurd h1.symm h0
theorem meet_inv (hi : S.Inv) (h : Int) : (S.meet h).Inv := by
  unfold meet
  split
  · exact hi
  · rename_i hn
    refine ⟨fun hb => ?_, hi.uniq⟩
    have hg := hi.good hb
    refine ⟨hg.nd, hg.nz, fun g hg' => ?_⟩
    simp only [List.mem_append, List.mem_singleton] at hg'
    rcases hg' with hg' | rfl
    · exact hg.mt g hg'
    · show S.issued g = false
      simpa using hn
theorem verify_inv (hi : S.Inv) (k : Int) (a : ByteArray) (t : Int) : (S.verify k a t).2.Inv := by
  unfold verify; split
  · split
    · exact hi
    · exact meet_inv hi t
  · exact meet_inv hi t
theorem opens_inv (hi : S.Inv) (k n : Int) (a : ByteArray) (t : Int) : (S.opens k n a t).2.Inv := by
  unfold opens; split
  · exact hi
  · exact meet_inv hi t
theorem act_inv (hi : S.Inv) (c : Ca) : (S.act c).2.2.2.Inv := by
  unfold act
  repeat' split
  all_goals first | exact fresh_inv hi | exact value_inv hi _ | exact verify_inv hi _ _ _ | exact opens_inv hi _ _ _ _ | exact meet_inv hi _ | exact hi
theorem new_inv (d : List Int) : (Rf.new d).Inv := ⟨fun _ => ⟨List.Pairwise.nil, by simp [Rf.new], by simp [Rf.new]⟩, List.Pairwise.nil⟩
/-- An oracle behind calls. -/
def run (S : Rf) : List Ca → Rf
  | [] => S
  | c :: l => (S.act c).2.2.2.run l
theorem run_snoc : ∀ (l : List Ca) (S : Rf) (c : Ca), S.run (l ++ [c]) = ((S.run l).act c).2.2.2
  | [], _, _ => rfl
  | b :: l, S, c => run_snoc l _ c
theorem run_inv : ∀ (l : List Ca) {S : Rf}, S.Inv → (S.run l).Inv
  | [], _, h => h
  | c :: l, _, h => run_inv l (act_inv h c)
theorem run_le : ∀ (l : List Ca) {S : Rf} {N : Nat}, S.le N → (S.run l).le (N + l.length)
  | [], _, _, h => h
  | c :: l, _, N, h => by have := run_le l (act_le h c); simp only [List.length_cons]; exact this.mono (by omega)
theorem meet_old {h : Int} (hi : S.issued h = true) : S.meet h = S := by simp [meet, hi]
end Rf
end Go.Proofs.Ytealccnfnpkngaa.X
/- The program's oracle, told by the reference's state. -/
set_option linter.unusedVariables false
set_option linter.unusedSimpArgs false
set_option maxRecDepth 100000
namespace Go.Proofs.Ytealccnfnpkngaa.X
open Go Go.RowKit
variable {ν β ps pos' : Nm} {H : Heap} {Q : AVal → Heap → Prop} {L : List Asr} {q : Nm} {k : Nat} {S : Rf}
section
variable (hS : Own β ps H L) (hL : L[k]? = some (orc q S.of)) (hle : le ps ν) (hβ : under β ν = true) (hp : before ν pos')
include hS hL hle hβ hp
theorem oFresh (hn : S.rows.length ≤ 4294967000) (hq : ∀ H1, Own β pos' H1 (L.set k (orc q S.fresh.of)) → Q (.int .u64 S.next) H1) : CW cfg ν 88 [.ptr q 0 0] H Q :=
  iFresh hS hL hle hβ hp (of_ok S) hn fun H1 h1 => hq H1 (by rw [Rf.fresh_of] at h1; exact h1)
theorem oMac (hn : S.rows.length ≤ 4294967000) (kk : Int) (a : ByteArray) (hq : ∀ H1, Own β pos' H1 (L.set k (orc q (S.mac kk a).2.of)) → Q (.int .u64 (S.mac kk a).1) H1) : CW cfg ν 76 [.ptr q 0 0, .int .u64 kk, .str a] H Q :=
  iMac hS hL hle hβ hp (of_ok S) hn kk a fun H1 h1 => by rw [Rf.mac_of] at h1 ⊢; exact hq H1 h1
theorem oVerify (kk : Int) (a : ByteArray) (t : Int) (hq : ∀ H1, Own β pos' H1 (L.set k (orc q (S.verify kk a t).2.of)) → Q (.bool (S.verify kk a t).1) H1) : CW cfg ν 46 [.ptr q 0 0, .int .u64 kk, .str a, .int .u64 t] H Q :=
  iVerify hS hL hle hβ hp kk a t fun H1 h1 => by rw [Rf.verify_of] at h1 ⊢; exact hq H1 h1
theorem oMeet (h : Int) (hq : ∀ H1, Own β pos' H1 (L.set k (orc q (S.meet h).of)) → Q (.tup []) H1) : CW cfg ν 79 [.ptr q 0 0, .int .u64 h] H Q :=
  iMeet hS hL hle hβ hp h fun H1 h1 => by rw [Rf.meet_of] at h1; exact hq H1 h1
theorem oDrawn (hq : ∀ H1, Own β pos' H1 L → Q (.int .i64 S.rows.length) H1) : CW cfg ν 19 [.ptr q 0 0] H Q := iDrawn hS hL hle hβ hp hq
end
theorem oNew (hS : Own β ps H L) (hle : le ps ν) (hβ : under β ν = true) (hp : before ν pos') {v : AVal} {d : List Int} (hv : Ls v (d.map Int.enc)) (hd : d.length ≤ 4294967000)
    (hq : ∀ q H1, Own β pos' H1 (orc q (Rf.new d).of :: L) → Q (.ptr q 0 0) H1) : CW cfg ν 15 [v] H Q :=
  iNew hS hle hβ hp hv hd fun q H1 h1 => hq q H1 (by rw [of_new]; exact h1)
theorem oNewO {v : AVal} {d : List Int} {k : Nat} (hS : Own β ps H L) (hL : L[k]? = some (sl v 1 (d.map Int.enc))) (hle : le ps ν) (hβ : under β ν = true) (hp : before ν pos') (hd : d.length ≤ 4294967000)
    (hq : ∀ q H1, Own β pos' H1 (orc q (Rf.new d).of :: L) → Q (.ptr q 0 0) H1) : CW cfg ν 15 [v] H Q :=
  iNewO hS hL hle hβ hp hd fun q H1 h1 => hq q H1 (by rw [of_new]; exact h1)
namespace Rf
theorem fresh_len : S.fresh.rows.length = S.rows.length + 1 := by simp [fresh, draw]
theorem fresh_bads : S.bads ≤ S.fresh.bads := draw_bads _
theorem meet_bads (h : Int) : (S.meet h).bads = S.bads := by unfold meet; split <;> rfl
theorem meet_next (h : Int) : (S.meet h).next = S.next := by unfold meet; split <;> rfl
theorem shown_bad : 0 < (S.meet S.next).fresh.bads := by
  unfold fresh draw
  rw [meet_next]
  have : (S.meet S.next).isBad S.next = true := by
    unfold isBad meet
    cases h : S.issued S.next with
    | true => simp [h]
    | false => simp [shown]
  simp [this]
theorem meet_fresh : S.fresh.meet S.next = S.fresh := meet_old (by simp [fresh, issued_draw])
end Rf
end Go.Proofs.Ytealccnfnpkngaa.X
/- What values an oracle gives, where nothing bad happened; contracts with the states named. -/
set_option linter.unusedVariables false
set_option linter.unusedSimpArgs false
set_option maxRecDepth 100000
namespace Go.Proofs.Ytealccnfnpkngaa.X
open Go Go.RowKit
variable {ν β ps pos' : Nm} {H : Heap} {Q : AVal → Heap → Prop} {L : List Asr} {q : Nm} {k : Nat} {S T : Rf}
namespace Rf
theorem pair_once {α : Type} {r : α → α → Prop} : ∀ {l : List α} {x y : α}, l.Pairwise r → x ∈ l → y ∈ l → ¬ r x y → ¬ r y x → x = y
  | [], _, _, _, h, _, _, _ => by simp at h
  | a :: l, x, y, hp, hx, hy, h1, h2 => by
    rw [List.pairwise_cons] at hp
    rcases List.mem_cons.1 hx with ex | hx'
    · rcases List.mem_cons.1 hy with ey | hy'
      · rw [ex, ey]
      · subst ex; exact absurd (hp.1 y hy') h1
    · rcases List.mem_cons.1 hy with ey | hy'
      · subst ey; exact absurd (hp.1 x hx') h2
      · exact pair_once hp.2 hx' hy' h1 h2
/-- One value, one row. -/
theorem Good.one (hg : S.Good) {x y : Rw} (hx : x ∈ S.rows) (hy : y ∈ S.rows) (h : x.h = y.h) : x = y := pair_once hg.nd hx hy (fun e => e h) (fun e => e h.symm)
theorem same_iff {x y : Rw} : x.same y = true ↔ x.t ≠ 0 ∧ y.t = x.t ∧ y.k = x.k ∧ y.n = x.n ∧ y.a = x.a ∧ y.b = x.b := by
  simp only [Rw.same, Bool.and_eq_true, decide_eq_true_eq]
  constructor
  · rintro ⟨⟨⟨⟨⟨a, b⟩, c⟩, d⟩, e⟩, f⟩; exact ⟨a, b, c, d, e, f⟩
  · rintro ⟨a, b, c, d, e, f⟩; exact ⟨⟨⟨⟨⟨a, b⟩, c⟩, d⟩, e⟩, f⟩
/-- What is asked for has one row. -/
theorem Inv.key (hi : S.Inv) {x y z : Rw} (hy : y ∈ S.rows) (hz : z ∈ S.rows) (h1 : x.same y = true) (h2 : x.same z = true) : y = z := by
  rw [same_iff] at h1 h2
  have e1 : y.same z = true := same_iff.2 ⟨by rw [h1.2.1]; exact h1.1, by rw [h2.2.1, h1.2.1], by rw [h2.2.2.1, h1.2.2.1], by rw [h2.2.2.2.1, h1.2.2.2.1], by rw [h2.2.2.2.2.1, h1.2.2.2.2.1], by rw [h2.2.2.2.2.2, h1.2.2.2.2.2]⟩
  have e2 : z.same y = true := same_iff.2 ⟨by rw [h2.2.1]; exact h2.1, by rw [h2.2.1, h1.2.1], by rw [h2.2.2.1, h1.2.2.1], by rw [h2.2.2.2.1, h1.2.2.2.1], by rw [h2.2.2.2.2.1, h1.2.2.2.2.1], by rw [h2.2.2.2.2.2, h1.2.2.2.2.2]⟩
  exact pair_once hi.uniq hy hz (fun e => by rw [e1] at e; cases e) (fun e => by rw [e2] at e; cases e)
theorem Inv.find (hi : S.Inv) {x y : Rw} (hy : y ∈ S.rows) (h : x.same y = true) : S.rows.find? (fun z => x.same z) = some y := by
  cases hf : S.rows.find? (fun z => x.same z) with
  | none => rw [List.find?_eq_none] at hf; exact absurd h (hf y hy)
  | some z => rw [hi.key (List.mem_of_find?_eq_some hf) hy (List.find?_some hf) h]
/-- What is asked again. -/
theorem Inv.again (hi : S.Inv) {x y : Rw} (hy : y ∈ S.rows) (h : x.same y = true) : S.value x = (y.h, S) := by unfold value; rw [hi.find hy h]
/-- More rows, in their order, and more that is bad. -/
structure Up (S T : Rf) : Prop where
  inv : S.Inv → T.Inv
  sub : ∀ x ∈ S.rows, x ∈ T.rows
  bads : S.bads ≤ T.bads
  len : S.rows.length ≤ T.rows.length
  draws : T.draws = S.draws
theorem Up.trans {U : Rf} (h : S.Up T) (h2 : T.Up U) : S.Up U := ⟨fun i => h2.inv (h.inv i), fun x hx => h2.sub x (h.sub x hx), Nat.le_trans h.bads h2.bads, Nat.le_trans h.len h2.len, h2.draws.trans h.draws⟩
theorem Up.refl : S.Up S := ⟨id, fun _ h => h, Nat.le_refl _, Nat.le_refl _, rfl⟩
theorem value_up (x : Rw) : S.Up (S.value x).2 := by
  refine ⟨fun i => value_inv i x, ?_, ?_, ?_, ?_⟩ <;> unfold value <;> split
  · exact fun _ h => h
  · intro y hy; simp [draw, hy]
  · exact Nat.le_refl _
  · exact draw_bads _
  · exact Nat.le_refl _
  · simp [draw]
  · rfl
  · rfl
theorem fresh_up : S.Up S.fresh := ⟨fun i => fresh_inv i, fun y hy => by simp [fresh, draw, hy], draw_bads _, by simp [fresh, draw], rfl⟩
theorem meet_up (h : Int) : S.Up (S.meet h) := by
  refine ⟨fun i => meet_inv i h, ?_, ?_, ?_, ?_⟩ <;> unfold meet <;> split <;> first | rfl | exact Nat.le_refl _ | exact fun _ h => h
theorem verify_up (k : Int) (a : ByteArray) (t : Int) : S.Up (S.verify k a t).2 := by
  unfold verify; split
  · split
    · exact Up.refl
    · exact meet_up t
  · exact meet_up t
theorem opens_up (k n : Int) (a : ByteArray) (c : Int) : S.Up (S.opens k n a c).2 := by
  unfold opens; split
  · exact Up.refl
  · exact meet_up c
theorem act_up (c : Ca) : S.Up (S.act c).2.2.2 := by
  unfold act
  repeat' split
  all_goals first | exact fresh_up | exact value_up _ | exact verify_up _ _ _ | exact opens_up _ _ _ _ | exact meet_up _ | exact Up.refl
theorem run_up : ∀ (l : List Ca) {S : Rf}, S.Up (S.run l)
  | [], _ => Up.refl
  | c :: l, _ => (act_up c).trans (run_up l)
theorem value_rows (x : Rw) : (S.value x).2.rows.length ≤ S.rows.length + 1 := by unfold value; split <;> simp [draw]
theorem meet_rows (h : Int) : (S.meet h).rows = S.rows := by unfold meet; split <;> rfl
theorem verify_rows (k : Int) (a : ByteArray) (t : Int) : (S.verify k a t).2.rows = S.rows := by
  unfold verify; split
  · split
    · rfl
    · exact meet_rows t
  · exact meet_rows t
theorem opens_rows (k n : Int) (a : ByteArray) (c : Int) : (S.opens k n a c).2.rows = S.rows := by
  unfold opens; split
  · rfl
  · exact meet_rows c
theorem verify_bads (k : Int) (a : ByteArray) (t : Int) : (S.verify k a t).2.bads = S.bads := by
  unfold verify; split
  · split
    · rfl
    · exact meet_bads t
  · exact meet_bads t
theorem opens_bads (k n : Int) (a : ByteArray) (c : Int) : (S.opens k n a c).2.bads = S.bads := by
  unfold opens; split
  · rfl
  · exact meet_bads c
/-- The row of what was asked for. -/
theorem value_row {x : Rw} {v : Int} (h : S.value x = (v, T)) (ht : x.t ≠ 0) : ⟨x.t, x.k, x.n, x.a, x.b, v⟩ ∈ T.rows := by
  unfold value at h
  split at h
  · rename_i y hf
    obtain ⟨rfl, rfl⟩ := Prod.mk.inj h
    have h1 := same_iff.1 (List.find?_some hf)
    have h2 := List.mem_of_find?_eq_some hf
    obtain ⟨_, e1, e2, e3, e4, e5⟩ := h1
    obtain ⟨yt, yk, yn, ya, yb, yh⟩ := y
    dsimp only at e1 e2 e3 e4 e5 ⊢
    subst e1; subst e2; subst e3; subst e4; subst e5
    exact h2
  · obtain ⟨rfl, rfl⟩ := Prod.mk.inj h
    simp [draw]
theorem fresh_row : ⟨0, 0, 0, ⟨#[]⟩, ⟨#[]⟩, S.next⟩ ∈ S.fresh.rows := by simp [fresh, draw]
theorem hash_row {a : ByteArray} {v : Int} (h : S.hash a = (v, T)) : ⟨1, 0, 0, a, ⟨#[]⟩, v⟩ ∈ T.rows := value_row (x := ⟨1, 0, 0, a, ⟨#[]⟩, 0⟩) h (by show (1 : Int) ≠ 0; decide)
theorem mac_row {kk : Int} {a : ByteArray} {v : Int} (h : S.mac kk a = (v, T)) : ⟨2, kk, 0, a, ⟨#[]⟩, v⟩ ∈ T.rows := value_row (x := ⟨2, kk, 0, a, ⟨#[]⟩, 0⟩) h (by show (2 : Int) ≠ 0; decide)
theorem seal_row {kk n : Int} {a b : ByteArray} {v : Int} (h : S.sealv kk n a b = (v, T)) : ⟨3, kk, n, a, b, v⟩ ∈ T.rows := value_row (x := ⟨3, kk, n, a, b, 0⟩) h (by show (3 : Int) ≠ 0; decide)
theorem Inv.hashA (hi : S.Inv) {a : ByteArray} {v : Int} (h : ⟨1, 0, 0, a, ⟨#[]⟩, v⟩ ∈ S.rows) : S.hash a = (v, S) := hi.again h (same_iff.2 ⟨by show (1 : Int) ≠ 0; decide, rfl, rfl, rfl, rfl, rfl⟩)
theorem Inv.macA (hi : S.Inv) {kk : Int} {a : ByteArray} {v : Int} (h : ⟨2, kk, 0, a, ⟨#[]⟩, v⟩ ∈ S.rows) : S.mac kk a = (v, S) := hi.again h (same_iff.2 ⟨by show (2 : Int) ≠ 0; decide, rfl, rfl, rfl, rfl, rfl⟩)
theorem Inv.sealA (hi : S.Inv) {kk n : Int} {a b : ByteArray} {v : Int} (h : ⟨3, kk, n, a, b, v⟩ ∈ S.rows) : S.sealv kk n a b = (v, S) := hi.again h (same_iff.2 ⟨by show (3 : Int) ≠ 0; decide, rfl, rfl, rfl, rfl, rfl⟩)
theorem Inv.verA (hi : S.Inv) {kk : Int} {a : ByteArray} {v : Int} (h : ⟨2, kk, 0, a, ⟨#[]⟩, v⟩ ∈ S.rows) (t : Int) : S.verify kk a t = if v = t then (true, S) else (false, S.meet t) := by
  unfold verify
  rw [hi.find (x := ⟨2, kk, 0, a, ⟨#[]⟩, 0⟩) h (same_iff.2 ⟨by show (2 : Int) ≠ 0; decide, rfl, rfl, rfl, rfl, rfl⟩)]
/-- What is opened by a value that was drawn for something. -/
theorem Good.openA (hg : S.Good) {x : Rw} (hx : x ∈ S.rows) (kk n : Int) (a : ByteArray) : S.opens kk n a x.h = if x.t = 3 ∧ x.k = kk ∧ x.n = n ∧ x.a = a then ((x.b, true), S) else ((⟨#[]⟩, false), S) := by
  unfold opens
  cases hf : S.rows.find? (isOpen kk n a x.h) with
  | none =>
    rw [List.find?_eq_none] at hf
    have h1 := hf x hx
    rw [if_neg (fun e => h1 (by simp [isOpen, e]))]
    rw [meet_old (issued_iff.2 ⟨x, hx, rfl⟩)]
  | some y =>
    have h1 := List.find?_some hf
    have h2 := List.mem_of_find?_eq_some hf
    simp only [isOpen, Bool.and_eq_true, decide_eq_true_eq] at h1
    obtain ⟨⟨⟨⟨h3, h4⟩, h5⟩, h6⟩, h7⟩ := h1
    have := hg.one h2 hx h7
    subst this
    rw [if_pos ⟨h3, h4, h5, h6⟩]
theorem pair_eta {α β : Type} (p : α × β) : p = (p.1, p.2) := rfl
end Rf
/-! ### Contracts with the states named -/
section
variable (hS : Own β ps H L) (hL : L[k]? = some (orc q S.of)) (hle : le ps ν) (hβ : under β ν = true) (hp : before ν pos')
include hS hL hle hβ hp
theorem pFresh (hn : S.rows.length ≤ 4294967000) (hq : ∀ H1 T v, v = S.next → T = S.fresh → T.rows.length = S.rows.length + 1 → S.Up T → Own β pos' H1 (L.set k (orc q T.of)) → Q (.int .u64 v) H1) : CW cfg ν 88 [.ptr q 0 0] H Q :=
  oFresh hS hL hle hβ hp hn fun H1 h1 => hq H1 _ _ rfl rfl Rf.fresh_len Rf.fresh_up h1
theorem pMac (hn : S.rows.length ≤ 4294967000) (kk : Int) (a : ByteArray) (hq : ∀ H1 T v, S.mac kk a = (v, T) → T.rows.length ≤ S.rows.length + 1 → S.Up T → Own β pos' H1 (L.set k (orc q T.of)) → Q (.int .u64 v) H1) : CW cfg ν 76 [.ptr q 0 0, .int .u64 kk, .str a] H Q :=
  oMac hS hL hle hβ hp hn kk a fun H1 h1 => hq H1 _ _ rfl (Rf.value_rows _) (Rf.value_up _) h1
theorem pVerify (kk : Int) (a : ByteArray) (t : Int) (hq : ∀ H1 T b, S.verify kk a t = (b, T) → T.rows = S.rows → T.bads = S.bads → S.Up T → Own β pos' H1 (L.set k (orc q T.of)) → Q (.bool b) H1) : CW cfg ν 46 [.ptr q 0 0, .int .u64 kk, .str a, .int .u64 t] H Q :=
  oVerify hS hL hle hβ hp kk a t fun H1 h1 => hq H1 _ _ rfl (Rf.verify_rows _ _ _) (Rf.verify_bads _ _ _) (Rf.verify_up _ _ _) h1
end
theorem neU {T : TT} {t : TypeId} {a b : Int} (h : a ≠ b) : aBin T .neq t (.int .u64 a) (.int .u64 b) = some (.bool true) := by simp [aBin, aIntB, aInt, h]
theorem eqU {T : TT} {t : TypeId} {a b : Int} (h : a = b) : aBin T .eql t (.int .u64 a) (.int .u64 b) = some (.bool true) := by simp [aBin, aIntB, aInt, h]
end Go.Proofs.Ytealccnfnpkngaa.X
