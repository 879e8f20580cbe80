/- Layer 24: what fits: turns, wider, reads, in plain Lean. -/
import Derived.Test.YtgeadlkaniggdaaHS10
set_option linter.unusedVariables false
set_option linter.unusedSimpArgs false
namespace Go.Proofs.Ytgeadlkaniggdaa.X
open Go Go.RowKit HM
namespace HM
theorem fits_iff {l : List Hop} : (ordS l).2 = true ↔ l.length ≤ 12 ∧ ∃ o : List Nat, rgt l o = true ∧ cpl l o = true ∧ o.Nodup ∧ ∀ i ∈ o, i < l.length := by
  by_cases h12 : 12 < l.length
  · rw [show ordS l = ([], false) from if_pos h12]
    constructor
    · intro h; cases h
    · intro h; omega
  · rw [← ordO_iff]
    cases hh : ordO l with
    | none => rw [ordS_no h12 hh]; simp
    | some r => rw [ordS_of h12 hh]; simp; omega
/-! ### wider -/
structure Wid (x y : Hop) : Prop where
  w : y.w = x.w
  tx : y.tx = x.tx
  fr : y.fr ≤ x.fr
  to : x.to ≤ y.to
  to0 : 0 ≤ y.to ↔ 0 ≤ x.to
  neg : x.to < 0 → y.to = x.to
theorem wider {l m : List Hop} (hl : m.length = l.length) (h : ∀ i (h1 : i < l.length) (h2 : i < m.length), Wid l[i] m[i]) (hf : (ordS l).2 = true) : (ordS m).2 = true := by
  obtain ⟨h12, o, h1, h2, h3, h4⟩ := fits_iff.1 hf
  have hw : ∀ i, wAt m i = wAt l i := by
    intro i
    by_cases hi : i < l.length
    · rw [wAt_eq hi, wAt_eq (by omega), (h i hi (by omega)).w]
    · unfold wAt; rw [List.getElem?_eq_none (by omega), List.getElem?_eq_none (by omega)]
  have hla : ∀ p, lastI m p = lastI l p := by intro p; unfold lastI; simp only [hw]
  have htx : ∀ la, txtI m la = txtI l la := by
    intro la
    unfold txtI
    split
    · rfl
    · by_cases hi : la.toNat < l.length
      · rw [List.getElem?_eq_getElem hi, List.getElem?_eq_getElem (by omega)]; exact (h _ hi (by omega)).tx
      · rw [List.getElem?_eq_none (by omega), List.getElem?_eq_none (by omega)]
  have hok : ∀ p i, i < l.length → rok m p i = rok l p i := by
    intro p i hi
    have hh := h i hi (by omega)
    rw [rok_eq hi, rok_eq (by omega), hla, htx, hh.w, hh.tx, decide_eq_decide.2 hh.to0]
  have hah : ∀ j i, ahI m j i = true → ahI l j i = true := by
    intro j i ha
    obtain ⟨e1, e2, _⟩ := ahI_lt ha
    rw [ahI_eq e1 e2] at ha
    rw [ahI_eq (by omega) (by omega)]
    have hj := h j (by omega) e1
    have hi := h i (by omega) e2
    unfold ahd at ha ⊢
    have := of_decide_eq_true ha
    have t0 := hj.to0; have t1 := hj.to; have f1 := hi.fr
    exact decide_eq_true ⟨by omega, by omega⟩
  refine fits_iff.2 ⟨by omega, o, rgt_iff.2 fun p hp => ?_, cpl_iff.2 fun i hi => ?_, h3, fun i hi => by rw [hl]; exact h4 i hi⟩
  · obtain ⟨k1, k2⟩ := rgt_iff.1 h1 p hp
    refine ⟨by rw [hok _ _ (h4 _ (List.getElem_mem hp))]; exact k1, fun k hk hpk => ?_⟩
    cases ha : ahI m o[k] o[p] with
    | false => rfl
    | true => have := k2 k hk hpk; rw [hah _ _ ha] at this; cases this
  · have hlt := ended_lt hi
    refine cpl_iff.1 h2 i ?_
    rw [ended_eq hlt] at hi
    rw [ended_eq (by omega)]
    exact decide_eq_true ((h i (by omega) hlt).to0.1 (of_decide_eq_true hi))
/-! ### reads -/
theorem lastI_reads {l : List Hop} (h : ∀ x ∈ l, x.w = false) (o : List Nat) : lastI l o = -1 := by
  suffices hh : ∀ r : List Nat, lastI l r.reverse = -1 by have := hh o.reverse; simpa using this
  intro r
  induction r with
  | nil => rfl
  | cons a r ih =>
    rw [List.reverse_cons, lastI_snoc, ih]
    have : wAt l a = false := by
      unfold wAt
      cases hx : l[a]? with
      | none => rfl
      | some x => exact h x (List.mem_of_getElem? hx)
    rw [this]; rfl
theorem reads_iff {l : List Hop} (h : ∀ x ∈ l, x.w = false) (h12 : l.length ≤ 12) : (ordS l).2 = true ↔ ∀ x ∈ l, x.to < 0 ∨ (x.tx = ⟨#[]⟩ ∧ x.fr ≤ x.to) := by
  have hw : ∀ i (hi : i < l.length), l[i].w = false := fun i hi => h _ (List.getElem_mem hi)
  have hok : ∀ p i (hi : i < l.length), rok l p i = (decide (0 ≤ l[i].to) && decide (l[i].tx = ⟨#[]⟩)) := by
    intro p i hi
    rw [rok_eq hi, hw i hi, lastI_reads h]; rfl
  constructor
  · intro hf x hx
    obtain ⟨_, o, h1, h2, h3, h4⟩ := fits_iff.1 hf
    obtain ⟨i, hi, rfl⟩ := List.mem_iff_getElem.1 hx
    by_cases ht : l[i].to < 0
    · exact .inl ht
    · have hio := cpl_iff.1 h2 i (by rw [ended_eq hi]; exact decide_eq_true (by omega))
      obtain ⟨p, hp, rfl⟩ := List.mem_iff_getElem.1 hio
      obtain ⟨k1, k2⟩ := rgt_iff.1 h1 p hp
      rw [hok _ _ hi] at k1
      have k3 := k2 p hp (Nat.le_refl _)
      rw [ahI_eq hi hi] at k3
      unfold ahd at k3
      have k3 := of_decide_eq_false k3
      simp only [Bool.and_eq_true, decide_eq_true_eq] at k1
      exact .inr ⟨k1.2, by omega⟩
  · intro hall
    let fr : Nat → Int := fun i => match l[i]? with
      | some x => x.fr
      | none => 0
    have hfr : ∀ i (hi : i < l.length), fr i = l[i].fr := fun i hi => by show (match l[i]? with | some x => x.fr | none => 0) = _; rw [List.getElem?_eq_getElem hi]
    let lf : Nat → Nat → Bool := fun a b => decide (fr a ≤ fr b)
    let o := (ends l l.length).mergeSort lf
    have hperm : o.Perm (ends l l.length) := List.mergeSort_perm _ _
    have hsort : o.Pairwise (fun a b => lf a b = true) := List.pairwise_mergeSort (le := lf) (fun a b c h1 h2 => decide_eq_true (Int.le_trans (of_decide_eq_true h1) (of_decide_eq_true h2))) (fun a b => by
      show (decide (fr a ≤ fr b) || decide (fr b ≤ fr a)) = true
      simp; omega) _
    have hmem : ∀ i, i ∈ o ↔ i < l.length ∧ ended l i = true := by
      intro i
      rw [hperm.mem_iff]
      unfold ends; simp
    have hin : ∀ p (hp : p < o.length), o[p] < l.length ∧ ended l o[p] = true := fun p hp => (hmem _).1 (List.getElem_mem hp)
    refine fits_iff.2 ⟨h12, o, rgt_iff.2 fun p hp => ?_, cpl_iff.2 fun i hi => (hmem i).2 ⟨ended_lt hi, hi⟩, ?_, fun i hi => ((hmem i).1 hi).1⟩
    · obtain ⟨b1, b2⟩ := hin p hp
      rw [ended_eq b1] at b2
      have b2 := of_decide_eq_true b2
      have hx := (hall _ (List.getElem_mem b1)).resolve_left (by omega)
      refine ⟨by rw [hok _ _ b1, decide_eq_true b2, decide_eq_true hx.1]; rfl, fun k hk hpk => ?_⟩
      obtain ⟨c1, c2⟩ := hin k hk
      rw [ended_eq c1] at c2
      have c2 := of_decide_eq_true c2
      have hy := (hall _ (List.getElem_mem c1)).resolve_left (by omega)
      rw [ahI_eq c1 b1]
      unfold ahd
      refine decide_eq_false ?_
      rintro ⟨_, d2⟩
      by_cases he : p = k
      · subst he; omega
      · have hle := List.pairwise_iff_getElem.1 hsort p k hp hk (by omega)
        have hle : fr o[p] ≤ fr o[k] := of_decide_eq_true hle
        rw [hfr _ b1, hfr _ c1] at hle
        omega
    · rw [hperm.nodup_iff]
      unfold ends
      exact List.Nodup.sublist List.filter_sublist List.nodup_range
/-! ### turns -/
def spr (n : Int) : Int := (n.tmod 5000 + 5000).tmod 5000
theorem tm_range (n : Int) : -5000 < n.tmod 5000 ∧ n.tmod 5000 < 5000 := ⟨Int.lt_tmod_of_pos n (by decide), Int.tmod_lt_of_pos n (by decide)⟩
theorem spr_range (n : Int) : 0 ≤ spr n ∧ spr n ≤ 4999 := by
  have h := tm_range n
  have h1 := Int.tmod_lt_of_pos (n.tmod 5000 + 5000) (b := 5000) (by decide)
  have h2 := Int.tmod_nonneg (a := n.tmod 5000 + 5000) 5000 (by omega)
  unfold spr; omega
end HM
structure Tu where
  w : Bool
  tx : ByteArray
  ea : Int
  la : Int
def Tu.enc (x : Tu) : AVal := .agg [.bool x.w, .str x.tx, .int .i64 x.ea, .int .i64 x.la]
namespace HM
def txT (l : List Tu) : Nat → ByteArray
  | 0 => ⟨#[]⟩
  | j + 1 => match l[j]? with
    | some x => if x.w then x.tx else txT l j
    | none => txT l j
def mkT (l : List Tu) (op : Int) (i : Nat) : Hop := match l[i]? with
  | some x => ⟨x.w, txT l (i + 1), 1000 * ((i : Int) + 1) - spr x.ea, if (i : Int) = op ∧ x.w = true then -1 else 1000 * ((i : Int) + 1) + spr x.la⟩
  | none => ⟨false, ⟨#[]⟩, 0, 0⟩
def hT (l : List Tu) (op : Int) (n : Nat) : List Hop := (List.range n).map (mkT l op)
theorem hT_succ (l : List Tu) (op : Int) (n : Nat) : hT l op (n + 1) = hT l op n ++ [mkT l op n] := by
  unfold hT; rw [List.range_succ, List.map_append]; rfl
theorem mkT_eq {l : List Tu} {op : Int} {i : Nat} (h : i < l.length) : mkT l op i = ⟨l[i].w, txT l (i + 1), 1000 * ((i : Int) + 1) - spr l[i].ea, if (i : Int) = op ∧ l[i].w = true then -1 else 1000 * ((i : Int) + 1) + spr l[i].la⟩ := by
  unfold mkT; rw [List.getElem?_eq_getElem h]
theorem txT_succ {l : List Tu} {i : Nat} (h : i < l.length) : txT l (i + 1) = if l[i].w then l[i].tx else txT l i := by
  rw [txT, List.getElem?_eq_getElem h]
theorem turns_fit {l : List Tu} (op : Int) (h : l.length ≤ 12) : (ordS (hT l op l.length)).2 = true := by
  have hlen : (hT l op l.length).length = l.length := by unfold hT; simp
  have hat : ∀ i (h1 : i < (hT l op l.length).length), (hT l op l.length)[i] = mkT l op i := fun i h1 => (List.getElem_map _).trans (by rw [List.getElem_range])
  have hlast : ∀ p, p ≤ l.length → txtI (hT l op l.length) (lastI (hT l op l.length) (List.range p)) = txT l p := by
    intro p
    induction p with
    | zero => intro _; rfl
    | succ p ih =>
      intro hp
      have hpl : p < l.length := by omega
      rw [List.range_succ, lastI_snoc, wAt_eq (by omega), hat, mkT_eq hpl, txT_succ hpl]
      by_cases hw : l[p].w = true
      · rw [if_pos hw, if_pos hw]
        rw [txtI, if_neg (by omega), Int.toNat_natCast, List.getElem?_eq_getElem (by omega)]
        simp only
        rw [hat, mkT_eq hpl]
        simp only
        rw [txT_succ hpl, if_pos hw]
      · rw [if_neg hw, if_neg hw]; exact ih (by omega)
  have hge : ∀ k, k < l.length → 0 ≤ (mkT l op k).to → 1000 * ((k : Int) + 1) ≤ (mkT l op k).to := by
    intro k hk h0
    have := spr_range l[k].la
    rw [mkT_eq hk] at h0 ⊢
    simp only at h0 ⊢
    split at h0
    · omega
    · rename_i hn; rw [if_neg hn]; omega
  refine fits_iff.2 ⟨by omega, List.range l.length, rgt_iff.2 fun p hp => ?_, cpl_iff.2 fun i hi => ?_, List.nodup_range, fun i hi => by rw [hlen]; simpa using hi⟩
  · have hpl : p < l.length := by simpa using hp
    rw [List.getElem_range]
    refine ⟨?_, fun k hk hpk => ?_⟩
    · rw [List.take_range, show min p l.length = p by omega, rok_eq (by omega), hlast p (by omega), hat, mkT_eq hpl]
      simp only
      cases hw : l[p].w with
      | true => rfl
      | false =>
        have := spr_range l[p].la
        rw [txT_succ hpl, hw]
        rw [if_neg (by simp)]
        simp; omega
    · have hkl : k < l.length := by simpa using hk
      rw [List.getElem_range, ahI_eq (by omega) (by omega), hat, hat]
      unfold ahd
      refine decide_eq_false ?_
      rintro ⟨a1, a2⟩
      have h1 := hge k hkl a1
      have h2 := spr_range l[p].ea
      rw [mkT_eq hpl] at a2
      simp only at a2
      omega
  · have := ended_lt hi
    rw [hlen] at this
    simpa using this
end HM
end Go.Proofs.Ytgeadlkaniggdaa.X
