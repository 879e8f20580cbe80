/- Layer 24: Ahead, text, next. -/
import Derived.Test.YtgeadlkaniggdaaHS2
set_option linter.unusedVariables false
set_option linter.unusedSimpArgs false
set_option maxRecDepth 100000
namespace Go.Proofs.Ytgeadlkaniggdaa.X
open Go Go.RowKit HM
variable {ν β ps pos' : Nm} {H : Heap} {Q : AVal → Heap → Prop} {L : List Asr} {k : Nat}
theorem rest_self : rest ν H H = H := by funext p; unfold rest; split <;> rfl
theorem ahead_c {a b : Hop} (hq : Q (.bool (ahd a b)) H) : CW cfg ν 11 [a.enc, b.enc] H Q := by
  obtain ⟨w, tx, fr, to⟩ := a
  obtain ⟨w', tx', fr', to'⟩ := b
  rw [Hop.enc, Hop.enc]
  refine CW_pure g11 F11 rfl ?_
  have hS0 : Own ν ν (fun _ => none) [] := Own.nil
  refine XW_sr ?_
  refine OW_boxR hS0 (le_app (p := ν) (b := [0, 0])) (under_app [0, 0] under_me) rfl rfl rfl ⟨rfl, rfl⟩ fun H1 hS1 => ?_
  replace hS1 : Own _ _ _ ([_]) := hS1
  refine OW_boxR hS1 le_refl (under_app [1, 0] under_me) rfl rfl rfl ⟨rfl, rfl⟩ fun H2 hS2 => ?_
  replace hS2 : Own _ _ _ ([_, _]) := hS2
  refine OW_as rfl rfl ?_
  refine OW_nilE (e' := [_, _, _, _, _, _, _, _, _, _, _, _, _, _, _]) rfl ?_
  refine XW_sr ?_
  refine OW_fa rfl rfl rfl ?_
  refine OW_loadR hS2 (k := 1) rfl rfl rfl rfl rfl (by first | exact part_whole rfl rfl rfl | rfl) ?_
  refine OW_bin rfl rfl rfl rfl rfl ?_
  refine OW_env (e' := [_, _, _, _, _, _, _, _, _, _, _, _, _, _, _]) rfl ?_
  refine OW_mv rfl rfl ?_
  refine OW_split (tt := 8) rfl (fun g1_4 => ?_) (fun g1_4 => ?_)
  · try simp only [decide_eq_true_eq, decide_eq_false_iff_not, Bool.not_eq_true', Bool.not_eq_false', Bool.and_eq_true, Bool.or_eq_true, Bool.not_eq_true, Bool.not_eq_false, Decidable.not_not, bne_iff_ne, beq_iff_eq, List.length_append, List.length_cons, List.length_nil, List.length_drop, List.length_take] at g1_4
    refine OW_fa rfl rfl rfl ?_
    refine OW_env (e' := [_, _, _, _, _, _, _, _, _, _, _, _, _, _, _]) rfl ?_
    refine OW_loadR hS2 (k := 1) rfl rfl rfl rfl rfl (by first | exact part_whole rfl rfl rfl | rfl) ?_
    refine OW_fa rfl rfl rfl ?_
    refine OW_loadR hS2 (k := 0) rfl rfl rfl rfl rfl (by first | exact part_whole rfl rfl rfl | rfl) ?_
    refine OW_env (e' := [_, _, _, _, _, _, _, _, _, _, _, _, _, _, _]) rfl ?_
    refine OW_bin rfl rfl rfl rfl rfl ?_
    refine OW_pick rfl rfl rfl ?_
    refine OW_as rfl rfl ?_
    refine OW_nilE (e' := [_, _, _, _, _, _, _, _, _, _, _, _, _, _, _]) rfl ?_
    refine XW_ret ?_
    -- outcome 1
    refine ret_ret (res1 rfl (rv_tmp rfl)) (frz1 (Q := Q) (by first | exact freeze_plain rfl | exact Ls.freeze (by assumption) | exact Ls.freeze Ls.of | exact Ls.freeze Ls.emp | exact Ls.freeze Ls.nls) ?_)
    first | (rw [show ahd ⟨w, tx, fr, to⟩ ⟨w', tx', fr', to'⟩ = decide (to < fr') by unfold ahd; simp only; rw [decide_eq_decide]; omega] at hq; exact hq) | (rw [show ahd ⟨w, tx, fr, to⟩ ⟨w', tx', fr', to'⟩ = false by unfold ahd; rw [decide_eq_false_iff_not]; simp only; omega] at hq; exact hq)
  · try simp only [decide_eq_true_eq, decide_eq_false_iff_not, Bool.not_eq_true', Bool.not_eq_false', Bool.and_eq_true, Bool.or_eq_true, Bool.not_eq_true, Bool.not_eq_false, Decidable.not_not, bne_iff_ne, beq_iff_eq, List.length_append, List.length_cons, List.length_nil, List.length_drop, List.length_take] at g1_4
    refine OW_no rfl ?_
    refine OW_env (e' := [_, _, _, _, _, _, _, _, _, _, _, _, _, _, _]) rfl ?_
    refine OW_no rfl ?_
    refine OW_no rfl ?_
    refine OW_no rfl ?_
    refine OW_env (e' := [_, _, _, _, _, _, _, _, _, _, _, _, _, _, _]) rfl ?_
    refine OW_no rfl ?_
    refine OW_pick rfl rfl rfl ?_
    refine OW_as rfl rfl ?_
    refine OW_nilE (e' := [_, _, _, _, _, _, _, _, _, _, _, _, _, _, _]) rfl ?_
    refine XW_ret ?_
    -- outcome 2
    refine ret_ret (res1 rfl (rv_tmp rfl)) (frz1 (Q := Q) (by first | exact freeze_plain rfl | exact Ls.freeze (by assumption) | exact Ls.freeze Ls.of | exact Ls.freeze Ls.emp | exact Ls.freeze Ls.nls) ?_)
    first | (rw [show ahd ⟨w, tx, fr, to⟩ ⟨w', tx', fr', to'⟩ = decide (to < fr') by unfold ahd; simp only; rw [decide_eq_decide]; omega] at hq; exact hq) | (rw [show ahd ⟨w, tx, fr, to⟩ ⟨w', tx', fr', to'⟩ = false by unfold ahd; rw [decide_eq_false_iff_not]; simp only; omega] at hq; exact hq)
theorem rahead_c {a b : Hop} (hq : Q (.bool (ahd a b)) H) : CW cfg ν 12 [a.enc, b.enc] H Q := by
  obtain ⟨w, tx, fr, to⟩ := a
  obtain ⟨w', tx', fr', to'⟩ := b
  rw [Hop.enc, Hop.enc]
  refine CW_pure g12 F12 rfl ?_
  have hS0 : Own ν ν (fun _ => none) [] := Own.nil
  refine XW_sr ?_
  refine OW_boxR hS0 (le_app (p := ν) (b := [0, 0])) (under_app [0, 0] under_me) rfl rfl rfl ⟨rfl, rfl⟩ fun H1 hS1 => ?_
  replace hS1 : Own _ _ _ ([_]) := hS1
  refine OW_boxR hS1 le_refl (under_app [1, 0] under_me) rfl rfl rfl ⟨rfl, rfl⟩ fun H2 hS2 => ?_
  replace hS2 : Own _ _ _ ([_, _]) := hS2
  refine OW_as rfl rfl ?_
  refine OW_nilE (e' := [_, _, _, _, _, _, _, _, _, _, _, _, _, _, _]) rfl ?_
  refine XW_sr ?_
  refine OW_fa rfl rfl rfl ?_
  refine OW_loadR hS2 (k := 1) rfl rfl rfl rfl rfl (by first | exact part_whole rfl rfl rfl | rfl) ?_
  refine OW_bin rfl rfl rfl rfl rfl ?_
  refine OW_env (e' := [_, _, _, _, _, _, _, _, _, _, _, _, _, _, _]) rfl ?_
  refine OW_mv rfl rfl ?_
  refine OW_split (tt := 8) rfl (fun g1_4 => ?_) (fun g1_4 => ?_)
  · try simp only [decide_eq_true_eq, decide_eq_false_iff_not, Bool.not_eq_true', Bool.not_eq_false', Bool.and_eq_true, Bool.or_eq_true, Bool.not_eq_true, Bool.not_eq_false, Decidable.not_not, bne_iff_ne, beq_iff_eq, List.length_append, List.length_cons, List.length_nil, List.length_drop, List.length_take] at g1_4
    refine OW_fa rfl rfl rfl ?_
    refine OW_env (e' := [_, _, _, _, _, _, _, _, _, _, _, _, _, _, _]) rfl ?_
    refine OW_loadR hS2 (k := 1) rfl rfl rfl rfl rfl (by first | exact part_whole rfl rfl rfl | rfl) ?_
    refine OW_fa rfl rfl rfl ?_
    refine OW_loadR hS2 (k := 0) rfl rfl rfl rfl rfl (by first | exact part_whole rfl rfl rfl | rfl) ?_
    refine OW_env (e' := [_, _, _, _, _, _, _, _, _, _, _, _, _, _, _]) rfl ?_
    refine OW_bin rfl rfl rfl rfl rfl ?_
    refine OW_pick rfl rfl rfl ?_
    refine OW_as rfl rfl ?_
    refine OW_nilE (e' := [_, _, _, _, _, _, _, _, _, _, _, _, _, _, _]) rfl ?_
    refine XW_ret ?_
    -- outcome 1
    refine ret_ret (res1 rfl (rv_tmp rfl)) (frz1 (Q := Q) (by first | exact freeze_plain rfl | exact Ls.freeze (by assumption) | exact Ls.freeze Ls.of | exact Ls.freeze Ls.emp | exact Ls.freeze Ls.nls) ?_)
    first | (rw [show ahd ⟨w, tx, fr, to⟩ ⟨w', tx', fr', to'⟩ = decide (to < fr') by unfold ahd; simp only; rw [decide_eq_decide]; omega] at hq; exact hq) | (rw [show ahd ⟨w, tx, fr, to⟩ ⟨w', tx', fr', to'⟩ = false by unfold ahd; rw [decide_eq_false_iff_not]; simp only; omega] at hq; exact hq)
  · try simp only [decide_eq_true_eq, decide_eq_false_iff_not, Bool.not_eq_true', Bool.not_eq_false', Bool.and_eq_true, Bool.or_eq_true, Bool.not_eq_true, Bool.not_eq_false, Decidable.not_not, bne_iff_ne, beq_iff_eq, List.length_append, List.length_cons, List.length_nil, List.length_drop, List.length_take] at g1_4
    refine OW_no rfl ?_
    refine OW_env (e' := [_, _, _, _, _, _, _, _, _, _, _, _, _, _, _]) rfl ?_
    refine OW_no rfl ?_
    refine OW_no rfl ?_
    refine OW_no rfl ?_
    refine OW_env (e' := [_, _, _, _, _, _, _, _, _, _, _, _, _, _, _]) rfl ?_
    refine OW_no rfl ?_
    refine OW_pick rfl rfl rfl ?_
    refine OW_as rfl rfl ?_
    refine OW_nilE (e' := [_, _, _, _, _, _, _, _, _, _, _, _, _, _, _]) rfl ?_
    refine XW_ret ?_
    -- outcome 2
    refine ret_ret (res1 rfl (rv_tmp rfl)) (frz1 (Q := Q) (by first | exact freeze_plain rfl | exact Ls.freeze (by assumption) | exact Ls.freeze Ls.of | exact Ls.freeze Ls.emp | exact Ls.freeze Ls.nls) ?_)
    first | (rw [show ahd ⟨w, tx, fr, to⟩ ⟨w', tx', fr', to'⟩ = decide (to < fr') by unfold ahd; simp only; rw [decide_eq_decide]; omega] at hq; exact hq) | (rw [show ahd ⟨w, tx, fr, to⟩ ⟨w', tx', fr', to'⟩ = false by unfold ahd; rw [decide_eq_false_iff_not]; simp only; omega] at hq; exact hq)
theorem text_c {q : Nm} {l : List Hop} {a b O : AVal} (hrow : H q = some (.row 4 [.agg [.lst (l.map Hop.enc), a, b, O]])) {la : Int} (h : la < l.length) (hq : Q (.str (txtI l la)) H) : CW cfg ν 25 [.ptr q 0 0, .int .i64 la] H Q := by
  refine CW_full g25 F25 rfl ?_
  refine XW_sr ?_
  refine OW_as rfl rfl ?_
  refine OW_nilE (e' := [_, _, _, _, _, _, _, _, _, _, _, _, _, _, _]) rfl ?_
  refine XW_seq ?_
  refine XW_sr ?_
  refine OW_mv rfl rfl ?_
  refine OW_bin rfl rfl rfl rfl rfl ?_
  refine OW_nilE (e' := [_, _, _, _, _, _, _, _, _, _, _, _, _, _, _]) rfl ?_
  refine XW_if rfl (fun h1 => ?_) (fun h1 => ?_)
  · try simp only [decide_eq_true_eq, decide_eq_false_iff_not, Bool.not_eq_true', Bool.not_eq_false', Bool.and_eq_true, Bool.or_eq_true, Bool.not_eq_true, Bool.not_eq_false, Decidable.not_not, bne_iff_ne, beq_iff_eq, List.length_append, List.length_cons, List.length_nil, List.length_drop, List.length_take] at h1
    refine XW_sr ?_
    refine OW_as rfl rfl ?_
    refine OW_nilE (e' := [_, _, _, _, _, _, _, _, _, _, _, _, _, _, _]) rfl ?_
    refine XW_ret ?_
    refine then_ret ?_
    -- outcome 1
    refine ret_ret (res1 rfl (rv_tmp rfl)) (frz1 (Q := Q) (by first | exact freeze_plain rfl | exact Ls.freeze (by assumption) | exact Ls.freeze Ls.of | exact Ls.freeze Ls.emp | exact Ls.freeze Ls.nls) ?_)
    rw [rest_self]; first | (rw [txtI, if_pos (by omega)] at hq; exact hq) | (rw [txtI, if_neg (by omega), List.getElem?_eq_getElem (by omega)] at hq; exact hq)
  · try simp only [decide_eq_true_eq, decide_eq_false_iff_not, Bool.not_eq_true', Bool.not_eq_false', Bool.and_eq_true, Bool.or_eq_true, Bool.not_eq_true, Bool.not_eq_false, Decidable.not_not, bne_iff_ne, beq_iff_eq, List.length_append, List.length_cons, List.length_nil, List.length_drop, List.length_take] at h1
    refine XW_skip ?_
    refine then_norm ?_
    refine XW_sr ?_
    refine OW_mv rfl rfl ?_
    first
    | refine OW_nc rfl rfl ?_
    | refine OW_nce rfl rfl ?_
    refine OW_fa rfl rfl rfl ?_
    refine OW_env (e' := [_, _, _, _, _, _, _, _, _, _, _, _, _, _, _]) rfl ?_
    refine OW_loadP rfl rfl hrow rfl rfl rfl ?_
    refine OW_mv rfl rfl ?_
    first
    | refine OW_iaL rfl rfl rfl Ls.of rfl rfl rfl (by first | rfl | exact (Int.toNat_of_nonneg (by omega)).symm) (by first | assumption | exact at_map (by first | assumption | omega) | exact at_lst (by omega) | rfl) rfl ?_
    | refine OW_iaL rfl rfl rfl (by assumption) rfl rfl rfl (by first | rfl | exact (Int.toNat_of_nonneg (by omega)).symm) (by first | assumption | exact at_map (by first | assumption | omega) | exact at_lst (by omega) | rfl) rfl ?_
    refine OW_env (e' := [_, _, _, _, _, _, _, _, _, _, _, _, _, _, _]) rfl ?_
    refine OW_fa rfl rfl rfl ?_
    refine OW_loadE rfl rfl rfl (by first | exact part_whole rfl rfl rfl | rfl) ?_
    refine OW_as rfl rfl ?_
    refine OW_nilE (e' := [_, _, _, _, _, _, _, _, _, _, _, _, _, _, _]) rfl ?_
    refine XW_ret ?_
    -- outcome 2
    refine ret_ret (res1 rfl (rv_tmp rfl)) (frz1 (Q := Q) (by first | exact freeze_plain rfl | exact Ls.freeze (by assumption) | exact Ls.freeze Ls.of | exact Ls.freeze Ls.emp | exact Ls.freeze Ls.nls) ?_)
    rw [rest_self]; first | (rw [txtI, if_pos (by omega)] at hq; exact hq) | (rw [txtI, if_neg (by omega), List.getElem?_eq_getElem (by omega)] at hq; exact hq)
theorem Own.rowAt {q : Nm} {w : Nat} {xs : List AVal} (hS : Own β ps H L) (hL : L[k]? = some (row q w xs)) : H q = some (.row w xs) := by
  obtain ⟨f, ⟨_, h0⟩, _⟩ := hS.get hL
  exact h0
theorem lastI_lt {l : List Hop} {o : List Nat} (h : ∀ i ∈ o, i < l.length) : -1 ≤ lastI l o ∧ lastI l o < l.length := by
  suffices hh : ∀ r : List Nat, (∀ i ∈ r, i < l.length) → -1 ≤ lastI l r.reverse ∧ lastI l r.reverse < l.length by have := hh o.reverse (by simpa using h); simpa using this
  intro r
  induction r with
  | nil => intro _; simp [lastI]; omega
  | cons a r ih =>
    intro h
    rw [List.reverse_cons, lastI_snoc]
    have := h a (by simp)
    have := ih fun i hi => h i (by simp [hi])
    split <;> omega
theorem rok_eq {l : List Hop} {o : List Nat} {i : Nat} (h : i < l.length) : rok l o i = (l[i].w || (decide (0 ≤ l[i].to) && decide (l[i].tx = txtI l (lastI l o)))) := by
  unfold rok; rw [List.getElem?_eq_getElem h]
theorem ahI_eq {l : List Hop} {j i : Nat} (hj : j < l.length) (hi : i < l.length) : ahI l j i = ahd l[j] l[i] := by
  unfold ahI; rw [List.getElem?_eq_getElem hj, List.getElem?_eq_getElem hi]
theorem nx_no1 {l : List Hop} {o : List Nat} {i : Nat} (h : i ∈ o) : nxt l o i = false := by
  cases hn : nxt l o i with
  | false => rfl
  | true => exact absurd h (nxt_iff.1 hn).1
theorem nx_no2 {l : List Hop} {o : List Nat} {i : Nat} (h : rok l o i = false) : nxt l o i = false := by
  cases hn : nxt l o i with
  | false => rfl
  | true => rw [(nxt_iff.1 hn).2.1] at h; cases h
theorem nx_no3 {l : List Hop} {o : List Nat} {i k : Nat} (h1 : k < l.length) (h2 : k ∉ o) (h3 : ahI l k i = true) : nxt l o i = false := by
  cases hn : nxt l o i with
  | false => rfl
  | true => rw [(nxt_iff.1 hn).2.2 k h1 h2] at h3; cases h3
theorem bit_mem {o : List Nat} {i : Nat} (h : ((mask o / 2 ^ i % 2 : Nat) : Int) = 1) : i ∈ o := by
  have := bit_in o i
  by_cases hi : i ∈ o
  · exact hi
  · rw [if_neg hi] at this; omega
theorem bit_nmem {o : List Nat} {i : Nat} (h : ¬ ((mask o / 2 ^ i % 2 : Nat) : Int) = 1) : i ∉ o := by
  have := bit_in o i
  intro hi
  rw [if_pos hi] at this; omega
theorem rok_no1 {l : List Hop} {o : List Nat} {i : Nat} (h : i < l.length) (h1 : l[i].w = false) (h2 : l[i].to < 0) : rok l o i = false := by
  rw [rok_eq h, h1, decide_eq_false (by omega)]; rfl
theorem rok_no2 {l : List Hop} {o : List Nat} {i : Nat} (h : i < l.length) (h1 : l[i].w = false) (h2 : ¬ l[i].tx = txtI l (lastI l o)) : rok l o i = false := by
  rw [rok_eq h, h1, decide_eq_false h2]; simp
theorem rok_y1 {l : List Hop} {o : List Nat} {i : Nat} (h : i < l.length) (h1 : l[i].w = true) : rok l o i = true := by
  rw [rok_eq h, h1]; rfl
theorem rok_y2 {l : List Hop} {o : List Nat} {i : Nat} (h : i < l.length) (h1 : ¬ l[i].to < 0) (h2 : l[i].tx = txtI l (lastI l o)) : rok l o i = true := by
  rw [rok_eq h, decide_eq_true h2, decide_eq_true (by omega)]; simp
theorem bit_nmem0 {o : List Nat} {i : Nat} (h : ((mask o / 2 ^ i % 2 : Nat) : Int) = 0) : i ∉ o := by
  have := bit_in o i
  intro hi
  rw [if_pos hi] at this; omega
theorem bit_mem0 {o : List Nat} {i : Nat} (h : ¬ ((mask o / 2 ^ i % 2 : Nat) : Int) = 0) : i ∈ o := by
  have := bit_in o i
  by_cases hi : i ∈ o
  · exact hi
  · rw [if_neg hi] at this; omega
theorem nx_yes {l : List Hop} {o : List Nat} {i : Nat} (h1 : i ∉ o) (h2 : rok l o i = true) (h3 : ∀ z, z < l.length → z ∉ o → ahI l z i = false) : nxt l o i = true := nxt_iff.2 ⟨h1, h2, h3⟩
theorem next_c {q : Nm} {l : List Hop} {a b O : AVal} {o : List Nat} {i : Nat} (hS : Own β ps H L) (hL : L[k]? = some (row q 4 [.agg [.lst (l.map Hop.enc), a, b, O]])) (hle : le ps ν) (hβ : under β ν = true) (hp : before ν pos') (hl : l.length ≤ 12) (hi : i < l.length) (ho : ∀ j ∈ o, j < l.length) (hq : ∀ H1, Own β pos' H1 L → Q (.bool (nxt l o i)) H1) : CW cfg ν 22 [.ptr q 0 0, .agg [.int .u64 (mask o : Int), .int .i64 (lastI l o)], .int .i64 (i : Int)] H Q := by
  replace hS := hS.pick hL
  have hm := mask_u64 hl ho
  have hla := lastI_lt ho
  have hd : ∀ j, mask o / 2 ^ j < 18446744073709551616 := fun j => Nat.lt_of_le_of_lt (Nat.div_le_self _ _) (by omega)
  refine CW_keep g22 F22 rfl ?_
  replace hS := Own.mono hS hle
  refine XW_sr ?_
  refine OW_boxR hS (le_app (p := ν) (b := [0, 0])) (under_app [0, 0] hβ) rfl rfl rfl ⟨rfl, rfl⟩ fun H1 hS1 => ?_
  replace hS1 : Own _ _ _ (_ :: _ :: L.eraseIdx k) := hS1
  refine OW_as rfl rfl ?_
  refine OW_nilE (e' := [_, _, _, _, _, _, _, _, _, _, _, _, _, _, _, _, _, _, _, _, _, _, _, _, _, _, _, _, _, _, _, _, _, _, _, _, _, _, _, _, _, _, _, _, _, _, _, _, _, _, _, _, _, _, _, _, _, _, _, _, _, _, _, _, _, _, _, _, _]) rfl ?_
  refine XW_sr ?_
  refine OW_mv rfl rfl ?_
  first
  | refine OW_nc rfl rfl ?_
  | refine OW_nce rfl rfl ?_
  refine OW_fa rfl rfl rfl ?_
  refine OW_env (e' := [_, _, _, _, _, _, _, _, _, _, _, _, _, _, _, _, _, _, _, _, _, _, _, _, _, _, _, _, _, _, _, _, _, _, _, _, _, _, _, _, _, _, _, _, _, _, _, _, _, _, _, _, _, _, _, _, _, _, _, _, _, _, _, _, _, _, _, _, _]) rfl ?_
  refine OW_loadR hS1 (k := 1) rfl rfl rfl rfl rfl (by first | exact part_whole rfl rfl rfl | rfl) ?_
  refine OW_mv rfl rfl ?_
  first
  | refine OW_iaL rfl rfl rfl Ls.of rfl rfl rfl (by first | rfl | exact (Int.toNat_of_nonneg (by omega)).symm) (by first | assumption | exact at_map (by first | assumption | omega) | exact at_lst (by omega) | rfl) rfl ?_
  | refine OW_iaL rfl rfl rfl (by assumption) rfl rfl rfl (by first | rfl | exact (Int.toNat_of_nonneg (by omega)).symm) (by first | assumption | exact at_map (by first | assumption | omega) | exact at_lst (by omega) | rfl) rfl ?_
  refine OW_env (e' := [_, _, _, _, _, _, _, _, _, _, _, _, _, _, _, _, _, _, _, _, _, _, _, _, _, _, _, _, _, _, _, _, _, _, _, _, _, _, _, _, _, _, _, _, _, _, _, _, _, _, _, _, _, _, _, _, _, _, _, _, _, _, _, _, _, _, _, _, _]) rfl ?_
  refine OW_loadE rfl rfl rfl (by first | exact part_whole rfl rfl rfl | rfl) ?_
  refine OW_allocR hS1 (le_lit (ν := ν) (a := [1, 0]) (b := [7, 0, 1]) (by decide)) (under_app [7, 0, 1] hβ) rfl rfl rfl rfl fun H2 hS2 => ?_
  replace hS2 : Own _ _ _ (_ :: _ :: _ :: L.eraseIdx k) := hS2
  first
  | refine OW_storeR hS2 (k := 0) rfl le_refl rfl rfl rfl rfl ⟨rfl, rfl, Nat.le_of_ble_eq_true rfl⟩ (set_whole rfl rfl) fun H3 hS3 => ?_
  | refine OW_storeR hS2 (k := 0) rfl le_refl rfl rfl rfl rfl ⟨rfl, rfl, Nat.le_of_ble_eq_true rfl⟩ (u2 := .agg [_, _, _, _]) rfl fun H3 hS3 => ?_
  replace hS3 : Own _ _ _ (_ :: _ :: _ :: L.eraseIdx k) := hS3
  refine OW_nilE (e' := [_, _, _, _, _, _, _, _, _, _, _, _, _, _, _, _, _, _, _, _, _, _, _, _, _, _, _, _, _, _, _, _, _, _, _, _, _, _, _, _, _, _, _, _, _, _, _, _, _, _, _, _, _, _, _, _, _, _, _, _, _, _, _, _, _, _, _, _, _]) rfl ?_
  refine XW_seq ?_
  refine XW_srF (qs := [0 :: 0 :: ν, 7 :: 0 :: 1 :: ν]) rfl rfl ?_
  have hSF1 : Own _ _ _ (_ :: _ :: _ :: L.eraseIdx k) := (Own.hide (Own.hide (Own.hide0 hS3) (k := 0) rfl) (k := 1) rfl)
  refine OWF_op rfl ?_
  refine OW_fa rfl rfl rfl ?_
  refine OW_nil ?_
  refine OWF_fl rfl ?_
  refine OW_loadK hS3 (k := 1) rfl (by simp) rfl rfl rfl rfl (by first | exact part_whole rfl rfl rfl | rfl) ?_
  refine OW_nil ?_
  refine OWF_op rfl ?_
  refine OW_mv rfl rfl ?_
  refine OW_nil ?_
  refine OWF_env (e' := [_, _, _, _, _, _, _, _, _, _, _, _, _, _, _, _, _, _, _, _, _, _, _, _, _, _, _, _, _, _, _, _, _, _, _, _, _, _, _, _, _, _, _, _, _, _, _, _, _, _, _, _, _, _, _, _, _, _, _, _, _, _, _, _, _, _, _, _, _]) rfl ?_
  refine OWF_op rfl ?_
  first
  | refine OW_bin rfl rfl rfl rfl (shr_u64n (by omega)) ?_
  | refine OW_bin rfl rfl rfl rfl rfl ?_
  refine OW_nil ?_
  refine OWF_op rfl ?_
  first
  | refine OW_bin rfl rfl rfl rfl (bit_u64n (hd _)) ?_
  | refine OW_bin rfl rfl rfl rfl rfl ?_
  refine OW_nil ?_
  refine OWF_op rfl ?_
  refine OW_bin rfl rfl rfl rfl rfl ?_
  refine OW_nil ?_
  refine OWF_env (e' := [_, _, _, _, _, _, _, _, _, _, _, _, _, _, _, _, _, _, _, _, _, _, _, _, _, _, _, _, _, _, _, _, _, _, _, _, _, _, _, _, _, _, _, _, _, _, _, _, _, _, _, _, _, _, _, _, _, _, _, _, _, _, _, _, _, _, _, _, _]) rfl ?_
  refine OWF_op rfl ?_
  refine OW_mv rfl rfl ?_
  refine OW_nil ?_
  refine OWF_split (tt := 23) rfl (fun g2_7 => ?_) (fun g2_7 => ?_)
  · try simp only [decide_eq_true_eq, decide_eq_false_iff_not, Bool.not_eq_true', Bool.not_eq_false', Bool.and_eq_true, Bool.or_eq_true, Bool.not_eq_true, Bool.not_eq_false, Decidable.not_not, bne_iff_ne, beq_iff_eq, List.length_append, List.length_cons, List.length_nil, List.length_drop, List.length_take] at g2_7
    refine OWF_op rfl ?_
    refine OW_no rfl ?_
    refine OW_nil ?_
    refine OWF_env (e' := [_, _, _, _, _, _, _, _, _, _, _, _, _, _, _, _, _, _, _, _, _, _, _, _, _, _, _, _, _, _, _, _, _, _, _, _, _, _, _, _, _, _, _, _, _, _, _, _, _, _, _, _, _, _, _, _, _, _, _, _, _, _, _, _, _, _, _, _, _]) rfl ?_
    refine OWF_fl rfl ?_
    refine OW_no rfl ?_
    refine OW_nil ?_
    refine OWF_op rfl ?_
    refine OW_no rfl ?_
    refine OW_nil ?_
    refine OWF_op rfl ?_
    refine OW_no rfl ?_
    refine OW_nil ?_
    refine OWF_env (e' := [_, _, _, _, _, _, _, _, _, _, _, _, _, _, _, _, _, _, _, _, _, _, _, _, _, _, _, _, _, _, _, _, _, _, _, _, _, _, _, _, _, _, _, _, _, _, _, _, _, _, _, _, _, _, _, _, _, _, _, _, _, _, _, _, _, _, _, _, _]) rfl ?_
    refine OWF_op rfl ?_
    refine OW_no rfl ?_
    refine OW_nil ?_
    refine OWF_fl rfl ?_
    refine OW_no rfl ?_
    refine OW_nil ?_
    refine OWF_op rfl ?_
    refine OW_no rfl ?_
    refine OW_nil ?_
    refine OWF_env (e' := [_, _, _, _, _, _, _, _, _, _, _, _, _, _, _, _, _, _, _, _, _, _, _, _, _, _, _, _, _, _, _, _, _, _, _, _, _, _, _, _, _, _, _, _, _, _, _, _, _, _, _, _, _, _, _, _, _, _, _, _, _, _, _, _, _, _, _, _, _]) rfl ?_
    refine OWF_op rfl ?_
    refine OW_no rfl ?_
    refine OW_nil ?_
    refine OWF_op rfl ?_
    refine OW_pick rfl rfl rfl ?_
    refine OW_nil ?_
    refine OWF_op rfl ?_
    refine OW_mv rfl rfl ?_
    refine OW_nil ?_
    refine OWF_env (e' := [_, _, _, _, _, _, _, _, _, _, _, _, _, _, _, _, _, _, _, _, _, _, _, _, _, _, _, _, _, _, _, _, _, _, _, _, _, _, _, _, _, _, _, _, _, _, _, _, _, _, _, _, _, _, _, _, _, _, _, _, _, _, _, _, _, _, _, _, _]) rfl ?_
    refine OWF_op rfl ?_
    refine OW_no rfl ?_
    refine OW_nil ?_
    refine OWF_fl rfl ?_
    refine OW_no rfl ?_
    refine OW_nil ?_
    refine OWF_op rfl ?_
    refine OW_no rfl ?_
    refine OW_nil ?_
    refine OWF_env (e' := [_, _, _, _, _, _, _, _, _, _, _, _, _, _, _, _, _, _, _, _, _, _, _, _, _, _, _, _, _, _, _, _, _, _, _, _, _, _, _, _, _, _, _, _, _, _, _, _, _, _, _, _, _, _, _, _, _, _, _, _, _, _, _, _, _, _, _, _, _]) rfl ?_
    refine OWF_op rfl ?_
    refine OW_no rfl ?_
    refine OW_nil ?_
    refine OWF_op rfl ?_
    refine OW_no rfl ?_
    refine OW_nil ?_
    refine OWF_fl rfl ?_
    refine OW_no rfl ?_
    refine OW_nil ?_
    refine OWF_env (e' := [_, _, _, _, _, _, _, _, _, _, _, _, _, _, _, _, _, _, _, _, _, _, _, _, _, _, _, _, _, _, _, _, _, _, _, _, _, _, _, _, _, _, _, _, _, _, _, _, _, _, _, _, _, _, _, _, _, _, _, _, _, _, _, _, _, _, _, _, _]) rfl ?_
    refine OWF_op rfl ?_
    refine OW_no rfl ?_
    refine OW_nil ?_
    refine OWF_op rfl ?_
    refine OW_no rfl ?_
    refine OW_nil ?_
    refine OWF_fl rfl ?_
    refine OW_no rfl ?_
    refine OW_nil ?_
    refine OWF_env (e' := [_, _, _, _, _, _, _, _, _, _, _, _, _, _, _, _, _, _, _, _, _, _, _, _, _, _, _, _, _, _, _, _, _, _, _, _, _, _, _, _, _, _, _, _, _, _, _, _, _, _, _, _, _, _, _, _, _, _, _, _, _, _, _, _, _, _, _, _, _]) rfl ?_
    refine OWF_op rfl ?_
    refine OW_no rfl ?_
    refine OW_nil ?_
    refine OWF_op rfl ?_
    refine OW_no rfl ?_
    refine OW_nil ?_
    refine OWF_op rfl ?_
    refine OW_no rfl ?_
    refine OW_nil ?_
    refine OWF_env (e' := [_, _, _, _, _, _, _, _, _, _, _, _, _, _, _, _, _, _, _, _, _, _, _, _, _, _, _, _, _, _, _, _, _, _, _, _, _, _, _, _, _, _, _, _, _, _, _, _, _, _, _, _, _, _, _, _, _, _, _, _, _, _, _, _, _, _, _, _, _]) rfl ?_
    refine OWF_op rfl ?_
    refine OW_pick rfl rfl rfl ?_
    refine OW_nil ?_
    refine OWF_nilE (e' := [_, _, _, _, _, _, _, _, _, _, _, _, _, _, _, _, _, _, _, _, _, _, _, _, _, _, _, _, _, _, _, _, _, _, _, _, _, _, _, _, _, _, _, _, _, _, _, _, _, _, _, _, _, _, _, _, _, _, _, _, _, _, _, _, _, _, _, _, _]) rfl ?_
    have hSB1 : Own _ _ _ (_ :: _ :: _ :: L.eraseIdx k) := (Own.back hS3 (k := 1) rfl (Own.back hS3 (k := 0) rfl (Own.back0 hSF1) (k' := 0) rfl) (k' := 1) rfl)
    refine XW_yes rfl rfl ?_
    refine XW_sr ?_
    refine OW_as rfl rfl ?_
    refine OW_nilE (e' := [_, _, _, _, _, _, _, _, _, _, _, _, _, _, _, _, _, _, _, _, _, _, _, _, _, _, _, _, _, _, _, _, _, _, _, _, _, _, _, _, _, _, _, _, _, _, _, _, _, _, _, _, _, _, _, _, _, _, _, _, _, _, _, _, _, _, _, _, _]) rfl ?_
    refine XW_ret ?_
    refine then_ret ?_
    -- outcome 1
    refine ret_ret (res1 rfl (rv_tmp rfl)) ?_
    have hr := rok_eq (o := o) hi
    have hfin : ∀ v : Bool, nxt l o i = v → ∀ H1, Own β pos' H1 (row q 4 [.agg [.lst (l.map Hop.enc), a, b, O]] :: L.eraseIdx k) → Q (.bool v) H1 := fun v e H1 h1 => e ▸ hq H1 (Own.cast (Own.unpick h1 hL) (set_get_self hL))
    first | (have hv : nxt l o i = false := (by first | exact nx_no1 (bit_mem (by assumption)) | exact nx_no3 (k := j) (by omega) (bit_nmem0 (by assumption)) (by rw [ahI_eq (by omega) hi]; assumption) | exact nx_no2 (rok_no1 hi (by assumption) (by assumption)) | exact nx_no2 (rok_no2 hi (by assumption) (by assumption))); first | exact hfin _ hv _ (Own.drop0 (Own.drop0 (Own.mono hSB1 (le_bef (bef_app (a := [9, 0, 1]) hp))))) | exact hfin _ hv _ (Own.drop0 (Own.drop0 (Own.drop0 (Own.mono hSB1 (le_bef (bef_app (a := [9, 0, 1]) hp))))))) | (have hv : nxt l o i = true := nx_yes (bit_nmem (by assumption)) (by first | exact rok_y1 hi (by assumption) | exact rok_y2 hi (by assumption) (by assumption)) (fun z hz hzo => hI z (by omega) hzo); exact hfin _ hv _ (Own.drop0 (Own.drop0 (Own.mono hSB1 (le_bef (bef_app (a := [9, 0, 1]) hp))))))
  · try simp only [decide_eq_true_eq, decide_eq_false_iff_not, Bool.not_eq_true', Bool.not_eq_false', Bool.and_eq_true, Bool.or_eq_true, Bool.not_eq_true, Bool.not_eq_false, Decidable.not_not, bne_iff_ne, beq_iff_eq, List.length_append, List.length_cons, List.length_nil, List.length_drop, List.length_take] at g2_7
    refine OWF_op rfl ?_
    refine OW_fa rfl rfl rfl ?_
    refine OW_nil ?_
    refine OWF_env (e' := [_, _, _, _, _, _, _, _, _, _, _, _, _, _, _, _, _, _, _, _, _, _, _, _, _, _, _, _, _, _, _, _, _, _, _, _, _, _, _, _, _, _, _, _, _, _, _, _, _, _, _, _, _, _, _, _, _, _, _, _, _, _, _, _, _, _, _, _, _]) rfl ?_
    refine OWF_fl rfl ?_
    refine OW_loadK hS3 (k := 0) rfl (by simp) rfl rfl rfl rfl (by first | exact part_whole rfl rfl rfl | rfl) ?_
    refine OW_nil ?_
    refine OWF_op rfl ?_
    refine OW_bin rfl rfl rfl rfl rfl ?_
    refine OW_nil ?_
    refine OWF_op rfl ?_
    refine OW_mv rfl rfl ?_
    refine OW_nil ?_
    refine OWF_env (e' := [_, _, _, _, _, _, _, _, _, _, _, _, _, _, _, _, _, _, _, _, _, _, _, _, _, _, _, _, _, _, _, _, _, _, _, _, _, _, _, _, _, _, _, _, _, _, _, _, _, _, _, _, _, _, _, _, _, _, _, _, _, _, _, _, _, _, _, _, _]) rfl ?_
    refine OWF_split (tt := 27) rfl (fun g2_11 => ?_) (fun g2_11 => ?_)
    · try simp only [decide_eq_true_eq, decide_eq_false_iff_not, Bool.not_eq_true', Bool.not_eq_false', Bool.and_eq_true, Bool.or_eq_true, Bool.not_eq_true, Bool.not_eq_false, Decidable.not_not, bne_iff_ne, beq_iff_eq, List.length_append, List.length_cons, List.length_nil, List.length_drop, List.length_take] at g2_11
      refine OWF_op rfl ?_
      refine OW_fa rfl rfl rfl ?_
      refine OW_nil ?_
      refine OWF_fl rfl ?_
      refine OW_loadK hS3 (k := 0) rfl (by simp) rfl rfl rfl rfl (by first | exact part_whole rfl rfl rfl | rfl) ?_
      refine OW_nil ?_
      refine OWF_env (e' := [_, _, _, _, _, _, _, _, _, _, _, _, _, _, _, _, _, _, _, _, _, _, _, _, _, _, _, _, _, _, _, _, _, _, _, _, _, _, _, _, _, _, _, _, _, _, _, _, _, _, _, _, _, _, _, _, _, _, _, _, _, _, _, _, _, _, _, _, _]) rfl ?_
      refine OWF_op rfl ?_
      refine OW_un rfl rfl rfl ?_
      refine OW_nil ?_
      refine OWF_op rfl ?_
      refine OW_pick rfl rfl rfl ?_
      refine OW_nil ?_
      refine OWF_op rfl ?_
      refine OW_pick rfl rfl rfl ?_
      refine OW_nil ?_
      refine OWF_env (e' := [_, _, _, _, _, _, _, _, _, _, _, _, _, _, _, _, _, _, _, _, _, _, _, _, _, _, _, _, _, _, _, _, _, _, _, _, _, _, _, _, _, _, _, _, _, _, _, _, _, _, _, _, _, _, _, _, _, _, _, _, _, _, _, _, _, _, _, _, _]) rfl ?_
      refine OWF_op rfl ?_
      refine OW_mv rfl rfl ?_
      refine OW_nil ?_
      refine OWF_split (tt := 33) rfl (fun g2_17 => ?_) (fun g2_17 => ?_)
      · try simp only [decide_eq_true_eq, decide_eq_false_iff_not, Bool.not_eq_true', Bool.not_eq_false', Bool.and_eq_true, Bool.or_eq_true, Bool.not_eq_true, Bool.not_eq_false, Decidable.not_not, bne_iff_ne, beq_iff_eq, List.length_append, List.length_cons, List.length_nil, List.length_drop, List.length_take] at g2_17
        refine OWF_op rfl ?_
        refine OW_no rfl ?_
        refine OW_nil ?_
        refine OWF_env (e' := [_, _, _, _, _, _, _, _, _, _, _, _, _, _, _, _, _, _, _, _, _, _, _, _, _, _, _, _, _, _, _, _, _, _, _, _, _, _, _, _, _, _, _, _, _, _, _, _, _, _, _, _, _, _, _, _, _, _, _, _, _, _, _, _, _, _, _, _, _]) rfl ?_
        refine OWF_fl rfl ?_
        refine OW_no rfl ?_
        refine OW_nil ?_
        refine OWF_op rfl ?_
        refine OW_no rfl ?_
        refine OW_nil ?_
        refine OWF_op rfl ?_
        refine OW_no rfl ?_
        refine OW_nil ?_
        refine OWF_env (e' := [_, _, _, _, _, _, _, _, _, _, _, _, _, _, _, _, _, _, _, _, _, _, _, _, _, _, _, _, _, _, _, _, _, _, _, _, _, _, _, _, _, _, _, _, _, _, _, _, _, _, _, _, _, _, _, _, _, _, _, _, _, _, _, _, _, _, _, _, _]) rfl ?_
        refine OWF_op rfl ?_
        refine OW_no rfl ?_
        refine OW_nil ?_
        refine OWF_fl rfl ?_
        refine OW_no rfl ?_
        refine OW_nil ?_
        refine OWF_op rfl ?_
        refine OW_no rfl ?_
        refine OW_nil ?_
        refine OWF_env (e' := [_, _, _, _, _, _, _, _, _, _, _, _, _, _, _, _, _, _, _, _, _, _, _, _, _, _, _, _, _, _, _, _, _, _, _, _, _, _, _, _, _, _, _, _, _, _, _, _, _, _, _, _, _, _, _, _, _, _, _, _, _, _, _, _, _, _, _, _, _]) rfl ?_
        refine OWF_op rfl ?_
        refine OW_no rfl ?_
        refine OW_nil ?_
        refine OWF_fl rfl ?_
        refine OW_no rfl ?_
        refine OW_nil ?_
        refine OWF_op rfl ?_
        refine OW_no rfl ?_
        refine OW_nil ?_
        refine OWF_env (e' := [_, _, _, _, _, _, _, _, _, _, _, _, _, _, _, _, _, _, _, _, _, _, _, _, _, _, _, _, _, _, _, _, _, _, _, _, _, _, _, _, _, _, _, _, _, _, _, _, _, _, _, _, _, _, _, _, _, _, _, _, _, _, _, _, _, _, _, _, _]) rfl ?_
        refine OWF_op rfl ?_
        refine OW_no rfl ?_
        refine OW_nil ?_
        refine OWF_op rfl ?_
        refine OW_no rfl ?_
        refine OW_nil ?_
        refine OWF_op rfl ?_
        refine OW_pick rfl rfl rfl ?_
        refine OW_nil ?_
        refine OWF_nilE (e' := [_, _, _, _, _, _, _, _, _, _, _, _, _, _, _, _, _, _, _, _, _, _, _, _, _, _, _, _, _, _, _, _, _, _, _, _, _, _, _, _, _, _, _, _, _, _, _, _, _, _, _, _, _, _, _, _, _, _, _, _, _, _, _, _, _, _, _, _, _]) rfl ?_
        have hSB2 : Own _ _ _ (_ :: _ :: _ :: L.eraseIdx k) := (Own.back hS3 (k := 1) rfl (Own.back hS3 (k := 0) rfl (Own.back0 hSF1) (k' := 0) rfl) (k' := 1) rfl)
        refine XW_yes rfl rfl ?_
        refine XW_sr ?_
        refine OW_as rfl rfl ?_
        refine OW_nilE (e' := [_, _, _, _, _, _, _, _, _, _, _, _, _, _, _, _, _, _, _, _, _, _, _, _, _, _, _, _, _, _, _, _, _, _, _, _, _, _, _, _, _, _, _, _, _, _, _, _, _, _, _, _, _, _, _, _, _, _, _, _, _, _, _, _, _, _, _, _, _]) rfl ?_
        refine XW_ret ?_
        refine then_ret ?_
        -- outcome 2
        refine ret_ret (res1 rfl (rv_tmp rfl)) ?_
        have hr := rok_eq (o := o) hi
        have hfin : ∀ v : Bool, nxt l o i = v → ∀ H1, Own β pos' H1 (row q 4 [.agg [.lst (l.map Hop.enc), a, b, O]] :: L.eraseIdx k) → Q (.bool v) H1 := fun v e H1 h1 => e ▸ hq H1 (Own.cast (Own.unpick h1 hL) (set_get_self hL))
        first | (have hv : nxt l o i = false := (by first | exact nx_no1 (bit_mem (by assumption)) | exact nx_no3 (k := j) (by omega) (bit_nmem0 (by assumption)) (by rw [ahI_eq (by omega) hi]; assumption) | exact nx_no2 (rok_no1 hi (by assumption) (by assumption)) | exact nx_no2 (rok_no2 hi (by assumption) (by assumption))); first | exact hfin _ hv _ (Own.drop0 (Own.drop0 (Own.mono hSB2 (le_bef (bef_app (a := [9, 0, 1]) hp))))) | exact hfin _ hv _ (Own.drop0 (Own.drop0 (Own.drop0 (Own.mono hSB2 (le_bef (bef_app (a := [9, 0, 1]) hp))))))) | (have hv : nxt l o i = true := nx_yes (bit_nmem (by assumption)) (by first | exact rok_y1 hi (by assumption) | exact rok_y2 hi (by assumption) (by assumption)) (fun z hz hzo => hI z (by omega) hzo); exact hfin _ hv _ (Own.drop0 (Own.drop0 (Own.mono hSB2 (le_bef (bef_app (a := [9, 0, 1]) hp))))))
      · try simp only [decide_eq_true_eq, decide_eq_false_iff_not, Bool.not_eq_true', Bool.not_eq_false', Bool.and_eq_true, Bool.or_eq_true, Bool.not_eq_true, Bool.not_eq_false, Decidable.not_not, bne_iff_ne, beq_iff_eq, List.length_append, List.length_cons, List.length_nil, List.length_drop, List.length_take] at g2_17
        refine OWF_op rfl ?_
        refine OW_fa rfl rfl rfl ?_
        refine OW_nil ?_
        refine OWF_env (e' := [_, _, _, _, _, _, _, _, _, _, _, _, _, _, _, _, _, _, _, _, _, _, _, _, _, _, _, _, _, _, _, _, _, _, _, _, _, _, _, _, _, _, _, _, _, _, _, _, _, _, _, _, _, _, _, _, _, _, _, _, _, _, _, _, _, _, _, _, _]) rfl ?_
        refine OWF_fl rfl ?_
        refine OW_loadK hS3 (k := 0) rfl (by simp) rfl rfl rfl rfl (by first | exact part_whole rfl rfl rfl | rfl) ?_
        refine OW_nil ?_
        refine OWF_op rfl ?_
        refine OW_un rfl rfl rfl ?_
        refine OW_nil ?_
        refine OWF_op rfl ?_
        refine OW_mv rfl rfl ?_
        refine OW_nil ?_
        refine OWF_env (e' := [_, _, _, _, _, _, _, _, _, _, _, _, _, _, _, _, _, _, _, _, _, _, _, _, _, _, _, _, _, _, _, _, _, _, _, _, _, _, _, _, _, _, _, _, _, _, _, _, _, _, _, _, _, _, _, _, _, _, _, _, _, _, _, _, _, _, _, _, _]) rfl ?_
        refine OWF_split (tt := 37) rfl (fun g2_21 => ?_) (fun g2_21 => ?_)
        · try simp only [decide_eq_true_eq, decide_eq_false_iff_not, Bool.not_eq_true', Bool.not_eq_false', Bool.and_eq_true, Bool.or_eq_true, Bool.not_eq_true, Bool.not_eq_false, Decidable.not_not, bne_iff_ne, beq_iff_eq, List.length_append, List.length_cons, List.length_nil, List.length_drop, List.length_take] at g2_21
          refine OWF_op rfl ?_
          refine OW_fa rfl rfl rfl ?_
          refine OW_nil ?_
          refine OWF_fl rfl ?_
          refine OW_loadK hS3 (k := 0) rfl (by simp) rfl rfl rfl rfl (by first | exact part_whole rfl rfl rfl | rfl) ?_
          refine OW_nil ?_
          refine OWF_env (e' := [_, _, _, _, _, _, _, _, _, _, _, _, _, _, _, _, _, _, _, _, _, _, _, _, _, _, _, _, _, _, _, _, _, _, _, _, _, _, _, _, _, _, _, _, _, _, _, _, _, _, _, _, _, _, _, _, _, _, _, _, _, _, _, _, _, _, _, _, _]) rfl ?_
          refine OWF_op rfl ?_
          refine OW_mv rfl rfl ?_
          refine OW_nil ?_
          refine OWF_op rfl ?_
          refine OW_fa rfl rfl rfl ?_
          refine OW_nil ?_
          refine OWF_fl rfl ?_
          refine OW_loadK hS3 (k := 1) rfl (by simp) rfl rfl rfl rfl (by first | exact part_whole rfl rfl rfl | rfl) ?_
          refine OW_nil ?_
          refine OWF_env (e' := [_, _, _, _, _, _, _, _, _, _, _, _, _, _, _, _, _, _, _, _, _, _, _, _, _, _, _, _, _, _, _, _, _, _, _, _, _, _, _, _, _, _, _, _, _, _, _, _, _, _, _, _, _, _, _, _, _, _, _, _, _, _, _, _, _, _, _, _, _]) rfl ?_
          refine OWF_op rfl ?_
          refine OW_fn rfl rfl (text_c (Own.rowAt hSF1 (k := 2) rfl) hla.2 ?_) 
          refine OW_nil ?_
          refine OWF_op rfl ?_
          refine OW_bin rfl rfl rfl rfl rfl ?_
          refine OW_nil ?_
          refine OWF_op rfl ?_
          refine OW_pick rfl rfl rfl ?_
          refine OW_nil ?_
          refine OWF_env (e' := [_, _, _, _, _, _, _, _, _, _, _, _, _, _, _, _, _, _, _, _, _, _, _, _, _, _, _, _, _, _, _, _, _, _, _, _, _, _, _, _, _, _, _, _, _, _, _, _, _, _, _, _, _, _, _, _, _, _, _, _, _, _, _, _, _, _, _, _, _]) rfl ?_
          refine OWF_op rfl ?_
          refine OW_pick rfl rfl rfl ?_
          refine OW_nil ?_
          refine OWF_nilE (e' := [_, _, _, _, _, _, _, _, _, _, _, _, _, _, _, _, _, _, _, _, _, _, _, _, _, _, _, _, _, _, _, _, _, _, _, _, _, _, _, _, _, _, _, _, _, _, _, _, _, _, _, _, _, _, _, _, _, _, _, _, _, _, _, _, _, _, _, _, _]) rfl ?_
          have hSB3 : Own _ _ _ (_ :: _ :: _ :: L.eraseIdx k) := (Own.back hS3 (k := 1) rfl (Own.back hS3 (k := 0) rfl (Own.back0 hSF1) (k' := 0) rfl) (k' := 1) rfl)
          refine XW_if rfl (fun h2 => ?_) (fun h2 => ?_)
          · try simp only [decide_eq_true_eq, decide_eq_false_iff_not, Bool.not_eq_true', Bool.not_eq_false', Bool.and_eq_true, Bool.or_eq_true, Bool.not_eq_true, Bool.not_eq_false, Decidable.not_not, bne_iff_ne, beq_iff_eq, List.length_append, List.length_cons, List.length_nil, List.length_drop, List.length_take] at h2
            refine XW_sr ?_
            refine OW_as rfl rfl ?_
            refine OW_nilE (e' := [_, _, _, _, _, _, _, _, _, _, _, _, _, _, _, _, _, _, _, _, _, _, _, _, _, _, _, _, _, _, _, _, _, _, _, _, _, _, _, _, _, _, _, _, _, _, _, _, _, _, _, _, _, _, _, _, _, _, _, _, _, _, _, _, _, _, _, _, _]) rfl ?_
            refine XW_ret ?_
            refine then_ret ?_
            -- outcome 3
            refine ret_ret (res1 rfl (rv_tmp rfl)) ?_
            have hr := rok_eq (o := o) hi
            have hfin : ∀ v : Bool, nxt l o i = v → ∀ H1, Own β pos' H1 (row q 4 [.agg [.lst (l.map Hop.enc), a, b, O]] :: L.eraseIdx k) → Q (.bool v) H1 := fun v e H1 h1 => e ▸ hq H1 (Own.cast (Own.unpick h1 hL) (set_get_self hL))
            first | (have hv : nxt l o i = false := (by first | exact nx_no1 (bit_mem (by assumption)) | exact nx_no3 (k := j) (by omega) (bit_nmem0 (by assumption)) (by rw [ahI_eq (by omega) hi]; assumption) | exact nx_no2 (rok_no1 hi (by assumption) (by assumption)) | exact nx_no2 (rok_no2 hi (by assumption) (by assumption))); first | exact hfin _ hv _ (Own.drop0 (Own.drop0 (Own.mono hSB3 (le_bef (bef_app (a := [9, 0, 1]) hp))))) | exact hfin _ hv _ (Own.drop0 (Own.drop0 (Own.drop0 (Own.mono hSB3 (le_bef (bef_app (a := [9, 0, 1]) hp))))))) | (have hv : nxt l o i = true := nx_yes (bit_nmem (by assumption)) (by first | exact rok_y1 hi (by assumption) | exact rok_y2 hi (by assumption) (by assumption)) (fun z hz hzo => hI z (by omega) hzo); exact hfin _ hv _ (Own.drop0 (Own.drop0 (Own.mono hSB3 (le_bef (bef_app (a := [9, 0, 1]) hp))))))
          · try simp only [decide_eq_true_eq, decide_eq_false_iff_not, Bool.not_eq_true', Bool.not_eq_false', Bool.and_eq_true, Bool.or_eq_true, Bool.not_eq_true, Bool.not_eq_false, Decidable.not_not, bne_iff_ne, beq_iff_eq, List.length_append, List.length_cons, List.length_nil, List.length_drop, List.length_take] at h2
            refine XW_skip ?_
            refine then_norm ?_
            refine XW_seq ?_
            refine XW_sr ?_
            refine OW_mv rfl rfl ?_
            first
            | refine OW_nc rfl rfl ?_
            | refine OW_nce rfl rfl ?_
            refine OW_fa rfl rfl rfl ?_
            refine OW_env (e' := [_, _, _, _, _, _, _, _, _, _, _, _, _, _, _, _, _, _, _, _, _, _, _, _, _, _, _, _, _, _, _, _, _, _, _, _, _, _, _, _, _, _, _, _, _, _, _, _, _, _, _, _, _, _, _, _, _, _, _, _, _, _, _, _, _, _, _, _, _]) rfl ?_
            refine OW_loadR hSB3 (k := 2) rfl rfl rfl rfl rfl (by first | exact part_whole rfl rfl rfl | rfl) ?_
            first
            | refine OW_lenL rfl rfl (by first | assumption | exact Ls.of | exact Ls.emp | exact Ls.nls) rfl rfl rfl (by first | exact List.length_map _ | rfl) ?_
            | refine OW_bi rfl rfl rfl ?_
            refine OW_mv rfl rfl ?_
            refine OW_nilE (e' := [_, _, _, _, _, _, _, _, _, _, _, _, _, _, _, _, _, _, _, _, _, _, _, _, _, _, _, _, _, _, _, _, _, _, _, _, _, _, _, _, _, _, _, _, _, _, _, _, _, _, _, _, _, _, _, _, _, _, _, _, _, _, _, _, _, _, _, _, _]) rfl ?_
            refine XW_block ?_
            refine XW_whileN (I := fun ν' mm ee H' => ∃ (j : Nat), mm = l.length - j ∧ under (1 :: 0 :: 1 :: 1 :: 1 :: ν) ν' = true ∧ Own β ν' H' (row (7 :: 0 :: 1 :: ν) 4 [l[i].enc] :: row (0 :: 0 :: ν) 2 [.agg [.int .u64 (mask o : Int), .int .i64 (lastI l o)]] :: row q 4 [.agg [.lst (l.map Hop.enc), a, b, O]] :: L.eraseIdx k) ∧ (j ≤ l.length ∧ ∀ z, z < j → z ∉ o → ahI l z i = false) ∧ ∃ g : Nat → AVal, ee = [.ptr q 0 0, .agg [.int .u64 (mask o : Int), .int .i64 (lastI l o)], g 2, g 3, .ptr (0 :: 0 :: ν) 0 0, g 5, g 6, .ptr (7 :: 0 :: 1 :: ν) 0 0, g 8, g 9, g 10, g 11, g 12, g 13, g 14, g 15, g 16, g 17, g 18, g 19, g 20, g 21, g 22, g 23, g 24, g 25, g 26, g 27, g 28, g 29, g 30, g 31, g 32, g 33, g 34, g 35, g 36, g 37, g 38, g 39, g 40, g 41, g 42, g 43, g 44, g 45, g 46, g 47, g 48, g 49, .lst (l.map Hop.enc), .int .i64 l.length, .int .i64 j, g 53, g 54, g 55, g 56, g 57, g 58, g 59, g 60, g 61, g 62, g 63, g 64, g 65, g 66, g 67, g 68]) ?_ _ _ _ _ ⟨0, rfl, under_me, Own.cast (Own.mono (hSB3) (le_lit (ν := ν) (a := [9, 0, 1]) (b := [1, 0, 1, 1, 1]) (by decide))) (rfl), (⟨by omega, fun z hz => by omega⟩), env_g rfl⟩
            rintro ν1 mm ee H4 ⟨j, rfl, hU1, hS4, ⟨hj, hI⟩, g1, rfl⟩
            refine XW_sr ?_
            refine OW_bin rfl rfl rfl rfl rfl ?_
            refine OW_nilE (e' := [_, _, _, _, _, _, _, _, _, _, _, _, _, _, _, _, _, _, _, _, _, _, _, _, _, _, _, _, _, _, _, _, _, _, _, _, _, _, _, _, _, _, _, _, _, _, _, _, _, _, _, _, _, _, _, _, _, _, _, _, _, _, _, _, _, _, _, _, _]) rfl ?_
            refine XW_seq ?_
            refine XW_if rfl (fun h5 => ?_) (fun h5 => ?_)
            · try simp only [decide_eq_true_eq, decide_eq_false_iff_not, Bool.not_eq_true', Bool.not_eq_false', Bool.and_eq_true, Bool.or_eq_true, Bool.not_eq_true, Bool.not_eq_false, Decidable.not_not, bne_iff_ne, beq_iff_eq, List.length_append, List.length_cons, List.length_nil, List.length_drop, List.length_take] at h5
              refine XW_skip ?_
              refine then_norm ?_
              refine XW_seq ?_
              refine XW_block ?_
              refine XW_sr ?_
              refine OW_mv rfl rfl ?_
              first
              | refine OW_iaL rfl rfl rfl Ls.of rfl rfl rfl (by first | rfl | exact (Int.toNat_of_nonneg (by omega)).symm) (by first | assumption | exact at_map (by first | assumption | omega) | exact at_lst (by omega) | rfl) rfl ?_
              | refine OW_iaL rfl rfl rfl (by assumption) rfl rfl rfl (by first | rfl | exact (Int.toNat_of_nonneg (by omega)).symm) (by first | assumption | exact at_map (by first | assumption | omega) | exact at_lst (by omega) | rfl) rfl ?_
              refine OW_loadE rfl rfl rfl (by first | exact part_whole rfl rfl rfl | rfl) ?_
              refine OW_env (e' := [_, _, _, _, _, _, _, _, _, _, _, _, _, _, _, _, _, _, _, _, _, _, _, _, _, _, _, _, _, _, _, _, _, _, _, _, _, _, _, _, _, _, _, _, _, _, _, _, _, _, _, _, _, _, _, _, _, _, _, _, _, _, _, _, _, _, _, _, _]) rfl ?_
              refine OW_allocR hS4 (le_app (p := ν1) (b := [3, 0, 0, 1, 1, 0])) (under_app [3, 0, 0, 1, 1, 0] (under_trans (under_app [1, 0, 1, 1, 1] hβ) hU1)) rfl rfl rfl rfl fun H5 hS5 => ?_
              replace hS5 : Own _ _ _ (_ :: _ :: _ :: _ :: L.eraseIdx k) := hS5
              refine OW_as rfl rfl ?_
              first
              | refine OW_storeR hS5 (k := 0) rfl (le_lit (ν := ν1) (a := [4, 0, 0, 1, 1, 0]) (b := [5, 0, 0, 1, 1, 0]) (by decide)) rfl rfl rfl rfl ⟨rfl, rfl, Nat.le_of_ble_eq_true rfl⟩ (set_whole rfl rfl) fun H6 hS6 => ?_
              | refine OW_storeR hS5 (k := 0) rfl (le_lit (ν := ν1) (a := [4, 0, 0, 1, 1, 0]) (b := [5, 0, 0, 1, 1, 0]) (by decide)) rfl rfl rfl rfl ⟨rfl, rfl, Nat.le_of_ble_eq_true rfl⟩ (u2 := .agg [_, _, _, _]) rfl fun H6 hS6 => ?_
              replace hS6 : Own _ _ _ (_ :: _ :: _ :: _ :: L.eraseIdx k) := hS6
              refine OW_nilE (e' := [_, _, _, _, _, _, _, _, _, _, _, _, _, _, _, _, _, _, _, _, _, _, _, _, _, _, _, _, _, _, _, _, _, _, _, _, _, _, _, _, _, _, _, _, _, _, _, _, _, _, _, _, _, _, _, _, _, _, _, _, _, _, _, _, _, _, _, _, _]) rfl ?_
              refine XW_sr ?_
              refine OW_fa rfl rfl rfl ?_
              refine OW_loadR hS6 (k := 2) rfl rfl rfl rfl rfl (by first | exact part_whole rfl rfl rfl | rfl) ?_
              refine OW_mv rfl rfl ?_
              refine OW_env (e' := [_, _, _, _, _, _, _, _, _, _, _, _, _, _, _, _, _, _, _, _, _, _, _, _, _, _, _, _, _, _, _, _, _, _, _, _, _, _, _, _, _, _, _, _, _, _, _, _, _, _, _, _, _, _, _, _, _, _, _, _, _, _, _, _, _, _, _, _, _]) rfl ?_
              first
              | refine OW_bin rfl rfl rfl rfl (shr_u64n (by omega)) ?_
              | refine OW_bin rfl rfl rfl rfl rfl ?_
              first
              | refine OW_bin rfl rfl rfl rfl (bit_u64n (hd _)) ?_
              | refine OW_bin rfl rfl rfl rfl rfl ?_
              refine OW_bin rfl rfl rfl rfl rfl ?_
              refine OW_env (e' := [_, _, _, _, _, _, _, _, _, _, _, _, _, _, _, _, _, _, _, _, _, _, _, _, _, _, _, _, _, _, _, _, _, _, _, _, _, _, _, _, _, _, _, _, _, _, _, _, _, _, _, _, _, _, _, _, _, _, _, _, _, _, _, _, _, _, _, _, _]) rfl ?_
              refine OW_mv rfl rfl ?_
              refine OW_split (tt := 63) rfl (fun g7_7 => ?_) (fun g7_7 => ?_)
              · try simp only [decide_eq_true_eq, decide_eq_false_iff_not, Bool.not_eq_true', Bool.not_eq_false', Bool.and_eq_true, Bool.or_eq_true, Bool.not_eq_true, Bool.not_eq_false, Decidable.not_not, bne_iff_ne, beq_iff_eq, List.length_append, List.length_cons, List.length_nil, List.length_drop, List.length_take] at g7_7
                refine OW_loadR hS6 (k := 0) rfl rfl rfl rfl rfl (by first | exact part_whole rfl rfl rfl | rfl) ?_
                refine OW_env (e' := [_, _, _, _, _, _, _, _, _, _, _, _, _, _, _, _, _, _, _, _, _, _, _, _, _, _, _, _, _, _, _, _, _, _, _, _, _, _, _, _, _, _, _, _, _, _, _, _, _, _, _, _, _, _, _, _, _, _, _, _, _, _, _, _, _, _, _, _, _]) rfl ?_
                refine OW_loadR hS6 (k := 1) rfl rfl rfl rfl rfl (by first | exact part_whole rfl rfl rfl | rfl) ?_
                refine OW_fn rfl rfl (ahead_c ?_) 
                refine OW_pick rfl rfl rfl ?_
                refine OW_nilE (e' := [_, _, _, _, _, _, _, _, _, _, _, _, _, _, _, _, _, _, _, _, _, _, _, _, _, _, _, _, _, _, _, _, _, _, _, _, _, _, _, _, _, _, _, _, _, _, _, _, _, _, _, _, _, _, _, _, _, _, _, _, _, _, _, _, _, _, _, _, _]) rfl ?_
                refine XW_if rfl (fun h7 => ?_) (fun h7 => ?_)
                · try simp only [decide_eq_true_eq, decide_eq_false_iff_not, Bool.not_eq_true', Bool.not_eq_false', Bool.and_eq_true, Bool.or_eq_true, Bool.not_eq_true, Bool.not_eq_false, Decidable.not_not, bne_iff_ne, beq_iff_eq, List.length_append, List.length_cons, List.length_nil, List.length_drop, List.length_take] at h7
                  refine XW_sr ?_
                  refine OW_as rfl rfl ?_
                  refine OW_nilE (e' := [_, _, _, _, _, _, _, _, _, _, _, _, _, _, _, _, _, _, _, _, _, _, _, _, _, _, _, _, _, _, _, _, _, _, _, _, _, _, _, _, _, _, _, _, _, _, _, _, _, _, _, _, _, _, _, _, _, _, _, _, _, _, _, _, _, _, _, _, _]) rfl ?_
                  refine XW_ret ?_
                  refine block_ret ?_
                  refine then_ret ?_
                  refine block_ret ?_
                  refine then_ret ?_
                  -- outcome 4
                  refine ret_ret (res1 rfl (rv_tmp rfl)) ?_
                  have hr := rok_eq (o := o) hi
                  have hfin : ∀ v : Bool, nxt l o i = v → ∀ H1, Own β pos' H1 (row q 4 [.agg [.lst (l.map Hop.enc), a, b, O]] :: L.eraseIdx k) → Q (.bool v) H1 := fun v e H1 h1 => e ▸ hq H1 (Own.cast (Own.unpick h1 hL) (set_get_self hL))
                  first | (have hv : nxt l o i = false := (by first | exact nx_no1 (bit_mem (by assumption)) | exact nx_no3 (k := j) (by omega) (bit_nmem0 (by assumption)) (by rw [ahI_eq (by omega) hi]; assumption) | exact nx_no2 (rok_no1 hi (by assumption) (by assumption)) | exact nx_no2 (rok_no2 hi (by assumption) (by assumption))); first | exact hfin _ hv _ (Own.drop0 (Own.drop0 (Own.mono hS6 (le_bef (bef_under (a := [6, 0, 0, 1, 1, 0]) hU1 (bef_app (a := [1, 0, 1, 1, 1]) hp)))))) | exact hfin _ hv _ (Own.drop0 (Own.drop0 (Own.drop0 (Own.mono hS6 (le_bef (bef_under (a := [6, 0, 0, 1, 1, 0]) hU1 (bef_app (a := [1, 0, 1, 1, 1]) hp)))))))) | (have hv : nxt l o i = true := nx_yes (bit_nmem (by assumption)) (by first | exact rok_y1 hi (by assumption) | exact rok_y2 hi (by assumption) (by assumption)) (fun z hz hzo => hI z (by omega) hzo); exact hfin _ hv _ (Own.drop0 (Own.drop0 (Own.mono hS6 (le_bef (bef_under (a := [6, 0, 0, 1, 1, 0]) hU1 (bef_app (a := [1, 0, 1, 1, 1]) hp)))))))
                · try simp only [decide_eq_true_eq, decide_eq_false_iff_not, Bool.not_eq_true', Bool.not_eq_false', Bool.and_eq_true, Bool.or_eq_true, Bool.not_eq_true, Bool.not_eq_false, Decidable.not_not, bne_iff_ne, beq_iff_eq, List.length_append, List.length_cons, List.length_nil, List.length_drop, List.length_take] at h7
                  refine XW_skip ?_
                  refine block_norm ?_
                  refine then_norm ?_
                  refine XW_region ?_
                  first
                  | refine OW_bin rfl rfl rfl rfl (add_w64 (by first | omega | assumption | (simp only [ByteArray.size_append, ByteArray.size_extract, List.length_map, List.length_append, List.length_cons, List.length_nil, List.length_drop, List.length_take]; omega))) ?_
                  | refine OW_bin rfl rfl rfl rfl rfl ?_
                  refine OW_mv rfl rfl ?_
                  refine OW_nilE (e' := [_, _, _, _, _, _, _, _, _, _, _, _, _, _, _, _, _, _, _, _, _, _, _, _, _, _, _, _, _, _, _, _, _, _, _, _, _, _, _, _, _, _, _, _, _, _, _, _, _, _, _, _, _, _, _, _, _, _, _, _, _, _, _, _, _, _, _, _, _]) rfl ?_
                  have hSd1 : Own _ _ _ (_ :: _ :: _ :: L.eraseIdx k) := (Own.drop hS6 (k := 0) rfl)
                  -- round 0.1
                  refine ⟨_, ?_, j + 1, rfl, under_in hU1, Own.cast (Own.mono (hSd1) (le_lit (ν := ν1) (a := [6, 0, 0, 1, 1, 0]) (b := [1]) (by decide))) (rfl), ?_, env_g rfl⟩
                  · first | omega | (simp; omega)
                  · exact ⟨by omega, fun z hz hzo => by by_cases e : z = j; (subst e; rw [ahI_eq (by omega) hi]; first | assumption | exact absurd (bit_mem0 (by assumption)) hzo); exact hI z (by omega) hzo⟩
              · try simp only [decide_eq_true_eq, decide_eq_false_iff_not, Bool.not_eq_true', Bool.not_eq_false', Bool.and_eq_true, Bool.or_eq_true, Bool.not_eq_true, Bool.not_eq_false, Decidable.not_not, bne_iff_ne, beq_iff_eq, List.length_append, List.length_cons, List.length_nil, List.length_drop, List.length_take] at g7_7
                refine OW_no rfl ?_
                refine OW_env (e' := [_, _, _, _, _, _, _, _, _, _, _, _, _, _, _, _, _, _, _, _, _, _, _, _, _, _, _, _, _, _, _, _, _, _, _, _, _, _, _, _, _, _, _, _, _, _, _, _, _, _, _, _, _, _, _, _, _, _, _, _, _, _, _, _, _, _, _, _, _]) rfl ?_
                refine OW_no rfl ?_
                refine OW_no rfl ?_
                refine OW_pick rfl rfl rfl ?_
                refine OW_nilE (e' := [_, _, _, _, _, _, _, _, _, _, _, _, _, _, _, _, _, _, _, _, _, _, _, _, _, _, _, _, _, _, _, _, _, _, _, _, _, _, _, _, _, _, _, _, _, _, _, _, _, _, _, _, _, _, _, _, _, _, _, _, _, _, _, _, _, _, _, _, _]) rfl ?_
                refine XW_no rfl rfl ?_
                refine XW_skip ?_
                refine block_norm ?_
                refine then_norm ?_
                refine XW_region ?_
                first
                | refine OW_bin rfl rfl rfl rfl (add_w64 (by first | omega | assumption | (simp only [ByteArray.size_append, ByteArray.size_extract, List.length_map, List.length_append, List.length_cons, List.length_nil, List.length_drop, List.length_take]; omega))) ?_
                | refine OW_bin rfl rfl rfl rfl rfl ?_
                refine OW_mv rfl rfl ?_
                refine OW_nilE (e' := [_, _, _, _, _, _, _, _, _, _, _, _, _, _, _, _, _, _, _, _, _, _, _, _, _, _, _, _, _, _, _, _, _, _, _, _, _, _, _, _, _, _, _, _, _, _, _, _, _, _, _, _, _, _, _, _, _, _, _, _, _, _, _, _, _, _, _, _, _]) rfl ?_
                have hSd2 : Own _ _ _ (_ :: _ :: _ :: L.eraseIdx k) := (Own.drop hS6 (k := 0) rfl)
                -- round 0.2
                refine ⟨_, ?_, j + 1, rfl, under_in hU1, Own.cast (Own.mono (hSd2) (le_lit (ν := ν1) (a := [6, 0, 0, 1, 1, 0]) (b := [1]) (by decide))) (rfl), ?_, env_g rfl⟩
                · first | omega | (simp; omega)
                · exact ⟨by omega, fun z hz hzo => by by_cases e : z = j; (subst e; rw [ahI_eq (by omega) hi]; first | assumption | exact absurd (bit_mem0 (by assumption)) hzo); exact hI z (by omega) hzo⟩
            · try simp only [decide_eq_true_eq, decide_eq_false_iff_not, Bool.not_eq_true', Bool.not_eq_false', Bool.and_eq_true, Bool.or_eq_true, Bool.not_eq_true, Bool.not_eq_false, Decidable.not_not, bne_iff_ne, beq_iff_eq, List.length_append, List.length_cons, List.length_nil, List.length_drop, List.length_take] at h5
              refine XW_exit ?_
              refine then_exit ?_
              refine block_exit ?_
              refine then_norm ?_
              refine XW_sr ?_
              refine OW_as rfl rfl ?_
              refine OW_nilE (e' := [_, _, _, _, _, _, _, _, _, _, _, _, _, _, _, _, _, _, _, _, _, _, _, _, _, _, _, _, _, _, _, _, _, _, _, _, _, _, _, _, _, _, _, _, _, _, _, _, _, _, _, _, _, _, _, _, _, _, _, _, _, _, _, _, _, _, _, _, _]) rfl ?_
              refine XW_ret ?_
              -- outcome 5
              refine ret_ret (res1 rfl (rv_tmp rfl)) ?_
              have hr := rok_eq (o := o) hi
              have hfin : ∀ v : Bool, nxt l o i = v → ∀ H1, Own β pos' H1 (row q 4 [.agg [.lst (l.map Hop.enc), a, b, O]] :: L.eraseIdx k) → Q (.bool v) H1 := fun v e H1 h1 => e ▸ hq H1 (Own.cast (Own.unpick h1 hL) (set_get_self hL))
              first | (have hv : nxt l o i = false := (by first | exact nx_no1 (bit_mem (by assumption)) | exact nx_no3 (k := j) (by omega) (bit_nmem0 (by assumption)) (by rw [ahI_eq (by omega) hi]; assumption) | exact nx_no2 (rok_no1 hi (by assumption) (by assumption)) | exact nx_no2 (rok_no2 hi (by assumption) (by assumption))); first | exact hfin _ hv _ (Own.drop0 (Own.drop0 (Own.mono hS4 (le_bef (bef_under (a := []) hU1 (bef_app (a := [1, 0, 1, 1, 1]) hp)))))) | exact hfin _ hv _ (Own.drop0 (Own.drop0 (Own.drop0 (Own.mono hS4 (le_bef (bef_under (a := []) hU1 (bef_app (a := [1, 0, 1, 1, 1]) hp)))))))) | (have hv : nxt l o i = true := nx_yes (bit_nmem (by assumption)) (by first | exact rok_y1 hi (by assumption) | exact rok_y2 hi (by assumption) (by assumption)) (fun z hz hzo => hI z (by omega) hzo); exact hfin _ hv _ (Own.drop0 (Own.drop0 (Own.mono hS4 (le_bef (bef_under (a := []) hU1 (bef_app (a := [1, 0, 1, 1, 1]) hp)))))))
        · try simp only [decide_eq_true_eq, decide_eq_false_iff_not, Bool.not_eq_true', Bool.not_eq_false', Bool.and_eq_true, Bool.or_eq_true, Bool.not_eq_true, Bool.not_eq_false, Decidable.not_not, bne_iff_ne, beq_iff_eq, List.length_append, List.length_cons, List.length_nil, List.length_drop, List.length_take] at g2_21
          refine OWF_op rfl ?_
          refine OW_no rfl ?_
          refine OW_nil ?_
          refine OWF_fl rfl ?_
          refine OW_no rfl ?_
          refine OW_nil ?_
          refine OWF_env (e' := [_, _, _, _, _, _, _, _, _, _, _, _, _, _, _, _, _, _, _, _, _, _, _, _, _, _, _, _, _, _, _, _, _, _, _, _, _, _, _, _, _, _, _, _, _, _, _, _, _, _, _, _, _, _, _, _, _, _, _, _, _, _, _, _, _, _, _, _, _]) rfl ?_
          refine OWF_op rfl ?_
          refine OW_no rfl ?_
          refine OW_nil ?_
          refine OWF_op rfl ?_
          refine OW_no rfl ?_
          refine OW_nil ?_
          refine OWF_fl rfl ?_
          refine OW_no rfl ?_
          refine OW_nil ?_
          refine OWF_env (e' := [_, _, _, _, _, _, _, _, _, _, _, _, _, _, _, _, _, _, _, _, _, _, _, _, _, _, _, _, _, _, _, _, _, _, _, _, _, _, _, _, _, _, _, _, _, _, _, _, _, _, _, _, _, _, _, _, _, _, _, _, _, _, _, _, _, _, _, _, _]) rfl ?_
          refine OWF_op rfl ?_
          refine OW_no rfl ?_
          refine OW_nil ?_
          refine OWF_op rfl ?_
          refine OW_no rfl ?_
          refine OW_nil ?_
          refine OWF_op rfl ?_
          refine OW_pick rfl rfl rfl ?_
          refine OW_nil ?_
          refine OWF_env (e' := [_, _, _, _, _, _, _, _, _, _, _, _, _, _, _, _, _, _, _, _, _, _, _, _, _, _, _, _, _, _, _, _, _, _, _, _, _, _, _, _, _, _, _, _, _, _, _, _, _, _, _, _, _, _, _, _, _, _, _, _, _, _, _, _, _, _, _, _, _]) rfl ?_
          refine OWF_op rfl ?_
          refine OW_pick rfl rfl rfl ?_
          refine OW_nil ?_
          refine OWF_nilE (e' := [_, _, _, _, _, _, _, _, _, _, _, _, _, _, _, _, _, _, _, _, _, _, _, _, _, _, _, _, _, _, _, _, _, _, _, _, _, _, _, _, _, _, _, _, _, _, _, _, _, _, _, _, _, _, _, _, _, _, _, _, _, _, _, _, _, _, _, _, _]) rfl ?_
          have hSB4 : Own _ _ _ (_ :: _ :: _ :: L.eraseIdx k) := (Own.back hS3 (k := 1) rfl (Own.back hS3 (k := 0) rfl (Own.back0 hSF1) (k' := 0) rfl) (k' := 1) rfl)
          refine XW_no rfl rfl ?_
          refine XW_skip ?_
          refine then_norm ?_
          refine XW_seq ?_
          refine XW_sr ?_
          refine OW_mv rfl rfl ?_
          first
          | refine OW_nc rfl rfl ?_
          | refine OW_nce rfl rfl ?_
          refine OW_fa rfl rfl rfl ?_
          refine OW_env (e' := [_, _, _, _, _, _, _, _, _, _, _, _, _, _, _, _, _, _, _, _, _, _, _, _, _, _, _, _, _, _, _, _, _, _, _, _, _, _, _, _, _, _, _, _, _, _, _, _, _, _, _, _, _, _, _, _, _, _, _, _, _, _, _, _, _, _, _, _, _]) rfl ?_
          refine OW_loadR hSB4 (k := 2) rfl rfl rfl rfl rfl (by first | exact part_whole rfl rfl rfl | rfl) ?_
          first
          | refine OW_lenL rfl rfl (by first | assumption | exact Ls.of | exact Ls.emp | exact Ls.nls) rfl rfl rfl (by first | exact List.length_map _ | rfl) ?_
          | refine OW_bi rfl rfl rfl ?_
          refine OW_mv rfl rfl ?_
          refine OW_nilE (e' := [_, _, _, _, _, _, _, _, _, _, _, _, _, _, _, _, _, _, _, _, _, _, _, _, _, _, _, _, _, _, _, _, _, _, _, _, _, _, _, _, _, _, _, _, _, _, _, _, _, _, _, _, _, _, _, _, _, _, _, _, _, _, _, _, _, _, _, _, _]) rfl ?_
          refine XW_block ?_
          refine XW_whileN (I := fun ν' mm ee H' => ∃ (j : Nat), mm = l.length - j ∧ under (1 :: 0 :: 1 :: 1 :: 1 :: ν) ν' = true ∧ Own β ν' H' (row (7 :: 0 :: 1 :: ν) 4 [l[i].enc] :: row (0 :: 0 :: ν) 2 [.agg [.int .u64 (mask o : Int), .int .i64 (lastI l o)]] :: row q 4 [.agg [.lst (l.map Hop.enc), a, b, O]] :: L.eraseIdx k) ∧ (j ≤ l.length ∧ ∀ z, z < j → z ∉ o → ahI l z i = false) ∧ ∃ g : Nat → AVal, ee = [.ptr q 0 0, .agg [.int .u64 (mask o : Int), .int .i64 (lastI l o)], g 2, g 3, .ptr (0 :: 0 :: ν) 0 0, g 5, g 6, .ptr (7 :: 0 :: 1 :: ν) 0 0, g 8, g 9, g 10, g 11, g 12, g 13, g 14, g 15, g 16, g 17, g 18, g 19, g 20, g 21, g 22, g 23, g 24, g 25, g 26, g 27, g 28, g 29, g 30, g 31, g 32, g 33, g 34, g 35, g 36, g 37, g 38, g 39, g 40, g 41, g 42, g 43, g 44, g 45, g 46, g 47, g 48, g 49, .lst (l.map Hop.enc), .int .i64 l.length, .int .i64 j, g 53, g 54, g 55, g 56, g 57, g 58, g 59, g 60, g 61, g 62, g 63, g 64, g 65, g 66, g 67, g 68]) ?_ _ _ _ _ ⟨0, rfl, under_me, Own.cast (Own.mono (hSB4) (le_lit (ν := ν) (a := [9, 0, 1]) (b := [1, 0, 1, 1, 1]) (by decide))) (rfl), (⟨by omega, fun z hz => by omega⟩), env_g rfl⟩
          rintro ν2 mm ee H7 ⟨j, rfl, hU2, hS7, ⟨hj, hI⟩, g2, rfl⟩
          refine XW_sr ?_
          refine OW_bin rfl rfl rfl rfl rfl ?_
          refine OW_nilE (e' := [_, _, _, _, _, _, _, _, _, _, _, _, _, _, _, _, _, _, _, _, _, _, _, _, _, _, _, _, _, _, _, _, _, _, _, _, _, _, _, _, _, _, _, _, _, _, _, _, _, _, _, _, _, _, _, _, _, _, _, _, _, _, _, _, _, _, _, _, _]) rfl ?_
          refine XW_seq ?_
          refine XW_if rfl (fun h5 => ?_) (fun h5 => ?_)
          · try simp only [decide_eq_true_eq, decide_eq_false_iff_not, Bool.not_eq_true', Bool.not_eq_false', Bool.and_eq_true, Bool.or_eq_true, Bool.not_eq_true, Bool.not_eq_false, Decidable.not_not, bne_iff_ne, beq_iff_eq, List.length_append, List.length_cons, List.length_nil, List.length_drop, List.length_take] at h5
            refine XW_skip ?_
            refine then_norm ?_
            refine XW_seq ?_
            refine XW_block ?_
            refine XW_sr ?_
            refine OW_mv rfl rfl ?_
            first
            | refine OW_iaL rfl rfl rfl Ls.of rfl rfl rfl (by first | rfl | exact (Int.toNat_of_nonneg (by omega)).symm) (by first | assumption | exact at_map (by first | assumption | omega) | exact at_lst (by omega) | rfl) rfl ?_
            | refine OW_iaL rfl rfl rfl (by assumption) rfl rfl rfl (by first | rfl | exact (Int.toNat_of_nonneg (by omega)).symm) (by first | assumption | exact at_map (by first | assumption | omega) | exact at_lst (by omega) | rfl) rfl ?_
            refine OW_loadE rfl rfl rfl (by first | exact part_whole rfl rfl rfl | rfl) ?_
            refine OW_env (e' := [_, _, _, _, _, _, _, _, _, _, _, _, _, _, _, _, _, _, _, _, _, _, _, _, _, _, _, _, _, _, _, _, _, _, _, _, _, _, _, _, _, _, _, _, _, _, _, _, _, _, _, _, _, _, _, _, _, _, _, _, _, _, _, _, _, _, _, _, _]) rfl ?_
            refine OW_allocR hS7 (le_app (p := ν2) (b := [3, 0, 0, 1, 1, 0])) (under_app [3, 0, 0, 1, 1, 0] (under_trans (under_app [1, 0, 1, 1, 1] hβ) hU2)) rfl rfl rfl rfl fun H8 hS8 => ?_
            replace hS8 : Own _ _ _ (_ :: _ :: _ :: _ :: L.eraseIdx k) := hS8
            refine OW_as rfl rfl ?_
            first
            | refine OW_storeR hS8 (k := 0) rfl (le_lit (ν := ν2) (a := [4, 0, 0, 1, 1, 0]) (b := [5, 0, 0, 1, 1, 0]) (by decide)) rfl rfl rfl rfl ⟨rfl, rfl, Nat.le_of_ble_eq_true rfl⟩ (set_whole rfl rfl) fun H9 hS9 => ?_
            | refine OW_storeR hS8 (k := 0) rfl (le_lit (ν := ν2) (a := [4, 0, 0, 1, 1, 0]) (b := [5, 0, 0, 1, 1, 0]) (by decide)) rfl rfl rfl rfl ⟨rfl, rfl, Nat.le_of_ble_eq_true rfl⟩ (u2 := .agg [_, _, _, _]) rfl fun H9 hS9 => ?_
            replace hS9 : Own _ _ _ (_ :: _ :: _ :: _ :: L.eraseIdx k) := hS9
            refine OW_nilE (e' := [_, _, _, _, _, _, _, _, _, _, _, _, _, _, _, _, _, _, _, _, _, _, _, _, _, _, _, _, _, _, _, _, _, _, _, _, _, _, _, _, _, _, _, _, _, _, _, _, _, _, _, _, _, _, _, _, _, _, _, _, _, _, _, _, _, _, _, _, _]) rfl ?_
            refine XW_sr ?_
            refine OW_fa rfl rfl rfl ?_
            refine OW_loadR hS9 (k := 2) rfl rfl rfl rfl rfl (by first | exact part_whole rfl rfl rfl | rfl) ?_
            refine OW_mv rfl rfl ?_
            refine OW_env (e' := [_, _, _, _, _, _, _, _, _, _, _, _, _, _, _, _, _, _, _, _, _, _, _, _, _, _, _, _, _, _, _, _, _, _, _, _, _, _, _, _, _, _, _, _, _, _, _, _, _, _, _, _, _, _, _, _, _, _, _, _, _, _, _, _, _, _, _, _, _]) rfl ?_
            first
            | refine OW_bin rfl rfl rfl rfl (shr_u64n (by omega)) ?_
            | refine OW_bin rfl rfl rfl rfl rfl ?_
            first
            | refine OW_bin rfl rfl rfl rfl (bit_u64n (hd _)) ?_
            | refine OW_bin rfl rfl rfl rfl rfl ?_
            refine OW_bin rfl rfl rfl rfl rfl ?_
            refine OW_env (e' := [_, _, _, _, _, _, _, _, _, _, _, _, _, _, _, _, _, _, _, _, _, _, _, _, _, _, _, _, _, _, _, _, _, _, _, _, _, _, _, _, _, _, _, _, _, _, _, _, _, _, _, _, _, _, _, _, _, _, _, _, _, _, _, _, _, _, _, _, _]) rfl ?_
            refine OW_mv rfl rfl ?_
            refine OW_split (tt := 63) rfl (fun g7_7 => ?_) (fun g7_7 => ?_)
            · try simp only [decide_eq_true_eq, decide_eq_false_iff_not, Bool.not_eq_true', Bool.not_eq_false', Bool.and_eq_true, Bool.or_eq_true, Bool.not_eq_true, Bool.not_eq_false, Decidable.not_not, bne_iff_ne, beq_iff_eq, List.length_append, List.length_cons, List.length_nil, List.length_drop, List.length_take] at g7_7
              refine OW_loadR hS9 (k := 0) rfl rfl rfl rfl rfl (by first | exact part_whole rfl rfl rfl | rfl) ?_
              refine OW_env (e' := [_, _, _, _, _, _, _, _, _, _, _, _, _, _, _, _, _, _, _, _, _, _, _, _, _, _, _, _, _, _, _, _, _, _, _, _, _, _, _, _, _, _, _, _, _, _, _, _, _, _, _, _, _, _, _, _, _, _, _, _, _, _, _, _, _, _, _, _, _]) rfl ?_
              refine OW_loadR hS9 (k := 1) rfl rfl rfl rfl rfl (by first | exact part_whole rfl rfl rfl | rfl) ?_
              refine OW_fn rfl rfl (ahead_c ?_) 
              refine OW_pick rfl rfl rfl ?_
              refine OW_nilE (e' := [_, _, _, _, _, _, _, _, _, _, _, _, _, _, _, _, _, _, _, _, _, _, _, _, _, _, _, _, _, _, _, _, _, _, _, _, _, _, _, _, _, _, _, _, _, _, _, _, _, _, _, _, _, _, _, _, _, _, _, _, _, _, _, _, _, _, _, _, _]) rfl ?_
              refine XW_if rfl (fun h7 => ?_) (fun h7 => ?_)
              · try simp only [decide_eq_true_eq, decide_eq_false_iff_not, Bool.not_eq_true', Bool.not_eq_false', Bool.and_eq_true, Bool.or_eq_true, Bool.not_eq_true, Bool.not_eq_false, Decidable.not_not, bne_iff_ne, beq_iff_eq, List.length_append, List.length_cons, List.length_nil, List.length_drop, List.length_take] at h7
                refine XW_sr ?_
                refine OW_as rfl rfl ?_
                refine OW_nilE (e' := [_, _, _, _, _, _, _, _, _, _, _, _, _, _, _, _, _, _, _, _, _, _, _, _, _, _, _, _, _, _, _, _, _, _, _, _, _, _, _, _, _, _, _, _, _, _, _, _, _, _, _, _, _, _, _, _, _, _, _, _, _, _, _, _, _, _, _, _, _]) rfl ?_
                refine XW_ret ?_
                refine block_ret ?_
                refine then_ret ?_
                refine block_ret ?_
                refine then_ret ?_
                -- outcome 6
                refine ret_ret (res1 rfl (rv_tmp rfl)) ?_
                have hr := rok_eq (o := o) hi
                have hfin : ∀ v : Bool, nxt l o i = v → ∀ H1, Own β pos' H1 (row q 4 [.agg [.lst (l.map Hop.enc), a, b, O]] :: L.eraseIdx k) → Q (.bool v) H1 := fun v e H1 h1 => e ▸ hq H1 (Own.cast (Own.unpick h1 hL) (set_get_self hL))
                first | (have hv : nxt l o i = false := (by first | exact nx_no1 (bit_mem (by assumption)) | exact nx_no3 (k := j) (by omega) (bit_nmem0 (by assumption)) (by rw [ahI_eq (by omega) hi]; assumption) | exact nx_no2 (rok_no1 hi (by assumption) (by assumption)) | exact nx_no2 (rok_no2 hi (by assumption) (by assumption))); first | exact hfin _ hv _ (Own.drop0 (Own.drop0 (Own.mono hS9 (le_bef (bef_under (a := [6, 0, 0, 1, 1, 0]) hU2 (bef_app (a := [1, 0, 1, 1, 1]) hp)))))) | exact hfin _ hv _ (Own.drop0 (Own.drop0 (Own.drop0 (Own.mono hS9 (le_bef (bef_under (a := [6, 0, 0, 1, 1, 0]) hU2 (bef_app (a := [1, 0, 1, 1, 1]) hp)))))))) | (have hv : nxt l o i = true := nx_yes (bit_nmem (by assumption)) (by first | exact rok_y1 hi (by assumption) | exact rok_y2 hi (by assumption) (by assumption)) (fun z hz hzo => hI z (by omega) hzo); exact hfin _ hv _ (Own.drop0 (Own.drop0 (Own.mono hS9 (le_bef (bef_under (a := [6, 0, 0, 1, 1, 0]) hU2 (bef_app (a := [1, 0, 1, 1, 1]) hp)))))))
              · try simp only [decide_eq_true_eq, decide_eq_false_iff_not, Bool.not_eq_true', Bool.not_eq_false', Bool.and_eq_true, Bool.or_eq_true, Bool.not_eq_true, Bool.not_eq_false, Decidable.not_not, bne_iff_ne, beq_iff_eq, List.length_append, List.length_cons, List.length_nil, List.length_drop, List.length_take] at h7
                refine XW_skip ?_
                refine block_norm ?_
                refine then_norm ?_
                refine XW_region ?_
                first
                | refine OW_bin rfl rfl rfl rfl (add_w64 (by first | omega | assumption | (simp only [ByteArray.size_append, ByteArray.size_extract, List.length_map, List.length_append, List.length_cons, List.length_nil, List.length_drop, List.length_take]; omega))) ?_
                | refine OW_bin rfl rfl rfl rfl rfl ?_
                refine OW_mv rfl rfl ?_
                refine OW_nilE (e' := [_, _, _, _, _, _, _, _, _, _, _, _, _, _, _, _, _, _, _, _, _, _, _, _, _, _, _, _, _, _, _, _, _, _, _, _, _, _, _, _, _, _, _, _, _, _, _, _, _, _, _, _, _, _, _, _, _, _, _, _, _, _, _, _, _, _, _, _, _]) rfl ?_
                have hSd3 : Own _ _ _ (_ :: _ :: _ :: L.eraseIdx k) := (Own.drop hS9 (k := 0) rfl)
                -- round 0.3
                refine ⟨_, ?_, j + 1, rfl, under_in hU2, Own.cast (Own.mono (hSd3) (le_lit (ν := ν2) (a := [6, 0, 0, 1, 1, 0]) (b := [1]) (by decide))) (rfl), ?_, env_g rfl⟩
                · first | omega | (simp; omega)
                · exact ⟨by omega, fun z hz hzo => by by_cases e : z = j; (subst e; rw [ahI_eq (by omega) hi]; first | assumption | exact absurd (bit_mem0 (by assumption)) hzo); exact hI z (by omega) hzo⟩
            · try simp only [decide_eq_true_eq, decide_eq_false_iff_not, Bool.not_eq_true', Bool.not_eq_false', Bool.and_eq_true, Bool.or_eq_true, Bool.not_eq_true, Bool.not_eq_false, Decidable.not_not, bne_iff_ne, beq_iff_eq, List.length_append, List.length_cons, List.length_nil, List.length_drop, List.length_take] at g7_7
              refine OW_no rfl ?_
              refine OW_env (e' := [_, _, _, _, _, _, _, _, _, _, _, _, _, _, _, _, _, _, _, _, _, _, _, _, _, _, _, _, _, _, _, _, _, _, _, _, _, _, _, _, _, _, _, _, _, _, _, _, _, _, _, _, _, _, _, _, _, _, _, _, _, _, _, _, _, _, _, _, _]) rfl ?_
              refine OW_no rfl ?_
              refine OW_no rfl ?_
              refine OW_pick rfl rfl rfl ?_
              refine OW_nilE (e' := [_, _, _, _, _, _, _, _, _, _, _, _, _, _, _, _, _, _, _, _, _, _, _, _, _, _, _, _, _, _, _, _, _, _, _, _, _, _, _, _, _, _, _, _, _, _, _, _, _, _, _, _, _, _, _, _, _, _, _, _, _, _, _, _, _, _, _, _, _]) rfl ?_
              refine XW_no rfl rfl ?_
              refine XW_skip ?_
              refine block_norm ?_
              refine then_norm ?_
              refine XW_region ?_
              first
              | refine OW_bin rfl rfl rfl rfl (add_w64 (by first | omega | assumption | (simp only [ByteArray.size_append, ByteArray.size_extract, List.length_map, List.length_append, List.length_cons, List.length_nil, List.length_drop, List.length_take]; omega))) ?_
              | refine OW_bin rfl rfl rfl rfl rfl ?_
              refine OW_mv rfl rfl ?_
              refine OW_nilE (e' := [_, _, _, _, _, _, _, _, _, _, _, _, _, _, _, _, _, _, _, _, _, _, _, _, _, _, _, _, _, _, _, _, _, _, _, _, _, _, _, _, _, _, _, _, _, _, _, _, _, _, _, _, _, _, _, _, _, _, _, _, _, _, _, _, _, _, _, _, _]) rfl ?_
              have hSd4 : Own _ _ _ (_ :: _ :: _ :: L.eraseIdx k) := (Own.drop hS9 (k := 0) rfl)
              -- round 0.4
              refine ⟨_, ?_, j + 1, rfl, under_in hU2, Own.cast (Own.mono (hSd4) (le_lit (ν := ν2) (a := [6, 0, 0, 1, 1, 0]) (b := [1]) (by decide))) (rfl), ?_, env_g rfl⟩
              · first | omega | (simp; omega)
              · exact ⟨by omega, fun z hz hzo => by by_cases e : z = j; (subst e; rw [ahI_eq (by omega) hi]; first | assumption | exact absurd (bit_mem0 (by assumption)) hzo); exact hI z (by omega) hzo⟩
          · try simp only [decide_eq_true_eq, decide_eq_false_iff_not, Bool.not_eq_true', Bool.not_eq_false', Bool.and_eq_true, Bool.or_eq_true, Bool.not_eq_true, Bool.not_eq_false, Decidable.not_not, bne_iff_ne, beq_iff_eq, List.length_append, List.length_cons, List.length_nil, List.length_drop, List.length_take] at h5
            refine XW_exit ?_
            refine then_exit ?_
            refine block_exit ?_
            refine then_norm ?_
            refine XW_sr ?_
            refine OW_as rfl rfl ?_
            refine OW_nilE (e' := [_, _, _, _, _, _, _, _, _, _, _, _, _, _, _, _, _, _, _, _, _, _, _, _, _, _, _, _, _, _, _, _, _, _, _, _, _, _, _, _, _, _, _, _, _, _, _, _, _, _, _, _, _, _, _, _, _, _, _, _, _, _, _, _, _, _, _, _, _]) rfl ?_
            refine XW_ret ?_
            -- outcome 7
            refine ret_ret (res1 rfl (rv_tmp rfl)) ?_
            have hr := rok_eq (o := o) hi
            have hfin : ∀ v : Bool, nxt l o i = v → ∀ H1, Own β pos' H1 (row q 4 [.agg [.lst (l.map Hop.enc), a, b, O]] :: L.eraseIdx k) → Q (.bool v) H1 := fun v e H1 h1 => e ▸ hq H1 (Own.cast (Own.unpick h1 hL) (set_get_self hL))
            first | (have hv : nxt l o i = false := (by first | exact nx_no1 (bit_mem (by assumption)) | exact nx_no3 (k := j) (by omega) (bit_nmem0 (by assumption)) (by rw [ahI_eq (by omega) hi]; assumption) | exact nx_no2 (rok_no1 hi (by assumption) (by assumption)) | exact nx_no2 (rok_no2 hi (by assumption) (by assumption))); first | exact hfin _ hv _ (Own.drop0 (Own.drop0 (Own.mono hS7 (le_bef (bef_under (a := []) hU2 (bef_app (a := [1, 0, 1, 1, 1]) hp)))))) | exact hfin _ hv _ (Own.drop0 (Own.drop0 (Own.drop0 (Own.mono hS7 (le_bef (bef_under (a := []) hU2 (bef_app (a := [1, 0, 1, 1, 1]) hp)))))))) | (have hv : nxt l o i = true := nx_yes (bit_nmem (by assumption)) (by first | exact rok_y1 hi (by assumption) | exact rok_y2 hi (by assumption) (by assumption)) (fun z hz hzo => hI z (by omega) hzo); exact hfin _ hv _ (Own.drop0 (Own.drop0 (Own.mono hS7 (le_bef (bef_under (a := []) hU2 (bef_app (a := [1, 0, 1, 1, 1]) hp)))))))
    · try simp only [decide_eq_true_eq, decide_eq_false_iff_not, Bool.not_eq_true', Bool.not_eq_false', Bool.and_eq_true, Bool.or_eq_true, Bool.not_eq_true, Bool.not_eq_false, Decidable.not_not, bne_iff_ne, beq_iff_eq, List.length_append, List.length_cons, List.length_nil, List.length_drop, List.length_take] at g2_11
      refine OWF_op rfl ?_
      refine OW_no rfl ?_
      refine OW_nil ?_
      refine OWF_fl rfl ?_
      refine OW_no rfl ?_
      refine OW_nil ?_
      refine OWF_env (e' := [_, _, _, _, _, _, _, _, _, _, _, _, _, _, _, _, _, _, _, _, _, _, _, _, _, _, _, _, _, _, _, _, _, _, _, _, _, _, _, _, _, _, _, _, _, _, _, _, _, _, _, _, _, _, _, _, _, _, _, _, _, _, _, _, _, _, _, _, _]) rfl ?_
      refine OWF_op rfl ?_
      refine OW_no rfl ?_
      refine OW_nil ?_
      refine OWF_op rfl ?_
      refine OW_pick rfl rfl rfl ?_
      refine OW_nil ?_
      refine OWF_op rfl ?_
      refine OW_pick rfl rfl rfl ?_
      refine OW_nil ?_
      refine OWF_env (e' := [_, _, _, _, _, _, _, _, _, _, _, _, _, _, _, _, _, _, _, _, _, _, _, _, _, _, _, _, _, _, _, _, _, _, _, _, _, _, _, _, _, _, _, _, _, _, _, _, _, _, _, _, _, _, _, _, _, _, _, _, _, _, _, _, _, _, _, _, _]) rfl ?_
      refine OWF_op rfl ?_
      refine OW_mv rfl rfl ?_
      refine OW_nil ?_
      refine OWF_op rfl ?_
      refine OW_fa rfl rfl rfl ?_
      refine OW_nil ?_
      refine OWF_fl rfl ?_
      refine OW_loadK hS3 (k := 0) rfl (by simp) rfl rfl rfl rfl (by first | exact part_whole rfl rfl rfl | rfl) ?_
      refine OW_nil ?_
      refine OWF_env (e' := [_, _, _, _, _, _, _, _, _, _, _, _, _, _, _, _, _, _, _, _, _, _, _, _, _, _, _, _, _, _, _, _, _, _, _, _, _, _, _, _, _, _, _, _, _, _, _, _, _, _, _, _, _, _, _, _, _, _, _, _, _, _, _, _, _, _, _, _, _]) rfl ?_
      refine OWF_op rfl ?_
      refine OW_un rfl rfl rfl ?_
      refine OW_nil ?_
      refine OWF_op rfl ?_
      refine OW_mv rfl rfl ?_
      refine OW_nil ?_
      refine OWF_split (tt := 37) rfl (fun g2_21 => ?_) (fun g2_21 => ?_)
      · try simp only [decide_eq_true_eq, decide_eq_false_iff_not, Bool.not_eq_true', Bool.not_eq_false', Bool.and_eq_true, Bool.or_eq_true, Bool.not_eq_true, Bool.not_eq_false, Decidable.not_not, bne_iff_ne, beq_iff_eq, List.length_append, List.length_cons, List.length_nil, List.length_drop, List.length_take] at g2_21
        refine OWF_env (e' := [_, _, _, _, _, _, _, _, _, _, _, _, _, _, _, _, _, _, _, _, _, _, _, _, _, _, _, _, _, _, _, _, _, _, _, _, _, _, _, _, _, _, _, _, _, _, _, _, _, _, _, _, _, _, _, _, _, _, _, _, _, _, _, _, _, _, _, _, _]) rfl ?_
        refine OWF_op rfl ?_
        refine OW_fa rfl rfl rfl ?_
        refine OW_nil ?_
        refine OWF_fl rfl ?_
        refine OW_loadK hS3 (k := 0) rfl (by simp) rfl rfl rfl rfl (by first | exact part_whole rfl rfl rfl | rfl) ?_
        refine OW_nil ?_
        refine OWF_op rfl ?_
        refine OW_mv rfl rfl ?_
        refine OW_nil ?_
        refine OWF_env (e' := [_, _, _, _, _, _, _, _, _, _, _, _, _, _, _, _, _, _, _, _, _, _, _, _, _, _, _, _, _, _, _, _, _, _, _, _, _, _, _, _, _, _, _, _, _, _, _, _, _, _, _, _, _, _, _, _, _, _, _, _, _, _, _, _, _, _, _, _, _]) rfl ?_
        refine OWF_op rfl ?_
        refine OW_fa rfl rfl rfl ?_
        refine OW_nil ?_
        refine OWF_fl rfl ?_
        refine OW_loadK hS3 (k := 1) rfl (by simp) rfl rfl rfl rfl (by first | exact part_whole rfl rfl rfl | rfl) ?_
        refine OW_nil ?_
        refine OWF_op rfl ?_
        refine OW_fn rfl rfl (text_c (Own.rowAt hSF1 (k := 2) rfl) hla.2 ?_) 
        refine OW_nil ?_
        refine OWF_env (e' := [_, _, _, _, _, _, _, _, _, _, _, _, _, _, _, _, _, _, _, _, _, _, _, _, _, _, _, _, _, _, _, _, _, _, _, _, _, _, _, _, _, _, _, _, _, _, _, _, _, _, _, _, _, _, _, _, _, _, _, _, _, _, _, _, _, _, _, _, _]) rfl ?_
        refine OWF_op rfl ?_
        refine OW_bin rfl rfl rfl rfl rfl ?_
        refine OW_nil ?_
        refine OWF_op rfl ?_
        refine OW_pick rfl rfl rfl ?_
        refine OW_nil ?_
        refine OWF_op rfl ?_
        refine OW_pick rfl rfl rfl ?_
        refine OW_nil ?_
        refine OWF_nilE (e' := [_, _, _, _, _, _, _, _, _, _, _, _, _, _, _, _, _, _, _, _, _, _, _, _, _, _, _, _, _, _, _, _, _, _, _, _, _, _, _, _, _, _, _, _, _, _, _, _, _, _, _, _, _, _, _, _, _, _, _, _, _, _, _, _, _, _, _, _, _]) rfl ?_
        have hSB5 : Own _ _ _ (_ :: _ :: _ :: L.eraseIdx k) := (Own.back hS3 (k := 1) rfl (Own.back hS3 (k := 0) rfl (Own.back0 hSF1) (k' := 0) rfl) (k' := 1) rfl)
        refine XW_if rfl (fun h2 => ?_) (fun h2 => ?_)
        · try simp only [decide_eq_true_eq, decide_eq_false_iff_not, Bool.not_eq_true', Bool.not_eq_false', Bool.and_eq_true, Bool.or_eq_true, Bool.not_eq_true, Bool.not_eq_false, Decidable.not_not, bne_iff_ne, beq_iff_eq, List.length_append, List.length_cons, List.length_nil, List.length_drop, List.length_take] at h2
          refine XW_sr ?_
          refine OW_as rfl rfl ?_
          refine OW_nilE (e' := [_, _, _, _, _, _, _, _, _, _, _, _, _, _, _, _, _, _, _, _, _, _, _, _, _, _, _, _, _, _, _, _, _, _, _, _, _, _, _, _, _, _, _, _, _, _, _, _, _, _, _, _, _, _, _, _, _, _, _, _, _, _, _, _, _, _, _, _, _]) rfl ?_
          refine XW_ret ?_
          refine then_ret ?_
          -- outcome 8
          refine ret_ret (res1 rfl (rv_tmp rfl)) ?_
          have hr := rok_eq (o := o) hi
          have hfin : ∀ v : Bool, nxt l o i = v → ∀ H1, Own β pos' H1 (row q 4 [.agg [.lst (l.map Hop.enc), a, b, O]] :: L.eraseIdx k) → Q (.bool v) H1 := fun v e H1 h1 => e ▸ hq H1 (Own.cast (Own.unpick h1 hL) (set_get_self hL))
          first | (have hv : nxt l o i = false := (by first | exact nx_no1 (bit_mem (by assumption)) | exact nx_no3 (k := j) (by omega) (bit_nmem0 (by assumption)) (by rw [ahI_eq (by omega) hi]; assumption) | exact nx_no2 (rok_no1 hi (by assumption) (by assumption)) | exact nx_no2 (rok_no2 hi (by assumption) (by assumption))); first | exact hfin _ hv _ (Own.drop0 (Own.drop0 (Own.mono hSB5 (le_bef (bef_app (a := [9, 0, 1]) hp))))) | exact hfin _ hv _ (Own.drop0 (Own.drop0 (Own.drop0 (Own.mono hSB5 (le_bef (bef_app (a := [9, 0, 1]) hp))))))) | (have hv : nxt l o i = true := nx_yes (bit_nmem (by assumption)) (by first | exact rok_y1 hi (by assumption) | exact rok_y2 hi (by assumption) (by assumption)) (fun z hz hzo => hI z (by omega) hzo); exact hfin _ hv _ (Own.drop0 (Own.drop0 (Own.mono hSB5 (le_bef (bef_app (a := [9, 0, 1]) hp))))))
        · try simp only [decide_eq_true_eq, decide_eq_false_iff_not, Bool.not_eq_true', Bool.not_eq_false', Bool.and_eq_true, Bool.or_eq_true, Bool.not_eq_true, Bool.not_eq_false, Decidable.not_not, bne_iff_ne, beq_iff_eq, List.length_append, List.length_cons, List.length_nil, List.length_drop, List.length_take] at h2
          refine XW_skip ?_
          refine then_norm ?_
          refine XW_seq ?_
          refine XW_sr ?_
          refine OW_mv rfl rfl ?_
          first
          | refine OW_nc rfl rfl ?_
          | refine OW_nce rfl rfl ?_
          refine OW_fa rfl rfl rfl ?_
          refine OW_env (e' := [_, _, _, _, _, _, _, _, _, _, _, _, _, _, _, _, _, _, _, _, _, _, _, _, _, _, _, _, _, _, _, _, _, _, _, _, _, _, _, _, _, _, _, _, _, _, _, _, _, _, _, _, _, _, _, _, _, _, _, _, _, _, _, _, _, _, _, _, _]) rfl ?_
          refine OW_loadR hSB5 (k := 2) rfl rfl rfl rfl rfl (by first | exact part_whole rfl rfl rfl | rfl) ?_
          first
          | refine OW_lenL rfl rfl (by first | assumption | exact Ls.of | exact Ls.emp | exact Ls.nls) rfl rfl rfl (by first | exact List.length_map _ | rfl) ?_
          | refine OW_bi rfl rfl rfl ?_
          refine OW_mv rfl rfl ?_
          refine OW_nilE (e' := [_, _, _, _, _, _, _, _, _, _, _, _, _, _, _, _, _, _, _, _, _, _, _, _, _, _, _, _, _, _, _, _, _, _, _, _, _, _, _, _, _, _, _, _, _, _, _, _, _, _, _, _, _, _, _, _, _, _, _, _, _, _, _, _, _, _, _, _, _]) rfl ?_
          refine XW_block ?_
          refine XW_whileN (I := fun ν' mm ee H' => ∃ (j : Nat), mm = l.length - j ∧ under (1 :: 0 :: 1 :: 1 :: 1 :: ν) ν' = true ∧ Own β ν' H' (row (7 :: 0 :: 1 :: ν) 4 [l[i].enc] :: row (0 :: 0 :: ν) 2 [.agg [.int .u64 (mask o : Int), .int .i64 (lastI l o)]] :: row q 4 [.agg [.lst (l.map Hop.enc), a, b, O]] :: L.eraseIdx k) ∧ (j ≤ l.length ∧ ∀ z, z < j → z ∉ o → ahI l z i = false) ∧ ∃ g : Nat → AVal, ee = [.ptr q 0 0, .agg [.int .u64 (mask o : Int), .int .i64 (lastI l o)], g 2, g 3, .ptr (0 :: 0 :: ν) 0 0, g 5, g 6, .ptr (7 :: 0 :: 1 :: ν) 0 0, g 8, g 9, g 10, g 11, g 12, g 13, g 14, g 15, g 16, g 17, g 18, g 19, g 20, g 21, g 22, g 23, g 24, g 25, g 26, g 27, g 28, g 29, g 30, g 31, g 32, g 33, g 34, g 35, g 36, g 37, g 38, g 39, g 40, g 41, g 42, g 43, g 44, g 45, g 46, g 47, g 48, g 49, .lst (l.map Hop.enc), .int .i64 l.length, .int .i64 j, g 53, g 54, g 55, g 56, g 57, g 58, g 59, g 60, g 61, g 62, g 63, g 64, g 65, g 66, g 67, g 68]) ?_ _ _ _ _ ⟨0, rfl, under_me, Own.cast (Own.mono (hSB5) (le_lit (ν := ν) (a := [9, 0, 1]) (b := [1, 0, 1, 1, 1]) (by decide))) (rfl), (⟨by omega, fun z hz => by omega⟩), env_g rfl⟩
          rintro ν3 mm ee H10 ⟨j, rfl, hU3, hS10, ⟨hj, hI⟩, g3, rfl⟩
          refine XW_sr ?_
          refine OW_bin rfl rfl rfl rfl rfl ?_
          refine OW_nilE (e' := [_, _, _, _, _, _, _, _, _, _, _, _, _, _, _, _, _, _, _, _, _, _, _, _, _, _, _, _, _, _, _, _, _, _, _, _, _, _, _, _, _, _, _, _, _, _, _, _, _, _, _, _, _, _, _, _, _, _, _, _, _, _, _, _, _, _, _, _, _]) rfl ?_
          refine XW_seq ?_
          refine XW_if rfl (fun h5 => ?_) (fun h5 => ?_)
          · try simp only [decide_eq_true_eq, decide_eq_false_iff_not, Bool.not_eq_true', Bool.not_eq_false', Bool.and_eq_true, Bool.or_eq_true, Bool.not_eq_true, Bool.not_eq_false, Decidable.not_not, bne_iff_ne, beq_iff_eq, List.length_append, List.length_cons, List.length_nil, List.length_drop, List.length_take] at h5
            refine XW_skip ?_
            refine then_norm ?_
            refine XW_seq ?_
            refine XW_block ?_
            refine XW_sr ?_
            refine OW_mv rfl rfl ?_
            first
            | refine OW_iaL rfl rfl rfl Ls.of rfl rfl rfl (by first | rfl | exact (Int.toNat_of_nonneg (by omega)).symm) (by first | assumption | exact at_map (by first | assumption | omega) | exact at_lst (by omega) | rfl) rfl ?_
            | refine OW_iaL rfl rfl rfl (by assumption) rfl rfl rfl (by first | rfl | exact (Int.toNat_of_nonneg (by omega)).symm) (by first | assumption | exact at_map (by first | assumption | omega) | exact at_lst (by omega) | rfl) rfl ?_
            refine OW_loadE rfl rfl rfl (by first | exact part_whole rfl rfl rfl | rfl) ?_
            refine OW_env (e' := [_, _, _, _, _, _, _, _, _, _, _, _, _, _, _, _, _, _, _, _, _, _, _, _, _, _, _, _, _, _, _, _, _, _, _, _, _, _, _, _, _, _, _, _, _, _, _, _, _, _, _, _, _, _, _, _, _, _, _, _, _, _, _, _, _, _, _, _, _]) rfl ?_
            refine OW_allocR hS10 (le_app (p := ν3) (b := [3, 0, 0, 1, 1, 0])) (under_app [3, 0, 0, 1, 1, 0] (under_trans (under_app [1, 0, 1, 1, 1] hβ) hU3)) rfl rfl rfl rfl fun H11 hS11 => ?_
            replace hS11 : Own _ _ _ (_ :: _ :: _ :: _ :: L.eraseIdx k) := hS11
            refine OW_as rfl rfl ?_
            first
            | refine OW_storeR hS11 (k := 0) rfl (le_lit (ν := ν3) (a := [4, 0, 0, 1, 1, 0]) (b := [5, 0, 0, 1, 1, 0]) (by decide)) rfl rfl rfl rfl ⟨rfl, rfl, Nat.le_of_ble_eq_true rfl⟩ (set_whole rfl rfl) fun H12 hS12 => ?_
            | refine OW_storeR hS11 (k := 0) rfl (le_lit (ν := ν3) (a := [4, 0, 0, 1, 1, 0]) (b := [5, 0, 0, 1, 1, 0]) (by decide)) rfl rfl rfl rfl ⟨rfl, rfl, Nat.le_of_ble_eq_true rfl⟩ (u2 := .agg [_, _, _, _]) rfl fun H12 hS12 => ?_
            replace hS12 : Own _ _ _ (_ :: _ :: _ :: _ :: L.eraseIdx k) := hS12
            refine OW_nilE (e' := [_, _, _, _, _, _, _, _, _, _, _, _, _, _, _, _, _, _, _, _, _, _, _, _, _, _, _, _, _, _, _, _, _, _, _, _, _, _, _, _, _, _, _, _, _, _, _, _, _, _, _, _, _, _, _, _, _, _, _, _, _, _, _, _, _, _, _, _, _]) rfl ?_
            refine XW_sr ?_
            refine OW_fa rfl rfl rfl ?_
            refine OW_loadR hS12 (k := 2) rfl rfl rfl rfl rfl (by first | exact part_whole rfl rfl rfl | rfl) ?_
            refine OW_mv rfl rfl ?_
            refine OW_env (e' := [_, _, _, _, _, _, _, _, _, _, _, _, _, _, _, _, _, _, _, _, _, _, _, _, _, _, _, _, _, _, _, _, _, _, _, _, _, _, _, _, _, _, _, _, _, _, _, _, _, _, _, _, _, _, _, _, _, _, _, _, _, _, _, _, _, _, _, _, _]) rfl ?_
            first
            | refine OW_bin rfl rfl rfl rfl (shr_u64n (by omega)) ?_
            | refine OW_bin rfl rfl rfl rfl rfl ?_
            first
            | refine OW_bin rfl rfl rfl rfl (bit_u64n (hd _)) ?_
            | refine OW_bin rfl rfl rfl rfl rfl ?_
            refine OW_bin rfl rfl rfl rfl rfl ?_
            refine OW_env (e' := [_, _, _, _, _, _, _, _, _, _, _, _, _, _, _, _, _, _, _, _, _, _, _, _, _, _, _, _, _, _, _, _, _, _, _, _, _, _, _, _, _, _, _, _, _, _, _, _, _, _, _, _, _, _, _, _, _, _, _, _, _, _, _, _, _, _, _, _, _]) rfl ?_
            refine OW_mv rfl rfl ?_
            refine OW_split (tt := 63) rfl (fun g7_7 => ?_) (fun g7_7 => ?_)
            · try simp only [decide_eq_true_eq, decide_eq_false_iff_not, Bool.not_eq_true', Bool.not_eq_false', Bool.and_eq_true, Bool.or_eq_true, Bool.not_eq_true, Bool.not_eq_false, Decidable.not_not, bne_iff_ne, beq_iff_eq, List.length_append, List.length_cons, List.length_nil, List.length_drop, List.length_take] at g7_7
              refine OW_loadR hS12 (k := 0) rfl rfl rfl rfl rfl (by first | exact part_whole rfl rfl rfl | rfl) ?_
              refine OW_env (e' := [_, _, _, _, _, _, _, _, _, _, _, _, _, _, _, _, _, _, _, _, _, _, _, _, _, _, _, _, _, _, _, _, _, _, _, _, _, _, _, _, _, _, _, _, _, _, _, _, _, _, _, _, _, _, _, _, _, _, _, _, _, _, _, _, _, _, _, _, _]) rfl ?_
              refine OW_loadR hS12 (k := 1) rfl rfl rfl rfl rfl (by first | exact part_whole rfl rfl rfl | rfl) ?_
              refine OW_fn rfl rfl (ahead_c ?_) 
              refine OW_pick rfl rfl rfl ?_
              refine OW_nilE (e' := [_, _, _, _, _, _, _, _, _, _, _, _, _, _, _, _, _, _, _, _, _, _, _, _, _, _, _, _, _, _, _, _, _, _, _, _, _, _, _, _, _, _, _, _, _, _, _, _, _, _, _, _, _, _, _, _, _, _, _, _, _, _, _, _, _, _, _, _, _]) rfl ?_
              refine XW_if rfl (fun h7 => ?_) (fun h7 => ?_)
              · try simp only [decide_eq_true_eq, decide_eq_false_iff_not, Bool.not_eq_true', Bool.not_eq_false', Bool.and_eq_true, Bool.or_eq_true, Bool.not_eq_true, Bool.not_eq_false, Decidable.not_not, bne_iff_ne, beq_iff_eq, List.length_append, List.length_cons, List.length_nil, List.length_drop, List.length_take] at h7
                refine XW_sr ?_
                refine OW_as rfl rfl ?_
                refine OW_nilE (e' := [_, _, _, _, _, _, _, _, _, _, _, _, _, _, _, _, _, _, _, _, _, _, _, _, _, _, _, _, _, _, _, _, _, _, _, _, _, _, _, _, _, _, _, _, _, _, _, _, _, _, _, _, _, _, _, _, _, _, _, _, _, _, _, _, _, _, _, _, _]) rfl ?_
                refine XW_ret ?_
                refine block_ret ?_
                refine then_ret ?_
                refine block_ret ?_
                refine then_ret ?_
                -- outcome 9
                refine ret_ret (res1 rfl (rv_tmp rfl)) ?_
                have hr := rok_eq (o := o) hi
                have hfin : ∀ v : Bool, nxt l o i = v → ∀ H1, Own β pos' H1 (row q 4 [.agg [.lst (l.map Hop.enc), a, b, O]] :: L.eraseIdx k) → Q (.bool v) H1 := fun v e H1 h1 => e ▸ hq H1 (Own.cast (Own.unpick h1 hL) (set_get_self hL))
                first | (have hv : nxt l o i = false := (by first | exact nx_no1 (bit_mem (by assumption)) | exact nx_no3 (k := j) (by omega) (bit_nmem0 (by assumption)) (by rw [ahI_eq (by omega) hi]; assumption) | exact nx_no2 (rok_no1 hi (by assumption) (by assumption)) | exact nx_no2 (rok_no2 hi (by assumption) (by assumption))); first | exact hfin _ hv _ (Own.drop0 (Own.drop0 (Own.mono hS12 (le_bef (bef_under (a := [6, 0, 0, 1, 1, 0]) hU3 (bef_app (a := [1, 0, 1, 1, 1]) hp)))))) | exact hfin _ hv _ (Own.drop0 (Own.drop0 (Own.drop0 (Own.mono hS12 (le_bef (bef_under (a := [6, 0, 0, 1, 1, 0]) hU3 (bef_app (a := [1, 0, 1, 1, 1]) hp)))))))) | (have hv : nxt l o i = true := nx_yes (bit_nmem (by assumption)) (by first | exact rok_y1 hi (by assumption) | exact rok_y2 hi (by assumption) (by assumption)) (fun z hz hzo => hI z (by omega) hzo); exact hfin _ hv _ (Own.drop0 (Own.drop0 (Own.mono hS12 (le_bef (bef_under (a := [6, 0, 0, 1, 1, 0]) hU3 (bef_app (a := [1, 0, 1, 1, 1]) hp)))))))
              · try simp only [decide_eq_true_eq, decide_eq_false_iff_not, Bool.not_eq_true', Bool.not_eq_false', Bool.and_eq_true, Bool.or_eq_true, Bool.not_eq_true, Bool.not_eq_false, Decidable.not_not, bne_iff_ne, beq_iff_eq, List.length_append, List.length_cons, List.length_nil, List.length_drop, List.length_take] at h7
                refine XW_skip ?_
                refine block_norm ?_
                refine then_norm ?_
                refine XW_region ?_
                first
                | refine OW_bin rfl rfl rfl rfl (add_w64 (by first | omega | assumption | (simp only [ByteArray.size_append, ByteArray.size_extract, List.length_map, List.length_append, List.length_cons, List.length_nil, List.length_drop, List.length_take]; omega))) ?_
                | refine OW_bin rfl rfl rfl rfl rfl ?_
                refine OW_mv rfl rfl ?_
                refine OW_nilE (e' := [_, _, _, _, _, _, _, _, _, _, _, _, _, _, _, _, _, _, _, _, _, _, _, _, _, _, _, _, _, _, _, _, _, _, _, _, _, _, _, _, _, _, _, _, _, _, _, _, _, _, _, _, _, _, _, _, _, _, _, _, _, _, _, _, _, _, _, _, _]) rfl ?_
                have hSd5 : Own _ _ _ (_ :: _ :: _ :: L.eraseIdx k) := (Own.drop hS12 (k := 0) rfl)
                -- round 0.5
                refine ⟨_, ?_, j + 1, rfl, under_in hU3, Own.cast (Own.mono (hSd5) (le_lit (ν := ν3) (a := [6, 0, 0, 1, 1, 0]) (b := [1]) (by decide))) (rfl), ?_, env_g rfl⟩
                · first | omega | (simp; omega)
                · exact ⟨by omega, fun z hz hzo => by by_cases e : z = j; (subst e; rw [ahI_eq (by omega) hi]; first | assumption | exact absurd (bit_mem0 (by assumption)) hzo); exact hI z (by omega) hzo⟩
            · try simp only [decide_eq_true_eq, decide_eq_false_iff_not, Bool.not_eq_true', Bool.not_eq_false', Bool.and_eq_true, Bool.or_eq_true, Bool.not_eq_true, Bool.not_eq_false, Decidable.not_not, bne_iff_ne, beq_iff_eq, List.length_append, List.length_cons, List.length_nil, List.length_drop, List.length_take] at g7_7
              refine OW_no rfl ?_
              refine OW_env (e' := [_, _, _, _, _, _, _, _, _, _, _, _, _, _, _, _, _, _, _, _, _, _, _, _, _, _, _, _, _, _, _, _, _, _, _, _, _, _, _, _, _, _, _, _, _, _, _, _, _, _, _, _, _, _, _, _, _, _, _, _, _, _, _, _, _, _, _, _, _]) rfl ?_
              refine OW_no rfl ?_
              refine OW_no rfl ?_
              refine OW_pick rfl rfl rfl ?_
              refine OW_nilE (e' := [_, _, _, _, _, _, _, _, _, _, _, _, _, _, _, _, _, _, _, _, _, _, _, _, _, _, _, _, _, _, _, _, _, _, _, _, _, _, _, _, _, _, _, _, _, _, _, _, _, _, _, _, _, _, _, _, _, _, _, _, _, _, _, _, _, _, _, _, _]) rfl ?_
              refine XW_no rfl rfl ?_
              refine XW_skip ?_
              refine block_norm ?_
              refine then_norm ?_
              refine XW_region ?_
              first
              | refine OW_bin rfl rfl rfl rfl (add_w64 (by first | omega | assumption | (simp only [ByteArray.size_append, ByteArray.size_extract, List.length_map, List.length_append, List.length_cons, List.length_nil, List.length_drop, List.length_take]; omega))) ?_
              | refine OW_bin rfl rfl rfl rfl rfl ?_
              refine OW_mv rfl rfl ?_
              refine OW_nilE (e' := [_, _, _, _, _, _, _, _, _, _, _, _, _, _, _, _, _, _, _, _, _, _, _, _, _, _, _, _, _, _, _, _, _, _, _, _, _, _, _, _, _, _, _, _, _, _, _, _, _, _, _, _, _, _, _, _, _, _, _, _, _, _, _, _, _, _, _, _, _]) rfl ?_
              have hSd6 : Own _ _ _ (_ :: _ :: _ :: L.eraseIdx k) := (Own.drop hS12 (k := 0) rfl)
              -- round 0.6
              refine ⟨_, ?_, j + 1, rfl, under_in hU3, Own.cast (Own.mono (hSd6) (le_lit (ν := ν3) (a := [6, 0, 0, 1, 1, 0]) (b := [1]) (by decide))) (rfl), ?_, env_g rfl⟩
              · first | omega | (simp; omega)
              · exact ⟨by omega, fun z hz hzo => by by_cases e : z = j; (subst e; rw [ahI_eq (by omega) hi]; first | assumption | exact absurd (bit_mem0 (by assumption)) hzo); exact hI z (by omega) hzo⟩
          · try simp only [decide_eq_true_eq, decide_eq_false_iff_not, Bool.not_eq_true', Bool.not_eq_false', Bool.and_eq_true, Bool.or_eq_true, Bool.not_eq_true, Bool.not_eq_false, Decidable.not_not, bne_iff_ne, beq_iff_eq, List.length_append, List.length_cons, List.length_nil, List.length_drop, List.length_take] at h5
            refine XW_exit ?_
            refine then_exit ?_
            refine block_exit ?_
            refine then_norm ?_
            refine XW_sr ?_
            refine OW_as rfl rfl ?_
            refine OW_nilE (e' := [_, _, _, _, _, _, _, _, _, _, _, _, _, _, _, _, _, _, _, _, _, _, _, _, _, _, _, _, _, _, _, _, _, _, _, _, _, _, _, _, _, _, _, _, _, _, _, _, _, _, _, _, _, _, _, _, _, _, _, _, _, _, _, _, _, _, _, _, _]) rfl ?_
            refine XW_ret ?_
            -- outcome 10
            refine ret_ret (res1 rfl (rv_tmp rfl)) ?_
            have hr := rok_eq (o := o) hi
            have hfin : ∀ v : Bool, nxt l o i = v → ∀ H1, Own β pos' H1 (row q 4 [.agg [.lst (l.map Hop.enc), a, b, O]] :: L.eraseIdx k) → Q (.bool v) H1 := fun v e H1 h1 => e ▸ hq H1 (Own.cast (Own.unpick h1 hL) (set_get_self hL))
            first | (have hv : nxt l o i = false := (by first | exact nx_no1 (bit_mem (by assumption)) | exact nx_no3 (k := j) (by omega) (bit_nmem0 (by assumption)) (by rw [ahI_eq (by omega) hi]; assumption) | exact nx_no2 (rok_no1 hi (by assumption) (by assumption)) | exact nx_no2 (rok_no2 hi (by assumption) (by assumption))); first | exact hfin _ hv _ (Own.drop0 (Own.drop0 (Own.mono hS10 (le_bef (bef_under (a := []) hU3 (bef_app (a := [1, 0, 1, 1, 1]) hp)))))) | exact hfin _ hv _ (Own.drop0 (Own.drop0 (Own.drop0 (Own.mono hS10 (le_bef (bef_under (a := []) hU3 (bef_app (a := [1, 0, 1, 1, 1]) hp)))))))) | (have hv : nxt l o i = true := nx_yes (bit_nmem (by assumption)) (by first | exact rok_y1 hi (by assumption) | exact rok_y2 hi (by assumption) (by assumption)) (fun z hz hzo => hI z (by omega) hzo); exact hfin _ hv _ (Own.drop0 (Own.drop0 (Own.mono hS10 (le_bef (bef_under (a := []) hU3 (bef_app (a := [1, 0, 1, 1, 1]) hp)))))))
      · try simp only [decide_eq_true_eq, decide_eq_false_iff_not, Bool.not_eq_true', Bool.not_eq_false', Bool.and_eq_true, Bool.or_eq_true, Bool.not_eq_true, Bool.not_eq_false, Decidable.not_not, bne_iff_ne, beq_iff_eq, List.length_append, List.length_cons, List.length_nil, List.length_drop, List.length_take] at g2_21
        refine OWF_env (e' := [_, _, _, _, _, _, _, _, _, _, _, _, _, _, _, _, _, _, _, _, _, _, _, _, _, _, _, _, _, _, _, _, _, _, _, _, _, _, _, _, _, _, _, _, _, _, _, _, _, _, _, _, _, _, _, _, _, _, _, _, _, _, _, _, _, _, _, _, _]) rfl ?_
        refine OWF_op rfl ?_
        refine OW_no rfl ?_
        refine OW_nil ?_
        refine OWF_fl rfl ?_
        refine OW_no rfl ?_
        refine OW_nil ?_
        refine OWF_op rfl ?_
        refine OW_no rfl ?_
        refine OW_nil ?_
        refine OWF_env (e' := [_, _, _, _, _, _, _, _, _, _, _, _, _, _, _, _, _, _, _, _, _, _, _, _, _, _, _, _, _, _, _, _, _, _, _, _, _, _, _, _, _, _, _, _, _, _, _, _, _, _, _, _, _, _, _, _, _, _, _, _, _, _, _, _, _, _, _, _, _]) rfl ?_
        refine OWF_op rfl ?_
        refine OW_no rfl ?_
        refine OW_nil ?_
        refine OWF_fl rfl ?_
        refine OW_no rfl ?_
        refine OW_nil ?_
        refine OWF_op rfl ?_
        refine OW_no rfl ?_
        refine OW_nil ?_
        refine OWF_env (e' := [_, _, _, _, _, _, _, _, _, _, _, _, _, _, _, _, _, _, _, _, _, _, _, _, _, _, _, _, _, _, _, _, _, _, _, _, _, _, _, _, _, _, _, _, _, _, _, _, _, _, _, _, _, _, _, _, _, _, _, _, _, _, _, _, _, _, _, _, _]) rfl ?_
        refine OWF_op rfl ?_
        refine OW_no rfl ?_
        refine OW_nil ?_
        refine OWF_op rfl ?_
        refine OW_pick rfl rfl rfl ?_
        refine OW_nil ?_
        refine OWF_op rfl ?_
        refine OW_pick rfl rfl rfl ?_
        refine OW_nil ?_
        refine OWF_nilE (e' := [_, _, _, _, _, _, _, _, _, _, _, _, _, _, _, _, _, _, _, _, _, _, _, _, _, _, _, _, _, _, _, _, _, _, _, _, _, _, _, _, _, _, _, _, _, _, _, _, _, _, _, _, _, _, _, _, _, _, _, _, _, _, _, _, _, _, _, _, _]) rfl ?_
        have hSB6 : Own _ _ _ (_ :: _ :: _ :: L.eraseIdx k) := (Own.back hS3 (k := 1) rfl (Own.back hS3 (k := 0) rfl (Own.back0 hSF1) (k' := 0) rfl) (k' := 1) rfl)
        refine XW_no rfl rfl ?_
        refine XW_skip ?_
        refine then_norm ?_
        refine XW_seq ?_
        refine XW_sr ?_
        refine OW_mv rfl rfl ?_
        first
        | refine OW_nc rfl rfl ?_
        | refine OW_nce rfl rfl ?_
        refine OW_fa rfl rfl rfl ?_
        refine OW_env (e' := [_, _, _, _, _, _, _, _, _, _, _, _, _, _, _, _, _, _, _, _, _, _, _, _, _, _, _, _, _, _, _, _, _, _, _, _, _, _, _, _, _, _, _, _, _, _, _, _, _, _, _, _, _, _, _, _, _, _, _, _, _, _, _, _, _, _, _, _, _]) rfl ?_
        refine OW_loadR hSB6 (k := 2) rfl rfl rfl rfl rfl (by first | exact part_whole rfl rfl rfl | rfl) ?_
        first
        | refine OW_lenL rfl rfl (by first | assumption | exact Ls.of | exact Ls.emp | exact Ls.nls) rfl rfl rfl (by first | exact List.length_map _ | rfl) ?_
        | refine OW_bi rfl rfl rfl ?_
        refine OW_mv rfl rfl ?_
        refine OW_nilE (e' := [_, _, _, _, _, _, _, _, _, _, _, _, _, _, _, _, _, _, _, _, _, _, _, _, _, _, _, _, _, _, _, _, _, _, _, _, _, _, _, _, _, _, _, _, _, _, _, _, _, _, _, _, _, _, _, _, _, _, _, _, _, _, _, _, _, _, _, _, _]) rfl ?_
        refine XW_block ?_
        refine XW_whileN (I := fun ν' mm ee H' => ∃ (j : Nat), mm = l.length - j ∧ under (1 :: 0 :: 1 :: 1 :: 1 :: ν) ν' = true ∧ Own β ν' H' (row (7 :: 0 :: 1 :: ν) 4 [l[i].enc] :: row (0 :: 0 :: ν) 2 [.agg [.int .u64 (mask o : Int), .int .i64 (lastI l o)]] :: row q 4 [.agg [.lst (l.map Hop.enc), a, b, O]] :: L.eraseIdx k) ∧ (j ≤ l.length ∧ ∀ z, z < j → z ∉ o → ahI l z i = false) ∧ ∃ g : Nat → AVal, ee = [.ptr q 0 0, .agg [.int .u64 (mask o : Int), .int .i64 (lastI l o)], g 2, g 3, .ptr (0 :: 0 :: ν) 0 0, g 5, g 6, .ptr (7 :: 0 :: 1 :: ν) 0 0, g 8, g 9, g 10, g 11, g 12, g 13, g 14, g 15, g 16, g 17, g 18, g 19, g 20, g 21, g 22, g 23, g 24, g 25, g 26, g 27, g 28, g 29, g 30, g 31, g 32, g 33, g 34, g 35, g 36, g 37, g 38, g 39, g 40, g 41, g 42, g 43, g 44, g 45, g 46, g 47, g 48, g 49, .lst (l.map Hop.enc), .int .i64 l.length, .int .i64 j, g 53, g 54, g 55, g 56, g 57, g 58, g 59, g 60, g 61, g 62, g 63, g 64, g 65, g 66, g 67, g 68]) ?_ _ _ _ _ ⟨0, rfl, under_me, Own.cast (Own.mono (hSB6) (le_lit (ν := ν) (a := [9, 0, 1]) (b := [1, 0, 1, 1, 1]) (by decide))) (rfl), (⟨by omega, fun z hz => by omega⟩), env_g rfl⟩
        rintro ν4 mm ee H13 ⟨j, rfl, hU4, hS13, ⟨hj, hI⟩, g4, rfl⟩
        refine XW_sr ?_
        refine OW_bin rfl rfl rfl rfl rfl ?_
        refine OW_nilE (e' := [_, _, _, _, _, _, _, _, _, _, _, _, _, _, _, _, _, _, _, _, _, _, _, _, _, _, _, _, _, _, _, _, _, _, _, _, _, _, _, _, _, _, _, _, _, _, _, _, _, _, _, _, _, _, _, _, _, _, _, _, _, _, _, _, _, _, _, _, _]) rfl ?_
        refine XW_seq ?_
        refine XW_if rfl (fun h5 => ?_) (fun h5 => ?_)
        · try simp only [decide_eq_true_eq, decide_eq_false_iff_not, Bool.not_eq_true', Bool.not_eq_false', Bool.and_eq_true, Bool.or_eq_true, Bool.not_eq_true, Bool.not_eq_false, Decidable.not_not, bne_iff_ne, beq_iff_eq, List.length_append, List.length_cons, List.length_nil, List.length_drop, List.length_take] at h5
          refine XW_skip ?_
          refine then_norm ?_
          refine XW_seq ?_
          refine XW_block ?_
          refine XW_sr ?_
          refine OW_mv rfl rfl ?_
          first
          | refine OW_iaL rfl rfl rfl Ls.of rfl rfl rfl (by first | rfl | exact (Int.toNat_of_nonneg (by omega)).symm) (by first | assumption | exact at_map (by first | assumption | omega) | exact at_lst (by omega) | rfl) rfl ?_
          | refine OW_iaL rfl rfl rfl (by assumption) rfl rfl rfl (by first | rfl | exact (Int.toNat_of_nonneg (by omega)).symm) (by first | assumption | exact at_map (by first | assumption | omega) | exact at_lst (by omega) | rfl) rfl ?_
          refine OW_loadE rfl rfl rfl (by first | exact part_whole rfl rfl rfl | rfl) ?_
          refine OW_env (e' := [_, _, _, _, _, _, _, _, _, _, _, _, _, _, _, _, _, _, _, _, _, _, _, _, _, _, _, _, _, _, _, _, _, _, _, _, _, _, _, _, _, _, _, _, _, _, _, _, _, _, _, _, _, _, _, _, _, _, _, _, _, _, _, _, _, _, _, _, _]) rfl ?_
          refine OW_allocR hS13 (le_app (p := ν4) (b := [3, 0, 0, 1, 1, 0])) (under_app [3, 0, 0, 1, 1, 0] (under_trans (under_app [1, 0, 1, 1, 1] hβ) hU4)) rfl rfl rfl rfl fun H14 hS14 => ?_
          replace hS14 : Own _ _ _ (_ :: _ :: _ :: _ :: L.eraseIdx k) := hS14
          refine OW_as rfl rfl ?_
          first
          | refine OW_storeR hS14 (k := 0) rfl (le_lit (ν := ν4) (a := [4, 0, 0, 1, 1, 0]) (b := [5, 0, 0, 1, 1, 0]) (by decide)) rfl rfl rfl rfl ⟨rfl, rfl, Nat.le_of_ble_eq_true rfl⟩ (set_whole rfl rfl) fun H15 hS15 => ?_
          | refine OW_storeR hS14 (k := 0) rfl (le_lit (ν := ν4) (a := [4, 0, 0, 1, 1, 0]) (b := [5, 0, 0, 1, 1, 0]) (by decide)) rfl rfl rfl rfl ⟨rfl, rfl, Nat.le_of_ble_eq_true rfl⟩ (u2 := .agg [_, _, _, _]) rfl fun H15 hS15 => ?_
          replace hS15 : Own _ _ _ (_ :: _ :: _ :: _ :: L.eraseIdx k) := hS15
          refine OW_nilE (e' := [_, _, _, _, _, _, _, _, _, _, _, _, _, _, _, _, _, _, _, _, _, _, _, _, _, _, _, _, _, _, _, _, _, _, _, _, _, _, _, _, _, _, _, _, _, _, _, _, _, _, _, _, _, _, _, _, _, _, _, _, _, _, _, _, _, _, _, _, _]) rfl ?_
          refine XW_sr ?_
          refine OW_fa rfl rfl rfl ?_
          refine OW_loadR hS15 (k := 2) rfl rfl rfl rfl rfl (by first | exact part_whole rfl rfl rfl | rfl) ?_
          refine OW_mv rfl rfl ?_
          refine OW_env (e' := [_, _, _, _, _, _, _, _, _, _, _, _, _, _, _, _, _, _, _, _, _, _, _, _, _, _, _, _, _, _, _, _, _, _, _, _, _, _, _, _, _, _, _, _, _, _, _, _, _, _, _, _, _, _, _, _, _, _, _, _, _, _, _, _, _, _, _, _, _]) rfl ?_
          first
          | refine OW_bin rfl rfl rfl rfl (shr_u64n (by omega)) ?_
          | refine OW_bin rfl rfl rfl rfl rfl ?_
          first
          | refine OW_bin rfl rfl rfl rfl (bit_u64n (hd _)) ?_
          | refine OW_bin rfl rfl rfl rfl rfl ?_
          refine OW_bin rfl rfl rfl rfl rfl ?_
          refine OW_env (e' := [_, _, _, _, _, _, _, _, _, _, _, _, _, _, _, _, _, _, _, _, _, _, _, _, _, _, _, _, _, _, _, _, _, _, _, _, _, _, _, _, _, _, _, _, _, _, _, _, _, _, _, _, _, _, _, _, _, _, _, _, _, _, _, _, _, _, _, _, _]) rfl ?_
          refine OW_mv rfl rfl ?_
          refine OW_split (tt := 63) rfl (fun g7_7 => ?_) (fun g7_7 => ?_)
          · try simp only [decide_eq_true_eq, decide_eq_false_iff_not, Bool.not_eq_true', Bool.not_eq_false', Bool.and_eq_true, Bool.or_eq_true, Bool.not_eq_true, Bool.not_eq_false, Decidable.not_not, bne_iff_ne, beq_iff_eq, List.length_append, List.length_cons, List.length_nil, List.length_drop, List.length_take] at g7_7
            refine OW_loadR hS15 (k := 0) rfl rfl rfl rfl rfl (by first | exact part_whole rfl rfl rfl | rfl) ?_
            refine OW_env (e' := [_, _, _, _, _, _, _, _, _, _, _, _, _, _, _, _, _, _, _, _, _, _, _, _, _, _, _, _, _, _, _, _, _, _, _, _, _, _, _, _, _, _, _, _, _, _, _, _, _, _, _, _, _, _, _, _, _, _, _, _, _, _, _, _, _, _, _, _, _]) rfl ?_
            refine OW_loadR hS15 (k := 1) rfl rfl rfl rfl rfl (by first | exact part_whole rfl rfl rfl | rfl) ?_
            refine OW_fn rfl rfl (ahead_c ?_) 
            refine OW_pick rfl rfl rfl ?_
            refine OW_nilE (e' := [_, _, _, _, _, _, _, _, _, _, _, _, _, _, _, _, _, _, _, _, _, _, _, _, _, _, _, _, _, _, _, _, _, _, _, _, _, _, _, _, _, _, _, _, _, _, _, _, _, _, _, _, _, _, _, _, _, _, _, _, _, _, _, _, _, _, _, _, _]) rfl ?_
            refine XW_if rfl (fun h7 => ?_) (fun h7 => ?_)
            · try simp only [decide_eq_true_eq, decide_eq_false_iff_not, Bool.not_eq_true', Bool.not_eq_false', Bool.and_eq_true, Bool.or_eq_true, Bool.not_eq_true, Bool.not_eq_false, Decidable.not_not, bne_iff_ne, beq_iff_eq, List.length_append, List.length_cons, List.length_nil, List.length_drop, List.length_take] at h7
              refine XW_sr ?_
              refine OW_as rfl rfl ?_
              refine OW_nilE (e' := [_, _, _, _, _, _, _, _, _, _, _, _, _, _, _, _, _, _, _, _, _, _, _, _, _, _, _, _, _, _, _, _, _, _, _, _, _, _, _, _, _, _, _, _, _, _, _, _, _, _, _, _, _, _, _, _, _, _, _, _, _, _, _, _, _, _, _, _, _]) rfl ?_
              refine XW_ret ?_
              refine block_ret ?_
              refine then_ret ?_
              refine block_ret ?_
              refine then_ret ?_
              -- outcome 11
              refine ret_ret (res1 rfl (rv_tmp rfl)) ?_
              have hr := rok_eq (o := o) hi
              have hfin : ∀ v : Bool, nxt l o i = v → ∀ H1, Own β pos' H1 (row q 4 [.agg [.lst (l.map Hop.enc), a, b, O]] :: L.eraseIdx k) → Q (.bool v) H1 := fun v e H1 h1 => e ▸ hq H1 (Own.cast (Own.unpick h1 hL) (set_get_self hL))
              first | (have hv : nxt l o i = false := (by first | exact nx_no1 (bit_mem (by assumption)) | exact nx_no3 (k := j) (by omega) (bit_nmem0 (by assumption)) (by rw [ahI_eq (by omega) hi]; assumption) | exact nx_no2 (rok_no1 hi (by assumption) (by assumption)) | exact nx_no2 (rok_no2 hi (by assumption) (by assumption))); first | exact hfin _ hv _ (Own.drop0 (Own.drop0 (Own.mono hS15 (le_bef (bef_under (a := [6, 0, 0, 1, 1, 0]) hU4 (bef_app (a := [1, 0, 1, 1, 1]) hp)))))) | exact hfin _ hv _ (Own.drop0 (Own.drop0 (Own.drop0 (Own.mono hS15 (le_bef (bef_under (a := [6, 0, 0, 1, 1, 0]) hU4 (bef_app (a := [1, 0, 1, 1, 1]) hp)))))))) | (have hv : nxt l o i = true := nx_yes (bit_nmem (by assumption)) (by first | exact rok_y1 hi (by assumption) | exact rok_y2 hi (by assumption) (by assumption)) (fun z hz hzo => hI z (by omega) hzo); exact hfin _ hv _ (Own.drop0 (Own.drop0 (Own.mono hS15 (le_bef (bef_under (a := [6, 0, 0, 1, 1, 0]) hU4 (bef_app (a := [1, 0, 1, 1, 1]) hp)))))))
            · try simp only [decide_eq_true_eq, decide_eq_false_iff_not, Bool.not_eq_true', Bool.not_eq_false', Bool.and_eq_true, Bool.or_eq_true, Bool.not_eq_true, Bool.not_eq_false, Decidable.not_not, bne_iff_ne, beq_iff_eq, List.length_append, List.length_cons, List.length_nil, List.length_drop, List.length_take] at h7
              refine XW_skip ?_
              refine block_norm ?_
              refine then_norm ?_
              refine XW_region ?_
              first
              | refine OW_bin rfl rfl rfl rfl (add_w64 (by first | omega | assumption | (simp only [ByteArray.size_append, ByteArray.size_extract, List.length_map, List.length_append, List.length_cons, List.length_nil, List.length_drop, List.length_take]; omega))) ?_
              | refine OW_bin rfl rfl rfl rfl rfl ?_
              refine OW_mv rfl rfl ?_
              refine OW_nilE (e' := [_, _, _, _, _, _, _, _, _, _, _, _, _, _, _, _, _, _, _, _, _, _, _, _, _, _, _, _, _, _, _, _, _, _, _, _, _, _, _, _, _, _, _, _, _, _, _, _, _, _, _, _, _, _, _, _, _, _, _, _, _, _, _, _, _, _, _, _, _]) rfl ?_
              have hSd7 : Own _ _ _ (_ :: _ :: _ :: L.eraseIdx k) := (Own.drop hS15 (k := 0) rfl)
              -- round 0.7
              refine ⟨_, ?_, j + 1, rfl, under_in hU4, Own.cast (Own.mono (hSd7) (le_lit (ν := ν4) (a := [6, 0, 0, 1, 1, 0]) (b := [1]) (by decide))) (rfl), ?_, env_g rfl⟩
              · first | omega | (simp; omega)
              · exact ⟨by omega, fun z hz hzo => by by_cases e : z = j; (subst e; rw [ahI_eq (by omega) hi]; first | assumption | exact absurd (bit_mem0 (by assumption)) hzo); exact hI z (by omega) hzo⟩
          · try simp only [decide_eq_true_eq, decide_eq_false_iff_not, Bool.not_eq_true', Bool.not_eq_false', Bool.and_eq_true, Bool.or_eq_true, Bool.not_eq_true, Bool.not_eq_false, Decidable.not_not, bne_iff_ne, beq_iff_eq, List.length_append, List.length_cons, List.length_nil, List.length_drop, List.length_take] at g7_7
            refine OW_no rfl ?_
            refine OW_env (e' := [_, _, _, _, _, _, _, _, _, _, _, _, _, _, _, _, _, _, _, _, _, _, _, _, _, _, _, _, _, _, _, _, _, _, _, _, _, _, _, _, _, _, _, _, _, _, _, _, _, _, _, _, _, _, _, _, _, _, _, _, _, _, _, _, _, _, _, _, _]) rfl ?_
            refine OW_no rfl ?_
            refine OW_no rfl ?_
            refine OW_pick rfl rfl rfl ?_
            refine OW_nilE (e' := [_, _, _, _, _, _, _, _, _, _, _, _, _, _, _, _, _, _, _, _, _, _, _, _, _, _, _, _, _, _, _, _, _, _, _, _, _, _, _, _, _, _, _, _, _, _, _, _, _, _, _, _, _, _, _, _, _, _, _, _, _, _, _, _, _, _, _, _, _]) rfl ?_
            refine XW_no rfl rfl ?_
            refine XW_skip ?_
            refine block_norm ?_
            refine then_norm ?_
            refine XW_region ?_
            first
            | refine OW_bin rfl rfl rfl rfl (add_w64 (by first | omega | assumption | (simp only [ByteArray.size_append, ByteArray.size_extract, List.length_map, List.length_append, List.length_cons, List.length_nil, List.length_drop, List.length_take]; omega))) ?_
            | refine OW_bin rfl rfl rfl rfl rfl ?_
            refine OW_mv rfl rfl ?_
            refine OW_nilE (e' := [_, _, _, _, _, _, _, _, _, _, _, _, _, _, _, _, _, _, _, _, _, _, _, _, _, _, _, _, _, _, _, _, _, _, _, _, _, _, _, _, _, _, _, _, _, _, _, _, _, _, _, _, _, _, _, _, _, _, _, _, _, _, _, _, _, _, _, _, _]) rfl ?_
            have hSd8 : Own _ _ _ (_ :: _ :: _ :: L.eraseIdx k) := (Own.drop hS15 (k := 0) rfl)
            -- round 0.8
            refine ⟨_, ?_, j + 1, rfl, under_in hU4, Own.cast (Own.mono (hSd8) (le_lit (ν := ν4) (a := [6, 0, 0, 1, 1, 0]) (b := [1]) (by decide))) (rfl), ?_, env_g rfl⟩
            · first | omega | (simp; omega)
            · exact ⟨by omega, fun z hz hzo => by by_cases e : z = j; (subst e; rw [ahI_eq (by omega) hi]; first | assumption | exact absurd (bit_mem0 (by assumption)) hzo); exact hI z (by omega) hzo⟩
        · try simp only [decide_eq_true_eq, decide_eq_false_iff_not, Bool.not_eq_true', Bool.not_eq_false', Bool.and_eq_true, Bool.or_eq_true, Bool.not_eq_true, Bool.not_eq_false, Decidable.not_not, bne_iff_ne, beq_iff_eq, List.length_append, List.length_cons, List.length_nil, List.length_drop, List.length_take] at h5
          refine XW_exit ?_
          refine then_exit ?_
          refine block_exit ?_
          refine then_norm ?_
          refine XW_sr ?_
          refine OW_as rfl rfl ?_
          refine OW_nilE (e' := [_, _, _, _, _, _, _, _, _, _, _, _, _, _, _, _, _, _, _, _, _, _, _, _, _, _, _, _, _, _, _, _, _, _, _, _, _, _, _, _, _, _, _, _, _, _, _, _, _, _, _, _, _, _, _, _, _, _, _, _, _, _, _, _, _, _, _, _, _]) rfl ?_
          refine XW_ret ?_
          -- outcome 12
          refine ret_ret (res1 rfl (rv_tmp rfl)) ?_
          have hr := rok_eq (o := o) hi
          have hfin : ∀ v : Bool, nxt l o i = v → ∀ H1, Own β pos' H1 (row q 4 [.agg [.lst (l.map Hop.enc), a, b, O]] :: L.eraseIdx k) → Q (.bool v) H1 := fun v e H1 h1 => e ▸ hq H1 (Own.cast (Own.unpick h1 hL) (set_get_self hL))
          first | (have hv : nxt l o i = false := (by first | exact nx_no1 (bit_mem (by assumption)) | exact nx_no3 (k := j) (by omega) (bit_nmem0 (by assumption)) (by rw [ahI_eq (by omega) hi]; assumption) | exact nx_no2 (rok_no1 hi (by assumption) (by assumption)) | exact nx_no2 (rok_no2 hi (by assumption) (by assumption))); first | exact hfin _ hv _ (Own.drop0 (Own.drop0 (Own.mono hS13 (le_bef (bef_under (a := []) hU4 (bef_app (a := [1, 0, 1, 1, 1]) hp)))))) | exact hfin _ hv _ (Own.drop0 (Own.drop0 (Own.drop0 (Own.mono hS13 (le_bef (bef_under (a := []) hU4 (bef_app (a := [1, 0, 1, 1, 1]) hp)))))))) | (have hv : nxt l o i = true := nx_yes (bit_nmem (by assumption)) (by first | exact rok_y1 hi (by assumption) | exact rok_y2 hi (by assumption) (by assumption)) (fun z hz hzo => hI z (by omega) hzo); exact hfin _ hv _ (Own.drop0 (Own.drop0 (Own.mono hS13 (le_bef (bef_under (a := []) hU4 (bef_app (a := [1, 0, 1, 1, 1]) hp)))))))
end Go.Proofs.Ytgeadlkaniggdaa.X
