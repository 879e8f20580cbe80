/- Layer 24: the program's search. -/
import Derived.Test.YtgeadlkaniggdaaHS3
set_option linter.unusedVariables false
set_option linter.unusedSimpArgs false
set_option maxRecDepth 100000
namespace Go.Proofs.Ytgeadlkaniggdaa.X
open Go Go.RowKit HM
abbrev skA (l : List Hop) (m : Nm) (O : AVal) : AVal := .agg [.lst (l.map Hop.enc), .int .u64 (mustN l : Int), .map m, O]
abbrev plA (l : List Hop) (o : List Nat) : AVal := .agg [.int .u64 (mask o : Int), .int .i64 (lastI l o)]
theorem wAt_eq {l : List Hop} {i : Nat} (h : i < l.length) : wAt l i = l[i].w := by unfold wAt; rw [List.getElem?_eq_getElem h]
theorem drop_range {n i : Nat} (h : i < n) : (List.range n).drop i = i :: (List.range n).drop (i + 1) := by
  rw [List.drop_eq_getElem_cons (by simpa using h)]; simp
theorem step_none {β : Type} {F : Nat → Option β} {n i : Nat} (h : i < n) (hf : F i = none) : ((List.range n).drop i).findSome? F = ((List.range n).drop (i + 1)).findSome? F := by
  rw [drop_range h, List.findSome?_cons, hf]
theorem step_some {β : Type} {F : Nat → Option β} {n i : Nat} {r : β} (h : i < n) (hf : F i = some r) : ((List.range n).drop i).findSome? F = some r := by
  rw [drop_range h, List.findSome?_cons, hf]
theorem step_end {β : Type} {F : Nat → Option β} {n i : Nat} (h : n ≤ i) : ((List.range n).drop i).findSome? F = none := by
  rw [List.drop_eq_nil_of_le (by simpa using h)]; rfl
theorem seekW {l : List Hop} (hl : l.length ≤ 12) : ∀ (N : Nat) {ν β ps pos' : Nm} {H : Heap} {Q : AVal → Heap → Prop} {L : List Asr} {q m : Nm} {O : AVal} {f : Int × Int → Option Int} (o : List Nat), fu l.length o < N → o.length + fu l.length o ≤ 12 → (∀ j ∈ o, j < l.length) → DeadOk l f →
    Own β ps H (row q 4 [skA l m O] :: sl O 1 (o.map eN) :: mpF m eK eI f :: L) → le ps ν → under β ν = true → before ν pos' →
    (∀ H1 O' f', DeadOk l f' → Own β pos' H1 (row q 4 [skA l m O'] :: sl O' 1 (((gof l o).getD o).map eN) :: mpF m eK eI f' :: L) → Q (.bool (gof l o).isSome) H1) → CW cfg ν 19 [.ptr q 0 0, plA l o] H Q := by
  intro N
  induction N with
  | zero => intro ν β ps pos' H Q L q m O f o hN; omega
  | succ N ih =>
    intro ν β ps pos' H Q L q m O f o hN hlen ho hd hS hle hβ hp hq
    have ihX : ∀ {ν β ps pos' : Nm} {H : Heap} {Q : AVal → Heap → Prop} {L : List Asr} {q m : Nm} {O : AVal} {f : Int × Int → Option Int} {X Y : Asr} (o : List Nat), fu l.length o < N → o.length + fu l.length o ≤ 12 → (∀ j ∈ o, j < l.length) → DeadOk l f →
        Own β ps H (X :: Y :: row q 4 [skA l m O] :: sl O 1 (o.map eN) :: mpF m eK eI f :: L) → le ps ν → under β ν = true → before ν pos' →
        (∀ H1 O' f', DeadOk l f' → Own β pos' H1 (X :: Y :: row q 4 [skA l m O'] :: sl O' 1 (((gof l o).getD o).map eN) :: mpF m eK eI f' :: L) → Q (.bool (gof l o).isSome) H1) → CW cfg ν 19 [.ptr q 0 0, plA l o] H Q := by
      intro ν β ps pos' H Q L q m O f X Y o hN hlen ho hd hS hle hβ hp hq
      exact ih (L := Y :: X :: L) o hN hlen ho hd (Own.rot (A := [_, _, _]) (Own.rot (A := [_, _, _, _]) hS)) hle hβ hp fun H1 O' f' hd' h1 => hq H1 O' f' hd' (Own.tor (A := [_, _, _, _]) (Own.tor (A := [_, _, _]) h1))
    have hm := mask_u64 hl ho
    have hmu : mustN l < 4096 := mask_u64 hl (fun j hj => ends_lt hj)
    have hol : o.length ≤ 12 := by omega
    refine CW_keep g19 F19 rfl ?_
    replace hS := Own.mono hS hle
    refine XW_sr ?_
    refine OW_boxR hS (le_app (p := ν) (b := [0, 0])) (under_app [0, 0] hβ) rfl rfl rfl ⟨rfl, rfl⟩ fun H1 hS1 => ?_
    replace hS1 : Own _ _ _ (_ :: _ :: _ :: _ :: L) := hS1
    refine OW_as rfl rfl ?_
    refine OW_nilE (e' := [_, _, _, _, _, _, _, _, _, _, _, _, _, _, _, _, _, _, _, _, _, _, _, _, _, _, _, _, _, _, _, _, _, _, _, _, _, _, _, _, _, _, _, _, _, _, _, _, _, _, _, _, _, _, _, _, _, _, _, _, _, _, _, _, _, _, _, _, _, _, _, _, _, _, _, _, _, _, _, _, _, _, _, _, _, _, _, _, _, _]) rfl ?_
    refine XW_seq ?_
    refine XW_sr ?_
    refine OW_fa rfl rfl rfl ?_
    refine OW_loadR hS1 (k := 0) rfl rfl rfl rfl rfl (by first | exact part_whole rfl rfl rfl | rfl) ?_
    refine OW_mv rfl rfl ?_
    refine OW_env (e' := [_, _, _, _, _, _, _, _, _, _, _, _, _, _, _, _, _, _, _, _, _, _, _, _, _, _, _, _, _, _, _, _, _, _, _, _, _, _, _, _, _, _, _, _, _, _, _, _, _, _, _, _, _, _, _, _, _, _, _, _, _, _, _, _, _, _, _, _, _, _, _, _, _, _, _, _, _, _, _, _, _, _, _, _, _, _, _, _, _, _]) rfl ?_
    first
    | refine OW_nc rfl rfl ?_
    | refine OW_nce rfl rfl ?_
    refine OW_fa rfl rfl rfl ?_
    refine OW_loadR hS1 (k := 1) rfl rfl rfl rfl rfl (by first | exact part_whole rfl rfl rfl | rfl) ?_
    refine OW_env (e' := [_, _, _, _, _, _, _, _, _, _, _, _, _, _, _, _, _, _, _, _, _, _, _, _, _, _, _, _, _, _, _, _, _, _, _, _, _, _, _, _, _, _, _, _, _, _, _, _, _, _, _, _, _, _, _, _, _, _, _, _, _, _, _, _, _, _, _, _, _, _, _, _, _, _, _, _, _, _, _, _, _, _, _, _, _, _, _, _, _, _]) rfl ?_
    first
    | refine OW_bin rfl rfl rfl rfl (and_u64n (by omega) (by omega)) ?_
    | refine OW_bin rfl rfl rfl rfl rfl ?_
    refine OW_mv rfl rfl ?_
    first
    | refine OW_nc rfl rfl ?_
    | refine OW_nce rfl rfl ?_
    refine OW_env (e' := [_, _, _, _, _, _, _, _, _, _, _, _, _, _, _, _, _, _, _, _, _, _, _, _, _, _, _, _, _, _, _, _, _, _, _, _, _, _, _, _, _, _, _, _, _, _, _, _, _, _, _, _, _, _, _, _, _, _, _, _, _, _, _, _, _, _, _, _, _, _, _, _, _, _, _, _, _, _, _, _, _, _, _, _, _, _, _, _, _, _]) rfl ?_
    refine OW_fa rfl rfl rfl ?_
    refine OW_loadR hS1 (k := 1) rfl rfl rfl rfl rfl (by first | exact part_whole rfl rfl rfl | rfl) ?_
    refine OW_bin rfl rfl rfl rfl rfl ?_
    refine OW_nilE (e' := [_, _, _, _, _, _, _, _, _, _, _, _, _, _, _, _, _, _, _, _, _, _, _, _, _, _, _, _, _, _, _, _, _, _, _, _, _, _, _, _, _, _, _, _, _, _, _, _, _, _, _, _, _, _, _, _, _, _, _, _, _, _, _, _, _, _, _, _, _, _, _, _, _, _, _, _, _, _, _, _, _, _, _, _, _, _, _, _, _, _]) rfl ?_
    refine XW_if rfl (fun h1 => ?_) (fun h1 => ?_)
    · try simp only [decide_eq_true_eq, decide_eq_false_iff_not, Bool.not_eq_true', Bool.not_eq_false', Bool.and_eq_true, Bool.or_eq_true, Bool.not_eq_true, Bool.not_eq_false, Decidable.not_not, bne_iff_ne, beq_iff_eq, List.length_append, List.length_cons, List.length_nil, List.length_drop, List.length_take] at h1
      refine XW_sr ?_
      refine OW_as rfl rfl ?_
      refine OW_nilE (e' := [_, _, _, _, _, _, _, _, _, _, _, _, _, _, _, _, _, _, _, _, _, _, _, _, _, _, _, _, _, _, _, _, _, _, _, _, _, _, _, _, _, _, _, _, _, _, _, _, _, _, _, _, _, _, _, _, _, _, _, _, _, _, _, _, _, _, _, _, _, _, _, _, _, _, _, _, _, _, _, _, _, _, _, _, _, _, _, _, _, _]) rfl ?_
      refine XW_ret ?_
      refine then_ret ?_
      -- outcome 1
      refine ret_ret (res1 rfl (rv_tmp rfl)) ?_
      rw [show gof l o = some o by rw [gof_eq, if_pos ((must_iff l o).1 (by omega))]] at hq; exact hq _ _ _ hd (Own.drop0 (Own.mono hS1 (le_bef (bef_app (a := [1, 0]) hp))))
    · try simp only [decide_eq_true_eq, decide_eq_false_iff_not, Bool.not_eq_true', Bool.not_eq_false', Bool.and_eq_true, Bool.or_eq_true, Bool.not_eq_true, Bool.not_eq_false, Decidable.not_not, bne_iff_ne, beq_iff_eq, List.length_append, List.length_cons, List.length_nil, List.length_drop, List.length_take] at h1
      refine XW_skip ?_
      refine then_norm ?_
      refine XW_seq ?_
      refine XW_sr ?_
      refine OW_mv rfl rfl ?_
      first
      | refine OW_nc rfl rfl ?_
      | refine OW_nce rfl rfl ?_
      refine OW_fa rfl rfl rfl ?_
      refine OW_env (e' := [_, _, _, _, _, _, _, _, _, _, _, _, _, _, _, _, _, _, _, _, _, _, _, _, _, _, _, _, _, _, _, _, _, _, _, _, _, _, _, _, _, _, _, _, _, _, _, _, _, _, _, _, _, _, _, _, _, _, _, _, _, _, _, _, _, _, _, _, _, _, _, _, _, _, _, _, _, _, _, _, _, _, _, _, _, _, _, _, _, _]) rfl ?_
      refine OW_loadR hS1 (k := 1) rfl rfl rfl rfl rfl (by first | exact part_whole rfl rfl rfl | rfl) ?_
      refine OW_loadR hS1 (k := 0) rfl rfl rfl rfl rfl (by first | exact part_whole rfl rfl rfl | rfl) ?_
      refine OW_lookV hS1 (k := 3) rfl rfl rfl ((mask o : Int), lastI l o) rfl rfl rfl rfl kPlace (z0 := 0) rfl ?_
      refine OW_env (e' := [_, _, _, _, _, _, _, _, _, _, _, _, _, _, _, _, _, _, _, _, _, _, _, _, _, _, _, _, _, _, _, _, _, _, _, _, _, _, _, _, _, _, _, _, _, _, _, _, _, _, _, _, _, _, _, _, _, _, _, _, _, _, _, _, _, _, _, _, _, _, _, _, _, _, _, _, _, _, _, _, _, _, _, _, _, _, _, _, _, _]) rfl ?_
      refine OW_bin rfl rfl rfl rfl rfl ?_
      refine OW_nilE (e' := [_, _, _, _, _, _, _, _, _, _, _, _, _, _, _, _, _, _, _, _, _, _, _, _, _, _, _, _, _, _, _, _, _, _, _, _, _, _, _, _, _, _, _, _, _, _, _, _, _, _, _, _, _, _, _, _, _, _, _, _, _, _, _, _, _, _, _, _, _, _, _, _, _, _, _, _, _, _, _, _, _, _, _, _, _, _, _, _, _, _]) rfl ?_
      refine XW_if rfl (fun h3 => ?_) (fun h3 => ?_)
      · try simp only [decide_eq_true_eq, decide_eq_false_iff_not, Bool.not_eq_true', Bool.not_eq_false', Bool.and_eq_true, Bool.or_eq_true, Bool.not_eq_true, Bool.not_eq_false, Decidable.not_not, bne_iff_ne, beq_iff_eq, List.length_append, List.length_cons, List.length_nil, List.length_drop, List.length_take] at h3
        refine XW_sr ?_
        refine OW_as rfl rfl ?_
        refine OW_nilE (e' := [_, _, _, _, _, _, _, _, _, _, _, _, _, _, _, _, _, _, _, _, _, _, _, _, _, _, _, _, _, _, _, _, _, _, _, _, _, _, _, _, _, _, _, _, _, _, _, _, _, _, _, _, _, _, _, _, _, _, _, _, _, _, _, _, _, _, _, _, _, _, _, _, _, _, _, _, _, _, _, _, _, _, _, _, _, _, _, _, _, _]) rfl ?_
        refine XW_ret ?_
        refine then_ret ?_
        -- outcome 2
        refine ret_ret (res1 rfl (rv_tmp rfl)) ?_
        rw [hd o (by omega)] at hq; exact hq _ _ _ hd (Own.drop0 (Own.mono hS1 (le_bef (bef_app (a := [1, 0]) hp))))
      · try simp only [decide_eq_true_eq, decide_eq_false_iff_not, Bool.not_eq_true', Bool.not_eq_false', Bool.and_eq_true, Bool.or_eq_true, Bool.not_eq_true, Bool.not_eq_false, Decidable.not_not, bne_iff_ne, beq_iff_eq, List.length_append, List.length_cons, List.length_nil, List.length_drop, List.length_take] at h3
        refine XW_skip ?_
        refine then_norm ?_
        refine XW_seq ?_
        refine XW_sr ?_
        refine OW_mv rfl rfl ?_
        first
        | refine OW_nc rfl rfl ?_
        | refine OW_nce rfl rfl ?_
        refine OW_fa rfl rfl rfl ?_
        refine OW_env (e' := [_, _, _, _, _, _, _, _, _, _, _, _, _, _, _, _, _, _, _, _, _, _, _, _, _, _, _, _, _, _, _, _, _, _, _, _, _, _, _, _, _, _, _, _, _, _, _, _, _, _, _, _, _, _, _, _, _, _, _, _, _, _, _, _, _, _, _, _, _, _, _, _, _, _, _, _, _, _, _, _, _, _, _, _, _, _, _, _, _, _]) rfl ?_
        refine OW_loadR hS1 (k := 1) rfl rfl rfl rfl rfl (by first | exact part_whole rfl rfl rfl | rfl) ?_
        first
        | refine OW_lenL rfl rfl (by first | assumption | exact Ls.of | exact Ls.emp | exact Ls.nls) rfl rfl rfl (by first | exact List.length_map _ | rfl) ?_
        | refine OW_bi rfl rfl rfl ?_
        | refine OW_lenO hS1 (k := 2) rfl rfl rfl rfl rfl rfl (by first | exact List.length_map _ | exact len_app1 | exact len_drop | (simp only [List.length_append, List.length_map, List.length_singleton, List.length_cons, List.length_nil]; rfl) | rfl) ?_
        refine OW_mv rfl rfl ?_
        refine OW_nilE (e' := [_, _, _, _, _, _, _, _, _, _, _, _, _, _, _, _, _, _, _, _, _, _, _, _, _, _, _, _, _, _, _, _, _, _, _, _, _, _, _, _, _, _, _, _, _, _, _, _, _, _, _, _, _, _, _, _, _, _, _, _, _, _, _, _, _, _, _, _, _, _, _, _, _, _, _, _, _, _, _, _, _, _, _, _, _, _, _, _, _, _]) rfl ?_
        refine XW_block ?_
        refine XW_whileN (I := fun ν' mm ee H' => ∃ (i : Nat) (O : AVal) (f : Int × Int → Option Int), mm = l.length - i ∧ under (1 :: 0 :: 1 :: 1 :: 1 :: ν) ν' = true ∧ Own β ν' H' (row (0 :: 0 :: ν) 2 [.agg [.int .u64 (mask o : Int), .int .i64 (lastI l o)]] :: row q 4 [.agg [.lst (l.map Hop.enc), .int .u64 (mustN l : Int), .map m, O]] :: sl O 1 (o.map eN) :: mpF m eK eI f :: L) ∧ (i ≤ l.length ∧ DeadOk l f ∧ gof l o = ((List.range l.length).drop i).findSome? (goF l (gof l) o)) ∧ ∃ g : Nat → AVal, ee = [.ptr q 0 0, plA l o, g 2, .ptr (0 :: 0 :: ν) 0 0, g 4, g 5, g 6, g 7, g 8, g 9, g 10, g 11, g 12, g 13, g 14, g 15, g 16, g 17, g 18, g 19, g 20, g 21, g 22, g 23, g 24, g 25, g 26, g 27, g 28, .lst (l.map Hop.enc), .int .i64 l.length, .int .i64 i, g 32, g 33, g 34, g 35, g 36, g 37, g 38, g 39, g 40, g 41, g 42, g 43, g 44, g 45, g 46, g 47, g 48, g 49, g 50, g 51, g 52, g 53, g 54, g 55, g 56, g 57, g 58, g 59, g 60, g 61, g 62, g 63, g 64, g 65, g 66, g 67, g 68, g 69, g 70, g 71, g 72, g 73, g 74, g 75, g 76, g 77, g 78, g 79, g 80, g 81, g 82, g 83, g 84, g 85, g 86, g 87, g 88, g 89]) ?_ _ _ _ _ ⟨0, O, f, rfl, under_me, Own.cast (Own.mono (hS1) (le_lit (ν := ν) (a := [1, 0]) (b := [1, 0, 1, 1, 1]) (by decide))) (rfl), (⟨by omega, hd, by rw [gof_eq, if_neg (fun e => h1 (by have := (must_iff l o).2 e; omega))]; rfl⟩), env_g rfl⟩
        rintro ν1 mm ee H3 ⟨i, O, f, rfl, hU1, hS3, ⟨hi, hd, hg⟩, g1, rfl⟩
        refine XW_sr ?_
        refine OW_bin rfl rfl rfl rfl rfl ?_
        refine OW_nilE (e' := [_, _, _, _, _, _, _, _, _, _, _, _, _, _, _, _, _, _, _, _, _, _, _, _, _, _, _, _, _, _, _, _, _, _, _, _, _, _, _, _, _, _, _, _, _, _, _, _, _, _, _, _, _, _, _, _, _, _, _, _, _, _, _, _, _, _, _, _, _, _, _, _, _, _, _, _, _, _, _, _, _, _, _, _, _, _, _, _, _, _]) rfl ?_
        refine XW_seq ?_
        refine XW_if rfl (fun h6 => ?_) (fun h6 => ?_)
        · try simp only [decide_eq_true_eq, decide_eq_false_iff_not, Bool.not_eq_true', Bool.not_eq_false', Bool.and_eq_true, Bool.or_eq_true, Bool.not_eq_true, Bool.not_eq_false, Decidable.not_not, bne_iff_ne, beq_iff_eq, List.length_append, List.length_cons, List.length_nil, List.length_drop, List.length_take] at h6
          refine XW_skip ?_
          refine then_norm ?_
          refine XW_seq ?_
          refine XW_block ?_
          refine XW_sr ?_
          refine OW_mv rfl rfl ?_
          refine OW_as rfl rfl ?_
          refine OW_nilE (e' := [_, _, _, _, _, _, _, _, _, _, _, _, _, _, _, _, _, _, _, _, _, _, _, _, _, _, _, _, _, _, _, _, _, _, _, _, _, _, _, _, _, _, _, _, _, _, _, _, _, _, _, _, _, _, _, _, _, _, _, _, _, _, _, _, _, _, _, _, _, _, _, _, _, _, _, _, _, _, _, _, _, _, _, _, _, _, _, _, _, _]) rfl ?_
          refine XW_seq ?_
          refine XW_sr ?_
          refine OW_mv rfl rfl ?_
          refine OW_loadR hS3 (k := 0) rfl rfl rfl rfl rfl (by first | exact part_whole rfl rfl rfl | rfl) ?_
          refine OW_mv rfl rfl ?_
          refine OW_env (e' := [_, _, _, _, _, _, _, _, _, _, _, _, _, _, _, _, _, _, _, _, _, _, _, _, _, _, _, _, _, _, _, _, _, _, _, _, _, _, _, _, _, _, _, _, _, _, _, _, _, _, _, _, _, _, _, _, _, _, _, _, _, _, _, _, _, _, _, _, _, _, _, _, _, _, _, _, _, _, _, _, _, _, _, _, _, _, _, _, _, _]) rfl ?_
          refine OW_fn rfl rfl (next_c (l := l) (o := o) (i := i) hS3 (k := 1) rfl (le_app (p := ν1) (b := [3, 0, 0, 1, 0, 1, 1, 0])) (under_app [3, 0, 0, 1, 0, 1, 1, 0] (under_trans (under_app [1, 0, 1, 1, 1] hβ) hU1)) (before_lit (ν := ν1) (a := [3, 0, 0, 1, 0, 1, 1, 0]) (b := [4, 0, 0, 1, 0, 1, 1, 0]) (by decide)) hl (by omega) ho fun H4 hS4 => ?_) 
          replace hS4 : Own _ _ _ (_ :: _ :: _ :: _ :: L) := hS4
          refine OW_un rfl rfl rfl ?_
          refine OW_nilE (e' := [_, _, _, _, _, _, _, _, _, _, _, _, _, _, _, _, _, _, _, _, _, _, _, _, _, _, _, _, _, _, _, _, _, _, _, _, _, _, _, _, _, _, _, _, _, _, _, _, _, _, _, _, _, _, _, _, _, _, _, _, _, _, _, _, _, _, _, _, _, _, _, _, _, _, _, _, _, _, _, _, _, _, _, _, _, _, _, _, _, _]) rfl ?_
          refine XW_if rfl (fun h8 => ?_) (fun h8 => ?_)
          · try simp only [decide_eq_true_eq, decide_eq_false_iff_not, Bool.not_eq_true', Bool.not_eq_false', Bool.and_eq_true, Bool.or_eq_true, Bool.not_eq_true, Bool.not_eq_false, Decidable.not_not, bne_iff_ne, beq_iff_eq, List.length_append, List.length_cons, List.length_nil, List.length_drop, List.length_take] at h8
            refine XW_exit ?_
            refine then_exit ?_
            refine block_exit ?_
            refine then_norm ?_
            refine XW_region ?_
            first
            | refine OW_bin rfl rfl rfl rfl (add_w64 (by first | omega | assumption | (simp only [ByteArray.size_append, ByteArray.size_extract, List.length_map, List.length_append, List.length_cons, List.length_nil, List.length_drop, List.length_take]; omega))) ?_
            | refine OW_bin rfl rfl rfl rfl rfl ?_
            refine OW_mv rfl rfl ?_
            refine OW_nilE (e' := [_, _, _, _, _, _, _, _, _, _, _, _, _, _, _, _, _, _, _, _, _, _, _, _, _, _, _, _, _, _, _, _, _, _, _, _, _, _, _, _, _, _, _, _, _, _, _, _, _, _, _, _, _, _, _, _, _, _, _, _, _, _, _, _, _, _, _, _, _, _, _, _, _, _, _, _, _, _, _, _, _, _, _, _, _, _, _, _, _, _]) rfl ?_
            -- round 0.1
            refine ⟨_, ?_, i + 1, _, _, rfl, under_in hU1, Own.cast (Own.mono (hS4) (le_lit (ν := ν1) (a := [4, 0, 0, 1, 0, 1, 1, 0]) (b := [1]) (by decide))) (rfl), ?_, env_g rfl⟩
            · first | omega | (simp; omega)
            · exact ⟨by omega, hd, hg.trans (step_none (by omega) (if_neg (by rw [h8]; decide)))⟩
          · try simp only [decide_eq_true_eq, decide_eq_false_iff_not, Bool.not_eq_true', Bool.not_eq_false', Bool.and_eq_true, Bool.or_eq_true, Bool.not_eq_true, Bool.not_eq_false, Decidable.not_not, bne_iff_ne, beq_iff_eq, List.length_append, List.length_cons, List.length_nil, List.length_drop, List.length_take] at h8
            refine XW_skip ?_
            refine then_norm ?_
            refine XW_sr ?_
            refine OW_fa rfl rfl rfl ?_
            refine OW_loadR hS4 (k := 0) rfl rfl rfl rfl rfl (by first | exact part_whole rfl rfl rfl | rfl) ?_
            refine OW_mv rfl rfl ?_
            refine OW_env (e' := [_, _, _, _, _, _, _, _, _, _, _, _, _, _, _, _, _, _, _, _, _, _, _, _, _, _, _, _, _, _, _, _, _, _, _, _, _, _, _, _, _, _, _, _, _, _, _, _, _, _, _, _, _, _, _, _, _, _, _, _, _, _, _, _, _, _, _, _, _, _, _, _, _, _, _, _, _, _, _, _, _, _, _, _, _, _, _, _, _, _]) rfl ?_
            first
            | refine OW_bin rfl rfl rfl rfl (shl1_u64 (by omega)) ?_
            | refine OW_bin rfl rfl rfl rfl rfl ?_
            first
            | refine OW_bin rfl rfl rfl rfl (or_u64n (by omega) (by have : 2 ^ i < 2 ^ 64 := Nat.pow_lt_pow_right (by decide) (by omega); omega)) ?_
            | refine OW_bin rfl rfl rfl rfl rfl ?_
            refine OW_fa rfl rfl rfl ?_
            refine OW_env (e' := [_, _, _, _, _, _, _, _, _, _, _, _, _, _, _, _, _, _, _, _, _, _, _, _, _, _, _, _, _, _, _, _, _, _, _, _, _, _, _, _, _, _, _, _, _, _, _, _, _, _, _, _, _, _, _, _, _, _, _, _, _, _, _, _, _, _, _, _, _, _, _, _, _, _, _, _, _, _, _, _, _, _, _, _, _, _, _, _, _, _]) rfl ?_
            refine OW_loadR hS4 (k := 0) rfl rfl rfl rfl rfl (by first | exact part_whole rfl rfl rfl | rfl) ?_
            refine OW_bd rfl rfl (v := .agg [_, _]) rfl ?_
            refine OW_allocR hS4 (le_lit (ν := ν1) (a := [4, 0, 0, 1, 0, 1, 1, 0]) (b := [8, 0, 1, 1, 0, 1, 1, 0]) (by decide)) (under_app [8, 0, 1, 1, 0, 1, 1, 0] (under_trans (under_app [1, 0, 1, 1, 1] hβ) hU1)) rfl rfl rfl rfl fun H5 hS5 => ?_
            replace hS5 : Own _ _ _ (_ :: _ :: _ :: _ :: _ :: L) := hS5
            refine OW_env (e' := [_, _, _, _, _, _, _, _, _, _, _, _, _, _, _, _, _, _, _, _, _, _, _, _, _, _, _, _, _, _, _, _, _, _, _, _, _, _, _, _, _, _, _, _, _, _, _, _, _, _, _, _, _, _, _, _, _, _, _, _, _, _, _, _, _, _, _, _, _, _, _, _, _, _, _, _, _, _, _, _, _, _, _, _, _, _, _, _, _, _]) rfl ?_
            first
            | refine OW_storeR hS5 (k := 0) rfl le_refl rfl rfl rfl rfl ⟨rfl, rfl, Nat.le_of_ble_eq_true rfl⟩ (set_whole rfl rfl) fun H6 hS6 => ?_
            | refine OW_storeR hS5 (k := 0) rfl le_refl rfl rfl rfl rfl ⟨rfl, rfl, Nat.le_of_ble_eq_true rfl⟩ (u2 := .agg [_, _]) rfl fun H6 hS6 => ?_
            replace hS6 : Own _ _ _ (_ :: _ :: _ :: _ :: _ :: L) := hS6
            refine OW_nilE (e' := [_, _, _, _, _, _, _, _, _, _, _, _, _, _, _, _, _, _, _, _, _, _, _, _, _, _, _, _, _, _, _, _, _, _, _, _, _, _, _, _, _, _, _, _, _, _, _, _, _, _, _, _, _, _, _, _, _, _, _, _, _, _, _, _, _, _, _, _, _, _, _, _, _, _, _, _, _, _, _, _, _, _, _, _, _, _, _, _, _, _]) rfl ?_
            refine XW_mid (M := fun ee H' => Own β (1 :: 1 :: 1 :: 1 :: 0 :: 1 :: 1 :: 0 :: ν1) H' (row (8 :: 0 :: 1 :: 1 :: 0 :: 1 :: 1 :: 0 :: ν1) 2 [.agg [.int .u64 (mask (o ++ [i]) : Int), .int .i64 (lastI l (o ++ [i]))]] :: row (0 :: 0 :: ν) 2 [.agg [.int .u64 (mask o : Int), .int .i64 (lastI l o)]] :: row q 4 [.agg [.lst (l.map Hop.enc), .int .u64 (mustN l : Int), .map m, O]] :: sl O 1 (o.map eN) :: mpF m eK eI f :: L) ∧ (True) ∧ ∃ g : Nat → AVal, ee = [.ptr q 0 0, plA l o, g 2, .ptr (0 :: 0 :: ν) 0 0, g 4, .int .i64 i, .ptr (8 :: 0 :: 1 :: 1 :: 0 :: 1 :: 1 :: 0 :: ν1) 0 0, g 7, g 8, g 9, g 10, g 11, g 12, g 13, g 14, g 15, g 16, g 17, g 18, g 19, g 20, g 21, g 22, g 23, g 24, g 25, g 26, g 27, g 28, .lst (l.map Hop.enc), .int .i64 l.length, .int .i64 i, g 32, g 33, g 34, g 35, g 36, g 37, g 38, g 39, g 40, g 41, g 42, g 43, g 44, g 45, g 46, g 47, g 48, g 49, g 50, g 51, g 52, g 53, g 54, g 55, g 56, g 57, g 58, g 59, g 60, g 61, g 62, g 63, g 64, g 65, g 66, g 67, g 68, g 69, g 70, g 71, g 72, g 73, g 74, g 75, g 76, g 77, g 78, g 79, g 80, g 81, g 82, g 83, g 84, g 85, g 86, g 87, g 88, g 89]) ?_ ?_
            · skip
              refine XW_sr ?_
              refine OW_mv rfl rfl ?_
              first
              | refine OW_nc rfl rfl ?_
              | refine OW_nce rfl rfl ?_
              refine OW_fa rfl rfl rfl ?_
              refine OW_env (e' := [_, _, _, _, _, _, _, _, _, _, _, _, _, _, _, _, _, _, _, _, _, _, _, _, _, _, _, _, _, _, _, _, _, _, _, _, _, _, _, _, _, _, _, _, _, _, _, _, _, _, _, _, _, _, _, _, _, _, _, _, _, _, _, _, _, _, _, _, _, _, _, _, _, _, _, _, _, _, _, _, _, _, _, _, _, _, _, _, _, _]) rfl ?_
              refine OW_loadR hS6 (k := 2) rfl rfl rfl rfl rfl (by first | exact part_whole rfl rfl rfl | rfl) ?_
              refine OW_mv rfl rfl ?_
              first
              | refine OW_iaL rfl rfl rfl Ls.of rfl rfl rfl (by first | rfl | exact (Int.toNat_of_nonneg (by omega)).symm) (by first | assumption | exact at_map (by first | assumption | omega) | exact at_lst (by omega) | rfl) rfl ?_
              | refine OW_iaL rfl rfl rfl (by assumption) rfl rfl rfl (by first | rfl | exact (Int.toNat_of_nonneg (by omega)).symm) (by first | assumption | exact at_map (by first | assumption | omega) | exact at_lst (by omega) | rfl) rfl ?_
              refine OW_env (e' := [_, _, _, _, _, _, _, _, _, _, _, _, _, _, _, _, _, _, _, _, _, _, _, _, _, _, _, _, _, _, _, _, _, _, _, _, _, _, _, _, _, _, _, _, _, _, _, _, _, _, _, _, _, _, _, _, _, _, _, _, _, _, _, _, _, _, _, _, _, _, _, _, _, _, _, _, _, _, _, _, _, _, _, _, _, _, _, _, _, _]) rfl ?_
              refine OW_fa rfl rfl rfl ?_
              refine OW_loadE rfl rfl rfl (by first | exact part_whole rfl rfl rfl | rfl) ?_
              refine OW_nilE (e' := [_, _, _, _, _, _, _, _, _, _, _, _, _, _, _, _, _, _, _, _, _, _, _, _, _, _, _, _, _, _, _, _, _, _, _, _, _, _, _, _, _, _, _, _, _, _, _, _, _, _, _, _, _, _, _, _, _, _, _, _, _, _, _, _, _, _, _, _, _, _, _, _, _, _, _, _, _, _, _, _, _, _, _, _, _, _, _, _, _, _]) rfl ?_
              refine XW_if rfl (fun h10 => ?_) (fun h10 => ?_)
              · try simp only [decide_eq_true_eq, decide_eq_false_iff_not, Bool.not_eq_true', Bool.not_eq_false', Bool.and_eq_true, Bool.or_eq_true, Bool.not_eq_true, Bool.not_eq_false, Decidable.not_not, bne_iff_ne, beq_iff_eq, List.length_append, List.length_cons, List.length_nil, List.length_drop, List.length_take] at h10
                refine XW_region ?_
                refine OW_mv rfl rfl ?_
                refine OW_fa rfl rfl rfl ?_
                refine OW_storeR hS6 (k := 0) rfl (le_lit (ν := ν1) (a := [10, 0, 1, 1, 0, 1, 1, 0]) (b := [2, 1, 0, 1, 1, 1, 0, 1, 1, 0]) (by decide)) rfl rfl rfl rfl ⟨rfl, rfl, Nat.le_of_ble_eq_true rfl⟩ (u2 := .agg [_, _]) rfl fun H7 hS7 => ?_
                replace hS7 : Own _ _ _ (_ :: _ :: _ :: _ :: _ :: L) := hS7
                refine OW_nilE (e' := [_, _, _, _, _, _, _, _, _, _, _, _, _, _, _, _, _, _, _, _, _, _, _, _, _, _, _, _, _, _, _, _, _, _, _, _, _, _, _, _, _, _, _, _, _, _, _, _, _, _, _, _, _, _, _, _, _, _, _, _, _, _, _, _, _, _, _, _, _, _, _, _, _, _, _, _, _, _, _, _, _, _, _, _, _, _, _, _, _, _]) rfl ?_
                -- mid 12.1
                refine ⟨Own.cast (Own.mono (hS7) (le_lit (ν := ν1) (a := [3, 1, 0, 1, 1, 1, 0, 1, 1, 0]) (b := [1, 1, 1, 1, 0, 1, 1, 0]) (by decide))) (by rw [mask_snoc, lastI_snoc, wAt_eq (by omega)]; first | (rw [if_pos (by assumption)]) | (rw [if_neg (by rw [h10]; decide)])), ?_, env_g rfl⟩
                · first | trivial | omega | simp_all
              · try simp only [decide_eq_true_eq, decide_eq_false_iff_not, Bool.not_eq_true', Bool.not_eq_false', Bool.and_eq_true, Bool.or_eq_true, Bool.not_eq_true, Bool.not_eq_false, Decidable.not_not, bne_iff_ne, beq_iff_eq, List.length_append, List.length_cons, List.length_nil, List.length_drop, List.length_take] at h10
                refine XW_skip ?_
                -- mid 12.2
                refine ⟨Own.cast (Own.mono (hS6) (le_lit (ν := ν1) (a := [10, 0, 1, 1, 0, 1, 1, 0]) (b := [1, 1, 1, 1, 0, 1, 1, 0]) (by decide))) (by rw [mask_snoc, lastI_snoc, wAt_eq (by omega)]; first | (rw [if_pos (by assumption)]) | (rw [if_neg (by rw [h10]; decide)])), ?_, env_g rfl⟩
                · first | trivial | omega | simp_all
            · rintro ee H8 ⟨hS8, _, g2, rfl⟩
              refine XW_sr ?_
              refine OW_mv rfl rfl ?_
              refine OW_mv rfl rfl ?_
              first
              | refine OW_nc rfl rfl ?_
              | refine OW_nce rfl rfl ?_
              refine OW_env (e' := [_, _, _, _, _, _, _, _, _, _, _, _, _, _, _, _, _, _, _, _, _, _, _, _, _, _, _, _, _, _, _, _, _, _, _, _, _, _, _, _, _, _, _, _, _, _, _, _, _, _, _, _, _, _, _, _, _, _, _, _, _, _, _, _, _, _, _, _, _, _, _, _, _, _, _, _, _, _, _, _, _, _, _, _, _, _, _, _, _, _]) rfl ?_
              refine OW_fa rfl rfl rfl ?_
              refine OW_loadR hS8 (k := 2) rfl rfl rfl rfl rfl (by first | exact part_whole rfl rfl rfl | rfl) ?_
              refine OW_mv rfl rfl ?_
              refine OW_env (e' := [_, _, _, _, _, _, _, _, _, _, _, _, _, _, _, _, _, _, _, _, _, _, _, _, _, _, _, _, _, _, _, _, _, _, _, _, _, _, _, _, _, _, _, _, _, _, _, _, _, _, _, _, _, _, _, _, _, _, _, _, _, _, _, _, _, _, _, _, _, _, _, _, _, _, _, _, _, _, _, _, _, _, _, _, _, _, _, _, _, _]) rfl ?_
              refine OW_bs rfl rfl (v := .lst [_]) rfl ?_
              refine OW_app hS8 (k := 3) rfl (le_app (p := 1 :: 1 :: 1 :: 1 :: 0 :: 1 :: 1 :: 0 :: ν1) (b := [7, 0])) (under_app [7, 0, 1, 1, 1, 1, 0, 1, 1, 0] (under_trans (under_app [1, 0, 1, 1, 1] hβ) hU1)) rfl rfl rfl rfl rfl rfl rfl rfl (by first | rfl | exact Ls.elems (by assumption)) (by first | exact one_wide rfl | exact map_wide (fun _ => rfl) | assumption | (intro y hy; simp at hy; done)) (by first | omega | (simp only [List.length_map, List.length_append, List.length_singleton, List.length_cons, List.length_nil, List.length_take, List.length_drop]; omega) | (simp; omega)) (by decide) fun O1 H9 hS9 => ?_
              replace hS9 : Own _ _ _ (_ :: _ :: _ :: _ :: _ :: L) := hS9
              first
              | refine OW_nc rfl rfl ?_
              | refine OW_nce rfl rfl ?_
              refine OW_env (e' := [_, _, _, _, _, _, _, _, _, _, _, _, _, _, _, _, _, _, _, _, _, _, _, _, _, _, _, _, _, _, _, _, _, _, _, _, _, _, _, _, _, _, _, _, _, _, _, _, _, _, _, _, _, _, _, _, _, _, _, _, _, _, _, _, _, _, _, _, _, _, _, _, _, _, _, _, _, _, _, _, _, _, _, _, _, _, _, _, _, _]) rfl ?_
              refine OW_fa rfl rfl rfl ?_
              refine OW_storeC hS9 (k := 2) rfl (le_lit (ν := ν1) (a := [8, 0, 1, 1, 1, 1, 0, 1, 1, 0]) (b := [10, 0, 1, 1, 1, 1, 0, 1, 1, 0]) (by decide)) rfl rfl rfl (hS9.one (k := 3) rfl) rfl rfl (Nat.le_of_ble_eq_true rfl) (u2 := .agg [_, _, _, _]) rfl fun H10 hS10 => ?_
              replace hS10 : Own _ _ _ (_ :: _ :: _ :: _ :: _ :: L) := hS10
              refine OW_nilE (e' := [_, _, _, _, _, _, _, _, _, _, _, _, _, _, _, _, _, _, _, _, _, _, _, _, _, _, _, _, _, _, _, _, _, _, _, _, _, _, _, _, _, _, _, _, _, _, _, _, _, _, _, _, _, _, _, _, _, _, _, _, _, _, _, _, _, _, _, _, _, _, _, _, _, _, _, _, _, _, _, _, _, _, _, _, _, _, _, _, _, _]) rfl ?_
              refine XW_seq ?_
              refine XW_sr ?_
              have hnx := nxt_iff.1 h8; have hfs := fu_snoc (n := l.length) (i := i) (by omega) hnx.1
              have ho2 : ∀ j ∈ o ++ [i], j < l.length := (by intro j hj; rcases List.mem_append.1 hj with h | h; (exact ho j h); (rw [List.mem_singleton.1 h]; omega))
              replace hS10 := hS10.reS (k := 3) rfl (map_snoc (f := eN) (a := i))
              refine OW_mv rfl rfl ?_
              refine OW_loadR hS10 (k := 0) rfl rfl rfl rfl rfl (by first | exact part_whole rfl rfl rfl | rfl) ?_
              refine OW_fn rfl rfl (ihX (o ++ [i]) (by omega) (by rw [List.length_append]; simp; omega) ho2 hd hS10 (le_lit (ν := ν1) (a := [11, 0, 1, 1, 1, 1, 0, 1, 1, 0]) (b := [2, 0, 0, 1, 1, 1, 1, 1, 0, 1, 1, 0]) (by decide)) (under_app [2, 0, 0, 1, 1, 1, 1, 1, 0, 1, 1, 0] (under_trans (under_app [1, 0, 1, 1, 1] hβ) hU1)) (before_lit (ν := ν1) (a := [2, 0, 0, 1, 1, 1, 1, 1, 0, 1, 1, 0]) (b := [3, 0, 0, 1, 1, 1, 1, 1, 0, 1, 1, 0]) (by decide)) fun H11 O2 f'1 hd'1 hS11 => ?_) 
              replace hS11 : Own _ _ _ (_ :: _ :: _ :: _ :: _ :: L) := hS11
              refine OW_nilE (e' := [_, _, _, _, _, _, _, _, _, _, _, _, _, _, _, _, _, _, _, _, _, _, _, _, _, _, _, _, _, _, _, _, _, _, _, _, _, _, _, _, _, _, _, _, _, _, _, _, _, _, _, _, _, _, _, _, _, _, _, _, _, _, _, _, _, _, _, _, _, _, _, _, _, _, _, _, _, _, _, _, _, _, _, _, _, _, _, _, _, _]) rfl ?_
              refine XW_if rfl (fun h13 => ?_) (fun h13 => ?_)
              · try simp only [decide_eq_true_eq, decide_eq_false_iff_not, Bool.not_eq_true', Bool.not_eq_false', Bool.and_eq_true, Bool.or_eq_true, Bool.not_eq_true, Bool.not_eq_false, Decidable.not_not, bne_iff_ne, beq_iff_eq, List.length_append, List.length_cons, List.length_nil, List.length_drop, List.length_take] at h13
                refine XW_sr ?_
                refine OW_as rfl rfl ?_
                refine OW_nilE (e' := [_, _, _, _, _, _, _, _, _, _, _, _, _, _, _, _, _, _, _, _, _, _, _, _, _, _, _, _, _, _, _, _, _, _, _, _, _, _, _, _, _, _, _, _, _, _, _, _, _, _, _, _, _, _, _, _, _, _, _, _, _, _, _, _, _, _, _, _, _, _, _, _, _, _, _, _, _, _, _, _, _, _, _, _, _, _, _, _, _, _]) rfl ?_
                refine XW_ret ?_
                refine then_ret ?_
                refine block_ret ?_
                refine then_ret ?_
                refine block_ret ?_
                refine then_ret ?_
                -- outcome 3
                refine ret_ret (res1 rfl (rv_tmp rfl)) ?_
                obtain ⟨r, hr⟩ := Option.isSome_iff_exists.1 h13
                rw [hr] at hS11
                rw [show gof l o = some r from hg.trans (step_some (by omega) (by unfold goF; rw [if_pos h8]; exact hr))] at hq; exact hq _ _ _ hd'1 (Own.drop0 (Own.drop0 (Own.mono hS11 (le_bef (bef_under (a := [3, 0, 0, 1, 1, 1, 1, 1, 0, 1, 1, 0]) hU1 (bef_app (a := [1, 0, 1, 1, 1]) hp))))))
              · try simp only [decide_eq_true_eq, decide_eq_false_iff_not, Bool.not_eq_true', Bool.not_eq_false', Bool.and_eq_true, Bool.or_eq_true, Bool.not_eq_true, Bool.not_eq_false, Decidable.not_not, bne_iff_ne, beq_iff_eq, List.length_append, List.length_cons, List.length_nil, List.length_drop, List.length_take] at h13
                refine XW_skip ?_
                refine then_norm ?_
                refine XW_region ?_
                have hgn : gof l (o ++ [i]) = none := (by cases hh : gof l (o ++ [i]) with | none => rfl | some r => rw [hh] at h13; cases h13)
                replace hS11 := hS11.reS (k := 3) rfl (show _ = (o ++ [i]).map eN by rw [hgn]; rfl)
                refine OW_mv rfl rfl ?_
                refine OW_mv rfl rfl ?_
                first
                | refine OW_nc rfl rfl ?_
                | refine OW_nce rfl rfl ?_
                refine OW_env (e' := [_, _, _, _, _, _, _, _, _, _, _, _, _, _, _, _, _, _, _, _, _, _, _, _, _, _, _, _, _, _, _, _, _, _, _, _, _, _, _, _, _, _, _, _, _, _, _, _, _, _, _, _, _, _, _, _, _, _, _, _, _, _, _, _, _, _, _, _, _, _, _, _, _, _, _, _, _, _, _, _, _, _, _, _, _, _, _, _, _, _]) rfl ?_
                refine OW_fa rfl rfl rfl ?_
                refine OW_loadR hS11 (k := 2) rfl rfl rfl rfl rfl (by first | exact part_whole rfl rfl rfl | rfl) ?_
                refine OW_mv rfl rfl ?_
                refine OW_env (e' := [_, _, _, _, _, _, _, _, _, _, _, _, _, _, _, _, _, _, _, _, _, _, _, _, _, _, _, _, _, _, _, _, _, _, _, _, _, _, _, _, _, _, _, _, _, _, _, _, _, _, _, _, _, _, _, _, _, _, _, _, _, _, _, _, _, _, _, _, _, _, _, _, _, _, _, _, _, _, _, _, _, _, _, _, _, _, _, _, _, _]) rfl ?_
                first
                | refine OW_nc rfl rfl ?_
                | refine OW_nce rfl rfl ?_
                refine OW_fa rfl rfl rfl ?_
                refine OW_loadR hS11 (k := 2) rfl rfl rfl rfl rfl (by first | exact part_whole rfl rfl rfl | rfl) ?_
                refine OW_env (e' := [_, _, _, _, _, _, _, _, _, _, _, _, _, _, _, _, _, _, _, _, _, _, _, _, _, _, _, _, _, _, _, _, _, _, _, _, _, _, _, _, _, _, _, _, _, _, _, _, _, _, _, _, _, _, _, _, _, _, _, _, _, _, _, _, _, _, _, _, _, _, _, _, _, _, _, _, _, _, _, _, _, _, _, _, _, _, _, _, _, _]) rfl ?_
                refine OW_lenO hS11 (k := 3) rfl rfl rfl rfl rfl rfl (by first | exact List.length_map _ | exact len_app1 | exact len_drop | (simp only [List.length_append, List.length_map, List.length_singleton, List.length_cons, List.length_nil]; rfl) | rfl) ?_
                rw [show ((o ++ [i]).length : Int) = (o.length : Int) + 1 by simp]
                first
                | refine OW_bin rfl rfl rfl rfl (sub_w64 (by first | omega | assumption | (simp only [ByteArray.size_append, ByteArray.size_extract, List.length_map, List.length_append, List.length_cons, List.length_nil, List.length_drop, List.length_take]; omega))) ?_
                | refine OW_bin rfl rfl rfl rfl rfl ?_
                rw [show (o.length : Int) + 1 - 1 = (o.length : Int) by omega]
                refine OW_slO_hi hS11 (k := 3) rfl (le_lit (ν := ν1) (a := [3, 0, 0, 1, 1, 1, 1, 1, 0, 1, 1, 0]) (b := [11, 1, 1, 1, 1, 1, 1, 0, 1, 1, 0]) (by decide)) rfl rfl rfl rfl rfl rfl rfl (by first | rfl | exact (Int.toNat_of_nonneg (by omega)).symm) trivial (by first | omega | (simp only [List.length_map, List.length_append, List.length_singleton, List.length_cons, List.length_nil, List.length_drop]; omega)) trivial fun O3 hS12 => ?_
                replace hS12 : Own _ _ _ (_ :: _ :: _ :: _ :: _ :: L) := hS12
                refine OW_env (e' := [_, _, _, _, _, _, _, _, _, _, _, _, _, _, _, _, _, _, _, _, _, _, _, _, _, _, _, _, _, _, _, _, _, _, _, _, _, _, _, _, _, _, _, _, _, _, _, _, _, _, _, _, _, _, _, _, _, _, _, _, _, _, _, _, _, _, _, _, _, _, _, _, _, _, _, _, _, _, _, _, _, _, _, _, _, _, _, _, _, _]) rfl ?_
                first
                | refine OW_nc rfl rfl ?_
                | refine OW_nce rfl rfl ?_
                refine OW_fa rfl rfl rfl ?_
                refine OW_storeC hS12 (k := 2) rfl (le_lit (ν := ν1) (a := [12, 1, 1, 1, 1, 1, 1, 0, 1, 1, 0]) (b := [14, 1, 1, 1, 1, 1, 1, 0, 1, 1, 0]) (by decide)) rfl rfl rfl (hS12.one (k := 3) rfl) rfl rfl (Nat.le_of_ble_eq_true rfl) (u2 := .agg [_, _, _, _]) rfl fun H12 hS13 => ?_
                replace hS13 : Own _ _ _ (_ :: _ :: _ :: _ :: _ :: L) := hS13
                refine OW_nilE (e' := [_, _, _, _, _, _, _, _, _, _, _, _, _, _, _, _, _, _, _, _, _, _, _, _, _, _, _, _, _, _, _, _, _, _, _, _, _, _, _, _, _, _, _, _, _, _, _, _, _, _, _, _, _, _, _, _, _, _, _, _, _, _, _, _, _, _, _, _, _, _, _, _, _, _, _, _, _, _, _, _, _, _, _, _, _, _, _, _, _, _]) rfl ?_
                refine block_norm ?_
                refine then_norm ?_
                refine XW_region ?_
                first
                | refine OW_bin rfl rfl rfl rfl (add_w64 (by first | omega | assumption | (simp only [ByteArray.size_append, ByteArray.size_extract, List.length_map, List.length_append, List.length_cons, List.length_nil, List.length_drop, List.length_take]; omega))) ?_
                | refine OW_bin rfl rfl rfl rfl rfl ?_
                refine OW_mv rfl rfl ?_
                refine OW_nilE (e' := [_, _, _, _, _, _, _, _, _, _, _, _, _, _, _, _, _, _, _, _, _, _, _, _, _, _, _, _, _, _, _, _, _, _, _, _, _, _, _, _, _, _, _, _, _, _, _, _, _, _, _, _, _, _, _, _, _, _, _, _, _, _, _, _, _, _, _, _, _, _, _, _, _, _, _, _, _, _, _, _, _, _, _, _, _, _, _, _, _, _]) rfl ?_
                have hSd1 : Own _ _ _ (_ :: _ :: _ :: _ :: L) := (Own.drop hS13 (k := 0) rfl)
                -- round 0.2
                refine ⟨_, ?_, i + 1, O3, f'1, rfl, under_in hU1, Own.cast (Own.mono (hSd1) (le_lit (ν := ν1) (a := [15, 1, 1, 1, 1, 1, 1, 0, 1, 1, 0]) (b := [1]) (by decide))) (by simp), ?_, env_g rfl⟩
                · first | omega | (simp; omega)
                · exact ⟨by omega, hd'1, hg.trans (step_none (by omega) (by unfold goF; rw [if_pos h8]; exact hgn))⟩
        · try simp only [decide_eq_true_eq, decide_eq_false_iff_not, Bool.not_eq_true', Bool.not_eq_false', Bool.and_eq_true, Bool.or_eq_true, Bool.not_eq_true, Bool.not_eq_false, Decidable.not_not, bne_iff_ne, beq_iff_eq, List.length_append, List.length_cons, List.length_nil, List.length_drop, List.length_take] at h6
          refine XW_exit ?_
          refine then_exit ?_
          refine block_exit ?_
          refine then_norm ?_
          refine XW_sr ?_
          refine OW_mv rfl rfl ?_
          first
          | refine OW_nc rfl rfl ?_
          | refine OW_nce rfl rfl ?_
          refine OW_fa rfl rfl rfl ?_
          refine OW_env (e' := [_, _, _, _, _, _, _, _, _, _, _, _, _, _, _, _, _, _, _, _, _, _, _, _, _, _, _, _, _, _, _, _, _, _, _, _, _, _, _, _, _, _, _, _, _, _, _, _, _, _, _, _, _, _, _, _, _, _, _, _, _, _, _, _, _, _, _, _, _, _, _, _, _, _, _, _, _, _, _, _, _, _, _, _, _, _, _, _, _, _]) rfl ?_
          refine OW_loadR hS3 (k := 1) rfl rfl rfl rfl rfl (by first | exact part_whole rfl rfl rfl | rfl) ?_
          refine OW_loadR hS3 (k := 0) rfl rfl rfl rfl rfl (by first | exact part_whole rfl rfl rfl | rfl) ?_
          refine OW_setM hS3 (k := 3) rfl (le_bef (bef_under (a := []) hU1 (before_lit (ν := ν) (a := [1, 0, 1, 1, 1]) (b := [5, 0, 1, 1, 1, 1]) (by decide)))) rfl rfl ((mask o : Int), lastI l o) rfl rfl rfl rfl kPlace fun H13 hS14 => ?_
          replace hS14 : Own _ _ _ (_ :: _ :: _ :: _ :: L) := hS14
          refine OW_nilE (e' := [_, _, _, _, _, _, _, _, _, _, _, _, _, _, _, _, _, _, _, _, _, _, _, _, _, _, _, _, _, _, _, _, _, _, _, _, _, _, _, _, _, _, _, _, _, _, _, _, _, _, _, _, _, _, _, _, _, _, _, _, _, _, _, _, _, _, _, _, _, _, _, _, _, _, _, _, _, _, _, _, _, _, _, _, _, _, _, _, _, _]) rfl ?_
          refine XW_sr ?_
          refine OW_as rfl rfl ?_
          refine OW_nilE (e' := [_, _, _, _, _, _, _, _, _, _, _, _, _, _, _, _, _, _, _, _, _, _, _, _, _, _, _, _, _, _, _, _, _, _, _, _, _, _, _, _, _, _, _, _, _, _, _, _, _, _, _, _, _, _, _, _, _, _, _, _, _, _, _, _, _, _, _, _, _, _, _, _, _, _, _, _, _, _, _, _, _, _, _, _, _, _, _, _, _, _]) rfl ?_
          refine XW_ret ?_
          -- outcome 4
          refine ret_ret (res1 rfl (rv_tmp rfl)) ?_
          have hgn : gof l o = none := hg.trans (step_end (by omega))
          have hdp := dead_put hd hgn
          rw [hgn] at hq; exact hq _ _ _ hdp (Own.drop0 (Own.mono hS14 (le_bef (bef_app (a := [6, 0, 1, 1, 1, 1]) hp))))
end Go.Proofs.Ytgeadlkaniggdaa.X
