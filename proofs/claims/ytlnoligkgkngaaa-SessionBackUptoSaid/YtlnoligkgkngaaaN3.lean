/- Layer 11: Note, Is, has, Check. -/
import Derived.Test.YtlnoligkgkngaaaN2
set_option linter.unusedVariables false
set_option linter.unusedSimpArgs false
set_option maxRecDepth 100000
namespace Go.Proofs.Ytlnoligkgkngaaa.X
open Go Go.RowKit
variable {ν : Nm} {H : Heap} {Q : AVal → Heap → Prop}
def cutA (a : ByteArray) : ByteArray := a.extract 0 (min a.size 256)
theorem cutA_id {a : ByteArray} (h : a.size ≤ 256) : cutA a = a := by
  unfold cutA; rw [Nat.min_eq_left h]; simp
def keepL (id : Int) (t : List Se) : List Se := t.filter (fun x => !decide (x.id = id))
def lastL (l : List Se) : List Se := l.drop (l.length - 16)
def noteL (t : List Se) (id nr : Int) (a : ByteArray) : List Se := lastL (keepL id t ++ [⟨id, nr, cutA a⟩])
theorem keepL_le (id : Int) (t : List Se) : (keepL id t).length ≤ t.length := List.length_filter_le _ _
theorem keepL_cons (id : Int) (x : Se) (r : List Se) : keepL id (x :: r) = if x.id = id then keepL id r else x :: keepL id r := by
  by_cases h : x.id = id <;> simp [keepL, h]
theorem pNote {v : AVal} {t : List Se} (hv : Ls v (t.map Se.enc)) (hn : t.length ≤ 4294967290) (id nr : Int) (a : ByteArray) (ha : a.size ≤ 140737488355328) (hq : Q (.lst ((noteL t id nr a).map Se.enc)) H) : CW cfg ν 12 [v, .int .u64 id, .int .u64 nr, .str a] H Q := by
  have hk := keepL_le id t
  refine CW_pure g12 F12 rfl ?_
  have hS0 : Own ν ν (fun _ => none) [] := Own.nil
  refine XW_sr ?_
  refine OW_as rfl rfl ?_
  refine OW_nilE (e' := [_, _, _, _, _, _, _, _, _, _, _, _, _, _, _, _, _, _, _, _, _, _, _, _, _, _, _, _, _, _, _, _]) rfl ?_
  refine XW_sr ?_
  refine OW_mv rfl rfl ?_
  refine OW_fn rfl rfl (Se.clone (by assumption) hS0 (le_app (p := ν) (b := [1, 0, 1])) (under_app [1, 0, 1] under_me) (before_lit (ν := ν) (a := [1, 0, 1]) (b := [2, 0, 1]) (by decide)) (by omega) fun O1 H1 hS1 => ?_) 
  replace hS1 : Own _ _ _ ([_]) := hS1
  refine OW_mv rfl rfl ?_
  refine OW_env (e' := [_, _, _, _, _, _, _, _, _, _, _, _, _, _, _, _, _, _, _, _, _, _, _, _, _, _, _, _, _, _, _, _]) rfl ?_
  refine OW_fn rfl rfl (c_of hS1 (le_lit (ν := ν) (a := [2, 0, 1]) (b := [3, 0, 1]) (by decide)) (under_app [3, 0, 1] under_me) (before_lit (ν := ν) (a := [3, 0, 1]) (b := [4, 0, 1]) (by decide)) fun b1 H2 hS2 hf1 => ?_) 
  replace hS2 : Own _ _ _ ([_, _]) := hS2
  refine OW_fn rfl rfl (Se.delS (by assumption) hS2 le_refl (k := 1) (kb := 0) rfl rfl (by decide) (before_lit (ν := ν) (a := [4, 0, 1]) (b := [5, 0, 1]) (by decide)) (by omega) fun O2 H3 hS3 => ?_) 
  replace hS3 : Own _ _ _ ([_, _]) := hS3
  change Own _ _ _ [_, sl _ 3 ((keepL id t).map Se.enc)] at hS3
  refine OW_as rfl rfl ?_
  refine OW_nilE (e' := [_, _, _, _, _, _, _, _, _, _, _, _, _, _, _, _, _, _, _, _, _, _, _, _, _, _, _, _, _, _, _, _]) rfl ?_
  refine XW_sr ?_
  refine OW_mv rfl rfl ?_
  refine OW_mv rfl rfl ?_
  refine OW_mv rfl rfl ?_
  refine OW_env (e' := [_, _, _, _, _, _, _, _, _, _, _, _, _, _, _, _, _, _, _, _, _, _, _, _, _, _, _, _, _, _, _, _]) rfl ?_
  refine OW_mv rfl rfl ?_
  refine OW_mv rfl rfl ?_
  refine OW_lenS rfl rfl rfl ?_
  refine OW_env (e' := [_, _, _, _, _, _, _, _, _, _, _, _, _, _, _, _, _, _, _, _, _, _, _, _, _, _, _, _, _, _, _, _]) rfl ?_
  refine OW_bi rfl rfl mn64 ?_
  refine OW_sl rfl rfl rfl rfl rfl (str_hi rfl rfl (by first | omega | (simp only [ByteArray.size_append, ByteArray.size_extract, List.length_map, List.length_append, List.length_cons, List.length_nil, List.length_drop, List.length_take]; omega)) (by first | omega | (simp only [ByteArray.size_append, ByteArray.size_extract, List.length_map, List.length_append, List.length_cons, List.length_nil, List.length_drop, List.length_take]; omega))) ?_
  rw [show (min (a.size : Int) 256).toNat = min a.size 256 by omega]
  refine OW_bd rfl rfl (v := .agg [_, _, _]) rfl ?_
  refine OW_env (e' := [_, _, _, _, _, _, _, _, _, _, _, _, _, _, _, _, _, _, _, _, _, _, _, _, _, _, _, _, _, _, _, _]) rfl ?_
  refine OW_bs rfl rfl (v := .lst [_]) rfl ?_
  refine OW_app hS3 (k := 1) rfl (le_lit (ν := ν) (a := [5, 0, 1]) (b := [10, 0, 1, 1]) (by decide)) (under_app [10, 0, 1, 1] under_me) rfl rfl rfl rfl rfl rfl rfl rfl (by first | rfl | exact Ls.elems (by assumption)) (by first | exact one_wide rfl | exact map_wide (fun _ => rfl) | assumption | (intro y hy; simp at hy; done)) (by first | omega | (simp only [List.length_map, List.length_append, List.length_singleton, List.length_cons, List.length_nil, List.length_take, List.length_drop]; omega) | (simp; omega)) (by decide) fun O3 H4 hS4 => ?_
  replace hS4 : Own _ _ _ ([_, _]) := hS4
  refine OW_as rfl rfl ?_
  refine OW_nilE (e' := [_, _, _, _, _, _, _, _, _, _, _, _, _, _, _, _, _, _, _, _, _, _, _, _, _, _, _, _, _, _, _, _]) rfl ?_
  refine XW_sr ?_
  replace hS4 := hS4.reS (k := 1) rfl (map_snoc (a := (⟨id, nr, cutA a⟩ : Se)))
  refine OW_mv rfl rfl ?_
  refine OW_mv rfl rfl ?_
  refine OW_lenO hS4 (k := 1) rfl rfl rfl rfl rfl rfl (by first | exact List.length_map _ | exact len_app1 | exact len_drop | (simp only [List.length_append, List.length_map, List.length_singleton, List.length_cons, List.length_nil]; rfl) | rfl) ?_
  refine OW_env (e' := [_, _, _, _, _, _, _, _, _, _, _, _, _, _, _, _, _, _, _, _, _, _, _, _, _, _, _, _, _, _, _, _]) rfl ?_
  first
  | refine OW_bin rfl rfl rfl rfl (sub_w64 (by first | omega | assumption | (simp only [ByteArray.size_append, ByteArray.size_extract, List.length_map, List.length_append, List.length_cons, List.length_nil, List.length_drop, List.length_take]; omega))) ?_
  | refine OW_bin rfl rfl rfl rfl rfl ?_
  refine OW_bi rfl rfl mx64 ?_
  refine OW_slO_lo hS4 (k := 1) rfl (le_lit (ν := ν) (a := [11, 0, 1, 1]) (b := [5, 0, 1, 1, 1]) (by decide)) rfl rfl rfl rfl rfl rfl rfl (by first | rfl | exact (Int.toNat_of_nonneg (by omega)).symm) (by first | omega | (simp; done) | (simp; omega)) (by first | omega | (simp only [List.length_map, List.length_append, List.length_singleton, List.length_cons, List.length_nil, List.length_drop]; omega)) trivial fun O4 hS5 => ?_
  replace hS5 : Own _ _ _ ([_, _]) := hS5
  refine OW_env (e' := [_, _, _, _, _, _, _, _, _, _, _, _, _, _, _, _, _, _, _, _, _, _, _, _, _, _, _, _, _, _, _, _]) rfl ?_
  refine OW_as rfl rfl ?_
  refine OW_nilE (e' := [_, _, _, _, _, _, _, _, _, _, _, _, _, _, _, _, _, _, _, _, _, _, _, _, _, _, _, _, _, _, _, _]) rfl ?_
  refine XW_ret ?_
  replace hS5 := hS5.reV (k := 1) rfl List.map_drop.symm
  -- outcome 1
  refine ret_ret (res1 rfl (rv_tmp rfl)) (frz1 (Q := Q) (by first | exact hS5.frzV (k := 1) rfl (by first | exact map_plain (fun _ => rfl) | (intro x hx; simp at hx; done)) | exact freeze_plain rfl | exact Ls.freeze (by assumption) | exact Ls.freeze Ls.of | exact Ls.freeze Ls.emp | exact Ls.freeze Ls.nls) ?_)
  rw [show (max 0 (((keepL id t ++ [(⟨id, nr, cutA a⟩ : Se)]).length : Int) - 16)).toNat = (keepL id t ++ [(⟨id, nr, cutA a⟩ : Se)]).length - 16 by omega]
  exact hq
theorem rNote {v : AVal} {t : List Se} (hv : Ls v (t.map Se.enc)) (hn : t.length ≤ 4294967290) (id nr : Int) (a : ByteArray) (ha : a.size ≤ 140737488355328) (hq : Q (.lst ((noteL t id nr a).map Se.enc)) H) : CW cfg ν 13 [v, .int .u64 id, .int .u64 nr, .str a] H Q := by
  have hk := keepL_le id t
  refine CW_pure g13 F13 rfl ?_
  have hS0 : Own ν ν (fun _ => none) [] := Own.nil
  refine XW_sr ?_
  refine OW_as rfl rfl ?_
  refine OW_nilE (e' := [_, _, _, _, _, _, _, _, _, _, _, _, _, _, _, _, _, _, _, _, _, _, _, _, _, _, _, _, _, _, _, _, _, _, _, _, _, _, _, _, _, _, _, _, _, _, _, _, _, _]) rfl ?_
  refine XW_sr ?_
  refine OW_bs rfl rfl rfl ?_
  refine OW_as rfl rfl ?_
  refine OW_nilE (e' := [_, _, _, _, _, _, _, _, _, _, _, _, _, _, _, _, _, _, _, _, _, _, _, _, _, _, _, _, _, _, _, _, _, _, _, _, _, _, _, _, _, _, _, _, _, _, _, _, _, _]) rfl ?_
  refine XW_seq ?_
  refine XW_sr ?_
  refine OW_as rfl rfl ?_
  refine OW_nilE (e' := [_, _, _, _, _, _, _, _, _, _, _, _, _, _, _, _, _, _, _, _, _, _, _, _, _, _, _, _, _, _, _, _, _, _, _, _, _, _, _, _, _, _, _, _, _, _, _, _, _, _]) rfl ?_
  refine XW_block ?_
  refine XW_whileN (I := fun ν' mm ee H' => ∃ (i : Nat) (O : AVal) (acc : List Se), mm = t.length - i ∧ under (1 :: 0 :: 1 :: 1 :: ν) ν' = true ∧ Own ν ν' H' ([sl O 3 (acc.map Se.enc)]) ∧ (i ≤ t.length ∧ keepL id t = acc ++ keepL id (t.drop i)) ∧ ∃ g : Nat → AVal, ee = [v, .int .u64 id, .int .u64 nr, .str a, g 4, g 5, g 6, g 7, g 8, O, .int .i64 i, g 11, g 12, g 13, g 14, g 15, g 16, g 17, g 18, g 19, g 20, g 21, g 22, g 23, g 24, g 25, g 26, g 27, g 28, g 29, g 30, g 31, g 32, g 33, g 34, g 35, g 36, g 37, g 38, g 39, g 40, g 41, g 42, g 43, g 44, g 45, g 46, g 47, g 48, g 49]) ?_ _ _ _ _ ⟨0, .emp, [], rfl, under_me, Own.cast (Own.mono (hS0.addE) (le_app (p := ν) (b := [1, 0, 1, 1]))) (rfl), (⟨by omega, rfl⟩), env_g rfl⟩
  rintro ν1 mm ee H1 ⟨i, O, acc, rfl, hU1, hS1, ⟨hi, hI⟩, g1, rfl⟩
  have hal : acc.length ≤ t.length := by have := congrArg List.length hI; simp at this; omega
  refine XW_seq ?_
  refine XW_sr ?_
  refine OW_mv rfl rfl ?_
  refine OW_mv rfl rfl ?_
  first
  | refine OW_lenL rfl rfl (by first | assumption | exact Ls.of | exact Ls.emp | exact Ls.nls) rfl rfl rfl (by first | exact List.length_map _ | rfl) ?_
  | refine OW_bi rfl rfl rfl ?_
  | refine OW_lenO hS1 (k := 0) rfl rfl rfl rfl rfl rfl (by first | exact List.length_map _ | exact len_app1 | exact len_drop | (simp only [List.length_append, List.length_map, List.length_singleton, List.length_cons, List.length_nil]; rfl) | rfl) ?_
  refine OW_env (e' := [_, _, _, _, _, _, _, _, _, _, _, _, _, _, _, _, _, _, _, _, _, _, _, _, _, _, _, _, _, _, _, _, _, _, _, _, _, _, _, _, _, _, _, _, _, _, _, _, _, _]) rfl ?_
  refine OW_bin rfl rfl rfl rfl rfl ?_
  refine OW_nilE (e' := [_, _, _, _, _, _, _, _, _, _, _, _, _, _, _, _, _, _, _, _, _, _, _, _, _, _, _, _, _, _, _, _, _, _, _, _, _, _, _, _, _, _, _, _, _, _, _, _, _, _]) rfl ?_
  refine XW_if rfl (fun h3 => ?_) (fun h3 => ?_)
  · try simp only [decide_eq_true_eq, decide_eq_false_iff_not, Bool.not_eq_true', Bool.not_eq_false', Bool.and_eq_true, Bool.or_eq_true, Bool.not_eq_true, Bool.not_eq_false, Decidable.not_not, bne_iff_ne, beq_iff_eq, List.length_append, List.length_cons, List.length_nil, List.length_drop, List.length_take] at h3
    refine XW_skip ?_
    refine then_norm ?_
    refine XW_seq ?_
    refine XW_block ?_
    refine XW_sr ?_
    refine OW_mv rfl rfl ?_
    refine OW_mv rfl rfl ?_
    first
    | refine OW_iaL rfl rfl rfl Ls.of rfl rfl rfl (by first | rfl | exact (Int.toNat_of_nonneg (by omega)).symm) (by first | assumption | exact at_map (by first | assumption | omega) | exact at_lst (by omega)) rfl ?_
    | refine OW_iaL rfl rfl rfl (by assumption) rfl rfl rfl (by first | rfl | exact (Int.toNat_of_nonneg (by omega)).symm) (by first | assumption | exact at_map (by first | assumption | omega) | exact at_lst (by omega)) rfl ?_
    refine OW_env (e' := [_, _, _, _, _, _, _, _, _, _, _, _, _, _, _, _, _, _, _, _, _, _, _, _, _, _, _, _, _, _, _, _, _, _, _, _, _, _, _, _, _, _, _, _, _, _, _, _, _, _]) rfl ?_
    refine OW_fa rfl rfl rfl ?_
    refine OW_loadE rfl rfl rfl (by first | exact part_whole rfl rfl rfl | rfl) ?_
    refine OW_mv rfl rfl ?_
    refine OW_env (e' := [_, _, _, _, _, _, _, _, _, _, _, _, _, _, _, _, _, _, _, _, _, _, _, _, _, _, _, _, _, _, _, _, _, _, _, _, _, _, _, _, _, _, _, _, _, _, _, _, _, _]) rfl ?_
    refine OW_bin rfl rfl rfl rfl rfl ?_
    refine OW_nilE (e' := [_, _, _, _, _, _, _, _, _, _, _, _, _, _, _, _, _, _, _, _, _, _, _, _, _, _, _, _, _, _, _, _, _, _, _, _, _, _, _, _, _, _, _, _, _, _, _, _, _, _]) rfl ?_
    refine XW_if rfl (fun h5 => ?_) (fun h5 => ?_)
    · try simp only [decide_eq_true_eq, decide_eq_false_iff_not, Bool.not_eq_true', Bool.not_eq_false', Bool.and_eq_true, Bool.or_eq_true, Bool.not_eq_true, Bool.not_eq_false, Decidable.not_not, bne_iff_ne, beq_iff_eq, List.length_append, List.length_cons, List.length_nil, List.length_drop, List.length_take] at h5
      refine XW_region ?_
      refine OW_mv rfl rfl ?_
      refine OW_mv rfl rfl ?_
      refine OW_mv rfl rfl ?_
      refine OW_env (e' := [_, _, _, _, _, _, _, _, _, _, _, _, _, _, _, _, _, _, _, _, _, _, _, _, _, _, _, _, _, _, _, _, _, _, _, _, _, _, _, _, _, _, _, _, _, _, _, _, _, _]) rfl ?_
      first
      | refine OW_iaL rfl rfl rfl Ls.of rfl rfl rfl (by first | rfl | exact (Int.toNat_of_nonneg (by omega)).symm) (by first | assumption | exact at_map (by first | assumption | omega) | exact at_lst (by omega)) rfl ?_
      | refine OW_iaL rfl rfl rfl (by assumption) rfl rfl rfl (by first | rfl | exact (Int.toNat_of_nonneg (by omega)).symm) (by first | assumption | exact at_map (by first | assumption | omega) | exact at_lst (by omega)) rfl ?_
      refine OW_loadE rfl rfl rfl (by first | exact part_whole rfl rfl rfl | rfl) ?_
      refine OW_bs rfl rfl (v := .lst [_]) rfl ?_
      refine OW_env (e' := [_, _, _, _, _, _, _, _, _, _, _, _, _, _, _, _, _, _, _, _, _, _, _, _, _, _, _, _, _, _, _, _, _, _, _, _, _, _, _, _, _, _, _, _, _, _, _, _, _, _]) rfl ?_
      refine OW_app hS1 (k := 0) rfl (le_app (p := ν1) (b := [6, 1, 0, 1, 0])) (under_app [6, 1, 0, 1, 0] (under_trans (under_app [1, 0, 1, 1] under_me) hU1)) rfl rfl rfl rfl rfl rfl rfl rfl (by first | rfl | exact Ls.elems (by assumption)) (by first | exact one_wide rfl | exact map_wide (fun _ => rfl) | assumption | (intro y hy; simp at hy; done)) (by first | omega | (simp only [List.length_map, List.length_append, List.length_singleton, List.length_cons, List.length_nil, List.length_take, List.length_drop]; omega) | (simp; omega)) (by decide) fun O1 H2 hS2 => ?_
      replace hS2 : Own _ _ _ ([_]) := hS2
      refine OW_as rfl rfl ?_
      refine OW_nilE (e' := [_, _, _, _, _, _, _, _, _, _, _, _, _, _, _, _, _, _, _, _, _, _, _, _, _, _, _, _, _, _, _, _, _, _, _, _, _, _, _, _, _, _, _, _, _, _, _, _, _, _]) rfl ?_
      refine block_norm ?_
      refine then_norm ?_
      refine XW_region ?_
      refine OW_mv rfl rfl ?_
      first
      | refine OW_bin rfl rfl rfl rfl (add_w64 (by first | omega | assumption | (simp only [ByteArray.size_append, ByteArray.size_extract, List.length_map, List.length_append, List.length_cons, List.length_nil, List.length_drop, List.length_take]; omega))) ?_
      | refine OW_bin rfl rfl rfl rfl rfl ?_
      refine OW_as rfl rfl ?_
      refine OW_nilE (e' := [_, _, _, _, _, _, _, _, _, _, _, _, _, _, _, _, _, _, _, _, _, _, _, _, _, _, _, _, _, _, _, _, _, _, _, _, _, _, _, _, _, _, _, _, _, _, _, _, _, _]) rfl ?_
      -- round 0.1
      refine ⟨_, ?_, i + 1, O1, acc ++ [t[i]], rfl, under_in hU1, Own.cast (Own.mono (hS2) (le_lit (ν := ν1) (a := [7, 1, 0, 1, 0]) (b := [1]) (by decide))) (by simp [Se.enc]), ?_, env_g rfl⟩
      · first | omega | (simp; omega)
      · exact ⟨by omega, by rw [hI, List.drop_eq_getElem_cons (by omega), keepL_cons]; simp only [*, if_true, if_false, reduceIte, List.append_assoc, List.singleton_append]⟩
    · try simp only [decide_eq_true_eq, decide_eq_false_iff_not, Bool.not_eq_true', Bool.not_eq_false', Bool.and_eq_true, Bool.or_eq_true, Bool.not_eq_true, Bool.not_eq_false, Decidable.not_not, bne_iff_ne, beq_iff_eq, List.length_append, List.length_cons, List.length_nil, List.length_drop, List.length_take] at h5
      refine XW_skip ?_
      refine block_norm ?_
      refine then_norm ?_
      refine XW_region ?_
      refine OW_mv rfl rfl ?_
      first
      | refine OW_bin rfl rfl rfl rfl (add_w64 (by first | omega | assumption | (simp only [ByteArray.size_append, ByteArray.size_extract, List.length_map, List.length_append, List.length_cons, List.length_nil, List.length_drop, List.length_take]; omega))) ?_
      | refine OW_bin rfl rfl rfl rfl rfl ?_
      refine OW_as rfl rfl ?_
      refine OW_nilE (e' := [_, _, _, _, _, _, _, _, _, _, _, _, _, _, _, _, _, _, _, _, _, _, _, _, _, _, _, _, _, _, _, _, _, _, _, _, _, _, _, _, _, _, _, _, _, _, _, _, _, _]) rfl ?_
      -- round 0.2
      refine ⟨_, ?_, i + 1, O, acc, rfl, under_in hU1, Own.cast (Own.mono (hS1) (le_app (p := ν1) (b := [1]))) (rfl), ?_, env_g rfl⟩
      · first | omega | (simp; omega)
      · exact ⟨by omega, by rw [hI, List.drop_eq_getElem_cons (by omega), keepL_cons]; simp only [*, if_true, if_false, reduceIte, List.append_assoc, List.singleton_append]⟩
  · try simp only [decide_eq_true_eq, decide_eq_false_iff_not, Bool.not_eq_true', Bool.not_eq_false', Bool.and_eq_true, Bool.or_eq_true, Bool.not_eq_true, Bool.not_eq_false, Decidable.not_not, bne_iff_ne, beq_iff_eq, List.length_append, List.length_cons, List.length_nil, List.length_drop, List.length_take] at h3
    refine XW_exit ?_
    refine then_exit ?_
    refine block_exit ?_
    refine then_norm ?_
    refine XW_mid (M := fun ee H' => ∃ (a2 : ByteArray) (O : AVal), Own ν (1 :: 1 :: 1 :: 1 :: ν) H' ([sl O 3 ((keepL id t).map Se.enc)]) ∧ (a2 = cutA a) ∧ ∃ g : Nat → AVal, ee = [v, .int .u64 id, .int .u64 nr, .str a2, g 4, g 5, g 6, g 7, g 8, O, g 10, g 11, g 12, g 13, g 14, g 15, g 16, g 17, g 18, g 19, g 20, g 21, g 22, g 23, g 24, g 25, g 26, g 27, g 28, g 29, g 30, g 31, g 32, g 33, g 34, g 35, g 36, g 37, g 38, g 39, g 40, g 41, g 42, g 43, g 44, g 45, g 46, g 47, g 48, g 49]) ?_ ?_
    · skip
      refine XW_sr ?_
      refine OW_mv rfl rfl ?_
      refine OW_lenS rfl rfl rfl ?_
      refine OW_bin rfl rfl rfl rfl rfl ?_
      refine OW_nilE (e' := [_, _, _, _, _, _, _, _, _, _, _, _, _, _, _, _, _, _, _, _, _, _, _, _, _, _, _, _, _, _, _, _, _, _, _, _, _, _, _, _, _, _, _, _, _, _, _, _, _, _]) rfl ?_
      refine XW_if rfl (fun h7 => ?_) (fun h7 => ?_)
      · try simp only [decide_eq_true_eq, decide_eq_false_iff_not, Bool.not_eq_true', Bool.not_eq_false', Bool.and_eq_true, Bool.or_eq_true, Bool.not_eq_true, Bool.not_eq_false, Decidable.not_not, bne_iff_ne, beq_iff_eq, List.length_append, List.length_cons, List.length_nil, List.length_drop, List.length_take] at h7
        refine XW_region ?_
        refine OW_mv rfl rfl ?_
        refine OW_sl rfl rfl rfl rfl rfl (str_hi rfl rfl (by first | omega | (simp only [ByteArray.size_append, ByteArray.size_extract, List.length_map, List.length_append, List.length_cons, List.length_nil, List.length_drop, List.length_take]; omega)) (by first | omega | (simp only [ByteArray.size_append, ByteArray.size_extract, List.length_map, List.length_append, List.length_cons, List.length_nil, List.length_drop, List.length_take]; omega))) ?_
        refine OW_as rfl rfl ?_
        refine OW_nilE (e' := [_, _, _, _, _, _, _, _, _, _, _, _, _, _, _, _, _, _, _, _, _, _, _, _, _, _, _, _, _, _, _, _, _, _, _, _, _, _, _, _, _, _, _, _, _, _, _, _, _, _]) rfl ?_
        -- mid 9.1
        refine ⟨_, O, Own.cast (Own.mono (hS1) (le_bef (bef_under (a := []) hU1 (before_lit (ν := ν) (a := [1, 0, 1, 1]) (b := [1, 1, 1, 1]) (by decide))))) (by rw [hI, List.drop_eq_nil_of_le (by omega)]; simp [keepL]), ?_, env_g rfl⟩
        · first | (unfold cutA; congr 1; omega) | exact (cutA_id (by omega)).symm
      · try simp only [decide_eq_true_eq, decide_eq_false_iff_not, Bool.not_eq_true', Bool.not_eq_false', Bool.and_eq_true, Bool.or_eq_true, Bool.not_eq_true, Bool.not_eq_false, Decidable.not_not, bne_iff_ne, beq_iff_eq, List.length_append, List.length_cons, List.length_nil, List.length_drop, List.length_take] at h7
        refine XW_skip ?_
        -- mid 9.2
        refine ⟨_, O, Own.cast (Own.mono (hS1) (le_bef (bef_under (a := []) hU1 (before_lit (ν := ν) (a := [1, 0, 1, 1]) (b := [1, 1, 1, 1]) (by decide))))) (by rw [hI, List.drop_eq_nil_of_le (by omega)]; simp [keepL]), ?_, env_g rfl⟩
        · first | (unfold cutA; congr 1; omega) | exact (cutA_id (by omega)).symm
    · rintro ee H3 ⟨a2, O, hS3, rfl, g2, rfl⟩
      refine XW_sr ?_
      refine OW_mv rfl rfl ?_
      refine OW_mv rfl rfl ?_
      refine OW_mv rfl rfl ?_
      refine OW_env (e' := [_, _, _, _, _, _, _, _, _, _, _, _, _, _, _, _, _, _, _, _, _, _, _, _, _, _, _, _, _, _, _, _, _, _, _, _, _, _, _, _, _, _, _, _, _, _, _, _, _, _]) rfl ?_
      refine OW_mv rfl rfl ?_
      refine OW_bd rfl rfl (v := .agg [_, _, _]) rfl ?_
      refine OW_bs rfl rfl (v := .lst [_]) rfl ?_
      refine OW_env (e' := [_, _, _, _, _, _, _, _, _, _, _, _, _, _, _, _, _, _, _, _, _, _, _, _, _, _, _, _, _, _, _, _, _, _, _, _, _, _, _, _, _, _, _, _, _, _, _, _, _, _]) rfl ?_
      refine OW_app hS3 (k := 0) rfl (le_app (p := 1 :: 1 :: 1 :: 1 :: ν) (b := [6, 0])) (under_app [6, 0, 1, 1, 1, 1] under_me) rfl rfl rfl rfl rfl rfl rfl rfl (by first | rfl | exact Ls.elems (by assumption)) (by first | exact one_wide rfl | exact map_wide (fun _ => rfl) | assumption | (intro y hy; simp at hy; done)) (by first | omega | (simp only [List.length_map, List.length_append, List.length_singleton, List.length_cons, List.length_nil, List.length_take, List.length_drop]; omega) | (simp; omega)) (by decide) fun O2 H4 hS4 => ?_
      replace hS4 : Own _ _ _ ([_]) := hS4
      refine OW_as rfl rfl ?_
      refine OW_nilE (e' := [_, _, _, _, _, _, _, _, _, _, _, _, _, _, _, _, _, _, _, _, _, _, _, _, _, _, _, _, _, _, _, _, _, _, _, _, _, _, _, _, _, _, _, _, _, _, _, _, _, _]) rfl ?_
      refine XW_seq ?_
      refine XW_block ?_
      refine XW_whileN (I := fun ν' mm ee H' => ∃ (O : AVal) (j : Nat), mm = (keepL id t).length + 1 - j ∧ under (0 :: 1 :: 1 :: 1 :: 1 :: 1 :: ν) ν' = true ∧ Own ν ν' H' ([sv O 3 (((keepL id t ++ [(⟨id, nr, cutA a⟩ : Se)]).drop j).map Se.enc)]) ∧ (j ≤ (keepL id t).length + 1 ∧ (0 < j → 16 ≤ (keepL id t).length + 1 - j)) ∧ ∃ g : Nat → AVal, ee = [v, .int .u64 id, .int .u64 nr, g 3, g 4, g 5, g 6, g 7, g 8, O, g 10, g 11, g 12, g 13, g 14, g 15, g 16, g 17, g 18, g 19, g 20, g 21, g 22, g 23, g 24, g 25, g 26, g 27, g 28, g 29, g 30, g 31, g 32, g 33, g 34, g 35, g 36, g 37, g 38, g 39, g 40, g 41, g 42, g 43, g 44, g 45, g 46, g 47, g 48, g 49]) ?_ _ _ _ _ ⟨_, 0, rfl, under_me, Own.cast (Own.mono (hS4.toV (k := 0) rfl (by simp)) (le_lit (ν := ν) (a := [7, 0, 1, 1, 1, 1]) (b := [0, 1, 1, 1, 1, 1]) (by decide))) (by simp [Se.enc]), (⟨by omega, by omega⟩), env_g rfl⟩
      rintro ν2 mm ee H5 ⟨O, j, rfl, hU2, hS5, ⟨hj, hj2⟩, g3, rfl⟩
      refine XW_seq ?_
      refine XW_sr ?_
      refine OW_mv rfl rfl ?_
      refine OW_lenV hS5 (k := 0) rfl rfl rfl rfl rfl rfl (by first | exact List.length_map _ | exact len_app1 | exact len_drop | (simp only [List.length_append, List.length_map, List.length_singleton, List.length_cons, List.length_nil]; rfl) | rfl) ?_
      refine OW_bin rfl rfl rfl rfl rfl ?_
      refine OW_nilE (e' := [_, _, _, _, _, _, _, _, _, _, _, _, _, _, _, _, _, _, _, _, _, _, _, _, _, _, _, _, _, _, _, _, _, _, _, _, _, _, _, _, _, _, _, _, _, _, _, _, _, _]) rfl ?_
      refine XW_if rfl (fun h10 => ?_) (fun h10 => ?_)
      · try simp only [decide_eq_true_eq, decide_eq_false_iff_not, Bool.not_eq_true', Bool.not_eq_false', Bool.and_eq_true, Bool.or_eq_true, Bool.not_eq_true, Bool.not_eq_false, Decidable.not_not, bne_iff_ne, beq_iff_eq, List.length_append, List.length_cons, List.length_nil, List.length_drop, List.length_take] at h10
        refine XW_skip ?_
        refine then_norm ?_
        refine XW_block ?_
        refine XW_region ?_
        refine OW_mv rfl rfl ?_
        refine OW_slV_lo hS5 (k := 0) rfl (le_app (p := ν2) (b := [1, 1, 0])) rfl rfl rfl rfl rfl rfl rfl (by first | rfl | exact (Int.toNat_of_nonneg (by omega)).symm) trivial (by first | omega | (simp only [List.length_map, List.length_append, List.length_singleton, List.length_cons, List.length_nil, List.length_drop]; omega)) trivial fun O3 hS6 => ?_
        replace hS6 : Own _ _ _ ([_]) := hS6
        refine OW_as rfl rfl ?_
        refine OW_nilE (e' := [_, _, _, _, _, _, _, _, _, _, _, _, _, _, _, _, _, _, _, _, _, _, _, _, _, _, _, _, _, _, _, _, _, _, _, _, _, _, _, _, _, _, _, _, _, _, _, _, _, _]) rfl ?_
        refine block_norm ?_
        -- round 2.1
        refine ⟨_, ?_, O3, j + 1, rfl, under_in hU2, Own.cast (Own.mono (hS6) (le_lit (ν := ν2) (a := [2, 1, 0]) (b := [1]) (by decide))) (by simp), ?_, env_g rfl⟩
        · first | omega | (simp; omega)
        · exact ⟨by omega, by omega⟩
      · try simp only [decide_eq_true_eq, decide_eq_false_iff_not, Bool.not_eq_true', Bool.not_eq_false', Bool.and_eq_true, Bool.or_eq_true, Bool.not_eq_true, Bool.not_eq_false, Decidable.not_not, bne_iff_ne, beq_iff_eq, List.length_append, List.length_cons, List.length_nil, List.length_drop, List.length_take] at h10
        refine XW_exit ?_
        refine then_exit ?_
        refine block_exit ?_
        refine then_norm ?_
        refine XW_sr ?_
        refine OW_mv rfl rfl ?_
        refine OW_as rfl rfl ?_
        refine OW_nilE (e' := [_, _, _, _, _, _, _, _, _, _, _, _, _, _, _, _, _, _, _, _, _, _, _, _, _, _, _, _, _, _, _, _, _, _, _, _, _, _, _, _, _, _, _, _, _, _, _, _, _, _]) rfl ?_
        refine XW_ret ?_
        -- outcome 1
        refine ret_ret (res1 rfl (rv_tmp rfl)) (frz1 (Q := Q) (by first | exact hS5.frzV (k := 0) rfl (by first | exact map_plain (fun _ => rfl) | (intro x hx; simp at hx; done)) | exact freeze_plain rfl | exact Ls.freeze (by assumption) | exact Ls.freeze Ls.of | exact Ls.freeze Ls.emp | exact Ls.freeze Ls.nls) ?_)
        rw [noteL, lastL, show (keepL id t ++ [(⟨id, nr, cutA a⟩ : Se)]).length - 16 = j by simp; omega] at hq
        exact hq
theorem c_Is {v w : AVal} {s t : List Se} (hv : Ls v (s.map Se.enc)) (hw : Ls w (t.map Se.enc)) (hn : s.length ≤ 4294967296) (hm : t.length ≤ 4294967296) (hq : Q (.bool (decide (s = t))) H) : CW cfg ν 11 [v, w] H Q := by
  refine CW_pure g11 F11 rfl ?_
  refine XW_sr ?_
  refine OW_as rfl rfl ?_
  refine OW_nilE (e' := [_, _, _, _, _, _, _, _, _, _, _, _, _, _, _, _, _, _, _, _, _, _, _, _, _, _]) rfl ?_
  refine XW_seq ?_
  refine XW_sr ?_
  refine OW_mv rfl rfl ?_
  first
  | refine OW_lenL rfl rfl (by first | assumption | exact Ls.of | exact Ls.emp | exact Ls.nls) rfl rfl rfl (by first | exact List.length_map _ | rfl) ?_
  | refine OW_bi rfl rfl rfl ?_
  refine OW_mv rfl rfl ?_
  refine OW_env (e' := [_, _, _, _, _, _, _, _, _, _, _, _, _, _, _, _, _, _, _, _, _, _, _, _, _, _]) rfl ?_
  first
  | refine OW_lenL rfl rfl (by first | assumption | exact Ls.of | exact Ls.emp | exact Ls.nls) rfl rfl rfl (by first | exact List.length_map _ | rfl) ?_
  | refine OW_bi rfl rfl rfl ?_
  refine OW_bin rfl rfl rfl rfl rfl ?_
  refine OW_nilE (e' := [_, _, _, _, _, _, _, _, _, _, _, _, _, _, _, _, _, _, _, _, _, _, _, _, _, _]) rfl ?_
  refine XW_if rfl (fun h1 => ?_) (fun h1 => ?_)
  · try simp only [decide_eq_true_eq, decide_eq_false_iff_not, Bool.not_eq_true', Bool.not_eq_false', Bool.and_eq_true, Bool.or_eq_true, Bool.not_eq_true, Bool.not_eq_false, Decidable.not_not, bne_iff_ne, beq_iff_eq, List.length_append, List.length_cons, List.length_nil, List.length_drop, List.length_take] at h1
    refine XW_sr ?_
    refine OW_as rfl rfl ?_
    refine OW_nilE (e' := [_, _, _, _, _, _, _, _, _, _, _, _, _, _, _, _, _, _, _, _, _, _, _, _, _, _]) rfl ?_
    refine XW_ret ?_
    refine then_ret ?_
    -- outcome 1
    refine ret_ret (res1 rfl (rv_tmp rfl)) (frz1 (Q := Q) (by first | exact freeze_plain rfl | exact Ls.freeze (by assumption) | exact Ls.freeze Ls.of | exact Ls.freeze Ls.emp | exact Ls.freeze Ls.nls) ?_)
    refine qcast hq ?_
    congr 1
    first | exact (decide_eq_false (fun e => h1 (by rw [e]))).symm | exact (decide_eq_false (fun e => by subst e; exact h6 rfl)).symm | exact (decide_eq_true (by rw [List.take_of_length_le (by omega), List.take_of_length_le (by omega)] at hI; exact hI)).symm
  · try simp only [decide_eq_true_eq, decide_eq_false_iff_not, Bool.not_eq_true', Bool.not_eq_false', Bool.and_eq_true, Bool.or_eq_true, Bool.not_eq_true, Bool.not_eq_false, Decidable.not_not, bne_iff_ne, beq_iff_eq, List.length_append, List.length_cons, List.length_nil, List.length_drop, List.length_take] at h1
    refine XW_skip ?_
    refine then_norm ?_
    refine XW_seq ?_
    refine XW_sr ?_
    refine OW_as rfl rfl ?_
    refine OW_nilE (e' := [_, _, _, _, _, _, _, _, _, _, _, _, _, _, _, _, _, _, _, _, _, _, _, _, _, _]) rfl ?_
    refine XW_block ?_
    refine XW_whileN (I := fun ν' mm ee H' => ∃ (i : Nat), mm = s.length - i ∧ under (1 :: 0 :: 1 :: 1 :: ν) ν' = true ∧ (i ≤ s.length ∧ s.length = t.length ∧ s.take i = t.take i) ∧ ∃ g : Nat → AVal, ee = [v, w, g 2, g 3, g 4, .int .i64 i, g 6, g 7, g 8, g 9, g 10, g 11, g 12, g 13, g 14, g 15, g 16, g 17, g 18, g 19, g 20, g 21, g 22, g 23, g 24, g 25]) ?_ _ _ _ _ ⟨0, rfl, under_me, (⟨by omega, by omega, rfl⟩), env_g rfl⟩
    rintro ν1 mm ee H1 ⟨i, rfl, hU1, ⟨hi, hl, hI⟩, g1, rfl⟩
    refine XW_seq ?_
    refine XW_sr ?_
    refine OW_mv rfl rfl ?_
    refine OW_mv rfl rfl ?_
    first
    | refine OW_lenL rfl rfl (by first | assumption | exact Ls.of | exact Ls.emp | exact Ls.nls) rfl rfl rfl (by first | exact List.length_map _ | rfl) ?_
    | refine OW_bi rfl rfl rfl ?_
    refine OW_env (e' := [_, _, _, _, _, _, _, _, _, _, _, _, _, _, _, _, _, _, _, _, _, _, _, _, _, _]) rfl ?_
    refine OW_bin rfl rfl rfl rfl rfl ?_
    refine OW_nilE (e' := [_, _, _, _, _, _, _, _, _, _, _, _, _, _, _, _, _, _, _, _, _, _, _, _, _, _]) rfl ?_
    refine XW_if rfl (fun h4 => ?_) (fun h4 => ?_)
    · try simp only [decide_eq_true_eq, decide_eq_false_iff_not, Bool.not_eq_true', Bool.not_eq_false', Bool.and_eq_true, Bool.or_eq_true, Bool.not_eq_true, Bool.not_eq_false, Decidable.not_not, bne_iff_ne, beq_iff_eq, List.length_append, List.length_cons, List.length_nil, List.length_drop, List.length_take] at h4
      refine XW_skip ?_
      refine then_norm ?_
      refine XW_seq ?_
      refine XW_block ?_
      refine XW_sr ?_
      refine OW_mv rfl rfl ?_
      refine OW_mv rfl rfl ?_
      first
      | refine OW_iaL rfl rfl rfl Ls.of rfl rfl rfl (by first | rfl | exact (Int.toNat_of_nonneg (by omega)).symm) (by first | assumption | exact at_map (by first | assumption | omega) | exact at_lst (by omega)) rfl ?_
      | refine OW_iaL rfl rfl rfl (by assumption) rfl rfl rfl (by first | rfl | exact (Int.toNat_of_nonneg (by omega)).symm) (by first | assumption | exact at_map (by first | assumption | omega) | exact at_lst (by omega)) rfl ?_
      refine OW_env (e' := [_, _, _, _, _, _, _, _, _, _, _, _, _, _, _, _, _, _, _, _, _, _, _, _, _, _]) rfl ?_
      refine OW_loadE rfl rfl rfl (by first | exact part_whole rfl rfl rfl | rfl) ?_
      refine OW_mv rfl rfl ?_
      refine OW_mv rfl rfl ?_
      refine OW_env (e' := [_, _, _, _, _, _, _, _, _, _, _, _, _, _, _, _, _, _, _, _, _, _, _, _, _, _]) rfl ?_
      first
      | refine OW_iaL rfl rfl rfl Ls.of rfl rfl rfl (by first | rfl | exact (Int.toNat_of_nonneg (by omega)).symm) (by first | assumption | exact at_map (by first | assumption | omega) | exact at_lst (by omega)) rfl ?_
      | refine OW_iaL rfl rfl rfl (by assumption) rfl rfl rfl (by first | rfl | exact (Int.toNat_of_nonneg (by omega)).symm) (by first | assumption | exact at_map (by first | assumption | omega) | exact at_lst (by omega)) rfl ?_
      refine OW_loadE rfl rfl rfl (by first | exact part_whole rfl rfl rfl | rfl) ?_
      first
      | refine OW_bin rfl rfl rfl rfl (neSe _ _) ?_
      | refine OW_bin rfl rfl rfl rfl rfl ?_
      refine OW_nilE (e' := [_, _, _, _, _, _, _, _, _, _, _, _, _, _, _, _, _, _, _, _, _, _, _, _, _, _]) rfl ?_
      refine XW_if rfl (fun h6 => ?_) (fun h6 => ?_)
      · try simp only [decide_eq_true_eq, decide_eq_false_iff_not, Bool.not_eq_true', Bool.not_eq_false', Bool.and_eq_true, Bool.or_eq_true, Bool.not_eq_true, Bool.not_eq_false, Decidable.not_not, bne_iff_ne, beq_iff_eq, List.length_append, List.length_cons, List.length_nil, List.length_drop, List.length_take] at h6
        refine XW_sr ?_
        refine OW_as rfl rfl ?_
        refine OW_nilE (e' := [_, _, _, _, _, _, _, _, _, _, _, _, _, _, _, _, _, _, _, _, _, _, _, _, _, _]) rfl ?_
        refine XW_ret ?_
        refine block_ret ?_
        refine then_ret ?_
        refine block_ret ?_
        refine then_ret ?_
        -- outcome 2
        refine ret_ret (res1 rfl (rv_tmp rfl)) (frz1 (Q := Q) (by first | exact freeze_plain rfl | exact Ls.freeze (by assumption) | exact Ls.freeze Ls.of | exact Ls.freeze Ls.emp | exact Ls.freeze Ls.nls) ?_)
        refine qcast hq ?_
        congr 1
        first | exact (decide_eq_false (fun e => h1 (by rw [e]))).symm | exact (decide_eq_false (fun e => by subst e; exact h6 rfl)).symm | exact (decide_eq_true (by rw [List.take_of_length_le (by omega), List.take_of_length_le (by omega)] at hI; exact hI)).symm
      · try simp only [decide_eq_true_eq, decide_eq_false_iff_not, Bool.not_eq_true', Bool.not_eq_false', Bool.and_eq_true, Bool.or_eq_true, Bool.not_eq_true, Bool.not_eq_false, Decidable.not_not, bne_iff_ne, beq_iff_eq, List.length_append, List.length_cons, List.length_nil, List.length_drop, List.length_take] at h6
        refine XW_skip ?_
        refine block_norm ?_
        refine then_norm ?_
        refine XW_region ?_
        refine OW_mv rfl rfl ?_
        first
        | refine OW_bin rfl rfl rfl rfl (add_w64 (by first | omega | assumption | (simp only [ByteArray.size_append, ByteArray.size_extract, List.length_map, List.length_append, List.length_cons, List.length_nil, List.length_drop, List.length_take]; omega))) ?_
        | refine OW_bin rfl rfl rfl rfl rfl ?_
        refine OW_as rfl rfl ?_
        refine OW_nilE (e' := [_, _, _, _, _, _, _, _, _, _, _, _, _, _, _, _, _, _, _, _, _, _, _, _, _, _]) rfl ?_
        -- round 0.1
        refine ⟨_, ?_, i + 1, rfl, under_in hU1, ?_, env_g rfl⟩
        · first | omega | (simp; omega)
        · exact ⟨by omega, hl, by rw [List.take_succ_eq_append_getElem (by omega), List.take_succ_eq_append_getElem (by omega), hI, h6]⟩
    · try simp only [decide_eq_true_eq, decide_eq_false_iff_not, Bool.not_eq_true', Bool.not_eq_false', Bool.and_eq_true, Bool.or_eq_true, Bool.not_eq_true, Bool.not_eq_false, Decidable.not_not, bne_iff_ne, beq_iff_eq, List.length_append, List.length_cons, List.length_nil, List.length_drop, List.length_take] at h4
      refine XW_exit ?_
      refine then_exit ?_
      refine block_exit ?_
      refine then_norm ?_
      refine XW_sr ?_
      refine OW_as rfl rfl ?_
      refine OW_nilE (e' := [_, _, _, _, _, _, _, _, _, _, _, _, _, _, _, _, _, _, _, _, _, _, _, _, _, _]) rfl ?_
      refine XW_ret ?_
      -- outcome 3
      refine ret_ret (res1 rfl (rv_tmp rfl)) (frz1 (Q := Q) (by first | exact freeze_plain rfl | exact Ls.freeze (by assumption) | exact Ls.freeze Ls.of | exact Ls.freeze Ls.emp | exact Ls.freeze Ls.nls) ?_)
      refine qcast hq ?_
      congr 1
      first | exact (decide_eq_false (fun e => h1 (by rw [e]))).symm | exact (decide_eq_false (fun e => by subst e; exact h6 rfl)).symm | exact (decide_eq_true (by rw [List.take_of_length_le (by omega), List.take_of_length_le (by omega)] at hI; exact hI)).symm
theorem c_has {v : AVal} {l : List Int} (hv : freeze [] H 8 v = .lst (l.map fun a => .int .u64 a)) (hn : l.length ≤ 4294967296) (n : Int) (hq : Q (.bool (decide (n ∈ l))) H) : CW cfg ν 14 [v, .int .u64 n] H Q := by
  refine CW_borrowL (args' := [.lst (l.map fun a => .int .u64 a), .int .u64 n]) g14 F14 rfl (fz_cons (by first | assumption | exact freeze_plain rfl | exact Ls.freeze (by assumption) | rfl) (fz_cons (by first | assumption | exact freeze_plain rfl | exact Ls.freeze (by assumption) | rfl) fz_nil)) ?_
  refine XW_sr ?_
  refine OW_as rfl rfl ?_
  refine OW_nilE (e' := [_, _, _, _, _, _, _, _, _, _, _, _, _, _, _, _, _, _]) rfl ?_
  refine XW_seq ?_
  refine XW_sr ?_
  refine OW_as rfl rfl ?_
  refine OW_nilE (e' := [_, _, _, _, _, _, _, _, _, _, _, _, _, _, _, _, _, _]) rfl ?_
  refine XW_block ?_
  refine XW_whileN (I := fun ν' mm ee H' => ∃ (i : Nat), mm = l.length - i ∧ under (1 :: 0 :: 1 :: ν) ν' = true ∧ (i ≤ l.length ∧ ¬ n ∈ l.take i) ∧ ∃ g : Nat → AVal, ee = [.lst (l.map fun a => .int .u64 a), .int .u64 n, g 2, g 3, g 4, .int .i64 i, g 6, g 7, g 8, g 9, g 10, g 11, g 12, g 13, g 14, g 15, g 16, g 17]) ?_ _ _ _ _ ⟨0, rfl, under_me, (⟨by omega, by simp⟩), env_g rfl⟩
  rintro ν1 mm ee H1 ⟨i, rfl, hU1, ⟨hi, hI⟩, g1, rfl⟩
  refine XW_seq ?_
  refine XW_sr ?_
  refine OW_mv rfl rfl ?_
  refine OW_mv rfl rfl ?_
  first
  | refine OW_lenL rfl rfl (by first | assumption | exact Ls.of | exact Ls.emp | exact Ls.nls) rfl rfl rfl (by first | exact List.length_map _ | rfl) ?_
  | refine OW_bi rfl rfl rfl ?_
  refine OW_env (e' := [_, _, _, _, _, _, _, _, _, _, _, _, _, _, _, _, _, _]) rfl ?_
  refine OW_bin rfl rfl rfl rfl rfl ?_
  refine OW_nilE (e' := [_, _, _, _, _, _, _, _, _, _, _, _, _, _, _, _, _, _]) rfl ?_
  refine XW_if rfl (fun h2 => ?_) (fun h2 => ?_)
  · try simp only [decide_eq_true_eq, decide_eq_false_iff_not, Bool.not_eq_true', Bool.not_eq_false', Bool.and_eq_true, Bool.or_eq_true, Bool.not_eq_true, Bool.not_eq_false, Decidable.not_not, bne_iff_ne, beq_iff_eq, List.length_append, List.length_cons, List.length_nil, List.length_drop, List.length_take] at h2
    refine XW_skip ?_
    refine then_norm ?_
    refine XW_seq ?_
    refine XW_block ?_
    refine XW_sr ?_
    refine OW_mv rfl rfl ?_
    refine OW_mv rfl rfl ?_
    first
    | refine OW_iaL rfl rfl rfl Ls.of rfl rfl rfl (by first | rfl | exact (Int.toNat_of_nonneg (by omega)).symm) (by first | assumption | exact at_map (by first | assumption | omega) | exact at_lst (by omega)) rfl ?_
    | refine OW_iaL rfl rfl rfl (by assumption) rfl rfl rfl (by first | rfl | exact (Int.toNat_of_nonneg (by omega)).symm) (by first | assumption | exact at_map (by first | assumption | omega) | exact at_lst (by omega)) rfl ?_
    refine OW_env (e' := [_, _, _, _, _, _, _, _, _, _, _, _, _, _, _, _, _, _]) rfl ?_
    refine OW_loadE rfl rfl rfl (by first | exact part_whole rfl rfl rfl | rfl) ?_
    refine OW_mv rfl rfl ?_
    refine OW_bin rfl rfl rfl rfl rfl ?_
    refine OW_nilE (e' := [_, _, _, _, _, _, _, _, _, _, _, _, _, _, _, _, _, _]) rfl ?_
    refine XW_if rfl (fun h4 => ?_) (fun h4 => ?_)
    · try simp only [decide_eq_true_eq, decide_eq_false_iff_not, Bool.not_eq_true', Bool.not_eq_false', Bool.and_eq_true, Bool.or_eq_true, Bool.not_eq_true, Bool.not_eq_false, Decidable.not_not, bne_iff_ne, beq_iff_eq, List.length_append, List.length_cons, List.length_nil, List.length_drop, List.length_take] at h4
      refine XW_sr ?_
      refine OW_as rfl rfl ?_
      refine OW_nilE (e' := [_, _, _, _, _, _, _, _, _, _, _, _, _, _, _, _, _, _]) rfl ?_
      refine XW_ret ?_
      refine block_ret ?_
      refine then_ret ?_
      refine block_ret ?_
      refine then_ret ?_
      -- outcome 1
      refine ret_ret (res1 rfl (rv_tmp rfl)) ⟨rfl, ?_⟩
      refine qcast hq ?_
      congr 1
      first | exact (decide_eq_true (by rw [← h4]; exact List.getElem_mem _)).symm | exact (decide_eq_false (by rw [List.take_of_length_le (by omega)] at hI; exact hI)).symm
    · try simp only [decide_eq_true_eq, decide_eq_false_iff_not, Bool.not_eq_true', Bool.not_eq_false', Bool.and_eq_true, Bool.or_eq_true, Bool.not_eq_true, Bool.not_eq_false, Decidable.not_not, bne_iff_ne, beq_iff_eq, List.length_append, List.length_cons, List.length_nil, List.length_drop, List.length_take] at h4
      refine XW_skip ?_
      refine block_norm ?_
      refine then_norm ?_
      refine XW_region ?_
      refine OW_mv rfl rfl ?_
      first
      | refine OW_bin rfl rfl rfl rfl (add_w64 (by first | omega | assumption | (simp only [ByteArray.size_append, ByteArray.size_extract, List.length_map, List.length_append, List.length_cons, List.length_nil, List.length_drop, List.length_take]; omega))) ?_
      | refine OW_bin rfl rfl rfl rfl rfl ?_
      refine OW_as rfl rfl ?_
      refine OW_nilE (e' := [_, _, _, _, _, _, _, _, _, _, _, _, _, _, _, _, _, _]) rfl ?_
      -- round 0.1
      refine ⟨_, ?_, i + 1, rfl, under_in hU1, ?_, env_g rfl⟩
      · first | omega | (simp; omega)
      · exact ⟨by omega, fun hm => by rw [List.take_succ_eq_append_getElem (by omega)] at hm; exact (List.mem_append.1 hm).elim hI (fun h => h4 (List.mem_singleton.1 h).symm)⟩
  · try simp only [decide_eq_true_eq, decide_eq_false_iff_not, Bool.not_eq_true', Bool.not_eq_false', Bool.and_eq_true, Bool.or_eq_true, Bool.not_eq_true, Bool.not_eq_false, Decidable.not_not, bne_iff_ne, beq_iff_eq, List.length_append, List.length_cons, List.length_nil, List.length_drop, List.length_take] at h2
    refine XW_exit ?_
    refine then_exit ?_
    refine block_exit ?_
    refine then_norm ?_
    refine XW_sr ?_
    refine OW_as rfl rfl ?_
    refine OW_nilE (e' := [_, _, _, _, _, _, _, _, _, _, _, _, _, _, _, _, _, _]) rfl ?_
    refine XW_ret ?_
    -- outcome 2
    refine ret_ret (res1 rfl (rv_tmp rfl)) ⟨rfl, ?_⟩
    refine qcast hq ?_
    congr 1
    first | exact (decide_eq_true (by rw [← h4]; exact List.getElem_mem _)).symm | exact (decide_eq_false (by rw [List.take_of_length_le (by omega)] at hI; exact hI)).symm
end Go.Proofs.Ytlnoligkgkngaaa.X
