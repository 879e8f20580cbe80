/- What the reference's oracle does: the writers. -/
import Derived.Test.YtoljfmghcfdbpaaJ5
set_option linter.unusedVariables false
set_option linter.unusedSimpArgs false
set_option maxRecDepth 100000
namespace Go.Proofs.Ytoljfmghcfdbpaa.X
open Go Go.RowKit
variable {ν β ps pos' : Nm} {H : Heap} {Q : AVal → Heap → Prop} {L : List Asr} {q : Nm} {k : Nat} {S : Rf}
theorem rDraw (hS : Own β ps H L) (hL : L[k]? = some (rorc q S)) (hle : le ps ν) (hβ : under β ν = true) (hp : before ν pos') (hn : S.le 4294967000) (x : Rw) (hq : ∀ H1, Own β pos' H1 (L.set k (rorc q (S.draw x))) → Q (.int .u64 S.next) H1) : CW cfg ν 42 [.ptr q 0 0, x.enc] H Q := by
  have hnr := hn.rows
  have hnb := hn.bads
  obtain ⟨D, R, M, hS⟩ := (hS.pick hL).un_rorc
  refine CW_keep g42 F42 rfl ?_
  replace hS := Own.mono hS hle
  refine XW_sr ?_
  refine OW_boxR hS (le_app (p := ν) (b := [0, 0])) (under_app [0, 0] hβ) rfl rfl rfl ⟨rfl, rfl⟩ fun H1 hS1 => ?_
  replace hS1 : Own _ _ _ (_ :: _ :: _ :: _ :: _ :: L.eraseIdx k) := hS1
  refine OW_as rfl rfl ?_
  refine OW_nilE (e' := [_, _, _, _, _, _, _, _, _, _, _, _, _, _, _, _, _, _, _, _, _, _, _, _, _, _, _, _, _, _, _, _, _, _, _, _, _, _, _, _, _, _, _, _, _, _, _, _, _, _, _, _, _, _, _, _, _, _, _, _, _, _, _, _]) rfl ?_
  refine XW_sr ?_
  refine OW_mv rfl rfl ?_
  first
  | refine OW_nc rfl rfl ?_
  | refine OW_nce rfl rfl ?_
  refine OW_fa rfl rfl rfl ?_
  refine OW_env (e' := [_, _, _, _, _, _, _, _, _, _, _, _, _, _, _, _, _, _, _, _, _, _, _, _, _, _, _, _, _, _, _, _, _, _, _, _, _, _, _, _, _, _, _, _, _, _, _, _, _, _, _, _, _, _, _, _, _, _, _, _, _, _, _, _]) rfl ?_
  refine OW_loadR hS1 (k := 1) rfl rfl rfl rfl rfl (by first | exact part_whole rfl rfl rfl | rfl) ?_
  refine OW_lenO hS1 (k := 3) rfl rfl rfl rfl rfl rfl (by first | exact List.length_map _ | exact len_app1 | exact len_drop | (simp only [List.length_append, List.length_map, List.length_singleton, List.length_cons, List.length_nil]; rfl) | rfl) ?_
  refine OW_as rfl rfl ?_
  refine OW_nilE (e' := [_, _, _, _, _, _, _, _, _, _, _, _, _, _, _, _, _, _, _, _, _, _, _, _, _, _, _, _, _, _, _, _, _, _, _, _, _, _, _, _, _, _, _, _, _, _, _, _, _, _, _, _, _, _, _, _, _, _, _, _, _, _, _, _]) rfl ?_
  refine XW_sr ?_
  refine OW_mv rfl rfl ?_
  first
  | refine OW_conv rfl rfl (conv_in rfl rfl rfl (IntWalk.u64_in _ (by omega))) ?_
  | refine OW_conv rfl rfl rfl ?_
  first
  | refine OW_bin rfl rfl rfl rfl (add_wu64 (by first | omega | assumption | (simp only [ByteArray.size_append, ByteArray.size_extract, List.length_map, List.length_append, List.length_cons, List.length_nil, List.length_drop, List.length_take]; omega))) ?_
  | refine OW_bin rfl rfl rfl rfl rfl ?_
  refine OW_env (e' := [_, _, _, _, _, _, _, _, _, _, _, _, _, _, _, _, _, _, _, _, _, _, _, _, _, _, _, _, _, _, _, _, _, _, _, _, _, _, _, _, _, _, _, _, _, _, _, _, _, _, _, _, _, _, _, _, _, _, _, _, _, _, _, _]) rfl ?_
  refine OW_fa rfl rfl rfl ?_
  refine OW_storeR hS1 (k := 0) rfl (le_lit (ν := ν) (a := [1, 0]) (b := [4, 0, 1, 1]) (by decide)) rfl rfl rfl rfl ⟨rfl, rfl, Nat.le_of_ble_eq_true rfl⟩ (u2 := .agg [_, _, _, _, _, _]) rfl fun H2 hS2 => ?_
  replace hS2 : Own _ _ _ (_ :: _ :: _ :: _ :: _ :: L.eraseIdx k) := hS2
  refine OW_nilE (e' := [_, _, _, _, _, _, _, _, _, _, _, _, _, _, _, _, _, _, _, _, _, _, _, _, _, _, _, _, _, _, _, _, _, _, _, _, _, _, _, _, _, _, _, _, _, _, _, _, _, _, _, _, _, _, _, _, _, _, _, _, _, _, _, _]) rfl ?_
  refine XW_mid (M := fun ee H' => ∃ (h : Int) (D : AVal), Own β (1 :: 1 :: 1 :: 1 :: ν) H' (row (0 :: 0 :: ν) 6 [.agg [.int .i64 x.t, .int .u64 x.k, .int .u64 x.n, .str x.a, .str x.b, .int .u64 h]] :: row q 4 [.agg [D, R, M, .int .i64 S.bads]] :: sl D 1 (S.draws.map eU) :: sl R 6 (S.rows.map Rw.enc) :: sl M 1 (S.met.map eU) :: L.eraseIdx k) ∧ (h = S.next) ∧ ∃ g : Nat → AVal, ee = [.ptr q 0 0, g 1, g 2, .ptr (0 :: 0 :: ν) 0 0, g 4, .int .i64 S.rows.length, g 6, g 7, g 8, g 9, g 10, g 11, g 12, g 13, g 14, g 15, g 16, g 17, g 18, g 19, g 20, g 21, g 22, g 23, g 24, g 25, g 26, g 27, g 28, g 29, g 30, g 31, g 32, g 33, g 34, g 35, g 36, g 37, g 38, g 39, g 40, g 41, g 42, g 43, g 44, g 45, g 46, g 47, g 48, g 49, g 50, g 51, g 52, g 53, g 54, g 55, g 56, g 57, g 58, g 59, g 60, g 61, g 62, g 63]) ?_ ?_
  · skip
    refine XW_sr ?_
    refine OW_mv rfl rfl ?_
    refine OW_mv rfl rfl ?_
    first
    | refine OW_nc rfl rfl ?_
    | refine OW_nce rfl rfl ?_
    refine OW_env (e' := [_, _, _, _, _, _, _, _, _, _, _, _, _, _, _, _, _, _, _, _, _, _, _, _, _, _, _, _, _, _, _, _, _, _, _, _, _, _, _, _, _, _, _, _, _, _, _, _, _, _, _, _, _, _, _, _, _, _, _, _, _, _, _, _]) rfl ?_
    refine OW_fa rfl rfl rfl ?_
    refine OW_loadR hS2 (k := 1) rfl rfl rfl rfl rfl (by first | exact part_whole rfl rfl rfl | rfl) ?_
    refine OW_lenO hS2 (k := 2) rfl rfl rfl rfl rfl rfl (by first | exact List.length_map _ | exact len_app1 | exact len_drop | (simp only [List.length_append, List.length_map, List.length_singleton, List.length_cons, List.length_nil]; rfl) | rfl) ?_
    refine OW_env (e' := [_, _, _, _, _, _, _, _, _, _, _, _, _, _, _, _, _, _, _, _, _, _, _, _, _, _, _, _, _, _, _, _, _, _, _, _, _, _, _, _, _, _, _, _, _, _, _, _, _, _, _, _, _, _, _, _, _, _, _, _, _, _, _, _]) rfl ?_
    refine OW_bin rfl rfl rfl rfl rfl ?_
    refine OW_nilE (e' := [_, _, _, _, _, _, _, _, _, _, _, _, _, _, _, _, _, _, _, _, _, _, _, _, _, _, _, _, _, _, _, _, _, _, _, _, _, _, _, _, _, _, _, _, _, _, _, _, _, _, _, _, _, _, _, _, _, _, _, _, _, _, _, _]) rfl ?_
    refine XW_if rfl (fun h3 => ?_) (fun h3 => ?_)
    · try simp only [decide_eq_true_eq, decide_eq_false_iff_not, Bool.not_eq_true', Bool.not_eq_false', Bool.and_eq_true, Bool.or_eq_true, Bool.not_eq_true, Bool.not_eq_false, Decidable.not_not, bne_iff_ne, beq_iff_eq, List.length_append, List.length_cons, List.length_nil, List.length_drop, List.length_take] at h3
      refine XW_region ?_
      refine OW_mv rfl rfl ?_
      first
      | refine OW_nc rfl rfl ?_
      | refine OW_nce rfl rfl ?_
      refine OW_fa rfl rfl rfl ?_
      refine OW_env (e' := [_, _, _, _, _, _, _, _, _, _, _, _, _, _, _, _, _, _, _, _, _, _, _, _, _, _, _, _, _, _, _, _, _, _, _, _, _, _, _, _, _, _, _, _, _, _, _, _, _, _, _, _, _, _, _, _, _, _, _, _, _, _, _, _]) rfl ?_
      refine OW_loadR hS2 (k := 1) rfl rfl rfl rfl rfl (by first | exact part_whole rfl rfl rfl | rfl) ?_
      refine OW_mv rfl rfl ?_
      refine OW_iaO hS2 (k := 2) rfl rfl rfl rfl rfl rfl rfl rfl (by first | rfl | exact (Int.toNat_of_nonneg (by omega)).symm) (by first | assumption | exact at_map (by first | assumption | omega) | exact at_lst (by omega) | rfl) fun q1 ys1 hO1 hq1 ht1 hy1 hu1 => ?_
      subst hO1
      refine OW_env (e' := [_, _, _, _, _, _, _, _, _, _, _, _, _, _, _, _, _, _, _, _, _, _, _, _, _, _, _, _, _, _, _, _, _, _, _, _, _, _, _, _, _, _, _, _, _, _, _, _, _, _, _, _, _, _, _, _, _, _, _, _, _, _, _, _]) rfl ?_
      refine OW_loadP rfl rfl hq1 hy1 rfl (by first | exact part_whole rfl rfl rfl | rfl) ?_
      refine OW_fa rfl rfl rfl ?_
      refine OW_storeR hS2 (k := 0) rfl (le_lit (ν := ν) (a := [5, 0, 1, 1]) (b := [8, 1, 0, 1, 1, 1]) (by decide)) rfl rfl rfl rfl ⟨rfl, rfl, Nat.le_of_ble_eq_true rfl⟩ (u2 := .agg [_, _, _, _, _, _]) rfl fun H3 hS3 => ?_
      replace hS3 : Own _ _ _ (_ :: _ :: _ :: _ :: _ :: L.eraseIdx k) := hS3
      refine OW_nilE (e' := [_, _, _, _, _, _, _, _, _, _, _, _, _, _, _, _, _, _, _, _, _, _, _, _, _, _, _, _, _, _, _, _, _, _, _, _, _, _, _, _, _, _, _, _, _, _, _, _, _, _, _, _, _, _, _, _, _, _, _, _, _, _, _, _]) rfl ?_
      -- mid 5.1
      refine ⟨_, _, Own.cast (Own.mono (hS3) (le_lit (ν := ν) (a := [9, 1, 0, 1, 1, 1]) (b := [1, 1, 1, 1]) (by decide))) (rfl), ?_, env_g rfl⟩
      · simp only [Rf.next]; rw [List.getElem?_eq_getElem (by omega)]
    · try simp only [decide_eq_true_eq, decide_eq_false_iff_not, Bool.not_eq_true', Bool.not_eq_false', Bool.and_eq_true, Bool.or_eq_true, Bool.not_eq_true, Bool.not_eq_false, Decidable.not_not, bne_iff_ne, beq_iff_eq, List.length_append, List.length_cons, List.length_nil, List.length_drop, List.length_take] at h3
      refine XW_skip ?_
      -- mid 5.2
      refine ⟨_, _, Own.cast (Own.mono (hS2) (le_lit (ν := ν) (a := [5, 0, 1, 1]) (b := [1, 1, 1, 1]) (by decide))) (rfl), ?_, env_g rfl⟩
      · simp only [Rf.next]; rw [List.getElem?_eq_none (by omega)]
  · rintro ee H4 ⟨h, D, hS4, hh, g1, rfl⟩
    refine XW_seq ?_
    refine XW_sr ?_
    refine OW_fa rfl rfl rfl ?_
    refine OW_loadR hS4 (k := 0) rfl rfl rfl rfl rfl (by first | exact part_whole rfl rfl rfl | rfl) ?_
    refine OW_bin rfl rfl rfl rfl rfl ?_
    refine OW_env (e' := [_, _, _, _, _, _, _, _, _, _, _, _, _, _, _, _, _, _, _, _, _, _, _, _, _, _, _, _, _, _, _, _, _, _, _, _, _, _, _, _, _, _, _, _, _, _, _, _, _, _, _, _, _, _, _, _, _, _, _, _, _, _, _, _]) rfl ?_
    refine OW_mv rfl rfl ?_
    refine OW_split (tt := 33) rfl (fun g5_4 => ?_) (fun g5_4 => ?_)
    · try simp only [decide_eq_true_eq, decide_eq_false_iff_not, Bool.not_eq_true', Bool.not_eq_false', Bool.and_eq_true, Bool.or_eq_true, Bool.not_eq_true, Bool.not_eq_false, Decidable.not_not, bne_iff_ne, beq_iff_eq, List.length_append, List.length_cons, List.length_nil, List.length_drop, List.length_take] at g5_4
      refine OW_no rfl ?_
      refine OW_env (e' := [_, _, _, _, _, _, _, _, _, _, _, _, _, _, _, _, _, _, _, _, _, _, _, _, _, _, _, _, _, _, _, _, _, _, _, _, _, _, _, _, _, _, _, _, _, _, _, _, _, _, _, _, _, _, _, _, _, _, _, _, _, _, _, _]) rfl ?_
      refine OW_no rfl ?_
      refine OW_no rfl ?_
      refine OW_no rfl ?_
      refine OW_env (e' := [_, _, _, _, _, _, _, _, _, _, _, _, _, _, _, _, _, _, _, _, _, _, _, _, _, _, _, _, _, _, _, _, _, _, _, _, _, _, _, _, _, _, _, _, _, _, _, _, _, _, _, _, _, _, _, _, _, _, _, _, _, _, _, _]) rfl ?_
      refine OW_pick rfl rfl rfl ?_
      refine OW_mv rfl rfl ?_
      refine OW_no rfl ?_
      refine OW_env (e' := [_, _, _, _, _, _, _, _, _, _, _, _, _, _, _, _, _, _, _, _, _, _, _, _, _, _, _, _, _, _, _, _, _, _, _, _, _, _, _, _, _, _, _, _, _, _, _, _, _, _, _, _, _, _, _, _, _, _, _, _, _, _, _, _]) rfl ?_
      refine OW_no rfl ?_
      refine OW_no rfl ?_
      refine OW_no rfl ?_
      refine OW_env (e' := [_, _, _, _, _, _, _, _, _, _, _, _, _, _, _, _, _, _, _, _, _, _, _, _, _, _, _, _, _, _, _, _, _, _, _, _, _, _, _, _, _, _, _, _, _, _, _, _, _, _, _, _, _, _, _, _, _, _, _, _, _, _, _, _]) rfl ?_
      refine OW_pick rfl rfl rfl ?_
      refine OW_nilE (e' := [_, _, _, _, _, _, _, _, _, _, _, _, _, _, _, _, _, _, _, _, _, _, _, _, _, _, _, _, _, _, _, _, _, _, _, _, _, _, _, _, _, _, _, _, _, _, _, _, _, _, _, _, _, _, _, _, _, _, _, _, _, _, _, _]) rfl ?_
      refine XW_yes rfl rfl ?_
      refine XW_region ?_
      refine OW_mv rfl rfl ?_
      first
      | refine OW_nc rfl rfl ?_
      | refine OW_nce rfl rfl ?_
      refine OW_fa rfl rfl rfl ?_
      refine OW_env (e' := [_, _, _, _, _, _, _, _, _, _, _, _, _, _, _, _, _, _, _, _, _, _, _, _, _, _, _, _, _, _, _, _, _, _, _, _, _, _, _, _, _, _, _, _, _, _, _, _, _, _, _, _, _, _, _, _, _, _, _, _, _, _, _, _]) rfl ?_
      refine OW_loadR hS4 (k := 1) rfl rfl rfl rfl rfl (by first | exact part_whole rfl rfl rfl | rfl) ?_
      first
      | refine OW_bin rfl rfl rfl rfl (add_w64 (by first | omega | assumption | (simp only [ByteArray.size_append, ByteArray.size_extract, List.length_map, List.length_append, List.length_cons, List.length_nil, List.length_drop, List.length_take]; omega))) ?_
      | refine OW_bin rfl rfl rfl rfl rfl ?_
      first
      | refine OW_nc rfl rfl ?_
      | refine OW_nce rfl rfl ?_
      refine OW_env (e' := [_, _, _, _, _, _, _, _, _, _, _, _, _, _, _, _, _, _, _, _, _, _, _, _, _, _, _, _, _, _, _, _, _, _, _, _, _, _, _, _, _, _, _, _, _, _, _, _, _, _, _, _, _, _, _, _, _, _, _, _, _, _, _, _]) rfl ?_
      refine OW_fa rfl rfl rfl ?_
      refine OW_storeR hS4 (k := 1) rfl (le_app (p := 1 :: 1 :: 1 :: 1 :: ν) (b := [7, 1, 0])) rfl rfl rfl rfl ⟨rfl, rfl, Nat.le_of_ble_eq_true rfl⟩ (u2 := .agg [_, _, _, _]) rfl fun H5 hS5 => ?_
      replace hS5 : Own _ _ _ (_ :: _ :: _ :: _ :: _ :: L.eraseIdx k) := hS5
      refine OW_nilE (e' := [_, _, _, _, _, _, _, _, _, _, _, _, _, _, _, _, _, _, _, _, _, _, _, _, _, _, _, _, _, _, _, _, _, _, _, _, _, _, _, _, _, _, _, _, _, _, _, _, _, _, _, _, _, _, _, _, _, _, _, _, _, _, _, _]) rfl ?_
      refine then_norm ?_
      refine XW_sr ?_
      refine OW_mv rfl rfl ?_
      refine OW_mv rfl rfl ?_
      first
      | refine OW_nc rfl rfl ?_
      | refine OW_nce rfl rfl ?_
      refine OW_env (e' := [_, _, _, _, _, _, _, _, _, _, _, _, _, _, _, _, _, _, _, _, _, _, _, _, _, _, _, _, _, _, _, _, _, _, _, _, _, _, _, _, _, _, _, _, _, _, _, _, _, _, _, _, _, _, _, _, _, _, _, _, _, _, _, _]) rfl ?_
      refine OW_fa rfl rfl rfl ?_
      refine OW_loadR hS5 (k := 1) rfl rfl rfl rfl rfl (by first | exact part_whole rfl rfl rfl | rfl) ?_
      refine OW_loadR hS5 (k := 0) rfl rfl rfl rfl rfl (by first | exact part_whole rfl rfl rfl | rfl) ?_
      refine OW_env (e' := [_, _, _, _, _, _, _, _, _, _, _, _, _, _, _, _, _, _, _, _, _, _, _, _, _, _, _, _, _, _, _, _, _, _, _, _, _, _, _, _, _, _, _, _, _, _, _, _, _, _, _, _, _, _, _, _, _, _, _, _, _, _, _, _]) rfl ?_
      refine OW_bs rfl rfl (v := .lst [_]) rfl ?_
      refine OW_app hS5 (k := 3) rfl (le_lit (ν := ν) (a := [8, 1, 0, 1, 1, 1, 1]) (b := [7, 0, 1, 1, 1, 1, 1]) (by decide)) (under_app [7, 0, 1, 1, 1, 1, 1] hβ) rfl rfl rfl rfl rfl rfl rfl rfl (by first | rfl | exact Ls.elems (by assumption)) (by first | exact one_wide rfl | exact map_wide (fun _ => rfl) | assumption | (intro y hy; simp at hy; done)) (by first | omega | (simp only [List.length_map, List.length_append, List.length_singleton, List.length_cons, List.length_nil, List.length_take, List.length_drop]; omega) | (simp; omega)) (by decide) fun O1 H6 hS6 => ?_
      replace hS6 : Own _ _ _ (_ :: _ :: _ :: _ :: _ :: L.eraseIdx k) := hS6
      first
      | refine OW_nc rfl rfl ?_
      | refine OW_nce rfl rfl ?_
      refine OW_env (e' := [_, _, _, _, _, _, _, _, _, _, _, _, _, _, _, _, _, _, _, _, _, _, _, _, _, _, _, _, _, _, _, _, _, _, _, _, _, _, _, _, _, _, _, _, _, _, _, _, _, _, _, _, _, _, _, _, _, _, _, _, _, _, _, _]) rfl ?_
      refine OW_fa rfl rfl rfl ?_
      refine OW_storeC hS6 (k := 1) rfl (le_lit (ν := ν) (a := [8, 0, 1, 1, 1, 1, 1]) (b := [10, 0, 1, 1, 1, 1, 1]) (by decide)) rfl rfl rfl (hS6.one (k := 3) rfl) rfl rfl (Nat.le_of_ble_eq_true rfl) (u2 := .agg [_, _, _, _]) rfl fun H7 hS7 => ?_
      replace hS7 : Own _ _ _ (_ :: _ :: _ :: _ :: _ :: L.eraseIdx k) := hS7
      refine OW_nilE (e' := [_, _, _, _, _, _, _, _, _, _, _, _, _, _, _, _, _, _, _, _, _, _, _, _, _, _, _, _, _, _, _, _, _, _, _, _, _, _, _, _, _, _, _, _, _, _, _, _, _, _, _, _, _, _, _, _, _, _, _, _, _, _, _, _]) rfl ?_
      refine XW_sr ?_
      refine OW_fa rfl rfl rfl ?_
      refine OW_loadR hS7 (k := 0) rfl rfl rfl rfl rfl (by first | exact part_whole rfl rfl rfl | rfl) ?_
      refine OW_as rfl rfl ?_
      refine OW_nilE (e' := [_, _, _, _, _, _, _, _, _, _, _, _, _, _, _, _, _, _, _, _, _, _, _, _, _, _, _, _, _, _, _, _, _, _, _, _, _, _, _, _, _, _, _, _, _, _, _, _, _, _, _, _, _, _, _, _, _, _, _, _, _, _, _, _]) rfl ?_
      refine XW_ret ?_
      -- outcome 1
      refine ret_ret (res1 rfl (rv_tmp rfl)) ?_
      rw [← hh] at hq; exact hq _ (Own.unpick (Own.re (Own.mk_rorc (m := S.bads + 1) (rs := S.rows ++ [Rw.mk x.t x.k x.n x.a x.b h]) (mt := S.met) (Own.drop0 (Own.mono hS7 (le_bef (bef_app (a := [11, 0, 1, 1, 1, 1, 1]) hp)))) (by simp) (by exact map_snoc (f := Rw.enc) (l := S.rows) (a := Rw.mk x.t x.k x.n x.a x.b h)) rfl) (by simp only [Rf.draw, ← hh]; rw [show S.isBad h = true by simp [Rf.isBad]; simp_all]; rfl)) hL)
    · try simp only [decide_eq_true_eq, decide_eq_false_iff_not, Bool.not_eq_true', Bool.not_eq_false', Bool.and_eq_true, Bool.or_eq_true, Bool.not_eq_true, Bool.not_eq_false, Decidable.not_not, bne_iff_ne, beq_iff_eq, List.length_append, List.length_cons, List.length_nil, List.length_drop, List.length_take] at g5_4
      refine OW_mv rfl rfl ?_
      refine OW_env (e' := [_, _, _, _, _, _, _, _, _, _, _, _, _, _, _, _, _, _, _, _, _, _, _, _, _, _, _, _, _, _, _, _, _, _, _, _, _, _, _, _, _, _, _, _, _, _, _, _, _, _, _, _, _, _, _, _, _, _, _, _, _, _, _, _]) rfl ?_
      refine OW_fa rfl rfl rfl ?_
      refine OW_loadR hS4 (k := 0) rfl rfl rfl rfl rfl (by first | exact part_whole rfl rfl rfl | rfl) ?_
      refine OW_fn rfl rfl (rIssued (S := S) hS4 (k0 := 1) rfl (k1 := 2) rfl (le_app (p := 1 :: 1 :: 1 :: 1 :: ν) (b := [7, 0, 0])) (under_app [7, 0, 0, 1, 1, 1, 1] hβ) (before_lit (ν := ν) (a := [7, 0, 0, 1, 1, 1, 1]) (b := [8, 0, 0, 1, 1, 1, 1]) (by decide)) hn _ fun H8 hS8 => ?_) 
      replace hS8 : Own _ _ _ (_ :: _ :: _ :: _ :: _ :: L.eraseIdx k) := hS8
      refine OW_env (e' := [_, _, _, _, _, _, _, _, _, _, _, _, _, _, _, _, _, _, _, _, _, _, _, _, _, _, _, _, _, _, _, _, _, _, _, _, _, _, _, _, _, _, _, _, _, _, _, _, _, _, _, _, _, _, _, _, _, _, _, _, _, _, _, _]) rfl ?_
      refine OW_pick rfl rfl rfl ?_
      refine OW_mv rfl rfl ?_
      refine OW_split (tt := 39) rfl (fun g5_10 => ?_) (fun g5_10 => ?_)
      · try simp only [decide_eq_true_eq, decide_eq_false_iff_not, Bool.not_eq_true', Bool.not_eq_false', Bool.and_eq_true, Bool.or_eq_true, Bool.not_eq_true, Bool.not_eq_false, Decidable.not_not, bne_iff_ne, beq_iff_eq, List.length_append, List.length_cons, List.length_nil, List.length_drop, List.length_take] at g5_10
        refine OW_env (e' := [_, _, _, _, _, _, _, _, _, _, _, _, _, _, _, _, _, _, _, _, _, _, _, _, _, _, _, _, _, _, _, _, _, _, _, _, _, _, _, _, _, _, _, _, _, _, _, _, _, _, _, _, _, _, _, _, _, _, _, _, _, _, _, _]) rfl ?_
        refine OW_no rfl ?_
        refine OW_no rfl ?_
        refine OW_no rfl ?_
        refine OW_env (e' := [_, _, _, _, _, _, _, _, _, _, _, _, _, _, _, _, _, _, _, _, _, _, _, _, _, _, _, _, _, _, _, _, _, _, _, _, _, _, _, _, _, _, _, _, _, _, _, _, _, _, _, _, _, _, _, _, _, _, _, _, _, _, _, _]) rfl ?_
        refine OW_no rfl ?_
        refine OW_pick rfl rfl rfl ?_
        refine OW_nilE (e' := [_, _, _, _, _, _, _, _, _, _, _, _, _, _, _, _, _, _, _, _, _, _, _, _, _, _, _, _, _, _, _, _, _, _, _, _, _, _, _, _, _, _, _, _, _, _, _, _, _, _, _, _, _, _, _, _, _, _, _, _, _, _, _, _]) rfl ?_
        refine XW_yes rfl rfl ?_
        refine XW_region ?_
        refine OW_mv rfl rfl ?_
        first
        | refine OW_nc rfl rfl ?_
        | refine OW_nce rfl rfl ?_
        refine OW_fa rfl rfl rfl ?_
        refine OW_env (e' := [_, _, _, _, _, _, _, _, _, _, _, _, _, _, _, _, _, _, _, _, _, _, _, _, _, _, _, _, _, _, _, _, _, _, _, _, _, _, _, _, _, _, _, _, _, _, _, _, _, _, _, _, _, _, _, _, _, _, _, _, _, _, _, _]) rfl ?_
        refine OW_loadR hS8 (k := 1) rfl rfl rfl rfl rfl (by first | exact part_whole rfl rfl rfl | rfl) ?_
        first
        | refine OW_bin rfl rfl rfl rfl (add_w64 (by first | omega | assumption | (simp only [ByteArray.size_append, ByteArray.size_extract, List.length_map, List.length_append, List.length_cons, List.length_nil, List.length_drop, List.length_take]; omega))) ?_
        | refine OW_bin rfl rfl rfl rfl rfl ?_
        first
        | refine OW_nc rfl rfl ?_
        | refine OW_nce rfl rfl ?_
        refine OW_env (e' := [_, _, _, _, _, _, _, _, _, _, _, _, _, _, _, _, _, _, _, _, _, _, _, _, _, _, _, _, _, _, _, _, _, _, _, _, _, _, _, _, _, _, _, _, _, _, _, _, _, _, _, _, _, _, _, _, _, _, _, _, _, _, _, _]) rfl ?_
        refine OW_fa rfl rfl rfl ?_
        refine OW_storeR hS8 (k := 1) rfl (le_lit (ν := ν) (a := [8, 0, 0, 1, 1, 1, 1]) (b := [7, 1, 0, 1, 1, 1, 1]) (by decide)) rfl rfl rfl rfl ⟨rfl, rfl, Nat.le_of_ble_eq_true rfl⟩ (u2 := .agg [_, _, _, _]) rfl fun H9 hS9 => ?_
        replace hS9 : Own _ _ _ (_ :: _ :: _ :: _ :: _ :: L.eraseIdx k) := hS9
        refine OW_nilE (e' := [_, _, _, _, _, _, _, _, _, _, _, _, _, _, _, _, _, _, _, _, _, _, _, _, _, _, _, _, _, _, _, _, _, _, _, _, _, _, _, _, _, _, _, _, _, _, _, _, _, _, _, _, _, _, _, _, _, _, _, _, _, _, _, _]) rfl ?_
        refine then_norm ?_
        refine XW_sr ?_
        refine OW_mv rfl rfl ?_
        refine OW_mv rfl rfl ?_
        first
        | refine OW_nc rfl rfl ?_
        | refine OW_nce rfl rfl ?_
        refine OW_env (e' := [_, _, _, _, _, _, _, _, _, _, _, _, _, _, _, _, _, _, _, _, _, _, _, _, _, _, _, _, _, _, _, _, _, _, _, _, _, _, _, _, _, _, _, _, _, _, _, _, _, _, _, _, _, _, _, _, _, _, _, _, _, _, _, _]) rfl ?_
        refine OW_fa rfl rfl rfl ?_
        refine OW_loadR hS9 (k := 1) rfl rfl rfl rfl rfl (by first | exact part_whole rfl rfl rfl | rfl) ?_
        refine OW_loadR hS9 (k := 0) rfl rfl rfl rfl rfl (by first | exact part_whole rfl rfl rfl | rfl) ?_
        refine OW_env (e' := [_, _, _, _, _, _, _, _, _, _, _, _, _, _, _, _, _, _, _, _, _, _, _, _, _, _, _, _, _, _, _, _, _, _, _, _, _, _, _, _, _, _, _, _, _, _, _, _, _, _, _, _, _, _, _, _, _, _, _, _, _, _, _, _]) rfl ?_
        refine OW_bs rfl rfl (v := .lst [_]) rfl ?_
        refine OW_app hS9 (k := 3) rfl (le_lit (ν := ν) (a := [8, 1, 0, 1, 1, 1, 1]) (b := [7, 0, 1, 1, 1, 1, 1]) (by decide)) (under_app [7, 0, 1, 1, 1, 1, 1] hβ) rfl rfl rfl rfl rfl rfl rfl rfl (by first | rfl | exact Ls.elems (by assumption)) (by first | exact one_wide rfl | exact map_wide (fun _ => rfl) | assumption | (intro y hy; simp at hy; done)) (by first | omega | (simp only [List.length_map, List.length_append, List.length_singleton, List.length_cons, List.length_nil, List.length_take, List.length_drop]; omega) | (simp; omega)) (by decide) fun O2 H10 hS10 => ?_
        replace hS10 : Own _ _ _ (_ :: _ :: _ :: _ :: _ :: L.eraseIdx k) := hS10
        first
        | refine OW_nc rfl rfl ?_
        | refine OW_nce rfl rfl ?_
        refine OW_env (e' := [_, _, _, _, _, _, _, _, _, _, _, _, _, _, _, _, _, _, _, _, _, _, _, _, _, _, _, _, _, _, _, _, _, _, _, _, _, _, _, _, _, _, _, _, _, _, _, _, _, _, _, _, _, _, _, _, _, _, _, _, _, _, _, _]) rfl ?_
        refine OW_fa rfl rfl rfl ?_
        refine OW_storeC hS10 (k := 1) rfl (le_lit (ν := ν) (a := [8, 0, 1, 1, 1, 1, 1]) (b := [10, 0, 1, 1, 1, 1, 1]) (by decide)) rfl rfl rfl (hS10.one (k := 3) rfl) rfl rfl (Nat.le_of_ble_eq_true rfl) (u2 := .agg [_, _, _, _]) rfl fun H11 hS11 => ?_
        replace hS11 : Own _ _ _ (_ :: _ :: _ :: _ :: _ :: L.eraseIdx k) := hS11
        refine OW_nilE (e' := [_, _, _, _, _, _, _, _, _, _, _, _, _, _, _, _, _, _, _, _, _, _, _, _, _, _, _, _, _, _, _, _, _, _, _, _, _, _, _, _, _, _, _, _, _, _, _, _, _, _, _, _, _, _, _, _, _, _, _, _, _, _, _, _]) rfl ?_
        refine XW_sr ?_
        refine OW_fa rfl rfl rfl ?_
        refine OW_loadR hS11 (k := 0) rfl rfl rfl rfl rfl (by first | exact part_whole rfl rfl rfl | rfl) ?_
        refine OW_as rfl rfl ?_
        refine OW_nilE (e' := [_, _, _, _, _, _, _, _, _, _, _, _, _, _, _, _, _, _, _, _, _, _, _, _, _, _, _, _, _, _, _, _, _, _, _, _, _, _, _, _, _, _, _, _, _, _, _, _, _, _, _, _, _, _, _, _, _, _, _, _, _, _, _, _]) rfl ?_
        refine XW_ret ?_
        -- outcome 2
        refine ret_ret (res1 rfl (rv_tmp rfl)) ?_
        rw [← hh] at hq; exact hq _ (Own.unpick (Own.re (Own.mk_rorc (m := S.bads + 1) (rs := S.rows ++ [Rw.mk x.t x.k x.n x.a x.b h]) (mt := S.met) (Own.drop0 (Own.mono hS11 (le_bef (bef_app (a := [11, 0, 1, 1, 1, 1, 1]) hp)))) (by simp) (by exact map_snoc (f := Rw.enc) (l := S.rows) (a := Rw.mk x.t x.k x.n x.a x.b h)) rfl) (by simp only [Rf.draw, ← hh]; rw [show S.isBad h = true by simp [Rf.isBad]; simp_all]; rfl)) hL)
      · try simp only [decide_eq_true_eq, decide_eq_false_iff_not, Bool.not_eq_true', Bool.not_eq_false', Bool.and_eq_true, Bool.or_eq_true, Bool.not_eq_true, Bool.not_eq_false, Decidable.not_not, bne_iff_ne, beq_iff_eq, List.length_append, List.length_cons, List.length_nil, List.length_drop, List.length_take] at g5_10
        refine OW_env (e' := [_, _, _, _, _, _, _, _, _, _, _, _, _, _, _, _, _, _, _, _, _, _, _, _, _, _, _, _, _, _, _, _, _, _, _, _, _, _, _, _, _, _, _, _, _, _, _, _, _, _, _, _, _, _, _, _, _, _, _, _, _, _, _, _]) rfl ?_
        refine OW_mv rfl rfl ?_
        refine OW_fa rfl rfl rfl ?_
        refine OW_loadR hS8 (k := 0) rfl rfl rfl rfl rfl (by first | exact part_whole rfl rfl rfl | rfl) ?_
        refine OW_env (e' := [_, _, _, _, _, _, _, _, _, _, _, _, _, _, _, _, _, _, _, _, _, _, _, _, _, _, _, _, _, _, _, _, _, _, _, _, _, _, _, _, _, _, _, _, _, _, _, _, _, _, _, _, _, _, _, _, _, _, _, _, _, _, _, _]) rfl ?_
        refine OW_fn rfl rfl (rShown (S := S) hS8 (k0 := 1) rfl (k1 := 3) rfl (le_lit (ν := ν) (a := [8, 0, 0, 1, 1, 1, 1]) (b := [13, 0, 0, 1, 1, 1, 1]) (by decide)) (under_app [13, 0, 0, 1, 1, 1, 1] hβ) (before_lit (ν := ν) (a := [13, 0, 0, 1, 1, 1, 1]) (b := [14, 0, 0, 1, 1, 1, 1]) (by decide)) hn _ fun H12 hS12 => ?_) 
        replace hS12 : Own _ _ _ (_ :: _ :: _ :: _ :: _ :: L.eraseIdx k) := hS12
        refine OW_pick rfl rfl rfl ?_
        refine OW_nilE (e' := [_, _, _, _, _, _, _, _, _, _, _, _, _, _, _, _, _, _, _, _, _, _, _, _, _, _, _, _, _, _, _, _, _, _, _, _, _, _, _, _, _, _, _, _, _, _, _, _, _, _, _, _, _, _, _, _, _, _, _, _, _, _, _, _]) rfl ?_
        refine XW_if rfl (fun h5 => ?_) (fun h5 => ?_)
        · try simp only [decide_eq_true_eq, decide_eq_false_iff_not, Bool.not_eq_true', Bool.not_eq_false', Bool.and_eq_true, Bool.or_eq_true, Bool.not_eq_true, Bool.not_eq_false, Decidable.not_not, bne_iff_ne, beq_iff_eq, List.length_append, List.length_cons, List.length_nil, List.length_drop, List.length_take] at h5
          refine XW_region ?_
          refine OW_mv rfl rfl ?_
          first
          | refine OW_nc rfl rfl ?_
          | refine OW_nce rfl rfl ?_
          refine OW_fa rfl rfl rfl ?_
          refine OW_env (e' := [_, _, _, _, _, _, _, _, _, _, _, _, _, _, _, _, _, _, _, _, _, _, _, _, _, _, _, _, _, _, _, _, _, _, _, _, _, _, _, _, _, _, _, _, _, _, _, _, _, _, _, _, _, _, _, _, _, _, _, _, _, _, _, _]) rfl ?_
          refine OW_loadR hS12 (k := 1) rfl rfl rfl rfl rfl (by first | exact part_whole rfl rfl rfl | rfl) ?_
          first
          | refine OW_bin rfl rfl rfl rfl (add_w64 (by first | omega | assumption | (simp only [ByteArray.size_append, ByteArray.size_extract, List.length_map, List.length_append, List.length_cons, List.length_nil, List.length_drop, List.length_take]; omega))) ?_
          | refine OW_bin rfl rfl rfl rfl rfl ?_
          first
          | refine OW_nc rfl rfl ?_
          | refine OW_nce rfl rfl ?_
          refine OW_env (e' := [_, _, _, _, _, _, _, _, _, _, _, _, _, _, _, _, _, _, _, _, _, _, _, _, _, _, _, _, _, _, _, _, _, _, _, _, _, _, _, _, _, _, _, _, _, _, _, _, _, _, _, _, _, _, _, _, _, _, _, _, _, _, _, _]) rfl ?_
          refine OW_fa rfl rfl rfl ?_
          refine OW_storeR hS12 (k := 1) rfl (le_lit (ν := ν) (a := [14, 0, 0, 1, 1, 1, 1]) (b := [7, 1, 0, 1, 1, 1, 1]) (by decide)) rfl rfl rfl rfl ⟨rfl, rfl, Nat.le_of_ble_eq_true rfl⟩ (u2 := .agg [_, _, _, _]) rfl fun H13 hS13 => ?_
          replace hS13 : Own _ _ _ (_ :: _ :: _ :: _ :: _ :: L.eraseIdx k) := hS13
          refine OW_nilE (e' := [_, _, _, _, _, _, _, _, _, _, _, _, _, _, _, _, _, _, _, _, _, _, _, _, _, _, _, _, _, _, _, _, _, _, _, _, _, _, _, _, _, _, _, _, _, _, _, _, _, _, _, _, _, _, _, _, _, _, _, _, _, _, _, _]) rfl ?_
          refine then_norm ?_
          refine XW_sr ?_
          refine OW_mv rfl rfl ?_
          refine OW_mv rfl rfl ?_
          first
          | refine OW_nc rfl rfl ?_
          | refine OW_nce rfl rfl ?_
          refine OW_env (e' := [_, _, _, _, _, _, _, _, _, _, _, _, _, _, _, _, _, _, _, _, _, _, _, _, _, _, _, _, _, _, _, _, _, _, _, _, _, _, _, _, _, _, _, _, _, _, _, _, _, _, _, _, _, _, _, _, _, _, _, _, _, _, _, _]) rfl ?_
          refine OW_fa rfl rfl rfl ?_
          refine OW_loadR hS13 (k := 1) rfl rfl rfl rfl rfl (by first | exact part_whole rfl rfl rfl | rfl) ?_
          refine OW_loadR hS13 (k := 0) rfl rfl rfl rfl rfl (by first | exact part_whole rfl rfl rfl | rfl) ?_
          refine OW_env (e' := [_, _, _, _, _, _, _, _, _, _, _, _, _, _, _, _, _, _, _, _, _, _, _, _, _, _, _, _, _, _, _, _, _, _, _, _, _, _, _, _, _, _, _, _, _, _, _, _, _, _, _, _, _, _, _, _, _, _, _, _, _, _, _, _]) rfl ?_
          refine OW_bs rfl rfl (v := .lst [_]) rfl ?_
          refine OW_app hS13 (k := 3) rfl (le_lit (ν := ν) (a := [8, 1, 0, 1, 1, 1, 1]) (b := [7, 0, 1, 1, 1, 1, 1]) (by decide)) (under_app [7, 0, 1, 1, 1, 1, 1] hβ) rfl rfl rfl rfl rfl rfl rfl rfl (by first | rfl | exact Ls.elems (by assumption)) (by first | exact one_wide rfl | exact map_wide (fun _ => rfl) | assumption | (intro y hy; simp at hy; done)) (by first | omega | (simp only [List.length_map, List.length_append, List.length_singleton, List.length_cons, List.length_nil, List.length_take, List.length_drop]; omega) | (simp; omega)) (by decide) fun O3 H14 hS14 => ?_
          replace hS14 : Own _ _ _ (_ :: _ :: _ :: _ :: _ :: L.eraseIdx k) := hS14
          first
          | refine OW_nc rfl rfl ?_
          | refine OW_nce rfl rfl ?_
          refine OW_env (e' := [_, _, _, _, _, _, _, _, _, _, _, _, _, _, _, _, _, _, _, _, _, _, _, _, _, _, _, _, _, _, _, _, _, _, _, _, _, _, _, _, _, _, _, _, _, _, _, _, _, _, _, _, _, _, _, _, _, _, _, _, _, _, _, _]) rfl ?_
          refine OW_fa rfl rfl rfl ?_
          refine OW_storeC hS14 (k := 1) rfl (le_lit (ν := ν) (a := [8, 0, 1, 1, 1, 1, 1]) (b := [10, 0, 1, 1, 1, 1, 1]) (by decide)) rfl rfl rfl (hS14.one (k := 3) rfl) rfl rfl (Nat.le_of_ble_eq_true rfl) (u2 := .agg [_, _, _, _]) rfl fun H15 hS15 => ?_
          replace hS15 : Own _ _ _ (_ :: _ :: _ :: _ :: _ :: L.eraseIdx k) := hS15
          refine OW_nilE (e' := [_, _, _, _, _, _, _, _, _, _, _, _, _, _, _, _, _, _, _, _, _, _, _, _, _, _, _, _, _, _, _, _, _, _, _, _, _, _, _, _, _, _, _, _, _, _, _, _, _, _, _, _, _, _, _, _, _, _, _, _, _, _, _, _]) rfl ?_
          refine XW_sr ?_
          refine OW_fa rfl rfl rfl ?_
          refine OW_loadR hS15 (k := 0) rfl rfl rfl rfl rfl (by first | exact part_whole rfl rfl rfl | rfl) ?_
          refine OW_as rfl rfl ?_
          refine OW_nilE (e' := [_, _, _, _, _, _, _, _, _, _, _, _, _, _, _, _, _, _, _, _, _, _, _, _, _, _, _, _, _, _, _, _, _, _, _, _, _, _, _, _, _, _, _, _, _, _, _, _, _, _, _, _, _, _, _, _, _, _, _, _, _, _, _, _]) rfl ?_
          refine XW_ret ?_
          -- outcome 3
          refine ret_ret (res1 rfl (rv_tmp rfl)) ?_
          rw [← hh] at hq; exact hq _ (Own.unpick (Own.re (Own.mk_rorc (m := S.bads + 1) (rs := S.rows ++ [Rw.mk x.t x.k x.n x.a x.b h]) (mt := S.met) (Own.drop0 (Own.mono hS15 (le_bef (bef_app (a := [11, 0, 1, 1, 1, 1, 1]) hp)))) (by simp) (by exact map_snoc (f := Rw.enc) (l := S.rows) (a := Rw.mk x.t x.k x.n x.a x.b h)) rfl) (by simp only [Rf.draw, ← hh]; rw [show S.isBad h = true by simp [Rf.isBad]; simp_all]; rfl)) hL)
        · try simp only [decide_eq_true_eq, decide_eq_false_iff_not, Bool.not_eq_true', Bool.not_eq_false', Bool.and_eq_true, Bool.or_eq_true, Bool.not_eq_true, Bool.not_eq_false, Decidable.not_not, bne_iff_ne, beq_iff_eq, List.length_append, List.length_cons, List.length_nil, List.length_drop, List.length_take] at h5
          refine XW_skip ?_
          refine then_norm ?_
          refine XW_sr ?_
          refine OW_mv rfl rfl ?_
          refine OW_mv rfl rfl ?_
          first
          | refine OW_nc rfl rfl ?_
          | refine OW_nce rfl rfl ?_
          refine OW_env (e' := [_, _, _, _, _, _, _, _, _, _, _, _, _, _, _, _, _, _, _, _, _, _, _, _, _, _, _, _, _, _, _, _, _, _, _, _, _, _, _, _, _, _, _, _, _, _, _, _, _, _, _, _, _, _, _, _, _, _, _, _, _, _, _, _]) rfl ?_
          refine OW_fa rfl rfl rfl ?_
          refine OW_loadR hS12 (k := 1) rfl rfl rfl rfl rfl (by first | exact part_whole rfl rfl rfl | rfl) ?_
          refine OW_loadR hS12 (k := 0) rfl rfl rfl rfl rfl (by first | exact part_whole rfl rfl rfl | rfl) ?_
          refine OW_env (e' := [_, _, _, _, _, _, _, _, _, _, _, _, _, _, _, _, _, _, _, _, _, _, _, _, _, _, _, _, _, _, _, _, _, _, _, _, _, _, _, _, _, _, _, _, _, _, _, _, _, _, _, _, _, _, _, _, _, _, _, _, _, _, _, _]) rfl ?_
          refine OW_bs rfl rfl (v := .lst [_]) rfl ?_
          refine OW_app hS12 (k := 3) rfl (le_lit (ν := ν) (a := [14, 0, 0, 1, 1, 1, 1]) (b := [7, 0, 1, 1, 1, 1, 1]) (by decide)) (under_app [7, 0, 1, 1, 1, 1, 1] hβ) rfl rfl rfl rfl rfl rfl rfl rfl (by first | rfl | exact Ls.elems (by assumption)) (by first | exact one_wide rfl | exact map_wide (fun _ => rfl) | assumption | (intro y hy; simp at hy; done)) (by first | omega | (simp only [List.length_map, List.length_append, List.length_singleton, List.length_cons, List.length_nil, List.length_take, List.length_drop]; omega) | (simp; omega)) (by decide) fun O4 H16 hS16 => ?_
          replace hS16 : Own _ _ _ (_ :: _ :: _ :: _ :: _ :: L.eraseIdx k) := hS16
          first
          | refine OW_nc rfl rfl ?_
          | refine OW_nce rfl rfl ?_
          refine OW_env (e' := [_, _, _, _, _, _, _, _, _, _, _, _, _, _, _, _, _, _, _, _, _, _, _, _, _, _, _, _, _, _, _, _, _, _, _, _, _, _, _, _, _, _, _, _, _, _, _, _, _, _, _, _, _, _, _, _, _, _, _, _, _, _, _, _]) rfl ?_
          refine OW_fa rfl rfl rfl ?_
          refine OW_storeC hS16 (k := 1) rfl (le_lit (ν := ν) (a := [8, 0, 1, 1, 1, 1, 1]) (b := [10, 0, 1, 1, 1, 1, 1]) (by decide)) rfl rfl rfl (hS16.one (k := 3) rfl) rfl rfl (Nat.le_of_ble_eq_true rfl) (u2 := .agg [_, _, _, _]) rfl fun H17 hS17 => ?_
          replace hS17 : Own _ _ _ (_ :: _ :: _ :: _ :: _ :: L.eraseIdx k) := hS17
          refine OW_nilE (e' := [_, _, _, _, _, _, _, _, _, _, _, _, _, _, _, _, _, _, _, _, _, _, _, _, _, _, _, _, _, _, _, _, _, _, _, _, _, _, _, _, _, _, _, _, _, _, _, _, _, _, _, _, _, _, _, _, _, _, _, _, _, _, _, _]) rfl ?_
          refine XW_sr ?_
          refine OW_fa rfl rfl rfl ?_
          refine OW_loadR hS17 (k := 0) rfl rfl rfl rfl rfl (by first | exact part_whole rfl rfl rfl | rfl) ?_
          refine OW_as rfl rfl ?_
          refine OW_nilE (e' := [_, _, _, _, _, _, _, _, _, _, _, _, _, _, _, _, _, _, _, _, _, _, _, _, _, _, _, _, _, _, _, _, _, _, _, _, _, _, _, _, _, _, _, _, _, _, _, _, _, _, _, _, _, _, _, _, _, _, _, _, _, _, _, _]) rfl ?_
          refine XW_ret ?_
          -- outcome 4
          refine ret_ret (res1 rfl (rv_tmp rfl)) ?_
          rw [← hh] at hq; exact hq _ (Own.unpick (Own.re (Own.mk_rorc (m := S.bads) (rs := S.rows ++ [Rw.mk x.t x.k x.n x.a x.b h]) (mt := S.met) (Own.drop0 (Own.mono hS17 (le_bef (bef_app (a := [11, 0, 1, 1, 1, 1, 1]) hp)))) (by simp) (by exact map_snoc (f := Rw.enc) (l := S.rows) (a := Rw.mk x.t x.k x.n x.a x.b h)) rfl) (by simp only [Rf.draw, ← hh]; rw [show S.isBad h = false by simp [Rf.isBad]; simp_all]; rfl)) hL)
theorem rMeet (hS : Own β ps H L) (hL : L[k]? = some (rorc q S)) (hle : le ps ν) (hβ : under β ν = true) (hp : before ν pos') (hn : S.le 4294967000) (h : Int) (hq : ∀ H1, Own β pos' H1 (L.set k (rorc q (S.meet h))) → Q (.tup []) H1) : CW cfg ν 40 [.ptr q 0 0, .int .u64 h] H Q := by
  have hnm := hn.met
  obtain ⟨D, R, M, hS⟩ := (hS.pick hL).un_rorc
  refine CW_keep g40 F40 rfl ?_
  replace hS := Own.mono hS hle
  refine XW_sr ?_
  refine OW_mv rfl rfl ?_
  refine OW_mv rfl rfl ?_
  refine OW_fn rfl rfl (rIssued (S := S) hS (k0 := 0) rfl (k1 := 1) rfl (le_app (p := ν) (b := [2, 0])) (under_app [2, 0] hβ) (before_lit (ν := ν) (a := [2, 0]) (b := [3, 0]) (by decide)) hn _ fun H1 hS1 => ?_) 
  replace hS1 : Own _ _ _ (_ :: _ :: _ :: _ :: L.eraseIdx k) := hS1
  refine OW_env (e' := [_, _, _, _, _, _, _, _, _, _, _, _, _, _, _, _, _, _]) rfl ?_
  refine OW_un rfl rfl rfl ?_
  refine OW_nilE (e' := [_, _, _, _, _, _, _, _, _, _, _, _, _, _, _, _, _, _]) rfl ?_
  refine XW_if rfl (fun h0 => ?_) (fun h0 => ?_)
  · try simp only [decide_eq_true_eq, decide_eq_false_iff_not, Bool.not_eq_true', Bool.not_eq_false', Bool.and_eq_true, Bool.or_eq_true, Bool.not_eq_true, Bool.not_eq_false, Decidable.not_not, bne_iff_ne, beq_iff_eq, List.length_append, List.length_cons, List.length_nil, List.length_drop, List.length_take] at h0
    refine XW_region ?_
    refine OW_mv rfl rfl ?_
    refine OW_mv rfl rfl ?_
    first
    | refine OW_nc rfl rfl ?_
    | refine OW_nce rfl rfl ?_
    refine OW_env (e' := [_, _, _, _, _, _, _, _, _, _, _, _, _, _, _, _, _, _]) rfl ?_
    refine OW_fa rfl rfl rfl ?_
    refine OW_loadR hS1 (k := 0) rfl rfl rfl rfl rfl (by first | exact part_whole rfl rfl rfl | rfl) ?_
    refine OW_mv rfl rfl ?_
    refine OW_env (e' := [_, _, _, _, _, _, _, _, _, _, _, _, _, _, _, _, _, _]) rfl ?_
    refine OW_bs rfl rfl (v := .lst [_]) rfl ?_
    refine OW_app hS1 (k := 3) rfl (le_lit (ν := ν) (a := [3, 0]) (b := [7, 1]) (by decide)) (under_app [7, 1] hβ) rfl rfl rfl rfl rfl rfl rfl rfl (by first | rfl | exact Ls.elems (by assumption)) (by first | exact one_wide rfl | exact map_wide (fun _ => rfl) | assumption | (intro y hy; simp at hy; done)) (by first | omega | (simp only [List.length_map, List.length_append, List.length_singleton, List.length_cons, List.length_nil, List.length_take, List.length_drop]; omega) | (simp; omega)) (by decide) fun O1 H2 hS2 => ?_
    replace hS2 : Own _ _ _ (_ :: _ :: _ :: _ :: L.eraseIdx k) := hS2
    first
    | refine OW_nc rfl rfl ?_
    | refine OW_nce rfl rfl ?_
    refine OW_env (e' := [_, _, _, _, _, _, _, _, _, _, _, _, _, _, _, _, _, _]) rfl ?_
    refine OW_fa rfl rfl rfl ?_
    refine OW_storeC hS2 (k := 0) rfl (le_lit (ν := ν) (a := [8, 1]) (b := [10, 1]) (by decide)) rfl rfl rfl (hS2.one (k := 3) rfl) rfl rfl (Nat.le_of_ble_eq_true rfl) (u2 := .agg [_, _, _, _]) rfl fun H3 hS3 => ?_
    replace hS3 : Own _ _ _ (_ :: _ :: _ :: _ :: L.eraseIdx k) := hS3
    refine OW_nilE (e' := [_, _, _, _, _, _, _, _, _, _, _, _, _, _, _, _, _, _]) rfl ?_
    -- outcome 1
    refine ret_norm ((res0 rfl)) ?_
    exact hq _ (Own.unpick (Own.re (Own.mk_rorc (m := S.bads) (rs := S.rows) (mt := S.met ++ [h]) (Own.mono hS3 (le_bef (bef_app (a := [11, 1]) hp))) rfl rfl (map_snoc (f := eU) (l := S.met) (a := h))) (by simp [Rf.meet, h0])) hL)
  · try simp only [decide_eq_true_eq, decide_eq_false_iff_not, Bool.not_eq_true', Bool.not_eq_false', Bool.and_eq_true, Bool.or_eq_true, Bool.not_eq_true, Bool.not_eq_false, Decidable.not_not, bne_iff_ne, beq_iff_eq, List.length_append, List.length_cons, List.length_nil, List.length_drop, List.length_take] at h0
    refine XW_skip ?_
    -- outcome 2
    refine ret_norm ((res0 rfl)) ?_
    exact hq _ (Own.unpick (Own.re (Own.mk_rorc (m := S.bads) (rs := S.rows) (mt := S.met) (Own.mono hS1 (le_bef (bef_app (a := [3, 0]) hp))) rfl rfl rfl) (by simp [Rf.meet, h0])) hL)
theorem rBad (hS : Own β ps H L) (hL : L[k]? = some (rorc q S)) (hle : le ps ν) (hβ : under β ν = true) (hp : before ν pos') (hq : ∀ H1, Own β pos' H1 L → Q (.bool (decide (S.bads > 0))) H1) : CW cfg ν 23 [.ptr q 0 0] H Q := by
  obtain ⟨D, R, M, hS⟩ := (hS.pick hL).un_rorc
  refine CW_keep g23 F23 rfl ?_
  replace hS := Own.mono hS hle
  refine XW_sr ?_
  refine OW_as rfl rfl ?_
  refine OW_nilE (e' := [_, _, _, _, _, _, _, _]) rfl ?_
  refine XW_sr ?_
  refine OW_mv rfl rfl ?_
  first
  | refine OW_nc rfl rfl ?_
  | refine OW_nce rfl rfl ?_
  refine OW_fa rfl rfl rfl ?_
  refine OW_env (e' := [_, _, _, _, _, _, _, _]) rfl ?_
  refine OW_loadR hS (k := 0) rfl rfl rfl rfl rfl (by first | exact part_whole rfl rfl rfl | rfl) ?_
  refine OW_bin rfl rfl rfl rfl rfl ?_
  refine OW_as rfl rfl ?_
  refine OW_nilE (e' := [_, _, _, _, _, _, _, _]) rfl ?_
  refine XW_ret ?_
  -- outcome 1
  refine ret_ret (res1 rfl (rv_tmp rfl)) ?_
  refine qcast (hq _ (Own.cast (Own.unpick (Own.mk_rorc (m := S.bads) (Own.mono hS (le_bef hp)) rfl) hL) (set_get_self hL))) ?_; congr 1; simp
theorem rDrawn (hS : Own β ps H L) (hL : L[k]? = some (rorc q S)) (hle : le ps ν) (hβ : under β ν = true) (hp : before ν pos') (hq : ∀ H1, Own β pos' H1 L → Q (.int .i64 S.rows.length) H1) : CW cfg ν 22 [.ptr q 0 0] H Q := by
  obtain ⟨D, R, M, hS⟩ := (hS.pick hL).un_rorc
  refine CW_keep g22 F22 rfl ?_
  replace hS := Own.mono hS hle
  refine XW_sr ?_
  refine OW_as rfl rfl ?_
  refine OW_nilE (e' := [_, _, _, _, _, _, _, _]) rfl ?_
  refine XW_sr ?_
  refine OW_mv rfl rfl ?_
  first
  | refine OW_nc rfl rfl ?_
  | refine OW_nce rfl rfl ?_
  refine OW_fa rfl rfl rfl ?_
  refine OW_env (e' := [_, _, _, _, _, _, _, _]) rfl ?_
  refine OW_loadR hS (k := 0) rfl rfl rfl rfl rfl (by first | exact part_whole rfl rfl rfl | rfl) ?_
  refine OW_lenO hS (k := 2) rfl rfl rfl rfl rfl rfl (by first | exact List.length_map _ | exact len_app1 | exact len_drop | (simp only [List.length_append, List.length_map, List.length_singleton, List.length_cons, List.length_nil]; rfl) | rfl) ?_
  refine OW_as rfl rfl ?_
  refine OW_nilE (e' := [_, _, _, _, _, _, _, _]) rfl ?_
  refine XW_ret ?_
  -- outcome 1
  refine ret_ret (res1 rfl (rv_tmp rfl)) ?_
  exact hq _ (Own.cast (Own.unpick (Own.mk_rorc (m := S.bads) (Own.mono hS (le_bef hp)) rfl) hL) (set_get_self hL))
theorem Rf.at_cases (S : Rf) (x : Rw) : (S.rows.find? (fun y => x.same y) = none ∧ S.at_ x = -1) ∨ ∃ (i : Nat) (h : i < S.rows.length), S.rows.find? (fun y => x.same y) = some S.rows[i] ∧ S.at_ x = i := by
  have hat := find_first (fun y => x.same y) S.rows 0 (by omega)
  rw [show firstI (fun y => x.same y) S.rows 0 = S.at_ x from rfl] at hat
  simpa using hat
theorem Rf.at_lt {S : Rf} {x : Rw} (h : S.at_ x ≥ 0) : (S.at_ x).toNat < S.rows.length := by
  rcases S.at_cases x with ⟨_, h1⟩ | ⟨i, h3, _, h1⟩ <;> omega
theorem Rf.at_old {S : Rf} {x : Rw} (h : S.at_ x ≥ 0) (hlt : (S.at_ x).toNat < S.rows.length) : S.rows.find? (fun y => x.same y) = some S.rows[(S.at_ x).toNat] := by
  rcases S.at_cases x with ⟨_, h1⟩ | ⟨i, h3, h2, h1⟩
  · omega
  · rw [h2]; simp only [h1, Int.toNat_natCast]
theorem Rf.at_new {S : Rf} {x : Rw} (h : ¬ S.at_ x ≥ 0) : S.rows.find? (fun y => x.same y) = none := by
  rcases S.at_cases x with ⟨h2, h1⟩ | ⟨i, h3, h2, h1⟩
  · exact h2
  · omega
theorem rDrawO {D R M : AVal} (hS : Own β ps H (row q 4 [.agg [D, R, M, .int .i64 S.bads]] :: sl D 1 (S.draws.map eU) :: sl R 6 (S.rows.map Rw.enc) :: sl M 1 (S.met.map eU) :: L)) (hle : le ps ν) (hβ : under β ν = true) (hp : before ν pos') (hn : S.le 4294967000) (x : Rw) (hq : ∀ H1 D R M, Own β pos' H1 (row q 4 [.agg [D, R, M, .int .i64 (S.draw x).bads]] :: sl D 1 ((S.draw x).draws.map eU) :: sl R 6 ((S.draw x).rows.map Rw.enc) :: sl M 1 ((S.draw x).met.map eU) :: L) → Q (.int .u64 S.next) H1) : CW cfg ν 42 [.ptr q 0 0, x.enc] H Q :=
  rDraw (L := rorc q S :: L) (k := 0) (Own.mk_rorc (m := S.bads) hS rfl) rfl hle hβ hp hn x fun H1 h1 => by
    obtain ⟨D, R, M, h1⟩ := Own.un_rorc h1
    exact hq _ _ _ _ h1
theorem rMeetO {D R M : AVal} (hS : Own β ps H (row q 4 [.agg [D, R, M, .int .i64 S.bads]] :: sl D 1 (S.draws.map eU) :: sl R 6 (S.rows.map Rw.enc) :: sl M 1 (S.met.map eU) :: L)) (hle : le ps ν) (hβ : under β ν = true) (hp : before ν pos') (hn : S.le 4294967000) (h : Int) (hq : ∀ H1 D R M, Own β pos' H1 (row q 4 [.agg [D, R, M, .int .i64 (S.meet h).bads]] :: sl D 1 ((S.meet h).draws.map eU) :: sl R 6 ((S.meet h).rows.map Rw.enc) :: sl M 1 ((S.meet h).met.map eU) :: L) → Q (.tup []) H1) : CW cfg ν 40 [.ptr q 0 0, .int .u64 h] H Q :=
  rMeet (L := rorc q S :: L) (k := 0) (Own.mk_rorc (m := S.bads) hS rfl) rfl hle hβ hp hn h fun H1 h1 => by
    obtain ⟨D, R, M, h1⟩ := Own.un_rorc h1
    exact hq _ _ _ _ h1
theorem rDrawX {X : Asr} {D R M : AVal} (hS : Own β ps H (X :: row q 4 [.agg [D, R, M, .int .i64 S.bads]] :: sl D 1 (S.draws.map eU) :: sl R 6 (S.rows.map Rw.enc) :: sl M 1 (S.met.map eU) :: L)) (hle : le ps ν) (hβ : under β ν = true) (hp : before ν pos') (hn : S.le 4294967000) (x : Rw) (hq : ∀ H1 D R M, Own β pos' H1 (X :: row q 4 [.agg [D, R, M, .int .i64 (S.draw x).bads]] :: sl D 1 ((S.draw x).draws.map eU) :: sl R 6 ((S.draw x).rows.map Rw.enc) :: sl M 1 ((S.draw x).met.map eU) :: L) → Q (.int .u64 S.next) H1) : CW cfg ν 42 [.ptr q 0 0, x.enc] H Q :=
  rDrawO (L := X :: L) (Own.rot (A := [_, _, _, _]) hS) hle hβ hp hn x fun H1 D R M h1 => hq _ _ _ _ (Own.tor (A := [_, _, _, _]) h1)
theorem rValue (hS : Own β ps H L) (hL : L[k]? = some (rorc q S)) (hle : le ps ν) (hβ : under β ν = true) (hp : before ν pos') (hn : S.le 4294967000) (x : Rw) (hq : ∀ H1, Own β pos' H1 (L.set k (rorc q (S.value x).2)) → Q (.int .u64 (S.value x).1) H1) : CW cfg ν 38 [.ptr q 0 0, x.enc] H Q := by
  have hnr := hn.rows
  obtain ⟨D, R, M, hS⟩ := (hS.pick hL).un_rorc
  refine CW_keep g38 F38 rfl ?_
  replace hS := Own.mono hS hle
  refine XW_sr ?_
  refine OW_boxR hS (le_app (p := ν) (b := [0, 0])) (under_app [0, 0] hβ) rfl rfl rfl ⟨rfl, rfl⟩ fun H1 hS1 => ?_
  replace hS1 : Own _ _ _ (_ :: _ :: _ :: _ :: _ :: L.eraseIdx k) := hS1
  refine OW_as rfl rfl ?_
  refine OW_nilE (e' := [_, _, _, _, _, _, _, _, _, _, _, _, _, _, _, _, _, _, _, _, _, _]) rfl ?_
  refine XW_sr ?_
  refine OW_mv rfl rfl ?_
  refine OW_loadR hS1 (k := 0) rfl rfl rfl rfl rfl (by first | exact part_whole rfl rfl rfl | rfl) ?_
  refine OW_fn rfl rfl (rAt (S := S) hS1 (k0 := 1) rfl (k1 := 2) rfl (le_lit (ν := ν) (a := [1, 0]) (b := [2, 0, 1]) (by decide)) (under_app [2, 0, 1] hβ) (before_lit (ν := ν) (a := [2, 0, 1]) (b := [3, 0, 1]) (by decide)) hn _ fun H2 hS2 => ?_) 
  replace hS2 : Own _ _ _ (_ :: _ :: _ :: _ :: _ :: L.eraseIdx k) := hS2
  refine OW_env (e' := [_, _, _, _, _, _, _, _, _, _, _, _, _, _, _, _, _, _, _, _, _, _]) rfl ?_
  refine OW_as rfl rfl ?_
  refine OW_nilE (e' := [_, _, _, _, _, _, _, _, _, _, _, _, _, _, _, _, _, _, _, _, _, _]) rfl ?_
  refine XW_seq ?_
  refine XW_sr ?_
  refine OW_mv rfl rfl ?_
  refine OW_bin rfl rfl rfl rfl rfl ?_
  refine OW_nilE (e' := [_, _, _, _, _, _, _, _, _, _, _, _, _, _, _, _, _, _, _, _, _, _]) rfl ?_
  refine XW_if rfl (fun h2 => ?_) (fun h2 => ?_)
  · try simp only [decide_eq_true_eq, decide_eq_false_iff_not, Bool.not_eq_true', Bool.not_eq_false', Bool.and_eq_true, Bool.or_eq_true, Bool.not_eq_true, Bool.not_eq_false, Decidable.not_not, bne_iff_ne, beq_iff_eq, List.length_append, List.length_cons, List.length_nil, List.length_drop, List.length_take] at h2
    refine XW_sr ?_
    have hlt := Rf.at_lt h2
    refine OW_mv rfl rfl ?_
    first
    | refine OW_nc rfl rfl ?_
    | refine OW_nce rfl rfl ?_
    refine OW_fa rfl rfl rfl ?_
    refine OW_env (e' := [_, _, _, _, _, _, _, _, _, _, _, _, _, _, _, _, _, _, _, _, _, _]) rfl ?_
    refine OW_loadR hS2 (k := 1) rfl rfl rfl rfl rfl (by first | exact part_whole rfl rfl rfl | rfl) ?_
    refine OW_mv rfl rfl ?_
    refine OW_iaO hS2 (k := 3) rfl rfl rfl rfl rfl rfl rfl rfl (by first | rfl | exact (Int.toNat_of_nonneg (by omega)).symm) (by first | assumption | exact at_map (by first | assumption | omega) | exact at_lst (by omega) | rfl) fun q1 ys1 hO1 hq1 ht1 hy1 hu1 => ?_
    subst hO1
    refine OW_env (e' := [_, _, _, _, _, _, _, _, _, _, _, _, _, _, _, _, _, _, _, _, _, _]) rfl ?_
    refine OW_fa rfl rfl rfl ?_
    refine OW_loadP rfl rfl hq1 hy1 rfl (by first | exact part_whole rfl rfl rfl | rfl) ?_
    refine OW_as rfl rfl ?_
    refine OW_nilE (e' := [_, _, _, _, _, _, _, _, _, _, _, _, _, _, _, _, _, _, _, _, _, _]) rfl ?_
    refine XW_ret ?_
    refine then_ret ?_
    -- outcome 1
    refine ret_ret (res1 rfl (rv_tmp rfl)) ?_
    simp only [Rf.value, Rf.at_old h2 hlt] at hq; exact hq _ (Own.unpick (Own.mk_rorc (m := S.bads) (Own.drop0 (Own.mono hS2 (le_bef (bef_app (a := [3, 0, 1]) hp)))) rfl) hL)
  · try simp only [decide_eq_true_eq, decide_eq_false_iff_not, Bool.not_eq_true', Bool.not_eq_false', Bool.and_eq_true, Bool.or_eq_true, Bool.not_eq_true, Bool.not_eq_false, Decidable.not_not, bne_iff_ne, beq_iff_eq, List.length_append, List.length_cons, List.length_nil, List.length_drop, List.length_take] at h2
    refine XW_skip ?_
    refine then_norm ?_
    refine XW_sr ?_
    refine OW_mv rfl rfl ?_
    refine OW_loadR hS2 (k := 0) rfl rfl rfl rfl rfl (by first | exact part_whole rfl rfl rfl | rfl) ?_
    refine OW_fn rfl rfl (rDrawX hS2 (le_lit (ν := ν) (a := [3, 0, 1]) (b := [2, 0, 1, 1, 1]) (by decide)) (under_app [2, 0, 1, 1, 1] hβ) (before_lit (ν := ν) (a := [2, 0, 1, 1, 1]) (b := [3, 0, 1, 1, 1]) (by decide)) hn _ fun H3 D1 R1 M1 hS3 => ?_) 
    replace hS3 : Own _ _ _ (_ :: _ :: _ :: _ :: _ :: L.eraseIdx k) := hS3
    refine OW_env (e' := [_, _, _, _, _, _, _, _, _, _, _, _, _, _, _, _, _, _, _, _, _, _]) rfl ?_
    refine OW_as rfl rfl ?_
    refine OW_nilE (e' := [_, _, _, _, _, _, _, _, _, _, _, _, _, _, _, _, _, _, _, _, _, _]) rfl ?_
    refine XW_ret ?_
    -- outcome 2
    refine ret_ret (res1 rfl (rv_tmp rfl)) ?_
    simp only [Rf.value, Rf.at_new h2] at hq; exact hq _ (Own.unpick (Own.mk_rorc (m := (S.draw x).bads) (Own.drop0 (Own.mono hS3 (le_bef (bef_app (a := [3, 0, 1, 1, 1]) hp)))) rfl) hL)
theorem rVerify (hS : Own β ps H L) (hL : L[k]? = some (rorc q S)) (hle : le ps ν) (hβ : under β ν = true) (hp : before ν pos') (hn : S.le 4294967000) (kk : Int) (a : ByteArray) (t : Int) (hq : ∀ H1, Own β pos' H1 (L.set k (rorc q (S.verify kk a t).2)) → Q (.bool (S.verify kk a t).1) H1) : CW cfg ν 33 [.ptr q 0 0, .int .u64 kk, .str a, .int .u64 t] H Q := by
  have hnr := hn.rows
  obtain ⟨D, R, M, hS⟩ := (hS.pick hL).un_rorc
  refine CW_keep g33 F33 rfl ?_
  replace hS := Own.mono hS hle
  refine XW_sr ?_
  refine OW_as rfl rfl ?_
  refine OW_nilE (e' := [_, _, _, _, _, _, _, _, _, _, _, _, _, _, _, _, _, _, _, _, _, _, _, _, _, _, _, _, _, _, _, _]) rfl ?_
  refine XW_sr ?_
  refine OW_mv rfl rfl ?_
  refine OW_mv rfl rfl ?_
  refine OW_mv rfl rfl ?_
  refine OW_env (e' := [_, _, _, _, _, _, _, _, _, _, _, _, _, _, _, _, _, _, _, _, _, _, _, _, _, _, _, _, _, _, _, _]) rfl ?_
  refine OW_bd rfl rfl (v := .agg [_, _, _, _, _, _]) rfl ?_
  refine OW_fn rfl rfl (rAt (S := S) hS (k0 := 0) rfl (k1 := 1) rfl (le_app (p := ν) (b := [4, 0, 1])) (under_app [4, 0, 1] hβ) (before_lit (ν := ν) (a := [4, 0, 1]) (b := [5, 0, 1]) (by decide)) hn ⟨2, kk, 0, a, ⟨#[]⟩, 0⟩ fun H1 hS1 => ?_) 
  replace hS1 : Own _ _ _ (_ :: _ :: _ :: _ :: L.eraseIdx k) := hS1
  refine OW_as rfl rfl ?_
  refine OW_nilE (e' := [_, _, _, _, _, _, _, _, _, _, _, _, _, _, _, _, _, _, _, _, _, _, _, _, _, _, _, _, _, _, _, _]) rfl ?_
  refine XW_seq ?_
  refine XW_sr ?_
  refine OW_mv rfl rfl ?_
  refine OW_bin rfl rfl rfl rfl rfl ?_
  refine OW_mv rfl rfl ?_
  refine OW_env (e' := [_, _, _, _, _, _, _, _, _, _, _, _, _, _, _, _, _, _, _, _, _, _, _, _, _, _, _, _, _, _, _, _]) rfl ?_
  refine OW_split (tt := 17) rfl (fun g2_3 => ?_) (fun g2_3 => ?_)
  · try simp only [decide_eq_true_eq, decide_eq_false_iff_not, Bool.not_eq_true', Bool.not_eq_false', Bool.and_eq_true, Bool.or_eq_true, Bool.not_eq_true, Bool.not_eq_false, Decidable.not_not, bne_iff_ne, beq_iff_eq, List.length_append, List.length_cons, List.length_nil, List.length_drop, List.length_take] at g2_3
    refine OW_mv rfl rfl ?_
    first
    | refine OW_nc rfl rfl ?_
    | refine OW_nce rfl rfl ?_
    refine OW_env (e' := [_, _, _, _, _, _, _, _, _, _, _, _, _, _, _, _, _, _, _, _, _, _, _, _, _, _, _, _, _, _, _, _]) rfl ?_
    refine OW_fa rfl rfl rfl ?_
    refine OW_loadR hS1 (k := 0) rfl rfl rfl rfl rfl (by first | exact part_whole rfl rfl rfl | rfl) ?_
    refine OW_mv rfl rfl ?_
    refine OW_env (e' := [_, _, _, _, _, _, _, _, _, _, _, _, _, _, _, _, _, _, _, _, _, _, _, _, _, _, _, _, _, _, _, _]) rfl ?_
    have hlt := Rf.at_lt g2_3
    refine OW_iaO hS1 (k := 2) rfl rfl rfl rfl rfl rfl rfl rfl (by first | rfl | exact (Int.toNat_of_nonneg (by omega)).symm) (by first | assumption | exact at_map (by first | assumption | omega) | exact at_lst (by omega) | rfl) fun q1 ys1 hO1 hq1 ht1 hy1 hu1 => ?_
    subst hO1
    refine OW_fa rfl rfl rfl ?_
    refine OW_loadP rfl rfl hq1 hy1 rfl (by first | exact part_whole rfl rfl rfl | rfl) ?_
    refine OW_env (e' := [_, _, _, _, _, _, _, _, _, _, _, _, _, _, _, _, _, _, _, _, _, _, _, _, _, _, _, _, _, _, _, _]) rfl ?_
    refine OW_mv rfl rfl ?_
    refine OW_bin rfl rfl rfl rfl rfl ?_
    refine OW_pick rfl rfl rfl ?_
    refine OW_nilE (e' := [_, _, _, _, _, _, _, _, _, _, _, _, _, _, _, _, _, _, _, _, _, _, _, _, _, _, _, _, _, _, _, _]) rfl ?_
    refine XW_if rfl (fun h2 => ?_) (fun h2 => ?_)
    · try simp only [decide_eq_true_eq, decide_eq_false_iff_not, Bool.not_eq_true', Bool.not_eq_false', Bool.and_eq_true, Bool.or_eq_true, Bool.not_eq_true, Bool.not_eq_false, Decidable.not_not, bne_iff_ne, beq_iff_eq, List.length_append, List.length_cons, List.length_nil, List.length_drop, List.length_take] at h2
      refine XW_sr ?_
      refine OW_as rfl rfl ?_
      refine OW_nilE (e' := [_, _, _, _, _, _, _, _, _, _, _, _, _, _, _, _, _, _, _, _, _, _, _, _, _, _, _, _, _, _, _, _]) rfl ?_
      refine XW_ret ?_
      refine then_ret ?_
      -- outcome 1
      refine ret_ret (res1 rfl (rv_tmp rfl)) ?_
      simp only [Rf.verify, Rf.at_old g2_3 hlt, h2, if_true] at hq; exact hq _ (Own.unpick (Own.mk_rorc (m := S.bads) (Own.mono hS1 (le_bef (bef_app (a := [5, 0, 1]) hp))) rfl) hL)
    · try simp only [decide_eq_true_eq, decide_eq_false_iff_not, Bool.not_eq_true', Bool.not_eq_false', Bool.and_eq_true, Bool.or_eq_true, Bool.not_eq_true, Bool.not_eq_false, Decidable.not_not, bne_iff_ne, beq_iff_eq, List.length_append, List.length_cons, List.length_nil, List.length_drop, List.length_take] at h2
      refine XW_skip ?_
      refine then_norm ?_
      refine XW_sr ?_
      refine OW_mv rfl rfl ?_
      refine OW_mv rfl rfl ?_
      refine OW_fn rfl rfl (rMeetO hS1 (le_lit (ν := ν) (a := [5, 0, 1]) (b := [2, 0, 1, 1, 1]) (by decide)) (under_app [2, 0, 1, 1, 1] hβ) (before_lit (ν := ν) (a := [2, 0, 1, 1, 1]) (b := [3, 0, 1, 1, 1]) (by decide)) hn _ fun H2 D1 R1 M1 hS2 => ?_) 
      replace hS2 : Own _ _ _ (_ :: _ :: _ :: _ :: L.eraseIdx k) := hS2
      refine OW_nilE (e' := [_, _, _, _, _, _, _, _, _, _, _, _, _, _, _, _, _, _, _, _, _, _, _, _, _, _, _, _, _, _, _, _]) rfl ?_
      refine XW_sr ?_
      refine OW_as rfl rfl ?_
      refine OW_nilE (e' := [_, _, _, _, _, _, _, _, _, _, _, _, _, _, _, _, _, _, _, _, _, _, _, _, _, _, _, _, _, _, _, _]) rfl ?_
      refine XW_ret ?_
      -- outcome 2
      refine ret_ret (res1 rfl (rv_tmp rfl)) ?_
      simp only [Rf.verify, Rf.at_old g2_3 hlt, h2, if_false] at hq; exact hq _ (Own.unpick (Own.mk_rorc (m := (S.meet t).bads) (Own.mono hS2 (le_bef (bef_app (a := [3, 0, 1, 1, 1]) hp))) rfl) hL)
  · try simp only [decide_eq_true_eq, decide_eq_false_iff_not, Bool.not_eq_true', Bool.not_eq_false', Bool.and_eq_true, Bool.or_eq_true, Bool.not_eq_true, Bool.not_eq_false, Decidable.not_not, bne_iff_ne, beq_iff_eq, List.length_append, List.length_cons, List.length_nil, List.length_drop, List.length_take] at g2_3
    refine OW_no rfl ?_
    refine OW_no rfl ?_
    refine OW_env (e' := [_, _, _, _, _, _, _, _, _, _, _, _, _, _, _, _, _, _, _, _, _, _, _, _, _, _, _, _, _, _, _, _]) rfl ?_
    refine OW_no rfl ?_
    refine OW_no rfl ?_
    refine OW_no rfl ?_
    refine OW_env (e' := [_, _, _, _, _, _, _, _, _, _, _, _, _, _, _, _, _, _, _, _, _, _, _, _, _, _, _, _, _, _, _, _]) rfl ?_
    refine OW_no rfl ?_
    refine OW_no rfl ?_
    refine OW_no rfl ?_
    refine OW_env (e' := [_, _, _, _, _, _, _, _, _, _, _, _, _, _, _, _, _, _, _, _, _, _, _, _, _, _, _, _, _, _, _, _]) rfl ?_
    refine OW_no rfl ?_
    refine OW_no rfl ?_
    refine OW_pick rfl rfl rfl ?_
    refine OW_nilE (e' := [_, _, _, _, _, _, _, _, _, _, _, _, _, _, _, _, _, _, _, _, _, _, _, _, _, _, _, _, _, _, _, _]) rfl ?_
    refine XW_no rfl rfl ?_
    refine XW_skip ?_
    refine then_norm ?_
    refine XW_sr ?_
    refine OW_mv rfl rfl ?_
    refine OW_mv rfl rfl ?_
    refine OW_fn rfl rfl (rMeetO hS1 (le_lit (ν := ν) (a := [5, 0, 1]) (b := [2, 0, 1, 1, 1]) (by decide)) (under_app [2, 0, 1, 1, 1] hβ) (before_lit (ν := ν) (a := [2, 0, 1, 1, 1]) (b := [3, 0, 1, 1, 1]) (by decide)) hn _ fun H3 D2 R2 M2 hS3 => ?_) 
    replace hS3 : Own _ _ _ (_ :: _ :: _ :: _ :: L.eraseIdx k) := hS3
    refine OW_nilE (e' := [_, _, _, _, _, _, _, _, _, _, _, _, _, _, _, _, _, _, _, _, _, _, _, _, _, _, _, _, _, _, _, _]) rfl ?_
    refine XW_sr ?_
    refine OW_as rfl rfl ?_
    refine OW_nilE (e' := [_, _, _, _, _, _, _, _, _, _, _, _, _, _, _, _, _, _, _, _, _, _, _, _, _, _, _, _, _, _, _, _]) rfl ?_
    refine XW_ret ?_
    -- outcome 3
    refine ret_ret (res1 rfl (rv_tmp rfl)) ?_
    simp only [Rf.verify, Rf.at_new g2_3] at hq; exact hq _ (Own.unpick (Own.mk_rorc (m := (S.meet t).bads) (Own.mono hS3 (le_bef (bef_app (a := [3, 0, 1, 1, 1]) hp))) rfl) hL)
end Go.Proofs.Ytoljfmghcfdbpaa.X
