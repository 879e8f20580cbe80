/- Layer 20: the queue's methods. -/
import Derived.Test.YtamdokgbenbndaaTI5
set_option linter.unusedVariables false
set_option linter.unusedSimpArgs false
set_option maxRecDepth 100000
namespace Go.Proofs.Ytamdokgbenbndaa.X
open Go Go.RowKit
variable {ν β ps pos' : Nm} {H : Heap} {Q : AVal → Heap → Prop} {L : List Asr} {k : Nat} {q : Nm} {h : List It} {n : Int}
def que (q : Nm) (h : List It) (n : Int) : Asr := Asr.ex fun O : AVal => Asr.all [row q 2 [.agg [O, .int .i64 n]], sl O 3 (h.map It.enc)]
theorem Own.un_que (h0 : Own β ps H (que q h n :: L)) : ∃ O, Own β ps H (row q 2 [.agg [O, .int .i64 n]] :: sl O 3 (h.map It.enc) :: L) := by
  obtain ⟨O, h1⟩ := Own.un_ex h0
  exact ⟨O, h1.un_all⟩
theorem Own.mk_que {O : AVal} (h0 : Own β ps H (row q 2 [.agg [O, .int .i64 n]] :: sl O 3 (h.map It.enc) :: L)) : Own β ps H (que q h n :: L) := Own.mk_ex O (Own.mk_all (L1 := [row q 2 [.agg [O, .int .i64 n]], sl O 3 (h.map It.enc)]) h0)
theorem new_c (hS : Own β ps H L) (hle : le ps ν) (hβ : under β ν = true) (hp : before ν pos') (hq : ∀ H1 q, Own β pos' H1 (que q [] 0 :: L) → Q (.ptr q 0 0) H1) : CW cfg ν 8 [] H Q := by
  refine CW_keep g8 F8 rfl ?_
  replace hS := Own.mono hS hle
  refine XW_sr ?_
  refine OW_as rfl rfl ?_
  refine OW_nilE (e' := [_, _, _]) rfl ?_
  refine XW_sr ?_
  refine OW_bd rfl rfl (v := .agg [_, _]) rfl ?_
  refine OW_boxR hS (le_app (p := ν) (b := [1, 0, 1])) (under_app [1, 0, 1] hβ) rfl rfl rfl ⟨rfl, rfl⟩ fun H1 hS1 => ?_
  replace hS1 : Own _ _ _ (_ :: L) := hS1
  refine OW_as rfl rfl ?_
  refine OW_nilE (e' := [_, _, _]) rfl ?_
  refine XW_ret ?_
  -- outcome 1
  refine ret_ret (res1 rfl (rv_tmp rfl)) ?_
  exact hq _ _ (Own.mk_que (O := .emp) (Own.rot (A := [_]) (Own.addE (Own.mono hS1 (le_bef (bef_app (a := [2, 0, 1]) hp))))))
theorem many_c (hS : Own β ps H L) (hL : L[k]? = some (que q h n)) (hle : le ps ν) (hβ : under β ν = true) (hp : before ν pos') (hq : ∀ H1, Own β pos' H1 L → Q (.int .i64 h.length) H1) : CW cfg ν 11 [.ptr q 0 0] H Q := by
  obtain ⟨O, hS⟩ := (hS.pick hL).un_que
  refine CW_keep g11 F11 rfl ?_
  replace hS := Own.mono hS hle
  refine XW_sr ?_
  refine OW_as rfl rfl ?_
  refine OW_nilE (e' := [_, _, _, _, _, _, _, _]) rfl ?_
  refine XW_sr ?_
  refine OW_mv rfl rfl ?_
  first
  | refine OW_nc rfl rfl ?_
  | refine OW_nce rfl rfl ?_
  refine OW_fa rfl rfl rfl ?_
  refine OW_env (e' := [_, _, _, _, _, _, _, _]) rfl ?_
  refine OW_loadR hS (k := 0) rfl rfl rfl rfl rfl (by first | exact part_whole rfl rfl rfl | rfl) ?_
  refine OW_lenO hS (k := 1) rfl rfl rfl rfl rfl rfl (by first | exact List.length_map _ | exact len_app1 | exact len_drop | (simp only [List.length_append, List.length_map, List.length_singleton, List.length_cons, List.length_nil]; rfl) | rfl) ?_
  refine OW_as rfl rfl ?_
  refine OW_nilE (e' := [_, _, _, _, _, _, _, _]) rfl ?_
  refine XW_ret ?_
  -- outcome 1
  refine ret_ret (res1 rfl (rv_tmp rfl)) ?_
  exact hq _ (Own.cast (Own.unpick (Own.mk_que (Own.mono hS (le_bef hp))) hL) (set_get_self hL))
def dueV (x : It) : AVal := .agg [.int .u64 x.at', .str x.wh]
def nxtV (h : List It) : AVal × Bool := match h with
  | [] => (.agg [.int .u64 0, .str ⟨#[]⟩], false)
  | x :: _ => (dueV x, true)
theorem qnext_c (hS : Own β ps H L) (hL : L[k]? = some (que q h n)) (hle : le ps ν) (hβ : under β ν = true) (hp : before ν pos') (hq : ∀ H1, Own β pos' H1 L → Q (.tup [(nxtV h).1, .bool (nxtV h).2]) H1) : CW cfg ν 12 [.ptr q 0 0] H Q := by
  obtain ⟨O, hS⟩ := (hS.pick hL).un_que
  cases h with
  | nil =>
    refine CW_keep g12 F12 rfl ?_
    replace hS := Own.mono hS hle
    refine XW_sr ?_
    refine OW_allocR hS (le_app (p := ν) (b := [0, 0])) (under_app [0, 0] hβ) rfl rfl rfl rfl fun H1 hS1 => ?_
    replace hS1 : Own _ _ _ (_ :: _ :: _ :: L.eraseIdx k) := hS1
    refine OW_as rfl rfl ?_
    refine OW_nilE (e' := [_, _, _, _, _, _, _, _, _, _, _, _, _, _, _, _, _, _]) rfl ?_
    refine XW_seq ?_
    refine XW_sr ?_
    refine OW_mv rfl rfl ?_
    first
    | refine OW_nc rfl rfl ?_
    | refine OW_nce rfl rfl ?_
    refine OW_fa rfl rfl rfl ?_
    refine OW_env (e' := [_, _, _, _, _, _, _, _, _, _, _, _, _, _, _, _, _, _]) rfl ?_
    refine OW_loadR hS1 (k := 1) rfl rfl rfl rfl rfl (by first | exact part_whole rfl rfl rfl | rfl) ?_
    refine OW_lenO hS1 (k := 2) rfl rfl rfl rfl rfl rfl (by first | exact List.length_map _ | exact len_app1 | exact len_drop | (simp only [List.length_append, List.length_map, List.length_singleton, List.length_cons, List.length_nil]; rfl) | rfl) ?_
    refine OW_bin rfl rfl rfl rfl rfl ?_
    refine OW_nilE (e' := [_, _, _, _, _, _, _, _, _, _, _, _, _, _, _, _, _, _]) rfl ?_
    refine XW_if rfl (fun h1 => ?_) (fun h1 => ?_)
    · first
      | (exfalso; (try simp only [decide_eq_true_eq, decide_eq_false_iff_not, Bool.not_eq_true', Bool.not_eq_false', Bool.and_eq_true, Bool.or_eq_true, Bool.not_eq_true, Bool.not_eq_false, Decidable.not_not, bne_iff_ne, beq_iff_eq, List.length_append, List.length_cons, List.length_nil, List.length_drop, List.length_take] at h1) <;> (first | (exact absurd rfl h1) | (exact h1 trivial) | omega | (simp at h1; done)); done)
      | skip
        try simp only [decide_eq_true_eq, decide_eq_false_iff_not, Bool.not_eq_true', Bool.not_eq_false', Bool.and_eq_true, Bool.or_eq_true, Bool.not_eq_true, Bool.not_eq_false, Decidable.not_not, bne_iff_ne, beq_iff_eq, List.length_append, List.length_cons, List.length_nil, List.length_drop, List.length_take] at h1
        refine XW_sr ?_
        refine OW_bd rfl rfl (v := .agg [_, _]) rfl ?_
        first
        | refine OW_storeR hS1 (k := 0) rfl (le_lit (ν := ν) (a := [1, 0]) (b := [1, 0, 1, 0, 1]) (by decide)) rfl rfl rfl rfl ⟨rfl, rfl, Nat.le_of_ble_eq_true rfl⟩ (set_whole rfl rfl) fun H2 hS2 => ?_
        | refine OW_storeR hS1 (k := 0) rfl (le_lit (ν := ν) (a := [1, 0]) (b := [1, 0, 1, 0, 1]) (by decide)) rfl rfl rfl rfl ⟨rfl, rfl, Nat.le_of_ble_eq_true rfl⟩ (u2 := .agg [_, _]) rfl fun H2 hS2 => ?_
        replace hS2 : Own _ _ _ (_ :: _ :: _ :: L.eraseIdx k) := hS2
        refine OW_as rfl rfl ?_
        refine OW_nilE (e' := [_, _, _, _, _, _, _, _, _, _, _, _, _, _, _, _, _, _]) rfl ?_
        refine XW_ret ?_
        refine then_ret ?_
        -- outcome 1
        refine ret_ret (res2 rfl (rv_cellR hS2 (k := 0) rfl rfl rfl rfl (by first | exact part_whole rfl rfl rfl | rfl)) (rv_tmp rfl)) ?_
        exact hq _ (Own.cast (Own.unpick (Own.mk_que (h := []) (Own.drop0 (Own.mono hS2 (le_bef (bef_app (a := [2, 0, 1, 0, 1]) hp))))) hL) (set_get_self hL))
    · first
      | (exfalso; (try simp only [decide_eq_true_eq, decide_eq_false_iff_not, Bool.not_eq_true', Bool.not_eq_false', Bool.and_eq_true, Bool.or_eq_true, Bool.not_eq_true, Bool.not_eq_false, Decidable.not_not, bne_iff_ne, beq_iff_eq, List.length_append, List.length_cons, List.length_nil, List.length_drop, List.length_take] at h1) <;> (first | (exact absurd rfl h1) | (exact h1 trivial) | omega | (simp at h1; done)); done)
      | skip
        try simp only [decide_eq_true_eq, decide_eq_false_iff_not, Bool.not_eq_true', Bool.not_eq_false', Bool.and_eq_true, Bool.or_eq_true, Bool.not_eq_true, Bool.not_eq_false, Decidable.not_not, bne_iff_ne, beq_iff_eq, List.length_append, List.length_cons, List.length_nil, List.length_drop, List.length_take] at h1
        refine XW_skip ?_
        refine then_norm ?_
        refine XW_sr ?_
        refine OW_mv rfl rfl ?_
        first
        | refine OW_nc rfl rfl ?_
        | refine OW_nce rfl rfl ?_
        refine OW_fa rfl rfl rfl ?_
        refine OW_env (e' := [_, _, _, _, _, _, _, _, _, _, _, _, _, _, _, _, _, _]) rfl ?_
        refine OW_loadR hS1 (k := 1) rfl rfl rfl rfl rfl (by first | exact part_whole rfl rfl rfl | rfl) ?_
        first
        | refine OW_iaL rfl rfl rfl Ls.of rfl rfl rfl (by first | rfl | exact (Int.toNat_of_nonneg (by omega)).symm) (by first | assumption | exact at_map (by first | assumption | omega) | exact at_lst (by omega) | rfl) rfl ?_
        | refine OW_iaL rfl rfl rfl (by assumption) rfl rfl rfl (by first | rfl | exact (Int.toNat_of_nonneg (by omega)).symm) (by first | assumption | exact at_map (by first | assumption | omega) | exact at_lst (by omega) | rfl) rfl ?_
        refine OW_fa rfl rfl rfl ?_
        refine OW_env (e' := [_, _, _, _, _, _, _, _, _, _, _, _, _, _, _, _, _, _]) rfl ?_
        refine OW_loadE rfl rfl rfl (by first | exact part_whole rfl rfl rfl | rfl) ?_
        first
        | refine OW_storeR hS1 (k := 0) rfl (le_lit (ν := ν) (a := [1, 0]) (b := [7, 0, 1, 1]) (by decide)) rfl rfl rfl rfl ⟨rfl, rfl, Nat.le_of_ble_eq_true rfl⟩ (set_whole rfl rfl) fun H3 hS3 => ?_
        | refine OW_storeR hS1 (k := 0) rfl (le_lit (ν := ν) (a := [1, 0]) (b := [7, 0, 1, 1]) (by decide)) rfl rfl rfl rfl ⟨rfl, rfl, Nat.le_of_ble_eq_true rfl⟩ (u2 := .agg [_, _]) rfl fun H3 hS3 => ?_
        replace hS3 : Own _ _ _ (_ :: _ :: _ :: L.eraseIdx k) := hS3
        refine OW_as rfl rfl ?_
        refine OW_nilE (e' := [_, _, _, _, _, _, _, _, _, _, _, _, _, _, _, _, _, _]) rfl ?_
        refine XW_ret ?_
        -- outcome 2
        refine ret_ret (res2 rfl (rv_cellR hS3 (k := 0) rfl rfl rfl rfl (by first | exact part_whole rfl rfl rfl | rfl)) (rv_tmp rfl)) ?_
        exact hq _ (Own.cast (Own.unpick (Own.mk_que (h := []) (Own.drop0 (Own.mono hS3 (le_bef (bef_app (a := [8, 0, 1, 1]) hp))))) hL) (set_get_self hL))
  | cons x r =>
    refine CW_keep g12 F12 rfl ?_
    replace hS := Own.mono hS hle
    refine XW_sr ?_
    refine OW_allocR hS (le_app (p := ν) (b := [0, 0])) (under_app [0, 0] hβ) rfl rfl rfl rfl fun H1 hS1 => ?_
    replace hS1 : Own _ _ _ (_ :: _ :: _ :: L.eraseIdx k) := hS1
    refine OW_as rfl rfl ?_
    refine OW_nilE (e' := [_, _, _, _, _, _, _, _, _, _, _, _, _, _, _, _, _, _]) rfl ?_
    refine XW_seq ?_
    refine XW_sr ?_
    refine OW_mv rfl rfl ?_
    first
    | refine OW_nc rfl rfl ?_
    | refine OW_nce rfl rfl ?_
    refine OW_fa rfl rfl rfl ?_
    refine OW_env (e' := [_, _, _, _, _, _, _, _, _, _, _, _, _, _, _, _, _, _]) rfl ?_
    refine OW_loadR hS1 (k := 1) rfl rfl rfl rfl rfl (by first | exact part_whole rfl rfl rfl | rfl) ?_
    refine OW_lenO hS1 (k := 2) rfl rfl rfl rfl rfl rfl (by first | exact List.length_map _ | exact len_app1 | exact len_drop | (simp only [List.length_append, List.length_map, List.length_singleton, List.length_cons, List.length_nil]; rfl) | rfl) ?_
    refine OW_bin rfl rfl rfl rfl rfl ?_
    refine OW_nilE (e' := [_, _, _, _, _, _, _, _, _, _, _, _, _, _, _, _, _, _]) rfl ?_
    refine XW_if rfl (fun h1 => ?_) (fun h1 => ?_)
    · first
      | (exfalso; (try simp only [decide_eq_true_eq, decide_eq_false_iff_not, Bool.not_eq_true', Bool.not_eq_false', Bool.and_eq_true, Bool.or_eq_true, Bool.not_eq_true, Bool.not_eq_false, Decidable.not_not, bne_iff_ne, beq_iff_eq, List.length_append, List.length_cons, List.length_nil, List.length_drop, List.length_take] at h1) <;> (first | (exact absurd rfl h1) | (exact h1 trivial) | omega | (simp at h1; done)); done)
      | skip
        try simp only [decide_eq_true_eq, decide_eq_false_iff_not, Bool.not_eq_true', Bool.not_eq_false', Bool.and_eq_true, Bool.or_eq_true, Bool.not_eq_true, Bool.not_eq_false, Decidable.not_not, bne_iff_ne, beq_iff_eq, List.length_append, List.length_cons, List.length_nil, List.length_drop, List.length_take] at h1
        refine XW_sr ?_
        refine OW_bd rfl rfl (v := .agg [_, _]) rfl ?_
        first
        | refine OW_storeR hS1 (k := 0) rfl (le_lit (ν := ν) (a := [1, 0]) (b := [1, 0, 1, 0, 1]) (by decide)) rfl rfl rfl rfl ⟨rfl, rfl, Nat.le_of_ble_eq_true rfl⟩ (set_whole rfl rfl) fun H2 hS2 => ?_
        | refine OW_storeR hS1 (k := 0) rfl (le_lit (ν := ν) (a := [1, 0]) (b := [1, 0, 1, 0, 1]) (by decide)) rfl rfl rfl rfl ⟨rfl, rfl, Nat.le_of_ble_eq_true rfl⟩ (u2 := .agg [_, _]) rfl fun H2 hS2 => ?_
        replace hS2 : Own _ _ _ (_ :: _ :: _ :: L.eraseIdx k) := hS2
        refine OW_as rfl rfl ?_
        refine OW_nilE (e' := [_, _, _, _, _, _, _, _, _, _, _, _, _, _, _, _, _, _]) rfl ?_
        refine XW_ret ?_
        refine then_ret ?_
        -- outcome 1
        refine ret_ret (res2 rfl (rv_cellR hS2 (k := 0) rfl rfl rfl rfl (by first | exact part_whole rfl rfl rfl | rfl)) (rv_tmp rfl)) ?_
        exact hq _ (Own.cast (Own.unpick (Own.mk_que (h := x :: r) (Own.drop0 (Own.mono hS2 (le_bef (bef_app (a := [2, 0, 1, 0, 1]) hp))))) hL) (set_get_self hL))
    · first
      | (exfalso; (try simp only [decide_eq_true_eq, decide_eq_false_iff_not, Bool.not_eq_true', Bool.not_eq_false', Bool.and_eq_true, Bool.or_eq_true, Bool.not_eq_true, Bool.not_eq_false, Decidable.not_not, bne_iff_ne, beq_iff_eq, List.length_append, List.length_cons, List.length_nil, List.length_drop, List.length_take] at h1) <;> (first | (exact absurd rfl h1) | (exact h1 trivial) | omega | (simp at h1; done)); done)
      | skip
        try simp only [decide_eq_true_eq, decide_eq_false_iff_not, Bool.not_eq_true', Bool.not_eq_false', Bool.and_eq_true, Bool.or_eq_true, Bool.not_eq_true, Bool.not_eq_false, Decidable.not_not, bne_iff_ne, beq_iff_eq, List.length_append, List.length_cons, List.length_nil, List.length_drop, List.length_take] at h1
        refine XW_skip ?_
        refine then_norm ?_
        refine XW_sr ?_
        refine OW_mv rfl rfl ?_
        first
        | refine OW_nc rfl rfl ?_
        | refine OW_nce rfl rfl ?_
        refine OW_fa rfl rfl rfl ?_
        refine OW_env (e' := [_, _, _, _, _, _, _, _, _, _, _, _, _, _, _, _, _, _]) rfl ?_
        refine OW_loadR hS1 (k := 1) rfl rfl rfl rfl rfl (by first | exact part_whole rfl rfl rfl | rfl) ?_
        refine OW_iaO hS1 (k := 2) rfl rfl rfl rfl rfl rfl rfl rfl (by first | rfl | exact (Int.toNat_of_nonneg (by omega)).symm) (by first | assumption | exact at_map (by first | assumption | omega) | exact at_lst (by omega) | rfl) fun q1 ys1 hO1 hq1 ht1 hy1 hu1 => ?_
        subst hO1
        refine OW_fa rfl rfl rfl ?_
        refine OW_env (e' := [_, _, _, _, _, _, _, _, _, _, _, _, _, _, _, _, _, _]) rfl ?_
        refine OW_loadP rfl rfl hq1 hy1 rfl (by first | exact part_whole rfl rfl rfl | rfl) ?_
        first
        | refine OW_storeR hS1 (k := 0) rfl (le_lit (ν := ν) (a := [1, 0]) (b := [7, 0, 1, 1]) (by decide)) rfl rfl rfl rfl ⟨rfl, rfl, Nat.le_of_ble_eq_true rfl⟩ (set_whole rfl rfl) fun H3 hS3 => ?_
        | refine OW_storeR hS1 (k := 0) rfl (le_lit (ν := ν) (a := [1, 0]) (b := [7, 0, 1, 1]) (by decide)) rfl rfl rfl rfl ⟨rfl, rfl, Nat.le_of_ble_eq_true rfl⟩ (u2 := .agg [_, _]) rfl fun H3 hS3 => ?_
        replace hS3 : Own _ _ _ (_ :: _ :: _ :: L.eraseIdx k) := hS3
        refine OW_as rfl rfl ?_
        refine OW_nilE (e' := [_, _, _, _, _, _, _, _, _, _, _, _, _, _, _, _, _, _]) rfl ?_
        refine XW_ret ?_
        -- outcome 2
        refine ret_ret (res2 rfl (rv_cellR hS3 (k := 0) rfl rfl rfl rfl (by first | exact part_whole rfl rfl rfl | rfl)) (rv_tmp rfl)) ?_
        exact hq _ (Own.cast (Own.unpick (Own.mk_que (h := x :: r) (Own.drop0 (Own.mono hS3 (le_bef (bef_app (a := [8, 0, 1, 1]) hp))))) hL) (set_get_self hL))
end Go.Proofs.Ytamdokgbenbndaa.X
