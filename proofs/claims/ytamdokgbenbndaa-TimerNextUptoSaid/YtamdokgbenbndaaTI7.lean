/- Layer 20: the queue's Add, Pop. -/
import Derived.Test.YtamdokgbenbndaaTI6
set_option linter.unusedVariables false
set_option linter.unusedSimpArgs false
set_option maxRecDepth 100000
namespace Go.Proofs.Ytamdokgbenbndaa.X
open Go Go.RowKit
variable {ν β ps pos' : Nm} {H : Heap} {Q : AVal → Heap → Prop} {L : List Asr} {k : Nat} {q : Nm} {h : List It} {n : Int}
def addF (h : List It) (x : It) : List It := upF (h ++ [x]) h.length
theorem add_c {a : Int} {w : ByteArray} (hS : Own β ps H L) (hL : L[k]? = some (que q h n)) (hle : le ps ν) (hβ : under β ν = true) (hp : before ν pos') (hn : 0 ≤ n ∧ n ≤ 4611686018427387904)
    (hq1 : 4096 ≤ h.length → ∀ H1, Own β pos' H1 L → Q (.bool false) H1) (hq2 : h.length < 4096 → ∀ H1, Own β pos' H1 (L.set k (que q (addF h ⟨a, w, n⟩) (n + 1))) → Q (.bool true) H1) : CW cfg ν 9 [.ptr q 0 0, .int .u64 a, .str w] H Q := by
  obtain ⟨O, hS⟩ := (hS.pick hL).un_que
  refine CW_keep g9 F9 rfl ?_
  replace hS := Own.mono hS hle
  refine XW_sr ?_
  refine OW_as rfl rfl ?_
  refine OW_nilE (e' := [_, _, _, _, _, _, _, _, _, _, _, _, _, _, _, _, _, _, _, _, _, _, _, _, _, _, _, _, _, _, _, _, _, _]) rfl ?_
  refine XW_seq ?_
  refine XW_sr ?_
  refine OW_mv rfl rfl ?_
  first
  | refine OW_nc rfl rfl ?_
  | refine OW_nce rfl rfl ?_
  refine OW_fa rfl rfl rfl ?_
  refine OW_env (e' := [_, _, _, _, _, _, _, _, _, _, _, _, _, _, _, _, _, _, _, _, _, _, _, _, _, _, _, _, _, _, _, _, _, _]) rfl ?_
  refine OW_loadR hS (k := 0) rfl rfl rfl rfl rfl (by first | exact part_whole rfl rfl rfl | rfl) ?_
  refine OW_lenO hS (k := 1) rfl rfl rfl rfl rfl rfl (by first | exact List.length_map _ | exact len_app1 | exact len_drop | (simp only [List.length_append, List.length_map, List.length_singleton, List.length_cons, List.length_nil]; rfl) | rfl) ?_
  refine OW_bin rfl rfl rfl rfl rfl ?_
  refine OW_nilE (e' := [_, _, _, _, _, _, _, _, _, _, _, _, _, _, _, _, _, _, _, _, _, _, _, _, _, _, _, _, _, _, _, _, _, _]) rfl ?_
  refine XW_if rfl (fun h1 => ?_) (fun h1 => ?_)
  · try simp only [decide_eq_true_eq, decide_eq_false_iff_not, Bool.not_eq_true', Bool.not_eq_false', Bool.and_eq_true, Bool.or_eq_true, Bool.not_eq_true, Bool.not_eq_false, Decidable.not_not, bne_iff_ne, beq_iff_eq, List.length_append, List.length_cons, List.length_nil, List.length_drop, List.length_take] at h1
    refine XW_sr ?_
    refine OW_as rfl rfl ?_
    refine OW_nilE (e' := [_, _, _, _, _, _, _, _, _, _, _, _, _, _, _, _, _, _, _, _, _, _, _, _, _, _, _, _, _, _, _, _, _, _]) rfl ?_
    refine XW_ret ?_
    refine then_ret ?_
    -- outcome 1
    refine ret_ret (res1 rfl (rv_tmp rfl)) ?_
    exact hq1 (by omega) _ (Own.cast (Own.unpick (Own.mk_que (Own.mono hS (le_bef hp))) hL) (set_get_self hL))
  · try simp only [decide_eq_true_eq, decide_eq_false_iff_not, Bool.not_eq_true', Bool.not_eq_false', Bool.and_eq_true, Bool.or_eq_true, Bool.not_eq_true, Bool.not_eq_false, Decidable.not_not, bne_iff_ne, beq_iff_eq, List.length_append, List.length_cons, List.length_nil, List.length_drop, List.length_take] at h1
    refine XW_skip ?_
    refine then_norm ?_
    refine XW_sr ?_
    refine OW_mv rfl rfl ?_
    first
    | refine OW_nc rfl rfl ?_
    | refine OW_nce rfl rfl ?_
    refine OW_fa rfl rfl rfl ?_
    refine OW_env (e' := [_, _, _, _, _, _, _, _, _, _, _, _, _, _, _, _, _, _, _, _, _, _, _, _, _, _, _, _, _, _, _, _, _, _]) rfl ?_
    refine OW_mi rfl rfl rfl rfl ?_
    refine OW_mv rfl rfl ?_
    refine OW_mv rfl rfl ?_
    refine OW_env (e' := [_, _, _, _, _, _, _, _, _, _, _, _, _, _, _, _, _, _, _, _, _, _, _, _, _, _, _, _, _, _, _, _, _, _]) rfl ?_
    refine OW_bd rfl rfl (v := .agg [_, _]) rfl ?_
    refine OW_mv rfl rfl ?_
    first
    | refine OW_nc rfl rfl ?_
    | refine OW_nce rfl rfl ?_
    refine OW_env (e' := [_, _, _, _, _, _, _, _, _, _, _, _, _, _, _, _, _, _, _, _, _, _, _, _, _, _, _, _, _, _, _, _, _, _]) rfl ?_
    refine OW_fa rfl rfl rfl ?_
    refine OW_loadR hS (k := 0) rfl rfl rfl rfl rfl (by first | exact part_whole rfl rfl rfl | rfl) ?_
    refine OW_bd rfl rfl (v := .agg [_, _, _]) rfl ?_
    refine OW_env (e' := [_, _, _, _, _, _, _, _, _, _, _, _, _, _, _, _, _, _, _, _, _, _, _, _, _, _, _, _, _, _, _, _, _, _]) rfl ?_
    refine OW_mi rfl rfl rfl rfl ?_
    refine OW_fn rfl rfl (hpush_c (x := ⟨a, w, n⟩) hS (le_app (p := ν) (b := [13, 0, 1, 1])) (under_app [13, 0, 1, 1] hβ) (before_lit (ν := ν) (a := [13, 0, 1, 1]) (b := [14, 0, 1, 1]) (by decide)) (by omega) fun H1 O1 hS1 => ?_) 
    replace hS1 : Own _ _ _ (_ :: _ :: L.eraseIdx k) := hS1
    refine OW_nilE (e' := [_, _, _, _, _, _, _, _, _, _, _, _, _, _, _, _, _, _, _, _, _, _, _, _, _, _, _, _, _, _, _, _, _, _]) rfl ?_
    refine XW_sr ?_
    refine OW_mv rfl rfl ?_
    first
    | refine OW_nc rfl rfl ?_
    | refine OW_nce rfl rfl ?_
    refine OW_fa rfl rfl rfl ?_
    refine OW_env (e' := [_, _, _, _, _, _, _, _, _, _, _, _, _, _, _, _, _, _, _, _, _, _, _, _, _, _, _, _, _, _, _, _, _, _]) rfl ?_
    refine OW_loadR hS1 (k := 0) rfl rfl rfl rfl rfl (by first | exact part_whole rfl rfl rfl | rfl) ?_
    first
    | refine OW_bin rfl rfl rfl rfl (add_w64 (by first | omega | assumption | (simp only [ByteArray.size_append, ByteArray.size_extract, List.length_map, List.length_append, List.length_cons, List.length_nil, List.length_drop, List.length_take]; omega))) ?_
    | refine OW_bin rfl rfl rfl rfl rfl ?_
    first
    | refine OW_nc rfl rfl ?_
    | refine OW_nce rfl rfl ?_
    refine OW_env (e' := [_, _, _, _, _, _, _, _, _, _, _, _, _, _, _, _, _, _, _, _, _, _, _, _, _, _, _, _, _, _, _, _, _, _]) rfl ?_
    refine OW_fa rfl rfl rfl ?_
    refine OW_storeR hS1 (k := 0) rfl (le_lit (ν := ν) (a := [14, 0, 1, 1]) (b := [7, 0, 1, 1, 1]) (by decide)) rfl rfl rfl rfl ⟨rfl, rfl, Nat.le_of_ble_eq_true rfl⟩ (u2 := .agg [_, _]) rfl fun H2 hS2 => ?_
    replace hS2 : Own _ _ _ (_ :: _ :: L.eraseIdx k) := hS2
    refine OW_nilE (e' := [_, _, _, _, _, _, _, _, _, _, _, _, _, _, _, _, _, _, _, _, _, _, _, _, _, _, _, _, _, _, _, _, _, _]) rfl ?_
    refine XW_sr ?_
    refine OW_as rfl rfl ?_
    refine OW_nilE (e' := [_, _, _, _, _, _, _, _, _, _, _, _, _, _, _, _, _, _, _, _, _, _, _, _, _, _, _, _, _, _, _, _, _, _]) rfl ?_
    refine XW_ret ?_
    -- outcome 2
    refine ret_ret (res1 rfl (rv_tmp rfl)) ?_
    exact hq2 (by omega) _ (Own.unpick (Own.mk_que (Own.mono hS2 (le_bef (bef_app (a := [8, 0, 1, 1, 1]) hp)))) hL)
def zeroD : AVal := .agg [.int .u64 0, .str ⟨#[]⟩]
/-- What is popped by a time, and what stays. -/
def popN (h : List It) (now : Int) : (AVal × Bool) × List It := match h with
  | [] => ((zeroD, false), [])
  | x :: r => if now < x.at' then ((zeroD, false), x :: r) else ((dueV x, true), popF (x :: r))
theorem heappop_q (h0 : 0 < h.length) (hS : Own β ps H L) (hL : L[k]? = some (que q h n)) (hle : le ps ν) (hβ : under β ν = true) (hp : before ν pos') (hn : h.length ≤ 4294960000)
    (hq : ∀ H1 v, Own β pos' H1 (L.set k (que q (popF h) n)) → Q v H1) : CW cfg ν 19 [.ifc 51 (.ptr q 0 0)] H Q := by
  obtain ⟨O, hS⟩ := (hS.pick hL).un_que
  exact heappop_c h0 hS hle hβ hp hn fun H1 O' v h1 => hq H1 v (Own.unpick (Own.mk_que h1) hL)
theorem pop_c {now : Int} (hS : Own β ps H L) (hL : L[k]? = some (que q h n)) (hle : le ps ν) (hβ : under β ν = true) (hp : before ν pos') (hl : h.length ≤ 4294960000)
    (hq : ∀ H1, Own β pos' H1 (L.set k (que q (popN h now).2 n)) → Q (.tup [(popN h now).1.1, .bool (popN h now).1.2]) H1) : CW cfg ν 10 [.ptr q 0 0, .int .u64 now] H Q := by
  replace hS := hS.pick hL
  cases h with
  | nil =>
    refine CW_keep g10 F10 rfl ?_
    replace hS := Own.mono hS hle
    refine XW_sr ?_
    refine OW_allocR hS (le_app (p := ν) (b := [0, 0])) (under_app [0, 0] hβ) rfl rfl rfl rfl fun H1 hS1 => ?_
    replace hS1 : Own _ _ _ (_ :: _ :: L.eraseIdx k) := hS1
    refine OW_as rfl rfl ?_
    refine OW_nilE (e' := [_, _, _, _, _, _, _, _, _, _, _, _, _, _, _, _, _, _, _, _, _, _, _, _, _, _, _, _]) rfl ?_
    refine XW_sr ?_
    refine OW_mv rfl rfl ?_
    refine OW_fn rfl rfl (qnext_c hS1 (k := 1) rfl (le_lit (ν := ν) (a := [1, 0]) (b := [1, 0, 1]) (by decide)) (under_app [1, 0, 1] hβ) (before_lit (ν := ν) (a := [1, 0, 1]) (b := [2, 0, 1]) (by decide)) fun H2 hS2 => ?_) 
    replace hS2 : Own _ _ _ (_ :: _ :: L.eraseIdx k) := hS2
    refine OW_mv rfl rfl ?_
    refine OW_env (e' := [_, _, _, _, _, _, _, _, _, _, _, _, _, _, _, _, _, _, _, _, _, _, _, _, _, _, _, _]) rfl ?_
    refine OW_ex rfl rfl rfl ?_
    refine OW_ex rfl rfl rfl ?_
    refine OW_allocR hS2 (le_lit (ν := ν) (a := [2, 0, 1]) (b := [5, 0, 1]) (by decide)) (under_app [5, 0, 1] hβ) rfl rfl rfl rfl fun H3 hS3 => ?_
    replace hS3 : Own _ _ _ (_ :: _ :: _ :: L.eraseIdx k) := hS3
    refine OW_env (e' := [_, _, _, _, _, _, _, _, _, _, _, _, _, _, _, _, _, _, _, _, _, _, _, _, _, _, _, _]) rfl ?_
    first
    | refine OW_storeR hS3 (k := 0) rfl le_refl rfl rfl rfl rfl ⟨rfl, rfl, Nat.le_of_ble_eq_true rfl⟩ (set_whole rfl rfl) fun H4 hS4 => ?_
    | refine OW_storeR hS3 (k := 0) rfl le_refl rfl rfl rfl rfl ⟨rfl, rfl, Nat.le_of_ble_eq_true rfl⟩ (u2 := .agg [_, _]) rfl fun H4 hS4 => ?_
    replace hS4 : Own _ _ _ (_ :: _ :: _ :: L.eraseIdx k) := hS4
    refine OW_as rfl rfl ?_
    refine OW_nilE (e' := [_, _, _, _, _, _, _, _, _, _, _, _, _, _, _, _, _, _, _, _, _, _, _, _, _, _, _, _]) rfl ?_
    refine XW_seq ?_
    refine XW_sr ?_
    refine OW_mv rfl rfl ?_
    refine OW_un rfl rfl rfl ?_
    refine OW_mv rfl rfl ?_
    refine OW_env (e' := [_, _, _, _, _, _, _, _, _, _, _, _, _, _, _, _, _, _, _, _, _, _, _, _, _, _, _, _]) rfl ?_
    refine OW_no rfl ?_
    refine OW_no rfl ?_
    refine OW_no rfl ?_
    refine OW_env (e' := [_, _, _, _, _, _, _, _, _, _, _, _, _, _, _, _, _, _, _, _, _, _, _, _, _, _, _, _]) rfl ?_
    refine OW_no rfl ?_
    refine OW_pick rfl rfl rfl ?_
    refine OW_nilE (e' := [_, _, _, _, _, _, _, _, _, _, _, _, _, _, _, _, _, _, _, _, _, _, _, _, _, _, _, _]) rfl ?_
    refine XW_yes rfl rfl ?_
    refine XW_sr ?_
    refine OW_bd rfl rfl (v := .agg [_, _]) rfl ?_
    first
    | refine OW_storeR hS4 (k := 1) rfl (le_lit (ν := ν) (a := [7, 0, 1]) (b := [1, 0, 1, 0, 1, 1]) (by decide)) rfl rfl rfl rfl ⟨rfl, rfl, Nat.le_of_ble_eq_true rfl⟩ (set_whole rfl rfl) fun H5 hS5 => ?_
    | refine OW_storeR hS4 (k := 1) rfl (le_lit (ν := ν) (a := [7, 0, 1]) (b := [1, 0, 1, 0, 1, 1]) (by decide)) rfl rfl rfl rfl ⟨rfl, rfl, Nat.le_of_ble_eq_true rfl⟩ (u2 := .agg [_, _]) rfl fun H5 hS5 => ?_
    replace hS5 : Own _ _ _ (_ :: _ :: _ :: L.eraseIdx k) := hS5
    refine OW_as rfl rfl ?_
    refine OW_nilE (e' := [_, _, _, _, _, _, _, _, _, _, _, _, _, _, _, _, _, _, _, _, _, _, _, _, _, _, _, _]) rfl ?_
    refine XW_ret ?_
    refine then_ret ?_
    -- outcome 1
    refine ret_ret (res2 rfl (rv_cellR hS5 (k := 1) rfl rfl rfl rfl (by first | exact part_whole rfl rfl rfl | rfl)) (rv_tmp rfl)) ?_
    exact hq _ (Own.unpick (Own.drop0 (Own.drop (Own.mono hS5 (le_bef (bef_app (a := [2, 0, 1, 0, 1, 1]) hp))) (k := 1) rfl)) hL)
  | cons x r =>
    refine CW_keep g10 F10 rfl ?_
    replace hS := Own.mono hS hle
    refine XW_sr ?_
    refine OW_allocR hS (le_app (p := ν) (b := [0, 0])) (under_app [0, 0] hβ) rfl rfl rfl rfl fun H1 hS1 => ?_
    replace hS1 : Own _ _ _ (_ :: _ :: L.eraseIdx k) := hS1
    refine OW_as rfl rfl ?_
    refine OW_nilE (e' := [_, _, _, _, _, _, _, _, _, _, _, _, _, _, _, _, _, _, _, _, _, _, _, _, _, _, _, _]) rfl ?_
    refine XW_sr ?_
    refine OW_mv rfl rfl ?_
    refine OW_fn rfl rfl (qnext_c hS1 (k := 1) rfl (le_lit (ν := ν) (a := [1, 0]) (b := [1, 0, 1]) (by decide)) (under_app [1, 0, 1] hβ) (before_lit (ν := ν) (a := [1, 0, 1]) (b := [2, 0, 1]) (by decide)) fun H2 hS2 => ?_) 
    replace hS2 : Own _ _ _ (_ :: _ :: L.eraseIdx k) := hS2
    refine OW_mv rfl rfl ?_
    refine OW_env (e' := [_, _, _, _, _, _, _, _, _, _, _, _, _, _, _, _, _, _, _, _, _, _, _, _, _, _, _, _]) rfl ?_
    refine OW_ex rfl rfl rfl ?_
    refine OW_ex rfl rfl rfl ?_
    refine OW_allocR hS2 (le_lit (ν := ν) (a := [2, 0, 1]) (b := [5, 0, 1]) (by decide)) (under_app [5, 0, 1] hβ) rfl rfl rfl rfl fun H3 hS3 => ?_
    replace hS3 : Own _ _ _ (_ :: _ :: _ :: L.eraseIdx k) := hS3
    refine OW_env (e' := [_, _, _, _, _, _, _, _, _, _, _, _, _, _, _, _, _, _, _, _, _, _, _, _, _, _, _, _]) rfl ?_
    first
    | refine OW_storeR hS3 (k := 0) rfl le_refl rfl rfl rfl rfl ⟨rfl, rfl, Nat.le_of_ble_eq_true rfl⟩ (set_whole rfl rfl) fun H4 hS4 => ?_
    | refine OW_storeR hS3 (k := 0) rfl le_refl rfl rfl rfl rfl ⟨rfl, rfl, Nat.le_of_ble_eq_true rfl⟩ (u2 := .agg [_, _]) rfl fun H4 hS4 => ?_
    replace hS4 : Own _ _ _ (_ :: _ :: _ :: L.eraseIdx k) := hS4
    refine OW_as rfl rfl ?_
    refine OW_nilE (e' := [_, _, _, _, _, _, _, _, _, _, _, _, _, _, _, _, _, _, _, _, _, _, _, _, _, _, _, _]) rfl ?_
    refine XW_seq ?_
    refine XW_sr ?_
    refine OW_mv rfl rfl ?_
    refine OW_un rfl rfl rfl ?_
    refine OW_mv rfl rfl ?_
    refine OW_env (e' := [_, _, _, _, _, _, _, _, _, _, _, _, _, _, _, _, _, _, _, _, _, _, _, _, _, _, _, _]) rfl ?_
    refine OW_fa rfl rfl rfl ?_
    refine OW_loadR hS4 (k := 0) rfl rfl rfl rfl rfl (by first | exact part_whole rfl rfl rfl | rfl) ?_
    refine OW_mv rfl rfl ?_
    refine OW_env (e' := [_, _, _, _, _, _, _, _, _, _, _, _, _, _, _, _, _, _, _, _, _, _, _, _, _, _, _, _]) rfl ?_
    refine OW_bin rfl rfl rfl rfl rfl ?_
    refine OW_pick rfl rfl rfl ?_
    refine OW_nilE (e' := [_, _, _, _, _, _, _, _, _, _, _, _, _, _, _, _, _, _, _, _, _, _, _, _, _, _, _, _]) rfl ?_
    refine XW_if rfl (fun h2 => ?_) (fun h2 => ?_)
    · first
      | (exfalso; (try simp only [decide_eq_true_eq, decide_eq_false_iff_not, Bool.not_eq_true', Bool.not_eq_false', Bool.and_eq_true, Bool.or_eq_true, Bool.not_eq_true, Bool.not_eq_false, Decidable.not_not, bne_iff_ne, beq_iff_eq, List.length_append, List.length_cons, List.length_nil, List.length_drop, List.length_take] at h2) <;> (first | (exact absurd rfl h2) | (exact h2 trivial) | omega | (simp at h2; done)); done)
      | skip
        try simp only [decide_eq_true_eq, decide_eq_false_iff_not, Bool.not_eq_true', Bool.not_eq_false', Bool.and_eq_true, Bool.or_eq_true, Bool.not_eq_true, Bool.not_eq_false, Decidable.not_not, bne_iff_ne, beq_iff_eq, List.length_append, List.length_cons, List.length_nil, List.length_drop, List.length_take] at h2
        refine XW_sr ?_
        refine OW_bd rfl rfl (v := .agg [_, _]) rfl ?_
        first
        | refine OW_storeR hS4 (k := 1) rfl (le_lit (ν := ν) (a := [7, 0, 1]) (b := [1, 0, 1, 0, 1, 1]) (by decide)) rfl rfl rfl rfl ⟨rfl, rfl, Nat.le_of_ble_eq_true rfl⟩ (set_whole rfl rfl) fun H5 hS5 => ?_
        | refine OW_storeR hS4 (k := 1) rfl (le_lit (ν := ν) (a := [7, 0, 1]) (b := [1, 0, 1, 0, 1, 1]) (by decide)) rfl rfl rfl rfl ⟨rfl, rfl, Nat.le_of_ble_eq_true rfl⟩ (u2 := .agg [_, _]) rfl fun H5 hS5 => ?_
        replace hS5 : Own _ _ _ (_ :: _ :: _ :: L.eraseIdx k) := hS5
        refine OW_as rfl rfl ?_
        refine OW_nilE (e' := [_, _, _, _, _, _, _, _, _, _, _, _, _, _, _, _, _, _, _, _, _, _, _, _, _, _, _, _]) rfl ?_
        refine XW_ret ?_
        refine then_ret ?_
        -- outcome 1
        refine ret_ret (res2 rfl (rv_cellR hS5 (k := 1) rfl rfl rfl rfl (by first | exact part_whole rfl rfl rfl | rfl)) (rv_tmp rfl)) ?_
        first | (rw [show popN (x :: r) now = ((zeroD, false), x :: r) from if_pos (by omega)] at hq; exact hq _ (Own.unpick (Own.drop0 (Own.drop (Own.mono hS5 (le_bef (bef_app (a := [2, 0, 1, 0, 1, 1]) hp))) (k := 1) rfl)) hL)) | (rw [show popN (x :: r) now = ((dueV x, true), popF (x :: r)) from if_neg (by omega)] at hq; exact hq _ (Own.unpick (Own.drop0 (Own.drop (Own.mono hS5 (le_bef (bef_app (a := [2, 0, 1, 0, 1, 1]) hp))) (k := 1) rfl)) hL))
    · first
      | (exfalso; (try simp only [decide_eq_true_eq, decide_eq_false_iff_not, Bool.not_eq_true', Bool.not_eq_false', Bool.and_eq_true, Bool.or_eq_true, Bool.not_eq_true, Bool.not_eq_false, Decidable.not_not, bne_iff_ne, beq_iff_eq, List.length_append, List.length_cons, List.length_nil, List.length_drop, List.length_take] at h2) <;> (first | (exact absurd rfl h2) | (exact h2 trivial) | omega | (simp at h2; done)); done)
      | skip
        try simp only [decide_eq_true_eq, decide_eq_false_iff_not, Bool.not_eq_true', Bool.not_eq_false', Bool.and_eq_true, Bool.or_eq_true, Bool.not_eq_true, Bool.not_eq_false, Decidable.not_not, bne_iff_ne, beq_iff_eq, List.length_append, List.length_cons, List.length_nil, List.length_drop, List.length_take] at h2
        refine XW_skip ?_
        refine then_norm ?_
        refine XW_sr ?_
        refine OW_mv rfl rfl ?_
        first
        | refine OW_nc rfl rfl ?_
        | refine OW_nce rfl rfl ?_
        refine OW_fa rfl rfl rfl ?_
        refine OW_env (e' := [_, _, _, _, _, _, _, _, _, _, _, _, _, _, _, _, _, _, _, _, _, _, _, _, _, _, _, _]) rfl ?_
        refine OW_mi rfl rfl rfl rfl ?_
        refine OW_fn rfl rfl (heappop_q (by simp) hS4 (k := 2) rfl (le_lit (ν := ν) (a := [7, 0, 1]) (b := [4, 0, 1, 1, 1]) (by decide)) (under_app [4, 0, 1, 1, 1] hβ) (before_lit (ν := ν) (a := [4, 0, 1, 1, 1]) (b := [5, 0, 1, 1, 1]) (by decide)) (by omega) fun H6 v1 hS6 => ?_) 
        replace hS6 : Own _ _ _ (_ :: _ :: _ :: L.eraseIdx k) := hS6
        refine OW_nilE (e' := [_, _, _, _, _, _, _, _, _, _, _, _, _, _, _, _, _, _, _, _, _, _, _, _, _, _, _, _]) rfl ?_
        refine XW_sr ?_
        refine OW_loadR hS6 (k := 0) rfl rfl rfl rfl rfl (by first | exact part_whole rfl rfl rfl | rfl) ?_
        first
        | refine OW_storeR hS6 (k := 1) rfl (le_lit (ν := ν) (a := [5, 0, 1, 1, 1]) (b := [1, 0, 1, 1, 1, 1]) (by decide)) rfl rfl rfl rfl ⟨rfl, rfl, Nat.le_of_ble_eq_true rfl⟩ (set_whole rfl rfl) fun H7 hS7 => ?_
        | refine OW_storeR hS6 (k := 1) rfl (le_lit (ν := ν) (a := [5, 0, 1, 1, 1]) (b := [1, 0, 1, 1, 1, 1]) (by decide)) rfl rfl rfl rfl ⟨rfl, rfl, Nat.le_of_ble_eq_true rfl⟩ (u2 := .agg [_, _]) rfl fun H7 hS7 => ?_
        replace hS7 : Own _ _ _ (_ :: _ :: _ :: L.eraseIdx k) := hS7
        refine OW_as rfl rfl ?_
        refine OW_nilE (e' := [_, _, _, _, _, _, _, _, _, _, _, _, _, _, _, _, _, _, _, _, _, _, _, _, _, _, _, _]) rfl ?_
        refine XW_ret ?_
        -- outcome 2
        refine ret_ret (res2 rfl (rv_cellR hS7 (k := 1) rfl rfl rfl rfl (by first | exact part_whole rfl rfl rfl | rfl)) (rv_tmp rfl)) ?_
        first | (rw [show popN (x :: r) now = ((zeroD, false), x :: r) from if_pos (by omega)] at hq; exact hq _ (Own.unpick (Own.drop0 (Own.drop (Own.mono hS7 (le_bef (bef_app (a := [2, 0, 1, 1, 1, 1]) hp))) (k := 1) rfl)) hL)) | (rw [show popN (x :: r) now = ((dueV x, true), popF (x :: r)) from if_neg (by omega)] at hq; exact hq _ (Own.unpick (Own.drop0 (Own.drop (Own.mono hS7 (le_bef (bef_app (a := [2, 0, 1, 1, 1, 1]) hp))) (k := 1) rfl)) hL))
end Go.Proofs.Ytamdokgbenbndaa.X
