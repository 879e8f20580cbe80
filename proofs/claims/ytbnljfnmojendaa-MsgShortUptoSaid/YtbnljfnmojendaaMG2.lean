/- Layer 02: Decode. -/
import Derived.Test.YtbnljfnmojendaaMG1
import Derived.Test.YtbnljfnmojendaaMp
set_option linter.unusedVariables false
set_option linter.unusedSimpArgs false
set_option maxRecDepth 100000
namespace Go.Proofs.Ytbnljfnmojendaa.X
open Go Go.RowKit WM
variable {ν β : Nm} {H : Heap} {Q : AVal → Heap → Prop}
def zM : Mg := ⟨0, [], []⟩
def tailM (k : Int) (ns : List Int) (x : List ByteArray × ByteArray × Bool) : Mg × Int := if x.2.2 = true ∧ x.2.1 = ⟨#[]⟩ ∧ leastK k ≤ x.1.length then (⟨k, ns, x.1⟩, 0) else (zM, 21)
theorem tailM_ok {k : Int} {ns : List Int} {x : List ByteArray × ByteArray × Bool} (h1 : x.2.2 = true) (h2 : x.2.1 = ⟨#[]⟩) (h3 : leastK k ≤ x.1.length) : tailM k ns x = (⟨k, ns, x.1⟩, 0) := if_pos ⟨h1, h2, h3⟩
theorem tailM_no {k : Int} {ns : List Int} {x : List ByteArray × ByteArray × Bool} (h : x.2.2 = true → x.2.1 = ⟨#[]⟩ → leastK k ≤ x.1.length → False) : tailM k ns x = (zM, 21) := if_neg (fun ⟨a, b, c⟩ => h a b c)
def bodyM (k : Int) (r : List UInt8) : Mg × Int := match cI.manyT (numK k) r with
  | none => (zM, 21)
  | some (ns, q) => tailM k ns (resL (mostK k : Int) (ba q))
def decM (s : ByteArray) : Mg × Int := if 65536 < s.size then (zM, 22) else match takeU 64 s.data.toList with
  | none => (zM, 21)
  | some (k, r) => if 7 < k then (zM, 20) else bodyM (k : Int) r
theorem cI_tkT {s : ByteArray} (h : (resU s).2.2 = true) : cI.tk s.data.toList = some ((resU s).1, (resU s).2.1.data.toList) := by
  rcases cI_res s with ⟨h1, _⟩ | ⟨_, h2⟩
  · rw [h1] at h; cases h
  · exact h2
theorem cI_tkF {s : ByteArray} (h : (resU s).2.2 = false) : cI.tk s.data.toList = none := by
  rcases cI_res s with ⟨_, _, h2⟩ | ⟨h1, _⟩
  · exact h2
  · rw [h1] at h; cases h
theorem dec_c {s : ByteArray} (hs : s.size ≤ 4611686018427387904) (hq : Q (.tup [(decM s).1.enc, .int .i64 (decM s).2]) H) : CW cfg ν 13 [.str s] H Q := by
  rcases resU_cases s with ⟨h1, h2⟩ | ⟨n, r, h1, h2, hn, hr⟩
  · rw [decM, h1] at hq
    simp only at hq
    refine CW_pure g13 F13 rfl ?_
    have hS0 : Own ν ν (fun _ => none) [] := Own.nil
    refine XW_sr ?_
    refine OW_allocR hS0 (le_app (p := ν) (b := [0, 0])) (under_app [0, 0] under_me) rfl rfl rfl rfl fun H1 hS1 => ?_
    replace hS1 : Own _ _ _ ([_]) := hS1
    refine OW_as rfl rfl ?_
    refine OW_nilE (e' := [_, _, _, _, _, _, _, _, _, _, _, _, _, _, _, _, _, _, _, _, _, _, _, _, _, _, _, _, _, _, _, _, _, _, _, _, _, _, _, _, _, _, _, _, _, _, _, _, _, _, _, _, _, _, _, _, _, _, _, _, _, _, _, _, _, _, _, _, _, _, _, _, _, _, _, _, _, _, _, _, _]) rfl ?_
    refine XW_seq ?_
    refine XW_sr ?_
    refine OW_mv rfl rfl ?_
    refine OW_lenS rfl rfl rfl ?_
    refine OW_bin rfl rfl rfl rfl rfl ?_
    refine OW_nilE (e' := [_, _, _, _, _, _, _, _, _, _, _, _, _, _, _, _, _, _, _, _, _, _, _, _, _, _, _, _, _, _, _, _, _, _, _, _, _, _, _, _, _, _, _, _, _, _, _, _, _, _, _, _, _, _, _, _, _, _, _, _, _, _, _, _, _, _, _, _, _, _, _, _, _, _, _, _, _, _, _, _, _]) rfl ?_
    refine XW_if rfl (fun h1 => ?_) (fun h1 => ?_)
    · try simp only [decide_eq_true_eq, decide_eq_false_iff_not, Bool.not_eq_true', Bool.not_eq_false', Bool.and_eq_true, Bool.or_eq_true, Bool.not_eq_true, Bool.not_eq_false, Decidable.not_not, bne_iff_ne, beq_iff_eq, List.length_append, List.length_cons, List.length_nil, List.length_drop, List.length_take] at h1
      refine XW_sr ?_
      refine OW_bd rfl rfl (v := .agg [_, _, _]) rfl ?_
      first
      | refine OW_storeR hS1 (k := 0) rfl (le_lit (ν := ν) (a := [1, 0]) (b := [1, 0, 1, 0, 1]) (by decide)) rfl rfl rfl rfl ⟨rfl, rfl, Nat.le_of_ble_eq_true rfl⟩ (set_whole rfl rfl) fun H2 hS2 => ?_
      | refine OW_storeR hS1 (k := 0) rfl (le_lit (ν := ν) (a := [1, 0]) (b := [1, 0, 1, 0, 1]) (by decide)) rfl rfl rfl rfl ⟨rfl, rfl, Nat.le_of_ble_eq_true rfl⟩ (u2 := .agg [_, _, _]) rfl fun H2 hS2 => ?_
      replace hS2 : Own _ _ _ ([_]) := hS2
      refine OW_as rfl rfl ?_
      refine OW_nilE (e' := [_, _, _, _, _, _, _, _, _, _, _, _, _, _, _, _, _, _, _, _, _, _, _, _, _, _, _, _, _, _, _, _, _, _, _, _, _, _, _, _, _, _, _, _, _, _, _, _, _, _, _, _, _, _, _, _, _, _, _, _, _, _, _, _, _, _, _, _, _, _, _, _, _, _, _, _, _, _, _, _, _]) rfl ?_
      refine XW_ret ?_
      refine then_ret ?_
      -- outcome 1
      refine ret_ret (res2 rfl (rv_cellR hS2 (k := 0) rfl rfl rfl rfl (by first | exact part_whole rfl rfl rfl | rfl)) (rv_tmp rfl)) (frz2 (Q := Q) (by first | exact freeze_plain rfl | exact Ls.freeze (by assumption) | exact Ls.freeze Ls.of | exact Ls.freeze Ls.emp | exact Ls.freeze Ls.nls | exact frA (frAc (by first | exact freeze_plain rfl | exact Ls.freeze Ls.of | exact Ls.freeze Ls.emp | exact Ls.freeze Ls.nls | exact Ls.freeze (by assumption)) (frAc (by first | exact freeze_plain rfl | exact Ls.freeze Ls.of | exact Ls.freeze Ls.emp | exact Ls.freeze Ls.nls | exact Ls.freeze (by assumption)) (frAc (by first | exact freeze_plain rfl | exact Ls.freeze Ls.of | exact Ls.freeze Ls.emp | exact Ls.freeze Ls.nls | exact Ls.freeze (by assumption)) frAn)))) (by first | exact freeze_plain rfl | exact Ls.freeze (by assumption) | exact Ls.freeze Ls.of | exact Ls.freeze Ls.emp | exact Ls.freeze Ls.nls) ?_)
      first | (rw [if_pos (by omega)] at hq; exact hq) | (rw [if_neg (by omega)] at hq; exact hq)
    · try simp only [decide_eq_true_eq, decide_eq_false_iff_not, Bool.not_eq_true', Bool.not_eq_false', Bool.and_eq_true, Bool.or_eq_true, Bool.not_eq_true, Bool.not_eq_false, Decidable.not_not, bne_iff_ne, beq_iff_eq, List.length_append, List.length_cons, List.length_nil, List.length_drop, List.length_take] at h1
      refine XW_skip ?_
      refine then_norm ?_
      refine XW_sr ?_
      refine OW_mv rfl rfl ?_
      refine OW_fn rfl rfl (takeU_e hs h2 ?_) 
      refine OW_mv rfl rfl ?_
      refine OW_env (e' := [_, _, _, _, _, _, _, _, _, _, _, _, _, _, _, _, _, _, _, _, _, _, _, _, _, _, _, _, _, _, _, _, _, _, _, _, _, _, _, _, _, _, _, _, _, _, _, _, _, _, _, _, _, _, _, _, _, _, _, _, _, _, _, _, _, _, _, _, _, _, _, _, _, _, _, _, _, _, _, _, _]) rfl ?_
      refine OW_ex rfl rfl rfl ?_
      refine OW_ex rfl rfl rfl ?_
      refine OW_ex rfl rfl rfl ?_
      refine OW_env (e' := [_, _, _, _, _, _, _, _, _, _, _, _, _, _, _, _, _, _, _, _, _, _, _, _, _, _, _, _, _, _, _, _, _, _, _, _, _, _, _, _, _, _, _, _, _, _, _, _, _, _, _, _, _, _, _, _, _, _, _, _, _, _, _, _, _, _, _, _, _, _, _, _, _, _, _, _, _, _, _, _, _]) rfl ?_
      refine OW_as rfl rfl ?_
      refine OW_as rfl rfl ?_
      refine OW_as rfl rfl ?_
      refine OW_nilE (e' := [_, _, _, _, _, _, _, _, _, _, _, _, _, _, _, _, _, _, _, _, _, _, _, _, _, _, _, _, _, _, _, _, _, _, _, _, _, _, _, _, _, _, _, _, _, _, _, _, _, _, _, _, _, _, _, _, _, _, _, _, _, _, _, _, _, _, _, _, _, _, _, _, _, _, _, _, _, _, _, _, _]) rfl ?_
      refine XW_seq ?_
      refine XW_sr ?_
      refine OW_mv rfl rfl ?_
      refine OW_un rfl rfl rfl ?_
      refine OW_nilE (e' := [_, _, _, _, _, _, _, _, _, _, _, _, _, _, _, _, _, _, _, _, _, _, _, _, _, _, _, _, _, _, _, _, _, _, _, _, _, _, _, _, _, _, _, _, _, _, _, _, _, _, _, _, _, _, _, _, _, _, _, _, _, _, _, _, _, _, _, _, _, _, _, _, _, _, _, _, _, _, _, _, _]) rfl ?_
      refine XW_yes rfl rfl ?_
      refine XW_sr ?_
      refine OW_bd rfl rfl (v := .agg [_, _, _]) rfl ?_
      first
      | refine OW_storeR hS1 (k := 0) rfl (le_lit (ν := ν) (a := [1, 0]) (b := [1, 0, 1, 0, 1, 1, 1]) (by decide)) rfl rfl rfl rfl ⟨rfl, rfl, Nat.le_of_ble_eq_true rfl⟩ (set_whole rfl rfl) fun H3 hS3 => ?_
      | refine OW_storeR hS1 (k := 0) rfl (le_lit (ν := ν) (a := [1, 0]) (b := [1, 0, 1, 0, 1, 1, 1]) (by decide)) rfl rfl rfl rfl ⟨rfl, rfl, Nat.le_of_ble_eq_true rfl⟩ (u2 := .agg [_, _, _]) rfl fun H3 hS3 => ?_
      replace hS3 : Own _ _ _ ([_]) := hS3
      refine OW_as rfl rfl ?_
      refine OW_nilE (e' := [_, _, _, _, _, _, _, _, _, _, _, _, _, _, _, _, _, _, _, _, _, _, _, _, _, _, _, _, _, _, _, _, _, _, _, _, _, _, _, _, _, _, _, _, _, _, _, _, _, _, _, _, _, _, _, _, _, _, _, _, _, _, _, _, _, _, _, _, _, _, _, _, _, _, _, _, _, _, _, _, _]) rfl ?_
      refine XW_ret ?_
      refine then_ret ?_
      -- outcome 2
      refine ret_ret (res2 rfl (rv_cellR hS3 (k := 0) rfl rfl rfl rfl (by first | exact part_whole rfl rfl rfl | rfl)) (rv_tmp rfl)) (frz2 (Q := Q) (by first | exact freeze_plain rfl | exact Ls.freeze (by assumption) | exact Ls.freeze Ls.of | exact Ls.freeze Ls.emp | exact Ls.freeze Ls.nls | exact frA (frAc (by first | exact freeze_plain rfl | exact Ls.freeze Ls.of | exact Ls.freeze Ls.emp | exact Ls.freeze Ls.nls | exact Ls.freeze (by assumption)) (frAc (by first | exact freeze_plain rfl | exact Ls.freeze Ls.of | exact Ls.freeze Ls.emp | exact Ls.freeze Ls.nls | exact Ls.freeze (by assumption)) (frAc (by first | exact freeze_plain rfl | exact Ls.freeze Ls.of | exact Ls.freeze Ls.emp | exact Ls.freeze Ls.nls | exact Ls.freeze (by assumption)) frAn)))) (by first | exact freeze_plain rfl | exact Ls.freeze (by assumption) | exact Ls.freeze Ls.of | exact Ls.freeze Ls.emp | exact Ls.freeze Ls.nls) ?_)
      first | (rw [if_pos (by omega)] at hq; exact hq) | (rw [if_neg (by omega)] at hq; exact hq)
  · rw [decM, h1] at hq
    simp only at hq
    have hbr : (ba r).size = r.length := ba_size r
    have hnk := numK_le n
    have hmk := mostK_le n
    have hlk := leastK_le n
    refine CW_pure g13 F13 rfl ?_
    have hS0 : Own ν ν (fun _ => none) [] := Own.nil
    refine XW_sr ?_
    refine OW_allocR hS0 (le_app (p := ν) (b := [0, 0])) (under_app [0, 0] under_me) rfl rfl rfl rfl fun H1 hS1 => ?_
    replace hS1 : Own _ _ _ ([_]) := hS1
    refine OW_as rfl rfl ?_
    refine OW_nilE (e' := [_, _, _, _, _, _, _, _, _, _, _, _, _, _, _, _, _, _, _, _, _, _, _, _, _, _, _, _, _, _, _, _, _, _, _, _, _, _, _, _, _, _, _, _, _, _, _, _, _, _, _, _, _, _, _, _, _, _, _, _, _, _, _, _, _, _, _, _, _, _, _, _, _, _, _, _, _, _, _, _, _]) rfl ?_
    refine XW_seq ?_
    refine XW_sr ?_
    refine OW_mv rfl rfl ?_
    refine OW_lenS rfl rfl rfl ?_
    refine OW_bin rfl rfl rfl rfl rfl ?_
    refine OW_nilE (e' := [_, _, _, _, _, _, _, _, _, _, _, _, _, _, _, _, _, _, _, _, _, _, _, _, _, _, _, _, _, _, _, _, _, _, _, _, _, _, _, _, _, _, _, _, _, _, _, _, _, _, _, _, _, _, _, _, _, _, _, _, _, _, _, _, _, _, _, _, _, _, _, _, _, _, _, _, _, _, _, _, _]) rfl ?_
    refine XW_if rfl (fun h1 => ?_) (fun h1 => ?_)
    · try simp only [decide_eq_true_eq, decide_eq_false_iff_not, Bool.not_eq_true', Bool.not_eq_false', Bool.and_eq_true, Bool.or_eq_true, Bool.not_eq_true, Bool.not_eq_false, Decidable.not_not, bne_iff_ne, beq_iff_eq, List.length_append, List.length_cons, List.length_nil, List.length_drop, List.length_take] at h1
      refine XW_sr ?_
      refine OW_bd rfl rfl (v := .agg [_, _, _]) rfl ?_
      first
      | refine OW_storeR hS1 (k := 0) rfl (le_lit (ν := ν) (a := [1, 0]) (b := [1, 0, 1, 0, 1]) (by decide)) rfl rfl rfl rfl ⟨rfl, rfl, Nat.le_of_ble_eq_true rfl⟩ (set_whole rfl rfl) fun H2 hS2 => ?_
      | refine OW_storeR hS1 (k := 0) rfl (le_lit (ν := ν) (a := [1, 0]) (b := [1, 0, 1, 0, 1]) (by decide)) rfl rfl rfl rfl ⟨rfl, rfl, Nat.le_of_ble_eq_true rfl⟩ (u2 := .agg [_, _, _]) rfl fun H2 hS2 => ?_
      replace hS2 : Own _ _ _ ([_]) := hS2
      refine OW_as rfl rfl ?_
      refine OW_nilE (e' := [_, _, _, _, _, _, _, _, _, _, _, _, _, _, _, _, _, _, _, _, _, _, _, _, _, _, _, _, _, _, _, _, _, _, _, _, _, _, _, _, _, _, _, _, _, _, _, _, _, _, _, _, _, _, _, _, _, _, _, _, _, _, _, _, _, _, _, _, _, _, _, _, _, _, _, _, _, _, _, _, _]) rfl ?_
      refine XW_ret ?_
      refine then_ret ?_
      -- outcome 1
      refine ret_ret (res2 rfl (rv_cellR hS2 (k := 0) rfl rfl rfl rfl (by first | exact part_whole rfl rfl rfl | rfl)) (rv_tmp rfl)) (frz2 (Q := Q) (by first | exact freeze_plain rfl | exact Ls.freeze (by assumption) | exact Ls.freeze Ls.of | exact Ls.freeze Ls.emp | exact Ls.freeze Ls.nls | exact frA (frAc (by first | exact freeze_plain rfl | exact Ls.freeze Ls.of | exact Ls.freeze Ls.emp | exact Ls.freeze Ls.nls | exact Ls.freeze (by assumption)) (frAc (by first | exact freeze_plain rfl | exact Ls.freeze Ls.of | exact Ls.freeze Ls.emp | exact Ls.freeze Ls.nls | exact Ls.freeze (by assumption)) (frAc (by first | exact freeze_plain rfl | exact Ls.freeze Ls.of | exact Ls.freeze Ls.emp | exact Ls.freeze Ls.nls | exact Ls.freeze (by assumption)) frAn)))) (by first | exact freeze_plain rfl | exact Ls.freeze (by assumption) | exact Ls.freeze Ls.of | exact Ls.freeze Ls.emp | exact Ls.freeze Ls.nls) ?_)
      first | (rw [if_pos (by omega)] at hq; exact hq) | (rw [if_neg (by omega), if_pos (by omega)] at hq; exact hq) | (rw [if_neg (by omega), if_neg (by omega), bodyM, Cod.far_none hF (by omega) (cI_tkF (by simp_all))] at hq; exact hq) | (rw [if_neg (by omega), if_neg (by omega), bodyM, Cod.far_end hF (by omega)] at hq; simp only at hq; rw [ba_of] at hq; first | (rw [tailM_ok (by assumption) (by assumption) (by omega)] at hq; exact hq) | (rw [tailM_no (by intro a1 a2 a3; first | omega | simp_all)] at hq; exact hq))
    · try simp only [decide_eq_true_eq, decide_eq_false_iff_not, Bool.not_eq_true', Bool.not_eq_false', Bool.and_eq_true, Bool.or_eq_true, Bool.not_eq_true, Bool.not_eq_false, Decidable.not_not, bne_iff_ne, beq_iff_eq, List.length_append, List.length_cons, List.length_nil, List.length_drop, List.length_take] at h1
      refine XW_skip ?_
      refine then_norm ?_
      refine XW_sr ?_
      refine OW_mv rfl rfl ?_
      refine OW_fn rfl rfl (takeU_e hs h2 ?_) 
      refine OW_mv rfl rfl ?_
      refine OW_env (e' := [_, _, _, _, _, _, _, _, _, _, _, _, _, _, _, _, _, _, _, _, _, _, _, _, _, _, _, _, _, _, _, _, _, _, _, _, _, _, _, _, _, _, _, _, _, _, _, _, _, _, _, _, _, _, _, _, _, _, _, _, _, _, _, _, _, _, _, _, _, _, _, _, _, _, _, _, _, _, _, _, _]) rfl ?_
      refine OW_ex rfl rfl rfl ?_
      refine OW_ex rfl rfl rfl ?_
      refine OW_ex rfl rfl rfl ?_
      refine OW_env (e' := [_, _, _, _, _, _, _, _, _, _, _, _, _, _, _, _, _, _, _, _, _, _, _, _, _, _, _, _, _, _, _, _, _, _, _, _, _, _, _, _, _, _, _, _, _, _, _, _, _, _, _, _, _, _, _, _, _, _, _, _, _, _, _, _, _, _, _, _, _, _, _, _, _, _, _, _, _, _, _, _, _]) rfl ?_
      refine OW_as rfl rfl ?_
      refine OW_as rfl rfl ?_
      refine OW_as rfl rfl ?_
      refine OW_nilE (e' := [_, _, _, _, _, _, _, _, _, _, _, _, _, _, _, _, _, _, _, _, _, _, _, _, _, _, _, _, _, _, _, _, _, _, _, _, _, _, _, _, _, _, _, _, _, _, _, _, _, _, _, _, _, _, _, _, _, _, _, _, _, _, _, _, _, _, _, _, _, _, _, _, _, _, _, _, _, _, _, _, _]) rfl ?_
      refine XW_seq ?_
      refine XW_sr ?_
      refine OW_mv rfl rfl ?_
      refine OW_un rfl rfl rfl ?_
      refine OW_nilE (e' := [_, _, _, _, _, _, _, _, _, _, _, _, _, _, _, _, _, _, _, _, _, _, _, _, _, _, _, _, _, _, _, _, _, _, _, _, _, _, _, _, _, _, _, _, _, _, _, _, _, _, _, _, _, _, _, _, _, _, _, _, _, _, _, _, _, _, _, _, _, _, _, _, _, _, _, _, _, _, _, _, _]) rfl ?_
      refine XW_no rfl rfl ?_
      refine XW_skip ?_
      refine then_norm ?_
      refine XW_seq ?_
      refine XW_sr ?_
      refine OW_mv rfl rfl ?_
      refine OW_bin rfl rfl rfl rfl rfl ?_
      refine OW_nilE (e' := [_, _, _, _, _, _, _, _, _, _, _, _, _, _, _, _, _, _, _, _, _, _, _, _, _, _, _, _, _, _, _, _, _, _, _, _, _, _, _, _, _, _, _, _, _, _, _, _, _, _, _, _, _, _, _, _, _, _, _, _, _, _, _, _, _, _, _, _, _, _, _, _, _, _, _, _, _, _, _, _, _]) rfl ?_
      refine XW_if rfl (fun h6 => ?_) (fun h6 => ?_)
      · try simp only [decide_eq_true_eq, decide_eq_false_iff_not, Bool.not_eq_true', Bool.not_eq_false', Bool.and_eq_true, Bool.or_eq_true, Bool.not_eq_true, Bool.not_eq_false, Decidable.not_not, bne_iff_ne, beq_iff_eq, List.length_append, List.length_cons, List.length_nil, List.length_drop, List.length_take] at h6
        refine XW_sr ?_
        refine OW_bd rfl rfl (v := .agg [_, _, _]) rfl ?_
        first
        | refine OW_storeR hS1 (k := 0) rfl (le_lit (ν := ν) (a := [1, 0]) (b := [1, 0, 1, 0, 1, 1, 1, 1]) (by decide)) rfl rfl rfl rfl ⟨rfl, rfl, Nat.le_of_ble_eq_true rfl⟩ (set_whole rfl rfl) fun H3 hS3 => ?_
        | refine OW_storeR hS1 (k := 0) rfl (le_lit (ν := ν) (a := [1, 0]) (b := [1, 0, 1, 0, 1, 1, 1, 1]) (by decide)) rfl rfl rfl rfl ⟨rfl, rfl, Nat.le_of_ble_eq_true rfl⟩ (u2 := .agg [_, _, _]) rfl fun H3 hS3 => ?_
        replace hS3 : Own _ _ _ ([_]) := hS3
        refine OW_as rfl rfl ?_
        refine OW_nilE (e' := [_, _, _, _, _, _, _, _, _, _, _, _, _, _, _, _, _, _, _, _, _, _, _, _, _, _, _, _, _, _, _, _, _, _, _, _, _, _, _, _, _, _, _, _, _, _, _, _, _, _, _, _, _, _, _, _, _, _, _, _, _, _, _, _, _, _, _, _, _, _, _, _, _, _, _, _, _, _, _, _, _]) rfl ?_
        refine XW_ret ?_
        refine then_ret ?_
        -- outcome 2
        refine ret_ret (res2 rfl (rv_cellR hS3 (k := 0) rfl rfl rfl rfl (by first | exact part_whole rfl rfl rfl | rfl)) (rv_tmp rfl)) (frz2 (Q := Q) (by first | exact freeze_plain rfl | exact Ls.freeze (by assumption) | exact Ls.freeze Ls.of | exact Ls.freeze Ls.emp | exact Ls.freeze Ls.nls | exact frA (frAc (by first | exact freeze_plain rfl | exact Ls.freeze Ls.of | exact Ls.freeze Ls.emp | exact Ls.freeze Ls.nls | exact Ls.freeze (by assumption)) (frAc (by first | exact freeze_plain rfl | exact Ls.freeze Ls.of | exact Ls.freeze Ls.emp | exact Ls.freeze Ls.nls | exact Ls.freeze (by assumption)) (frAc (by first | exact freeze_plain rfl | exact Ls.freeze Ls.of | exact Ls.freeze Ls.emp | exact Ls.freeze Ls.nls | exact Ls.freeze (by assumption)) frAn)))) (by first | exact freeze_plain rfl | exact Ls.freeze (by assumption) | exact Ls.freeze Ls.of | exact Ls.freeze Ls.emp | exact Ls.freeze Ls.nls) ?_)
        first | (rw [if_pos (by omega)] at hq; exact hq) | (rw [if_neg (by omega), if_pos (by omega)] at hq; exact hq) | (rw [if_neg (by omega), if_neg (by omega), bodyM, Cod.far_none hF (by omega) (cI_tkF (by simp_all))] at hq; exact hq) | (rw [if_neg (by omega), if_neg (by omega), bodyM, Cod.far_end hF (by omega)] at hq; simp only at hq; rw [ba_of] at hq; first | (rw [tailM_ok (by assumption) (by assumption) (by omega)] at hq; exact hq) | (rw [tailM_no (by intro a1 a2 a3; first | omega | simp_all)] at hq; exact hq))
      · try simp only [decide_eq_true_eq, decide_eq_false_iff_not, Bool.not_eq_true', Bool.not_eq_false', Bool.and_eq_true, Bool.or_eq_true, Bool.not_eq_true, Bool.not_eq_false, Decidable.not_not, bne_iff_ne, beq_iff_eq, List.length_append, List.length_cons, List.length_nil, List.length_drop, List.length_take] at h6
        refine XW_skip ?_
        refine then_norm ?_
        refine XW_sr ?_
        refine OW_mv rfl rfl ?_
        first
        | refine OW_conv rfl rfl (conv_in rfl rfl rfl (IntWalk.i64_in _ (by omega))) ?_
        | refine OW_conv rfl rfl rfl ?_
        refine OW_bd rfl rfl (v := .agg [_, _, _]) rfl ?_
        refine OW_env (e' := [_, _, _, _, _, _, _, _, _, _, _, _, _, _, _, _, _, _, _, _, _, _, _, _, _, _, _, _, _, _, _, _, _, _, _, _, _, _, _, _, _, _, _, _, _, _, _, _, _, _, _, _, _, _, _, _, _, _, _, _, _, _, _, _, _, _, _, _, _, _, _, _, _, _, _, _, _, _, _, _, _]) rfl ?_
        refine OW_allocR hS1 (le_lit (ν := ν) (a := [1, 0]) (b := [3, 0, 1, 1, 1, 1, 1]) (by decide)) (under_app [3, 0, 1, 1, 1, 1, 1] under_me) rfl rfl rfl rfl fun H4 hS4 => ?_
        replace hS4 : Own _ _ _ ([_, _]) := hS4
        first
        | refine OW_storeR hS4 (k := 0) rfl le_refl rfl rfl rfl rfl ⟨rfl, rfl, Nat.le_of_ble_eq_true rfl⟩ (set_whole rfl rfl) fun H5 hS5 => ?_
        | refine OW_storeR hS4 (k := 0) rfl le_refl rfl rfl rfl rfl ⟨rfl, rfl, Nat.le_of_ble_eq_true rfl⟩ (u2 := .agg [_, _, _]) rfl fun H5 hS5 => ?_
        replace hS5 : Own _ _ _ ([_, _]) := hS5
        refine OW_nilE (e' := [_, _, _, _, _, _, _, _, _, _, _, _, _, _, _, _, _, _, _, _, _, _, _, _, _, _, _, _, _, _, _, _, _, _, _, _, _, _, _, _, _, _, _, _, _, _, _, _, _, _, _, _, _, _, _, _, _, _, _, _, _, _, _, _, _, _, _, _, _, _, _, _, _, _, _, _, _, _, _, _, _]) rfl ?_
        refine XW_sr ?_
        refine OW_fa rfl rfl rfl ?_
        refine OW_loadR hS5 (k := 0) rfl rfl rfl rfl rfl (by first | exact part_whole rfl rfl rfl | rfl) ?_
        refine OW_fn rfl rfl (shapes_e ?_) 
        refine OW_env (e' := [_, _, _, _, _, _, _, _, _, _, _, _, _, _, _, _, _, _, _, _, _, _, _, _, _, _, _, _, _, _, _, _, _, _, _, _, _, _, _, _, _, _, _, _, _, _, _, _, _, _, _, _, _, _, _, _, _, _, _, _, _, _, _, _, _, _, _, _, _, _, _, _, _, _, _, _, _, _, _, _, _]) rfl ?_
        refine OW_mv rfl rfl ?_
        refine OW_ex rfl rfl rfl ?_
        refine OW_ex rfl rfl rfl ?_
        refine OW_env (e' := [_, _, _, _, _, _, _, _, _, _, _, _, _, _, _, _, _, _, _, _, _, _, _, _, _, _, _, _, _, _, _, _, _, _, _, _, _, _, _, _, _, _, _, _, _, _, _, _, _, _, _, _, _, _, _, _, _, _, _, _, _, _, _, _, _, _, _, _, _, _, _, _, _, _, _, _, _, _, _, _, _]) rfl ?_
        refine OW_allocR hS5 (le_lit (ν := ν) (a := [5, 0, 1, 1, 1, 1, 1]) (b := [6, 0, 1, 1, 1, 1, 1, 1]) (by decide)) (under_app [6, 0, 1, 1, 1, 1, 1, 1] under_me) rfl rfl rfl rfl fun H6 hS6 => ?_
        replace hS6 : Own _ _ _ ([_, _, _]) := hS6
        first
        | refine OW_storeR hS6 (k := 0) rfl le_refl rfl rfl rfl rfl ⟨rfl, rfl, Nat.le_of_ble_eq_true rfl⟩ (set_whole rfl rfl) fun H7 hS7 => ?_
        | refine OW_storeR hS6 (k := 0) rfl le_refl rfl rfl rfl rfl ⟨rfl, rfl, Nat.le_of_ble_eq_true rfl⟩ (u2 := .agg [_, _, _]) rfl fun H7 hS7 => ?_
        replace hS7 : Own _ _ _ ([_, _, _]) := hS7
        refine OW_as rfl rfl ?_
        refine OW_nilE (e' := [_, _, _, _, _, _, _, _, _, _, _, _, _, _, _, _, _, _, _, _, _, _, _, _, _, _, _, _, _, _, _, _, _, _, _, _, _, _, _, _, _, _, _, _, _, _, _, _, _, _, _, _, _, _, _, _, _, _, _, _, _, _, _, _, _, _, _, _, _, _, _, _, _, _, _, _, _, _, _, _, _]) rfl ?_
        refine XW_seq ?_
        refine XW_sr ?_
        refine OW_fa rfl rfl rfl ?_
        refine OW_loadR hS7 (k := 0) rfl rfl rfl rfl rfl (by first | exact part_whole rfl rfl rfl | rfl) ?_
        refine OW_mv rfl rfl ?_
        refine OW_nilE (e' := [_, _, _, _, _, _, _, _, _, _, _, _, _, _, _, _, _, _, _, _, _, _, _, _, _, _, _, _, _, _, _, _, _, _, _, _, _, _, _, _, _, _, _, _, _, _, _, _, _, _, _, _, _, _, _, _, _, _, _, _, _, _, _, _, _, _, _, _, _, _, _, _, _, _, _, _, _, _, _, _, _]) rfl ?_
        refine XW_block ?_
        refine XW_whileN (I := fun ν' mm ee H' => ∃ (i : Nat) (O : AVal) (acc : List Int) (rest : ByteArray), mm = numK n - i ∧ under (1 :: 0 :: 1 :: 1 :: 1 :: 1 :: 1 :: 1 :: 1 :: ν) ν' = true ∧ Own ν ν' H' ([sl O 1 (acc.map (AVal.int .u64)), row (6 :: 0 :: 1 :: 1 :: 1 :: 1 :: 1 :: 1 :: ν) 3 [.agg [.int .i64 (numK n : Int), .int .i64 (leastK n : Int), .int .i64 (mostK n : Int)]], row (3 :: 0 :: 1 :: 1 :: 1 :: 1 :: 1 :: ν) 3 [.agg [.int .i64 n, O, .emp]], row (0 :: 0 :: ν) 3 [.agg [.int .i64 0, .emp, .emp]]]) ∧ (cI.Far (numK n) r i acc rest.data.toList ∧ rest.size ≤ s.size) ∧ ∃ g : Nat → AVal, ee = [g 0, g 1, .ptr (0 :: 0 :: ν) 0 0, g 3, g 4, .str rest, g 6, .ptr (3 :: 0 :: 1 :: 1 :: 1 :: 1 :: 1 :: ν) 0 0, .ptr (6 :: 0 :: 1 :: 1 :: 1 :: 1 :: 1 :: 1 :: ν) 0 0, g 9, g 10, g 11, g 12, g 13, g 14, g 15, g 16, g 17, g 18, g 19, g 20, g 21, g 22, g 23, g 24, g 25, g 26, g 27, g 28, g 29, g 30, g 31, g 32, g 33, g 34, g 35, g 36, .int .i64 (numK n : Int), .int .i64 i, g 39, g 40, g 41, g 42, g 43, g 44, g 45, g 46, g 47, g 48, g 49, g 50, g 51, g 52, g 53, g 54, g 55, g 56, g 57, g 58, g 59, g 60, g 61, g 62, g 63, g 64, g 65, g 66, g 67, g 68, g 69, g 70, g 71, g 72, g 73, g 74, g 75, g 76, g 77, g 78, g 79, g 80]) ?_ _ _ _ _ ⟨0, .emp, [], ba r, rfl, under_me, Own.cast (Own.mono (hS7.addE) (le_lit (ν := ν) (a := [8, 0, 1, 1, 1, 1, 1, 1]) (b := [1, 0, 1, 1, 1, 1, 1, 1, 1]) (by decide))) (rfl), (⟨by rw [ba_data]; exact cI.far0 _ r, by omega⟩), env_g rfl⟩
        rintro ν1 mm ee H8 ⟨i, O, acc, rest, rfl, hU1, hS8, ⟨hF, hrs⟩, g1, rfl⟩
        refine XW_sr ?_
        refine OW_bin rfl rfl rfl rfl rfl ?_
        refine OW_nilE (e' := [_, _, _, _, _, _, _, _, _, _, _, _, _, _, _, _, _, _, _, _, _, _, _, _, _, _, _, _, _, _, _, _, _, _, _, _, _, _, _, _, _, _, _, _, _, _, _, _, _, _, _, _, _, _, _, _, _, _, _, _, _, _, _, _, _, _, _, _, _, _, _, _, _, _, _, _, _, _, _, _, _]) rfl ?_
        refine XW_seq ?_
        refine XW_if rfl (fun h11 => ?_) (fun h11 => ?_)
        · try simp only [decide_eq_true_eq, decide_eq_false_iff_not, Bool.not_eq_true', Bool.not_eq_false', Bool.and_eq_true, Bool.or_eq_true, Bool.not_eq_true, Bool.not_eq_false, Decidable.not_not, bne_iff_ne, beq_iff_eq, List.length_append, List.length_cons, List.length_nil, List.length_drop, List.length_take] at h11
          refine XW_skip ?_
          refine then_norm ?_
          refine XW_seq ?_
          refine XW_block ?_
          refine XW_sr ?_
          refine OW_as rfl rfl ?_
          refine OW_nilE (e' := [_, _, _, _, _, _, _, _, _, _, _, _, _, _, _, _, _, _, _, _, _, _, _, _, _, _, _, _, _, _, _, _, _, _, _, _, _, _, _, _, _, _, _, _, _, _, _, _, _, _, _, _, _, _, _, _, _, _, _, _, _, _, _, _, _, _, _, _, _, _, _, _, _, _, _, _, _, _, _, _, _]) rfl ?_
          refine XW_seq ?_
          refine XW_sr ?_
          have z1 := resU_size rest; have hal := hF.2.1; have hin := hF.1
          refine OW_mv rfl rfl ?_
          refine OW_fn rfl rfl (takeU_c (by omega) ?_) 
          refine OW_mv rfl rfl ?_
          refine OW_env (e' := [_, _, _, _, _, _, _, _, _, _, _, _, _, _, _, _, _, _, _, _, _, _, _, _, _, _, _, _, _, _, _, _, _, _, _, _, _, _, _, _, _, _, _, _, _, _, _, _, _, _, _, _, _, _, _, _, _, _, _, _, _, _, _, _, _, _, _, _, _, _, _, _, _, _, _, _, _, _, _, _, _]) rfl ?_
          refine OW_ex rfl rfl rfl ?_
          refine OW_ex rfl rfl rfl ?_
          refine OW_ex rfl rfl rfl ?_
          refine OW_env (e' := [_, _, _, _, _, _, _, _, _, _, _, _, _, _, _, _, _, _, _, _, _, _, _, _, _, _, _, _, _, _, _, _, _, _, _, _, _, _, _, _, _, _, _, _, _, _, _, _, _, _, _, _, _, _, _, _, _, _, _, _, _, _, _, _, _, _, _, _, _, _, _, _, _, _, _, _, _, _, _, _, _]) rfl ?_
          refine OW_as rfl rfl ?_
          refine OW_as rfl rfl ?_
          refine OW_as rfl rfl ?_
          refine OW_nilE (e' := [_, _, _, _, _, _, _, _, _, _, _, _, _, _, _, _, _, _, _, _, _, _, _, _, _, _, _, _, _, _, _, _, _, _, _, _, _, _, _, _, _, _, _, _, _, _, _, _, _, _, _, _, _, _, _, _, _, _, _, _, _, _, _, _, _, _, _, _, _, _, _, _, _, _, _, _, _, _, _, _, _]) rfl ?_
          refine XW_sr ?_
          refine OW_mv rfl rfl ?_
          refine OW_un rfl rfl rfl ?_
          refine OW_nilE (e' := [_, _, _, _, _, _, _, _, _, _, _, _, _, _, _, _, _, _, _, _, _, _, _, _, _, _, _, _, _, _, _, _, _, _, _, _, _, _, _, _, _, _, _, _, _, _, _, _, _, _, _, _, _, _, _, _, _, _, _, _, _, _, _, _, _, _, _, _, _, _, _, _, _, _, _, _, _, _, _, _, _]) rfl ?_
          refine XW_if rfl (fun h14 => ?_) (fun h14 => ?_)
          · try simp only [decide_eq_true_eq, decide_eq_false_iff_not, Bool.not_eq_true', Bool.not_eq_false', Bool.and_eq_true, Bool.or_eq_true, Bool.not_eq_true, Bool.not_eq_false, Decidable.not_not, bne_iff_ne, beq_iff_eq, List.length_append, List.length_cons, List.length_nil, List.length_drop, List.length_take] at h14
            refine XW_sr ?_
            refine OW_bd rfl rfl (v := .agg [_, _, _]) rfl ?_
            first
            | refine OW_storeR hS8 (k := 3) rfl (le_app (p := ν1) (b := [1, 0, 1, 1, 0, 1, 0, 1, 1, 0])) rfl rfl rfl rfl ⟨rfl, rfl, Nat.le_of_ble_eq_true rfl⟩ (set_whole rfl rfl) fun H9 hS9 => ?_
            | refine OW_storeR hS8 (k := 3) rfl (le_app (p := ν1) (b := [1, 0, 1, 1, 0, 1, 0, 1, 1, 0])) rfl rfl rfl rfl ⟨rfl, rfl, Nat.le_of_ble_eq_true rfl⟩ (u2 := .agg [_, _, _]) rfl fun H9 hS9 => ?_
            replace hS9 : Own _ _ _ ([_, _, _, _]) := hS9
            refine OW_as rfl rfl ?_
            refine OW_nilE (e' := [_, _, _, _, _, _, _, _, _, _, _, _, _, _, _, _, _, _, _, _, _, _, _, _, _, _, _, _, _, _, _, _, _, _, _, _, _, _, _, _, _, _, _, _, _, _, _, _, _, _, _, _, _, _, _, _, _, _, _, _, _, _, _, _, _, _, _, _, _, _, _, _, _, _, _, _, _, _, _, _, _]) rfl ?_
            refine XW_ret ?_
            refine then_ret ?_
            refine block_ret ?_
            refine then_ret ?_
            refine block_ret ?_
            refine then_ret ?_
            -- outcome 3
            refine ret_ret (res2 rfl (rv_cellR hS9 (k := 3) rfl rfl rfl rfl (by first | exact part_whole rfl rfl rfl | rfl)) (rv_tmp rfl)) (frz2 (Q := Q) (by first | exact freeze_plain rfl | exact Ls.freeze (by assumption) | exact Ls.freeze Ls.of | exact Ls.freeze Ls.emp | exact Ls.freeze Ls.nls | exact frA (frAc (by first | exact freeze_plain rfl | exact Ls.freeze Ls.of | exact Ls.freeze Ls.emp | exact Ls.freeze Ls.nls | exact Ls.freeze (by assumption) | exact hS9.frz (k := 0) rfl (by first | exact map_plain (fun _ => rfl) | (intro x hx; simp at hx; done))) (frAc (by first | exact freeze_plain rfl | exact Ls.freeze Ls.of | exact Ls.freeze Ls.emp | exact Ls.freeze Ls.nls | exact Ls.freeze (by assumption) | exact hS9.frz (k := 0) rfl (by first | exact map_plain (fun _ => rfl) | (intro x hx; simp at hx; done))) (frAc (by first | exact freeze_plain rfl | exact Ls.freeze Ls.of | exact Ls.freeze Ls.emp | exact Ls.freeze Ls.nls | exact Ls.freeze (by assumption) | exact hS9.frz (k := 0) rfl (by first | exact map_plain (fun _ => rfl) | (intro x hx; simp at hx; done))) frAn)))) (by first | exact freeze_plain rfl | exact Ls.freeze (by assumption) | exact Ls.freeze Ls.of | exact Ls.freeze Ls.emp | exact Ls.freeze Ls.nls) ?_)
            first | (rw [if_pos (by omega)] at hq; exact hq) | (rw [if_neg (by omega), if_pos (by omega)] at hq; exact hq) | (rw [if_neg (by omega), if_neg (by omega), bodyM, Cod.far_none hF (by omega) (cI_tkF (by simp_all))] at hq; exact hq) | (rw [if_neg (by omega), if_neg (by omega), bodyM, Cod.far_end hF (by omega)] at hq; simp only at hq; rw [ba_of] at hq; first | (rw [tailM_ok (by assumption) (by assumption) (by omega)] at hq; exact hq) | (rw [tailM_no (by intro a1 a2 a3; first | omega | simp_all)] at hq; exact hq))
          · try simp only [decide_eq_true_eq, decide_eq_false_iff_not, Bool.not_eq_true', Bool.not_eq_false', Bool.and_eq_true, Bool.or_eq_true, Bool.not_eq_true, Bool.not_eq_false, Decidable.not_not, bne_iff_ne, beq_iff_eq, List.length_append, List.length_cons, List.length_nil, List.length_drop, List.length_take] at h14
            refine XW_skip ?_
            refine then_norm ?_
            refine XW_region ?_
            refine OW_fa rfl rfl rfl ?_
            refine OW_loadR hS8 (k := 2) rfl rfl rfl rfl rfl (by first | exact part_whole rfl rfl rfl | rfl) ?_
            refine OW_mv rfl rfl ?_
            refine OW_env (e' := [_, _, _, _, _, _, _, _, _, _, _, _, _, _, _, _, _, _, _, _, _, _, _, _, _, _, _, _, _, _, _, _, _, _, _, _, _, _, _, _, _, _, _, _, _, _, _, _, _, _, _, _, _, _, _, _, _, _, _, _, _, _, _, _, _, _, _, _, _, _, _, _, _, _, _, _, _, _, _, _, _]) rfl ?_
            refine OW_bs rfl rfl (v := .lst [_]) rfl ?_
            refine OW_app hS8 (k := 0) rfl (le_app (p := ν1) (b := [4, 1, 1, 0, 1, 1, 0])) (under_app [4, 1, 1, 0, 1, 1, 0] (under_trans (under_app [1, 0, 1, 1, 1, 1, 1, 1, 1] under_me) hU1)) rfl rfl rfl rfl rfl rfl rfl rfl (by first | rfl | exact Ls.elems (by assumption)) (by first | exact one_wide rfl | exact map_wide (fun _ => rfl) | assumption | (intro y hy; simp at hy; done)) (by first | omega | (simp only [List.length_map, List.length_append, List.length_singleton, List.length_cons, List.length_nil, List.length_take, List.length_drop]; omega) | (simp; omega)) (by decide) fun O1 H10 hS10 => ?_
            replace hS10 : Own _ _ _ ([_, _, _, _]) := hS10
            refine OW_fa rfl rfl rfl ?_
            refine OW_env (e' := [_, _, _, _, _, _, _, _, _, _, _, _, _, _, _, _, _, _, _, _, _, _, _, _, _, _, _, _, _, _, _, _, _, _, _, _, _, _, _, _, _, _, _, _, _, _, _, _, _, _, _, _, _, _, _, _, _, _, _, _, _, _, _, _, _, _, _, _, _, _, _, _, _, _, _, _, _, _, _, _, _]) rfl ?_
            refine OW_storeC hS10 (k := 2) rfl (le_lit (ν := ν1) (a := [5, 1, 1, 0, 1, 1, 0]) (b := [6, 1, 1, 0, 1, 1, 0]) (by decide)) rfl rfl rfl (hS10.one (k := 0) rfl) rfl rfl (Nat.le_of_ble_eq_true rfl) (u2 := .agg [_, _, _]) rfl fun H11 hS11 => ?_
            replace hS11 : Own _ _ _ ([_, _, _, _]) := hS11
            refine OW_nilE (e' := [_, _, _, _, _, _, _, _, _, _, _, _, _, _, _, _, _, _, _, _, _, _, _, _, _, _, _, _, _, _, _, _, _, _, _, _, _, _, _, _, _, _, _, _, _, _, _, _, _, _, _, _, _, _, _, _, _, _, _, _, _, _, _, _, _, _, _, _, _, _, _, _, _, _, _, _, _, _, _, _, _]) rfl ?_
            refine block_norm ?_
            refine then_norm ?_
            refine XW_region ?_
            first
            | refine OW_bin rfl rfl rfl rfl (add_w64 (by first | omega | assumption | (simp only [ByteArray.size_append, ByteArray.size_extract, List.length_map, List.length_append, List.length_cons, List.length_nil, List.length_drop, List.length_take]; omega))) ?_
            | refine OW_bin rfl rfl rfl rfl rfl ?_
            refine OW_mv rfl rfl ?_
            refine OW_nilE (e' := [_, _, _, _, _, _, _, _, _, _, _, _, _, _, _, _, _, _, _, _, _, _, _, _, _, _, _, _, _, _, _, _, _, _, _, _, _, _, _, _, _, _, _, _, _, _, _, _, _, _, _, _, _, _, _, _, _, _, _, _, _, _, _, _, _, _, _, _, _, _, _, _, _, _, _, _, _, _, _, _, _]) rfl ?_
            -- round 0.1
            refine ⟨_, ?_, i + 1, O1, acc ++ [(resU rest).1], _, rfl, under_in hU1, Own.cast (Own.mono (hS11) (le_lit (ν := ν1) (a := [7, 1, 1, 0, 1, 1, 0]) (b := [1]) (by decide))) (by simp), ?_, env_g rfl⟩
            · first | omega | (simp; omega)
            · exact ⟨Cod.far_step hF (by omega) (cI_tkT (by assumption)), by omega⟩
        · try simp only [decide_eq_true_eq, decide_eq_false_iff_not, Bool.not_eq_true', Bool.not_eq_false', Bool.and_eq_true, Bool.or_eq_true, Bool.not_eq_true, Bool.not_eq_false, Decidable.not_not, bne_iff_ne, beq_iff_eq, List.length_append, List.length_cons, List.length_nil, List.length_drop, List.length_take] at h11
          refine XW_exit ?_
          refine then_exit ?_
          refine block_exit ?_
          refine then_norm ?_
          refine XW_sr ?_
          refine OW_mv rfl rfl ?_
          refine OW_fa rfl rfl rfl ?_
          refine OW_loadR hS8 (k := 1) rfl rfl rfl rfl rfl (by first | exact part_whole rfl rfl rfl | rfl) ?_
          refine OW_env (e' := [_, _, _, _, _, _, _, _, _, _, _, _, _, _, _, _, _, _, _, _, _, _, _, _, _, _, _, _, _, _, _, _, _, _, _, _, _, _, _, _, _, _, _, _, _, _, _, _, _, _, _, _, _, _, _, _, _, _, _, _, _, _, _, _, _, _, _, _, _, _, _, _, _, _, _, _, _, _, _, _, _]) rfl ?_
          refine OW_fn rfl rfl (takeL_c (by omega) (by omega) (by omega) ?_) 
          refine OW_mv rfl rfl ?_
          refine OW_ex rfl rfl rfl ?_
          refine OW_env (e' := [_, _, _, _, _, _, _, _, _, _, _, _, _, _, _, _, _, _, _, _, _, _, _, _, _, _, _, _, _, _, _, _, _, _, _, _, _, _, _, _, _, _, _, _, _, _, _, _, _, _, _, _, _, _, _, _, _, _, _, _, _, _, _, _, _, _, _, _, _, _, _, _, _, _, _, _, _, _, _, _, _]) rfl ?_
          refine OW_ex rfl rfl rfl ?_
          refine OW_ex rfl rfl rfl ?_
          refine OW_fa rfl rfl rfl ?_
          refine OW_env (e' := [_, _, _, _, _, _, _, _, _, _, _, _, _, _, _, _, _, _, _, _, _, _, _, _, _, _, _, _, _, _, _, _, _, _, _, _, _, _, _, _, _, _, _, _, _, _, _, _, _, _, _, _, _, _, _, _, _, _, _, _, _, _, _, _, _, _, _, _, _, _, _, _, _, _, _, _, _, _, _, _, _]) rfl ?_
          refine OW_storeR hS8 (k := 2) rfl (le_bef (bef_under (a := []) hU1 (before_lit (ν := ν) (a := [1, 0, 1, 1, 1, 1, 1, 1, 1]) (b := [9, 0, 1, 1, 1, 1, 1, 1, 1, 1]) (by decide)))) rfl rfl rfl rfl ⟨rfl, rfl, Nat.le_of_ble_eq_true rfl⟩ (u2 := .agg [_, _, _]) rfl fun H12 hS12 => ?_
          replace hS12 : Own _ _ _ ([_, _, _, _]) := hS12
          refine OW_as rfl rfl ?_
          refine OW_as rfl rfl ?_
          refine OW_nilE (e' := [_, _, _, _, _, _, _, _, _, _, _, _, _, _, _, _, _, _, _, _, _, _, _, _, _, _, _, _, _, _, _, _, _, _, _, _, _, _, _, _, _, _, _, _, _, _, _, _, _, _, _, _, _, _, _, _, _, _, _, _, _, _, _, _, _, _, _, _, _, _, _, _, _, _, _, _, _, _, _, _, _]) rfl ?_
          refine XW_seq ?_
          refine XW_sr ?_
          refine OW_mv rfl rfl ?_
          refine OW_un rfl rfl rfl ?_
          refine OW_mv rfl rfl ?_
          refine OW_env (e' := [_, _, _, _, _, _, _, _, _, _, _, _, _, _, _, _, _, _, _, _, _, _, _, _, _, _, _, _, _, _, _, _, _, _, _, _, _, _, _, _, _, _, _, _, _, _, _, _, _, _, _, _, _, _, _, _, _, _, _, _, _, _, _, _, _, _, _, _, _, _, _, _, _, _, _, _, _, _, _, _, _]) rfl ?_
          refine OW_split (tt := 67) rfl (fun g19_3 => ?_) (fun g19_3 => ?_)
          · try simp only [decide_eq_true_eq, decide_eq_false_iff_not, Bool.not_eq_true', Bool.not_eq_false', Bool.and_eq_true, Bool.or_eq_true, Bool.not_eq_true, Bool.not_eq_false, Decidable.not_not, bne_iff_ne, beq_iff_eq, List.length_append, List.length_cons, List.length_nil, List.length_drop, List.length_take] at g19_3
            refine OW_no rfl ?_
            refine OW_no rfl ?_
            refine OW_env (e' := [_, _, _, _, _, _, _, _, _, _, _, _, _, _, _, _, _, _, _, _, _, _, _, _, _, _, _, _, _, _, _, _, _, _, _, _, _, _, _, _, _, _, _, _, _, _, _, _, _, _, _, _, _, _, _, _, _, _, _, _, _, _, _, _, _, _, _, _, _, _, _, _, _, _, _, _, _, _, _, _, _]) rfl ?_
            refine OW_pick rfl rfl rfl ?_
            refine OW_mv rfl rfl ?_
            refine OW_no rfl ?_
            refine OW_env (e' := [_, _, _, _, _, _, _, _, _, _, _, _, _, _, _, _, _, _, _, _, _, _, _, _, _, _, _, _, _, _, _, _, _, _, _, _, _, _, _, _, _, _, _, _, _, _, _, _, _, _, _, _, _, _, _, _, _, _, _, _, _, _, _, _, _, _, _, _, _, _, _, _, _, _, _, _, _, _, _, _, _]) rfl ?_
            refine OW_no rfl ?_
            refine OW_no rfl ?_
            refine OW_no rfl ?_
            refine OW_env (e' := [_, _, _, _, _, _, _, _, _, _, _, _, _, _, _, _, _, _, _, _, _, _, _, _, _, _, _, _, _, _, _, _, _, _, _, _, _, _, _, _, _, _, _, _, _, _, _, _, _, _, _, _, _, _, _, _, _, _, _, _, _, _, _, _, _, _, _, _, _, _, _, _, _, _, _, _, _, _, _, _, _]) rfl ?_
            refine OW_no rfl ?_
            refine OW_no rfl ?_
            refine OW_pick rfl rfl rfl ?_
            refine OW_nilE (e' := [_, _, _, _, _, _, _, _, _, _, _, _, _, _, _, _, _, _, _, _, _, _, _, _, _, _, _, _, _, _, _, _, _, _, _, _, _, _, _, _, _, _, _, _, _, _, _, _, _, _, _, _, _, _, _, _, _, _, _, _, _, _, _, _, _, _, _, _, _, _, _, _, _, _, _, _, _, _, _, _, _]) rfl ?_
            refine XW_yes rfl rfl ?_
            refine XW_sr ?_
            refine OW_bd rfl rfl (v := .agg [_, _, _]) rfl ?_
            first
            | refine OW_storeR hS12 (k := 3) rfl (le_lit (ν := ν) (a := [10, 0, 1, 1, 1, 1, 1, 1, 1, 1]) (b := [1, 0, 1, 0, 1, 1, 1, 1, 1, 1, 1, 1, 1]) (by decide)) rfl rfl rfl rfl ⟨rfl, rfl, Nat.le_of_ble_eq_true rfl⟩ (set_whole rfl rfl) fun H13 hS13 => ?_
            | refine OW_storeR hS12 (k := 3) rfl (le_lit (ν := ν) (a := [10, 0, 1, 1, 1, 1, 1, 1, 1, 1]) (b := [1, 0, 1, 0, 1, 1, 1, 1, 1, 1, 1, 1, 1]) (by decide)) rfl rfl rfl rfl ⟨rfl, rfl, Nat.le_of_ble_eq_true rfl⟩ (u2 := .agg [_, _, _]) rfl fun H13 hS13 => ?_
            replace hS13 : Own _ _ _ ([_, _, _, _]) := hS13
            refine OW_as rfl rfl ?_
            refine OW_nilE (e' := [_, _, _, _, _, _, _, _, _, _, _, _, _, _, _, _, _, _, _, _, _, _, _, _, _, _, _, _, _, _, _, _, _, _, _, _, _, _, _, _, _, _, _, _, _, _, _, _, _, _, _, _, _, _, _, _, _, _, _, _, _, _, _, _, _, _, _, _, _, _, _, _, _, _, _, _, _, _, _, _, _]) rfl ?_
            refine XW_ret ?_
            refine then_ret ?_
            -- outcome 4
            refine ret_ret (res2 rfl (rv_cellR hS13 (k := 3) rfl rfl rfl rfl (by first | exact part_whole rfl rfl rfl | rfl)) (rv_tmp rfl)) (frz2 (Q := Q) (by first | exact freeze_plain rfl | exact Ls.freeze (by assumption) | exact Ls.freeze Ls.of | exact Ls.freeze Ls.emp | exact Ls.freeze Ls.nls | exact frA (frAc (by first | exact freeze_plain rfl | exact Ls.freeze Ls.of | exact Ls.freeze Ls.emp | exact Ls.freeze Ls.nls | exact Ls.freeze (by assumption) | exact hS13.frz (k := 0) rfl (by first | exact map_plain (fun _ => rfl) | (intro x hx; simp at hx; done))) (frAc (by first | exact freeze_plain rfl | exact Ls.freeze Ls.of | exact Ls.freeze Ls.emp | exact Ls.freeze Ls.nls | exact Ls.freeze (by assumption) | exact hS13.frz (k := 0) rfl (by first | exact map_plain (fun _ => rfl) | (intro x hx; simp at hx; done))) (frAc (by first | exact freeze_plain rfl | exact Ls.freeze Ls.of | exact Ls.freeze Ls.emp | exact Ls.freeze Ls.nls | exact Ls.freeze (by assumption) | exact hS13.frz (k := 0) rfl (by first | exact map_plain (fun _ => rfl) | (intro x hx; simp at hx; done))) frAn)))) (by first | exact freeze_plain rfl | exact Ls.freeze (by assumption) | exact Ls.freeze Ls.of | exact Ls.freeze Ls.emp | exact Ls.freeze Ls.nls) ?_)
            first | (rw [if_pos (by omega)] at hq; exact hq) | (rw [if_neg (by omega), if_pos (by omega)] at hq; exact hq) | (rw [if_neg (by omega), if_neg (by omega), bodyM, Cod.far_none hF (by omega) (cI_tkF (by simp_all))] at hq; exact hq) | (rw [if_neg (by omega), if_neg (by omega), bodyM, Cod.far_end hF (by omega)] at hq; simp only at hq; rw [ba_of] at hq; first | (rw [tailM_ok (by assumption) (by assumption) (by omega)] at hq; exact hq) | (rw [tailM_no (by intro a1 a2 a3; first | omega | simp_all)] at hq; exact hq))
          · try simp only [decide_eq_true_eq, decide_eq_false_iff_not, Bool.not_eq_true', Bool.not_eq_false', Bool.and_eq_true, Bool.or_eq_true, Bool.not_eq_true, Bool.not_eq_false, Decidable.not_not, bne_iff_ne, beq_iff_eq, List.length_append, List.length_cons, List.length_nil, List.length_drop, List.length_take] at g19_3
            refine OW_mv rfl rfl ?_
            refine OW_bin rfl rfl rfl rfl rfl ?_
            refine OW_env (e' := [_, _, _, _, _, _, _, _, _, _, _, _, _, _, _, _, _, _, _, _, _, _, _, _, _, _, _, _, _, _, _, _, _, _, _, _, _, _, _, _, _, _, _, _, _, _, _, _, _, _, _, _, _, _, _, _, _, _, _, _, _, _, _, _, _, _, _, _, _, _, _, _, _, _, _, _, _, _, _, _, _]) rfl ?_
            refine OW_pick rfl rfl rfl ?_
            refine OW_mv rfl rfl ?_
            refine OW_split (tt := 71) rfl (fun g19_7 => ?_) (fun g19_7 => ?_)
            · try simp only [decide_eq_true_eq, decide_eq_false_iff_not, Bool.not_eq_true', Bool.not_eq_false', Bool.and_eq_true, Bool.or_eq_true, Bool.not_eq_true, Bool.not_eq_false, Decidable.not_not, bne_iff_ne, beq_iff_eq, List.length_append, List.length_cons, List.length_nil, List.length_drop, List.length_take] at g19_7
              refine OW_env (e' := [_, _, _, _, _, _, _, _, _, _, _, _, _, _, _, _, _, _, _, _, _, _, _, _, _, _, _, _, _, _, _, _, _, _, _, _, _, _, _, _, _, _, _, _, _, _, _, _, _, _, _, _, _, _, _, _, _, _, _, _, _, _, _, _, _, _, _, _, _, _, _, _, _, _, _, _, _, _, _, _, _]) rfl ?_
              refine OW_no rfl ?_
              refine OW_no rfl ?_
              refine OW_no rfl ?_
              refine OW_env (e' := [_, _, _, _, _, _, _, _, _, _, _, _, _, _, _, _, _, _, _, _, _, _, _, _, _, _, _, _, _, _, _, _, _, _, _, _, _, _, _, _, _, _, _, _, _, _, _, _, _, _, _, _, _, _, _, _, _, _, _, _, _, _, _, _, _, _, _, _, _, _, _, _, _, _, _, _, _, _, _, _, _]) rfl ?_
              refine OW_no rfl ?_
              refine OW_no rfl ?_
              refine OW_no rfl ?_
              refine OW_env (e' := [_, _, _, _, _, _, _, _, _, _, _, _, _, _, _, _, _, _, _, _, _, _, _, _, _, _, _, _, _, _, _, _, _, _, _, _, _, _, _, _, _, _, _, _, _, _, _, _, _, _, _, _, _, _, _, _, _, _, _, _, _, _, _, _, _, _, _, _, _, _, _, _, _, _, _, _, _, _, _, _, _]) rfl ?_
              refine OW_pick rfl rfl rfl ?_
              refine OW_nilE (e' := [_, _, _, _, _, _, _, _, _, _, _, _, _, _, _, _, _, _, _, _, _, _, _, _, _, _, _, _, _, _, _, _, _, _, _, _, _, _, _, _, _, _, _, _, _, _, _, _, _, _, _, _, _, _, _, _, _, _, _, _, _, _, _, _, _, _, _, _, _, _, _, _, _, _, _, _, _, _, _, _, _]) rfl ?_
              refine XW_yes rfl rfl ?_
              refine XW_sr ?_
              refine OW_bd rfl rfl (v := .agg [_, _, _]) rfl ?_
              first
              | refine OW_storeR hS12 (k := 3) rfl (le_lit (ν := ν) (a := [10, 0, 1, 1, 1, 1, 1, 1, 1, 1]) (b := [1, 0, 1, 0, 1, 1, 1, 1, 1, 1, 1, 1, 1]) (by decide)) rfl rfl rfl rfl ⟨rfl, rfl, Nat.le_of_ble_eq_true rfl⟩ (set_whole rfl rfl) fun H14 hS14 => ?_
              | refine OW_storeR hS12 (k := 3) rfl (le_lit (ν := ν) (a := [10, 0, 1, 1, 1, 1, 1, 1, 1, 1]) (b := [1, 0, 1, 0, 1, 1, 1, 1, 1, 1, 1, 1, 1]) (by decide)) rfl rfl rfl rfl ⟨rfl, rfl, Nat.le_of_ble_eq_true rfl⟩ (u2 := .agg [_, _, _]) rfl fun H14 hS14 => ?_
              replace hS14 : Own _ _ _ ([_, _, _, _]) := hS14
              refine OW_as rfl rfl ?_
              refine OW_nilE (e' := [_, _, _, _, _, _, _, _, _, _, _, _, _, _, _, _, _, _, _, _, _, _, _, _, _, _, _, _, _, _, _, _, _, _, _, _, _, _, _, _, _, _, _, _, _, _, _, _, _, _, _, _, _, _, _, _, _, _, _, _, _, _, _, _, _, _, _, _, _, _, _, _, _, _, _, _, _, _, _, _, _]) rfl ?_
              refine XW_ret ?_
              refine then_ret ?_
              -- outcome 5
              refine ret_ret (res2 rfl (rv_cellR hS14 (k := 3) rfl rfl rfl rfl (by first | exact part_whole rfl rfl rfl | rfl)) (rv_tmp rfl)) (frz2 (Q := Q) (by first | exact freeze_plain rfl | exact Ls.freeze (by assumption) | exact Ls.freeze Ls.of | exact Ls.freeze Ls.emp | exact Ls.freeze Ls.nls | exact frA (frAc (by first | exact freeze_plain rfl | exact Ls.freeze Ls.of | exact Ls.freeze Ls.emp | exact Ls.freeze Ls.nls | exact Ls.freeze (by assumption) | exact hS14.frz (k := 0) rfl (by first | exact map_plain (fun _ => rfl) | (intro x hx; simp at hx; done))) (frAc (by first | exact freeze_plain rfl | exact Ls.freeze Ls.of | exact Ls.freeze Ls.emp | exact Ls.freeze Ls.nls | exact Ls.freeze (by assumption) | exact hS14.frz (k := 0) rfl (by first | exact map_plain (fun _ => rfl) | (intro x hx; simp at hx; done))) (frAc (by first | exact freeze_plain rfl | exact Ls.freeze Ls.of | exact Ls.freeze Ls.emp | exact Ls.freeze Ls.nls | exact Ls.freeze (by assumption) | exact hS14.frz (k := 0) rfl (by first | exact map_plain (fun _ => rfl) | (intro x hx; simp at hx; done))) frAn)))) (by first | exact freeze_plain rfl | exact Ls.freeze (by assumption) | exact Ls.freeze Ls.of | exact Ls.freeze Ls.emp | exact Ls.freeze Ls.nls) ?_)
              first | (rw [if_pos (by omega)] at hq; exact hq) | (rw [if_neg (by omega), if_pos (by omega)] at hq; exact hq) | (rw [if_neg (by omega), if_neg (by omega), bodyM, Cod.far_none hF (by omega) (cI_tkF (by simp_all))] at hq; exact hq) | (rw [if_neg (by omega), if_neg (by omega), bodyM, Cod.far_end hF (by omega)] at hq; simp only at hq; rw [ba_of] at hq; first | (rw [tailM_ok (by assumption) (by assumption) (by omega)] at hq; exact hq) | (rw [tailM_no (by intro a1 a2 a3; first | omega | simp_all)] at hq; exact hq))
            · try simp only [decide_eq_true_eq, decide_eq_false_iff_not, Bool.not_eq_true', Bool.not_eq_false', Bool.and_eq_true, Bool.or_eq_true, Bool.not_eq_true, Bool.not_eq_false, Decidable.not_not, bne_iff_ne, beq_iff_eq, List.length_append, List.length_cons, List.length_nil, List.length_drop, List.length_take] at g19_7
              refine OW_env (e' := [_, _, _, _, _, _, _, _, _, _, _, _, _, _, _, _, _, _, _, _, _, _, _, _, _, _, _, _, _, _, _, _, _, _, _, _, _, _, _, _, _, _, _, _, _, _, _, _, _, _, _, _, _, _, _, _, _, _, _, _, _, _, _, _, _, _, _, _, _, _, _, _, _, _, _, _, _, _, _, _, _]) rfl ?_
              refine OW_fa rfl rfl rfl ?_
              refine OW_loadR hS12 (k := 2) rfl rfl rfl rfl rfl (by first | exact part_whole rfl rfl rfl | rfl) ?_
              first
              | refine OW_lenL rfl rfl (by first | assumption | exact Ls.of | exact Ls.emp | exact Ls.nls) rfl rfl rfl (by first | exact List.length_map _ | rfl) ?_
              | refine OW_bi rfl rfl rfl ?_
              | refine OW_lenO hS12 (k := 0) rfl rfl rfl rfl rfl rfl (by first | exact List.length_map _ | exact len_app1 | exact len_drop | (simp only [List.length_append, List.length_map, List.length_singleton, List.length_cons, List.length_nil]; rfl) | rfl) ?_
              refine OW_env (e' := [_, _, _, _, _, _, _, _, _, _, _, _, _, _, _, _, _, _, _, _, _, _, _, _, _, _, _, _, _, _, _, _, _, _, _, _, _, _, _, _, _, _, _, _, _, _, _, _, _, _, _, _, _, _, _, _, _, _, _, _, _, _, _, _, _, _, _, _, _, _, _, _, _, _, _, _, _, _, _, _, _]) rfl ?_
              refine OW_fa rfl rfl rfl ?_
              refine OW_loadR hS12 (k := 1) rfl rfl rfl rfl rfl (by first | exact part_whole rfl rfl rfl | rfl) ?_
              refine OW_bin rfl rfl rfl rfl rfl ?_
              refine OW_env (e' := [_, _, _, _, _, _, _, _, _, _, _, _, _, _, _, _, _, _, _, _, _, _, _, _, _, _, _, _, _, _, _, _, _, _, _, _, _, _, _, _, _, _, _, _, _, _, _, _, _, _, _, _, _, _, _, _, _, _, _, _, _, _, _, _, _, _, _, _, _, _, _, _, _, _, _, _, _, _, _, _, _]) rfl ?_
              refine OW_pick rfl rfl rfl ?_
              refine OW_nilE (e' := [_, _, _, _, _, _, _, _, _, _, _, _, _, _, _, _, _, _, _, _, _, _, _, _, _, _, _, _, _, _, _, _, _, _, _, _, _, _, _, _, _, _, _, _, _, _, _, _, _, _, _, _, _, _, _, _, _, _, _, _, _, _, _, _, _, _, _, _, _, _, _, _, _, _, _, _, _, _, _, _, _]) rfl ?_
              refine XW_if rfl (fun h19 => ?_) (fun h19 => ?_)
              · try simp only [decide_eq_true_eq, decide_eq_false_iff_not, Bool.not_eq_true', Bool.not_eq_false', Bool.and_eq_true, Bool.or_eq_true, Bool.not_eq_true, Bool.not_eq_false, Decidable.not_not, bne_iff_ne, beq_iff_eq, List.length_append, List.length_cons, List.length_nil, List.length_drop, List.length_take] at h19
                refine XW_sr ?_
                refine OW_bd rfl rfl (v := .agg [_, _, _]) rfl ?_
                first
                | refine OW_storeR hS12 (k := 3) rfl (le_lit (ν := ν) (a := [10, 0, 1, 1, 1, 1, 1, 1, 1, 1]) (b := [1, 0, 1, 0, 1, 1, 1, 1, 1, 1, 1, 1, 1]) (by decide)) rfl rfl rfl rfl ⟨rfl, rfl, Nat.le_of_ble_eq_true rfl⟩ (set_whole rfl rfl) fun H15 hS15 => ?_
                | refine OW_storeR hS12 (k := 3) rfl (le_lit (ν := ν) (a := [10, 0, 1, 1, 1, 1, 1, 1, 1, 1]) (b := [1, 0, 1, 0, 1, 1, 1, 1, 1, 1, 1, 1, 1]) (by decide)) rfl rfl rfl rfl ⟨rfl, rfl, Nat.le_of_ble_eq_true rfl⟩ (u2 := .agg [_, _, _]) rfl fun H15 hS15 => ?_
                replace hS15 : Own _ _ _ ([_, _, _, _]) := hS15
                refine OW_as rfl rfl ?_
                refine OW_nilE (e' := [_, _, _, _, _, _, _, _, _, _, _, _, _, _, _, _, _, _, _, _, _, _, _, _, _, _, _, _, _, _, _, _, _, _, _, _, _, _, _, _, _, _, _, _, _, _, _, _, _, _, _, _, _, _, _, _, _, _, _, _, _, _, _, _, _, _, _, _, _, _, _, _, _, _, _, _, _, _, _, _, _]) rfl ?_
                refine XW_ret ?_
                refine then_ret ?_
                -- outcome 6
                refine ret_ret (res2 rfl (rv_cellR hS15 (k := 3) rfl rfl rfl rfl (by first | exact part_whole rfl rfl rfl | rfl)) (rv_tmp rfl)) (frz2 (Q := Q) (by first | exact freeze_plain rfl | exact Ls.freeze (by assumption) | exact Ls.freeze Ls.of | exact Ls.freeze Ls.emp | exact Ls.freeze Ls.nls | exact frA (frAc (by first | exact freeze_plain rfl | exact Ls.freeze Ls.of | exact Ls.freeze Ls.emp | exact Ls.freeze Ls.nls | exact Ls.freeze (by assumption) | exact hS15.frz (k := 0) rfl (by first | exact map_plain (fun _ => rfl) | (intro x hx; simp at hx; done))) (frAc (by first | exact freeze_plain rfl | exact Ls.freeze Ls.of | exact Ls.freeze Ls.emp | exact Ls.freeze Ls.nls | exact Ls.freeze (by assumption) | exact hS15.frz (k := 0) rfl (by first | exact map_plain (fun _ => rfl) | (intro x hx; simp at hx; done))) (frAc (by first | exact freeze_plain rfl | exact Ls.freeze Ls.of | exact Ls.freeze Ls.emp | exact Ls.freeze Ls.nls | exact Ls.freeze (by assumption) | exact hS15.frz (k := 0) rfl (by first | exact map_plain (fun _ => rfl) | (intro x hx; simp at hx; done))) frAn)))) (by first | exact freeze_plain rfl | exact Ls.freeze (by assumption) | exact Ls.freeze Ls.of | exact Ls.freeze Ls.emp | exact Ls.freeze Ls.nls) ?_)
                first | (rw [if_pos (by omega)] at hq; exact hq) | (rw [if_neg (by omega), if_pos (by omega)] at hq; exact hq) | (rw [if_neg (by omega), if_neg (by omega), bodyM, Cod.far_none hF (by omega) (cI_tkF (by simp_all))] at hq; exact hq) | (rw [if_neg (by omega), if_neg (by omega), bodyM, Cod.far_end hF (by omega)] at hq; simp only at hq; rw [ba_of] at hq; first | (rw [tailM_ok (by assumption) (by assumption) (by omega)] at hq; exact hq) | (rw [tailM_no (by intro a1 a2 a3; first | omega | simp_all)] at hq; exact hq))
              · try simp only [decide_eq_true_eq, decide_eq_false_iff_not, Bool.not_eq_true', Bool.not_eq_false', Bool.and_eq_true, Bool.or_eq_true, Bool.not_eq_true, Bool.not_eq_false, Decidable.not_not, bne_iff_ne, beq_iff_eq, List.length_append, List.length_cons, List.length_nil, List.length_drop, List.length_take] at h19
                refine XW_skip ?_
                refine then_norm ?_
                refine XW_sr ?_
                refine OW_loadR hS12 (k := 2) rfl rfl rfl rfl rfl (by first | exact part_whole rfl rfl rfl | rfl) ?_
                first
                | refine OW_storeR hS12 (k := 3) rfl (le_lit (ν := ν) (a := [10, 0, 1, 1, 1, 1, 1, 1, 1, 1]) (b := [1, 0, 1, 1, 1, 1, 1, 1, 1, 1, 1, 1]) (by decide)) rfl rfl rfl rfl ⟨rfl, rfl, Nat.le_of_ble_eq_true rfl⟩ (set_whole rfl rfl) fun H16 hS16 => ?_
                | refine OW_storeR hS12 (k := 3) rfl (le_lit (ν := ν) (a := [10, 0, 1, 1, 1, 1, 1, 1, 1, 1]) (b := [1, 0, 1, 1, 1, 1, 1, 1, 1, 1, 1, 1]) (by decide)) rfl rfl rfl rfl ⟨rfl, rfl, Nat.le_of_ble_eq_true rfl⟩ (u2 := .agg [_, _, _]) rfl fun H16 hS16 => ?_
                replace hS16 : Own _ _ _ ([_, _, _, _]) := hS16
                refine OW_as rfl rfl ?_
                refine OW_nilE (e' := [_, _, _, _, _, _, _, _, _, _, _, _, _, _, _, _, _, _, _, _, _, _, _, _, _, _, _, _, _, _, _, _, _, _, _, _, _, _, _, _, _, _, _, _, _, _, _, _, _, _, _, _, _, _, _, _, _, _, _, _, _, _, _, _, _, _, _, _, _, _, _, _, _, _, _, _, _, _, _, _, _]) rfl ?_
                refine XW_ret ?_
                -- outcome 7
                refine ret_ret (res2 rfl (rv_cellR hS16 (k := 3) rfl rfl rfl rfl (by first | exact part_whole rfl rfl rfl | rfl)) (rv_tmp rfl)) (frz2 (Q := Q) (by first | exact freeze_plain rfl | exact Ls.freeze (by assumption) | exact Ls.freeze Ls.of | exact Ls.freeze Ls.emp | exact Ls.freeze Ls.nls | exact frA (frAc (by first | exact freeze_plain rfl | exact Ls.freeze Ls.of | exact Ls.freeze Ls.emp | exact Ls.freeze Ls.nls | exact Ls.freeze (by assumption) | exact hS16.frz (k := 0) rfl (by first | exact map_plain (fun _ => rfl) | (intro x hx; simp at hx; done))) (frAc (by first | exact freeze_plain rfl | exact Ls.freeze Ls.of | exact Ls.freeze Ls.emp | exact Ls.freeze Ls.nls | exact Ls.freeze (by assumption) | exact hS16.frz (k := 0) rfl (by first | exact map_plain (fun _ => rfl) | (intro x hx; simp at hx; done))) (frAc (by first | exact freeze_plain rfl | exact Ls.freeze Ls.of | exact Ls.freeze Ls.emp | exact Ls.freeze Ls.nls | exact Ls.freeze (by assumption) | exact hS16.frz (k := 0) rfl (by first | exact map_plain (fun _ => rfl) | (intro x hx; simp at hx; done))) frAn)))) (by first | exact freeze_plain rfl | exact Ls.freeze (by assumption) | exact Ls.freeze Ls.of | exact Ls.freeze Ls.emp | exact Ls.freeze Ls.nls) ?_)
                first | (rw [if_pos (by omega)] at hq; exact hq) | (rw [if_neg (by omega), if_pos (by omega)] at hq; exact hq) | (rw [if_neg (by omega), if_neg (by omega), bodyM, Cod.far_none hF (by omega) (cI_tkF (by simp_all))] at hq; exact hq) | (rw [if_neg (by omega), if_neg (by omega), bodyM, Cod.far_end hF (by omega)] at hq; simp only at hq; rw [ba_of] at hq; first | (rw [tailM_ok (by assumption) (by assumption) (by omega)] at hq; exact hq) | (rw [tailM_no (by intro a1 a2 a3; first | omega | simp_all)] at hq; exact hq))
theorem rdec_c {s : ByteArray} (hs : s.size ≤ 4611686018427387904) (hq : Q (.tup [(decM s).1.enc, .int .i64 (decM s).2]) H) : CW cfg ν 14 [.str s] H Q := by
  rcases resU_cases s with ⟨k1, k2⟩ | ⟨n, r, k1, k2, hn, hr⟩
  · rw [decM, k1] at hq
    simp only at hq
    refine CW_pure g14 F14 rfl ?_
    have hS0 : Own ν ν (fun _ => none) [] := Own.nil
    refine XW_sr ?_
    refine OW_allocR hS0 (le_app (p := ν) (b := [0, 0])) (under_app [0, 0] under_me) rfl rfl rfl rfl fun H1 hS1 => ?_
    replace hS1 : Own _ _ _ ([_]) := hS1
    refine OW_as rfl rfl ?_
    refine OW_nilE (e' := [_, _, _, _, _, _, _, _, _, _, _, _, _, _, _, _, _, _, _, _, _, _, _, _, _, _, _, _, _, _, _, _, _, _, _, _, _, _, _, _, _, _, _, _, _, _, _, _, _, _, _, _, _, _, _, _, _, _, _, _, _, _, _, _, _, _, _, _, _, _, _, _, _, _, _, _, _, _, _, _, _, _, _, _, _, _]) rfl ?_
    refine XW_sr ?_
    refine OW_bd rfl rfl (v := .agg [_, _, _]) rfl ?_
    refine OW_allocR hS1 (le_lit (ν := ν) (a := [1, 0]) (b := [1, 0, 1]) (by decide)) (under_app [1, 0, 1] under_me) rfl rfl rfl rfl fun H2 hS2 => ?_
    replace hS2 : Own _ _ _ ([_, _]) := hS2
    first
    | refine OW_storeR hS2 (k := 0) rfl le_refl rfl rfl rfl rfl ⟨rfl, rfl, Nat.le_of_ble_eq_true rfl⟩ (set_whole rfl rfl) fun H3 hS3 => ?_
    | refine OW_storeR hS2 (k := 0) rfl le_refl rfl rfl rfl rfl ⟨rfl, rfl, Nat.le_of_ble_eq_true rfl⟩ (u2 := .agg [_, _, _]) rfl fun H3 hS3 => ?_
    replace hS3 : Own _ _ _ ([_, _]) := hS3
    refine OW_nilE (e' := [_, _, _, _, _, _, _, _, _, _, _, _, _, _, _, _, _, _, _, _, _, _, _, _, _, _, _, _, _, _, _, _, _, _, _, _, _, _, _, _, _, _, _, _, _, _, _, _, _, _, _, _, _, _, _, _, _, _, _, _, _, _, _, _, _, _, _, _, _, _, _, _, _, _, _, _, _, _, _, _, _, _, _, _, _, _]) rfl ?_
    refine XW_seq ?_
    refine XW_sr ?_
    refine OW_mv rfl rfl ?_
    refine OW_lenS rfl rfl rfl ?_
    refine OW_bin rfl rfl rfl rfl rfl ?_
    refine OW_nilE (e' := [_, _, _, _, _, _, _, _, _, _, _, _, _, _, _, _, _, _, _, _, _, _, _, _, _, _, _, _, _, _, _, _, _, _, _, _, _, _, _, _, _, _, _, _, _, _, _, _, _, _, _, _, _, _, _, _, _, _, _, _, _, _, _, _, _, _, _, _, _, _, _, _, _, _, _, _, _, _, _, _, _, _, _, _, _, _]) rfl ?_
    refine XW_if rfl (fun h2 => ?_) (fun h2 => ?_)
    · try simp only [decide_eq_true_eq, decide_eq_false_iff_not, Bool.not_eq_true', Bool.not_eq_false', Bool.and_eq_true, Bool.or_eq_true, Bool.not_eq_true, Bool.not_eq_false, Decidable.not_not, bne_iff_ne, beq_iff_eq, List.length_append, List.length_cons, List.length_nil, List.length_drop, List.length_take] at h2
      refine XW_sr ?_
      refine OW_loadR hS3 (k := 0) rfl rfl rfl rfl rfl (by first | exact part_whole rfl rfl rfl | rfl) ?_
      first
      | refine OW_storeR hS3 (k := 1) rfl (le_lit (ν := ν) (a := [3, 0, 1]) (b := [1, 0, 1, 0, 1, 1]) (by decide)) rfl rfl rfl rfl ⟨rfl, rfl, Nat.le_of_ble_eq_true rfl⟩ (set_whole rfl rfl) fun H4 hS4 => ?_
      | refine OW_storeR hS3 (k := 1) rfl (le_lit (ν := ν) (a := [3, 0, 1]) (b := [1, 0, 1, 0, 1, 1]) (by decide)) rfl rfl rfl rfl ⟨rfl, rfl, Nat.le_of_ble_eq_true rfl⟩ (u2 := .agg [_, _, _]) rfl fun H4 hS4 => ?_
      replace hS4 : Own _ _ _ ([_, _]) := hS4
      refine OW_as rfl rfl ?_
      refine OW_nilE (e' := [_, _, _, _, _, _, _, _, _, _, _, _, _, _, _, _, _, _, _, _, _, _, _, _, _, _, _, _, _, _, _, _, _, _, _, _, _, _, _, _, _, _, _, _, _, _, _, _, _, _, _, _, _, _, _, _, _, _, _, _, _, _, _, _, _, _, _, _, _, _, _, _, _, _, _, _, _, _, _, _, _, _, _, _, _, _]) rfl ?_
      refine XW_ret ?_
      refine then_ret ?_
      -- outcome 1
      refine ret_ret (res2 rfl (rv_cellR hS4 (k := 1) rfl rfl rfl rfl (by first | exact part_whole rfl rfl rfl | rfl)) (rv_tmp rfl)) (frz2 (Q := Q) (by first | exact freeze_plain rfl | exact Ls.freeze (by assumption) | exact Ls.freeze Ls.of | exact Ls.freeze Ls.emp | exact Ls.freeze Ls.nls | exact frA (frAc (by first | exact freeze_plain rfl | exact Ls.freeze Ls.of | exact Ls.freeze Ls.emp | exact Ls.freeze Ls.nls | exact Ls.freeze (by assumption)) (frAc (by first | exact freeze_plain rfl | exact Ls.freeze Ls.of | exact Ls.freeze Ls.emp | exact Ls.freeze Ls.nls | exact Ls.freeze (by assumption)) (frAc (by first | exact freeze_plain rfl | exact Ls.freeze Ls.of | exact Ls.freeze Ls.emp | exact Ls.freeze Ls.nls | exact Ls.freeze (by assumption)) frAn)))) (by first | exact freeze_plain rfl | exact Ls.freeze (by assumption) | exact Ls.freeze Ls.of | exact Ls.freeze Ls.emp | exact Ls.freeze Ls.nls) ?_)
      first | (rw [if_pos (by omega)] at hq; exact hq) | (rw [if_neg (by omega)] at hq; exact hq)
    · try simp only [decide_eq_true_eq, decide_eq_false_iff_not, Bool.not_eq_true', Bool.not_eq_false', Bool.and_eq_true, Bool.or_eq_true, Bool.not_eq_true, Bool.not_eq_false, Decidable.not_not, bne_iff_ne, beq_iff_eq, List.length_append, List.length_cons, List.length_nil, List.length_drop, List.length_take] at h2
      refine XW_skip ?_
      refine then_norm ?_
      refine XW_sr ?_
      refine OW_mv rfl rfl ?_
      refine OW_fn rfl rfl (rtakeU_e hs k2 ?_) 
      refine OW_mv rfl rfl ?_
      refine OW_env (e' := [_, _, _, _, _, _, _, _, _, _, _, _, _, _, _, _, _, _, _, _, _, _, _, _, _, _, _, _, _, _, _, _, _, _, _, _, _, _, _, _, _, _, _, _, _, _, _, _, _, _, _, _, _, _, _, _, _, _, _, _, _, _, _, _, _, _, _, _, _, _, _, _, _, _, _, _, _, _, _, _, _, _, _, _, _, _]) rfl ?_
      refine OW_ex rfl rfl rfl ?_
      refine OW_ex rfl rfl rfl ?_
      refine OW_ex rfl rfl rfl ?_
      refine OW_env (e' := [_, _, _, _, _, _, _, _, _, _, _, _, _, _, _, _, _, _, _, _, _, _, _, _, _, _, _, _, _, _, _, _, _, _, _, _, _, _, _, _, _, _, _, _, _, _, _, _, _, _, _, _, _, _, _, _, _, _, _, _, _, _, _, _, _, _, _, _, _, _, _, _, _, _, _, _, _, _, _, _, _, _, _, _, _, _]) rfl ?_
      refine OW_as rfl rfl ?_
      refine OW_as rfl rfl ?_
      refine OW_as rfl rfl ?_
      refine OW_nilE (e' := [_, _, _, _, _, _, _, _, _, _, _, _, _, _, _, _, _, _, _, _, _, _, _, _, _, _, _, _, _, _, _, _, _, _, _, _, _, _, _, _, _, _, _, _, _, _, _, _, _, _, _, _, _, _, _, _, _, _, _, _, _, _, _, _, _, _, _, _, _, _, _, _, _, _, _, _, _, _, _, _, _, _, _, _, _, _]) rfl ?_
      refine XW_seq ?_
      refine XW_sr ?_
      refine OW_mv rfl rfl ?_
      refine OW_un rfl rfl rfl ?_
      refine OW_nilE (e' := [_, _, _, _, _, _, _, _, _, _, _, _, _, _, _, _, _, _, _, _, _, _, _, _, _, _, _, _, _, _, _, _, _, _, _, _, _, _, _, _, _, _, _, _, _, _, _, _, _, _, _, _, _, _, _, _, _, _, _, _, _, _, _, _, _, _, _, _, _, _, _, _, _, _, _, _, _, _, _, _, _, _, _, _, _, _]) rfl ?_
      refine XW_yes rfl rfl ?_
      refine XW_sr ?_
      refine OW_loadR hS3 (k := 0) rfl rfl rfl rfl rfl (by first | exact part_whole rfl rfl rfl | rfl) ?_
      first
      | refine OW_storeR hS3 (k := 1) rfl (le_lit (ν := ν) (a := [3, 0, 1]) (b := [1, 0, 1, 0, 1, 1, 1, 1]) (by decide)) rfl rfl rfl rfl ⟨rfl, rfl, Nat.le_of_ble_eq_true rfl⟩ (set_whole rfl rfl) fun H5 hS5 => ?_
      | refine OW_storeR hS3 (k := 1) rfl (le_lit (ν := ν) (a := [3, 0, 1]) (b := [1, 0, 1, 0, 1, 1, 1, 1]) (by decide)) rfl rfl rfl rfl ⟨rfl, rfl, Nat.le_of_ble_eq_true rfl⟩ (u2 := .agg [_, _, _]) rfl fun H5 hS5 => ?_
      replace hS5 : Own _ _ _ ([_, _]) := hS5
      refine OW_as rfl rfl ?_
      refine OW_nilE (e' := [_, _, _, _, _, _, _, _, _, _, _, _, _, _, _, _, _, _, _, _, _, _, _, _, _, _, _, _, _, _, _, _, _, _, _, _, _, _, _, _, _, _, _, _, _, _, _, _, _, _, _, _, _, _, _, _, _, _, _, _, _, _, _, _, _, _, _, _, _, _, _, _, _, _, _, _, _, _, _, _, _, _, _, _, _, _]) rfl ?_
      refine XW_ret ?_
      refine then_ret ?_
      -- outcome 2
      refine ret_ret (res2 rfl (rv_cellR hS5 (k := 1) rfl rfl rfl rfl (by first | exact part_whole rfl rfl rfl | rfl)) (rv_tmp rfl)) (frz2 (Q := Q) (by first | exact freeze_plain rfl | exact Ls.freeze (by assumption) | exact Ls.freeze Ls.of | exact Ls.freeze Ls.emp | exact Ls.freeze Ls.nls | exact frA (frAc (by first | exact freeze_plain rfl | exact Ls.freeze Ls.of | exact Ls.freeze Ls.emp | exact Ls.freeze Ls.nls | exact Ls.freeze (by assumption)) (frAc (by first | exact freeze_plain rfl | exact Ls.freeze Ls.of | exact Ls.freeze Ls.emp | exact Ls.freeze Ls.nls | exact Ls.freeze (by assumption)) (frAc (by first | exact freeze_plain rfl | exact Ls.freeze Ls.of | exact Ls.freeze Ls.emp | exact Ls.freeze Ls.nls | exact Ls.freeze (by assumption)) frAn)))) (by first | exact freeze_plain rfl | exact Ls.freeze (by assumption) | exact Ls.freeze Ls.of | exact Ls.freeze Ls.emp | exact Ls.freeze Ls.nls) ?_)
      first | (rw [if_pos (by omega)] at hq; exact hq) | (rw [if_neg (by omega)] at hq; exact hq)
  · rw [decM, k1] at hq
    simp only at hq
    have hbr : (ba r).size = r.length := ba_size r
    have hnk := numK_le n
    have hmk := mostK_le n
    have hlk := leastK_le n
    refine CW_pure g14 F14 rfl ?_
    have hS0 : Own ν ν (fun _ => none) [] := Own.nil
    refine XW_sr ?_
    refine OW_allocR hS0 (le_app (p := ν) (b := [0, 0])) (under_app [0, 0] under_me) rfl rfl rfl rfl fun H1 hS1 => ?_
    replace hS1 : Own _ _ _ ([_]) := hS1
    refine OW_as rfl rfl ?_
    refine OW_nilE (e' := [_, _, _, _, _, _, _, _, _, _, _, _, _, _, _, _, _, _, _, _, _, _, _, _, _, _, _, _, _, _, _, _, _, _, _, _, _, _, _, _, _, _, _, _, _, _, _, _, _, _, _, _, _, _, _, _, _, _, _, _, _, _, _, _, _, _, _, _, _, _, _, _, _, _, _, _, _, _, _, _, _, _, _, _, _, _]) rfl ?_
    refine XW_sr ?_
    refine OW_bd rfl rfl (v := .agg [_, _, _]) rfl ?_
    refine OW_allocR hS1 (le_lit (ν := ν) (a := [1, 0]) (b := [1, 0, 1]) (by decide)) (under_app [1, 0, 1] under_me) rfl rfl rfl rfl fun H2 hS2 => ?_
    replace hS2 : Own _ _ _ ([_, _]) := hS2
    first
    | refine OW_storeR hS2 (k := 0) rfl le_refl rfl rfl rfl rfl ⟨rfl, rfl, Nat.le_of_ble_eq_true rfl⟩ (set_whole rfl rfl) fun H3 hS3 => ?_
    | refine OW_storeR hS2 (k := 0) rfl le_refl rfl rfl rfl rfl ⟨rfl, rfl, Nat.le_of_ble_eq_true rfl⟩ (u2 := .agg [_, _, _]) rfl fun H3 hS3 => ?_
    replace hS3 : Own _ _ _ ([_, _]) := hS3
    refine OW_nilE (e' := [_, _, _, _, _, _, _, _, _, _, _, _, _, _, _, _, _, _, _, _, _, _, _, _, _, _, _, _, _, _, _, _, _, _, _, _, _, _, _, _, _, _, _, _, _, _, _, _, _, _, _, _, _, _, _, _, _, _, _, _, _, _, _, _, _, _, _, _, _, _, _, _, _, _, _, _, _, _, _, _, _, _, _, _, _, _]) rfl ?_
    refine XW_seq ?_
    refine XW_sr ?_
    refine OW_mv rfl rfl ?_
    refine OW_lenS rfl rfl rfl ?_
    refine OW_bin rfl rfl rfl rfl rfl ?_
    refine OW_nilE (e' := [_, _, _, _, _, _, _, _, _, _, _, _, _, _, _, _, _, _, _, _, _, _, _, _, _, _, _, _, _, _, _, _, _, _, _, _, _, _, _, _, _, _, _, _, _, _, _, _, _, _, _, _, _, _, _, _, _, _, _, _, _, _, _, _, _, _, _, _, _, _, _, _, _, _, _, _, _, _, _, _, _, _, _, _, _, _]) rfl ?_
    refine XW_if rfl (fun h2 => ?_) (fun h2 => ?_)
    · try simp only [decide_eq_true_eq, decide_eq_false_iff_not, Bool.not_eq_true', Bool.not_eq_false', Bool.and_eq_true, Bool.or_eq_true, Bool.not_eq_true, Bool.not_eq_false, Decidable.not_not, bne_iff_ne, beq_iff_eq, List.length_append, List.length_cons, List.length_nil, List.length_drop, List.length_take] at h2
      refine XW_sr ?_
      refine OW_loadR hS3 (k := 0) rfl rfl rfl rfl rfl (by first | exact part_whole rfl rfl rfl | rfl) ?_
      first
      | refine OW_storeR hS3 (k := 1) rfl (le_lit (ν := ν) (a := [3, 0, 1]) (b := [1, 0, 1, 0, 1, 1]) (by decide)) rfl rfl rfl rfl ⟨rfl, rfl, Nat.le_of_ble_eq_true rfl⟩ (set_whole rfl rfl) fun H4 hS4 => ?_
      | refine OW_storeR hS3 (k := 1) rfl (le_lit (ν := ν) (a := [3, 0, 1]) (b := [1, 0, 1, 0, 1, 1]) (by decide)) rfl rfl rfl rfl ⟨rfl, rfl, Nat.le_of_ble_eq_true rfl⟩ (u2 := .agg [_, _, _]) rfl fun H4 hS4 => ?_
      replace hS4 : Own _ _ _ ([_, _]) := hS4
      refine OW_as rfl rfl ?_
      refine OW_nilE (e' := [_, _, _, _, _, _, _, _, _, _, _, _, _, _, _, _, _, _, _, _, _, _, _, _, _, _, _, _, _, _, _, _, _, _, _, _, _, _, _, _, _, _, _, _, _, _, _, _, _, _, _, _, _, _, _, _, _, _, _, _, _, _, _, _, _, _, _, _, _, _, _, _, _, _, _, _, _, _, _, _, _, _, _, _, _, _]) rfl ?_
      refine XW_ret ?_
      refine then_ret ?_
      -- outcome 1
      refine ret_ret (res2 rfl (rv_cellR hS4 (k := 1) rfl rfl rfl rfl (by first | exact part_whole rfl rfl rfl | rfl)) (rv_tmp rfl)) (frz2 (Q := Q) (by first | exact freeze_plain rfl | exact Ls.freeze (by assumption) | exact Ls.freeze Ls.of | exact Ls.freeze Ls.emp | exact Ls.freeze Ls.nls | exact frA (frAc (by first | exact freeze_plain rfl | exact Ls.freeze Ls.of | exact Ls.freeze Ls.emp | exact Ls.freeze Ls.nls | exact Ls.freeze (by assumption)) (frAc (by first | exact freeze_plain rfl | exact Ls.freeze Ls.of | exact Ls.freeze Ls.emp | exact Ls.freeze Ls.nls | exact Ls.freeze (by assumption)) (frAc (by first | exact freeze_plain rfl | exact Ls.freeze Ls.of | exact Ls.freeze Ls.emp | exact Ls.freeze Ls.nls | exact Ls.freeze (by assumption)) frAn)))) (by first | exact freeze_plain rfl | exact Ls.freeze (by assumption) | exact Ls.freeze Ls.of | exact Ls.freeze Ls.emp | exact Ls.freeze Ls.nls) ?_)
      first | (rw [if_pos (by omega)] at hq; exact hq) | (rw [if_neg (by omega), if_pos (by omega)] at hq; exact hq) | (rw [if_neg (by omega), if_neg (by omega), bodyM, Cod.far_none hF (by omega) (cI_tkF (by simp_all))] at hq; exact hq) | (rw [if_neg (by omega), if_neg (by omega), bodyM, Cod.far_end hF (by omega)] at hq; simp only at hq; rw [ba_of] at hq; first | (rw [tailM_ok (by assumption) (by assumption) (by omega)] at hq; exact hq) | (rw [tailM_no (by intro a1 a2 a3; first | omega | simp_all)] at hq; exact hq))
    · try simp only [decide_eq_true_eq, decide_eq_false_iff_not, Bool.not_eq_true', Bool.not_eq_false', Bool.and_eq_true, Bool.or_eq_true, Bool.not_eq_true, Bool.not_eq_false, Decidable.not_not, bne_iff_ne, beq_iff_eq, List.length_append, List.length_cons, List.length_nil, List.length_drop, List.length_take] at h2
      refine XW_skip ?_
      refine then_norm ?_
      refine XW_sr ?_
      refine OW_mv rfl rfl ?_
      refine OW_fn rfl rfl (rtakeU_e hs k2 ?_) 
      refine OW_mv rfl rfl ?_
      refine OW_env (e' := [_, _, _, _, _, _, _, _, _, _, _, _, _, _, _, _, _, _, _, _, _, _, _, _, _, _, _, _, _, _, _, _, _, _, _, _, _, _, _, _, _, _, _, _, _, _, _, _, _, _, _, _, _, _, _, _, _, _, _, _, _, _, _, _, _, _, _, _, _, _, _, _, _, _, _, _, _, _, _, _, _, _, _, _, _, _]) rfl ?_
      refine OW_ex rfl rfl rfl ?_
      refine OW_ex rfl rfl rfl ?_
      refine OW_ex rfl rfl rfl ?_
      refine OW_env (e' := [_, _, _, _, _, _, _, _, _, _, _, _, _, _, _, _, _, _, _, _, _, _, _, _, _, _, _, _, _, _, _, _, _, _, _, _, _, _, _, _, _, _, _, _, _, _, _, _, _, _, _, _, _, _, _, _, _, _, _, _, _, _, _, _, _, _, _, _, _, _, _, _, _, _, _, _, _, _, _, _, _, _, _, _, _, _]) rfl ?_
      refine OW_as rfl rfl ?_
      refine OW_as rfl rfl ?_
      refine OW_as rfl rfl ?_
      refine OW_nilE (e' := [_, _, _, _, _, _, _, _, _, _, _, _, _, _, _, _, _, _, _, _, _, _, _, _, _, _, _, _, _, _, _, _, _, _, _, _, _, _, _, _, _, _, _, _, _, _, _, _, _, _, _, _, _, _, _, _, _, _, _, _, _, _, _, _, _, _, _, _, _, _, _, _, _, _, _, _, _, _, _, _, _, _, _, _, _, _]) rfl ?_
      refine XW_seq ?_
      refine XW_sr ?_
      refine OW_mv rfl rfl ?_
      refine OW_un rfl rfl rfl ?_
      refine OW_nilE (e' := [_, _, _, _, _, _, _, _, _, _, _, _, _, _, _, _, _, _, _, _, _, _, _, _, _, _, _, _, _, _, _, _, _, _, _, _, _, _, _, _, _, _, _, _, _, _, _, _, _, _, _, _, _, _, _, _, _, _, _, _, _, _, _, _, _, _, _, _, _, _, _, _, _, _, _, _, _, _, _, _, _, _, _, _, _, _]) rfl ?_
      refine XW_no rfl rfl ?_
      refine XW_skip ?_
      refine then_norm ?_
      refine XW_seq ?_
      refine XW_sr ?_
      refine OW_mv rfl rfl ?_
      refine OW_bin rfl rfl rfl rfl rfl ?_
      refine OW_nilE (e' := [_, _, _, _, _, _, _, _, _, _, _, _, _, _, _, _, _, _, _, _, _, _, _, _, _, _, _, _, _, _, _, _, _, _, _, _, _, _, _, _, _, _, _, _, _, _, _, _, _, _, _, _, _, _, _, _, _, _, _, _, _, _, _, _, _, _, _, _, _, _, _, _, _, _, _, _, _, _, _, _, _, _, _, _, _, _]) rfl ?_
      refine XW_if rfl (fun h7 => ?_) (fun h7 => ?_)
      · try simp only [decide_eq_true_eq, decide_eq_false_iff_not, Bool.not_eq_true', Bool.not_eq_false', Bool.and_eq_true, Bool.or_eq_true, Bool.not_eq_true, Bool.not_eq_false, Decidable.not_not, bne_iff_ne, beq_iff_eq, List.length_append, List.length_cons, List.length_nil, List.length_drop, List.length_take] at h7
        refine XW_sr ?_
        refine OW_loadR hS3 (k := 0) rfl rfl rfl rfl rfl (by first | exact part_whole rfl rfl rfl | rfl) ?_
        first
        | refine OW_storeR hS3 (k := 1) rfl (le_lit (ν := ν) (a := [3, 0, 1]) (b := [1, 0, 1, 0, 1, 1, 1, 1, 1]) (by decide)) rfl rfl rfl rfl ⟨rfl, rfl, Nat.le_of_ble_eq_true rfl⟩ (set_whole rfl rfl) fun H5 hS5 => ?_
        | refine OW_storeR hS3 (k := 1) rfl (le_lit (ν := ν) (a := [3, 0, 1]) (b := [1, 0, 1, 0, 1, 1, 1, 1, 1]) (by decide)) rfl rfl rfl rfl ⟨rfl, rfl, Nat.le_of_ble_eq_true rfl⟩ (u2 := .agg [_, _, _]) rfl fun H5 hS5 => ?_
        replace hS5 : Own _ _ _ ([_, _]) := hS5
        refine OW_as rfl rfl ?_
        refine OW_nilE (e' := [_, _, _, _, _, _, _, _, _, _, _, _, _, _, _, _, _, _, _, _, _, _, _, _, _, _, _, _, _, _, _, _, _, _, _, _, _, _, _, _, _, _, _, _, _, _, _, _, _, _, _, _, _, _, _, _, _, _, _, _, _, _, _, _, _, _, _, _, _, _, _, _, _, _, _, _, _, _, _, _, _, _, _, _, _, _]) rfl ?_
        refine XW_ret ?_
        refine then_ret ?_
        -- outcome 2
        refine ret_ret (res2 rfl (rv_cellR hS5 (k := 1) rfl rfl rfl rfl (by first | exact part_whole rfl rfl rfl | rfl)) (rv_tmp rfl)) (frz2 (Q := Q) (by first | exact freeze_plain rfl | exact Ls.freeze (by assumption) | exact Ls.freeze Ls.of | exact Ls.freeze Ls.emp | exact Ls.freeze Ls.nls | exact frA (frAc (by first | exact freeze_plain rfl | exact Ls.freeze Ls.of | exact Ls.freeze Ls.emp | exact Ls.freeze Ls.nls | exact Ls.freeze (by assumption)) (frAc (by first | exact freeze_plain rfl | exact Ls.freeze Ls.of | exact Ls.freeze Ls.emp | exact Ls.freeze Ls.nls | exact Ls.freeze (by assumption)) (frAc (by first | exact freeze_plain rfl | exact Ls.freeze Ls.of | exact Ls.freeze Ls.emp | exact Ls.freeze Ls.nls | exact Ls.freeze (by assumption)) frAn)))) (by first | exact freeze_plain rfl | exact Ls.freeze (by assumption) | exact Ls.freeze Ls.of | exact Ls.freeze Ls.emp | exact Ls.freeze Ls.nls) ?_)
        first | (rw [if_pos (by omega)] at hq; exact hq) | (rw [if_neg (by omega), if_pos (by omega)] at hq; exact hq) | (rw [if_neg (by omega), if_neg (by omega), bodyM, Cod.far_none hF (by omega) (cI_tkF (by simp_all))] at hq; exact hq) | (rw [if_neg (by omega), if_neg (by omega), bodyM, Cod.far_end hF (by omega)] at hq; simp only at hq; rw [ba_of] at hq; first | (rw [tailM_ok (by assumption) (by assumption) (by omega)] at hq; exact hq) | (rw [tailM_no (by intro a1 a2 a3; first | omega | simp_all)] at hq; exact hq))
      · try simp only [decide_eq_true_eq, decide_eq_false_iff_not, Bool.not_eq_true', Bool.not_eq_false', Bool.and_eq_true, Bool.or_eq_true, Bool.not_eq_true, Bool.not_eq_false, Decidable.not_not, bne_iff_ne, beq_iff_eq, List.length_append, List.length_cons, List.length_nil, List.length_drop, List.length_take] at h7
        refine XW_skip ?_
        refine then_norm ?_
        refine XW_sr ?_
        refine OW_mv rfl rfl ?_
        first
        | refine OW_conv rfl rfl (conv_in rfl rfl rfl (IntWalk.i64_in _ (by omega))) ?_
        | refine OW_conv rfl rfl rfl ?_
        refine OW_bd rfl rfl (v := .agg [_, _, _]) rfl ?_
        refine OW_env (e' := [_, _, _, _, _, _, _, _, _, _, _, _, _, _, _, _, _, _, _, _, _, _, _, _, _, _, _, _, _, _, _, _, _, _, _, _, _, _, _, _, _, _, _, _, _, _, _, _, _, _, _, _, _, _, _, _, _, _, _, _, _, _, _, _, _, _, _, _, _, _, _, _, _, _, _, _, _, _, _, _, _, _, _, _, _, _]) rfl ?_
        refine OW_allocR hS3 (le_lit (ν := ν) (a := [3, 0, 1]) (b := [3, 0, 1, 1, 1, 1, 1, 1]) (by decide)) (under_app [3, 0, 1, 1, 1, 1, 1, 1] under_me) rfl rfl rfl rfl fun H6 hS6 => ?_
        replace hS6 : Own _ _ _ ([_, _, _]) := hS6
        first
        | refine OW_storeR hS6 (k := 0) rfl le_refl rfl rfl rfl rfl ⟨rfl, rfl, Nat.le_of_ble_eq_true rfl⟩ (set_whole rfl rfl) fun H7 hS7 => ?_
        | refine OW_storeR hS6 (k := 0) rfl le_refl rfl rfl rfl rfl ⟨rfl, rfl, Nat.le_of_ble_eq_true rfl⟩ (u2 := .agg [_, _, _]) rfl fun H7 hS7 => ?_
        replace hS7 : Own _ _ _ ([_, _, _]) := hS7
        refine OW_nilE (e' := [_, _, _, _, _, _, _, _, _, _, _, _, _, _, _, _, _, _, _, _, _, _, _, _, _, _, _, _, _, _, _, _, _, _, _, _, _, _, _, _, _, _, _, _, _, _, _, _, _, _, _, _, _, _, _, _, _, _, _, _, _, _, _, _, _, _, _, _, _, _, _, _, _, _, _, _, _, _, _, _, _, _, _, _, _, _]) rfl ?_
        refine XW_seq ?_
        refine XW_sr ?_
        refine OW_as rfl rfl ?_
        refine OW_nilE (e' := [_, _, _, _, _, _, _, _, _, _, _, _, _, _, _, _, _, _, _, _, _, _, _, _, _, _, _, _, _, _, _, _, _, _, _, _, _, _, _, _, _, _, _, _, _, _, _, _, _, _, _, _, _, _, _, _, _, _, _, _, _, _, _, _, _, _, _, _, _, _, _, _, _, _, _, _, _, _, _, _, _, _, _, _, _, _]) rfl ?_
        refine XW_block ?_
        refine XW_whileN (I := fun ν' mm ee H' => ∃ (i : Nat) (O : AVal) (acc : List Int) (rest : ByteArray), mm = numK n - i ∧ under (1 :: 0 :: 1 :: 1 :: 1 :: 1 :: 1 :: 1 :: 1 :: ν) ν' = true ∧ Own ν ν' H' ([sl O 1 (acc.map (AVal.int .u64)), row (3 :: 0 :: 1 :: 1 :: 1 :: 1 :: 1 :: 1 :: ν) 3 [.agg [.int .i64 n, O, .emp]], row (1 :: 0 :: 1 :: ν) 3 [.agg [.int .i64 0, .emp, .emp]], row (0 :: 0 :: ν) 3 [.agg [.int .i64 0, .emp, .emp]]]) ∧ (cI.Far (numK n) r i acc rest.data.toList ∧ rest.size ≤ s.size) ∧ ∃ g : Nat → AVal, ee = [g 0, g 1, .ptr (0 :: 0 :: ν) 0 0, g 3, .ptr (1 :: 0 :: 1 :: ν) 0 0, g 5, .str rest, g 7, .ptr (3 :: 0 :: 1 :: 1 :: 1 :: 1 :: 1 :: 1 :: ν) 0 0, .int .i64 i, g 10, g 11, g 12, g 13, g 14, g 15, g 16, g 17, g 18, g 19, g 20, g 21, g 22, g 23, g 24, g 25, g 26, g 27, g 28, g 29, g 30, g 31, g 32, g 33, g 34, g 35, g 36, g 37, g 38, g 39, g 40, g 41, g 42, g 43, g 44, g 45, g 46, g 47, g 48, g 49, g 50, g 51, g 52, g 53, g 54, g 55, g 56, g 57, g 58, g 59, g 60, g 61, g 62, g 63, g 64, g 65, g 66, g 67, g 68, g 69, g 70, g 71, g 72, g 73, g 74, g 75, g 76, g 77, g 78, g 79, g 80, g 81, g 82, g 83, g 84, g 85]) ?_ _ _ _ _ ⟨0, .emp, [], ba r, rfl, under_me, Own.cast (Own.mono (hS7.addE) (le_lit (ν := ν) (a := [5, 0, 1, 1, 1, 1, 1, 1]) (b := [1, 0, 1, 1, 1, 1, 1, 1, 1]) (by decide))) (rfl), (⟨by rw [ba_data]; exact cI.far0 _ r, by omega⟩), env_g rfl⟩
        rintro ν1 mm ee H8 ⟨i, O, acc, rest, rfl, hU1, hS8, ⟨hF, hrs⟩, g1, rfl⟩
        refine XW_seq ?_
        refine XW_sr ?_
        refine OW_mv rfl rfl ?_
        refine OW_fa rfl rfl rfl ?_
        refine OW_loadR hS8 (k := 1) rfl rfl rfl rfl rfl (by first | exact part_whole rfl rfl rfl | rfl) ?_
        refine OW_env (e' := [_, _, _, _, _, _, _, _, _, _, _, _, _, _, _, _, _, _, _, _, _, _, _, _, _, _, _, _, _, _, _, _, _, _, _, _, _, _, _, _, _, _, _, _, _, _, _, _, _, _, _, _, _, _, _, _, _, _, _, _, _, _, _, _, _, _, _, _, _, _, _, _, _, _, _, _, _, _, _, _, _, _, _, _, _, _]) rfl ?_
        refine OW_fn rfl rfl (rnums_c (by omega) ?_) 
        refine OW_bin rfl rfl rfl rfl rfl ?_
        refine OW_nilE (e' := [_, _, _, _, _, _, _, _, _, _, _, _, _, _, _, _, _, _, _, _, _, _, _, _, _, _, _, _, _, _, _, _, _, _, _, _, _, _, _, _, _, _, _, _, _, _, _, _, _, _, _, _, _, _, _, _, _, _, _, _, _, _, _, _, _, _, _, _, _, _, _, _, _, _, _, _, _, _, _, _, _, _, _, _, _, _]) rfl ?_
        refine XW_if rfl (fun h11 => ?_) (fun h11 => ?_)
        · try simp only [decide_eq_true_eq, decide_eq_false_iff_not, Bool.not_eq_true', Bool.not_eq_false', Bool.and_eq_true, Bool.or_eq_true, Bool.not_eq_true, Bool.not_eq_false, Decidable.not_not, bne_iff_ne, beq_iff_eq, List.length_append, List.length_cons, List.length_nil, List.length_drop, List.length_take] at h11
          refine XW_skip ?_
          refine then_norm ?_
          refine XW_seq ?_
          refine XW_block ?_
          refine XW_sr ?_
          have z1 := resU_size rest; have hal := hF.2.1; have hin := hF.1
          refine OW_mv rfl rfl ?_
          refine OW_fn rfl rfl (rtakeU (by omega) ?_) 
          refine OW_mv rfl rfl ?_
          refine OW_env (e' := [_, _, _, _, _, _, _, _, _, _, _, _, _, _, _, _, _, _, _, _, _, _, _, _, _, _, _, _, _, _, _, _, _, _, _, _, _, _, _, _, _, _, _, _, _, _, _, _, _, _, _, _, _, _, _, _, _, _, _, _, _, _, _, _, _, _, _, _, _, _, _, _, _, _, _, _, _, _, _, _, _, _, _, _, _, _]) rfl ?_
          refine OW_ex rfl rfl rfl ?_
          refine OW_ex rfl rfl rfl ?_
          refine OW_ex rfl rfl rfl ?_
          refine OW_env (e' := [_, _, _, _, _, _, _, _, _, _, _, _, _, _, _, _, _, _, _, _, _, _, _, _, _, _, _, _, _, _, _, _, _, _, _, _, _, _, _, _, _, _, _, _, _, _, _, _, _, _, _, _, _, _, _, _, _, _, _, _, _, _, _, _, _, _, _, _, _, _, _, _, _, _, _, _, _, _, _, _, _, _, _, _, _, _]) rfl ?_
          refine OW_as rfl rfl ?_
          refine OW_as rfl rfl ?_
          refine OW_as rfl rfl ?_
          refine OW_nilE (e' := [_, _, _, _, _, _, _, _, _, _, _, _, _, _, _, _, _, _, _, _, _, _, _, _, _, _, _, _, _, _, _, _, _, _, _, _, _, _, _, _, _, _, _, _, _, _, _, _, _, _, _, _, _, _, _, _, _, _, _, _, _, _, _, _, _, _, _, _, _, _, _, _, _, _, _, _, _, _, _, _, _, _, _, _, _, _]) rfl ?_
          refine XW_seq ?_
          refine XW_sr ?_
          refine OW_mv rfl rfl ?_
          refine OW_un rfl rfl rfl ?_
          refine OW_nilE (e' := [_, _, _, _, _, _, _, _, _, _, _, _, _, _, _, _, _, _, _, _, _, _, _, _, _, _, _, _, _, _, _, _, _, _, _, _, _, _, _, _, _, _, _, _, _, _, _, _, _, _, _, _, _, _, _, _, _, _, _, _, _, _, _, _, _, _, _, _, _, _, _, _, _, _, _, _, _, _, _, _, _, _, _, _, _, _]) rfl ?_
          refine XW_if rfl (fun h14 => ?_) (fun h14 => ?_)
          · try simp only [decide_eq_true_eq, decide_eq_false_iff_not, Bool.not_eq_true', Bool.not_eq_false', Bool.and_eq_true, Bool.or_eq_true, Bool.not_eq_true, Bool.not_eq_false, Decidable.not_not, bne_iff_ne, beq_iff_eq, List.length_append, List.length_cons, List.length_nil, List.length_drop, List.length_take] at h14
            refine XW_sr ?_
            refine OW_loadR hS8 (k := 2) rfl rfl rfl rfl rfl (by first | exact part_whole rfl rfl rfl | rfl) ?_
            first
            | refine OW_storeR hS8 (k := 3) rfl (le_app (p := ν1) (b := [1, 0, 1, 0, 1, 0, 1, 0])) rfl rfl rfl rfl ⟨rfl, rfl, Nat.le_of_ble_eq_true rfl⟩ (set_whole rfl rfl) fun H9 hS9 => ?_
            | refine OW_storeR hS8 (k := 3) rfl (le_app (p := ν1) (b := [1, 0, 1, 0, 1, 0, 1, 0])) rfl rfl rfl rfl ⟨rfl, rfl, Nat.le_of_ble_eq_true rfl⟩ (u2 := .agg [_, _, _]) rfl fun H9 hS9 => ?_
            replace hS9 : Own _ _ _ ([_, _, _, _]) := hS9
            refine OW_as rfl rfl ?_
            refine OW_nilE (e' := [_, _, _, _, _, _, _, _, _, _, _, _, _, _, _, _, _, _, _, _, _, _, _, _, _, _, _, _, _, _, _, _, _, _, _, _, _, _, _, _, _, _, _, _, _, _, _, _, _, _, _, _, _, _, _, _, _, _, _, _, _, _, _, _, _, _, _, _, _, _, _, _, _, _, _, _, _, _, _, _, _, _, _, _, _, _]) rfl ?_
            refine XW_ret ?_
            refine then_ret ?_
            refine block_ret ?_
            refine then_ret ?_
            refine block_ret ?_
            refine then_ret ?_
            -- outcome 3
            refine ret_ret (res2 rfl (rv_cellR hS9 (k := 3) rfl rfl rfl rfl (by first | exact part_whole rfl rfl rfl | rfl)) (rv_tmp rfl)) (frz2 (Q := Q) (by first | exact freeze_plain rfl | exact Ls.freeze (by assumption) | exact Ls.freeze Ls.of | exact Ls.freeze Ls.emp | exact Ls.freeze Ls.nls | exact frA (frAc (by first | exact freeze_plain rfl | exact Ls.freeze Ls.of | exact Ls.freeze Ls.emp | exact Ls.freeze Ls.nls | exact Ls.freeze (by assumption) | exact hS9.frz (k := 0) rfl (by first | exact map_plain (fun _ => rfl) | (intro x hx; simp at hx; done))) (frAc (by first | exact freeze_plain rfl | exact Ls.freeze Ls.of | exact Ls.freeze Ls.emp | exact Ls.freeze Ls.nls | exact Ls.freeze (by assumption) | exact hS9.frz (k := 0) rfl (by first | exact map_plain (fun _ => rfl) | (intro x hx; simp at hx; done))) (frAc (by first | exact freeze_plain rfl | exact Ls.freeze Ls.of | exact Ls.freeze Ls.emp | exact Ls.freeze Ls.nls | exact Ls.freeze (by assumption) | exact hS9.frz (k := 0) rfl (by first | exact map_plain (fun _ => rfl) | (intro x hx; simp at hx; done))) frAn)))) (by first | exact freeze_plain rfl | exact Ls.freeze (by assumption) | exact Ls.freeze Ls.of | exact Ls.freeze Ls.emp | exact Ls.freeze Ls.nls) ?_)
            first | (rw [if_pos (by omega)] at hq; exact hq) | (rw [if_neg (by omega), if_pos (by omega)] at hq; exact hq) | (rw [if_neg (by omega), if_neg (by omega), bodyM, Cod.far_none hF (by omega) (cI_tkF (by simp_all))] at hq; exact hq) | (rw [if_neg (by omega), if_neg (by omega), bodyM, Cod.far_end hF (by omega)] at hq; simp only at hq; rw [ba_of] at hq; first | (rw [tailM_ok (by assumption) (by assumption) (by omega)] at hq; exact hq) | (rw [tailM_no (by intro a1 a2 a3; first | omega | simp_all)] at hq; exact hq))
          · try simp only [decide_eq_true_eq, decide_eq_false_iff_not, Bool.not_eq_true', Bool.not_eq_false', Bool.and_eq_true, Bool.or_eq_true, Bool.not_eq_true, Bool.not_eq_false, Decidable.not_not, bne_iff_ne, beq_iff_eq, List.length_append, List.length_cons, List.length_nil, List.length_drop, List.length_take] at h14
            refine XW_skip ?_
            refine then_norm ?_
            refine XW_sr ?_
            refine OW_fa rfl rfl rfl ?_
            refine OW_loadR hS8 (k := 1) rfl rfl rfl rfl rfl (by first | exact part_whole rfl rfl rfl | rfl) ?_
            refine OW_mv rfl rfl ?_
            refine OW_env (e' := [_, _, _, _, _, _, _, _, _, _, _, _, _, _, _, _, _, _, _, _, _, _, _, _, _, _, _, _, _, _, _, _, _, _, _, _, _, _, _, _, _, _, _, _, _, _, _, _, _, _, _, _, _, _, _, _, _, _, _, _, _, _, _, _, _, _, _, _, _, _, _, _, _, _, _, _, _, _, _, _, _, _, _, _, _, _]) rfl ?_
            refine OW_bs rfl rfl (v := .lst [_]) rfl ?_
            refine OW_app hS8 (k := 0) rfl (le_app (p := ν1) (b := [4, 0, 1, 1, 0, 1, 0])) (under_app [4, 0, 1, 1, 0, 1, 0] (under_trans (under_app [1, 0, 1, 1, 1, 1, 1, 1, 1] under_me) hU1)) rfl rfl rfl rfl rfl rfl rfl rfl (by first | rfl | exact Ls.elems (by assumption)) (by first | exact one_wide rfl | exact map_wide (fun _ => rfl) | assumption | (intro y hy; simp at hy; done)) (by first | omega | (simp only [List.length_map, List.length_append, List.length_singleton, List.length_cons, List.length_nil, List.length_take, List.length_drop]; omega) | (simp; omega)) (by decide) fun O1 H10 hS10 => ?_
            replace hS10 : Own _ _ _ ([_, _, _, _]) := hS10
            refine OW_fa rfl rfl rfl ?_
            refine OW_env (e' := [_, _, _, _, _, _, _, _, _, _, _, _, _, _, _, _, _, _, _, _, _, _, _, _, _, _, _, _, _, _, _, _, _, _, _, _, _, _, _, _, _, _, _, _, _, _, _, _, _, _, _, _, _, _, _, _, _, _, _, _, _, _, _, _, _, _, _, _, _, _, _, _, _, _, _, _, _, _, _, _, _, _, _, _, _, _]) rfl ?_
            refine OW_storeC hS10 (k := 1) rfl (le_lit (ν := ν1) (a := [5, 0, 1, 1, 0, 1, 0]) (b := [6, 0, 1, 1, 0, 1, 0]) (by decide)) rfl rfl rfl (hS10.one (k := 0) rfl) rfl rfl (Nat.le_of_ble_eq_true rfl) (u2 := .agg [_, _, _]) rfl fun H11 hS11 => ?_
            replace hS11 : Own _ _ _ ([_, _, _, _]) := hS11
            refine OW_nilE (e' := [_, _, _, _, _, _, _, _, _, _, _, _, _, _, _, _, _, _, _, _, _, _, _, _, _, _, _, _, _, _, _, _, _, _, _, _, _, _, _, _, _, _, _, _, _, _, _, _, _, _, _, _, _, _, _, _, _, _, _, _, _, _, _, _, _, _, _, _, _, _, _, _, _, _, _, _, _, _, _, _, _, _, _, _, _, _]) rfl ?_
            refine XW_region ?_
            refine OW_mv rfl rfl ?_
            refine OW_as rfl rfl ?_
            refine OW_nilE (e' := [_, _, _, _, _, _, _, _, _, _, _, _, _, _, _, _, _, _, _, _, _, _, _, _, _, _, _, _, _, _, _, _, _, _, _, _, _, _, _, _, _, _, _, _, _, _, _, _, _, _, _, _, _, _, _, _, _, _, _, _, _, _, _, _, _, _, _, _, _, _, _, _, _, _, _, _, _, _, _, _, _, _, _, _, _, _]) rfl ?_
            refine block_norm ?_
            refine then_norm ?_
            refine XW_region ?_
            refine OW_mv rfl rfl ?_
            first
            | refine OW_bin rfl rfl rfl rfl (add_w64 (by first | omega | assumption | (simp only [ByteArray.size_append, ByteArray.size_extract, List.length_map, List.length_append, List.length_cons, List.length_nil, List.length_drop, List.length_take]; omega))) ?_
            | refine OW_bin rfl rfl rfl rfl rfl ?_
            refine OW_as rfl rfl ?_
            refine OW_nilE (e' := [_, _, _, _, _, _, _, _, _, _, _, _, _, _, _, _, _, _, _, _, _, _, _, _, _, _, _, _, _, _, _, _, _, _, _, _, _, _, _, _, _, _, _, _, _, _, _, _, _, _, _, _, _, _, _, _, _, _, _, _, _, _, _, _, _, _, _, _, _, _, _, _, _, _, _, _, _, _, _, _, _, _, _, _, _, _]) rfl ?_
            -- round 0.1
            refine ⟨_, ?_, i + 1, O1, acc ++ [(resU rest).1], _, rfl, under_in hU1, Own.cast (Own.mono (hS11) (le_lit (ν := ν1) (a := [7, 0, 1, 1, 0, 1, 0]) (b := [1]) (by decide))) (by simp), ?_, env_g rfl⟩
            · first | omega | (simp; omega)
            · exact ⟨Cod.far_step hF (by omega) (cI_tkT (by assumption)), by omega⟩
        · try simp only [decide_eq_true_eq, decide_eq_false_iff_not, Bool.not_eq_true', Bool.not_eq_false', Bool.and_eq_true, Bool.or_eq_true, Bool.not_eq_true, Bool.not_eq_false, Decidable.not_not, bne_iff_ne, beq_iff_eq, List.length_append, List.length_cons, List.length_nil, List.length_drop, List.length_take] at h11
          refine XW_exit ?_
          refine then_exit ?_
          refine block_exit ?_
          refine then_norm ?_
          refine XW_sr ?_
          refine OW_mv rfl rfl ?_
          refine OW_fa rfl rfl rfl ?_
          refine OW_loadR hS8 (k := 1) rfl rfl rfl rfl rfl (by first | exact part_whole rfl rfl rfl | rfl) ?_
          refine OW_env (e' := [_, _, _, _, _, _, _, _, _, _, _, _, _, _, _, _, _, _, _, _, _, _, _, _, _, _, _, _, _, _, _, _, _, _, _, _, _, _, _, _, _, _, _, _, _, _, _, _, _, _, _, _, _, _, _, _, _, _, _, _, _, _, _, _, _, _, _, _, _, _, _, _, _, _, _, _, _, _, _, _, _, _, _, _, _, _]) rfl ?_
          refine OW_fn rfl rfl (rmost_c ?_) 
          refine OW_fn rfl rfl (rtakeL_c (by omega) (by omega) (by omega) ?_) 
          refine OW_mv rfl rfl ?_
          refine OW_env (e' := [_, _, _, _, _, _, _, _, _, _, _, _, _, _, _, _, _, _, _, _, _, _, _, _, _, _, _, _, _, _, _, _, _, _, _, _, _, _, _, _, _, _, _, _, _, _, _, _, _, _, _, _, _, _, _, _, _, _, _, _, _, _, _, _, _, _, _, _, _, _, _, _, _, _, _, _, _, _, _, _, _, _, _, _, _, _]) rfl ?_
          refine OW_ex rfl rfl rfl ?_
          refine OW_ex rfl rfl rfl ?_
          refine OW_ex rfl rfl rfl ?_
          refine OW_env (e' := [_, _, _, _, _, _, _, _, _, _, _, _, _, _, _, _, _, _, _, _, _, _, _, _, _, _, _, _, _, _, _, _, _, _, _, _, _, _, _, _, _, _, _, _, _, _, _, _, _, _, _, _, _, _, _, _, _, _, _, _, _, _, _, _, _, _, _, _, _, _, _, _, _, _, _, _, _, _, _, _, _, _, _, _, _, _]) rfl ?_
          refine OW_as rfl rfl ?_
          refine OW_as rfl rfl ?_
          refine OW_as rfl rfl ?_
          refine OW_nilE (e' := [_, _, _, _, _, _, _, _, _, _, _, _, _, _, _, _, _, _, _, _, _, _, _, _, _, _, _, _, _, _, _, _, _, _, _, _, _, _, _, _, _, _, _, _, _, _, _, _, _, _, _, _, _, _, _, _, _, _, _, _, _, _, _, _, _, _, _, _, _, _, _, _, _, _, _, _, _, _, _, _, _, _, _, _, _, _]) rfl ?_
          refine XW_seq ?_
          refine XW_sr ?_
          refine OW_mv rfl rfl ?_
          refine OW_un rfl rfl rfl ?_
          refine OW_mv rfl rfl ?_
          refine OW_env (e' := [_, _, _, _, _, _, _, _, _, _, _, _, _, _, _, _, _, _, _, _, _, _, _, _, _, _, _, _, _, _, _, _, _, _, _, _, _, _, _, _, _, _, _, _, _, _, _, _, _, _, _, _, _, _, _, _, _, _, _, _, _, _, _, _, _, _, _, _, _, _, _, _, _, _, _, _, _, _, _, _, _, _, _, _, _, _]) rfl ?_
          refine OW_split (tt := 70) rfl (fun g19_3 => ?_) (fun g19_3 => ?_)
          · try simp only [decide_eq_true_eq, decide_eq_false_iff_not, Bool.not_eq_true', Bool.not_eq_false', Bool.and_eq_true, Bool.or_eq_true, Bool.not_eq_true, Bool.not_eq_false, Decidable.not_not, bne_iff_ne, beq_iff_eq, List.length_append, List.length_cons, List.length_nil, List.length_drop, List.length_take] at g19_3
            refine OW_no rfl ?_
            refine OW_no rfl ?_
            refine OW_env (e' := [_, _, _, _, _, _, _, _, _, _, _, _, _, _, _, _, _, _, _, _, _, _, _, _, _, _, _, _, _, _, _, _, _, _, _, _, _, _, _, _, _, _, _, _, _, _, _, _, _, _, _, _, _, _, _, _, _, _, _, _, _, _, _, _, _, _, _, _, _, _, _, _, _, _, _, _, _, _, _, _, _, _, _, _, _, _]) rfl ?_
            refine OW_pick rfl rfl rfl ?_
            refine OW_mv rfl rfl ?_
            refine OW_no rfl ?_
            refine OW_env (e' := [_, _, _, _, _, _, _, _, _, _, _, _, _, _, _, _, _, _, _, _, _, _, _, _, _, _, _, _, _, _, _, _, _, _, _, _, _, _, _, _, _, _, _, _, _, _, _, _, _, _, _, _, _, _, _, _, _, _, _, _, _, _, _, _, _, _, _, _, _, _, _, _, _, _, _, _, _, _, _, _, _, _, _, _, _, _]) rfl ?_
            refine OW_no rfl ?_
            refine OW_no rfl ?_
            refine OW_no rfl ?_
            refine OW_env (e' := [_, _, _, _, _, _, _, _, _, _, _, _, _, _, _, _, _, _, _, _, _, _, _, _, _, _, _, _, _, _, _, _, _, _, _, _, _, _, _, _, _, _, _, _, _, _, _, _, _, _, _, _, _, _, _, _, _, _, _, _, _, _, _, _, _, _, _, _, _, _, _, _, _, _, _, _, _, _, _, _, _, _, _, _, _, _]) rfl ?_
            refine OW_no rfl ?_
            refine OW_no rfl ?_
            refine OW_pick rfl rfl rfl ?_
            refine OW_nilE (e' := [_, _, _, _, _, _, _, _, _, _, _, _, _, _, _, _, _, _, _, _, _, _, _, _, _, _, _, _, _, _, _, _, _, _, _, _, _, _, _, _, _, _, _, _, _, _, _, _, _, _, _, _, _, _, _, _, _, _, _, _, _, _, _, _, _, _, _, _, _, _, _, _, _, _, _, _, _, _, _, _, _, _, _, _, _, _]) rfl ?_
            refine XW_yes rfl rfl ?_
            refine XW_sr ?_
            refine OW_loadR hS8 (k := 2) rfl rfl rfl rfl rfl (by first | exact part_whole rfl rfl rfl | rfl) ?_
            first
            | refine OW_storeR hS8 (k := 3) rfl (le_bef (bef_under (a := []) hU1 (before_lit (ν := ν) (a := [1, 0, 1, 1, 1, 1, 1, 1, 1]) (b := [1, 0, 1, 0, 1, 1, 1, 1, 1, 1, 1, 1, 1]) (by decide)))) rfl rfl rfl rfl ⟨rfl, rfl, Nat.le_of_ble_eq_true rfl⟩ (set_whole rfl rfl) fun H12 hS12 => ?_
            | refine OW_storeR hS8 (k := 3) rfl (le_bef (bef_under (a := []) hU1 (before_lit (ν := ν) (a := [1, 0, 1, 1, 1, 1, 1, 1, 1]) (b := [1, 0, 1, 0, 1, 1, 1, 1, 1, 1, 1, 1, 1]) (by decide)))) rfl rfl rfl rfl ⟨rfl, rfl, Nat.le_of_ble_eq_true rfl⟩ (u2 := .agg [_, _, _]) rfl fun H12 hS12 => ?_
            replace hS12 : Own _ _ _ ([_, _, _, _]) := hS12
            refine OW_as rfl rfl ?_
            refine OW_nilE (e' := [_, _, _, _, _, _, _, _, _, _, _, _, _, _, _, _, _, _, _, _, _, _, _, _, _, _, _, _, _, _, _, _, _, _, _, _, _, _, _, _, _, _, _, _, _, _, _, _, _, _, _, _, _, _, _, _, _, _, _, _, _, _, _, _, _, _, _, _, _, _, _, _, _, _, _, _, _, _, _, _, _, _, _, _, _, _]) rfl ?_
            refine XW_ret ?_
            refine then_ret ?_
            -- outcome 4
            refine ret_ret (res2 rfl (rv_cellR hS12 (k := 3) rfl rfl rfl rfl (by first | exact part_whole rfl rfl rfl | rfl)) (rv_tmp rfl)) (frz2 (Q := Q) (by first | exact freeze_plain rfl | exact Ls.freeze (by assumption) | exact Ls.freeze Ls.of | exact Ls.freeze Ls.emp | exact Ls.freeze Ls.nls | exact frA (frAc (by first | exact freeze_plain rfl | exact Ls.freeze Ls.of | exact Ls.freeze Ls.emp | exact Ls.freeze Ls.nls | exact Ls.freeze (by assumption) | exact hS12.frz (k := 0) rfl (by first | exact map_plain (fun _ => rfl) | (intro x hx; simp at hx; done))) (frAc (by first | exact freeze_plain rfl | exact Ls.freeze Ls.of | exact Ls.freeze Ls.emp | exact Ls.freeze Ls.nls | exact Ls.freeze (by assumption) | exact hS12.frz (k := 0) rfl (by first | exact map_plain (fun _ => rfl) | (intro x hx; simp at hx; done))) (frAc (by first | exact freeze_plain rfl | exact Ls.freeze Ls.of | exact Ls.freeze Ls.emp | exact Ls.freeze Ls.nls | exact Ls.freeze (by assumption) | exact hS12.frz (k := 0) rfl (by first | exact map_plain (fun _ => rfl) | (intro x hx; simp at hx; done))) frAn)))) (by first | exact freeze_plain rfl | exact Ls.freeze (by assumption) | exact Ls.freeze Ls.of | exact Ls.freeze Ls.emp | exact Ls.freeze Ls.nls) ?_)
            first | (rw [if_pos (by omega)] at hq; exact hq) | (rw [if_neg (by omega), if_pos (by omega)] at hq; exact hq) | (rw [if_neg (by omega), if_neg (by omega), bodyM, Cod.far_none hF (by omega) (cI_tkF (by simp_all))] at hq; exact hq) | (rw [if_neg (by omega), if_neg (by omega), bodyM, Cod.far_end hF (by omega)] at hq; simp only at hq; rw [ba_of] at hq; first | (rw [tailM_ok (by assumption) (by assumption) (by omega)] at hq; exact hq) | (rw [tailM_no (by intro a1 a2 a3; first | omega | simp_all)] at hq; exact hq))
          · try simp only [decide_eq_true_eq, decide_eq_false_iff_not, Bool.not_eq_true', Bool.not_eq_false', Bool.and_eq_true, Bool.or_eq_true, Bool.not_eq_true, Bool.not_eq_false, Decidable.not_not, bne_iff_ne, beq_iff_eq, List.length_append, List.length_cons, List.length_nil, List.length_drop, List.length_take] at g19_3
            refine OW_mv rfl rfl ?_
            refine OW_bin rfl rfl rfl rfl rfl ?_
            refine OW_env (e' := [_, _, _, _, _, _, _, _, _, _, _, _, _, _, _, _, _, _, _, _, _, _, _, _, _, _, _, _, _, _, _, _, _, _, _, _, _, _, _, _, _, _, _, _, _, _, _, _, _, _, _, _, _, _, _, _, _, _, _, _, _, _, _, _, _, _, _, _, _, _, _, _, _, _, _, _, _, _, _, _, _, _, _, _, _, _]) rfl ?_
            refine OW_pick rfl rfl rfl ?_
            refine OW_mv rfl rfl ?_
            refine OW_split (tt := 74) rfl (fun g19_7 => ?_) (fun g19_7 => ?_)
            · try simp only [decide_eq_true_eq, decide_eq_false_iff_not, Bool.not_eq_true', Bool.not_eq_false', Bool.and_eq_true, Bool.or_eq_true, Bool.not_eq_true, Bool.not_eq_false, Decidable.not_not, bne_iff_ne, beq_iff_eq, List.length_append, List.length_cons, List.length_nil, List.length_drop, List.length_take] at g19_7
              refine OW_env (e' := [_, _, _, _, _, _, _, _, _, _, _, _, _, _, _, _, _, _, _, _, _, _, _, _, _, _, _, _, _, _, _, _, _, _, _, _, _, _, _, _, _, _, _, _, _, _, _, _, _, _, _, _, _, _, _, _, _, _, _, _, _, _, _, _, _, _, _, _, _, _, _, _, _, _, _, _, _, _, _, _, _, _, _, _, _, _]) rfl ?_
              refine OW_no rfl ?_
              refine OW_no rfl ?_
              refine OW_no rfl ?_
              refine OW_env (e' := [_, _, _, _, _, _, _, _, _, _, _, _, _, _, _, _, _, _, _, _, _, _, _, _, _, _, _, _, _, _, _, _, _, _, _, _, _, _, _, _, _, _, _, _, _, _, _, _, _, _, _, _, _, _, _, _, _, _, _, _, _, _, _, _, _, _, _, _, _, _, _, _, _, _, _, _, _, _, _, _, _, _, _, _, _, _]) rfl ?_
              refine OW_no rfl ?_
              refine OW_no rfl ?_
              refine OW_no rfl ?_
              refine OW_env (e' := [_, _, _, _, _, _, _, _, _, _, _, _, _, _, _, _, _, _, _, _, _, _, _, _, _, _, _, _, _, _, _, _, _, _, _, _, _, _, _, _, _, _, _, _, _, _, _, _, _, _, _, _, _, _, _, _, _, _, _, _, _, _, _, _, _, _, _, _, _, _, _, _, _, _, _, _, _, _, _, _, _, _, _, _, _, _]) rfl ?_
              refine OW_pick rfl rfl rfl ?_
              refine OW_nilE (e' := [_, _, _, _, _, _, _, _, _, _, _, _, _, _, _, _, _, _, _, _, _, _, _, _, _, _, _, _, _, _, _, _, _, _, _, _, _, _, _, _, _, _, _, _, _, _, _, _, _, _, _, _, _, _, _, _, _, _, _, _, _, _, _, _, _, _, _, _, _, _, _, _, _, _, _, _, _, _, _, _, _, _, _, _, _, _]) rfl ?_
              refine XW_yes rfl rfl ?_
              refine XW_sr ?_
              refine OW_loadR hS8 (k := 2) rfl rfl rfl rfl rfl (by first | exact part_whole rfl rfl rfl | rfl) ?_
              first
              | refine OW_storeR hS8 (k := 3) rfl (le_bef (bef_under (a := []) hU1 (before_lit (ν := ν) (a := [1, 0, 1, 1, 1, 1, 1, 1, 1]) (b := [1, 0, 1, 0, 1, 1, 1, 1, 1, 1, 1, 1, 1]) (by decide)))) rfl rfl rfl rfl ⟨rfl, rfl, Nat.le_of_ble_eq_true rfl⟩ (set_whole rfl rfl) fun H13 hS13 => ?_
              | refine OW_storeR hS8 (k := 3) rfl (le_bef (bef_under (a := []) hU1 (before_lit (ν := ν) (a := [1, 0, 1, 1, 1, 1, 1, 1, 1]) (b := [1, 0, 1, 0, 1, 1, 1, 1, 1, 1, 1, 1, 1]) (by decide)))) rfl rfl rfl rfl ⟨rfl, rfl, Nat.le_of_ble_eq_true rfl⟩ (u2 := .agg [_, _, _]) rfl fun H13 hS13 => ?_
              replace hS13 : Own _ _ _ ([_, _, _, _]) := hS13
              refine OW_as rfl rfl ?_
              refine OW_nilE (e' := [_, _, _, _, _, _, _, _, _, _, _, _, _, _, _, _, _, _, _, _, _, _, _, _, _, _, _, _, _, _, _, _, _, _, _, _, _, _, _, _, _, _, _, _, _, _, _, _, _, _, _, _, _, _, _, _, _, _, _, _, _, _, _, _, _, _, _, _, _, _, _, _, _, _, _, _, _, _, _, _, _, _, _, _, _, _]) rfl ?_
              refine XW_ret ?_
              refine then_ret ?_
              -- outcome 5
              refine ret_ret (res2 rfl (rv_cellR hS13 (k := 3) rfl rfl rfl rfl (by first | exact part_whole rfl rfl rfl | rfl)) (rv_tmp rfl)) (frz2 (Q := Q) (by first | exact freeze_plain rfl | exact Ls.freeze (by assumption) | exact Ls.freeze Ls.of | exact Ls.freeze Ls.emp | exact Ls.freeze Ls.nls | exact frA (frAc (by first | exact freeze_plain rfl | exact Ls.freeze Ls.of | exact Ls.freeze Ls.emp | exact Ls.freeze Ls.nls | exact Ls.freeze (by assumption) | exact hS13.frz (k := 0) rfl (by first | exact map_plain (fun _ => rfl) | (intro x hx; simp at hx; done))) (frAc (by first | exact freeze_plain rfl | exact Ls.freeze Ls.of | exact Ls.freeze Ls.emp | exact Ls.freeze Ls.nls | exact Ls.freeze (by assumption) | exact hS13.frz (k := 0) rfl (by first | exact map_plain (fun _ => rfl) | (intro x hx; simp at hx; done))) (frAc (by first | exact freeze_plain rfl | exact Ls.freeze Ls.of | exact Ls.freeze Ls.emp | exact Ls.freeze Ls.nls | exact Ls.freeze (by assumption) | exact hS13.frz (k := 0) rfl (by first | exact map_plain (fun _ => rfl) | (intro x hx; simp at hx; done))) frAn)))) (by first | exact freeze_plain rfl | exact Ls.freeze (by assumption) | exact Ls.freeze Ls.of | exact Ls.freeze Ls.emp | exact Ls.freeze Ls.nls) ?_)
              first | (rw [if_pos (by omega)] at hq; exact hq) | (rw [if_neg (by omega), if_pos (by omega)] at hq; exact hq) | (rw [if_neg (by omega), if_neg (by omega), bodyM, Cod.far_none hF (by omega) (cI_tkF (by simp_all))] at hq; exact hq) | (rw [if_neg (by omega), if_neg (by omega), bodyM, Cod.far_end hF (by omega)] at hq; simp only at hq; rw [ba_of] at hq; first | (rw [tailM_ok (by assumption) (by assumption) (by omega)] at hq; exact hq) | (rw [tailM_no (by intro a1 a2 a3; first | omega | simp_all)] at hq; exact hq))
            · try simp only [decide_eq_true_eq, decide_eq_false_iff_not, Bool.not_eq_true', Bool.not_eq_false', Bool.and_eq_true, Bool.or_eq_true, Bool.not_eq_true, Bool.not_eq_false, Decidable.not_not, bne_iff_ne, beq_iff_eq, List.length_append, List.length_cons, List.length_nil, List.length_drop, List.length_take] at g19_7
              refine OW_env (e' := [_, _, _, _, _, _, _, _, _, _, _, _, _, _, _, _, _, _, _, _, _, _, _, _, _, _, _, _, _, _, _, _, _, _, _, _, _, _, _, _, _, _, _, _, _, _, _, _, _, _, _, _, _, _, _, _, _, _, _, _, _, _, _, _, _, _, _, _, _, _, _, _, _, _, _, _, _, _, _, _, _, _, _, _, _, _]) rfl ?_
              refine OW_mv rfl rfl ?_
              first
              | refine OW_lenL rfl rfl (by first | assumption | exact Ls.of | exact Ls.emp | exact Ls.nls) rfl rfl rfl (by first | exact List.length_map _ | rfl) ?_
              | refine OW_bi rfl rfl rfl ?_
              | refine OW_lenO hS8 (k := 0) rfl rfl rfl rfl rfl rfl (by first | exact List.length_map _ | exact len_app1 | exact len_drop | (simp only [List.length_append, List.length_map, List.length_singleton, List.length_cons, List.length_nil]; rfl) | rfl) ?_
              refine OW_fa rfl rfl rfl ?_
              refine OW_env (e' := [_, _, _, _, _, _, _, _, _, _, _, _, _, _, _, _, _, _, _, _, _, _, _, _, _, _, _, _, _, _, _, _, _, _, _, _, _, _, _, _, _, _, _, _, _, _, _, _, _, _, _, _, _, _, _, _, _, _, _, _, _, _, _, _, _, _, _, _, _, _, _, _, _, _, _, _, _, _, _, _, _, _, _, _, _, _]) rfl ?_
              refine OW_loadR hS8 (k := 1) rfl rfl rfl rfl rfl (by first | exact part_whole rfl rfl rfl | rfl) ?_
              refine OW_fn rfl rfl (rleast_c ?_) 
              refine OW_bin rfl rfl rfl rfl rfl ?_
              refine OW_env (e' := [_, _, _, _, _, _, _, _, _, _, _, _, _, _, _, _, _, _, _, _, _, _, _, _, _, _, _, _, _, _, _, _, _, _, _, _, _, _, _, _, _, _, _, _, _, _, _, _, _, _, _, _, _, _, _, _, _, _, _, _, _, _, _, _, _, _, _, _, _, _, _, _, _, _, _, _, _, _, _, _, _, _, _, _, _, _]) rfl ?_
              refine OW_pick rfl rfl rfl ?_
              refine OW_nilE (e' := [_, _, _, _, _, _, _, _, _, _, _, _, _, _, _, _, _, _, _, _, _, _, _, _, _, _, _, _, _, _, _, _, _, _, _, _, _, _, _, _, _, _, _, _, _, _, _, _, _, _, _, _, _, _, _, _, _, _, _, _, _, _, _, _, _, _, _, _, _, _, _, _, _, _, _, _, _, _, _, _, _, _, _, _, _, _]) rfl ?_
              refine XW_if rfl (fun h19 => ?_) (fun h19 => ?_)
              · try simp only [decide_eq_true_eq, decide_eq_false_iff_not, Bool.not_eq_true', Bool.not_eq_false', Bool.and_eq_true, Bool.or_eq_true, Bool.not_eq_true, Bool.not_eq_false, Decidable.not_not, bne_iff_ne, beq_iff_eq, List.length_append, List.length_cons, List.length_nil, List.length_drop, List.length_take] at h19
                refine XW_sr ?_
                refine OW_loadR hS8 (k := 2) rfl rfl rfl rfl rfl (by first | exact part_whole rfl rfl rfl | rfl) ?_
                first
                | refine OW_storeR hS8 (k := 3) rfl (le_bef (bef_under (a := []) hU1 (before_lit (ν := ν) (a := [1, 0, 1, 1, 1, 1, 1, 1, 1]) (b := [1, 0, 1, 0, 1, 1, 1, 1, 1, 1, 1, 1, 1]) (by decide)))) rfl rfl rfl rfl ⟨rfl, rfl, Nat.le_of_ble_eq_true rfl⟩ (set_whole rfl rfl) fun H14 hS14 => ?_
                | refine OW_storeR hS8 (k := 3) rfl (le_bef (bef_under (a := []) hU1 (before_lit (ν := ν) (a := [1, 0, 1, 1, 1, 1, 1, 1, 1]) (b := [1, 0, 1, 0, 1, 1, 1, 1, 1, 1, 1, 1, 1]) (by decide)))) rfl rfl rfl rfl ⟨rfl, rfl, Nat.le_of_ble_eq_true rfl⟩ (u2 := .agg [_, _, _]) rfl fun H14 hS14 => ?_
                replace hS14 : Own _ _ _ ([_, _, _, _]) := hS14
                refine OW_as rfl rfl ?_
                refine OW_nilE (e' := [_, _, _, _, _, _, _, _, _, _, _, _, _, _, _, _, _, _, _, _, _, _, _, _, _, _, _, _, _, _, _, _, _, _, _, _, _, _, _, _, _, _, _, _, _, _, _, _, _, _, _, _, _, _, _, _, _, _, _, _, _, _, _, _, _, _, _, _, _, _, _, _, _, _, _, _, _, _, _, _, _, _, _, _, _, _]) rfl ?_
                refine XW_ret ?_
                refine then_ret ?_
                -- outcome 6
                refine ret_ret (res2 rfl (rv_cellR hS14 (k := 3) rfl rfl rfl rfl (by first | exact part_whole rfl rfl rfl | rfl)) (rv_tmp rfl)) (frz2 (Q := Q) (by first | exact freeze_plain rfl | exact Ls.freeze (by assumption) | exact Ls.freeze Ls.of | exact Ls.freeze Ls.emp | exact Ls.freeze Ls.nls | exact frA (frAc (by first | exact freeze_plain rfl | exact Ls.freeze Ls.of | exact Ls.freeze Ls.emp | exact Ls.freeze Ls.nls | exact Ls.freeze (by assumption) | exact hS14.frz (k := 0) rfl (by first | exact map_plain (fun _ => rfl) | (intro x hx; simp at hx; done))) (frAc (by first | exact freeze_plain rfl | exact Ls.freeze Ls.of | exact Ls.freeze Ls.emp | exact Ls.freeze Ls.nls | exact Ls.freeze (by assumption) | exact hS14.frz (k := 0) rfl (by first | exact map_plain (fun _ => rfl) | (intro x hx; simp at hx; done))) (frAc (by first | exact freeze_plain rfl | exact Ls.freeze Ls.of | exact Ls.freeze Ls.emp | exact Ls.freeze Ls.nls | exact Ls.freeze (by assumption) | exact hS14.frz (k := 0) rfl (by first | exact map_plain (fun _ => rfl) | (intro x hx; simp at hx; done))) frAn)))) (by first | exact freeze_plain rfl | exact Ls.freeze (by assumption) | exact Ls.freeze Ls.of | exact Ls.freeze Ls.emp | exact Ls.freeze Ls.nls) ?_)
                first | (rw [if_pos (by omega)] at hq; exact hq) | (rw [if_neg (by omega), if_pos (by omega)] at hq; exact hq) | (rw [if_neg (by omega), if_neg (by omega), bodyM, Cod.far_none hF (by omega) (cI_tkF (by simp_all))] at hq; exact hq) | (rw [if_neg (by omega), if_neg (by omega), bodyM, Cod.far_end hF (by omega)] at hq; simp only at hq; rw [ba_of] at hq; first | (rw [tailM_ok (by assumption) (by assumption) (by omega)] at hq; exact hq) | (rw [tailM_no (by intro a1 a2 a3; first | omega | simp_all)] at hq; exact hq))
              · try simp only [decide_eq_true_eq, decide_eq_false_iff_not, Bool.not_eq_true', Bool.not_eq_false', Bool.and_eq_true, Bool.or_eq_true, Bool.not_eq_true, Bool.not_eq_false, Decidable.not_not, bne_iff_ne, beq_iff_eq, List.length_append, List.length_cons, List.length_nil, List.length_drop, List.length_take] at h19
                refine XW_skip ?_
                refine then_norm ?_
                refine XW_sr ?_
                refine OW_mv rfl rfl ?_
                refine OW_fa rfl rfl rfl ?_
                refine OW_storeR hS8 (k := 1) rfl (le_bef (bef_under (a := []) hU1 (before_lit (ν := ν) (a := [1, 0, 1, 1, 1, 1, 1, 1, 1]) (b := [2, 0, 1, 1, 1, 1, 1, 1, 1, 1, 1, 1]) (by decide)))) rfl rfl rfl rfl ⟨rfl, rfl, Nat.le_of_ble_eq_true rfl⟩ (u2 := .agg [_, _, _]) rfl fun H15 hS15 => ?_
                replace hS15 : Own _ _ _ ([_, _, _, _]) := hS15
                refine OW_nilE (e' := [_, _, _, _, _, _, _, _, _, _, _, _, _, _, _, _, _, _, _, _, _, _, _, _, _, _, _, _, _, _, _, _, _, _, _, _, _, _, _, _, _, _, _, _, _, _, _, _, _, _, _, _, _, _, _, _, _, _, _, _, _, _, _, _, _, _, _, _, _, _, _, _, _, _, _, _, _, _, _, _, _, _, _, _, _, _]) rfl ?_
                refine XW_sr ?_
                refine OW_loadR hS15 (k := 1) rfl rfl rfl rfl rfl (by first | exact part_whole rfl rfl rfl | rfl) ?_
                first
                | refine OW_storeR hS15 (k := 3) rfl (le_lit (ν := ν) (a := [3, 0, 1, 1, 1, 1, 1, 1, 1, 1, 1, 1]) (b := [1, 0, 1, 1, 1, 1, 1, 1, 1, 1, 1, 1, 1]) (by decide)) rfl rfl rfl rfl ⟨rfl, rfl, Nat.le_of_ble_eq_true rfl⟩ (set_whole rfl rfl) fun H16 hS16 => ?_
                | refine OW_storeR hS15 (k := 3) rfl (le_lit (ν := ν) (a := [3, 0, 1, 1, 1, 1, 1, 1, 1, 1, 1, 1]) (b := [1, 0, 1, 1, 1, 1, 1, 1, 1, 1, 1, 1, 1]) (by decide)) rfl rfl rfl rfl ⟨rfl, rfl, Nat.le_of_ble_eq_true rfl⟩ (u2 := .agg [_, _, _]) rfl fun H16 hS16 => ?_
                replace hS16 : Own _ _ _ ([_, _, _, _]) := hS16
                refine OW_as rfl rfl ?_
                refine OW_nilE (e' := [_, _, _, _, _, _, _, _, _, _, _, _, _, _, _, _, _, _, _, _, _, _, _, _, _, _, _, _, _, _, _, _, _, _, _, _, _, _, _, _, _, _, _, _, _, _, _, _, _, _, _, _, _, _, _, _, _, _, _, _, _, _, _, _, _, _, _, _, _, _, _, _, _, _, _, _, _, _, _, _, _, _, _, _, _, _]) rfl ?_
                refine XW_ret ?_
                -- outcome 7
                refine ret_ret (res2 rfl (rv_cellR hS16 (k := 3) rfl rfl rfl rfl (by first | exact part_whole rfl rfl rfl | rfl)) (rv_tmp rfl)) (frz2 (Q := Q) (by first | exact freeze_plain rfl | exact Ls.freeze (by assumption) | exact Ls.freeze Ls.of | exact Ls.freeze Ls.emp | exact Ls.freeze Ls.nls | exact frA (frAc (by first | exact freeze_plain rfl | exact Ls.freeze Ls.of | exact Ls.freeze Ls.emp | exact Ls.freeze Ls.nls | exact Ls.freeze (by assumption) | exact hS16.frz (k := 0) rfl (by first | exact map_plain (fun _ => rfl) | (intro x hx; simp at hx; done))) (frAc (by first | exact freeze_plain rfl | exact Ls.freeze Ls.of | exact Ls.freeze Ls.emp | exact Ls.freeze Ls.nls | exact Ls.freeze (by assumption) | exact hS16.frz (k := 0) rfl (by first | exact map_plain (fun _ => rfl) | (intro x hx; simp at hx; done))) (frAc (by first | exact freeze_plain rfl | exact Ls.freeze Ls.of | exact Ls.freeze Ls.emp | exact Ls.freeze Ls.nls | exact Ls.freeze (by assumption) | exact hS16.frz (k := 0) rfl (by first | exact map_plain (fun _ => rfl) | (intro x hx; simp at hx; done))) frAn)))) (by first | exact freeze_plain rfl | exact Ls.freeze (by assumption) | exact Ls.freeze Ls.of | exact Ls.freeze Ls.emp | exact Ls.freeze Ls.nls) ?_)
                first | (rw [if_pos (by omega)] at hq; exact hq) | (rw [if_neg (by omega), if_pos (by omega)] at hq; exact hq) | (rw [if_neg (by omega), if_neg (by omega), bodyM, Cod.far_none hF (by omega) (cI_tkF (by simp_all))] at hq; exact hq) | (rw [if_neg (by omega), if_neg (by omega), bodyM, Cod.far_end hF (by omega)] at hq; simp only at hq; rw [ba_of] at hq; first | (rw [tailM_ok (by assumption) (by assumption) (by omega)] at hq; exact hq) | (rw [tailM_no (by intro a1 a2 a3; first | omega | simp_all)] at hq; exact hq))
end Go.Proofs.Ytbnljfnmojendaa.X
