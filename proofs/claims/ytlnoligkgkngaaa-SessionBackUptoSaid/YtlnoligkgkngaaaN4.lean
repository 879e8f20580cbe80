/- Layer 11: the laws SessionSeeks, SessionLast, SessionOnce. -/
import Derived.Test.YtlnoligkgkngaaaN3
set_option linter.unusedVariables false
set_option linter.unusedSimpArgs false
set_option maxRecDepth 100000
namespace Go.Proofs.Ytlnoligkgkngaaa.X
open Go Go.RowKit
variable {ν : Nm} {H : Heap} {Q : AVal → Heap → Prop}
theorem fixedW (h : acall cfg (aexec cfg 60) ν 10 [] H = some (.bool true, H)) (hq : Q (.bool true) H) : CW cfg ν 10 [] H Q := ⟨60, _, _, h, hq⟩
theorem noteL_le (t : List Se) (id nr : Int) (a : ByteArray) : (noteL t id nr a).length ≤ 16 := by simp [noteL, lastL]; omega
theorem lawSeeks (t : List Se) (row : Se) (hn : t.length ≤ 1048576) (ha : row.an.size ≤ 1048576) (hq : Q (.bool true) H) : CW cfg [] 3 [.lst (t.map Se.enc), row.enc] H Q := by
  refine CW_pure g3 F3 rfl ?_
  have hS0 : Own [] [] (fun _ => none) [] := Own.nil
  refine XW_sr ?_
  refine OW_boxR hS0 (le_app (p := []) (b := [0, 0])) under_nil rfl rfl rfl ⟨rfl, rfl⟩ fun H1 hS1 => ?_
  replace hS1 : Own _ _ _ ([_]) := hS1
  refine OW_as rfl rfl ?_
  refine OW_nilE (e' := [_, _, _, _, _, _, _, _, _, _, _, _, _, _, _, _, _, _, _, _, _, _, _, _, _, _, _, _, _, _, _, _, _, _, _, _, _, _, _, _, _, _, _, _, _, _, _, _, _, _, _, _, _, _, _, _, _]) rfl ?_
  refine XW_sr ?_
  refine OW_mv rfl rfl ?_
  refine OW_fa rfl rfl rfl ?_
  refine OW_loadR hS1 (k := 0) rfl rfl rfl rfl rfl (by first | exact part_whole rfl rfl rfl | rfl) ?_
  refine OW_env (e' := [_, _, _, _, _, _, _, _, _, _, _, _, _, _, _, _, _, _, _, _, _, _, _, _, _, _, _, _, _, _, _, _, _, _, _, _, _, _, _, _, _, _, _, _, _, _, _, _, _, _, _, _, _, _, _, _, _]) rfl ?_
  refine OW_fa rfl rfl rfl ?_
  refine OW_loadR hS1 (k := 0) rfl rfl rfl rfl rfl (by first | exact part_whole rfl rfl rfl | rfl) ?_
  refine OW_fn rfl rfl (pSeek Ls.of (by omega) _ _ ?_) 
  refine OW_env (e' := [_, _, _, _, _, _, _, _, _, _, _, _, _, _, _, _, _, _, _, _, _, _, _, _, _, _, _, _, _, _, _, _, _, _, _, _, _, _, _, _, _, _, _, _, _, _, _, _, _, _, _, _, _, _, _, _, _]) rfl ?_
  refine OW_mv rfl rfl ?_
  refine OW_ex rfl rfl rfl ?_
  refine OW_ex rfl rfl rfl ?_
  refine OW_env (e' := [_, _, _, _, _, _, _, _, _, _, _, _, _, _, _, _, _, _, _, _, _, _, _, _, _, _, _, _, _, _, _, _, _, _, _, _, _, _, _, _, _, _, _, _, _, _, _, _, _, _, _, _, _, _, _, _, _]) rfl ?_
  refine OW_as rfl rfl ?_
  refine OW_as rfl rfl ?_
  refine OW_nilE (e' := [_, _, _, _, _, _, _, _, _, _, _, _, _, _, _, _, _, _, _, _, _, _, _, _, _, _, _, _, _, _, _, _, _, _, _, _, _, _, _, _, _, _, _, _, _, _, _, _, _, _, _, _, _, _, _, _, _]) rfl ?_
  refine XW_sr ?_
  refine OW_mv rfl rfl ?_
  refine OW_fa rfl rfl rfl ?_
  refine OW_loadR hS1 (k := 0) rfl rfl rfl rfl rfl (by first | exact part_whole rfl rfl rfl | rfl) ?_
  refine OW_env (e' := [_, _, _, _, _, _, _, _, _, _, _, _, _, _, _, _, _, _, _, _, _, _, _, _, _, _, _, _, _, _, _, _, _, _, _, _, _, _, _, _, _, _, _, _, _, _, _, _, _, _, _, _, _, _, _, _, _]) rfl ?_
  refine OW_fa rfl rfl rfl ?_
  refine OW_loadR hS1 (k := 0) rfl rfl rfl rfl rfl (by first | exact part_whole rfl rfl rfl | rfl) ?_
  refine OW_fn rfl rfl (rSeek Ls.of (by omega) _ _ ?_) 
  refine OW_env (e' := [_, _, _, _, _, _, _, _, _, _, _, _, _, _, _, _, _, _, _, _, _, _, _, _, _, _, _, _, _, _, _, _, _, _, _, _, _, _, _, _, _, _, _, _, _, _, _, _, _, _, _, _, _, _, _, _, _]) rfl ?_
  refine OW_mv rfl rfl ?_
  refine OW_ex rfl rfl rfl ?_
  refine OW_ex rfl rfl rfl ?_
  refine OW_env (e' := [_, _, _, _, _, _, _, _, _, _, _, _, _, _, _, _, _, _, _, _, _, _, _, _, _, _, _, _, _, _, _, _, _, _, _, _, _, _, _, _, _, _, _, _, _, _, _, _, _, _, _, _, _, _, _, _, _]) rfl ?_
  refine OW_as rfl rfl ?_
  refine OW_as rfl rfl ?_
  refine OW_nilE (e' := [_, _, _, _, _, _, _, _, _, _, _, _, _, _, _, _, _, _, _, _, _, _, _, _, _, _, _, _, _, _, _, _, _, _, _, _, _, _, _, _, _, _, _, _, _, _, _, _, _, _, _, _, _, _, _, _, _]) rfl ?_
  refine XW_sr ?_
  refine OW_fn rfl rfl (fixedW (by kernel_rfl) ?_) 
  refine OW_mv rfl rfl ?_
  refine OW_mv rfl rfl ?_
  refine OW_env (e' := [_, _, _, _, _, _, _, _, _, _, _, _, _, _, _, _, _, _, _, _, _, _, _, _, _, _, _, _, _, _, _, _, _, _, _, _, _, _, _, _, _, _, _, _, _, _, _, _, _, _, _, _, _, _, _, _, _]) rfl ?_
  refine OW_mv rfl rfl ?_
  refine OW_bin rfl rfl rfl rfl rfl ?_
  refine OW_pick rfl rfl rfl ?_
  refine OW_env (e' := [_, _, _, _, _, _, _, _, _, _, _, _, _, _, _, _, _, _, _, _, _, _, _, _, _, _, _, _, _, _, _, _, _, _, _, _, _, _, _, _, _, _, _, _, _, _, _, _, _, _, _, _, _, _, _, _, _]) rfl ?_
  refine OW_mv rfl rfl ?_
  refine OW_split (tt := 33) rfl (fun g3_7 => ?_) (fun g3_7 => ?_)
  · try simp only [decide_eq_true_eq, decide_eq_false_iff_not, Bool.not_eq_true', Bool.not_eq_false', Bool.and_eq_true, Bool.or_eq_true, Bool.not_eq_true, Bool.not_eq_false, Decidable.not_not, bne_iff_ne, beq_iff_eq, List.length_append, List.length_cons, List.length_nil, List.length_drop, List.length_take] at g3_7
    refine OW_mv rfl rfl ?_
    refine OW_env (e' := [_, _, _, _, _, _, _, _, _, _, _, _, _, _, _, _, _, _, _, _, _, _, _, _, _, _, _, _, _, _, _, _, _, _, _, _, _, _, _, _, _, _, _, _, _, _, _, _, _, _, _, _, _, _, _, _, _]) rfl ?_
    refine OW_mv rfl rfl ?_
    refine OW_bin rfl rfl rfl rfl rfl ?_
    refine OW_pick rfl rfl rfl ?_
    refine OW_env (e' := [_, _, _, _, _, _, _, _, _, _, _, _, _, _, _, _, _, _, _, _, _, _, _, _, _, _, _, _, _, _, _, _, _, _, _, _, _, _, _, _, _, _, _, _, _, _, _, _, _, _, _, _, _, _, _, _, _]) rfl ?_
    refine OW_mv rfl rfl ?_
    refine OW_split (tt := 38) rfl (fun g3_12 => ?_) (fun g3_12 => ?_)
    · try simp only [decide_eq_true_eq, decide_eq_false_iff_not, Bool.not_eq_true', Bool.not_eq_false', Bool.and_eq_true, Bool.or_eq_true, Bool.not_eq_true, Bool.not_eq_false, Decidable.not_not, bne_iff_ne, beq_iff_eq, List.length_append, List.length_cons, List.length_nil, List.length_drop, List.length_take] at g3_12
      refine OW_mv rfl rfl ?_
      refine OW_env (e' := [_, _, _, _, _, _, _, _, _, _, _, _, _, _, _, _, _, _, _, _, _, _, _, _, _, _, _, _, _, _, _, _, _, _, _, _, _, _, _, _, _, _, _, _, _, _, _, _, _, _, _, _, _, _, _, _, _]) rfl ?_
      refine OW_fa rfl rfl rfl ?_
      refine OW_loadR hS1 (k := 0) rfl rfl rfl rfl rfl (by first | exact part_whole rfl rfl rfl | rfl) ?_
      refine OW_fa rfl rfl rfl ?_
      refine OW_env (e' := [_, _, _, _, _, _, _, _, _, _, _, _, _, _, _, _, _, _, _, _, _, _, _, _, _, _, _, _, _, _, _, _, _, _, _, _, _, _, _, _, _, _, _, _, _, _, _, _, _, _, _, _, _, _, _, _, _]) rfl ?_
      refine OW_loadR hS1 (k := 0) rfl rfl rfl rfl rfl (by first | exact part_whole rfl rfl rfl | rfl) ?_
      refine OW_fa rfl rfl rfl ?_
      refine OW_loadR hS1 (k := 0) rfl rfl rfl rfl rfl (by first | exact part_whole rfl rfl rfl | rfl) ?_
      refine OW_env (e' := [_, _, _, _, _, _, _, _, _, _, _, _, _, _, _, _, _, _, _, _, _, _, _, _, _, _, _, _, _, _, _, _, _, _, _, _, _, _, _, _, _, _, _, _, _, _, _, _, _, _, _, _, _, _, _, _, _]) rfl ?_
      refine OW_fn rfl rfl (pNote Ls.of (by omega) _ _ _ (by omega) ?_) 
      refine OW_mv rfl rfl ?_
      refine OW_fa rfl rfl rfl ?_
      refine OW_env (e' := [_, _, _, _, _, _, _, _, _, _, _, _, _, _, _, _, _, _, _, _, _, _, _, _, _, _, _, _, _, _, _, _, _, _, _, _, _, _, _, _, _, _, _, _, _, _, _, _, _, _, _, _, _, _, _, _, _]) rfl ?_
      refine OW_loadR hS1 (k := 0) rfl rfl rfl rfl rfl (by first | exact part_whole rfl rfl rfl | rfl) ?_
      refine OW_fa rfl rfl rfl ?_
      refine OW_loadR hS1 (k := 0) rfl rfl rfl rfl rfl (by first | exact part_whole rfl rfl rfl | rfl) ?_
      refine OW_env (e' := [_, _, _, _, _, _, _, _, _, _, _, _, _, _, _, _, _, _, _, _, _, _, _, _, _, _, _, _, _, _, _, _, _, _, _, _, _, _, _, _, _, _, _, _, _, _, _, _, _, _, _, _, _, _, _, _, _]) rfl ?_
      refine OW_fa rfl rfl rfl ?_
      refine OW_loadR hS1 (k := 0) rfl rfl rfl rfl rfl (by first | exact part_whole rfl rfl rfl | rfl) ?_
      refine OW_fn rfl rfl (rNote Ls.of (by omega) _ _ _ (by omega) ?_) 
      refine OW_env (e' := [_, _, _, _, _, _, _, _, _, _, _, _, _, _, _, _, _, _, _, _, _, _, _, _, _, _, _, _, _, _, _, _, _, _, _, _, _, _, _, _, _, _, _, _, _, _, _, _, _, _, _, _, _, _, _, _, _]) rfl ?_
      refine OW_fn rfl rfl (c_Is Ls.of Ls.of (Nat.le_trans (noteL_le _ _ _ _) (by decide)) (Nat.le_trans (noteL_le _ _ _ _) (by decide)) ?_) 
      refine OW_pick rfl rfl rfl ?_
      refine OW_as rfl rfl ?_
      refine OW_nilE (e' := [_, _, _, _, _, _, _, _, _, _, _, _, _, _, _, _, _, _, _, _, _, _, _, _, _, _, _, _, _, _, _, _, _, _, _, _, _, _, _, _, _, _, _, _, _, _, _, _, _, _, _, _, _, _, _, _, _]) rfl ?_
      refine XW_ret ?_
      -- outcome 1
      refine ret_ret (res1 rfl (rv_tmp rfl)) (frz1 (Q := Q) (by first | exact freeze_plain rfl | exact Ls.freeze (by assumption) | exact Ls.freeze Ls.of | exact Ls.freeze Ls.emp | exact Ls.freeze Ls.nls) ?_)
      first
      | exact hq
      | (refine qcast hq ?_; rfl)
      | (refine qcast hq ?_; simp; done)
      | (refine qcast hq ?_; simp; omega)
      | (refine qcast hq ?_; simp_all; done)
    · exfalso; (try simp only [decide_eq_true_eq, decide_eq_false_iff_not, Bool.not_eq_true', Bool.not_eq_false', Bool.and_eq_true, Bool.or_eq_true, Bool.not_eq_true, Bool.not_eq_false, Decidable.not_not, bne_iff_ne, beq_iff_eq, List.length_append, List.length_cons, List.length_nil, List.length_drop, List.length_take] at g3_12) <;> (first | (exact absurd rfl g3_12) | (exact g3_12 trivial) | (exact g3_12 rfl) | omega | (simp at g3_12; done) | (simp_all; done))
  · exfalso; (try simp only [decide_eq_true_eq, decide_eq_false_iff_not, Bool.not_eq_true', Bool.not_eq_false', Bool.and_eq_true, Bool.or_eq_true, Bool.not_eq_true, Bool.not_eq_false, Decidable.not_not, bne_iff_ne, beq_iff_eq, List.length_append, List.length_cons, List.length_nil, List.length_drop, List.length_take] at g3_7) <;> (first | (exact absurd rfl g3_7) | (exact g3_7 trivial) | (exact g3_7 rfl) | omega | (simp at g3_7; done) | (simp_all; done))
theorem drop_pre {α : Type} (K : List α) (a : α) : (K ++ [a]).drop ((K ++ [a]).length - 16) = K.drop (K.length - 15) ++ [a] := by
  rw [List.length_append, List.length_singleton, List.drop_append_of_le_length (by omega)]
  congr 2
theorem keep_keep (id : Int) (t : List Se) (n : Nat) : keepL id ((keepL id t).drop n) = (keepL id t).drop n := by
  refine List.filter_eq_self.2 fun x hx => ?_
  have := List.mem_of_mem_drop hx
  exact (List.mem_filter.1 this).2
theorem note_note (t : List Se) (id n1 n2 : Int) (a1 a2 : ByteArray) : noteL (noteL t id n1 a1) id n2 a2 = noteL t id n2 a2 := by
  have e : keepL id (noteL t id n1 a1) = (keepL id t).drop ((keepL id t).length - 15) := by
    rw [noteL, lastL, drop_pre]
    show ((keepL id t).drop ((keepL id t).length - 15) ++ [_]).filter _ = _
    rw [List.filter_append]
    have h1 := keep_keep id t ((keepL id t).length - 15)
    rw [keepL] at h1
    rw [show (keepL id t) = List.filter (fun x => !decide (x.id = id)) t from rfl] at h1 ⊢
    rw [h1]; simp
  rw [noteL, e, noteL, lastL, lastL, drop_pre, drop_pre, List.drop_drop]
  congr 2
  rw [List.length_drop]; omega
theorem pNote2 (t : List Se) (hn : t.length ≤ 4294967290) (id n1 nr : Int) (a1 a : ByteArray) (ha : a.size ≤ 140737488355328) (hq : Q (.lst ((noteL t id nr a).map Se.enc)) H) : CW cfg ν 12 [.lst ((noteL t id n1 a1).map Se.enc), .int .u64 id, .int .u64 nr, .str a] H Q :=
  pNote Ls.of (Nat.le_trans (noteL_le _ _ _ _) (by decide)) id nr a ha (by rw [note_note]; exact hq)
theorem note_last (t : List Se) (id nr : Int) (a : ByteArray) : 0 < (noteL t id nr a).length ∧ ((noteL t id nr a).map Se.enc)[(((noteL t id nr a).length : Int) - 1).toNat]? = some (Se.enc ⟨id, nr, cutA a⟩) := by
  rw [noteL, lastL, drop_pre]
  refine ⟨by simp, ?_⟩
  rw [List.map_append, List.getElem?_append_right (by simp)]
  simp
theorem lawLast (t : List Se) (a b : Se) (hn : t.length ≤ 1048576) (ha : a.an.size ≤ 1048576) (hb : b.an.size ≤ 1048576) (hq : Q (.bool true) H) : CW cfg [] 5 [.lst (t.map Se.enc), a.enc, b.enc] H Q := by
  have h1 := noteL_le t a.id b.nr b.an
  obtain ⟨h2, h2e⟩ := note_last t a.id b.nr b.an
  refine CW_pure g5 F5 rfl ?_
  have hS0 : Own [] [] (fun _ => none) [] := Own.nil
  refine XW_sr ?_
  refine OW_boxR hS0 (le_app (p := []) (b := [0, 0])) under_nil rfl rfl rfl ⟨rfl, rfl⟩ fun H1 hS1 => ?_
  replace hS1 : Own _ _ _ ([_]) := hS1
  refine OW_boxR hS1 le_refl under_nil rfl rfl rfl ⟨rfl, rfl⟩ fun H2 hS2 => ?_
  replace hS2 : Own _ _ _ ([_, _]) := hS2
  refine OW_as rfl rfl ?_
  refine OW_nilE (e' := [_, _, _, _, _, _, _, _, _, _, _, _, _, _, _, _, _, _, _, _, _, _, _, _, _, _, _, _, _, _, _, _, _, _, _, _, _, _, _, _, _, _, _, _, _, _, _, _, _, _, _, _, _, _, _, _, _, _, _, _, _, _, _, _, _, _, _, _, _]) rfl ?_
  refine XW_sr ?_
  refine OW_mv rfl rfl ?_
  refine OW_fa rfl rfl rfl ?_
  refine OW_loadR hS2 (k := 1) rfl rfl rfl rfl rfl (by first | exact part_whole rfl rfl rfl | rfl) ?_
  refine OW_env (e' := [_, _, _, _, _, _, _, _, _, _, _, _, _, _, _, _, _, _, _, _, _, _, _, _, _, _, _, _, _, _, _, _, _, _, _, _, _, _, _, _, _, _, _, _, _, _, _, _, _, _, _, _, _, _, _, _, _, _, _, _, _, _, _, _, _, _, _, _, _]) rfl ?_
  refine OW_fa rfl rfl rfl ?_
  refine OW_loadR hS2 (k := 1) rfl rfl rfl rfl rfl (by first | exact part_whole rfl rfl rfl | rfl) ?_
  refine OW_fa rfl rfl rfl ?_
  refine OW_env (e' := [_, _, _, _, _, _, _, _, _, _, _, _, _, _, _, _, _, _, _, _, _, _, _, _, _, _, _, _, _, _, _, _, _, _, _, _, _, _, _, _, _, _, _, _, _, _, _, _, _, _, _, _, _, _, _, _, _, _, _, _, _, _, _, _, _, _, _, _, _]) rfl ?_
  refine OW_loadR hS2 (k := 1) rfl rfl rfl rfl rfl (by first | exact part_whole rfl rfl rfl | rfl) ?_
  refine OW_fn rfl rfl (pNote Ls.of (by omega) _ _ _ (by omega) ?_) 
  refine OW_fa rfl rfl rfl ?_
  refine OW_env (e' := [_, _, _, _, _, _, _, _, _, _, _, _, _, _, _, _, _, _, _, _, _, _, _, _, _, _, _, _, _, _, _, _, _, _, _, _, _, _, _, _, _, _, _, _, _, _, _, _, _, _, _, _, _, _, _, _, _, _, _, _, _, _, _, _, _, _, _, _, _]) rfl ?_
  refine OW_loadR hS2 (k := 1) rfl rfl rfl rfl rfl (by first | exact part_whole rfl rfl rfl | rfl) ?_
  refine OW_fa rfl rfl rfl ?_
  refine OW_loadR hS2 (k := 0) rfl rfl rfl rfl rfl (by first | exact part_whole rfl rfl rfl | rfl) ?_
  refine OW_env (e' := [_, _, _, _, _, _, _, _, _, _, _, _, _, _, _, _, _, _, _, _, _, _, _, _, _, _, _, _, _, _, _, _, _, _, _, _, _, _, _, _, _, _, _, _, _, _, _, _, _, _, _, _, _, _, _, _, _, _, _, _, _, _, _, _, _, _, _, _, _]) rfl ?_
  refine OW_fa rfl rfl rfl ?_
  refine OW_loadR hS2 (k := 0) rfl rfl rfl rfl rfl (by first | exact part_whole rfl rfl rfl | rfl) ?_
  refine OW_fn rfl rfl (pNote2 t (by omega) _ _ _ _ _ (by omega) ?_) 
  refine OW_env (e' := [_, _, _, _, _, _, _, _, _, _, _, _, _, _, _, _, _, _, _, _, _, _, _, _, _, _, _, _, _, _, _, _, _, _, _, _, _, _, _, _, _, _, _, _, _, _, _, _, _, _, _, _, _, _, _, _, _, _, _, _, _, _, _, _, _, _, _, _, _]) rfl ?_
  refine OW_as rfl rfl ?_
  refine OW_nilE (e' := [_, _, _, _, _, _, _, _, _, _, _, _, _, _, _, _, _, _, _, _, _, _, _, _, _, _, _, _, _, _, _, _, _, _, _, _, _, _, _, _, _, _, _, _, _, _, _, _, _, _, _, _, _, _, _, _, _, _, _, _, _, _, _, _, _, _, _, _, _]) rfl ?_
  refine XW_sr ?_
  refine OW_mv rfl rfl ?_
  refine OW_fa rfl rfl rfl ?_
  refine OW_loadR hS2 (k := 1) rfl rfl rfl rfl rfl (by first | exact part_whole rfl rfl rfl | rfl) ?_
  refine OW_env (e' := [_, _, _, _, _, _, _, _, _, _, _, _, _, _, _, _, _, _, _, _, _, _, _, _, _, _, _, _, _, _, _, _, _, _, _, _, _, _, _, _, _, _, _, _, _, _, _, _, _, _, _, _, _, _, _, _, _, _, _, _, _, _, _, _, _, _, _, _, _]) rfl ?_
  refine OW_fa rfl rfl rfl ?_
  refine OW_loadR hS2 (k := 0) rfl rfl rfl rfl rfl (by first | exact part_whole rfl rfl rfl | rfl) ?_
  refine OW_fa rfl rfl rfl ?_
  refine OW_env (e' := [_, _, _, _, _, _, _, _, _, _, _, _, _, _, _, _, _, _, _, _, _, _, _, _, _, _, _, _, _, _, _, _, _, _, _, _, _, _, _, _, _, _, _, _, _, _, _, _, _, _, _, _, _, _, _, _, _, _, _, _, _, _, _, _, _, _, _, _, _]) rfl ?_
  refine OW_loadR hS2 (k := 0) rfl rfl rfl rfl rfl (by first | exact part_whole rfl rfl rfl | rfl) ?_
  refine OW_fn rfl rfl (pNote Ls.of (by omega) _ _ _ (by omega) ?_) 
  refine OW_as rfl rfl ?_
  refine OW_nilE (e' := [_, _, _, _, _, _, _, _, _, _, _, _, _, _, _, _, _, _, _, _, _, _, _, _, _, _, _, _, _, _, _, _, _, _, _, _, _, _, _, _, _, _, _, _, _, _, _, _, _, _, _, _, _, _, _, _, _, _, _, _, _, _, _, _, _, _, _, _, _]) rfl ?_
  refine XW_seq ?_
  refine XW_sr ?_
  refine OW_fn rfl rfl (fixedW (by kernel_rfl) ?_) 
  refine OW_un rfl rfl rfl ?_
  refine OW_mv rfl rfl ?_
  refine OW_env (e' := [_, _, _, _, _, _, _, _, _, _, _, _, _, _, _, _, _, _, _, _, _, _, _, _, _, _, _, _, _, _, _, _, _, _, _, _, _, _, _, _, _, _, _, _, _, _, _, _, _, _, _, _, _, _, _, _, _, _, _, _, _, _, _, _, _, _, _, _, _]) rfl ?_
  refine OW_mv rfl rfl ?_
  first
  | refine OW_lenL rfl rfl (by first | assumption | exact Ls.of | exact Ls.emp | exact Ls.nls) rfl rfl rfl (by first | exact List.length_map _ | rfl) ?_
  | refine OW_bi rfl rfl rfl ?_
  refine OW_bin rfl rfl rfl rfl rfl ?_
  refine OW_env (e' := [_, _, _, _, _, _, _, _, _, _, _, _, _, _, _, _, _, _, _, _, _, _, _, _, _, _, _, _, _, _, _, _, _, _, _, _, _, _, _, _, _, _, _, _, _, _, _, _, _, _, _, _, _, _, _, _, _, _, _, _, _, _, _, _, _, _, _, _, _]) rfl ?_
  refine OW_pick rfl rfl rfl ?_
  refine OW_mv rfl rfl ?_
  refine OW_split (tt := 40) rfl (fun g3_8 => ?_) (fun g3_8 => ?_)
  · exfalso; (try simp only [decide_eq_true_eq, decide_eq_false_iff_not, Bool.not_eq_true', Bool.not_eq_false', Bool.and_eq_true, Bool.or_eq_true, Bool.not_eq_true, Bool.not_eq_false, Decidable.not_not, bne_iff_ne, beq_iff_eq, List.length_append, List.length_cons, List.length_nil, List.length_drop, List.length_take] at g3_8) <;> (first | (exact absurd rfl g3_8) | (exact g3_8 trivial) | (exact g3_8 rfl) | omega | (simp at g3_8; done) | (simp_all; done))
  · try simp only [decide_eq_true_eq, decide_eq_false_iff_not, Bool.not_eq_true', Bool.not_eq_false', Bool.and_eq_true, Bool.or_eq_true, Bool.not_eq_true, Bool.not_eq_false, Decidable.not_not, bne_iff_ne, beq_iff_eq, List.length_append, List.length_cons, List.length_nil, List.length_drop, List.length_take] at g3_8
    refine OW_env (e' := [_, _, _, _, _, _, _, _, _, _, _, _, _, _, _, _, _, _, _, _, _, _, _, _, _, _, _, _, _, _, _, _, _, _, _, _, _, _, _, _, _, _, _, _, _, _, _, _, _, _, _, _, _, _, _, _, _, _, _, _, _, _, _, _, _, _, _, _, _]) rfl ?_
    refine OW_mv rfl rfl ?_
    refine OW_mv rfl rfl ?_
    refine OW_fn rfl rfl (c_Is Ls.of Ls.of (Nat.le_trans (noteL_le _ _ _ _) (by decide)) (Nat.le_trans (noteL_le _ _ _ _) (by decide)) ?_) 
    refine OW_env (e' := [_, _, _, _, _, _, _, _, _, _, _, _, _, _, _, _, _, _, _, _, _, _, _, _, _, _, _, _, _, _, _, _, _, _, _, _, _, _, _, _, _, _, _, _, _, _, _, _, _, _, _, _, _, _, _, _, _, _, _, _, _, _, _, _, _, _, _, _, _]) rfl ?_
    refine OW_un rfl rfl rfl ?_
    refine OW_pick rfl rfl rfl ?_
    refine OW_nilE (e' := [_, _, _, _, _, _, _, _, _, _, _, _, _, _, _, _, _, _, _, _, _, _, _, _, _, _, _, _, _, _, _, _, _, _, _, _, _, _, _, _, _, _, _, _, _, _, _, _, _, _, _, _, _, _, _, _, _, _, _, _, _, _, _, _, _, _, _, _, _]) rfl ?_
    refine XW_if rfl (fun h3 => ?_) (fun h3 => ?_)
    · exfalso; (try simp only [decide_eq_true_eq, decide_eq_false_iff_not, Bool.not_eq_true', Bool.not_eq_false', Bool.and_eq_true, Bool.or_eq_true, Bool.not_eq_true, Bool.not_eq_false, Decidable.not_not, bne_iff_ne, beq_iff_eq, List.length_append, List.length_cons, List.length_nil, List.length_drop, List.length_take] at h3) <;> (first | (exact absurd rfl h3) | (exact h3 trivial) | (exact h3 rfl) | omega | (simp at h3; done) | (simp_all; done))
    · try simp only [decide_eq_true_eq, decide_eq_false_iff_not, Bool.not_eq_true', Bool.not_eq_false', Bool.and_eq_true, Bool.or_eq_true, Bool.not_eq_true, Bool.not_eq_false, Decidable.not_not, bne_iff_ne, beq_iff_eq, List.length_append, List.length_cons, List.length_nil, List.length_drop, List.length_take] at h3
      refine XW_skip ?_
      refine then_norm ?_
      refine XW_sr ?_
      refine OW_mv rfl rfl ?_
      refine OW_mv rfl rfl ?_
      first
      | refine OW_lenL rfl rfl (by first | assumption | exact Ls.of | exact Ls.emp | exact Ls.nls) rfl rfl rfl (by first | exact List.length_map _ | rfl) ?_
      | refine OW_bi rfl rfl rfl ?_
      refine OW_env (e' := [_, _, _, _, _, _, _, _, _, _, _, _, _, _, _, _, _, _, _, _, _, _, _, _, _, _, _, _, _, _, _, _, _, _, _, _, _, _, _, _, _, _, _, _, _, _, _, _, _, _, _, _, _, _, _, _, _, _, _, _, _, _, _, _, _, _, _, _, _]) rfl ?_
      first
      | refine OW_bin rfl rfl rfl rfl (sub_w64 (by first | omega | assumption | (simp only [ByteArray.size_append, ByteArray.size_extract, List.length_map, List.length_append, List.length_cons, List.length_nil, List.length_drop, List.length_take]; omega))) ?_
      | refine OW_bin rfl rfl rfl rfl rfl ?_
      first
      | refine OW_iaL rfl rfl rfl Ls.of rfl rfl rfl (by first | rfl | exact (Int.toNat_of_nonneg (by omega)).symm) (by first | assumption | exact at_map (by first | assumption | omega) | exact at_lst (by omega)) rfl ?_
      | refine OW_iaL rfl rfl rfl (by assumption) rfl rfl rfl (by first | rfl | exact (Int.toNat_of_nonneg (by omega)).symm) (by first | assumption | exact at_map (by first | assumption | omega) | exact at_lst (by omega)) rfl ?_
      refine OW_loadE rfl rfl rfl (by first | exact part_whole rfl rfl rfl | rfl) ?_
      refine OW_env (e' := [_, _, _, _, _, _, _, _, _, _, _, _, _, _, _, _, _, _, _, _, _, _, _, _, _, _, _, _, _, _, _, _, _, _, _, _, _, _, _, _, _, _, _, _, _, _, _, _, _, _, _, _, _, _, _, _, _, _, _, _, _, _, _, _, _, _, _, _, _]) rfl ?_
      refine OW_allocR hS2 (le_lit (ν := []) (a := [2, 0]) (b := [6, 0, 1, 1, 1, 1]) (by decide)) under_nil rfl rfl rfl rfl fun H3 hS3 => ?_
      replace hS3 : Own _ _ _ ([_, _, _]) := hS3
      first
      | refine OW_storeR hS3 (k := 0) rfl le_refl rfl rfl rfl rfl ⟨rfl, rfl, Nat.le_of_ble_eq_true rfl⟩ (set_whole rfl rfl) fun H4 hS4 => ?_
      | refine OW_storeR hS3 (k := 0) rfl le_refl rfl rfl rfl rfl ⟨rfl, rfl, Nat.le_of_ble_eq_true rfl⟩ (u2 := .agg [_, _, _]) rfl fun H4 hS4 => ?_
      replace hS4 : Own _ _ _ ([_, _, _]) := hS4
      refine OW_nilE (e' := [_, _, _, _, _, _, _, _, _, _, _, _, _, _, _, _, _, _, _, _, _, _, _, _, _, _, _, _, _, _, _, _, _, _, _, _, _, _, _, _, _, _, _, _, _, _, _, _, _, _, _, _, _, _, _, _, _, _, _, _, _, _, _, _, _, _, _, _, _]) rfl ?_
      refine XW_sr ?_
      refine OW_fa rfl rfl rfl ?_
      refine OW_loadR hS4 (k := 0) rfl rfl rfl rfl rfl (by first | exact part_whole rfl rfl rfl | rfl) ?_
      refine OW_fa rfl rfl rfl ?_
      refine OW_env (e' := [_, _, _, _, _, _, _, _, _, _, _, _, _, _, _, _, _, _, _, _, _, _, _, _, _, _, _, _, _, _, _, _, _, _, _, _, _, _, _, _, _, _, _, _, _, _, _, _, _, _, _, _, _, _, _, _, _, _, _, _, _, _, _, _, _, _, _, _, _]) rfl ?_
      refine OW_loadR hS4 (k := 2) rfl rfl rfl rfl rfl (by first | exact part_whole rfl rfl rfl | rfl) ?_
      refine OW_bin rfl rfl rfl rfl rfl ?_
      refine OW_mv rfl rfl ?_
      refine OW_env (e' := [_, _, _, _, _, _, _, _, _, _, _, _, _, _, _, _, _, _, _, _, _, _, _, _, _, _, _, _, _, _, _, _, _, _, _, _, _, _, _, _, _, _, _, _, _, _, _, _, _, _, _, _, _, _, _, _, _, _, _, _, _, _, _, _, _, _, _, _, _]) rfl ?_
      refine OW_split (tt := 57) rfl (fun g6_6 => ?_) (fun g6_6 => ?_)
      · try simp only [decide_eq_true_eq, decide_eq_false_iff_not, Bool.not_eq_true', Bool.not_eq_false', Bool.and_eq_true, Bool.or_eq_true, Bool.not_eq_true, Bool.not_eq_false, Decidable.not_not, bne_iff_ne, beq_iff_eq, List.length_append, List.length_cons, List.length_nil, List.length_drop, List.length_take] at g6_6
        refine OW_fa rfl rfl rfl ?_
        refine OW_loadR hS4 (k := 0) rfl rfl rfl rfl rfl (by first | exact part_whole rfl rfl rfl | rfl) ?_
        refine OW_env (e' := [_, _, _, _, _, _, _, _, _, _, _, _, _, _, _, _, _, _, _, _, _, _, _, _, _, _, _, _, _, _, _, _, _, _, _, _, _, _, _, _, _, _, _, _, _, _, _, _, _, _, _, _, _, _, _, _, _, _, _, _, _, _, _, _, _, _, _, _, _]) rfl ?_
        refine OW_fa rfl rfl rfl ?_
        refine OW_loadR hS4 (k := 1) rfl rfl rfl rfl rfl (by first | exact part_whole rfl rfl rfl | rfl) ?_
        refine OW_bin rfl rfl rfl rfl rfl ?_
        refine OW_env (e' := [_, _, _, _, _, _, _, _, _, _, _, _, _, _, _, _, _, _, _, _, _, _, _, _, _, _, _, _, _, _, _, _, _, _, _, _, _, _, _, _, _, _, _, _, _, _, _, _, _, _, _, _, _, _, _, _, _, _, _, _, _, _, _, _, _, _, _, _, _]) rfl ?_
        refine OW_pick rfl rfl rfl ?_
        refine OW_mv rfl rfl ?_
        refine OW_split (tt := 64) rfl (fun g6_13 => ?_) (fun g6_13 => ?_)
        · try simp only [decide_eq_true_eq, decide_eq_false_iff_not, Bool.not_eq_true', Bool.not_eq_false', Bool.and_eq_true, Bool.or_eq_true, Bool.not_eq_true, Bool.not_eq_false, Decidable.not_not, bne_iff_ne, beq_iff_eq, List.length_append, List.length_cons, List.length_nil, List.length_drop, List.length_take] at g6_13
          refine OW_env (e' := [_, _, _, _, _, _, _, _, _, _, _, _, _, _, _, _, _, _, _, _, _, _, _, _, _, _, _, _, _, _, _, _, _, _, _, _, _, _, _, _, _, _, _, _, _, _, _, _, _, _, _, _, _, _, _, _, _, _, _, _, _, _, _, _, _, _, _, _, _]) rfl ?_
          refine OW_mv rfl rfl ?_
          first
          | refine OW_lenL rfl rfl (by first | assumption | exact Ls.of | exact Ls.emp | exact Ls.nls) rfl rfl rfl (by first | exact List.length_map _ | rfl) ?_
          | refine OW_bi rfl rfl rfl ?_
          refine OW_bin rfl rfl rfl rfl rfl ?_
          refine OW_env (e' := [_, _, _, _, _, _, _, _, _, _, _, _, _, _, _, _, _, _, _, _, _, _, _, _, _, _, _, _, _, _, _, _, _, _, _, _, _, _, _, _, _, _, _, _, _, _, _, _, _, _, _, _, _, _, _, _, _, _, _, _, _, _, _, _, _, _, _, _, _]) rfl ?_
          refine OW_pick rfl rfl rfl ?_
          refine OW_as rfl rfl ?_
          refine OW_nilE (e' := [_, _, _, _, _, _, _, _, _, _, _, _, _, _, _, _, _, _, _, _, _, _, _, _, _, _, _, _, _, _, _, _, _, _, _, _, _, _, _, _, _, _, _, _, _, _, _, _, _, _, _, _, _, _, _, _, _, _, _, _, _, _, _, _, _, _, _, _, _]) rfl ?_
          refine XW_ret ?_
          -- outcome 1
          refine ret_ret (res1 rfl (rv_tmp rfl)) (frz1 (Q := Q) (by first | exact freeze_plain rfl | exact Ls.freeze (by assumption) | exact Ls.freeze Ls.of | exact Ls.freeze Ls.emp | exact Ls.freeze Ls.nls) ?_)
          first
          | exact hq
          | (refine qcast hq ?_; rfl)
          | (refine qcast hq ?_; simp; done)
          | (refine qcast hq ?_; simp; omega)
          | (refine qcast hq ?_; simp_all; done)
        · exfalso; (try simp only [decide_eq_true_eq, decide_eq_false_iff_not, Bool.not_eq_true', Bool.not_eq_false', Bool.and_eq_true, Bool.or_eq_true, Bool.not_eq_true, Bool.not_eq_false, Decidable.not_not, bne_iff_ne, beq_iff_eq, List.length_append, List.length_cons, List.length_nil, List.length_drop, List.length_take] at g6_13) <;> (first | (exact absurd rfl g6_13) | (exact g6_13 trivial) | (exact g6_13 rfl) | omega | (simp at g6_13; done) | (simp_all; done))
      · exfalso; (try simp only [decide_eq_true_eq, decide_eq_false_iff_not, Bool.not_eq_true', Bool.not_eq_false', Bool.and_eq_true, Bool.or_eq_true, Bool.not_eq_true, Bool.not_eq_false, Decidable.not_not, bne_iff_ne, beq_iff_eq, List.length_append, List.length_cons, List.length_nil, List.length_drop, List.length_take] at g6_6) <;> (first | (exact absurd rfl g6_6) | (exact g6_6 trivial) | (exact g6_6 rfl) | omega | (simp at g6_6; done) | (simp_all; done))
theorem nodup_le {α : Type} [DecidableEq α] : ∀ {l m : List α}, l.Nodup → (∀ a ∈ l, a ∈ m) → l.length ≤ m.length
  | [], m, _, _ => by simp
  | x :: r, m, hn, hs => by
    have hx := hs x (by simp)
    have h1 := nodup_le (l := r) (m := m.erase x) (List.nodup_cons.1 hn).2 (fun a ha => (List.mem_erase_of_ne (fun e => (List.nodup_cons.1 hn).1 (by rw [← e]; exact ha))).2 (hs a (by simp [ha])))
    rw [List.length_erase_of_mem hx] at h1
    have : 0 < m.length := List.length_pos_of_mem hx
    simp; omega
/-- The table holds a row of an id, the ones behind it are of ids in o. -/
def Held (r : Se) (o : List Int) (t : List Se) : Prop := ∃ pre suf, t = pre ++ r :: suf ∧ (∀ x ∈ pre, x.id ≠ r.id) ∧ (suf.map Se.id).Nodup ∧ (∀ x ∈ suf, x.id ∈ o) ∧ ∀ x ∈ suf, x.id ≠ r.id
theorem held_note (r : Se) (o o' : List Int) (t : List Se) (x : Se) (hx : x.id ≠ r.id) (hxo : x.id ∈ o') (hoo : ∀ a ∈ o, a ∈ o') (ho : o'.length < 16) (hd : o'.Nodup) (h : Held r o t) : Held r o' (noteL t x.id x.nr x.an) := by
  obtain ⟨pre, suf, rfl, h1, h2, h3, h4⟩ := h
  have e : keepL x.id (pre ++ r :: suf) = keepL x.id pre ++ r :: keepL x.id suf := by
    show List.filter _ _ = List.filter _ _ ++ r :: List.filter _ _
    rw [List.filter_append, List.filter_cons, if_pos (by simp; exact fun e => hx e.symm)]
  have hs : (keepL x.id suf ++ [(⟨x.id, x.nr, cutA x.an⟩ : Se)]).length ≤ o'.length := by
    have hn : ((keepL x.id suf ++ [(⟨x.id, x.nr, cutA x.an⟩ : Se)]).map Se.id).Nodup := by
      rw [List.map_append, List.nodup_append]
      refine ⟨h2.sublist (List.Sublist.map _ List.filter_sublist), by simp, ?_⟩
      intro a ha b hb
      simp only [List.map_cons, List.map_nil, List.mem_singleton] at hb
      subst hb
      obtain ⟨y, hy, rfl⟩ := List.mem_map.1 ha
      have := (List.mem_filter.1 hy).2
      simpa using this
    have hsub : ∀ a ∈ (keepL x.id suf ++ [(⟨x.id, x.nr, cutA x.an⟩ : Se)]).map Se.id, a ∈ o' := by
      intro a ha
      obtain ⟨y, hy, rfl⟩ := List.mem_map.1 ha
      rcases List.mem_append.1 hy with h | h
      · exact hoo _ (h3 y (List.mem_filter.1 h).1)
      · obtain rfl := List.mem_singleton.1 h; exact hxo
    have := nodup_le hn hsub
    simpa using this
  obtain ⟨K, hK⟩ : ∃ K, K = keepL x.id suf ++ [(⟨x.id, x.nr, cutA x.an⟩ : Se)] := ⟨_, rfl⟩
  have e2 : noteL (pre ++ r :: suf) x.id x.nr x.an = (keepL x.id pre).drop ((keepL x.id pre ++ r :: K).length - 16) ++ r :: K := by
    rw [noteL, lastL, e, List.append_assoc, List.cons_append, ← hK, List.drop_append_of_le_length]
    rw [← hK] at hs
    simp; omega
  refine ⟨_, K, e2, ?_, ?_, ?_, ?_⟩
  · intro y hy
    exact h1 y (List.mem_filter.1 (List.mem_of_mem_drop hy)).1
  · rw [hK, List.map_append, List.nodup_append]
    refine ⟨h2.sublist (List.Sublist.map _ List.filter_sublist), by simp, ?_⟩
    intro a ha b hb
    simp only [List.map_cons, List.map_nil, List.mem_singleton] at hb
    subst hb
    obtain ⟨y, hy, rfl⟩ := List.mem_map.1 ha
    have := (List.mem_filter.1 hy).2
    simpa using this
  · intro y hy
    rw [hK] at hy
    rcases List.mem_append.1 hy with h | h
    · exact hoo _ (h3 y (List.mem_filter.1 h).1)
    · obtain rfl := List.mem_singleton.1 h; exact hxo
  · intro y hy
    rw [hK] at hy
    rcases List.mem_append.1 hy with h | h
    · exact h4 y (List.mem_filter.1 h).1
    · obtain rfl := List.mem_singleton.1 h; exact hx
theorem held_first (t : List Se) (r : Se) : Held ⟨r.id, r.nr, cutA r.an⟩ [] (noteL t r.id r.nr r.an) := by
  rw [noteL, lastL, drop_pre]
  refine ⟨_, [], rfl, ?_, by simp, by simp, by simp⟩
  intro x hx
  have := (List.mem_filter.1 (List.mem_of_mem_drop hx)).2
  simpa using this
theorem held_seek (r : Se) (o : List Int) (t : List Se) (h : Held r o t) (nr : Int) : seekL r.id nr t = if r.nr = nr then (1, r.an) else if r.nr > nr then (2, ⟨#[]⟩) else (0, ⟨#[]⟩) := by
  obtain ⟨pre, suf, rfl, h1, _⟩ := h
  induction pre with
  | nil => simp [seekL]
  | cons x p ih =>
    rw [List.cons_append, seekL, if_neg (h1 x (by simp))]
    exact ih (fun y hy => h1 y (by simp [hy]))
set_option maxHeartbeats 4000000 in
theorem lawOnce (t : List Se) (r0 : Se) (l : List Se) (hn : t.length ≤ 1048576) (ha : r0.an.size ≤ 1048576) (hr : 0 ≤ r0.nr ∧ r0.nr ≤ 18446744073709551615) (hl : l.length ≤ 1048576) (hla : ∀ x ∈ l, x.an.size ≤ 1048576) (hq : Q (.bool true) H) : CW cfg [] 4 [.lst (t.map Se.enc), r0.enc, .lst (l.map Se.enc)] H Q := by
  have h16 := noteL_le t r0.id r0.nr r0.an
  refine CW_pure g4 F4 rfl ?_
  have hS0 : Own [] [] (fun _ => none) [] := Own.nil
  refine XW_sr ?_
  refine OW_boxR hS0 (le_app (p := []) (b := [0, 0])) under_nil rfl rfl rfl ⟨rfl, rfl⟩ fun H1 hS1 => ?_
  replace hS1 : Own _ _ _ ([_]) := hS1
  refine OW_as rfl rfl ?_
  refine OW_nilE (e' := [_, _, _, _, _, _, _, _, _, _, _, _, _, _, _, _, _, _, _, _, _, _, _, _, _, _, _, _, _, _, _, _, _, _, _, _, _, _, _, _, _, _, _, _, _, _, _, _, _, _, _, _, _, _, _, _, _, _, _, _, _, _, _, _, _, _, _, _, _, _, _, _, _, _, _, _, _, _, _, _, _, _, _, _, _, _, _, _, _, _, _, _, _, _, _, _, _, _, _, _, _, _, _, _, _, _, _, _, _, _, _, _, _, _, _, _, _, _, _, _, _, _, _, _, _, _, _, _, _, _, _, _, _, _, _, _, _, _, _, _, _, _, _, _, _, _, _, _]) rfl ?_
  refine XW_sr ?_
  refine OW_mv rfl rfl ?_
  refine OW_fa rfl rfl rfl ?_
  refine OW_loadR hS1 (k := 0) rfl rfl rfl rfl rfl (by first | exact part_whole rfl rfl rfl | rfl) ?_
  refine OW_env (e' := [_, _, _, _, _, _, _, _, _, _, _, _, _, _, _, _, _, _, _, _, _, _, _, _, _, _, _, _, _, _, _, _, _, _, _, _, _, _, _, _, _, _, _, _, _, _, _, _, _, _, _, _, _, _, _, _, _, _, _, _, _, _, _, _, _, _, _, _, _, _, _, _, _, _, _, _, _, _, _, _, _, _, _, _, _, _, _, _, _, _, _, _, _, _, _, _, _, _, _, _, _, _, _, _, _, _, _, _, _, _, _, _, _, _, _, _, _, _, _, _, _, _, _, _, _, _, _, _, _, _, _, _, _, _, _, _, _, _, _, _, _, _, _, _, _, _, _, _]) rfl ?_
  refine OW_fa rfl rfl rfl ?_
  refine OW_loadR hS1 (k := 0) rfl rfl rfl rfl rfl (by first | exact part_whole rfl rfl rfl | rfl) ?_
  refine OW_fa rfl rfl rfl ?_
  refine OW_env (e' := [_, _, _, _, _, _, _, _, _, _, _, _, _, _, _, _, _, _, _, _, _, _, _, _, _, _, _, _, _, _, _, _, _, _, _, _, _, _, _, _, _, _, _, _, _, _, _, _, _, _, _, _, _, _, _, _, _, _, _, _, _, _, _, _, _, _, _, _, _, _, _, _, _, _, _, _, _, _, _, _, _, _, _, _, _, _, _, _, _, _, _, _, _, _, _, _, _, _, _, _, _, _, _, _, _, _, _, _, _, _, _, _, _, _, _, _, _, _, _, _, _, _, _, _, _, _, _, _, _, _, _, _, _, _, _, _, _, _, _, _, _, _, _, _, _, _, _, _]) rfl ?_
  refine OW_loadR hS1 (k := 0) rfl rfl rfl rfl rfl (by first | exact part_whole rfl rfl rfl | rfl) ?_
  refine OW_fn rfl rfl (pNote Ls.of (by omega) _ _ _ (by first | omega | exact Nat.le_trans (hla _ (List.getElem_mem _)) (by decide)) ?_) 
  refine OW_as rfl rfl ?_
  refine OW_nilE (e' := [_, _, _, _, _, _, _, _, _, _, _, _, _, _, _, _, _, _, _, _, _, _, _, _, _, _, _, _, _, _, _, _, _, _, _, _, _, _, _, _, _, _, _, _, _, _, _, _, _, _, _, _, _, _, _, _, _, _, _, _, _, _, _, _, _, _, _, _, _, _, _, _, _, _, _, _, _, _, _, _, _, _, _, _, _, _, _, _, _, _, _, _, _, _, _, _, _, _, _, _, _, _, _, _, _, _, _, _, _, _, _, _, _, _, _, _, _, _, _, _, _, _, _, _, _, _, _, _, _, _, _, _, _, _, _, _, _, _, _, _, _, _, _, _, _, _, _, _]) rfl ?_
  refine XW_sr ?_
  refine OW_bs rfl rfl rfl ?_
  refine OW_as rfl rfl ?_
  refine OW_nilE (e' := [_, _, _, _, _, _, _, _, _, _, _, _, _, _, _, _, _, _, _, _, _, _, _, _, _, _, _, _, _, _, _, _, _, _, _, _, _, _, _, _, _, _, _, _, _, _, _, _, _, _, _, _, _, _, _, _, _, _, _, _, _, _, _, _, _, _, _, _, _, _, _, _, _, _, _, _, _, _, _, _, _, _, _, _, _, _, _, _, _, _, _, _, _, _, _, _, _, _, _, _, _, _, _, _, _, _, _, _, _, _, _, _, _, _, _, _, _, _, _, _, _, _, _, _, _, _, _, _, _, _, _, _, _, _, _, _, _, _, _, _, _, _, _, _, _, _, _, _]) rfl ?_
  refine XW_mid (M := fun ee H' => ∃ (T : List Se) (O : AVal) (o : List Int), Own [] (1 :: 1 :: 1 :: 1 :: []) H' ([sl O 1 (o.map fun a => .int .u64 a), row (0 :: 0 :: []) 3 [r0.enc]]) ∧ (T.length ≤ 16 ∧ o.length ≤ 200 ∧ (o.length < 16 → Held ⟨r0.id, r0.nr, cutA r0.an⟩ o T)) ∧ ∃ g : Nat → AVal, ee = [.lst (T.map Se.enc), g 1, g 2, g 3, .ptr (0 :: 0 :: []) 0 0, g 5, g 6, O, g 8, g 9, g 10, g 11, g 12, g 13, g 14, g 15, g 16, g 17, g 18, g 19, g 20, g 21, g 22, g 23, g 24, g 25, g 26, g 27, g 28, g 29, g 30, g 31, g 32, g 33, g 34, g 35, g 36, g 37, g 38, g 39, g 40, g 41, g 42, g 43, g 44, g 45, g 46, g 47, g 48, g 49, g 50, g 51, g 52, g 53, g 54, g 55, g 56, g 57, g 58, g 59, g 60, g 61, g 62, g 63, g 64, g 65, g 66, g 67, g 68, g 69, g 70, g 71, g 72, g 73, g 74, g 75, g 76, g 77, g 78, g 79, g 80, g 81, g 82, g 83, g 84, g 85, g 86, g 87, g 88, g 89, g 90, g 91, g 92, g 93, g 94, g 95, g 96, g 97, g 98, g 99, g 100, g 101, g 102, g 103, g 104, g 105, g 106, g 107, g 108, g 109, g 110, g 111, g 112, g 113, g 114, g 115, g 116, g 117, g 118, g 119, g 120, g 121, g 122, g 123, g 124, g 125, g 126, g 127, g 128, g 129, g 130, g 131, g 132, g 133, g 134, g 135, g 136, g 137, g 138, g 139, g 140, g 141, g 142, g 143, g 144, g 145, g 146, g 147]) ?_ ?_
  · skip
    refine XW_sr ?_
    refine OW_as rfl rfl ?_
    refine OW_nilE (e' := [_, _, _, _, _, _, _, _, _, _, _, _, _, _, _, _, _, _, _, _, _, _, _, _, _, _, _, _, _, _, _, _, _, _, _, _, _, _, _, _, _, _, _, _, _, _, _, _, _, _, _, _, _, _, _, _, _, _, _, _, _, _, _, _, _, _, _, _, _, _, _, _, _, _, _, _, _, _, _, _, _, _, _, _, _, _, _, _, _, _, _, _, _, _, _, _, _, _, _, _, _, _, _, _, _, _, _, _, _, _, _, _, _, _, _, _, _, _, _, _, _, _, _, _, _, _, _, _, _, _, _, _, _, _, _, _, _, _, _, _, _, _, _, _, _, _, _, _]) rfl ?_
    refine XW_block ?_
    refine XW_whileN (I := fun ν' mm ee H' => ∃ (i : Nat) (T : List Se) (O : AVal) (o : List Int), mm = l.length - i ∧ under (1 :: 0 :: 1 :: 1 :: 1 :: []) ν' = true ∧ Own [] ν' H' ([sl O 1 (o.map fun a => .int .u64 a), row (0 :: 0 :: []) 3 [r0.enc]]) ∧ (i ≤ l.length ∧ i ≤ 200 ∧ T.length ≤ 16 ∧ o.length ≤ i ∧ o.Nodup ∧ (o.length < 16 → Held ⟨r0.id, r0.nr, cutA r0.an⟩ o T)) ∧ ∃ g : Nat → AVal, ee = [.lst (T.map Se.enc), g 1, .lst (l.map Se.enc), g 3, .ptr (0 :: 0 :: []) 0 0, g 5, g 6, O, .int .i64 i, g 9, g 10, g 11, g 12, g 13, g 14, g 15, g 16, g 17, g 18, g 19, g 20, g 21, g 22, g 23, g 24, g 25, g 26, g 27, g 28, g 29, g 30, g 31, g 32, g 33, g 34, g 35, g 36, g 37, g 38, g 39, g 40, g 41, g 42, g 43, g 44, g 45, g 46, g 47, g 48, g 49, g 50, g 51, g 52, g 53, g 54, g 55, g 56, g 57, g 58, g 59, g 60, g 61, g 62, g 63, g 64, g 65, g 66, g 67, g 68, g 69, g 70, g 71, g 72, g 73, g 74, g 75, g 76, g 77, g 78, g 79, g 80, g 81, g 82, g 83, g 84, g 85, g 86, g 87, g 88, g 89, g 90, g 91, g 92, g 93, g 94, g 95, g 96, g 97, g 98, g 99, g 100, g 101, g 102, g 103, g 104, g 105, g 106, g 107, g 108, g 109, g 110, g 111, g 112, g 113, g 114, g 115, g 116, g 117, g 118, g 119, g 120, g 121, g 122, g 123, g 124, g 125, g 126, g 127, g 128, g 129, g 130, g 131, g 132, g 133, g 134, g 135, g 136, g 137, g 138, g 139, g 140, g 141, g 142, g 143, g 144, g 145, g 146, g 147]) ?_ _ _ _ _ ⟨0, _, .emp, [], rfl, under_me, Own.cast (Own.mono (hS1.addE) (le_lit (ν := []) (a := [1, 0]) (b := [1, 0, 1, 1, 1]) (by decide))) (rfl), (⟨by omega, by omega, h16, by simp, by simp, fun _ => held_first t r0⟩), env_g rfl⟩
    rintro ν1 mm ee H2 ⟨i, T, O, o, rfl, hU1, hS2, ⟨hi, hi2, hT, ho, hnd, hH⟩, g1, rfl⟩
    refine XW_seq ?_
    refine XW_sr ?_
    refine OW_mv rfl rfl ?_
    refine OW_mv rfl rfl ?_
    first
    | refine OW_lenL rfl rfl (by first | assumption | exact Ls.of | exact Ls.emp | exact Ls.nls) rfl rfl rfl (by first | exact List.length_map _ | rfl) ?_
    | refine OW_bi rfl rfl rfl ?_
    | refine OW_lenO hS2 (k := 0) rfl rfl rfl rfl rfl rfl (by first | exact List.length_map _ | exact len_app1 | exact len_drop | (simp only [List.length_append, List.length_map, List.length_singleton, List.length_cons, List.length_nil]; rfl) | rfl) ?_
    refine OW_env (e' := [_, _, _, _, _, _, _, _, _, _, _, _, _, _, _, _, _, _, _, _, _, _, _, _, _, _, _, _, _, _, _, _, _, _, _, _, _, _, _, _, _, _, _, _, _, _, _, _, _, _, _, _, _, _, _, _, _, _, _, _, _, _, _, _, _, _, _, _, _, _, _, _, _, _, _, _, _, _, _, _, _, _, _, _, _, _, _, _, _, _, _, _, _, _, _, _, _, _, _, _, _, _, _, _, _, _, _, _, _, _, _, _, _, _, _, _, _, _, _, _, _, _, _, _, _, _, _, _, _, _, _, _, _, _, _, _, _, _, _, _, _, _, _, _, _, _, _, _]) rfl ?_
    refine OW_bin rfl rfl rfl rfl rfl ?_
    refine OW_mv rfl rfl ?_
    refine OW_split (tt := 29) rfl (fun g4_5 => ?_) (fun g4_5 => ?_)
    · try simp only [decide_eq_true_eq, decide_eq_false_iff_not, Bool.not_eq_true', Bool.not_eq_false', Bool.and_eq_true, Bool.or_eq_true, Bool.not_eq_true, Bool.not_eq_false, Decidable.not_not, bne_iff_ne, beq_iff_eq, List.length_append, List.length_cons, List.length_nil, List.length_drop, List.length_take] at g4_5
      refine OW_env (e' := [_, _, _, _, _, _, _, _, _, _, _, _, _, _, _, _, _, _, _, _, _, _, _, _, _, _, _, _, _, _, _, _, _, _, _, _, _, _, _, _, _, _, _, _, _, _, _, _, _, _, _, _, _, _, _, _, _, _, _, _, _, _, _, _, _, _, _, _, _, _, _, _, _, _, _, _, _, _, _, _, _, _, _, _, _, _, _, _, _, _, _, _, _, _, _, _, _, _, _, _, _, _, _, _, _, _, _, _, _, _, _, _, _, _, _, _, _, _, _, _, _, _, _, _, _, _, _, _, _, _, _, _, _, _, _, _, _, _, _, _, _, _, _, _, _, _, _, _]) rfl ?_
      refine OW_mv rfl rfl ?_
      refine OW_bin rfl rfl rfl rfl rfl ?_
      refine OW_pick rfl rfl rfl ?_
      refine OW_nilE (e' := [_, _, _, _, _, _, _, _, _, _, _, _, _, _, _, _, _, _, _, _, _, _, _, _, _, _, _, _, _, _, _, _, _, _, _, _, _, _, _, _, _, _, _, _, _, _, _, _, _, _, _, _, _, _, _, _, _, _, _, _, _, _, _, _, _, _, _, _, _, _, _, _, _, _, _, _, _, _, _, _, _, _, _, _, _, _, _, _, _, _, _, _, _, _, _, _, _, _, _, _, _, _, _, _, _, _, _, _, _, _, _, _, _, _, _, _, _, _, _, _, _, _, _, _, _, _, _, _, _, _, _, _, _, _, _, _, _, _, _, _, _, _, _, _, _, _, _, _]) rfl ?_
      refine XW_if rfl (fun h4 => ?_) (fun h4 => ?_)
      · try simp only [decide_eq_true_eq, decide_eq_false_iff_not, Bool.not_eq_true', Bool.not_eq_false', Bool.and_eq_true, Bool.or_eq_true, Bool.not_eq_true, Bool.not_eq_false, Decidable.not_not, bne_iff_ne, beq_iff_eq, List.length_append, List.length_cons, List.length_nil, List.length_drop, List.length_take] at h4
        refine XW_skip ?_
        refine then_norm ?_
        refine XW_seq ?_
        refine XW_block ?_
        refine XW_seq ?_
        refine XW_sr ?_
        refine OW_mv rfl rfl ?_
        refine OW_mv rfl rfl ?_
        first
        | refine OW_iaL rfl rfl rfl Ls.of rfl rfl rfl (by first | rfl | exact (Int.toNat_of_nonneg (by omega)).symm) (by first | assumption | exact at_map (by first | assumption | omega) | exact at_lst (by omega)) rfl ?_
        | refine OW_iaL rfl rfl rfl (by assumption) rfl rfl rfl (by first | rfl | exact (Int.toNat_of_nonneg (by omega)).symm) (by first | assumption | exact at_map (by first | assumption | omega) | exact at_lst (by omega)) rfl ?_
        refine OW_env (e' := [_, _, _, _, _, _, _, _, _, _, _, _, _, _, _, _, _, _, _, _, _, _, _, _, _, _, _, _, _, _, _, _, _, _, _, _, _, _, _, _, _, _, _, _, _, _, _, _, _, _, _, _, _, _, _, _, _, _, _, _, _, _, _, _, _, _, _, _, _, _, _, _, _, _, _, _, _, _, _, _, _, _, _, _, _, _, _, _, _, _, _, _, _, _, _, _, _, _, _, _, _, _, _, _, _, _, _, _, _, _, _, _, _, _, _, _, _, _, _, _, _, _, _, _, _, _, _, _, _, _, _, _, _, _, _, _, _, _, _, _, _, _, _, _, _, _, _, _]) rfl ?_
        refine OW_fa rfl rfl rfl ?_
        refine OW_loadE rfl rfl rfl (by first | exact part_whole rfl rfl rfl | rfl) ?_
        refine OW_fa rfl rfl rfl ?_
        refine OW_env (e' := [_, _, _, _, _, _, _, _, _, _, _, _, _, _, _, _, _, _, _, _, _, _, _, _, _, _, _, _, _, _, _, _, _, _, _, _, _, _, _, _, _, _, _, _, _, _, _, _, _, _, _, _, _, _, _, _, _, _, _, _, _, _, _, _, _, _, _, _, _, _, _, _, _, _, _, _, _, _, _, _, _, _, _, _, _, _, _, _, _, _, _, _, _, _, _, _, _, _, _, _, _, _, _, _, _, _, _, _, _, _, _, _, _, _, _, _, _, _, _, _, _, _, _, _, _, _, _, _, _, _, _, _, _, _, _, _, _, _, _, _, _, _, _, _, _, _, _, _]) rfl ?_
        refine OW_loadR hS2 (k := 1) rfl rfl rfl rfl rfl (by first | exact part_whole rfl rfl rfl | rfl) ?_
        refine OW_bin rfl rfl rfl rfl rfl ?_
        refine OW_nilE (e' := [_, _, _, _, _, _, _, _, _, _, _, _, _, _, _, _, _, _, _, _, _, _, _, _, _, _, _, _, _, _, _, _, _, _, _, _, _, _, _, _, _, _, _, _, _, _, _, _, _, _, _, _, _, _, _, _, _, _, _, _, _, _, _, _, _, _, _, _, _, _, _, _, _, _, _, _, _, _, _, _, _, _, _, _, _, _, _, _, _, _, _, _, _, _, _, _, _, _, _, _, _, _, _, _, _, _, _, _, _, _, _, _, _, _, _, _, _, _, _, _, _, _, _, _, _, _, _, _, _, _, _, _, _, _, _, _, _, _, _, _, _, _, _, _, _, _, _, _]) rfl ?_
        refine XW_if rfl (fun h6 => ?_) (fun h6 => ?_)
        · try simp only [decide_eq_true_eq, decide_eq_false_iff_not, Bool.not_eq_true', Bool.not_eq_false', Bool.and_eq_true, Bool.or_eq_true, Bool.not_eq_true, Bool.not_eq_false, Decidable.not_not, bne_iff_ne, beq_iff_eq, List.length_append, List.length_cons, List.length_nil, List.length_drop, List.length_take] at h6
          refine XW_exit ?_
          refine then_exit ?_
          refine block_exit ?_
          refine then_norm ?_
          refine XW_region ?_
          refine OW_mv rfl rfl ?_
          first
          | refine OW_bin rfl rfl rfl rfl (add_w64 (by first | omega | assumption | (simp only [ByteArray.size_append, ByteArray.size_extract, List.length_map, List.length_append, List.length_cons, List.length_nil, List.length_drop, List.length_take]; omega))) ?_
          | refine OW_bin rfl rfl rfl rfl rfl ?_
          refine OW_as rfl rfl ?_
          refine OW_nilE (e' := [_, _, _, _, _, _, _, _, _, _, _, _, _, _, _, _, _, _, _, _, _, _, _, _, _, _, _, _, _, _, _, _, _, _, _, _, _, _, _, _, _, _, _, _, _, _, _, _, _, _, _, _, _, _, _, _, _, _, _, _, _, _, _, _, _, _, _, _, _, _, _, _, _, _, _, _, _, _, _, _, _, _, _, _, _, _, _, _, _, _, _, _, _, _, _, _, _, _, _, _, _, _, _, _, _, _, _, _, _, _, _, _, _, _, _, _, _, _, _, _, _, _, _, _, _, _, _, _, _, _, _, _, _, _, _, _, _, _, _, _, _, _, _, _, _, _, _, _]) rfl ?_
          -- round 0.1
          refine ⟨_, ?_, i + 1, T, O, o, rfl, under_in hU1, Own.cast (Own.mono (hS2) (le_app (p := ν1) (b := [1]))) (rfl), ?_, env_g rfl⟩
          · first | omega | (simp; omega)
          · exact ⟨by omega, by omega, hT, by omega, hnd, hH⟩
        · try simp only [decide_eq_true_eq, decide_eq_false_iff_not, Bool.not_eq_true', Bool.not_eq_false', Bool.and_eq_true, Bool.or_eq_true, Bool.not_eq_true, Bool.not_eq_false, Decidable.not_not, bne_iff_ne, beq_iff_eq, List.length_append, List.length_cons, List.length_nil, List.length_drop, List.length_take] at h6
          refine XW_skip ?_
          refine then_norm ?_
          refine XW_seq ?_
          refine XW_sr ?_
          refine OW_mv rfl rfl ?_
          refine OW_mv rfl rfl ?_
          refine OW_mv rfl rfl ?_
          refine OW_env (e' := [_, _, _, _, _, _, _, _, _, _, _, _, _, _, _, _, _, _, _, _, _, _, _, _, _, _, _, _, _, _, _, _, _, _, _, _, _, _, _, _, _, _, _, _, _, _, _, _, _, _, _, _, _, _, _, _, _, _, _, _, _, _, _, _, _, _, _, _, _, _, _, _, _, _, _, _, _, _, _, _, _, _, _, _, _, _, _, _, _, _, _, _, _, _, _, _, _, _, _, _, _, _, _, _, _, _, _, _, _, _, _, _, _, _, _, _, _, _, _, _, _, _, _, _, _, _, _, _, _, _, _, _, _, _, _, _, _, _, _, _, _, _, _, _, _, _, _, _]) rfl ?_
          first
          | refine OW_iaL rfl rfl rfl Ls.of rfl rfl rfl (by first | rfl | exact (Int.toNat_of_nonneg (by omega)).symm) (by first | assumption | exact at_map (by first | assumption | omega) | exact at_lst (by omega)) rfl ?_
          | refine OW_iaL rfl rfl rfl (by assumption) rfl rfl rfl (by first | rfl | exact (Int.toNat_of_nonneg (by omega)).symm) (by first | assumption | exact at_map (by first | assumption | omega) | exact at_lst (by omega)) rfl ?_
          refine OW_fa rfl rfl rfl ?_
          refine OW_loadE rfl rfl rfl (by first | exact part_whole rfl rfl rfl | rfl) ?_
          refine OW_env (e' := [_, _, _, _, _, _, _, _, _, _, _, _, _, _, _, _, _, _, _, _, _, _, _, _, _, _, _, _, _, _, _, _, _, _, _, _, _, _, _, _, _, _, _, _, _, _, _, _, _, _, _, _, _, _, _, _, _, _, _, _, _, _, _, _, _, _, _, _, _, _, _, _, _, _, _, _, _, _, _, _, _, _, _, _, _, _, _, _, _, _, _, _, _, _, _, _, _, _, _, _, _, _, _, _, _, _, _, _, _, _, _, _, _, _, _, _, _, _, _, _, _, _, _, _, _, _, _, _, _, _, _, _, _, _, _, _, _, _, _, _, _, _, _, _, _, _, _, _]) rfl ?_
          refine OW_fn rfl rfl (c_has (hS2.freeze0 (k := 0) rfl (map_plain (fun _ => rfl))) (by omega) _ ?_) 
          refine OW_un rfl rfl rfl ?_
          refine OW_nilE (e' := [_, _, _, _, _, _, _, _, _, _, _, _, _, _, _, _, _, _, _, _, _, _, _, _, _, _, _, _, _, _, _, _, _, _, _, _, _, _, _, _, _, _, _, _, _, _, _, _, _, _, _, _, _, _, _, _, _, _, _, _, _, _, _, _, _, _, _, _, _, _, _, _, _, _, _, _, _, _, _, _, _, _, _, _, _, _, _, _, _, _, _, _, _, _, _, _, _, _, _, _, _, _, _, _, _, _, _, _, _, _, _, _, _, _, _, _, _, _, _, _, _, _, _, _, _, _, _, _, _, _, _, _, _, _, _, _, _, _, _, _, _, _, _, _, _, _, _, _]) rfl ?_
          refine XW_if rfl (fun h7 => ?_) (fun h7 => ?_)
          · try simp only [decide_eq_true_eq, decide_eq_false_iff_not, Bool.not_eq_true', Bool.not_eq_false', Bool.and_eq_true, Bool.or_eq_true, Bool.not_eq_true, Bool.not_eq_false, Decidable.not_not, bne_iff_ne, beq_iff_eq, List.length_append, List.length_cons, List.length_nil, List.length_drop, List.length_take] at h7
            refine XW_region ?_
            refine OW_mv rfl rfl ?_
            refine OW_mv rfl rfl ?_
            refine OW_mv rfl rfl ?_
            refine OW_env (e' := [_, _, _, _, _, _, _, _, _, _, _, _, _, _, _, _, _, _, _, _, _, _, _, _, _, _, _, _, _, _, _, _, _, _, _, _, _, _, _, _, _, _, _, _, _, _, _, _, _, _, _, _, _, _, _, _, _, _, _, _, _, _, _, _, _, _, _, _, _, _, _, _, _, _, _, _, _, _, _, _, _, _, _, _, _, _, _, _, _, _, _, _, _, _, _, _, _, _, _, _, _, _, _, _, _, _, _, _, _, _, _, _, _, _, _, _, _, _, _, _, _, _, _, _, _, _, _, _, _, _, _, _, _, _, _, _, _, _, _, _, _, _, _, _, _, _, _, _]) rfl ?_
            first
            | refine OW_iaL rfl rfl rfl Ls.of rfl rfl rfl (by first | rfl | exact (Int.toNat_of_nonneg (by omega)).symm) (by first | assumption | exact at_map (by first | assumption | omega) | exact at_lst (by omega)) rfl ?_
            | refine OW_iaL rfl rfl rfl (by assumption) rfl rfl rfl (by first | rfl | exact (Int.toNat_of_nonneg (by omega)).symm) (by first | assumption | exact at_map (by first | assumption | omega) | exact at_lst (by omega)) rfl ?_
            refine OW_fa rfl rfl rfl ?_
            refine OW_loadE rfl rfl rfl (by first | exact part_whole rfl rfl rfl | rfl) ?_
            refine OW_env (e' := [_, _, _, _, _, _, _, _, _, _, _, _, _, _, _, _, _, _, _, _, _, _, _, _, _, _, _, _, _, _, _, _, _, _, _, _, _, _, _, _, _, _, _, _, _, _, _, _, _, _, _, _, _, _, _, _, _, _, _, _, _, _, _, _, _, _, _, _, _, _, _, _, _, _, _, _, _, _, _, _, _, _, _, _, _, _, _, _, _, _, _, _, _, _, _, _, _, _, _, _, _, _, _, _, _, _, _, _, _, _, _, _, _, _, _, _, _, _, _, _, _, _, _, _, _, _, _, _, _, _, _, _, _, _, _, _, _, _, _, _, _, _, _, _, _, _, _, _]) rfl ?_
            refine OW_bs rfl rfl (v := .lst [_]) rfl ?_
            refine OW_app hS2 (k := 0) rfl (le_app (p := ν1) (b := [7, 1, 0, 1, 0, 1, 0])) under_nil rfl rfl rfl rfl rfl rfl rfl rfl (by first | rfl | exact Ls.elems (by assumption)) (by first | exact one_wide rfl | exact map_wide (fun _ => rfl) | assumption | (intro y hy; simp at hy; done)) (by first | omega | (simp only [List.length_map, List.length_append, List.length_singleton, List.length_cons, List.length_nil, List.length_take, List.length_drop]; omega) | (simp; omega)) (by decide) fun O1 H3 hS3 => ?_
            replace hS3 : Own _ _ _ ([_, _]) := hS3
            refine OW_as rfl rfl ?_
            refine OW_nilE (e' := [_, _, _, _, _, _, _, _, _, _, _, _, _, _, _, _, _, _, _, _, _, _, _, _, _, _, _, _, _, _, _, _, _, _, _, _, _, _, _, _, _, _, _, _, _, _, _, _, _, _, _, _, _, _, _, _, _, _, _, _, _, _, _, _, _, _, _, _, _, _, _, _, _, _, _, _, _, _, _, _, _, _, _, _, _, _, _, _, _, _, _, _, _, _, _, _, _, _, _, _, _, _, _, _, _, _, _, _, _, _, _, _, _, _, _, _, _, _, _, _, _, _, _, _, _, _, _, _, _, _, _, _, _, _, _, _, _, _, _, _, _, _, _, _, _, _, _, _]) rfl ?_
            refine then_norm ?_
            refine XW_region ?_
            refine OW_mv rfl rfl ?_
            refine OW_mv rfl rfl ?_
            refine OW_mv rfl rfl ?_
            refine OW_env (e' := [_, _, _, _, _, _, _, _, _, _, _, _, _, _, _, _, _, _, _, _, _, _, _, _, _, _, _, _, _, _, _, _, _, _, _, _, _, _, _, _, _, _, _, _, _, _, _, _, _, _, _, _, _, _, _, _, _, _, _, _, _, _, _, _, _, _, _, _, _, _, _, _, _, _, _, _, _, _, _, _, _, _, _, _, _, _, _, _, _, _, _, _, _, _, _, _, _, _, _, _, _, _, _, _, _, _, _, _, _, _, _, _, _, _, _, _, _, _, _, _, _, _, _, _, _, _, _, _, _, _, _, _, _, _, _, _, _, _, _, _, _, _, _, _, _, _, _, _]) rfl ?_
            first
            | refine OW_iaL rfl rfl rfl Ls.of rfl rfl rfl (by first | rfl | exact (Int.toNat_of_nonneg (by omega)).symm) (by first | assumption | exact at_map (by first | assumption | omega) | exact at_lst (by omega)) rfl ?_
            | refine OW_iaL rfl rfl rfl (by assumption) rfl rfl rfl (by first | rfl | exact (Int.toNat_of_nonneg (by omega)).symm) (by first | assumption | exact at_map (by first | assumption | omega) | exact at_lst (by omega)) rfl ?_
            refine OW_fa rfl rfl rfl ?_
            refine OW_loadE rfl rfl rfl (by first | exact part_whole rfl rfl rfl | rfl) ?_
            refine OW_env (e' := [_, _, _, _, _, _, _, _, _, _, _, _, _, _, _, _, _, _, _, _, _, _, _, _, _, _, _, _, _, _, _, _, _, _, _, _, _, _, _, _, _, _, _, _, _, _, _, _, _, _, _, _, _, _, _, _, _, _, _, _, _, _, _, _, _, _, _, _, _, _, _, _, _, _, _, _, _, _, _, _, _, _, _, _, _, _, _, _, _, _, _, _, _, _, _, _, _, _, _, _, _, _, _, _, _, _, _, _, _, _, _, _, _, _, _, _, _, _, _, _, _, _, _, _, _, _, _, _, _, _, _, _, _, _, _, _, _, _, _, _, _, _, _, _, _, _, _, _]) rfl ?_
            refine OW_mv rfl rfl ?_
            refine OW_mv rfl rfl ?_
            first
            | refine OW_iaL rfl rfl rfl Ls.of rfl rfl rfl (by first | rfl | exact (Int.toNat_of_nonneg (by omega)).symm) (by first | assumption | exact at_map (by first | assumption | omega) | exact at_lst (by omega)) rfl ?_
            | refine OW_iaL rfl rfl rfl (by assumption) rfl rfl rfl (by first | rfl | exact (Int.toNat_of_nonneg (by omega)).symm) (by first | assumption | exact at_map (by first | assumption | omega) | exact at_lst (by omega)) rfl ?_
            refine OW_env (e' := [_, _, _, _, _, _, _, _, _, _, _, _, _, _, _, _, _, _, _, _, _, _, _, _, _, _, _, _, _, _, _, _, _, _, _, _, _, _, _, _, _, _, _, _, _, _, _, _, _, _, _, _, _, _, _, _, _, _, _, _, _, _, _, _, _, _, _, _, _, _, _, _, _, _, _, _, _, _, _, _, _, _, _, _, _, _, _, _, _, _, _, _, _, _, _, _, _, _, _, _, _, _, _, _, _, _, _, _, _, _, _, _, _, _, _, _, _, _, _, _, _, _, _, _, _, _, _, _, _, _, _, _, _, _, _, _, _, _, _, _, _, _, _, _, _, _, _, _]) rfl ?_
            refine OW_fa rfl rfl rfl ?_
            refine OW_loadE rfl rfl rfl (by first | exact part_whole rfl rfl rfl | rfl) ?_
            refine OW_mv rfl rfl ?_
            refine OW_env (e' := [_, _, _, _, _, _, _, _, _, _, _, _, _, _, _, _, _, _, _, _, _, _, _, _, _, _, _, _, _, _, _, _, _, _, _, _, _, _, _, _, _, _, _, _, _, _, _, _, _, _, _, _, _, _, _, _, _, _, _, _, _, _, _, _, _, _, _, _, _, _, _, _, _, _, _, _, _, _, _, _, _, _, _, _, _, _, _, _, _, _, _, _, _, _, _, _, _, _, _, _, _, _, _, _, _, _, _, _, _, _, _, _, _, _, _, _, _, _, _, _, _, _, _, _, _, _, _, _, _, _, _, _, _, _, _, _, _, _, _, _, _, _, _, _, _, _, _, _]) rfl ?_
            refine OW_mv rfl rfl ?_
            first
            | refine OW_iaL rfl rfl rfl Ls.of rfl rfl rfl (by first | rfl | exact (Int.toNat_of_nonneg (by omega)).symm) (by first | assumption | exact at_map (by first | assumption | omega) | exact at_lst (by omega)) rfl ?_
            | refine OW_iaL rfl rfl rfl (by assumption) rfl rfl rfl (by first | rfl | exact (Int.toNat_of_nonneg (by omega)).symm) (by first | assumption | exact at_map (by first | assumption | omega) | exact at_lst (by omega)) rfl ?_
            refine OW_fa rfl rfl rfl ?_
            refine OW_env (e' := [_, _, _, _, _, _, _, _, _, _, _, _, _, _, _, _, _, _, _, _, _, _, _, _, _, _, _, _, _, _, _, _, _, _, _, _, _, _, _, _, _, _, _, _, _, _, _, _, _, _, _, _, _, _, _, _, _, _, _, _, _, _, _, _, _, _, _, _, _, _, _, _, _, _, _, _, _, _, _, _, _, _, _, _, _, _, _, _, _, _, _, _, _, _, _, _, _, _, _, _, _, _, _, _, _, _, _, _, _, _, _, _, _, _, _, _, _, _, _, _, _, _, _, _, _, _, _, _, _, _, _, _, _, _, _, _, _, _, _, _, _, _, _, _, _, _, _, _]) rfl ?_
            refine OW_loadE rfl rfl rfl (by first | exact part_whole rfl rfl rfl | rfl) ?_
            refine OW_fn rfl rfl (pNote Ls.of (by omega) _ _ _ (by first | omega | exact Nat.le_trans (hla _ (List.getElem_mem _)) (by decide)) ?_) 
            refine OW_as rfl rfl ?_
            refine OW_nilE (e' := [_, _, _, _, _, _, _, _, _, _, _, _, _, _, _, _, _, _, _, _, _, _, _, _, _, _, _, _, _, _, _, _, _, _, _, _, _, _, _, _, _, _, _, _, _, _, _, _, _, _, _, _, _, _, _, _, _, _, _, _, _, _, _, _, _, _, _, _, _, _, _, _, _, _, _, _, _, _, _, _, _, _, _, _, _, _, _, _, _, _, _, _, _, _, _, _, _, _, _, _, _, _, _, _, _, _, _, _, _, _, _, _, _, _, _, _, _, _, _, _, _, _, _, _, _, _, _, _, _, _, _, _, _, _, _, _, _, _, _, _, _, _, _, _, _, _, _, _]) rfl ?_
            refine block_norm ?_
            refine then_norm ?_
            refine XW_region ?_
            refine OW_mv rfl rfl ?_
            first
            | refine OW_bin rfl rfl rfl rfl (add_w64 (by first | omega | assumption | (simp only [ByteArray.size_append, ByteArray.size_extract, List.length_map, List.length_append, List.length_cons, List.length_nil, List.length_drop, List.length_take]; omega))) ?_
            | refine OW_bin rfl rfl rfl rfl rfl ?_
            refine OW_as rfl rfl ?_
            refine OW_nilE (e' := [_, _, _, _, _, _, _, _, _, _, _, _, _, _, _, _, _, _, _, _, _, _, _, _, _, _, _, _, _, _, _, _, _, _, _, _, _, _, _, _, _, _, _, _, _, _, _, _, _, _, _, _, _, _, _, _, _, _, _, _, _, _, _, _, _, _, _, _, _, _, _, _, _, _, _, _, _, _, _, _, _, _, _, _, _, _, _, _, _, _, _, _, _, _, _, _, _, _, _, _, _, _, _, _, _, _, _, _, _, _, _, _, _, _, _, _, _, _, _, _, _, _, _, _, _, _, _, _, _, _, _, _, _, _, _, _, _, _, _, _, _, _, _, _, _, _, _, _]) rfl ?_
            have hnd2 : (o ++ [l[i].id]).Nodup := by rw [List.nodup_append]; exact ⟨hnd, by simp, fun a ha b hb => by rw [List.mem_singleton] at hb; subst hb; exact fun e => h7 (e ▸ ha)⟩
            -- round 0.2
            refine ⟨_, ?_, i + 1, _, O1, o ++ [l[i].id], rfl, under_in hU1, Own.cast (Own.mono (hS3) (le_lit (ν := ν1) (a := [8, 1, 0, 1, 0, 1, 0]) (b := [1]) (by decide))) (by simp), ?_, env_g rfl⟩
            · first | omega | (simp; omega)
            · exact ⟨by omega, by omega, noteL_le _ _ _ _, by simp; omega, hnd2, fun hlt => held_note ⟨r0.id, r0.nr, cutA r0.an⟩ o (o ++ [l[i].id]) T l[i] h6 (by simp) (fun a ha => by simp [ha]) hlt hnd2 (hH (by simp at hlt; omega))⟩
          · try simp only [decide_eq_true_eq, decide_eq_false_iff_not, Bool.not_eq_true', Bool.not_eq_false', Bool.and_eq_true, Bool.or_eq_true, Bool.not_eq_true, Bool.not_eq_false, Decidable.not_not, bne_iff_ne, beq_iff_eq, List.length_append, List.length_cons, List.length_nil, List.length_drop, List.length_take] at h7
            refine XW_skip ?_
            refine then_norm ?_
            refine XW_region ?_
            refine OW_mv rfl rfl ?_
            refine OW_mv rfl rfl ?_
            refine OW_mv rfl rfl ?_
            refine OW_env (e' := [_, _, _, _, _, _, _, _, _, _, _, _, _, _, _, _, _, _, _, _, _, _, _, _, _, _, _, _, _, _, _, _, _, _, _, _, _, _, _, _, _, _, _, _, _, _, _, _, _, _, _, _, _, _, _, _, _, _, _, _, _, _, _, _, _, _, _, _, _, _, _, _, _, _, _, _, _, _, _, _, _, _, _, _, _, _, _, _, _, _, _, _, _, _, _, _, _, _, _, _, _, _, _, _, _, _, _, _, _, _, _, _, _, _, _, _, _, _, _, _, _, _, _, _, _, _, _, _, _, _, _, _, _, _, _, _, _, _, _, _, _, _, _, _, _, _, _, _]) rfl ?_
            first
            | refine OW_iaL rfl rfl rfl Ls.of rfl rfl rfl (by first | rfl | exact (Int.toNat_of_nonneg (by omega)).symm) (by first | assumption | exact at_map (by first | assumption | omega) | exact at_lst (by omega)) rfl ?_
            | refine OW_iaL rfl rfl rfl (by assumption) rfl rfl rfl (by first | rfl | exact (Int.toNat_of_nonneg (by omega)).symm) (by first | assumption | exact at_map (by first | assumption | omega) | exact at_lst (by omega)) rfl ?_
            refine OW_fa rfl rfl rfl ?_
            refine OW_loadE rfl rfl rfl (by first | exact part_whole rfl rfl rfl | rfl) ?_
            refine OW_env (e' := [_, _, _, _, _, _, _, _, _, _, _, _, _, _, _, _, _, _, _, _, _, _, _, _, _, _, _, _, _, _, _, _, _, _, _, _, _, _, _, _, _, _, _, _, _, _, _, _, _, _, _, _, _, _, _, _, _, _, _, _, _, _, _, _, _, _, _, _, _, _, _, _, _, _, _, _, _, _, _, _, _, _, _, _, _, _, _, _, _, _, _, _, _, _, _, _, _, _, _, _, _, _, _, _, _, _, _, _, _, _, _, _, _, _, _, _, _, _, _, _, _, _, _, _, _, _, _, _, _, _, _, _, _, _, _, _, _, _, _, _, _, _, _, _, _, _, _, _]) rfl ?_
            refine OW_mv rfl rfl ?_
            refine OW_mv rfl rfl ?_
            first
            | refine OW_iaL rfl rfl rfl Ls.of rfl rfl rfl (by first | rfl | exact (Int.toNat_of_nonneg (by omega)).symm) (by first | assumption | exact at_map (by first | assumption | omega) | exact at_lst (by omega)) rfl ?_
            | refine OW_iaL rfl rfl rfl (by assumption) rfl rfl rfl (by first | rfl | exact (Int.toNat_of_nonneg (by omega)).symm) (by first | assumption | exact at_map (by first | assumption | omega) | exact at_lst (by omega)) rfl ?_
            refine OW_env (e' := [_, _, _, _, _, _, _, _, _, _, _, _, _, _, _, _, _, _, _, _, _, _, _, _, _, _, _, _, _, _, _, _, _, _, _, _, _, _, _, _, _, _, _, _, _, _, _, _, _, _, _, _, _, _, _, _, _, _, _, _, _, _, _, _, _, _, _, _, _, _, _, _, _, _, _, _, _, _, _, _, _, _, _, _, _, _, _, _, _, _, _, _, _, _, _, _, _, _, _, _, _, _, _, _, _, _, _, _, _, _, _, _, _, _, _, _, _, _, _, _, _, _, _, _, _, _, _, _, _, _, _, _, _, _, _, _, _, _, _, _, _, _, _, _, _, _, _, _]) rfl ?_
            refine OW_fa rfl rfl rfl ?_
            refine OW_loadE rfl rfl rfl (by first | exact part_whole rfl rfl rfl | rfl) ?_
            refine OW_mv rfl rfl ?_
            refine OW_env (e' := [_, _, _, _, _, _, _, _, _, _, _, _, _, _, _, _, _, _, _, _, _, _, _, _, _, _, _, _, _, _, _, _, _, _, _, _, _, _, _, _, _, _, _, _, _, _, _, _, _, _, _, _, _, _, _, _, _, _, _, _, _, _, _, _, _, _, _, _, _, _, _, _, _, _, _, _, _, _, _, _, _, _, _, _, _, _, _, _, _, _, _, _, _, _, _, _, _, _, _, _, _, _, _, _, _, _, _, _, _, _, _, _, _, _, _, _, _, _, _, _, _, _, _, _, _, _, _, _, _, _, _, _, _, _, _, _, _, _, _, _, _, _, _, _, _, _, _, _]) rfl ?_
            refine OW_mv rfl rfl ?_
            first
            | refine OW_iaL rfl rfl rfl Ls.of rfl rfl rfl (by first | rfl | exact (Int.toNat_of_nonneg (by omega)).symm) (by first | assumption | exact at_map (by first | assumption | omega) | exact at_lst (by omega)) rfl ?_
            | refine OW_iaL rfl rfl rfl (by assumption) rfl rfl rfl (by first | rfl | exact (Int.toNat_of_nonneg (by omega)).symm) (by first | assumption | exact at_map (by first | assumption | omega) | exact at_lst (by omega)) rfl ?_
            refine OW_fa rfl rfl rfl ?_
            refine OW_env (e' := [_, _, _, _, _, _, _, _, _, _, _, _, _, _, _, _, _, _, _, _, _, _, _, _, _, _, _, _, _, _, _, _, _, _, _, _, _, _, _, _, _, _, _, _, _, _, _, _, _, _, _, _, _, _, _, _, _, _, _, _, _, _, _, _, _, _, _, _, _, _, _, _, _, _, _, _, _, _, _, _, _, _, _, _, _, _, _, _, _, _, _, _, _, _, _, _, _, _, _, _, _, _, _, _, _, _, _, _, _, _, _, _, _, _, _, _, _, _, _, _, _, _, _, _, _, _, _, _, _, _, _, _, _, _, _, _, _, _, _, _, _, _, _, _, _, _, _, _]) rfl ?_
            refine OW_loadE rfl rfl rfl (by first | exact part_whole rfl rfl rfl | rfl) ?_
            refine OW_fn rfl rfl (pNote Ls.of (by omega) _ _ _ (by first | omega | exact Nat.le_trans (hla _ (List.getElem_mem _)) (by decide)) ?_) 
            refine OW_as rfl rfl ?_
            refine OW_nilE (e' := [_, _, _, _, _, _, _, _, _, _, _, _, _, _, _, _, _, _, _, _, _, _, _, _, _, _, _, _, _, _, _, _, _, _, _, _, _, _, _, _, _, _, _, _, _, _, _, _, _, _, _, _, _, _, _, _, _, _, _, _, _, _, _, _, _, _, _, _, _, _, _, _, _, _, _, _, _, _, _, _, _, _, _, _, _, _, _, _, _, _, _, _, _, _, _, _, _, _, _, _, _, _, _, _, _, _, _, _, _, _, _, _, _, _, _, _, _, _, _, _, _, _, _, _, _, _, _, _, _, _, _, _, _, _, _, _, _, _, _, _, _, _, _, _, _, _, _, _]) rfl ?_
            refine block_norm ?_
            refine then_norm ?_
            refine XW_region ?_
            refine OW_mv rfl rfl ?_
            first
            | refine OW_bin rfl rfl rfl rfl (add_w64 (by first | omega | assumption | (simp only [ByteArray.size_append, ByteArray.size_extract, List.length_map, List.length_append, List.length_cons, List.length_nil, List.length_drop, List.length_take]; omega))) ?_
            | refine OW_bin rfl rfl rfl rfl rfl ?_
            refine OW_as rfl rfl ?_
            refine OW_nilE (e' := [_, _, _, _, _, _, _, _, _, _, _, _, _, _, _, _, _, _, _, _, _, _, _, _, _, _, _, _, _, _, _, _, _, _, _, _, _, _, _, _, _, _, _, _, _, _, _, _, _, _, _, _, _, _, _, _, _, _, _, _, _, _, _, _, _, _, _, _, _, _, _, _, _, _, _, _, _, _, _, _, _, _, _, _, _, _, _, _, _, _, _, _, _, _, _, _, _, _, _, _, _, _, _, _, _, _, _, _, _, _, _, _, _, _, _, _, _, _, _, _, _, _, _, _, _, _, _, _, _, _, _, _, _, _, _, _, _, _, _, _, _, _, _, _, _, _, _, _]) rfl ?_
            -- round 0.3
            refine ⟨_, ?_, i + 1, _, O, o, rfl, under_in hU1, Own.cast (Own.mono (hS2) (le_app (p := ν1) (b := [1]))) (rfl), ?_, env_g rfl⟩
            · first | omega | (simp; omega)
            · exact ⟨by omega, by omega, noteL_le _ _ _ _, by omega, hnd, fun hlt => held_note ⟨r0.id, r0.nr, cutA r0.an⟩ o o T l[i] h6 h7 (fun a ha => ha) hlt hnd (hH hlt)⟩
      · try simp only [decide_eq_true_eq, decide_eq_false_iff_not, Bool.not_eq_true', Bool.not_eq_false', Bool.and_eq_true, Bool.or_eq_true, Bool.not_eq_true, Bool.not_eq_false, Decidable.not_not, bne_iff_ne, beq_iff_eq, List.length_append, List.length_cons, List.length_nil, List.length_drop, List.length_take] at h4
        refine XW_exit ?_
        refine then_exit ?_
        refine block_exit ?_
        -- mid 10.1
        refine ⟨T, O, o, Own.cast (Own.mono (hS2) (le_bef (bef_under (a := []) hU1 (before_lit (ν := []) (a := [1, 0, 1, 1, 1]) (b := [1, 1, 1, 1]) (by decide))))) (rfl), ?_, env_g rfl⟩
        · exact ⟨hT, by omega, hH⟩
    · try simp only [decide_eq_true_eq, decide_eq_false_iff_not, Bool.not_eq_true', Bool.not_eq_false', Bool.and_eq_true, Bool.or_eq_true, Bool.not_eq_true, Bool.not_eq_false, Decidable.not_not, bne_iff_ne, beq_iff_eq, List.length_append, List.length_cons, List.length_nil, List.length_drop, List.length_take] at g4_5
      refine OW_env (e' := [_, _, _, _, _, _, _, _, _, _, _, _, _, _, _, _, _, _, _, _, _, _, _, _, _, _, _, _, _, _, _, _, _, _, _, _, _, _, _, _, _, _, _, _, _, _, _, _, _, _, _, _, _, _, _, _, _, _, _, _, _, _, _, _, _, _, _, _, _, _, _, _, _, _, _, _, _, _, _, _, _, _, _, _, _, _, _, _, _, _, _, _, _, _, _, _, _, _, _, _, _, _, _, _, _, _, _, _, _, _, _, _, _, _, _, _, _, _, _, _, _, _, _, _, _, _, _, _, _, _, _, _, _, _, _, _, _, _, _, _, _, _, _, _, _, _, _, _]) rfl ?_
      refine OW_no rfl ?_
      refine OW_no rfl ?_
      refine OW_pick rfl rfl rfl ?_
      refine OW_nilE (e' := [_, _, _, _, _, _, _, _, _, _, _, _, _, _, _, _, _, _, _, _, _, _, _, _, _, _, _, _, _, _, _, _, _, _, _, _, _, _, _, _, _, _, _, _, _, _, _, _, _, _, _, _, _, _, _, _, _, _, _, _, _, _, _, _, _, _, _, _, _, _, _, _, _, _, _, _, _, _, _, _, _, _, _, _, _, _, _, _, _, _, _, _, _, _, _, _, _, _, _, _, _, _, _, _, _, _, _, _, _, _, _, _, _, _, _, _, _, _, _, _, _, _, _, _, _, _, _, _, _, _, _, _, _, _, _, _, _, _, _, _, _, _, _, _, _, _, _, _]) rfl ?_
      refine XW_no rfl rfl ?_
      refine XW_exit ?_
      refine then_exit ?_
      refine block_exit ?_
      -- mid 10.2
      refine ⟨T, O, o, Own.cast (Own.mono (hS2) (le_bef (bef_under (a := []) hU1 (before_lit (ν := []) (a := [1, 0, 1, 1, 1]) (b := [1, 1, 1, 1]) (by decide))))) (rfl), ?_, env_g rfl⟩
      · exact ⟨hT, by omega, hH⟩
  · rintro ee H4 ⟨T, O, o, hS4, ⟨hT, ho, hH⟩, g2, rfl⟩
    refine XW_seq ?_
    refine XW_sr ?_
    refine OW_fn rfl rfl (fixedW (by kernel_rfl) ?_) 
    refine OW_un rfl rfl rfl ?_
    refine OW_mv rfl rfl ?_
    refine OW_env (e' := [_, _, _, _, _, _, _, _, _, _, _, _, _, _, _, _, _, _, _, _, _, _, _, _, _, _, _, _, _, _, _, _, _, _, _, _, _, _, _, _, _, _, _, _, _, _, _, _, _, _, _, _, _, _, _, _, _, _, _, _, _, _, _, _, _, _, _, _, _, _, _, _, _, _, _, _, _, _, _, _, _, _, _, _, _, _, _, _, _, _, _, _, _, _, _, _, _, _, _, _, _, _, _, _, _, _, _, _, _, _, _, _, _, _, _, _, _, _, _, _, _, _, _, _, _, _, _, _, _, _, _, _, _, _, _, _, _, _, _, _, _, _, _, _, _, _, _, _]) rfl ?_
    refine OW_mv rfl rfl ?_
    first
    | refine OW_lenL rfl rfl (by first | assumption | exact Ls.of | exact Ls.emp | exact Ls.nls) rfl rfl rfl (by first | exact List.length_map _ | rfl) ?_
    | refine OW_bi rfl rfl rfl ?_
    | refine OW_lenO hS4 (k := 0) rfl rfl rfl rfl rfl rfl (by first | exact List.length_map _ | exact len_app1 | exact len_drop | (simp only [List.length_append, List.length_map, List.length_singleton, List.length_cons, List.length_nil]; rfl) | rfl) ?_
    refine OW_bin rfl rfl rfl rfl rfl ?_
    refine OW_env (e' := [_, _, _, _, _, _, _, _, _, _, _, _, _, _, _, _, _, _, _, _, _, _, _, _, _, _, _, _, _, _, _, _, _, _, _, _, _, _, _, _, _, _, _, _, _, _, _, _, _, _, _, _, _, _, _, _, _, _, _, _, _, _, _, _, _, _, _, _, _, _, _, _, _, _, _, _, _, _, _, _, _, _, _, _, _, _, _, _, _, _, _, _, _, _, _, _, _, _, _, _, _, _, _, _, _, _, _, _, _, _, _, _, _, _, _, _, _, _, _, _, _, _, _, _, _, _, _, _, _, _, _, _, _, _, _, _, _, _, _, _, _, _, _, _, _, _, _, _]) rfl ?_
    refine OW_pick rfl rfl rfl ?_
    refine OW_nilE (e' := [_, _, _, _, _, _, _, _, _, _, _, _, _, _, _, _, _, _, _, _, _, _, _, _, _, _, _, _, _, _, _, _, _, _, _, _, _, _, _, _, _, _, _, _, _, _, _, _, _, _, _, _, _, _, _, _, _, _, _, _, _, _, _, _, _, _, _, _, _, _, _, _, _, _, _, _, _, _, _, _, _, _, _, _, _, _, _, _, _, _, _, _, _, _, _, _, _, _, _, _, _, _, _, _, _, _, _, _, _, _, _, _, _, _, _, _, _, _, _, _, _, _, _, _, _, _, _, _, _, _, _, _, _, _, _, _, _, _, _, _, _, _, _, _, _, _, _, _]) rfl ?_
    refine XW_if rfl (fun h10 => ?_) (fun h10 => ?_)
    · try simp only [decide_eq_true_eq, decide_eq_false_iff_not, Bool.not_eq_true', Bool.not_eq_false', Bool.and_eq_true, Bool.or_eq_true, Bool.not_eq_true, Bool.not_eq_false, Decidable.not_not, bne_iff_ne, beq_iff_eq, List.length_append, List.length_cons, List.length_nil, List.length_drop, List.length_take] at h10
      refine XW_sr ?_
      refine OW_as rfl rfl ?_
      refine OW_nilE (e' := [_, _, _, _, _, _, _, _, _, _, _, _, _, _, _, _, _, _, _, _, _, _, _, _, _, _, _, _, _, _, _, _, _, _, _, _, _, _, _, _, _, _, _, _, _, _, _, _, _, _, _, _, _, _, _, _, _, _, _, _, _, _, _, _, _, _, _, _, _, _, _, _, _, _, _, _, _, _, _, _, _, _, _, _, _, _, _, _, _, _, _, _, _, _, _, _, _, _, _, _, _, _, _, _, _, _, _, _, _, _, _, _, _, _, _, _, _, _, _, _, _, _, _, _, _, _, _, _, _, _, _, _, _, _, _, _, _, _, _, _, _, _, _, _, _, _, _, _]) rfl ?_
      refine XW_ret ?_
      refine then_ret ?_
      -- outcome 1
      refine ret_ret (res1 rfl (rv_tmp rfl)) (frz1 (Q := Q) (by first | exact freeze_plain rfl | exact Ls.freeze (by assumption) | exact Ls.freeze Ls.of | exact Ls.freeze Ls.emp | exact Ls.freeze Ls.nls) ?_)
      first
      | (refine qcast hq ?_; rw [hnext (by first | assumption | (rw [wu64 (by omega)]; omega))]; rfl)
      | exact hq
      | (refine qcast hq ?_; rfl)
      | (refine qcast hq ?_; simp; done)
      | (refine qcast hq ?_; simp; omega)
      | (refine qcast hq ?_; simp_all; done)
    · try simp only [decide_eq_true_eq, decide_eq_false_iff_not, Bool.not_eq_true', Bool.not_eq_false', Bool.and_eq_true, Bool.or_eq_true, Bool.not_eq_true, Bool.not_eq_false, Decidable.not_not, bne_iff_ne, beq_iff_eq, List.length_append, List.length_cons, List.length_nil, List.length_drop, List.length_take] at h10
      refine XW_skip ?_
      refine then_norm ?_
      refine XW_seq ?_
      refine XW_sr ?_
      refine OW_mv rfl rfl ?_
      refine OW_lenO hS4 (k := 0) rfl rfl rfl rfl rfl rfl (by first | exact List.length_map _ | exact len_app1 | exact len_drop | (simp only [List.length_append, List.length_map, List.length_singleton, List.length_cons, List.length_nil]; rfl) | rfl) ?_
      refine OW_bin rfl rfl rfl rfl rfl ?_
      refine OW_nilE (e' := [_, _, _, _, _, _, _, _, _, _, _, _, _, _, _, _, _, _, _, _, _, _, _, _, _, _, _, _, _, _, _, _, _, _, _, _, _, _, _, _, _, _, _, _, _, _, _, _, _, _, _, _, _, _, _, _, _, _, _, _, _, _, _, _, _, _, _, _, _, _, _, _, _, _, _, _, _, _, _, _, _, _, _, _, _, _, _, _, _, _, _, _, _, _, _, _, _, _, _, _, _, _, _, _, _, _, _, _, _, _, _, _, _, _, _, _, _, _, _, _, _, _, _, _, _, _, _, _, _, _, _, _, _, _, _, _, _, _, _, _, _, _, _, _, _, _, _, _]) rfl ?_
      refine XW_if rfl (fun h12 => ?_) (fun h12 => ?_)
      · try simp only [decide_eq_true_eq, decide_eq_false_iff_not, Bool.not_eq_true', Bool.not_eq_false', Bool.and_eq_true, Bool.or_eq_true, Bool.not_eq_true, Bool.not_eq_false, Decidable.not_not, bne_iff_ne, beq_iff_eq, List.length_append, List.length_cons, List.length_nil, List.length_drop, List.length_take] at h12
        refine XW_sr ?_
        refine OW_as rfl rfl ?_
        refine OW_nilE (e' := [_, _, _, _, _, _, _, _, _, _, _, _, _, _, _, _, _, _, _, _, _, _, _, _, _, _, _, _, _, _, _, _, _, _, _, _, _, _, _, _, _, _, _, _, _, _, _, _, _, _, _, _, _, _, _, _, _, _, _, _, _, _, _, _, _, _, _, _, _, _, _, _, _, _, _, _, _, _, _, _, _, _, _, _, _, _, _, _, _, _, _, _, _, _, _, _, _, _, _, _, _, _, _, _, _, _, _, _, _, _, _, _, _, _, _, _, _, _, _, _, _, _, _, _, _, _, _, _, _, _, _, _, _, _, _, _, _, _, _, _, _, _, _, _, _, _, _, _]) rfl ?_
        refine XW_ret ?_
        refine then_ret ?_
        -- outcome 2
        refine ret_ret (res1 rfl (rv_tmp rfl)) (frz1 (Q := Q) (by first | exact freeze_plain rfl | exact Ls.freeze (by assumption) | exact Ls.freeze Ls.of | exact Ls.freeze Ls.emp | exact Ls.freeze Ls.nls) ?_)
        first
        | (refine qcast hq ?_; rw [hnext (by first | assumption | (rw [wu64 (by omega)]; omega))]; rfl)
        | exact hq
        | (refine qcast hq ?_; rfl)
        | (refine qcast hq ?_; simp; done)
        | (refine qcast hq ?_; simp; omega)
        | (refine qcast hq ?_; simp_all; done)
      · try simp only [decide_eq_true_eq, decide_eq_false_iff_not, Bool.not_eq_true', Bool.not_eq_false', Bool.and_eq_true, Bool.or_eq_true, Bool.not_eq_true, Bool.not_eq_false, Decidable.not_not, bne_iff_ne, beq_iff_eq, List.length_append, List.length_cons, List.length_nil, List.length_drop, List.length_take] at h12
        refine XW_skip ?_
        refine then_norm ?_
        refine XW_sr ?_
        refine OW_fa rfl rfl rfl ?_
        refine OW_loadR hS4 (k := 1) rfl rfl rfl rfl rfl (by first | exact part_whole rfl rfl rfl | rfl) ?_
        refine OW_as rfl rfl ?_
        refine OW_nilE (e' := [_, _, _, _, _, _, _, _, _, _, _, _, _, _, _, _, _, _, _, _, _, _, _, _, _, _, _, _, _, _, _, _, _, _, _, _, _, _, _, _, _, _, _, _, _, _, _, _, _, _, _, _, _, _, _, _, _, _, _, _, _, _, _, _, _, _, _, _, _, _, _, _, _, _, _, _, _, _, _, _, _, _, _, _, _, _, _, _, _, _, _, _, _, _, _, _, _, _, _, _, _, _, _, _, _, _, _, _, _, _, _, _, _, _, _, _, _, _, _, _, _, _, _, _, _, _, _, _, _, _, _, _, _, _, _, _, _, _, _, _, _, _, _, _, _, _, _, _]) rfl ?_
        refine XW_mid (M := fun ee H' => ∃ (w : ByteArray) (T : List Se) (O : AVal) (o : List Int), Own [] (1 :: 1 :: 1 :: 1 :: 1 :: 1 :: 1 :: 1 :: []) H' ([sl O 1 (o.map fun a => .int .u64 a), row (0 :: 0 :: []) 3 [r0.enc]]) ∧ (w = cutA r0.an ∧ T.length ≤ 16 ∧ Held ⟨r0.id, r0.nr, cutA r0.an⟩ o T) ∧ ∃ g : Nat → AVal, ee = [.lst (T.map Se.enc), g 1, g 2, g 3, .ptr (0 :: 0 :: []) 0 0, g 5, g 6, g 7, g 8, .str w, g 10, g 11, g 12, g 13, g 14, g 15, g 16, g 17, g 18, g 19, g 20, g 21, g 22, g 23, g 24, g 25, g 26, g 27, g 28, g 29, g 30, g 31, g 32, g 33, g 34, g 35, g 36, g 37, g 38, g 39, g 40, g 41, g 42, g 43, g 44, g 45, g 46, g 47, g 48, g 49, g 50, g 51, g 52, g 53, g 54, g 55, g 56, g 57, g 58, g 59, g 60, g 61, g 62, g 63, g 64, g 65, g 66, g 67, g 68, g 69, g 70, g 71, g 72, g 73, g 74, g 75, g 76, g 77, g 78, g 79, g 80, g 81, g 82, g 83, g 84, g 85, g 86, g 87, g 88, g 89, g 90, g 91, g 92, g 93, g 94, g 95, g 96, g 97, g 98, g 99, g 100, g 101, g 102, g 103, g 104, g 105, g 106, g 107, g 108, g 109, g 110, g 111, g 112, g 113, g 114, g 115, g 116, g 117, g 118, g 119, g 120, g 121, g 122, g 123, g 124, g 125, g 126, g 127, g 128, g 129, g 130, g 131, g 132, g 133, g 134, g 135, g 136, g 137, g 138, g 139, g 140, g 141, g 142, g 143, g 144, g 145, g 146, g 147]) ?_ ?_
        · skip
          refine XW_sr ?_
          refine OW_mv rfl rfl ?_
          refine OW_lenS rfl rfl rfl ?_
          refine OW_bin rfl rfl rfl rfl rfl ?_
          refine OW_nilE (e' := [_, _, _, _, _, _, _, _, _, _, _, _, _, _, _, _, _, _, _, _, _, _, _, _, _, _, _, _, _, _, _, _, _, _, _, _, _, _, _, _, _, _, _, _, _, _, _, _, _, _, _, _, _, _, _, _, _, _, _, _, _, _, _, _, _, _, _, _, _, _, _, _, _, _, _, _, _, _, _, _, _, _, _, _, _, _, _, _, _, _, _, _, _, _, _, _, _, _, _, _, _, _, _, _, _, _, _, _, _, _, _, _, _, _, _, _, _, _, _, _, _, _, _, _, _, _, _, _, _, _, _, _, _, _, _, _, _, _, _, _, _, _, _, _, _, _, _, _]) rfl ?_
          refine XW_if rfl (fun h15 => ?_) (fun h15 => ?_)
          · try simp only [decide_eq_true_eq, decide_eq_false_iff_not, Bool.not_eq_true', Bool.not_eq_false', Bool.and_eq_true, Bool.or_eq_true, Bool.not_eq_true, Bool.not_eq_false, Decidable.not_not, bne_iff_ne, beq_iff_eq, List.length_append, List.length_cons, List.length_nil, List.length_drop, List.length_take] at h15
            refine XW_region ?_
            refine OW_mv rfl rfl ?_
            refine OW_sl rfl rfl rfl rfl rfl (str_hi rfl rfl (by first | omega | (simp only [ByteArray.size_append, ByteArray.size_extract, List.length_map, List.length_append, List.length_cons, List.length_nil, List.length_drop, List.length_take]; omega)) (by first | omega | (simp only [ByteArray.size_append, ByteArray.size_extract, List.length_map, List.length_append, List.length_cons, List.length_nil, List.length_drop, List.length_take]; omega))) ?_
            refine OW_as rfl rfl ?_
            refine OW_nilE (e' := [_, _, _, _, _, _, _, _, _, _, _, _, _, _, _, _, _, _, _, _, _, _, _, _, _, _, _, _, _, _, _, _, _, _, _, _, _, _, _, _, _, _, _, _, _, _, _, _, _, _, _, _, _, _, _, _, _, _, _, _, _, _, _, _, _, _, _, _, _, _, _, _, _, _, _, _, _, _, _, _, _, _, _, _, _, _, _, _, _, _, _, _, _, _, _, _, _, _, _, _, _, _, _, _, _, _, _, _, _, _, _, _, _, _, _, _, _, _, _, _, _, _, _, _, _, _, _, _, _, _, _, _, _, _, _, _, _, _, _, _, _, _, _, _, _, _, _, _]) rfl ?_
            -- mid 17.1
            refine ⟨_, T, O, o, Own.cast (Own.mono (hS4) (le_app (p := 1 :: 1 :: 1 :: 1 :: []) (b := [1, 1, 1, 1]))) (rfl), ?_, env_g rfl⟩
            · refine ⟨?_, hT, hH (by omega)⟩; first | (unfold cutA; congr 1; omega) | exact (cutA_id (by omega)).symm
          · try simp only [decide_eq_true_eq, decide_eq_false_iff_not, Bool.not_eq_true', Bool.not_eq_false', Bool.and_eq_true, Bool.or_eq_true, Bool.not_eq_true, Bool.not_eq_false, Decidable.not_not, bne_iff_ne, beq_iff_eq, List.length_append, List.length_cons, List.length_nil, List.length_drop, List.length_take] at h15
            refine XW_skip ?_
            -- mid 17.2
            refine ⟨_, T, O, o, Own.cast (Own.mono (hS4) (le_app (p := 1 :: 1 :: 1 :: 1 :: []) (b := [1, 1, 1, 1]))) (rfl), ?_, env_g rfl⟩
            · refine ⟨?_, hT, hH (by omega)⟩; first | (unfold cutA; congr 1; omega) | exact (cutA_id (by omega)).symm
        · rintro ee H5 ⟨w, T, O, o, hS5, ⟨rfl, hT, hH⟩, g3, rfl⟩
          have hk : seekL r0.id r0.nr T = (1, cutA r0.an) := by have := held_seek _ _ _ hH r0.nr; simpa using this
          have hold : r0.nr ≠ 0 → (seekL r0.id (IntKind.u64.wrap (r0.nr - 1)) T).1 = 2 := by intro h; rw [held_seek _ _ _ hH, wu64 (by omega), if_neg (by simp; omega), if_pos (by simp; omega)]
          have hnext : IntKind.u64.wrap (r0.nr + 1) ≠ 0 → (seekL r0.id (IntKind.u64.wrap (r0.nr + 1)) T).1 = 0 := by intro h; rcases Decidable.em (r0.nr = 18446744073709551615) with h1 | h1; (exact absurd (by rw [h1]; rfl) h); rw [held_seek _ _ _ hH, wu64 (by omega), if_neg (by simp; omega), if_neg (by simp; omega)]
          refine XW_sr ?_
          refine OW_mv rfl rfl ?_
          refine OW_fa rfl rfl rfl ?_
          refine OW_loadR hS5 (k := 1) rfl rfl rfl rfl rfl (by first | exact part_whole rfl rfl rfl | rfl) ?_
          refine OW_env (e' := [_, _, _, _, _, _, _, _, _, _, _, _, _, _, _, _, _, _, _, _, _, _, _, _, _, _, _, _, _, _, _, _, _, _, _, _, _, _, _, _, _, _, _, _, _, _, _, _, _, _, _, _, _, _, _, _, _, _, _, _, _, _, _, _, _, _, _, _, _, _, _, _, _, _, _, _, _, _, _, _, _, _, _, _, _, _, _, _, _, _, _, _, _, _, _, _, _, _, _, _, _, _, _, _, _, _, _, _, _, _, _, _, _, _, _, _, _, _, _, _, _, _, _, _, _, _, _, _, _, _, _, _, _, _, _, _, _, _, _, _, _, _, _, _, _, _, _, _]) rfl ?_
          refine OW_fa rfl rfl rfl ?_
          refine OW_loadR hS5 (k := 1) rfl rfl rfl rfl rfl (by first | exact part_whole rfl rfl rfl | rfl) ?_
          refine OW_fn rfl rfl (pSeek Ls.of (by omega) _ _ ?_) 
          refine OW_env (e' := [_, _, _, _, _, _, _, _, _, _, _, _, _, _, _, _, _, _, _, _, _, _, _, _, _, _, _, _, _, _, _, _, _, _, _, _, _, _, _, _, _, _, _, _, _, _, _, _, _, _, _, _, _, _, _, _, _, _, _, _, _, _, _, _, _, _, _, _, _, _, _, _, _, _, _, _, _, _, _, _, _, _, _, _, _, _, _, _, _, _, _, _, _, _, _, _, _, _, _, _, _, _, _, _, _, _, _, _, _, _, _, _, _, _, _, _, _, _, _, _, _, _, _, _, _, _, _, _, _, _, _, _, _, _, _, _, _, _, _, _, _, _, _, _, _, _, _, _]) rfl ?_
          rw [hk]
          refine OW_mv rfl rfl ?_
          refine OW_ex rfl rfl rfl ?_
          refine OW_ex rfl rfl rfl ?_
          refine OW_env (e' := [_, _, _, _, _, _, _, _, _, _, _, _, _, _, _, _, _, _, _, _, _, _, _, _, _, _, _, _, _, _, _, _, _, _, _, _, _, _, _, _, _, _, _, _, _, _, _, _, _, _, _, _, _, _, _, _, _, _, _, _, _, _, _, _, _, _, _, _, _, _, _, _, _, _, _, _, _, _, _, _, _, _, _, _, _, _, _, _, _, _, _, _, _, _, _, _, _, _, _, _, _, _, _, _, _, _, _, _, _, _, _, _, _, _, _, _, _, _, _, _, _, _, _, _, _, _, _, _, _, _, _, _, _, _, _, _, _, _, _, _, _, _, _, _, _, _, _, _]) rfl ?_
          refine OW_as rfl rfl ?_
          refine OW_as rfl rfl ?_
          refine OW_nilE (e' := [_, _, _, _, _, _, _, _, _, _, _, _, _, _, _, _, _, _, _, _, _, _, _, _, _, _, _, _, _, _, _, _, _, _, _, _, _, _, _, _, _, _, _, _, _, _, _, _, _, _, _, _, _, _, _, _, _, _, _, _, _, _, _, _, _, _, _, _, _, _, _, _, _, _, _, _, _, _, _, _, _, _, _, _, _, _, _, _, _, _, _, _, _, _, _, _, _, _, _, _, _, _, _, _, _, _, _, _, _, _, _, _, _, _, _, _, _, _, _, _, _, _, _, _, _, _, _, _, _, _, _, _, _, _, _, _, _, _, _, _, _, _, _, _, _, _, _, _]) rfl ?_
          refine XW_sr ?_
          refine OW_mv rfl rfl ?_
          refine OW_fa rfl rfl rfl ?_
          refine OW_loadR hS5 (k := 1) rfl rfl rfl rfl rfl (by first | exact part_whole rfl rfl rfl | rfl) ?_
          refine OW_env (e' := [_, _, _, _, _, _, _, _, _, _, _, _, _, _, _, _, _, _, _, _, _, _, _, _, _, _, _, _, _, _, _, _, _, _, _, _, _, _, _, _, _, _, _, _, _, _, _, _, _, _, _, _, _, _, _, _, _, _, _, _, _, _, _, _, _, _, _, _, _, _, _, _, _, _, _, _, _, _, _, _, _, _, _, _, _, _, _, _, _, _, _, _, _, _, _, _, _, _, _, _, _, _, _, _, _, _, _, _, _, _, _, _, _, _, _, _, _, _, _, _, _, _, _, _, _, _, _, _, _, _, _, _, _, _, _, _, _, _, _, _, _, _, _, _, _, _, _, _]) rfl ?_
          refine OW_fa rfl rfl rfl ?_
          refine OW_loadR hS5 (k := 1) rfl rfl rfl rfl rfl (by first | exact part_whole rfl rfl rfl | rfl) ?_
          first
          | refine OW_bin rfl rfl rfl rfl (sub_wu64 (by first | omega | assumption | (simp only [ByteArray.size_append, ByteArray.size_extract, List.length_map, List.length_append, List.length_cons, List.length_nil, List.length_drop, List.length_take]; omega))) ?_
          | refine OW_bin rfl rfl rfl rfl rfl ?_
          refine OW_env (e' := [_, _, _, _, _, _, _, _, _, _, _, _, _, _, _, _, _, _, _, _, _, _, _, _, _, _, _, _, _, _, _, _, _, _, _, _, _, _, _, _, _, _, _, _, _, _, _, _, _, _, _, _, _, _, _, _, _, _, _, _, _, _, _, _, _, _, _, _, _, _, _, _, _, _, _, _, _, _, _, _, _, _, _, _, _, _, _, _, _, _, _, _, _, _, _, _, _, _, _, _, _, _, _, _, _, _, _, _, _, _, _, _, _, _, _, _, _, _, _, _, _, _, _, _, _, _, _, _, _, _, _, _, _, _, _, _, _, _, _, _, _, _, _, _, _, _, _, _]) rfl ?_
          refine OW_fn rfl rfl (pSeek Ls.of (by omega) _ _ ?_) 
          refine OW_mv rfl rfl ?_
          refine OW_ex rfl rfl rfl ?_
          refine OW_env (e' := [_, _, _, _, _, _, _, _, _, _, _, _, _, _, _, _, _, _, _, _, _, _, _, _, _, _, _, _, _, _, _, _, _, _, _, _, _, _, _, _, _, _, _, _, _, _, _, _, _, _, _, _, _, _, _, _, _, _, _, _, _, _, _, _, _, _, _, _, _, _, _, _, _, _, _, _, _, _, _, _, _, _, _, _, _, _, _, _, _, _, _, _, _, _, _, _, _, _, _, _, _, _, _, _, _, _, _, _, _, _, _, _, _, _, _, _, _, _, _, _, _, _, _, _, _, _, _, _, _, _, _, _, _, _, _, _, _, _, _, _, _, _, _, _, _, _, _, _]) rfl ?_
          refine OW_ex rfl rfl rfl ?_
          refine OW_as rfl rfl ?_
          refine OW_as rfl rfl ?_
          refine OW_nilE (e' := [_, _, _, _, _, _, _, _, _, _, _, _, _, _, _, _, _, _, _, _, _, _, _, _, _, _, _, _, _, _, _, _, _, _, _, _, _, _, _, _, _, _, _, _, _, _, _, _, _, _, _, _, _, _, _, _, _, _, _, _, _, _, _, _, _, _, _, _, _, _, _, _, _, _, _, _, _, _, _, _, _, _, _, _, _, _, _, _, _, _, _, _, _, _, _, _, _, _, _, _, _, _, _, _, _, _, _, _, _, _, _, _, _, _, _, _, _, _, _, _, _, _, _, _, _, _, _, _, _, _, _, _, _, _, _, _, _, _, _, _, _, _, _, _, _, _, _, _]) rfl ?_
          refine XW_sr ?_
          refine OW_mv rfl rfl ?_
          refine OW_fa rfl rfl rfl ?_
          refine OW_loadR hS5 (k := 1) rfl rfl rfl rfl rfl (by first | exact part_whole rfl rfl rfl | rfl) ?_
          refine OW_env (e' := [_, _, _, _, _, _, _, _, _, _, _, _, _, _, _, _, _, _, _, _, _, _, _, _, _, _, _, _, _, _, _, _, _, _, _, _, _, _, _, _, _, _, _, _, _, _, _, _, _, _, _, _, _, _, _, _, _, _, _, _, _, _, _, _, _, _, _, _, _, _, _, _, _, _, _, _, _, _, _, _, _, _, _, _, _, _, _, _, _, _, _, _, _, _, _, _, _, _, _, _, _, _, _, _, _, _, _, _, _, _, _, _, _, _, _, _, _, _, _, _, _, _, _, _, _, _, _, _, _, _, _, _, _, _, _, _, _, _, _, _, _, _, _, _, _, _, _, _]) rfl ?_
          refine OW_fa rfl rfl rfl ?_
          refine OW_loadR hS5 (k := 1) rfl rfl rfl rfl rfl (by first | exact part_whole rfl rfl rfl | rfl) ?_
          first
          | refine OW_bin rfl rfl rfl rfl (add_wu64 (by first | omega | assumption | (simp only [ByteArray.size_append, ByteArray.size_extract, List.length_map, List.length_append, List.length_cons, List.length_nil, List.length_drop, List.length_take]; omega))) ?_
          | refine OW_bin rfl rfl rfl rfl rfl ?_
          refine OW_env (e' := [_, _, _, _, _, _, _, _, _, _, _, _, _, _, _, _, _, _, _, _, _, _, _, _, _, _, _, _, _, _, _, _, _, _, _, _, _, _, _, _, _, _, _, _, _, _, _, _, _, _, _, _, _, _, _, _, _, _, _, _, _, _, _, _, _, _, _, _, _, _, _, _, _, _, _, _, _, _, _, _, _, _, _, _, _, _, _, _, _, _, _, _, _, _, _, _, _, _, _, _, _, _, _, _, _, _, _, _, _, _, _, _, _, _, _, _, _, _, _, _, _, _, _, _, _, _, _, _, _, _, _, _, _, _, _, _, _, _, _, _, _, _, _, _, _, _, _, _]) rfl ?_
          refine OW_fn rfl rfl (pSeek Ls.of (by omega) _ _ ?_) 
          refine OW_mv rfl rfl ?_
          refine OW_ex rfl rfl rfl ?_
          refine OW_env (e' := [_, _, _, _, _, _, _, _, _, _, _, _, _, _, _, _, _, _, _, _, _, _, _, _, _, _, _, _, _, _, _, _, _, _, _, _, _, _, _, _, _, _, _, _, _, _, _, _, _, _, _, _, _, _, _, _, _, _, _, _, _, _, _, _, _, _, _, _, _, _, _, _, _, _, _, _, _, _, _, _, _, _, _, _, _, _, _, _, _, _, _, _, _, _, _, _, _, _, _, _, _, _, _, _, _, _, _, _, _, _, _, _, _, _, _, _, _, _, _, _, _, _, _, _, _, _, _, _, _, _, _, _, _, _, _, _, _, _, _, _, _, _, _, _, _, _, _, _]) rfl ?_
          refine OW_ex rfl rfl rfl ?_
          refine OW_as rfl rfl ?_
          refine OW_as rfl rfl ?_
          refine OW_nilE (e' := [_, _, _, _, _, _, _, _, _, _, _, _, _, _, _, _, _, _, _, _, _, _, _, _, _, _, _, _, _, _, _, _, _, _, _, _, _, _, _, _, _, _, _, _, _, _, _, _, _, _, _, _, _, _, _, _, _, _, _, _, _, _, _, _, _, _, _, _, _, _, _, _, _, _, _, _, _, _, _, _, _, _, _, _, _, _, _, _, _, _, _, _, _, _, _, _, _, _, _, _, _, _, _, _, _, _, _, _, _, _, _, _, _, _, _, _, _, _, _, _, _, _, _, _, _, _, _, _, _, _, _, _, _, _, _, _, _, _, _, _, _, _, _, _, _, _, _, _]) rfl ?_
          refine XW_sr ?_
          refine OW_mv rfl rfl ?_
          refine OW_bin rfl rfl rfl rfl rfl ?_
          refine OW_mv rfl rfl ?_
          refine OW_env (e' := [_, _, _, _, _, _, _, _, _, _, _, _, _, _, _, _, _, _, _, _, _, _, _, _, _, _, _, _, _, _, _, _, _, _, _, _, _, _, _, _, _, _, _, _, _, _, _, _, _, _, _, _, _, _, _, _, _, _, _, _, _, _, _, _, _, _, _, _, _, _, _, _, _, _, _, _, _, _, _, _, _, _, _, _, _, _, _, _, _, _, _, _, _, _, _, _, _, _, _, _, _, _, _, _, _, _, _, _, _, _, _, _, _, _, _, _, _, _, _, _, _, _, _, _, _, _, _, _, _, _, _, _, _, _, _, _, _, _, _, _, _, _, _, _, _, _, _, _]) rfl ?_
          refine OW_split (tt := 124) rfl (fun g20_3 => ?_) (fun g20_3 => ?_)
          · try simp only [decide_eq_true_eq, decide_eq_false_iff_not, Bool.not_eq_true', Bool.not_eq_false', Bool.and_eq_true, Bool.or_eq_true, Bool.not_eq_true, Bool.not_eq_false, Decidable.not_not, bne_iff_ne, beq_iff_eq, List.length_append, List.length_cons, List.length_nil, List.length_drop, List.length_take] at g20_3
            refine OW_mv rfl rfl ?_
            refine OW_mv rfl rfl ?_
            refine OW_env (e' := [_, _, _, _, _, _, _, _, _, _, _, _, _, _, _, _, _, _, _, _, _, _, _, _, _, _, _, _, _, _, _, _, _, _, _, _, _, _, _, _, _, _, _, _, _, _, _, _, _, _, _, _, _, _, _, _, _, _, _, _, _, _, _, _, _, _, _, _, _, _, _, _, _, _, _, _, _, _, _, _, _, _, _, _, _, _, _, _, _, _, _, _, _, _, _, _, _, _, _, _, _, _, _, _, _, _, _, _, _, _, _, _, _, _, _, _, _, _, _, _, _, _, _, _, _, _, _, _, _, _, _, _, _, _, _, _, _, _, _, _, _, _, _, _, _, _, _, _]) rfl ?_
            refine OW_bin rfl rfl rfl rfl rfl ?_
            refine OW_pick rfl rfl rfl ?_
            refine OW_mv rfl rfl ?_
            refine OW_env (e' := [_, _, _, _, _, _, _, _, _, _, _, _, _, _, _, _, _, _, _, _, _, _, _, _, _, _, _, _, _, _, _, _, _, _, _, _, _, _, _, _, _, _, _, _, _, _, _, _, _, _, _, _, _, _, _, _, _, _, _, _, _, _, _, _, _, _, _, _, _, _, _, _, _, _, _, _, _, _, _, _, _, _, _, _, _, _, _, _, _, _, _, _, _, _, _, _, _, _, _, _, _, _, _, _, _, _, _, _, _, _, _, _, _, _, _, _, _, _, _, _, _, _, _, _, _, _, _, _, _, _, _, _, _, _, _, _, _, _, _, _, _, _, _, _, _, _, _, _]) rfl ?_
            refine OW_split (tt := 129) rfl (fun g20_8 => ?_) (fun g20_8 => ?_)
            · try simp only [decide_eq_true_eq, decide_eq_false_iff_not, Bool.not_eq_true', Bool.not_eq_false', Bool.and_eq_true, Bool.or_eq_true, Bool.not_eq_true, Bool.not_eq_false, Decidable.not_not, bne_iff_ne, beq_iff_eq, List.length_append, List.length_cons, List.length_nil, List.length_drop, List.length_take] at g20_8
              refine OW_fa rfl rfl rfl ?_
              refine OW_loadR hS5 (k := 1) rfl rfl rfl rfl rfl (by first | exact part_whole rfl rfl rfl | rfl) ?_
              refine OW_env (e' := [_, _, _, _, _, _, _, _, _, _, _, _, _, _, _, _, _, _, _, _, _, _, _, _, _, _, _, _, _, _, _, _, _, _, _, _, _, _, _, _, _, _, _, _, _, _, _, _, _, _, _, _, _, _, _, _, _, _, _, _, _, _, _, _, _, _, _, _, _, _, _, _, _, _, _, _, _, _, _, _, _, _, _, _, _, _, _, _, _, _, _, _, _, _, _, _, _, _, _, _, _, _, _, _, _, _, _, _, _, _, _, _, _, _, _, _, _, _, _, _, _, _, _, _, _, _, _, _, _, _, _, _, _, _, _, _, _, _, _, _, _, _, _, _, _, _, _, _]) rfl ?_
              refine OW_bin rfl rfl rfl rfl rfl ?_
              refine OW_mv rfl rfl ?_
              refine OW_split (tt := 133) rfl (fun g20_12 => ?_) (fun g20_12 => ?_)
              · try simp only [decide_eq_true_eq, decide_eq_false_iff_not, Bool.not_eq_true', Bool.not_eq_false', Bool.and_eq_true, Bool.or_eq_true, Bool.not_eq_true, Bool.not_eq_false, Decidable.not_not, bne_iff_ne, beq_iff_eq, List.length_append, List.length_cons, List.length_nil, List.length_drop, List.length_take] at g20_12
                refine OW_env (e' := [_, _, _, _, _, _, _, _, _, _, _, _, _, _, _, _, _, _, _, _, _, _, _, _, _, _, _, _, _, _, _, _, _, _, _, _, _, _, _, _, _, _, _, _, _, _, _, _, _, _, _, _, _, _, _, _, _, _, _, _, _, _, _, _, _, _, _, _, _, _, _, _, _, _, _, _, _, _, _, _, _, _, _, _, _, _, _, _, _, _, _, _, _, _, _, _, _, _, _, _, _, _, _, _, _, _, _, _, _, _, _, _, _, _, _, _, _, _, _, _, _, _, _, _, _, _, _, _, _, _, _, _, _, _, _, _, _, _, _, _, _, _, _, _, _, _, _, _]) rfl ?_
                refine OW_no rfl ?_
                refine OW_no rfl ?_
                refine OW_pick rfl rfl rfl ?_
                refine OW_env (e' := [_, _, _, _, _, _, _, _, _, _, _, _, _, _, _, _, _, _, _, _, _, _, _, _, _, _, _, _, _, _, _, _, _, _, _, _, _, _, _, _, _, _, _, _, _, _, _, _, _, _, _, _, _, _, _, _, _, _, _, _, _, _, _, _, _, _, _, _, _, _, _, _, _, _, _, _, _, _, _, _, _, _, _, _, _, _, _, _, _, _, _, _, _, _, _, _, _, _, _, _, _, _, _, _, _, _, _, _, _, _, _, _, _, _, _, _, _, _, _, _, _, _, _, _, _, _, _, _, _, _, _, _, _, _, _, _, _, _, _, _, _, _, _, _, _, _, _, _]) rfl ?_
                refine OW_pick rfl rfl rfl ?_
                refine OW_mv rfl rfl ?_
                refine OW_fa rfl rfl rfl ?_
                refine OW_env (e' := [_, _, _, _, _, _, _, _, _, _, _, _, _, _, _, _, _, _, _, _, _, _, _, _, _, _, _, _, _, _, _, _, _, _, _, _, _, _, _, _, _, _, _, _, _, _, _, _, _, _, _, _, _, _, _, _, _, _, _, _, _, _, _, _, _, _, _, _, _, _, _, _, _, _, _, _, _, _, _, _, _, _, _, _, _, _, _, _, _, _, _, _, _, _, _, _, _, _, _, _, _, _, _, _, _, _, _, _, _, _, _, _, _, _, _, _, _, _, _, _, _, _, _, _, _, _, _, _, _, _, _, _, _, _, _, _, _, _, _, _, _, _, _, _, _, _, _, _]) rfl ?_
                refine OW_loadR hS5 (k := 1) rfl rfl rfl rfl rfl (by first | exact part_whole rfl rfl rfl | rfl) ?_
                first
                | refine OW_bin rfl rfl rfl rfl (add_wu64 (by first | omega | assumption | (simp only [ByteArray.size_append, ByteArray.size_extract, List.length_map, List.length_append, List.length_cons, List.length_nil, List.length_drop, List.length_take]; omega))) ?_
                | refine OW_bin rfl rfl rfl rfl rfl ?_
                refine OW_bin rfl rfl rfl rfl rfl ?_
                refine OW_env (e' := [_, _, _, _, _, _, _, _, _, _, _, _, _, _, _, _, _, _, _, _, _, _, _, _, _, _, _, _, _, _, _, _, _, _, _, _, _, _, _, _, _, _, _, _, _, _, _, _, _, _, _, _, _, _, _, _, _, _, _, _, _, _, _, _, _, _, _, _, _, _, _, _, _, _, _, _, _, _, _, _, _, _, _, _, _, _, _, _, _, _, _, _, _, _, _, _, _, _, _, _, _, _, _, _, _, _, _, _, _, _, _, _, _, _, _, _, _, _, _, _, _, _, _, _, _, _, _, _, _, _, _, _, _, _, _, _, _, _, _, _, _, _, _, _, _, _, _, _]) rfl ?_
                refine OW_mv rfl rfl ?_
                refine OW_split (tt := 143) rfl (fun g20_22 => ?_) (fun g20_22 => ?_)
                · try simp only [decide_eq_true_eq, decide_eq_false_iff_not, Bool.not_eq_true', Bool.not_eq_false', Bool.and_eq_true, Bool.or_eq_true, Bool.not_eq_true, Bool.not_eq_false, Decidable.not_not, bne_iff_ne, beq_iff_eq, List.length_append, List.length_cons, List.length_nil, List.length_drop, List.length_take] at g20_22
                  refine OW_no rfl ?_
                  refine OW_env (e' := [_, _, _, _, _, _, _, _, _, _, _, _, _, _, _, _, _, _, _, _, _, _, _, _, _, _, _, _, _, _, _, _, _, _, _, _, _, _, _, _, _, _, _, _, _, _, _, _, _, _, _, _, _, _, _, _, _, _, _, _, _, _, _, _, _, _, _, _, _, _, _, _, _, _, _, _, _, _, _, _, _, _, _, _, _, _, _, _, _, _, _, _, _, _, _, _, _, _, _, _, _, _, _, _, _, _, _, _, _, _, _, _, _, _, _, _, _, _, _, _, _, _, _, _, _, _, _, _, _, _, _, _, _, _, _, _, _, _, _, _, _, _, _, _, _, _, _, _]) rfl ?_
                  refine OW_no rfl ?_
                  refine OW_pick rfl rfl rfl ?_
                  refine OW_pick rfl rfl rfl ?_
                  refine OW_env (e' := [_, _, _, _, _, _, _, _, _, _, _, _, _, _, _, _, _, _, _, _, _, _, _, _, _, _, _, _, _, _, _, _, _, _, _, _, _, _, _, _, _, _, _, _, _, _, _, _, _, _, _, _, _, _, _, _, _, _, _, _, _, _, _, _, _, _, _, _, _, _, _, _, _, _, _, _, _, _, _, _, _, _, _, _, _, _, _, _, _, _, _, _, _, _, _, _, _, _, _, _, _, _, _, _, _, _, _, _, _, _, _, _, _, _, _, _, _, _, _, _, _, _, _, _, _, _, _, _, _, _, _, _, _, _, _, _, _, _, _, _, _, _, _, _, _, _, _, _]) rfl ?_
                  refine OW_as rfl rfl ?_
                  refine OW_nilE (e' := [_, _, _, _, _, _, _, _, _, _, _, _, _, _, _, _, _, _, _, _, _, _, _, _, _, _, _, _, _, _, _, _, _, _, _, _, _, _, _, _, _, _, _, _, _, _, _, _, _, _, _, _, _, _, _, _, _, _, _, _, _, _, _, _, _, _, _, _, _, _, _, _, _, _, _, _, _, _, _, _, _, _, _, _, _, _, _, _, _, _, _, _, _, _, _, _, _, _, _, _, _, _, _, _, _, _, _, _, _, _, _, _, _, _, _, _, _, _, _, _, _, _, _, _, _, _, _, _, _, _, _, _, _, _, _, _, _, _, _, _, _, _, _, _, _, _, _, _]) rfl ?_
                  refine XW_ret ?_
                  -- outcome 3
                  refine ret_ret (res1 rfl (rv_tmp rfl)) (frz1 (Q := Q) (by first | exact freeze_plain rfl | exact Ls.freeze (by assumption) | exact Ls.freeze Ls.of | exact Ls.freeze Ls.emp | exact Ls.freeze Ls.nls) ?_)
                  first
                  | (refine qcast hq ?_; rw [hnext (by first | assumption | (rw [wu64 (by omega)]; omega))]; rfl)
                  | exact hq
                  | (refine qcast hq ?_; rfl)
                  | (refine qcast hq ?_; simp; done)
                  | (refine qcast hq ?_; simp; omega)
                  | (refine qcast hq ?_; simp_all; done)
                · try simp only [decide_eq_true_eq, decide_eq_false_iff_not, Bool.not_eq_true', Bool.not_eq_false', Bool.and_eq_true, Bool.or_eq_true, Bool.not_eq_true, Bool.not_eq_false, Decidable.not_not, bne_iff_ne, beq_iff_eq, List.length_append, List.length_cons, List.length_nil, List.length_drop, List.length_take] at g20_22
                  refine OW_mv rfl rfl ?_
                  refine OW_env (e' := [_, _, _, _, _, _, _, _, _, _, _, _, _, _, _, _, _, _, _, _, _, _, _, _, _, _, _, _, _, _, _, _, _, _, _, _, _, _, _, _, _, _, _, _, _, _, _, _, _, _, _, _, _, _, _, _, _, _, _, _, _, _, _, _, _, _, _, _, _, _, _, _, _, _, _, _, _, _, _, _, _, _, _, _, _, _, _, _, _, _, _, _, _, _, _, _, _, _, _, _, _, _, _, _, _, _, _, _, _, _, _, _, _, _, _, _, _, _, _, _, _, _, _, _, _, _, _, _, _, _, _, _, _, _, _, _, _, _, _, _, _, _, _, _, _, _, _, _]) rfl ?_
                  refine OW_bin rfl rfl rfl rfl rfl ?_
                  refine OW_pick rfl rfl rfl ?_
                  refine OW_pick rfl rfl rfl ?_
                  refine OW_env (e' := [_, _, _, _, _, _, _, _, _, _, _, _, _, _, _, _, _, _, _, _, _, _, _, _, _, _, _, _, _, _, _, _, _, _, _, _, _, _, _, _, _, _, _, _, _, _, _, _, _, _, _, _, _, _, _, _, _, _, _, _, _, _, _, _, _, _, _, _, _, _, _, _, _, _, _, _, _, _, _, _, _, _, _, _, _, _, _, _, _, _, _, _, _, _, _, _, _, _, _, _, _, _, _, _, _, _, _, _, _, _, _, _, _, _, _, _, _, _, _, _, _, _, _, _, _, _, _, _, _, _, _, _, _, _, _, _, _, _, _, _, _, _, _, _, _, _, _, _]) rfl ?_
                  refine OW_as rfl rfl ?_
                  refine OW_nilE (e' := [_, _, _, _, _, _, _, _, _, _, _, _, _, _, _, _, _, _, _, _, _, _, _, _, _, _, _, _, _, _, _, _, _, _, _, _, _, _, _, _, _, _, _, _, _, _, _, _, _, _, _, _, _, _, _, _, _, _, _, _, _, _, _, _, _, _, _, _, _, _, _, _, _, _, _, _, _, _, _, _, _, _, _, _, _, _, _, _, _, _, _, _, _, _, _, _, _, _, _, _, _, _, _, _, _, _, _, _, _, _, _, _, _, _, _, _, _, _, _, _, _, _, _, _, _, _, _, _, _, _, _, _, _, _, _, _, _, _, _, _, _, _, _, _, _, _, _, _]) rfl ?_
                  refine XW_ret ?_
                  -- outcome 4
                  refine ret_ret (res1 rfl (rv_tmp rfl)) (frz1 (Q := Q) (by first | exact freeze_plain rfl | exact Ls.freeze (by assumption) | exact Ls.freeze Ls.of | exact Ls.freeze Ls.emp | exact Ls.freeze Ls.nls) ?_)
                  first
                  | (refine qcast hq ?_; rw [hnext (by first | assumption | (rw [wu64 (by omega)]; omega))]; rfl)
                  | exact hq
                  | (refine qcast hq ?_; rfl)
                  | (refine qcast hq ?_; simp; done)
                  | (refine qcast hq ?_; simp; omega)
                  | (refine qcast hq ?_; simp_all; done)
              · try simp only [decide_eq_true_eq, decide_eq_false_iff_not, Bool.not_eq_true', Bool.not_eq_false', Bool.and_eq_true, Bool.or_eq_true, Bool.not_eq_true, Bool.not_eq_false, Decidable.not_not, bne_iff_ne, beq_iff_eq, List.length_append, List.length_cons, List.length_nil, List.length_drop, List.length_take] at g20_12
                refine OW_env (e' := [_, _, _, _, _, _, _, _, _, _, _, _, _, _, _, _, _, _, _, _, _, _, _, _, _, _, _, _, _, _, _, _, _, _, _, _, _, _, _, _, _, _, _, _, _, _, _, _, _, _, _, _, _, _, _, _, _, _, _, _, _, _, _, _, _, _, _, _, _, _, _, _, _, _, _, _, _, _, _, _, _, _, _, _, _, _, _, _, _, _, _, _, _, _, _, _, _, _, _, _, _, _, _, _, _, _, _, _, _, _, _, _, _, _, _, _, _, _, _, _, _, _, _, _, _, _, _, _, _, _, _, _, _, _, _, _, _, _, _, _, _, _, _, _, _, _, _, _]) rfl ?_
                refine OW_mv rfl rfl ?_
                refine OW_bin rfl rfl rfl rfl rfl ?_
                refine OW_pick rfl rfl rfl ?_
                refine OW_env (e' := [_, _, _, _, _, _, _, _, _, _, _, _, _, _, _, _, _, _, _, _, _, _, _, _, _, _, _, _, _, _, _, _, _, _, _, _, _, _, _, _, _, _, _, _, _, _, _, _, _, _, _, _, _, _, _, _, _, _, _, _, _, _, _, _, _, _, _, _, _, _, _, _, _, _, _, _, _, _, _, _, _, _, _, _, _, _, _, _, _, _, _, _, _, _, _, _, _, _, _, _, _, _, _, _, _, _, _, _, _, _, _, _, _, _, _, _, _, _, _, _, _, _, _, _, _, _, _, _, _, _, _, _, _, _, _, _, _, _, _, _, _, _, _, _, _, _, _, _]) rfl ?_
                refine OW_pick rfl rfl rfl ?_
                refine OW_mv rfl rfl ?_
                refine OW_split (tt := 138) rfl (fun g20_17 => ?_) (fun g20_17 => ?_)
                · try simp only [decide_eq_true_eq, decide_eq_false_iff_not, Bool.not_eq_true', Bool.not_eq_false', Bool.and_eq_true, Bool.or_eq_true, Bool.not_eq_true, Bool.not_eq_false, Decidable.not_not, bne_iff_ne, beq_iff_eq, List.length_append, List.length_cons, List.length_nil, List.length_drop, List.length_take] at g20_17
                  refine OW_env (e' := [_, _, _, _, _, _, _, _, _, _, _, _, _, _, _, _, _, _, _, _, _, _, _, _, _, _, _, _, _, _, _, _, _, _, _, _, _, _, _, _, _, _, _, _, _, _, _, _, _, _, _, _, _, _, _, _, _, _, _, _, _, _, _, _, _, _, _, _, _, _, _, _, _, _, _, _, _, _, _, _, _, _, _, _, _, _, _, _, _, _, _, _, _, _, _, _, _, _, _, _, _, _, _, _, _, _, _, _, _, _, _, _, _, _, _, _, _, _, _, _, _, _, _, _, _, _, _, _, _, _, _, _, _, _, _, _, _, _, _, _, _, _, _, _, _, _, _, _]) rfl ?_
                  refine OW_fa rfl rfl rfl ?_
                  refine OW_loadR hS5 (k := 1) rfl rfl rfl rfl rfl (by first | exact part_whole rfl rfl rfl | rfl) ?_
                  first
                  | refine OW_bin rfl rfl rfl rfl (add_wu64 (by first | omega | assumption | (simp only [ByteArray.size_append, ByteArray.size_extract, List.length_map, List.length_append, List.length_cons, List.length_nil, List.length_drop, List.length_take]; omega))) ?_
                  | refine OW_bin rfl rfl rfl rfl rfl ?_
                  refine OW_env (e' := [_, _, _, _, _, _, _, _, _, _, _, _, _, _, _, _, _, _, _, _, _, _, _, _, _, _, _, _, _, _, _, _, _, _, _, _, _, _, _, _, _, _, _, _, _, _, _, _, _, _, _, _, _, _, _, _, _, _, _, _, _, _, _, _, _, _, _, _, _, _, _, _, _, _, _, _, _, _, _, _, _, _, _, _, _, _, _, _, _, _, _, _, _, _, _, _, _, _, _, _, _, _, _, _, _, _, _, _, _, _, _, _, _, _, _, _, _, _, _, _, _, _, _, _, _, _, _, _, _, _, _, _, _, _, _, _, _, _, _, _, _, _, _, _, _, _, _, _]) rfl ?_
                  refine OW_bin rfl rfl rfl rfl rfl ?_
                  refine OW_mv rfl rfl ?_
                  refine OW_split (tt := 143) rfl (fun g20_22 => ?_) (fun g20_22 => ?_)
                  · try simp only [decide_eq_true_eq, decide_eq_false_iff_not, Bool.not_eq_true', Bool.not_eq_false', Bool.and_eq_true, Bool.or_eq_true, Bool.not_eq_true, Bool.not_eq_false, Decidable.not_not, bne_iff_ne, beq_iff_eq, List.length_append, List.length_cons, List.length_nil, List.length_drop, List.length_take] at g20_22
                    refine OW_env (e' := [_, _, _, _, _, _, _, _, _, _, _, _, _, _, _, _, _, _, _, _, _, _, _, _, _, _, _, _, _, _, _, _, _, _, _, _, _, _, _, _, _, _, _, _, _, _, _, _, _, _, _, _, _, _, _, _, _, _, _, _, _, _, _, _, _, _, _, _, _, _, _, _, _, _, _, _, _, _, _, _, _, _, _, _, _, _, _, _, _, _, _, _, _, _, _, _, _, _, _, _, _, _, _, _, _, _, _, _, _, _, _, _, _, _, _, _, _, _, _, _, _, _, _, _, _, _, _, _, _, _, _, _, _, _, _, _, _, _, _, _, _, _, _, _, _, _, _, _]) rfl ?_
                    refine OW_no rfl ?_
                    refine OW_no rfl ?_
                    refine OW_pick rfl rfl rfl ?_
                    refine OW_env (e' := [_, _, _, _, _, _, _, _, _, _, _, _, _, _, _, _, _, _, _, _, _, _, _, _, _, _, _, _, _, _, _, _, _, _, _, _, _, _, _, _, _, _, _, _, _, _, _, _, _, _, _, _, _, _, _, _, _, _, _, _, _, _, _, _, _, _, _, _, _, _, _, _, _, _, _, _, _, _, _, _, _, _, _, _, _, _, _, _, _, _, _, _, _, _, _, _, _, _, _, _, _, _, _, _, _, _, _, _, _, _, _, _, _, _, _, _, _, _, _, _, _, _, _, _, _, _, _, _, _, _, _, _, _, _, _, _, _, _, _, _, _, _, _, _, _, _, _, _]) rfl ?_
                    refine OW_pick rfl rfl rfl ?_
                    refine OW_as rfl rfl ?_
                    refine OW_nilE (e' := [_, _, _, _, _, _, _, _, _, _, _, _, _, _, _, _, _, _, _, _, _, _, _, _, _, _, _, _, _, _, _, _, _, _, _, _, _, _, _, _, _, _, _, _, _, _, _, _, _, _, _, _, _, _, _, _, _, _, _, _, _, _, _, _, _, _, _, _, _, _, _, _, _, _, _, _, _, _, _, _, _, _, _, _, _, _, _, _, _, _, _, _, _, _, _, _, _, _, _, _, _, _, _, _, _, _, _, _, _, _, _, _, _, _, _, _, _, _, _, _, _, _, _, _, _, _, _, _, _, _, _, _, _, _, _, _, _, _, _, _, _, _, _, _, _, _, _, _]) rfl ?_
                    refine XW_ret ?_
                    -- outcome 5
                    refine ret_ret (res1 rfl (rv_tmp rfl)) (frz1 (Q := Q) (by first | exact freeze_plain rfl | exact Ls.freeze (by assumption) | exact Ls.freeze Ls.of | exact Ls.freeze Ls.emp | exact Ls.freeze Ls.nls) ?_)
                    first
                    | (refine qcast hq ?_; rw [hnext (by first | assumption | (rw [wu64 (by omega)]; omega))]; rfl)
                    | exact hq
                    | (refine qcast hq ?_; rfl)
                    | (refine qcast hq ?_; simp; done)
                    | (refine qcast hq ?_; simp; omega)
                    | (refine qcast hq ?_; simp_all; done)
                  · try simp only [decide_eq_true_eq, decide_eq_false_iff_not, Bool.not_eq_true', Bool.not_eq_false', Bool.and_eq_true, Bool.or_eq_true, Bool.not_eq_true, Bool.not_eq_false, Decidable.not_not, bne_iff_ne, beq_iff_eq, List.length_append, List.length_cons, List.length_nil, List.length_drop, List.length_take] at g20_22
                    refine OW_env (e' := [_, _, _, _, _, _, _, _, _, _, _, _, _, _, _, _, _, _, _, _, _, _, _, _, _, _, _, _, _, _, _, _, _, _, _, _, _, _, _, _, _, _, _, _, _, _, _, _, _, _, _, _, _, _, _, _, _, _, _, _, _, _, _, _, _, _, _, _, _, _, _, _, _, _, _, _, _, _, _, _, _, _, _, _, _, _, _, _, _, _, _, _, _, _, _, _, _, _, _, _, _, _, _, _, _, _, _, _, _, _, _, _, _, _, _, _, _, _, _, _, _, _, _, _, _, _, _, _, _, _, _, _, _, _, _, _, _, _, _, _, _, _, _, _, _, _, _, _]) rfl ?_
                    refine OW_mv rfl rfl ?_
                    refine OW_bin rfl rfl rfl rfl rfl ?_
                    refine OW_pick rfl rfl rfl ?_
                    refine OW_env (e' := [_, _, _, _, _, _, _, _, _, _, _, _, _, _, _, _, _, _, _, _, _, _, _, _, _, _, _, _, _, _, _, _, _, _, _, _, _, _, _, _, _, _, _, _, _, _, _, _, _, _, _, _, _, _, _, _, _, _, _, _, _, _, _, _, _, _, _, _, _, _, _, _, _, _, _, _, _, _, _, _, _, _, _, _, _, _, _, _, _, _, _, _, _, _, _, _, _, _, _, _, _, _, _, _, _, _, _, _, _, _, _, _, _, _, _, _, _, _, _, _, _, _, _, _, _, _, _, _, _, _, _, _, _, _, _, _, _, _, _, _, _, _, _, _, _, _, _, _]) rfl ?_
                    refine OW_pick rfl rfl rfl ?_
                    refine OW_as rfl rfl ?_
                    refine OW_nilE (e' := [_, _, _, _, _, _, _, _, _, _, _, _, _, _, _, _, _, _, _, _, _, _, _, _, _, _, _, _, _, _, _, _, _, _, _, _, _, _, _, _, _, _, _, _, _, _, _, _, _, _, _, _, _, _, _, _, _, _, _, _, _, _, _, _, _, _, _, _, _, _, _, _, _, _, _, _, _, _, _, _, _, _, _, _, _, _, _, _, _, _, _, _, _, _, _, _, _, _, _, _, _, _, _, _, _, _, _, _, _, _, _, _, _, _, _, _, _, _, _, _, _, _, _, _, _, _, _, _, _, _, _, _, _, _, _, _, _, _, _, _, _, _, _, _, _, _, _, _]) rfl ?_
                    refine XW_ret ?_
                    -- outcome 6
                    refine ret_ret (res1 rfl (rv_tmp rfl)) (frz1 (Q := Q) (by first | exact freeze_plain rfl | exact Ls.freeze (by assumption) | exact Ls.freeze Ls.of | exact Ls.freeze Ls.emp | exact Ls.freeze Ls.nls) ?_)
                    first
                    | (refine qcast hq ?_; rw [hnext (by first | assumption | (rw [wu64 (by omega)]; omega))]; rfl)
                    | exact hq
                    | (refine qcast hq ?_; rfl)
                    | (refine qcast hq ?_; simp; done)
                    | (refine qcast hq ?_; simp; omega)
                    | (refine qcast hq ?_; simp_all; done)
                · try simp only [decide_eq_true_eq, decide_eq_false_iff_not, Bool.not_eq_true', Bool.not_eq_false', Bool.and_eq_true, Bool.or_eq_true, Bool.not_eq_true, Bool.not_eq_false, Decidable.not_not, bne_iff_ne, beq_iff_eq, List.length_append, List.length_cons, List.length_nil, List.length_drop, List.length_take] at g20_17
                  refine OW_env (e' := [_, _, _, _, _, _, _, _, _, _, _, _, _, _, _, _, _, _, _, _, _, _, _, _, _, _, _, _, _, _, _, _, _, _, _, _, _, _, _, _, _, _, _, _, _, _, _, _, _, _, _, _, _, _, _, _, _, _, _, _, _, _, _, _, _, _, _, _, _, _, _, _, _, _, _, _, _, _, _, _, _, _, _, _, _, _, _, _, _, _, _, _, _, _, _, _, _, _, _, _, _, _, _, _, _, _, _, _, _, _, _, _, _, _, _, _, _, _, _, _, _, _, _, _, _, _, _, _, _, _, _, _, _, _, _, _, _, _, _, _, _, _, _, _, _, _, _, _]) rfl ?_
                  refine OW_no rfl ?_
                  refine OW_no rfl ?_
                  refine OW_no rfl ?_
                  refine OW_env (e' := [_, _, _, _, _, _, _, _, _, _, _, _, _, _, _, _, _, _, _, _, _, _, _, _, _, _, _, _, _, _, _, _, _, _, _, _, _, _, _, _, _, _, _, _, _, _, _, _, _, _, _, _, _, _, _, _, _, _, _, _, _, _, _, _, _, _, _, _, _, _, _, _, _, _, _, _, _, _, _, _, _, _, _, _, _, _, _, _, _, _, _, _, _, _, _, _, _, _, _, _, _, _, _, _, _, _, _, _, _, _, _, _, _, _, _, _, _, _, _, _, _, _, _, _, _, _, _, _, _, _, _, _, _, _, _, _, _, _, _, _, _, _, _, _, _, _, _, _]) rfl ?_
                  refine OW_no rfl ?_
                  refine OW_no rfl ?_
                  refine OW_no rfl ?_
                  refine OW_env (e' := [_, _, _, _, _, _, _, _, _, _, _, _, _, _, _, _, _, _, _, _, _, _, _, _, _, _, _, _, _, _, _, _, _, _, _, _, _, _, _, _, _, _, _, _, _, _, _, _, _, _, _, _, _, _, _, _, _, _, _, _, _, _, _, _, _, _, _, _, _, _, _, _, _, _, _, _, _, _, _, _, _, _, _, _, _, _, _, _, _, _, _, _, _, _, _, _, _, _, _, _, _, _, _, _, _, _, _, _, _, _, _, _, _, _, _, _, _, _, _, _, _, _, _, _, _, _, _, _, _, _, _, _, _, _, _, _, _, _, _, _, _, _, _, _, _, _, _, _]) rfl ?_
                  refine OW_no rfl ?_
                  refine OW_no rfl ?_
                  refine OW_pick rfl rfl rfl ?_
                  refine OW_env (e' := [_, _, _, _, _, _, _, _, _, _, _, _, _, _, _, _, _, _, _, _, _, _, _, _, _, _, _, _, _, _, _, _, _, _, _, _, _, _, _, _, _, _, _, _, _, _, _, _, _, _, _, _, _, _, _, _, _, _, _, _, _, _, _, _, _, _, _, _, _, _, _, _, _, _, _, _, _, _, _, _, _, _, _, _, _, _, _, _, _, _, _, _, _, _, _, _, _, _, _, _, _, _, _, _, _, _, _, _, _, _, _, _, _, _, _, _, _, _, _, _, _, _, _, _, _, _, _, _, _, _, _, _, _, _, _, _, _, _, _, _, _, _, _, _, _, _, _, _]) rfl ?_
                  refine OW_as rfl rfl ?_
                  refine OW_nilE (e' := [_, _, _, _, _, _, _, _, _, _, _, _, _, _, _, _, _, _, _, _, _, _, _, _, _, _, _, _, _, _, _, _, _, _, _, _, _, _, _, _, _, _, _, _, _, _, _, _, _, _, _, _, _, _, _, _, _, _, _, _, _, _, _, _, _, _, _, _, _, _, _, _, _, _, _, _, _, _, _, _, _, _, _, _, _, _, _, _, _, _, _, _, _, _, _, _, _, _, _, _, _, _, _, _, _, _, _, _, _, _, _, _, _, _, _, _, _, _, _, _, _, _, _, _, _, _, _, _, _, _, _, _, _, _, _, _, _, _, _, _, _, _, _, _, _, _, _, _]) rfl ?_
                  refine XW_ret ?_
                  -- outcome 7
                  refine ret_ret (res1 rfl (rv_tmp rfl)) (frz1 (Q := Q) (by first | exact freeze_plain rfl | exact Ls.freeze (by assumption) | exact Ls.freeze Ls.of | exact Ls.freeze Ls.emp | exact Ls.freeze Ls.nls) ?_)
                  first
                  | (refine qcast hq ?_; rw [hnext (by first | assumption | (rw [wu64 (by omega)]; omega))]; rfl)
                  | exact hq
                  | (refine qcast hq ?_; rfl)
                  | (refine qcast hq ?_; simp; done)
                  | (refine qcast hq ?_; simp; omega)
                  | (refine qcast hq ?_; simp_all; done)
            · try simp only [decide_eq_true_eq, decide_eq_false_iff_not, Bool.not_eq_true', Bool.not_eq_false', Bool.and_eq_true, Bool.or_eq_true, Bool.not_eq_true, Bool.not_eq_false, Decidable.not_not, bne_iff_ne, beq_iff_eq, List.length_append, List.length_cons, List.length_nil, List.length_drop, List.length_take] at g20_8
              refine OW_no rfl ?_
              refine OW_no rfl ?_
              refine OW_env (e' := [_, _, _, _, _, _, _, _, _, _, _, _, _, _, _, _, _, _, _, _, _, _, _, _, _, _, _, _, _, _, _, _, _, _, _, _, _, _, _, _, _, _, _, _, _, _, _, _, _, _, _, _, _, _, _, _, _, _, _, _, _, _, _, _, _, _, _, _, _, _, _, _, _, _, _, _, _, _, _, _, _, _, _, _, _, _, _, _, _, _, _, _, _, _, _, _, _, _, _, _, _, _, _, _, _, _, _, _, _, _, _, _, _, _, _, _, _, _, _, _, _, _, _, _, _, _, _, _, _, _, _, _, _, _, _, _, _, _, _, _, _, _, _, _, _, _, _, _]) rfl ?_
              refine OW_no rfl ?_
              refine OW_no rfl ?_
              refine OW_no rfl ?_
              refine OW_env (e' := [_, _, _, _, _, _, _, _, _, _, _, _, _, _, _, _, _, _, _, _, _, _, _, _, _, _, _, _, _, _, _, _, _, _, _, _, _, _, _, _, _, _, _, _, _, _, _, _, _, _, _, _, _, _, _, _, _, _, _, _, _, _, _, _, _, _, _, _, _, _, _, _, _, _, _, _, _, _, _, _, _, _, _, _, _, _, _, _, _, _, _, _, _, _, _, _, _, _, _, _, _, _, _, _, _, _, _, _, _, _, _, _, _, _, _, _, _, _, _, _, _, _, _, _, _, _, _, _, _, _, _, _, _, _, _, _, _, _, _, _, _, _, _, _, _, _, _, _]) rfl ?_
              refine OW_no rfl ?_
              refine OW_no rfl ?_
              refine OW_pick rfl rfl rfl ?_
              refine OW_env (e' := [_, _, _, _, _, _, _, _, _, _, _, _, _, _, _, _, _, _, _, _, _, _, _, _, _, _, _, _, _, _, _, _, _, _, _, _, _, _, _, _, _, _, _, _, _, _, _, _, _, _, _, _, _, _, _, _, _, _, _, _, _, _, _, _, _, _, _, _, _, _, _, _, _, _, _, _, _, _, _, _, _, _, _, _, _, _, _, _, _, _, _, _, _, _, _, _, _, _, _, _, _, _, _, _, _, _, _, _, _, _, _, _, _, _, _, _, _, _, _, _, _, _, _, _, _, _, _, _, _, _, _, _, _, _, _, _, _, _, _, _, _, _, _, _, _, _, _, _]) rfl ?_
              refine OW_mv rfl rfl ?_
              refine OW_no rfl ?_
              refine OW_no rfl ?_
              refine OW_env (e' := [_, _, _, _, _, _, _, _, _, _, _, _, _, _, _, _, _, _, _, _, _, _, _, _, _, _, _, _, _, _, _, _, _, _, _, _, _, _, _, _, _, _, _, _, _, _, _, _, _, _, _, _, _, _, _, _, _, _, _, _, _, _, _, _, _, _, _, _, _, _, _, _, _, _, _, _, _, _, _, _, _, _, _, _, _, _, _, _, _, _, _, _, _, _, _, _, _, _, _, _, _, _, _, _, _, _, _, _, _, _, _, _, _, _, _, _, _, _, _, _, _, _, _, _, _, _, _, _, _, _, _, _, _, _, _, _, _, _, _, _, _, _, _, _, _, _, _, _]) rfl ?_
              refine OW_no rfl ?_
              refine OW_no rfl ?_
              refine OW_no rfl ?_
              refine OW_env (e' := [_, _, _, _, _, _, _, _, _, _, _, _, _, _, _, _, _, _, _, _, _, _, _, _, _, _, _, _, _, _, _, _, _, _, _, _, _, _, _, _, _, _, _, _, _, _, _, _, _, _, _, _, _, _, _, _, _, _, _, _, _, _, _, _, _, _, _, _, _, _, _, _, _, _, _, _, _, _, _, _, _, _, _, _, _, _, _, _, _, _, _, _, _, _, _, _, _, _, _, _, _, _, _, _, _, _, _, _, _, _, _, _, _, _, _, _, _, _, _, _, _, _, _, _, _, _, _, _, _, _, _, _, _, _, _, _, _, _, _, _, _, _, _, _, _, _, _, _]) rfl ?_
              refine OW_no rfl ?_
              refine OW_no rfl ?_
              refine OW_no rfl ?_
              refine OW_env (e' := [_, _, _, _, _, _, _, _, _, _, _, _, _, _, _, _, _, _, _, _, _, _, _, _, _, _, _, _, _, _, _, _, _, _, _, _, _, _, _, _, _, _, _, _, _, _, _, _, _, _, _, _, _, _, _, _, _, _, _, _, _, _, _, _, _, _, _, _, _, _, _, _, _, _, _, _, _, _, _, _, _, _, _, _, _, _, _, _, _, _, _, _, _, _, _, _, _, _, _, _, _, _, _, _, _, _, _, _, _, _, _, _, _, _, _, _, _, _, _, _, _, _, _, _, _, _, _, _, _, _, _, _, _, _, _, _, _, _, _, _, _, _, _, _, _, _, _, _]) rfl ?_
              refine OW_pick rfl rfl rfl ?_
              refine OW_as rfl rfl ?_
              refine OW_nilE (e' := [_, _, _, _, _, _, _, _, _, _, _, _, _, _, _, _, _, _, _, _, _, _, _, _, _, _, _, _, _, _, _, _, _, _, _, _, _, _, _, _, _, _, _, _, _, _, _, _, _, _, _, _, _, _, _, _, _, _, _, _, _, _, _, _, _, _, _, _, _, _, _, _, _, _, _, _, _, _, _, _, _, _, _, _, _, _, _, _, _, _, _, _, _, _, _, _, _, _, _, _, _, _, _, _, _, _, _, _, _, _, _, _, _, _, _, _, _, _, _, _, _, _, _, _, _, _, _, _, _, _, _, _, _, _, _, _, _, _, _, _, _, _, _, _, _, _, _, _]) rfl ?_
              refine XW_ret ?_
              -- outcome 8
              refine ret_ret (res1 rfl (rv_tmp rfl)) (frz1 (Q := Q) (by first | exact freeze_plain rfl | exact Ls.freeze (by assumption) | exact Ls.freeze Ls.of | exact Ls.freeze Ls.emp | exact Ls.freeze Ls.nls) ?_)
              first
              | (refine qcast hq ?_; rw [hnext (by first | assumption | (rw [wu64 (by omega)]; omega))]; rfl)
              | exact hq
              | (refine qcast hq ?_; rfl)
              | (refine qcast hq ?_; simp; done)
              | (refine qcast hq ?_; simp; omega)
              | (refine qcast hq ?_; simp_all; done)
          · try simp only [decide_eq_true_eq, decide_eq_false_iff_not, Bool.not_eq_true', Bool.not_eq_false', Bool.and_eq_true, Bool.or_eq_true, Bool.not_eq_true, Bool.not_eq_false, Decidable.not_not, bne_iff_ne, beq_iff_eq, List.length_append, List.length_cons, List.length_nil, List.length_drop, List.length_take] at g20_3
            refine OW_no rfl ?_
            refine OW_no rfl ?_
            refine OW_env (e' := [_, _, _, _, _, _, _, _, _, _, _, _, _, _, _, _, _, _, _, _, _, _, _, _, _, _, _, _, _, _, _, _, _, _, _, _, _, _, _, _, _, _, _, _, _, _, _, _, _, _, _, _, _, _, _, _, _, _, _, _, _, _, _, _, _, _, _, _, _, _, _, _, _, _, _, _, _, _, _, _, _, _, _, _, _, _, _, _, _, _, _, _, _, _, _, _, _, _, _, _, _, _, _, _, _, _, _, _, _, _, _, _, _, _, _, _, _, _, _, _, _, _, _, _, _, _, _, _, _, _, _, _, _, _, _, _, _, _, _, _, _, _, _, _, _, _, _, _]) rfl ?_
            refine OW_no rfl ?_
            refine OW_pick rfl rfl rfl ?_
            refine OW_mv rfl rfl ?_
            refine OW_env (e' := [_, _, _, _, _, _, _, _, _, _, _, _, _, _, _, _, _, _, _, _, _, _, _, _, _, _, _, _, _, _, _, _, _, _, _, _, _, _, _, _, _, _, _, _, _, _, _, _, _, _, _, _, _, _, _, _, _, _, _, _, _, _, _, _, _, _, _, _, _, _, _, _, _, _, _, _, _, _, _, _, _, _, _, _, _, _, _, _, _, _, _, _, _, _, _, _, _, _, _, _, _, _, _, _, _, _, _, _, _, _, _, _, _, _, _, _, _, _, _, _, _, _, _, _, _, _, _, _, _, _, _, _, _, _, _, _, _, _, _, _, _, _, _, _, _, _, _, _]) rfl ?_
            refine OW_no rfl ?_
            refine OW_no rfl ?_
            refine OW_no rfl ?_
            refine OW_env (e' := [_, _, _, _, _, _, _, _, _, _, _, _, _, _, _, _, _, _, _, _, _, _, _, _, _, _, _, _, _, _, _, _, _, _, _, _, _, _, _, _, _, _, _, _, _, _, _, _, _, _, _, _, _, _, _, _, _, _, _, _, _, _, _, _, _, _, _, _, _, _, _, _, _, _, _, _, _, _, _, _, _, _, _, _, _, _, _, _, _, _, _, _, _, _, _, _, _, _, _, _, _, _, _, _, _, _, _, _, _, _, _, _, _, _, _, _, _, _, _, _, _, _, _, _, _, _, _, _, _, _, _, _, _, _, _, _, _, _, _, _, _, _, _, _, _, _, _, _]) rfl ?_
            refine OW_no rfl ?_
            refine OW_no rfl ?_
            refine OW_no rfl ?_
            refine OW_env (e' := [_, _, _, _, _, _, _, _, _, _, _, _, _, _, _, _, _, _, _, _, _, _, _, _, _, _, _, _, _, _, _, _, _, _, _, _, _, _, _, _, _, _, _, _, _, _, _, _, _, _, _, _, _, _, _, _, _, _, _, _, _, _, _, _, _, _, _, _, _, _, _, _, _, _, _, _, _, _, _, _, _, _, _, _, _, _, _, _, _, _, _, _, _, _, _, _, _, _, _, _, _, _, _, _, _, _, _, _, _, _, _, _, _, _, _, _, _, _, _, _, _, _, _, _, _, _, _, _, _, _, _, _, _, _, _, _, _, _, _, _, _, _, _, _, _, _, _, _]) rfl ?_
            refine OW_no rfl ?_
            refine OW_pick rfl rfl rfl ?_
            refine OW_mv rfl rfl ?_
            refine OW_env (e' := [_, _, _, _, _, _, _, _, _, _, _, _, _, _, _, _, _, _, _, _, _, _, _, _, _, _, _, _, _, _, _, _, _, _, _, _, _, _, _, _, _, _, _, _, _, _, _, _, _, _, _, _, _, _, _, _, _, _, _, _, _, _, _, _, _, _, _, _, _, _, _, _, _, _, _, _, _, _, _, _, _, _, _, _, _, _, _, _, _, _, _, _, _, _, _, _, _, _, _, _, _, _, _, _, _, _, _, _, _, _, _, _, _, _, _, _, _, _, _, _, _, _, _, _, _, _, _, _, _, _, _, _, _, _, _, _, _, _, _, _, _, _, _, _, _, _, _, _]) rfl ?_
            refine OW_no rfl ?_
            refine OW_no rfl ?_
            refine OW_no rfl ?_
            refine OW_env (e' := [_, _, _, _, _, _, _, _, _, _, _, _, _, _, _, _, _, _, _, _, _, _, _, _, _, _, _, _, _, _, _, _, _, _, _, _, _, _, _, _, _, _, _, _, _, _, _, _, _, _, _, _, _, _, _, _, _, _, _, _, _, _, _, _, _, _, _, _, _, _, _, _, _, _, _, _, _, _, _, _, _, _, _, _, _, _, _, _, _, _, _, _, _, _, _, _, _, _, _, _, _, _, _, _, _, _, _, _, _, _, _, _, _, _, _, _, _, _, _, _, _, _, _, _, _, _, _, _, _, _, _, _, _, _, _, _, _, _, _, _, _, _, _, _, _, _, _, _]) rfl ?_
            refine OW_no rfl ?_
            refine OW_no rfl ?_
            refine OW_no rfl ?_
            refine OW_env (e' := [_, _, _, _, _, _, _, _, _, _, _, _, _, _, _, _, _, _, _, _, _, _, _, _, _, _, _, _, _, _, _, _, _, _, _, _, _, _, _, _, _, _, _, _, _, _, _, _, _, _, _, _, _, _, _, _, _, _, _, _, _, _, _, _, _, _, _, _, _, _, _, _, _, _, _, _, _, _, _, _, _, _, _, _, _, _, _, _, _, _, _, _, _, _, _, _, _, _, _, _, _, _, _, _, _, _, _, _, _, _, _, _, _, _, _, _, _, _, _, _, _, _, _, _, _, _, _, _, _, _, _, _, _, _, _, _, _, _, _, _, _, _, _, _, _, _, _, _]) rfl ?_
            refine OW_no rfl ?_
            refine OW_no rfl ?_
            refine OW_pick rfl rfl rfl ?_
            refine OW_env (e' := [_, _, _, _, _, _, _, _, _, _, _, _, _, _, _, _, _, _, _, _, _, _, _, _, _, _, _, _, _, _, _, _, _, _, _, _, _, _, _, _, _, _, _, _, _, _, _, _, _, _, _, _, _, _, _, _, _, _, _, _, _, _, _, _, _, _, _, _, _, _, _, _, _, _, _, _, _, _, _, _, _, _, _, _, _, _, _, _, _, _, _, _, _, _, _, _, _, _, _, _, _, _, _, _, _, _, _, _, _, _, _, _, _, _, _, _, _, _, _, _, _, _, _, _, _, _, _, _, _, _, _, _, _, _, _, _, _, _, _, _, _, _, _, _, _, _, _, _]) rfl ?_
            refine OW_as rfl rfl ?_
            refine OW_nilE (e' := [_, _, _, _, _, _, _, _, _, _, _, _, _, _, _, _, _, _, _, _, _, _, _, _, _, _, _, _, _, _, _, _, _, _, _, _, _, _, _, _, _, _, _, _, _, _, _, _, _, _, _, _, _, _, _, _, _, _, _, _, _, _, _, _, _, _, _, _, _, _, _, _, _, _, _, _, _, _, _, _, _, _, _, _, _, _, _, _, _, _, _, _, _, _, _, _, _, _, _, _, _, _, _, _, _, _, _, _, _, _, _, _, _, _, _, _, _, _, _, _, _, _, _, _, _, _, _, _, _, _, _, _, _, _, _, _, _, _, _, _, _, _, _, _, _, _, _, _]) rfl ?_
            refine XW_ret ?_
            -- outcome 9
            refine ret_ret (res1 rfl (rv_tmp rfl)) (frz1 (Q := Q) (by first | exact freeze_plain rfl | exact Ls.freeze (by assumption) | exact Ls.freeze Ls.of | exact Ls.freeze Ls.emp | exact Ls.freeze Ls.nls) ?_)
            first
            | (refine qcast hq ?_; rw [hnext (by first | assumption | (rw [wu64 (by omega)]; omega))]; rfl)
            | exact hq
            | (refine qcast hq ?_; rfl)
            | (refine qcast hq ?_; simp; done)
            | (refine qcast hq ?_; simp; omega)
            | (refine qcast hq ?_; simp_all; done)
end Go.Proofs.Ytlnoligkgkngaaa.X
