/- Layer 03: the laws IdealDraws, IdealOpens, IdealAgain, IdealApart, reckoned. -/
import Derived.Test.YtofeelhaifeenaaJ14
set_option linter.unusedVariables false
set_option linter.unusedSimpArgs false
set_option maxRecDepth 100000
namespace Go.Proofs.Ytofeelhaifeenaa.X
open Go Go.RowKit
variable {ν β ps pos' : Nm} {H : Heap} {Q : AVal → Heap → Prop} {L : List Asr} {q : Nm} {k : Nat} {S T : Rf}
structure Tw where
  a : ByteArray
  b : ByteArray
  k : Int
  l : Int
  n : Int
def Tw.enc (x : Tw) : AVal := .agg [.str x.a, .str x.b, .int .u64 x.k, .int .u64 x.l, .int .u64 x.n]
theorem neB {a b : Bool} (h : a = b) : aBin cfg.T .neq 4 (.bool a) (.bool b) = some (.bool false) := by subst h; cases a <;> rfl
theorem eqB {a b : Bool} (h : a = b) : aBin cfg.T .eql 4 (.bool a) (.bool b) = some (.bool true) := by subst h; cases a <;> rfl
theorem Rf.mac_new {kk : Int} {a : ByteArray} {v : Int} (h : S.mac kk a = (v, T)) : T = S ∨ (v = S.next ∧ T.rows.length = S.rows.length + 1) := by
  unfold mac value at h
  split at h
  · exact .inl (Prod.mk.inj h).2.symm
  · obtain ⟨rfl, rfl⟩ := Prod.mk.inj h
    exact .inr ⟨rfl, by simp [draw]⟩
theorem lawDraws (d : List Int) (l : List Ca) (s : ByteArray) (hd : d.length ≤ 1048576) (hl : l.length ≤ 1048576) (hs : s.size ≤ 1048576) (hq : Q (.bool true) H) : CW cfg [] 8 [.lst (d.map Int.enc), .lst (l.map Ca.enc), .str s] H Q := by
  refine CW_pure g8 F8 rfl ?_
  have hS0 : Own [] [] (fun _ => none) [] := Own.nil
  refine XW_sr ?_
  refine OW_as rfl rfl ?_
  refine OW_nilE (e' := [_, _, _, _, _, _, _, _, _, _, _, _, _, _, _, _, _, _, _, _, _, _, _, _, _, _, _, _, _, _, _, _, _, _, _, _, _, _, _, _, _, _, _, _, _, _, _, _, _, _]) rfl ?_
  refine XW_sr ?_
  refine OW_mv rfl rfl ?_
  refine OW_mv rfl rfl ?_
  refine OW_fn rfl rfl (playedP hS0 (le_app (p := []) (b := [2, 0, 1])) under_nil (before_lit (ν := []) (a := [2, 0, 1]) (b := [3, 0, 1]) (by decide)) Ls.of Ls.of (by omega) (by omega) fun q1 H1 S1 i1 b1 d1 hS1 => ?_) 
  replace hS1 : Own _ _ _ ([_]) := hS1
  refine OW_env (e' := [_, _, _, _, _, _, _, _, _, _, _, _, _, _, _, _, _, _, _, _, _, _, _, _, _, _, _, _, _, _, _, _, _, _, _, _, _, _, _, _, _, _, _, _, _, _, _, _, _, _]) rfl ?_
  refine OW_as rfl rfl ?_
  refine OW_nilE (e' := [_, _, _, _, _, _, _, _, _, _, _, _, _, _, _, _, _, _, _, _, _, _, _, _, _, _, _, _, _, _, _, _, _, _, _, _, _, _, _, _, _, _, _, _, _, _, _, _, _, _]) rfl ?_
  refine XW_sr ?_
  refine OW_mv rfl rfl ?_
  refine OW_fn rfl rfl (oDrawn hS1 (k := 0) rfl (le_lit (ν := []) (a := [3, 0, 1]) (b := [1, 0, 1, 1]) (by decide)) under_nil (before_lit (ν := []) (a := [1, 0, 1, 1]) (b := [2, 0, 1, 1]) (by decide)) fun H2 hS2 => ?_) 
  replace hS2 : Own _ _ _ ([_]) := hS2
  refine OW_as rfl rfl ?_
  refine OW_nilE (e' := [_, _, _, _, _, _, _, _, _, _, _, _, _, _, _, _, _, _, _, _, _, _, _, _, _, _, _, _, _, _, _, _, _, _, _, _, _, _, _, _, _, _, _, _, _, _, _, _, _, _]) rfl ?_
  refine XW_sr ?_
  refine OW_mv rfl rfl ?_
  first
  | refine OW_conv rfl rfl (conv_in rfl rfl rfl (IntWalk.u64_in _ (by omega))) ?_
  | refine OW_conv rfl rfl rfl ?_
  first
  | refine OW_bin rfl rfl rfl rfl (add_wu64 (by first | omega | assumption | (simp only [ByteArray.size_append, ByteArray.size_extract, List.length_map, List.length_append, List.length_cons, List.length_nil, List.length_drop, List.length_take]; omega))) ?_
  | refine OW_bin rfl rfl rfl rfl rfl ?_
  refine OW_env (e' := [_, _, _, _, _, _, _, _, _, _, _, _, _, _, _, _, _, _, _, _, _, _, _, _, _, _, _, _, _, _, _, _, _, _, _, _, _, _, _, _, _, _, _, _, _, _, _, _, _, _]) rfl ?_
  refine OW_as rfl rfl ?_
  refine OW_nilE (e' := [_, _, _, _, _, _, _, _, _, _, _, _, _, _, _, _, _, _, _, _, _, _, _, _, _, _, _, _, _, _, _, _, _, _, _, _, _, _, _, _, _, _, _, _, _, _, _, _, _, _]) rfl ?_
  refine XW_mid (M := fun ee H' => Own [] (1 :: 1 :: 1 :: 1 :: 1 :: []) H' ([orc q1 S1.of]) ∧ (True) ∧ ∃ g : Nat → AVal, ee = [g 0, g 1, .str s, g 3, g 4, g 5, g 6, .ptr q1 0 0, .int .i64 S1.rows.length, .int .u64 S1.next, g 10, g 11, g 12, g 13, g 14, g 15, g 16, g 17, g 18, g 19, g 20, g 21, g 22, g 23, g 24, g 25, g 26, g 27, g 28, g 29, g 30, g 31, g 32, g 33, g 34, g 35, g 36, g 37, g 38, g 39, g 40, g 41, g 42, g 43, g 44, g 45, g 46, g 47, g 48, g 49]) ?_ ?_
  · skip
    refine XW_sr ?_
    refine OW_mv rfl rfl ?_
    refine OW_mv rfl rfl ?_
    first
    | refine OW_lenL rfl rfl (by first | assumption | exact Ls.of | exact Ls.emp | exact Ls.nls) rfl rfl rfl (by first | exact List.length_map _ | rfl) ?_
    | refine OW_bi rfl rfl rfl ?_
    refine OW_env (e' := [_, _, _, _, _, _, _, _, _, _, _, _, _, _, _, _, _, _, _, _, _, _, _, _, _, _, _, _, _, _, _, _, _, _, _, _, _, _, _, _, _, _, _, _, _, _, _, _, _, _]) rfl ?_
    refine OW_bin rfl rfl rfl rfl rfl ?_
    refine OW_nilE (e' := [_, _, _, _, _, _, _, _, _, _, _, _, _, _, _, _, _, _, _, _, _, _, _, _, _, _, _, _, _, _, _, _, _, _, _, _, _, _, _, _, _, _, _, _, _, _, _, _, _, _]) rfl ?_
    refine XW_if rfl (fun h4 => ?_) (fun h4 => ?_)
    · try simp only [decide_eq_true_eq, decide_eq_false_iff_not, Bool.not_eq_true', Bool.not_eq_false', Bool.and_eq_true, Bool.or_eq_true, Bool.not_eq_true, Bool.not_eq_false, Decidable.not_not, bne_iff_ne, beq_iff_eq, List.length_append, List.length_cons, List.length_nil, List.length_drop, List.length_take] at h4
      refine XW_region ?_
      refine OW_mv rfl rfl ?_
      refine OW_mv rfl rfl ?_
      first
      | refine OW_iaL rfl rfl rfl Ls.of rfl rfl rfl (by first | rfl | exact (Int.toNat_of_nonneg (by omega)).symm) (by first | assumption | exact at_map (by first | assumption | omega) | exact at_lst (by omega) | rfl) rfl ?_
      | refine OW_iaL rfl rfl rfl (by assumption) rfl rfl rfl (by first | rfl | exact (Int.toNat_of_nonneg (by omega)).symm) (by first | assumption | exact at_map (by first | assumption | omega) | exact at_lst (by omega) | rfl) rfl ?_
      refine OW_env (e' := [_, _, _, _, _, _, _, _, _, _, _, _, _, _, _, _, _, _, _, _, _, _, _, _, _, _, _, _, _, _, _, _, _, _, _, _, _, _, _, _, _, _, _, _, _, _, _, _, _, _]) rfl ?_
      refine OW_loadE rfl rfl rfl (by first | exact part_whole rfl rfl rfl | rfl) ?_
      refine OW_as rfl rfl ?_
      refine OW_nilE (e' := [_, _, _, _, _, _, _, _, _, _, _, _, _, _, _, _, _, _, _, _, _, _, _, _, _, _, _, _, _, _, _, _, _, _, _, _, _, _, _, _, _, _, _, _, _, _, _, _, _, _]) rfl ?_
      -- mid 6.1
      have hn : S1.next = d[S1.rows.length]'(by omega) := by simp only [Rf.next, d1]; rw [List.getElem?_eq_getElem (by omega)]
      rw [hn]
      refine ⟨Own.cast (Own.mono (hS2) (le_lit (ν := []) (a := [2, 0, 1, 1]) (b := [1, 1, 1, 1, 1]) (by decide))) (rfl), ?_, env_g rfl⟩
      · first | trivial | omega | simp_all
    · try simp only [decide_eq_true_eq, decide_eq_false_iff_not, Bool.not_eq_true', Bool.not_eq_false', Bool.and_eq_true, Bool.or_eq_true, Bool.not_eq_true, Bool.not_eq_false, Decidable.not_not, bne_iff_ne, beq_iff_eq, List.length_append, List.length_cons, List.length_nil, List.length_drop, List.length_take] at h4
      refine XW_skip ?_
      -- mid 6.2
      have hn : S1.next = 9223372036854775808 + (S1.rows.length : Int) := by simp only [Rf.next, d1]; rw [List.getElem?_eq_none (by omega)]
      rw [hn]
      refine ⟨Own.cast (Own.mono (hS2) (le_lit (ν := []) (a := [2, 0, 1, 1]) (b := [1, 1, 1, 1, 1]) (by decide))) (rfl), ?_, env_g rfl⟩
      · first | trivial | omega | simp_all
  · rintro ee H3 ⟨hS3, _, g1, rfl⟩
    refine XW_sr ?_
    refine OW_mv rfl rfl ?_
    refine OW_mv rfl rfl ?_
    refine OW_mv rfl rfl ?_
    refine OW_env (e' := [_, _, _, _, _, _, _, _, _, _, _, _, _, _, _, _, _, _, _, _, _, _, _, _, _, _, _, _, _, _, _, _, _, _, _, _, _, _, _, _, _, _, _, _, _, _, _, _, _, _]) rfl ?_
    refine OW_bin rfl rfl rfl rfl (cat (by first | omega | assumption | (simp only [ByteArray.size_append, ByteArray.size_extract, List.length_map, List.length_append, List.length_cons, List.length_nil, List.length_drop, List.length_take]; omega) | (refine Nat.le_trans (Nat.add_le_add_left (show _ ≤ 256 by decide) _) (by first | omega | (simp only [ByteArray.size_append, ByteArray.size_extract, List.length_map, List.length_append, List.length_cons, List.length_nil, List.length_drop, List.length_take]; omega))) | (refine Nat.le_trans (Nat.add_le_add_right (show _ ≤ 256 by decide) _) (by first | omega | (simp only [ByteArray.size_append, ByteArray.size_extract, List.length_map, List.length_append, List.length_cons, List.length_nil, List.length_drop, List.length_take]; omega))))) ?_
    refine OW_fn rfl rfl (pMac hS3 (k := 0) rfl (le_app (p := 1 :: 1 :: 1 :: 1 :: 1 :: []) (b := [4, 0])) under_nil (before_lit (ν := []) (a := [4, 0, 1, 1, 1, 1, 1]) (b := [5, 0, 1, 1, 1, 1, 1]) (by decide)) (by omega) _ _ fun H4 T1 v1 e1 b2 u1 hS4 => ?_) 
    replace hS4 : Own _ _ _ ([_]) := hS4
    refine OW_as rfl rfl ?_
    refine OW_nilE (e' := [_, _, _, _, _, _, _, _, _, _, _, _, _, _, _, _, _, _, _, _, _, _, _, _, _, _, _, _, _, _, _, _, _, _, _, _, _, _, _, _, _, _, _, _, _, _, _, _, _, _]) rfl ?_
    refine XW_seq ?_
    refine XW_sr ?_
    refine OW_mv rfl rfl ?_
    refine OW_fn rfl rfl (oDrawn hS4 (k := 0) rfl (le_lit (ν := []) (a := [5, 0, 1, 1, 1, 1, 1]) (b := [1, 0, 0, 1, 1, 1, 1, 1, 1]) (by decide)) under_nil (before_lit (ν := []) (a := [1, 0, 0, 1, 1, 1, 1, 1, 1]) (b := [2, 0, 0, 1, 1, 1, 1, 1, 1]) (by decide)) fun H5 hS5 => ?_) 
    replace hS5 : Own _ _ _ ([_]) := hS5
    refine OW_mv rfl rfl ?_
    refine OW_env (e' := [_, _, _, _, _, _, _, _, _, _, _, _, _, _, _, _, _, _, _, _, _, _, _, _, _, _, _, _, _, _, _, _, _, _, _, _, _, _, _, _, _, _, _, _, _, _, _, _, _, _]) rfl ?_
    refine OW_bin rfl rfl rfl rfl rfl ?_
    refine OW_nilE (e' := [_, _, _, _, _, _, _, _, _, _, _, _, _, _, _, _, _, _, _, _, _, _, _, _, _, _, _, _, _, _, _, _, _, _, _, _, _, _, _, _, _, _, _, _, _, _, _, _, _, _]) rfl ?_
    refine XW_if rfl (fun h7 => ?_) (fun h7 => ?_)
    · try simp only [decide_eq_true_eq, decide_eq_false_iff_not, Bool.not_eq_true', Bool.not_eq_false', Bool.and_eq_true, Bool.or_eq_true, Bool.not_eq_true, Bool.not_eq_false, Decidable.not_not, bne_iff_ne, beq_iff_eq, List.length_append, List.length_cons, List.length_nil, List.length_drop, List.length_take] at h7
      refine XW_sr ?_
      refine OW_fn rfl rfl (fixedW (by kernel_rfl) ?_) 
      refine OW_as rfl rfl ?_
      refine OW_nilE (e' := [_, _, _, _, _, _, _, _, _, _, _, _, _, _, _, _, _, _, _, _, _, _, _, _, _, _, _, _, _, _, _, _, _, _, _, _, _, _, _, _, _, _, _, _, _, _, _, _, _, _]) rfl ?_
      refine XW_ret ?_
      refine then_ret ?_
      -- outcome 1
      refine ret_ret (res1 rfl (rv_tmp rfl)) (frz1 (Q := Q) (by first | exact freeze_plain rfl | exact Ls.freeze (by assumption) | exact Ls.freeze Ls.of | exact Ls.freeze Ls.emp | exact Ls.freeze Ls.nls) ?_)
      exact hq
    · try simp only [decide_eq_true_eq, decide_eq_false_iff_not, Bool.not_eq_true', Bool.not_eq_false', Bool.and_eq_true, Bool.or_eq_true, Bool.not_eq_true, Bool.not_eq_false, Decidable.not_not, bne_iff_ne, beq_iff_eq, List.length_append, List.length_cons, List.length_nil, List.length_drop, List.length_take] at h7
      refine XW_skip ?_
      refine then_norm ?_
      refine XW_sr ?_
      refine OW_fn rfl rfl (fixedW (by kernel_rfl) ?_) 
      refine OW_mv rfl rfl ?_
      obtain ⟨hv1, hr1⟩ : v1 = S1.next ∧ T1.rows.length = S1.rows.length + 1 := (Rf.mac_new e1).resolve_left (fun e => h7 (by rw [e]))
      refine OW_mv rfl rfl ?_
      refine OW_env (e' := [_, _, _, _, _, _, _, _, _, _, _, _, _, _, _, _, _, _, _, _, _, _, _, _, _, _, _, _, _, _, _, _, _, _, _, _, _, _, _, _, _, _, _, _, _, _, _, _, _, _]) rfl ?_
      refine OW_mv rfl rfl ?_
      refine OW_bin rfl rfl rfl rfl (eqU hv1) ?_
      refine OW_pick rfl rfl rfl ?_
      refine OW_env (e' := [_, _, _, _, _, _, _, _, _, _, _, _, _, _, _, _, _, _, _, _, _, _, _, _, _, _, _, _, _, _, _, _, _, _, _, _, _, _, _, _, _, _, _, _, _, _, _, _, _, _]) rfl ?_
      refine OW_mv rfl rfl ?_
      refine OW_mv rfl rfl ?_
      refine OW_fn rfl rfl (oDrawn hS5 (k := 0) rfl (le_lit (ν := []) (a := [2, 0, 0, 1, 1, 1, 1, 1, 1]) (b := [8, 0, 1, 1, 1, 1, 1, 1, 1]) (by decide)) under_nil (before_lit (ν := []) (a := [8, 0, 1, 1, 1, 1, 1, 1, 1]) (b := [9, 0, 1, 1, 1, 1, 1, 1, 1]) (by decide)) fun H6 hS6 => ?_) 
      replace hS6 : Own _ _ _ ([_]) := hS6
      refine OW_env (e' := [_, _, _, _, _, _, _, _, _, _, _, _, _, _, _, _, _, _, _, _, _, _, _, _, _, _, _, _, _, _, _, _, _, _, _, _, _, _, _, _, _, _, _, _, _, _, _, _, _, _]) rfl ?_
      refine OW_mv rfl rfl ?_
      first
      | refine OW_bin rfl rfl rfl rfl (add_w64 (by first | omega | assumption | (simp only [ByteArray.size_append, ByteArray.size_extract, List.length_map, List.length_append, List.length_cons, List.length_nil, List.length_drop, List.length_take]; omega))) ?_
      | refine OW_bin rfl rfl rfl rfl rfl ?_
      refine OW_bin rfl rfl rfl rfl rfl ?_
      refine OW_env (e' := [_, _, _, _, _, _, _, _, _, _, _, _, _, _, _, _, _, _, _, _, _, _, _, _, _, _, _, _, _, _, _, _, _, _, _, _, _, _, _, _, _, _, _, _, _, _, _, _, _, _]) rfl ?_
      refine OW_pick rfl rfl rfl ?_
      refine OW_as rfl rfl ?_
      refine OW_nilE (e' := [_, _, _, _, _, _, _, _, _, _, _, _, _, _, _, _, _, _, _, _, _, _, _, _, _, _, _, _, _, _, _, _, _, _, _, _, _, _, _, _, _, _, _, _, _, _, _, _, _, _]) rfl ?_
      refine XW_ret ?_
      -- outcome 2
      refine ret_ret (res1 rfl (rv_tmp rfl)) (frz1 (Q := Q) (by first | exact freeze_plain rfl | exact Ls.freeze (by assumption) | exact Ls.freeze Ls.of | exact Ls.freeze Ls.emp | exact Ls.freeze Ls.nls) ?_)
      refine qcast hq ?_; simp [hr1]
end Go.Proofs.Ytofeelhaifeenaa.X
