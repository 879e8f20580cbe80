/- Layer 07: TokenForged, TokenEpochs, TokenApart, reckoned. -/
import Derived.Test.YtoljfmghcfdbpaaTK3
set_option linter.unusedVariables false
set_option linter.unusedSimpArgs false
set_option maxRecDepth 100000
namespace Go.Proofs.Ytoljfmghcfdbpaa.X
open Go Go.RowKit WM
variable {ν β ps pos' : Nm} {H : Heap} {Q : AVal → Heap → Prop} {L : List Asr} {q : Nm} {k : Nat} {S T : Rf}
structure As where
  t : Tk
  vol : Int
  ep : Int
  want : Int
def As.enc (a : As) : AVal := .agg [.int .u64 a.t.tn, .int .u64 a.t.vo, .int .u64 a.t.ep, .int .u64 a.t.ri, .int .u64 a.t.tag, .int .u64 a.vol, .int .u64 a.ep, .int .u64 a.want]
theorem checkP (hS : Own β ps H L) (hL : L[k]? = some (orc q S.of)) (hle : le ps ν) (hβ : under β ν = true) (hp : before ν pos') (key : Int) (t : Tk) (ht : t.fit) (vol ep want : Int)
    (hq : ∀ H1 T c, S.check key t vol ep want = (c, T) → T.rows = S.rows → T.bads = S.bads → Own β pos' H1 (L.set k (orc q T.of)) → Q (.int .i64 c) H1) : CW cfg ν 16 [.ptr q 0 0, .int .u64 key, t.enc, .int .u64 vol, .int .u64 ep, .int .u64 want] H Q :=
  checkW hS hL hle hβ hp key t ht vol ep want fun H1 h1 => hq H1 _ _ rfl (Rf.verify_rows _ _ _) (Rf.verify_bads _ _ _) h1
theorem fit_4 {t : Tk} (h : t.fit) : X.fit4 t := ⟨h.1, h.2.1, h.2.2.1, h.2.2.2.1⟩
theorem ans_70 {b : Bool} {t : Tk} {vol ep want : Int} : (Rf.ans b t vol ep want = 70) ↔ b = false := by
  unfold Rf.ans
  cases b
  · simp
  · simp only [Bool.true_eq_false, if_false, iff_false]
    split
    · decide
    · split
      · decide
      · split <;> decide
theorem check_70 {x : Us} (hx : x.good) {t : Tk} (ht : t.fit) {vol ep want c : Int} {T : Rf} (e : x.ts.2.check x.key t vol ep want = (c, T)) : c = 70 ↔ t ∉ x.ts.1 := by
  have h1 := (x.isd.ver (Us.fit4 hx) (fit_4 ht)).1
  have h2 : c = Rf.ans (x.ts.2.verify x.key (tkB t) t.tag).1 t vol ep want := (Prod.mk.inj e).1.symm
  rw [h2, ans_70, h1, decide_eq_false_iff_not]
theorem lawForged (x : Us) (a : As) (hx : x.good) (ha : a.t.fit) (hq : Q (.bool true) H) : CW cfg [] 5 [x.enc, a.enc] H Q := by
  have hr := x.rows
  have hln := x.len
  refine CW_pure g5 F5 rfl ?_
  have hS0 : Own [] [] (fun _ => none) [] := Own.nil
  refine XW_sr ?_
  refine OW_boxR hS0 (le_app (p := []) (b := [0, 0])) under_nil rfl rfl rfl ⟨rfl, rfl⟩ fun H1 hS1 => ?_
  replace hS1 : Own _ _ _ ([_]) := hS1
  refine OW_boxR hS1 le_refl under_nil rfl rfl rfl ⟨rfl, rfl⟩ fun H2 hS2 => ?_
  replace hS2 : Own _ _ _ ([_, _]) := hS2
  refine OW_as rfl rfl ?_
  refine OW_nilE (e' := [_, _, _, _, _, _, _, _, _, _, _, _, _, _, _, _, _, _, _, _, _, _, _, _, _, _, _, _, _, _, _, _, _, _, _, _, _, _, _, _, _, _, _, _, _, _, _, _, _, _]) rfl ?_
  refine XW_sr ?_
  refine OW_loadR hS2 (k := 1) rfl rfl rfl rfl rfl (by first | exact part_whole rfl rfl rfl | rfl) ?_
  refine OW_fn rfl rfl (issuedW x hx hS2 (le_lit (ν := []) (a := [2, 0]) (b := [1, 0, 1]) (by decide)) under_nil (before_lit (ν := []) (a := [1, 0, 1]) (b := [2, 0, 1]) (by decide)) fun q1 O1 H3 hS3 => ?_) 
  replace hS3 : Own _ _ _ ([_, _, _, _]) := hS3
  refine OW_mv rfl rfl ?_
  refine OW_env (e' := [_, _, _, _, _, _, _, _, _, _, _, _, _, _, _, _, _, _, _, _, _, _, _, _, _, _, _, _, _, _, _, _, _, _, _, _, _, _, _, _, _, _, _, _, _, _, _, _, _, _]) rfl ?_
  refine OW_ex rfl rfl rfl ?_
  refine OW_ex rfl rfl rfl ?_
  refine OW_as rfl rfl ?_
  refine OW_env (e' := [_, _, _, _, _, _, _, _, _, _, _, _, _, _, _, _, _, _, _, _, _, _, _, _, _, _, _, _, _, _, _, _, _, _, _, _, _, _, _, _, _, _, _, _, _, _, _, _, _, _]) rfl ?_
  refine OW_as rfl rfl ?_
  refine OW_nilE (e' := [_, _, _, _, _, _, _, _, _, _, _, _, _, _, _, _, _, _, _, _, _, _, _, _, _, _, _, _, _, _, _, _, _, _, _, _, _, _, _, _, _, _, _, _, _, _, _, _, _, _]) rfl ?_
  refine XW_sr ?_
  refine OW_mv rfl rfl ?_
  refine OW_fa rfl rfl rfl ?_
  refine OW_loadR hS3 (k := 3) rfl rfl rfl rfl rfl (by first | exact part_whole rfl rfl rfl | rfl) ?_
  refine OW_env (e' := [_, _, _, _, _, _, _, _, _, _, _, _, _, _, _, _, _, _, _, _, _, _, _, _, _, _, _, _, _, _, _, _, _, _, _, _, _, _, _, _, _, _, _, _, _, _, _, _, _, _]) rfl ?_
  refine OW_fa rfl rfl rfl ?_
  refine OW_loadR hS3 (k := 2) rfl rfl rfl rfl rfl (by first | exact part_whole rfl rfl rfl | rfl) ?_
  refine OW_fa rfl rfl rfl ?_
  refine OW_env (e' := [_, _, _, _, _, _, _, _, _, _, _, _, _, _, _, _, _, _, _, _, _, _, _, _, _, _, _, _, _, _, _, _, _, _, _, _, _, _, _, _, _, _, _, _, _, _, _, _, _, _]) rfl ?_
  refine OW_loadR hS3 (k := 2) rfl rfl rfl rfl rfl (by first | exact part_whole rfl rfl rfl | rfl) ?_
  refine OW_fa rfl rfl rfl ?_
  refine OW_loadR hS3 (k := 2) rfl rfl rfl rfl rfl (by first | exact part_whole rfl rfl rfl | rfl) ?_
  refine OW_env (e' := [_, _, _, _, _, _, _, _, _, _, _, _, _, _, _, _, _, _, _, _, _, _, _, _, _, _, _, _, _, _, _, _, _, _, _, _, _, _, _, _, _, _, _, _, _, _, _, _, _, _]) rfl ?_
  refine OW_fa rfl rfl rfl ?_
  refine OW_loadR hS3 (k := 2) rfl rfl rfl rfl rfl (by first | exact part_whole rfl rfl rfl | rfl) ?_
  refine OW_fn rfl rfl (checkP hS3 (k := 1) rfl (le_lit (ν := []) (a := [2, 0, 1]) (b := [11, 0, 1, 1]) (by decide)) under_nil (before_lit (ν := []) (a := [11, 0, 1, 1]) (b := [12, 0, 1, 1]) (by decide)) _ _ ha _ _ _ fun H4 T1 c1 e1 r1 z1 hS4 => ?_) 
  replace hS4 : Own _ _ _ ([_, _, _, _]) := hS4
  refine OW_env (e' := [_, _, _, _, _, _, _, _, _, _, _, _, _, _, _, _, _, _, _, _, _, _, _, _, _, _, _, _, _, _, _, _, _, _, _, _, _, _, _, _, _, _, _, _, _, _, _, _, _, _]) rfl ?_
  refine OW_as rfl rfl ?_
  refine OW_nilE (e' := [_, _, _, _, _, _, _, _, _, _, _, _, _, _, _, _, _, _, _, _, _, _, _, _, _, _, _, _, _, _, _, _, _, _, _, _, _, _, _, _, _, _, _, _, _, _, _, _, _, _]) rfl ?_
  refine XW_seq ?_
  refine XW_sr ?_
  refine OW_fn rfl rfl (fixedW (by kernel_rfl) ?_) 
  refine OW_un rfl rfl rfl ?_
  refine OW_mv rfl rfl ?_
  refine OW_env (e' := [_, _, _, _, _, _, _, _, _, _, _, _, _, _, _, _, _, _, _, _, _, _, _, _, _, _, _, _, _, _, _, _, _, _, _, _, _, _, _, _, _, _, _, _, _, _, _, _, _, _]) rfl ?_
  refine OW_mv rfl rfl ?_
  refine OW_fn rfl rfl (oBad hS4 (k := 1) rfl (le_lit (ν := []) (a := [12, 0, 1, 1]) (b := [4, 0, 0, 1, 1, 1]) (by decide)) under_nil (before_lit (ν := []) (a := [4, 0, 0, 1, 1, 1]) (b := [5, 0, 0, 1, 1, 1]) (by decide)) fun H5 hS5 => ?_) 
  replace hS5 : Own _ _ _ ([_, _, _, _]) := hS5
  refine OW_pick rfl rfl rfl ?_
  refine OW_nilE (e' := [_, _, _, _, _, _, _, _, _, _, _, _, _, _, _, _, _, _, _, _, _, _, _, _, _, _, _, _, _, _, _, _, _, _, _, _, _, _, _, _, _, _, _, _, _, _, _, _, _, _]) rfl ?_
  refine XW_if rfl (fun h3 => ?_) (fun h3 => ?_)
  · try simp only [decide_eq_true_eq, decide_eq_false_iff_not, Bool.not_eq_true', Bool.not_eq_false', Bool.and_eq_true, Bool.or_eq_true, Bool.not_eq_true, Bool.not_eq_false, Decidable.not_not, bne_iff_ne, beq_iff_eq, List.length_append, List.length_cons, List.length_nil, List.length_drop, List.length_take] at h3
    refine XW_sr ?_
    refine OW_fn rfl rfl (fixedW (by kernel_rfl) ?_) 
    refine OW_as rfl rfl ?_
    refine OW_nilE (e' := [_, _, _, _, _, _, _, _, _, _, _, _, _, _, _, _, _, _, _, _, _, _, _, _, _, _, _, _, _, _, _, _, _, _, _, _, _, _, _, _, _, _, _, _, _, _, _, _, _, _]) rfl ?_
    refine XW_ret ?_
    refine then_ret ?_
    -- outcome 1
    refine ret_ret (res1 rfl (rv_tmp rfl)) (frz1 (Q := Q) (by first | exact freeze_plain rfl | exact Ls.freeze (by assumption) | exact Ls.freeze Ls.of | exact Ls.freeze Ls.emp | exact Ls.freeze Ls.nls) ?_)
    first
    | ((refine qcast hq ?_; simp [hc]))
    | exact hq
    | (refine qcast hq ?_; rfl)
    | (refine qcast hq ?_; simp; done)
    | (refine qcast hq ?_; simp; omega)
    | (refine qcast hq ?_; simp_all; done)
  · try simp only [decide_eq_true_eq, decide_eq_false_iff_not, Bool.not_eq_true', Bool.not_eq_false', Bool.and_eq_true, Bool.or_eq_true, Bool.not_eq_true, Bool.not_eq_false, Decidable.not_not, bne_iff_ne, beq_iff_eq, List.length_append, List.length_cons, List.length_nil, List.length_drop, List.length_take] at h3
    refine XW_skip ?_
    refine then_norm ?_
    refine XW_seq ?_
    refine XW_sr ?_
    refine OW_as rfl rfl ?_
    refine OW_nilE (e' := [_, _, _, _, _, _, _, _, _, _, _, _, _, _, _, _, _, _, _, _, _, _, _, _, _, _, _, _, _, _, _, _, _, _, _, _, _, _, _, _, _, _, _, _, _, _, _, _, _, _]) rfl ?_
    refine XW_block ?_
    refine XW_whileN (I := fun ν' mm ee H' => ∃ (i : Nat), mm = x.ts.1.length - i ∧ under (1 :: 0 :: 1 :: 1 :: 1 :: 1 :: []) ν' = true ∧ Own [] ν' H' ([sl O1 5 (x.ts.1.map Tk.enc), orc q1 T1.of, row (1 :: 0 :: []) 8 [a.enc], row (0 :: 0 :: []) 3 [x.enc]]) ∧ (i ≤ x.ts.1.length ∧ a.t ∉ x.ts.1.take i) ∧ ∃ g : Nat → AVal, ee = [g 0, g 1, .ptr (0 :: 0 :: []) 0 0, .ptr (1 :: 0 :: []) 0 0, g 4, .ptr q1 0 0, O1, .int .i64 c1, .int .i64 i, g 9, g 10, g 11, g 12, g 13, g 14, g 15, g 16, g 17, g 18, g 19, g 20, g 21, g 22, g 23, g 24, g 25, g 26, g 27, g 28, g 29, g 30, g 31, g 32, g 33, g 34, g 35, g 36, g 37, g 38, g 39, g 40, g 41, g 42, g 43, g 44, g 45, g 46, g 47, g 48, g 49]) ?_ _ _ _ _ ⟨0, rfl, under_me, Own.cast (Own.mono (hS5) (le_lit (ν := []) (a := [5, 0, 0, 1, 1, 1]) (b := [1, 0, 1, 1, 1, 1]) (by decide))) (rfl), (⟨Nat.zero_le _, by simp⟩), env_g rfl⟩
    rintro ν1 mm ee H6 ⟨i, rfl, hU1, hS6, ⟨hi, hni⟩, g1, rfl⟩
    refine XW_seq ?_
    refine XW_sr ?_
    refine OW_mv rfl rfl ?_
    refine OW_mv rfl rfl ?_
    refine OW_lenO hS6 (k := 0) rfl rfl rfl rfl rfl rfl (by first | exact List.length_map _ | exact len_app1 | exact len_drop | (simp only [List.length_append, List.length_map, List.length_singleton, List.length_cons, List.length_nil]; rfl) | rfl) ?_
    refine OW_env (e' := [_, _, _, _, _, _, _, _, _, _, _, _, _, _, _, _, _, _, _, _, _, _, _, _, _, _, _, _, _, _, _, _, _, _, _, _, _, _, _, _, _, _, _, _, _, _, _, _, _, _]) rfl ?_
    refine OW_bin rfl rfl rfl rfl rfl ?_
    refine OW_nilE (e' := [_, _, _, _, _, _, _, _, _, _, _, _, _, _, _, _, _, _, _, _, _, _, _, _, _, _, _, _, _, _, _, _, _, _, _, _, _, _, _, _, _, _, _, _, _, _, _, _, _, _]) rfl ?_
    refine XW_if rfl (fun h6 => ?_) (fun h6 => ?_)
    · try simp only [decide_eq_true_eq, decide_eq_false_iff_not, Bool.not_eq_true', Bool.not_eq_false', Bool.and_eq_true, Bool.or_eq_true, Bool.not_eq_true, Bool.not_eq_false, Decidable.not_not, bne_iff_ne, beq_iff_eq, List.length_append, List.length_cons, List.length_nil, List.length_drop, List.length_take] at h6
      refine XW_skip ?_
      refine then_norm ?_
      refine XW_seq ?_
      refine XW_block ?_
      refine XW_sr ?_
      refine OW_mv rfl rfl ?_
      refine OW_mv rfl rfl ?_
      refine OW_iaO hS6 (k := 0) rfl rfl rfl rfl rfl rfl rfl rfl (by first | rfl | exact (Int.toNat_of_nonneg (by omega)).symm) (by first | assumption | exact at_map (by first | assumption | omega) | exact at_lst (by omega) | rfl) fun q2 ys1 hO1 hq1 ht1 hy1 hu1 => ?_
      subst hO1
      refine OW_env (e' := [_, _, _, _, _, _, _, _, _, _, _, _, _, _, _, _, _, _, _, _, _, _, _, _, _, _, _, _, _, _, _, _, _, _, _, _, _, _, _, _, _, _, _, _, _, _, _, _, _, _]) rfl ?_
      refine OW_loadP rfl rfl hq1 hy1 rfl (by first | exact part_whole rfl rfl rfl | rfl) ?_
      refine OW_fa rfl rfl rfl ?_
      refine OW_loadR hS6 (k := 2) rfl rfl rfl rfl rfl (by first | exact part_whole rfl rfl rfl | rfl) ?_
      refine OW_env (e' := [_, _, _, _, _, _, _, _, _, _, _, _, _, _, _, _, _, _, _, _, _, _, _, _, _, _, _, _, _, _, _, _, _, _, _, _, _, _, _, _, _, _, _, _, _, _, _, _, _, _]) rfl ?_
      refine OW_bin rfl rfl rfl rfl (eqTk _ _) ?_
      refine OW_nilE (e' := [_, _, _, _, _, _, _, _, _, _, _, _, _, _, _, _, _, _, _, _, _, _, _, _, _, _, _, _, _, _, _, _, _, _, _, _, _, _, _, _, _, _, _, _, _, _, _, _, _, _]) rfl ?_
      refine XW_if rfl (fun h8 => ?_) (fun h8 => ?_)
      · try simp only [decide_eq_true_eq, decide_eq_false_iff_not, Bool.not_eq_true', Bool.not_eq_false', Bool.and_eq_true, Bool.or_eq_true, Bool.not_eq_true, Bool.not_eq_false, Decidable.not_not, bne_iff_ne, beq_iff_eq, List.length_append, List.length_cons, List.length_nil, List.length_drop, List.length_take] at h8
        refine XW_sr ?_
        have hm : a.t ∈ x.ts.1 := h8 ▸ List.getElem_mem (by omega)
        have hc := (not_congr (check_70 hx ha e1)).2 (fun e => e hm)
        refine OW_mv rfl rfl ?_
        refine OW_bin rfl rfl rfl rfl rfl ?_
        refine OW_as rfl rfl ?_
        refine OW_nilE (e' := [_, _, _, _, _, _, _, _, _, _, _, _, _, _, _, _, _, _, _, _, _, _, _, _, _, _, _, _, _, _, _, _, _, _, _, _, _, _, _, _, _, _, _, _, _, _, _, _, _, _]) rfl ?_
        refine XW_ret ?_
        refine block_ret ?_
        refine then_ret ?_
        refine block_ret ?_
        refine then_ret ?_
        -- outcome 2
        refine ret_ret (res1 rfl (rv_tmp rfl)) (frz1 (Q := Q) (by first | exact freeze_plain rfl | exact Ls.freeze (by assumption) | exact Ls.freeze Ls.of | exact Ls.freeze Ls.emp | exact Ls.freeze Ls.nls) ?_)
        first
        | ((refine qcast hq ?_; simp [hc]))
        | exact hq
        | (refine qcast hq ?_; rfl)
        | (refine qcast hq ?_; simp; done)
        | (refine qcast hq ?_; simp; omega)
        | (refine qcast hq ?_; simp_all; done)
      · try simp only [decide_eq_true_eq, decide_eq_false_iff_not, Bool.not_eq_true', Bool.not_eq_false', Bool.and_eq_true, Bool.or_eq_true, Bool.not_eq_true, Bool.not_eq_false, Decidable.not_not, bne_iff_ne, beq_iff_eq, List.length_append, List.length_cons, List.length_nil, List.length_drop, List.length_take] at h8
        refine XW_skip ?_
        refine block_norm ?_
        refine then_norm ?_
        refine XW_region ?_
        refine OW_mv rfl rfl ?_
        first
        | refine OW_bin rfl rfl rfl rfl (add_w64 (by first | omega | assumption | (simp only [ByteArray.size_append, ByteArray.size_extract, List.length_map, List.length_append, List.length_cons, List.length_nil, List.length_drop, List.length_take]; omega))) ?_
        | refine OW_bin rfl rfl rfl rfl rfl ?_
        refine OW_as rfl rfl ?_
        refine OW_nilE (e' := [_, _, _, _, _, _, _, _, _, _, _, _, _, _, _, _, _, _, _, _, _, _, _, _, _, _, _, _, _, _, _, _, _, _, _, _, _, _, _, _, _, _, _, _, _, _, _, _, _, _]) rfl ?_
        -- round 0.1
        refine ⟨_, ?_, i + 1, rfl, under_in hU1, Own.cast (Own.mono (hS6) (le_app (p := ν1) (b := [1]))) (rfl), ?_, env_g rfl⟩
        · first | omega | (simp; omega)
        · refine ⟨by omega, ?_⟩; rw [← List.take_append_getElem (by omega : i < x.ts.1.length)]; simp only [List.mem_append, List.mem_singleton, not_or]; exact ⟨hni, fun e => h8 e.symm⟩
    · try simp only [decide_eq_true_eq, decide_eq_false_iff_not, Bool.not_eq_true', Bool.not_eq_false', Bool.and_eq_true, Bool.or_eq_true, Bool.not_eq_true, Bool.not_eq_false, Decidable.not_not, bne_iff_ne, beq_iff_eq, List.length_append, List.length_cons, List.length_nil, List.length_drop, List.length_take] at h6
      refine XW_exit ?_
      refine then_exit ?_
      refine block_exit ?_
      refine then_norm ?_
      refine XW_sr ?_
      have hm : a.t ∉ x.ts.1 := by rw [List.take_of_length_le (by omega)] at hni; exact hni
      have hc := (check_70 hx ha e1).2 hm
      refine OW_mv rfl rfl ?_
      refine OW_bin rfl rfl rfl rfl rfl ?_
      refine OW_as rfl rfl ?_
      refine OW_nilE (e' := [_, _, _, _, _, _, _, _, _, _, _, _, _, _, _, _, _, _, _, _, _, _, _, _, _, _, _, _, _, _, _, _, _, _, _, _, _, _, _, _, _, _, _, _, _, _, _, _, _, _]) rfl ?_
      refine XW_ret ?_
      -- outcome 3
      refine ret_ret (res1 rfl (rv_tmp rfl)) (frz1 (Q := Q) (by first | exact freeze_plain rfl | exact Ls.freeze (by assumption) | exact Ls.freeze Ls.of | exact Ls.freeze Ls.emp | exact Ls.freeze Ls.nls) ?_)
      first
      | ((refine qcast hq ?_; simp [hc]))
      | exact hq
      | (refine qcast hq ?_; rfl)
      | (refine qcast hq ?_; simp; done)
      | (refine qcast hq ?_; simp; omega)
      | (refine qcast hq ?_; simp_all; done)
theorem lawApart (x : Us) (hx : x.good) (hq : Q (.bool true) H) : CW cfg [] 6 [x.enc] H Q := by
  have hr := x.rows
  have hln := x.len
  refine CW_pure g6 F6 rfl ?_
  have hS0 : Own [] [] (fun _ => none) [] := Own.nil
  refine XW_sr ?_
  refine OW_boxR hS0 (le_app (p := []) (b := [0, 0])) under_nil rfl rfl rfl ⟨rfl, rfl⟩ fun H1 hS1 => ?_
  replace hS1 : Own _ _ _ ([_]) := hS1
  refine OW_as rfl rfl ?_
  refine OW_nilE (e' := [_, _, _, _, _, _, _, _, _, _, _, _, _, _, _, _, _, _, _, _, _, _, _, _, _, _, _, _, _, _, _, _, _, _, _, _, _, _, _, _, _, _, _, _, _, _, _, _, _, _, _]) rfl ?_
  refine XW_sr ?_
  refine OW_loadR hS1 (k := 0) rfl rfl rfl rfl rfl (by first | exact part_whole rfl rfl rfl | rfl) ?_
  refine OW_fn rfl rfl (issuedW x hx hS1 (le_lit (ν := []) (a := [1, 0]) (b := [1, 0, 1]) (by decide)) under_nil (before_lit (ν := []) (a := [1, 0, 1]) (b := [2, 0, 1]) (by decide)) fun q1 O1 H2 hS2 => ?_) 
  replace hS2 : Own _ _ _ ([_, _, _]) := hS2
  refine OW_mv rfl rfl ?_
  refine OW_env (e' := [_, _, _, _, _, _, _, _, _, _, _, _, _, _, _, _, _, _, _, _, _, _, _, _, _, _, _, _, _, _, _, _, _, _, _, _, _, _, _, _, _, _, _, _, _, _, _, _, _, _, _]) rfl ?_
  refine OW_ex rfl rfl rfl ?_
  refine OW_ex rfl rfl rfl ?_
  refine OW_as rfl rfl ?_
  refine OW_env (e' := [_, _, _, _, _, _, _, _, _, _, _, _, _, _, _, _, _, _, _, _, _, _, _, _, _, _, _, _, _, _, _, _, _, _, _, _, _, _, _, _, _, _, _, _, _, _, _, _, _, _, _]) rfl ?_
  refine OW_as rfl rfl ?_
  refine OW_nilE (e' := [_, _, _, _, _, _, _, _, _, _, _, _, _, _, _, _, _, _, _, _, _, _, _, _, _, _, _, _, _, _, _, _, _, _, _, _, _, _, _, _, _, _, _, _, _, _, _, _, _, _, _]) rfl ?_
  refine XW_seq ?_
  refine XW_sr ?_
  refine OW_fn rfl rfl (fixedW (by kernel_rfl) ?_) 
  refine OW_un rfl rfl rfl ?_
  refine OW_mv rfl rfl ?_
  refine OW_env (e' := [_, _, _, _, _, _, _, _, _, _, _, _, _, _, _, _, _, _, _, _, _, _, _, _, _, _, _, _, _, _, _, _, _, _, _, _, _, _, _, _, _, _, _, _, _, _, _, _, _, _, _]) rfl ?_
  refine OW_mv rfl rfl ?_
  refine OW_fn rfl rfl (oBad hS2 (k := 1) rfl (le_lit (ν := []) (a := [2, 0, 1]) (b := [4, 0, 0, 1, 1]) (by decide)) under_nil (before_lit (ν := []) (a := [4, 0, 0, 1, 1]) (b := [5, 0, 0, 1, 1]) (by decide)) fun H3 hS3 => ?_) 
  replace hS3 : Own _ _ _ ([_, _, _]) := hS3
  refine OW_pick rfl rfl rfl ?_
  refine OW_nilE (e' := [_, _, _, _, _, _, _, _, _, _, _, _, _, _, _, _, _, _, _, _, _, _, _, _, _, _, _, _, _, _, _, _, _, _, _, _, _, _, _, _, _, _, _, _, _, _, _, _, _, _, _]) rfl ?_
  refine XW_if rfl (fun h2 => ?_) (fun h2 => ?_)
  · try simp only [decide_eq_true_eq, decide_eq_false_iff_not, Bool.not_eq_true', Bool.not_eq_false', Bool.and_eq_true, Bool.or_eq_true, Bool.not_eq_true, Bool.not_eq_false, Decidable.not_not, bne_iff_ne, beq_iff_eq, List.length_append, List.length_cons, List.length_nil, List.length_drop, List.length_take] at h2
    refine XW_sr ?_
    refine OW_fn rfl rfl (fixedW (by kernel_rfl) ?_) 
    refine OW_as rfl rfl ?_
    refine OW_nilE (e' := [_, _, _, _, _, _, _, _, _, _, _, _, _, _, _, _, _, _, _, _, _, _, _, _, _, _, _, _, _, _, _, _, _, _, _, _, _, _, _, _, _, _, _, _, _, _, _, _, _, _, _]) rfl ?_
    refine XW_ret ?_
    refine then_ret ?_
    -- outcome 1
    refine ret_ret (res1 rfl (rv_tmp rfl)) (frz1 (Q := Q) (by first | exact freeze_plain rfl | exact Ls.freeze (by assumption) | exact Ls.freeze Ls.of | exact Ls.freeze Ls.emp | exact Ls.freeze Ls.nls) ?_)
    first
    | exact hq
    | (refine qcast hq ?_; rfl)
    | (refine qcast hq ?_; simp; done)
    | (refine qcast hq ?_; simp; omega)
    | (refine qcast hq ?_; simp_all; done)
  · try simp only [decide_eq_true_eq, decide_eq_false_iff_not, Bool.not_eq_true', Bool.not_eq_false', Bool.and_eq_true, Bool.or_eq_true, Bool.not_eq_true, Bool.not_eq_false, Decidable.not_not, bne_iff_ne, beq_iff_eq, List.length_append, List.length_cons, List.length_nil, List.length_drop, List.length_take] at h2
    have hg := x.isd.inv.good (by omega)
    have key : ∀ (i k : Nat) (hi : i < x.ts.1.length) (hk : k < x.ts.1.length), decide (x.ts.1[i].tag = x.ts.1[k].tag) = decide (x.ts.1[i] = x.ts.1[k]) := fun i k hi hk => decide_eq_decide.2 ⟨fun e => by have h1 := x.isd.row _ (List.getElem_mem hi); have h2 := x.isd.row _ (List.getElem_mem hk); have h3 := hg.one h1 h2 e; simp only [Rw.mk.injEq] at h3; have h4 := tkB_inj (Us.fit4 hx _ (List.getElem_mem hi)) (Us.fit4 hx _ (List.getElem_mem hk)) h3.2.2.2.1; have f : ∀ a b : Tk, a.tn = b.tn ∧ a.vo = b.vo ∧ a.ep = b.ep ∧ a.ri = b.ri → a.tag = b.tag → a = b := (fun a b h h5 => by obtain ⟨a1, a2, a3, a4, a5⟩ := a; obtain ⟨b1, b2, b3, b4, b5⟩ := b; simp only at h h5; obtain ⟨rfl, rfl, rfl, rfl⟩ := h; rw [h5]); exact f _ _ h4 e, fun e => by rw [e]⟩
    refine XW_skip ?_
    refine then_norm ?_
    refine XW_seq ?_
    refine XW_sr ?_
    refine OW_as rfl rfl ?_
    refine OW_nilE (e' := [_, _, _, _, _, _, _, _, _, _, _, _, _, _, _, _, _, _, _, _, _, _, _, _, _, _, _, _, _, _, _, _, _, _, _, _, _, _, _, _, _, _, _, _, _, _, _, _, _, _, _]) rfl ?_
    refine XW_block ?_
    refine XW_whileN (I := fun ν' mm ee H' => ∃ (i : Nat), mm = x.ts.1.length - i ∧ under (1 :: 0 :: 1 :: 1 :: 1 :: []) ν' = true ∧ Own [] ν' H' ([sl O1 5 (x.ts.1.map Tk.enc), orc q1 x.ts.2.of, row (0 :: 0 :: []) 3 [x.enc]]) ∧ (i ≤ x.ts.1.length) ∧ ∃ g : Nat → AVal, ee = [g 0, .ptr (0 :: 0 :: []) 0 0, g 2, .ptr q1 0 0, O1, .int .i64 i, g 6, g 7, g 8, g 9, g 10, g 11, g 12, g 13, g 14, g 15, g 16, g 17, g 18, g 19, g 20, g 21, g 22, g 23, g 24, g 25, g 26, g 27, g 28, g 29, g 30, g 31, g 32, g 33, g 34, g 35, g 36, g 37, g 38, g 39, g 40, g 41, g 42, g 43, g 44, g 45, g 46, g 47, g 48, g 49, g 50]) ?_ _ _ _ _ ⟨0, rfl, under_me, Own.cast (Own.mono (hS3) (le_lit (ν := []) (a := [5, 0, 0, 1, 1]) (b := [1, 0, 1, 1, 1]) (by decide))) (rfl), (Nat.zero_le _), env_g rfl⟩
    rintro ν1 mm ee H4 ⟨i, rfl, hU1, hS4, hi, g1, rfl⟩
    refine XW_seq ?_
    refine XW_sr ?_
    refine OW_mv rfl rfl ?_
    refine OW_mv rfl rfl ?_
    refine OW_lenO hS4 (k := 0) rfl rfl rfl rfl rfl rfl (by first | exact List.length_map _ | exact len_app1 | exact len_drop | (simp only [List.length_append, List.length_map, List.length_singleton, List.length_cons, List.length_nil]; rfl) | rfl) ?_
    refine OW_env (e' := [_, _, _, _, _, _, _, _, _, _, _, _, _, _, _, _, _, _, _, _, _, _, _, _, _, _, _, _, _, _, _, _, _, _, _, _, _, _, _, _, _, _, _, _, _, _, _, _, _, _, _]) rfl ?_
    refine OW_bin rfl rfl rfl rfl rfl ?_
    refine OW_nilE (e' := [_, _, _, _, _, _, _, _, _, _, _, _, _, _, _, _, _, _, _, _, _, _, _, _, _, _, _, _, _, _, _, _, _, _, _, _, _, _, _, _, _, _, _, _, _, _, _, _, _, _, _]) rfl ?_
    refine XW_if rfl (fun h5 => ?_) (fun h5 => ?_)
    · try simp only [decide_eq_true_eq, decide_eq_false_iff_not, Bool.not_eq_true', Bool.not_eq_false', Bool.and_eq_true, Bool.or_eq_true, Bool.not_eq_true, Bool.not_eq_false, Decidable.not_not, bne_iff_ne, beq_iff_eq, List.length_append, List.length_cons, List.length_nil, List.length_drop, List.length_take] at h5
      refine XW_skip ?_
      refine then_norm ?_
      refine XW_seq ?_
      refine XW_block ?_
      refine XW_sr ?_
      refine OW_as rfl rfl ?_
      refine OW_nilE (e' := [_, _, _, _, _, _, _, _, _, _, _, _, _, _, _, _, _, _, _, _, _, _, _, _, _, _, _, _, _, _, _, _, _, _, _, _, _, _, _, _, _, _, _, _, _, _, _, _, _, _, _]) rfl ?_
      refine XW_block ?_
      refine XW_whileN (I := fun ν' mm ee H' => ∃ (k : Nat), mm = i - k ∧ under (1 :: 0 :: 1 :: 0 :: ν1) ν' = true ∧ Own [] ν' H' ([sl O1 5 (x.ts.1.map Tk.enc), orc q1 x.ts.2.of, row (0 :: 0 :: []) 3 [x.enc]]) ∧ (k ≤ i) ∧ ∃ g : Nat → AVal, ee = [g 0, .ptr (0 :: 0 :: []) 0 0, g 2, .ptr q1 0 0, O1, .int .i64 i, .int .i64 k, g 7, g 8, g 9, g 10, g 11, g 12, g 13, g 14, g 15, g 16, g 17, g 18, g 19, g 20, g 21, g 22, g 23, g 24, g 25, g 26, g 27, g 28, g 29, g 30, g 31, g 32, g 33, g 34, g 35, g 36, g 37, g 38, g 39, g 40, g 41, g 42, g 43, g 44, g 45, g 46, g 47, g 48, g 49, g 50]) ?_ _ _ _ _ ⟨0, rfl, under_me, Own.cast (Own.mono (hS4) (le_app (p := ν1) (b := [1, 0, 1, 0]))) (rfl), (Nat.zero_le _), env_g rfl⟩
      rintro ν2 mm ee H5 ⟨k, rfl, hU2, hS5, hk, g2, rfl⟩
      refine XW_seq ?_
      refine XW_sr ?_
      refine OW_mv rfl rfl ?_
      refine OW_mv rfl rfl ?_
      refine OW_bin rfl rfl rfl rfl rfl ?_
      refine OW_nilE (e' := [_, _, _, _, _, _, _, _, _, _, _, _, _, _, _, _, _, _, _, _, _, _, _, _, _, _, _, _, _, _, _, _, _, _, _, _, _, _, _, _, _, _, _, _, _, _, _, _, _, _, _]) rfl ?_
      refine XW_if rfl (fun h8 => ?_) (fun h8 => ?_)
      · try simp only [decide_eq_true_eq, decide_eq_false_iff_not, Bool.not_eq_true', Bool.not_eq_false', Bool.and_eq_true, Bool.or_eq_true, Bool.not_eq_true, Bool.not_eq_false, Decidable.not_not, bne_iff_ne, beq_iff_eq, List.length_append, List.length_cons, List.length_nil, List.length_drop, List.length_take] at h8
        refine XW_skip ?_
        refine then_norm ?_
        refine XW_seq ?_
        refine XW_block ?_
        refine XW_sr ?_
        refine OW_mv rfl rfl ?_
        refine OW_mv rfl rfl ?_
        refine OW_iaO hS5 (k := 0) rfl rfl rfl rfl rfl rfl rfl rfl (by first | rfl | exact (Int.toNat_of_nonneg (by omega)).symm) (by first | assumption | exact at_map (by first | assumption | omega) | exact at_lst (by omega) | rfl) fun q2 ys1 hO1 hq1 ht1 hy1 hu1 => ?_
        subst hO1
        refine OW_env (e' := [_, _, _, _, _, _, _, _, _, _, _, _, _, _, _, _, _, _, _, _, _, _, _, _, _, _, _, _, _, _, _, _, _, _, _, _, _, _, _, _, _, _, _, _, _, _, _, _, _, _, _]) rfl ?_
        refine OW_fa rfl rfl rfl ?_
        refine OW_loadP rfl rfl hq1 hy1 rfl (by first | exact part_whole rfl rfl rfl | rfl) ?_
        refine OW_mv rfl rfl ?_
        refine OW_env (e' := [_, _, _, _, _, _, _, _, _, _, _, _, _, _, _, _, _, _, _, _, _, _, _, _, _, _, _, _, _, _, _, _, _, _, _, _, _, _, _, _, _, _, _, _, _, _, _, _, _, _, _]) rfl ?_
        refine OW_mv rfl rfl ?_
        refine OW_iaO hS5 (k := 0) rfl rfl rfl rfl rfl rfl rfl rfl (by first | rfl | exact (Int.toNat_of_nonneg (by omega)).symm) (by first | assumption | exact at_map (by first | assumption | omega) | exact at_lst (by omega) | rfl) fun q3 ys2 hO2 hq2 ht2 hy2 hu2 => ?_
        obtain rfl : q2 = q3 := (AVal.slc.inj hO2).1
        refine OW_fa rfl rfl rfl ?_
        refine OW_env (e' := [_, _, _, _, _, _, _, _, _, _, _, _, _, _, _, _, _, _, _, _, _, _, _, _, _, _, _, _, _, _, _, _, _, _, _, _, _, _, _, _, _, _, _, _, _, _, _, _, _, _, _]) rfl ?_
        refine OW_loadP rfl rfl hq2 hy2 rfl (by first | exact part_whole rfl rfl rfl | rfl) ?_
        refine OW_bin rfl rfl rfl rfl rfl ?_
        refine OW_mv rfl rfl ?_
        refine OW_env (e' := [_, _, _, _, _, _, _, _, _, _, _, _, _, _, _, _, _, _, _, _, _, _, _, _, _, _, _, _, _, _, _, _, _, _, _, _, _, _, _, _, _, _, _, _, _, _, _, _, _, _, _]) rfl ?_
        refine OW_mv rfl rfl ?_
        refine OW_iaO hS5 (k := 0) rfl rfl rfl rfl rfl rfl rfl rfl (by first | rfl | exact (Int.toNat_of_nonneg (by omega)).symm) (by first | assumption | exact at_map (by first | assumption | omega) | exact at_lst (by omega) | rfl) fun q4 ys3 hO3 hq3 ht3 hy3 hu3 => ?_
        obtain rfl : q2 = q4 := (AVal.slc.inj hO3).1
        refine OW_loadP rfl rfl hq3 hy3 rfl (by first | exact part_whole rfl rfl rfl | rfl) ?_
        refine OW_env (e' := [_, _, _, _, _, _, _, _, _, _, _, _, _, _, _, _, _, _, _, _, _, _, _, _, _, _, _, _, _, _, _, _, _, _, _, _, _, _, _, _, _, _, _, _, _, _, _, _, _, _, _]) rfl ?_
        refine OW_mv rfl rfl ?_
        refine OW_mv rfl rfl ?_
        refine OW_iaO hS5 (k := 0) rfl rfl rfl rfl rfl rfl rfl rfl (by first | rfl | exact (Int.toNat_of_nonneg (by omega)).symm) (by first | assumption | exact at_map (by first | assumption | omega) | exact at_lst (by omega) | rfl) fun q5 ys4 hO4 hq4 ht4 hy4 hu4 => ?_
        obtain rfl : q2 = q5 := (AVal.slc.inj hO4).1
        refine OW_env (e' := [_, _, _, _, _, _, _, _, _, _, _, _, _, _, _, _, _, _, _, _, _, _, _, _, _, _, _, _, _, _, _, _, _, _, _, _, _, _, _, _, _, _, _, _, _, _, _, _, _, _, _]) rfl ?_
        refine OW_loadP rfl rfl hq4 hy4 rfl (by first | exact part_whole rfl rfl rfl | rfl) ?_
        refine OW_bin rfl rfl rfl rfl (eqTk _ _) ?_
        refine OW_bin rfl rfl rfl rfl (neB (key i k (by omega) (by omega))) ?_
        refine OW_nilE (e' := [_, _, _, _, _, _, _, _, _, _, _, _, _, _, _, _, _, _, _, _, _, _, _, _, _, _, _, _, _, _, _, _, _, _, _, _, _, _, _, _, _, _, _, _, _, _, _, _, _, _, _]) rfl ?_
        refine XW_no rfl rfl ?_
        refine XW_skip ?_
        refine block_norm ?_
        refine then_norm ?_
        refine XW_region ?_
        refine OW_mv rfl rfl ?_
        first
        | refine OW_bin rfl rfl rfl rfl (add_w64 (by first | omega | assumption | (simp only [ByteArray.size_append, ByteArray.size_extract, List.length_map, List.length_append, List.length_cons, List.length_nil, List.length_drop, List.length_take]; omega))) ?_
        | refine OW_bin rfl rfl rfl rfl rfl ?_
        refine OW_as rfl rfl ?_
        refine OW_nilE (e' := [_, _, _, _, _, _, _, _, _, _, _, _, _, _, _, _, _, _, _, _, _, _, _, _, _, _, _, _, _, _, _, _, _, _, _, _, _, _, _, _, _, _, _, _, _, _, _, _, _, _, _]) rfl ?_
        -- round 2.1
        refine ⟨_, ?_, k + 1, rfl, under_in hU2, Own.cast (Own.mono (hS5) (le_app (p := ν2) (b := [1]))) (rfl), ?_, env_g rfl⟩
        · first | omega | (simp; omega)
        · omega
      · try simp only [decide_eq_true_eq, decide_eq_false_iff_not, Bool.not_eq_true', Bool.not_eq_false', Bool.and_eq_true, Bool.or_eq_true, Bool.not_eq_true, Bool.not_eq_false, Decidable.not_not, bne_iff_ne, beq_iff_eq, List.length_append, List.length_cons, List.length_nil, List.length_drop, List.length_take] at h8
        refine XW_exit ?_
        refine then_exit ?_
        refine block_exit ?_
        refine block_norm ?_
        refine then_norm ?_
        refine XW_region ?_
        refine OW_mv rfl rfl ?_
        first
        | refine OW_bin rfl rfl rfl rfl (add_w64 (by first | omega | assumption | (simp only [ByteArray.size_append, ByteArray.size_extract, List.length_map, List.length_append, List.length_cons, List.length_nil, List.length_drop, List.length_take]; omega))) ?_
        | refine OW_bin rfl rfl rfl rfl rfl ?_
        refine OW_as rfl rfl ?_
        refine OW_nilE (e' := [_, _, _, _, _, _, _, _, _, _, _, _, _, _, _, _, _, _, _, _, _, _, _, _, _, _, _, _, _, _, _, _, _, _, _, _, _, _, _, _, _, _, _, _, _, _, _, _, _, _, _]) rfl ?_
        -- round 0.1
        refine ⟨_, ?_, i + 1, rfl, under_in hU1, Own.cast (Own.mono (hS5) (le_bef (bef_under (a := []) hU2 (before_lit (ν := ν1) (a := [1, 0, 1, 0]) (b := [1]) (by decide))))) (rfl), ?_, env_g rfl⟩
        · first | omega | (simp; omega)
        · omega
    · try simp only [decide_eq_true_eq, decide_eq_false_iff_not, Bool.not_eq_true', Bool.not_eq_false', Bool.and_eq_true, Bool.or_eq_true, Bool.not_eq_true, Bool.not_eq_false, Decidable.not_not, bne_iff_ne, beq_iff_eq, List.length_append, List.length_cons, List.length_nil, List.length_drop, List.length_take] at h5
      refine XW_exit ?_
      refine then_exit ?_
      refine block_exit ?_
      refine then_norm ?_
      refine XW_sr ?_
      refine OW_as rfl rfl ?_
      refine OW_nilE (e' := [_, _, _, _, _, _, _, _, _, _, _, _, _, _, _, _, _, _, _, _, _, _, _, _, _, _, _, _, _, _, _, _, _, _, _, _, _, _, _, _, _, _, _, _, _, _, _, _, _, _, _]) rfl ?_
      refine XW_ret ?_
      -- outcome 2
      refine ret_ret (res1 rfl (rv_tmp rfl)) (frz1 (Q := Q) (by first | exact freeze_plain rfl | exact Ls.freeze (by assumption) | exact Ls.freeze Ls.of | exact Ls.freeze Ls.emp | exact Ls.freeze Ls.nls) ?_)
      first
      | exact hq
      | (refine qcast hq ?_; rfl)
      | (refine qcast hq ?_; simp; done)
      | (refine qcast hq ?_; simp; omega)
      | (refine qcast hq ?_; simp_all; done)
structure Le where
  x : Us
  a : As
  ahead : Int
  less : Int
def Le.enc (y : Le) : AVal := .agg [.lst (y.x.d.map (fun a : Int => AVal.int .u64 a)), .int .u64 y.x.key, .lst (y.x.iss.map Tk.enc), .int .u64 y.a.t.tn, .int .u64 y.a.t.vo, .int .u64 y.a.t.ep, .int .u64 y.a.t.ri, .int .u64 y.a.t.tag, .int .u64 y.a.vol, .int .u64 y.a.ep, .int .u64 y.a.want, .int .u64 y.ahead, .int .u64 y.less]
def andB (w l : Int) : Int := IntKind.u64.wrap (((BitVec.ofInt 64 w &&& BitVec.ofInt 64 l).toNat : Nat) : Int)
theorem wrapN (b : BitVec 64) : IntKind.u64.wrap ((b.toNat : Nat) : Int) = (b.toNat : Int) := IntWalk.u64_in _ (by have := b.isLt; omega)
theorem andN_0 {w r : Int} : andN w r = 0 ↔ BitVec.ofInt 64 w &&& ~~~ BitVec.ofInt 64 r = 0#64 := by
  unfold andN
  rw [wrapN]
  constructor
  · intro h
    apply BitVec.eq_of_toNat_eq
    simpa using (by omega : (BitVec.ofInt 64 w &&& ~~~ BitVec.ofInt 64 r).toNat = 0)
  · intro h; rw [h]; rfl
theorem andN_and {w r l : Int} (h : andN w r = 0) : andN (andB w l) r = 0 := by
  rw [andN_0] at h ⊢
  have e : BitVec.ofInt 64 (andB w l) = BitVec.ofInt 64 w &&& BitVec.ofInt 64 l := by
    unfold andB
    rw [wrapN]
    have e2 : ∀ b : BitVec 64, BitVec.ofInt 64 ((b.toNat : Nat) : Int) = b := fun b => by rw [BitVec.ofInt_natCast, BitVec.ofNat_toNat, BitVec.setWidth_eq]
    exact e2 _
  rw [e]
  have : BitVec.ofInt 64 w &&& BitVec.ofInt 64 l &&& ~~~BitVec.ofInt 64 r = (BitVec.ofInt 64 w &&& ~~~BitVec.ofInt 64 r) &&& BitVec.ofInt 64 l := by
    apply BitVec.eq_of_getLsbD_eq
    intro i hi
    simp only [BitVec.getLsbD_and]
    cases (BitVec.ofInt 64 w).getLsbD i <;> cases (BitVec.ofInt 64 l).getLsbD i <;> simp
  rw [this, h]
  simp
theorem lawEpochs (y : Le) (hx : y.x.good) (ha : y.a.t.fit) (hq : Q (.bool true) H) : CW cfg [] 4 [y.enc] H Q := by
  have hr := y.x.rows
  have hver := y.x.isd.ver (Us.fit4 hx) (fit_4 ha)
  refine CW_pure g4 F4 rfl ?_
  have hS0 : Own [] [] (fun _ => none) [] := Own.nil
  refine XW_sr ?_
  refine OW_boxR hS0 (le_app (p := []) (b := [0, 0])) under_nil rfl rfl rfl ⟨rfl, rfl⟩ fun H1 hS1 => ?_
  replace hS1 : Own _ _ _ ([_]) := hS1
  refine OW_as rfl rfl ?_
  refine OW_nilE (e' := [_, _, _, _, _, _, _, _, _, _, _, _, _, _, _, _, _, _, _, _, _, _, _, _, _, _, _, _, _, _, _, _, _, _, _, _, _, _, _, _, _, _, _, _, _, _, _, _, _, _, _, _, _, _, _, _, _, _, _, _, _, _, _, _, _, _, _, _, _, _, _, _, _, _, _, _, _, _, _, _, _, _, _, _, _, _, _, _, _, _, _, _, _, _, _, _, _, _, _, _, _, _, _, _, _, _, _, _, _, _, _]) rfl ?_
  refine XW_srF (qs := [0 :: 0 :: []]) rfl rfl ?_
  have hSF1 : Own _ _ _ ([_]) := (Own.hide (Own.hide0 hS1) (k := 0) rfl)
  refine OWF_op rfl ?_
  refine OW_fa rfl rfl rfl ?_
  refine OW_nil ?_
  refine OWF_fl rfl ?_
  refine OW_loadK hS1 (k := 0) rfl (by simp) rfl rfl rfl rfl (by first | exact part_whole rfl rfl rfl | rfl) ?_
  refine OW_nil ?_
  refine OWF_op rfl ?_
  refine OW_fa rfl rfl rfl ?_
  refine OW_nil ?_
  refine OWF_env (e' := [_, _, _, _, _, _, _, _, _, _, _, _, _, _, _, _, _, _, _, _, _, _, _, _, _, _, _, _, _, _, _, _, _, _, _, _, _, _, _, _, _, _, _, _, _, _, _, _, _, _, _, _, _, _, _, _, _, _, _, _, _, _, _, _, _, _, _, _, _, _, _, _, _, _, _, _, _, _, _, _, _, _, _, _, _, _, _, _, _, _, _, _, _, _, _, _, _, _, _, _, _, _, _, _, _, _, _, _, _, _, _]) rfl ?_
  refine OWF_fl rfl ?_
  refine OW_loadK hS1 (k := 0) rfl (by simp) rfl rfl rfl rfl (by first | exact part_whole rfl rfl rfl | rfl) ?_
  refine OW_nil ?_
  refine OWF_op rfl ?_
  refine OW_fa rfl rfl rfl ?_
  refine OW_nil ?_
  refine OWF_fl rfl ?_
  refine OW_loadK hS1 (k := 0) rfl (by simp) rfl rfl rfl rfl (by first | exact part_whole rfl rfl rfl | rfl) ?_
  refine OW_nil ?_
  refine OWF_env (e' := [_, _, _, _, _, _, _, _, _, _, _, _, _, _, _, _, _, _, _, _, _, _, _, _, _, _, _, _, _, _, _, _, _, _, _, _, _, _, _, _, _, _, _, _, _, _, _, _, _, _, _, _, _, _, _, _, _, _, _, _, _, _, _, _, _, _, _, _, _, _, _, _, _, _, _, _, _, _, _, _, _, _, _, _, _, _, _, _, _, _, _, _, _, _, _, _, _, _, _, _, _, _, _, _, _, _, _, _, _, _, _]) rfl ?_
  refine OWF_op rfl ?_
  refine OW_fa rfl rfl rfl ?_
  refine OW_nil ?_
  refine OWF_fl rfl ?_
  refine OW_loadK hS1 (k := 0) rfl (by simp) rfl rfl rfl rfl (by first | exact part_whole rfl rfl rfl | rfl) ?_
  refine OW_nil ?_
  refine OWF_op rfl ?_
  refine OW_allocR hSF1 (le_lit (ν := []) (a := [1, 0]) (b := [8, 0, 1]) (by decide)) under_nil rfl rfl rfl rfl fun H2 hS2 => ?_
  replace hS2 : Own _ _ _ ([_, _]) := hS2
  refine OW_nil ?_
  refine OWF_env (e' := [_, _, _, _, _, _, _, _, _, _, _, _, _, _, _, _, _, _, _, _, _, _, _, _, _, _, _, _, _, _, _, _, _, _, _, _, _, _, _, _, _, _, _, _, _, _, _, _, _, _, _, _, _, _, _, _, _, _, _, _, _, _, _, _, _, _, _, _, _, _, _, _, _, _, _, _, _, _, _, _, _, _, _, _, _, _, _, _, _, _, _, _, _, _, _, _, _, _, _, _, _, _, _, _, _, _, _, _, _, _, _]) rfl ?_
  refine OWF_op rfl ?_
  refine OW_allocR hS2 le_refl under_nil rfl rfl rfl rfl fun H3 hS3 => ?_
  replace hS3 : Own _ _ _ ([_, _, _]) := hS3
  refine OW_nil ?_
  refine OWF_op rfl ?_
  first
  | refine OW_storeR hS3 (k := 1) rfl le_refl rfl rfl rfl rfl ⟨rfl, rfl, Nat.le_of_ble_eq_true rfl⟩ (set_whole rfl rfl) fun H4 hS4 => ?_
  | refine OW_storeR hS3 (k := 1) rfl le_refl rfl rfl rfl rfl ⟨rfl, rfl, Nat.le_of_ble_eq_true rfl⟩ (u2 := .agg [_, _, _]) rfl fun H4 hS4 => ?_
  replace hS4 : Own _ _ _ ([_, _, _]) := hS4
  refine OW_nil ?_
  refine OWF_op rfl ?_
  first
  | refine OW_storeR hS4 (k := 0) rfl le_refl rfl rfl rfl rfl ⟨rfl, rfl, Nat.le_of_ble_eq_true rfl⟩ (set_whole rfl rfl) fun H5 hS5 => ?_
  | refine OW_storeR hS4 (k := 0) rfl le_refl rfl rfl rfl rfl ⟨rfl, rfl, Nat.le_of_ble_eq_true rfl⟩ (u2 := .agg [_, _, _, _, _, _, _, _]) rfl fun H5 hS5 => ?_
  replace hS5 : Own _ _ _ ([_, _, _]) := hS5
  refine OW_nil ?_
  refine OWF_env (e' := [_, _, _, _, _, _, _, _, _, _, _, _, _, _, _, _, _, _, _, _, _, _, _, _, _, _, _, _, _, _, _, _, _, _, _, _, _, _, _, _, _, _, _, _, _, _, _, _, _, _, _, _, _, _, _, _, _, _, _, _, _, _, _, _, _, _, _, _, _, _, _, _, _, _, _, _, _, _, _, _, _, _, _, _, _, _, _, _, _, _, _, _, _, _, _, _, _, _, _, _, _, _, _, _, _, _, _, _, _, _, _]) rfl ?_
  refine OWF_op rfl ?_
  refine OW_as rfl rfl ?_
  refine OW_nil ?_
  refine OWF_op rfl ?_
  refine OW_as rfl rfl ?_
  refine OW_nil ?_
  refine OWF_nilE (e' := [_, _, _, _, _, _, _, _, _, _, _, _, _, _, _, _, _, _, _, _, _, _, _, _, _, _, _, _, _, _, _, _, _, _, _, _, _, _, _, _, _, _, _, _, _, _, _, _, _, _, _, _, _, _, _, _, _, _, _, _, _, _, _, _, _, _, _, _, _, _, _, _, _, _, _, _, _, _, _, _, _, _, _, _, _, _, _, _, _, _, _, _, _, _, _, _, _, _, _, _, _, _, _, _, _, _, _, _, _, _, _]) rfl ?_
  have hSB1 : Own _ _ _ ([_, _, _]) := (Own.back hS1 (k := 0) rfl (Own.back0 hS5) (k' := 2) rfl)
  refine XW_sr ?_
  refine OW_loadR hSB1 (k := 1) rfl rfl rfl rfl rfl (by first | exact part_whole rfl rfl rfl | rfl) ?_
  refine OW_fn rfl rfl (issuedW y.x hx hSB1 (le_lit (ν := []) (a := [12, 0, 1]) (b := [1, 0, 1, 1]) (by decide)) under_nil (before_lit (ν := []) (a := [1, 0, 1, 1]) (b := [2, 0, 1, 1]) (by decide)) fun q1 O1 H6 hS6 => ?_) 
  replace hS6 : Own _ _ _ ([_, _, _, _, _]) := hS6
  refine OW_mv rfl rfl ?_
  refine OW_env (e' := [_, _, _, _, _, _, _, _, _, _, _, _, _, _, _, _, _, _, _, _, _, _, _, _, _, _, _, _, _, _, _, _, _, _, _, _, _, _, _, _, _, _, _, _, _, _, _, _, _, _, _, _, _, _, _, _, _, _, _, _, _, _, _, _, _, _, _, _, _, _, _, _, _, _, _, _, _, _, _, _, _, _, _, _, _, _, _, _, _, _, _, _, _, _, _, _, _, _, _, _, _, _, _, _, _, _, _, _, _, _, _]) rfl ?_
  refine OW_ex rfl rfl rfl ?_
  refine OW_ex rfl rfl rfl ?_
  refine OW_as rfl rfl ?_
  refine OW_env (e' := [_, _, _, _, _, _, _, _, _, _, _, _, _, _, _, _, _, _, _, _, _, _, _, _, _, _, _, _, _, _, _, _, _, _, _, _, _, _, _, _, _, _, _, _, _, _, _, _, _, _, _, _, _, _, _, _, _, _, _, _, _, _, _, _, _, _, _, _, _, _, _, _, _, _, _, _, _, _, _, _, _, _, _, _, _, _, _, _, _, _, _, _, _, _, _, _, _, _, _, _, _, _, _, _, _, _, _, _, _, _, _]) rfl ?_
  refine OW_as rfl rfl ?_
  refine OW_nilE (e' := [_, _, _, _, _, _, _, _, _, _, _, _, _, _, _, _, _, _, _, _, _, _, _, _, _, _, _, _, _, _, _, _, _, _, _, _, _, _, _, _, _, _, _, _, _, _, _, _, _, _, _, _, _, _, _, _, _, _, _, _, _, _, _, _, _, _, _, _, _, _, _, _, _, _, _, _, _, _, _, _, _, _, _, _, _, _, _, _, _, _, _, _, _, _, _, _, _, _, _, _, _, _, _, _, _, _, _, _, _, _, _]) rfl ?_
  refine XW_sr ?_
  refine OW_mv rfl rfl ?_
  refine OW_fa rfl rfl rfl ?_
  refine OW_loadR hS6 (k := 3) rfl rfl rfl rfl rfl (by first | exact part_whole rfl rfl rfl | rfl) ?_
  refine OW_env (e' := [_, _, _, _, _, _, _, _, _, _, _, _, _, _, _, _, _, _, _, _, _, _, _, _, _, _, _, _, _, _, _, _, _, _, _, _, _, _, _, _, _, _, _, _, _, _, _, _, _, _, _, _, _, _, _, _, _, _, _, _, _, _, _, _, _, _, _, _, _, _, _, _, _, _, _, _, _, _, _, _, _, _, _, _, _, _, _, _, _, _, _, _, _, _, _, _, _, _, _, _, _, _, _, _, _, _, _, _, _, _, _]) rfl ?_
  refine OW_fa rfl rfl rfl ?_
  refine OW_loadR hS6 (k := 2) rfl rfl rfl rfl rfl (by first | exact part_whole rfl rfl rfl | rfl) ?_
  refine OW_fa rfl rfl rfl ?_
  refine OW_env (e' := [_, _, _, _, _, _, _, _, _, _, _, _, _, _, _, _, _, _, _, _, _, _, _, _, _, _, _, _, _, _, _, _, _, _, _, _, _, _, _, _, _, _, _, _, _, _, _, _, _, _, _, _, _, _, _, _, _, _, _, _, _, _, _, _, _, _, _, _, _, _, _, _, _, _, _, _, _, _, _, _, _, _, _, _, _, _, _, _, _, _, _, _, _, _, _, _, _, _, _, _, _, _, _, _, _, _, _, _, _, _, _]) rfl ?_
  refine OW_loadR hS6 (k := 2) rfl rfl rfl rfl rfl (by first | exact part_whole rfl rfl rfl | rfl) ?_
  refine OW_fa rfl rfl rfl ?_
  refine OW_loadR hS6 (k := 2) rfl rfl rfl rfl rfl (by first | exact part_whole rfl rfl rfl | rfl) ?_
  refine OW_env (e' := [_, _, _, _, _, _, _, _, _, _, _, _, _, _, _, _, _, _, _, _, _, _, _, _, _, _, _, _, _, _, _, _, _, _, _, _, _, _, _, _, _, _, _, _, _, _, _, _, _, _, _, _, _, _, _, _, _, _, _, _, _, _, _, _, _, _, _, _, _, _, _, _, _, _, _, _, _, _, _, _, _, _, _, _, _, _, _, _, _, _, _, _, _, _, _, _, _, _, _, _, _, _, _, _, _, _, _, _, _, _, _]) rfl ?_
  refine OW_fa rfl rfl rfl ?_
  refine OW_loadR hS6 (k := 2) rfl rfl rfl rfl rfl (by first | exact part_whole rfl rfl rfl | rfl) ?_
  refine OW_fn rfl rfl (checkP hS6 (k := 1) rfl (le_lit (ν := []) (a := [2, 0, 1, 1]) (b := [11, 0, 1, 1, 1]) (by decide)) under_nil (before_lit (ν := []) (a := [11, 0, 1, 1, 1]) (b := [12, 0, 1, 1, 1]) (by decide)) _ _ ha _ _ _ fun H7 T1 c1 e1 r1 z1 hS7 => ?_) 
  replace hS7 : Own _ _ _ ([_, _, _, _, _]) := hS7
  refine OW_env (e' := [_, _, _, _, _, _, _, _, _, _, _, _, _, _, _, _, _, _, _, _, _, _, _, _, _, _, _, _, _, _, _, _, _, _, _, _, _, _, _, _, _, _, _, _, _, _, _, _, _, _, _, _, _, _, _, _, _, _, _, _, _, _, _, _, _, _, _, _, _, _, _, _, _, _, _, _, _, _, _, _, _, _, _, _, _, _, _, _, _, _, _, _, _, _, _, _, _, _, _, _, _, _, _, _, _, _, _, _, _, _, _]) rfl ?_
  refine OW_as rfl rfl ?_
  refine OW_nilE (e' := [_, _, _, _, _, _, _, _, _, _, _, _, _, _, _, _, _, _, _, _, _, _, _, _, _, _, _, _, _, _, _, _, _, _, _, _, _, _, _, _, _, _, _, _, _, _, _, _, _, _, _, _, _, _, _, _, _, _, _, _, _, _, _, _, _, _, _, _, _, _, _, _, _, _, _, _, _, _, _, _, _, _, _, _, _, _, _, _, _, _, _, _, _, _, _, _, _, _, _, _, _, _, _, _, _, _, _, _, _, _, _]) rfl ?_
  refine XW_seq ?_
  refine XW_sr ?_
  refine OW_fn rfl rfl (fixedW (by kernel_rfl) ?_) 
  refine OW_un rfl rfl rfl ?_
  refine OW_mv rfl rfl ?_
  refine OW_env (e' := [_, _, _, _, _, _, _, _, _, _, _, _, _, _, _, _, _, _, _, _, _, _, _, _, _, _, _, _, _, _, _, _, _, _, _, _, _, _, _, _, _, _, _, _, _, _, _, _, _, _, _, _, _, _, _, _, _, _, _, _, _, _, _, _, _, _, _, _, _, _, _, _, _, _, _, _, _, _, _, _, _, _, _, _, _, _, _, _, _, _, _, _, _, _, _, _, _, _, _, _, _, _, _, _, _, _, _, _, _, _, _]) rfl ?_
  refine OW_mv rfl rfl ?_
  refine OW_bin rfl rfl rfl rfl rfl ?_
  refine OW_pick rfl rfl rfl ?_
  refine OW_nilE (e' := [_, _, _, _, _, _, _, _, _, _, _, _, _, _, _, _, _, _, _, _, _, _, _, _, _, _, _, _, _, _, _, _, _, _, _, _, _, _, _, _, _, _, _, _, _, _, _, _, _, _, _, _, _, _, _, _, _, _, _, _, _, _, _, _, _, _, _, _, _, _, _, _, _, _, _, _, _, _, _, _, _, _, _, _, _, _, _, _, _, _, _, _, _, _, _, _, _, _, _, _, _, _, _, _, _, _, _, _, _, _, _]) rfl ?_
  refine XW_if rfl (fun h4 => ?_) (fun h4 => ?_)
  · try simp only [decide_eq_true_eq, decide_eq_false_iff_not, Bool.not_eq_true', Bool.not_eq_false', Bool.and_eq_true, Bool.or_eq_true, Bool.not_eq_true, Bool.not_eq_false, Decidable.not_not, bne_iff_ne, beq_iff_eq, List.length_append, List.length_cons, List.length_nil, List.length_drop, List.length_take] at h4
    refine XW_sr ?_
    refine OW_fn rfl rfl (fixedW (by kernel_rfl) ?_) 
    refine OW_as rfl rfl ?_
    refine OW_nilE (e' := [_, _, _, _, _, _, _, _, _, _, _, _, _, _, _, _, _, _, _, _, _, _, _, _, _, _, _, _, _, _, _, _, _, _, _, _, _, _, _, _, _, _, _, _, _, _, _, _, _, _, _, _, _, _, _, _, _, _, _, _, _, _, _, _, _, _, _, _, _, _, _, _, _, _, _, _, _, _, _, _, _, _, _, _, _, _, _, _, _, _, _, _, _, _, _, _, _, _, _, _, _, _, _, _, _, _, _, _, _, _, _]) rfl ?_
    refine XW_ret ?_
    refine then_ret ?_
    -- outcome 1
    refine ret_ret (res1 rfl (rv_tmp rfl)) (frz1 (Q := Q) (by first | exact freeze_plain rfl | exact Ls.freeze (by assumption) | exact Ls.freeze Ls.of | exact Ls.freeze Ls.emp | exact Ls.freeze Ls.nls) ?_)
    first
    | ((refine qcast hq ?_; simp; omega))
    | exact hq
    | (refine qcast hq ?_; rfl)
    | (refine qcast hq ?_; simp; done)
    | (refine qcast hq ?_; simp; omega)
    | (refine qcast hq ?_; simp_all; done)
  · try simp only [decide_eq_true_eq, decide_eq_false_iff_not, Bool.not_eq_true', Bool.not_eq_false', Bool.and_eq_true, Bool.or_eq_true, Bool.not_eq_true, Bool.not_eq_false, Decidable.not_not, bne_iff_ne, beq_iff_eq, List.length_append, List.length_cons, List.length_nil, List.length_drop, List.length_take] at h4
    have hc : Rf.ans (y.x.ts.2.verify y.x.key (tkB y.a.t) y.a.t.tag).1 y.a.t y.a.vol y.a.ep y.a.want = 0 := by have := (Prod.mk.inj e1).1; rw [this]; simpa using h4
    have hb : (y.x.ts.2.verify y.x.key (tkB y.a.t) y.a.t.tag).1 = true := by cases hb : (y.x.ts.2.verify y.x.key (tkB y.a.t) y.a.t.tag).1 with | true => rfl | false => rw [hb] at hc; simp [Rf.ans] at hc
    have hm : y.a.t ∈ y.x.ts.1 := by rw [hver.1] at hb; simpa using hb
    have hck : ∀ vol ep want, y.x.ts.2.check y.x.key y.a.t vol ep want = (Rf.ans true y.a.t vol ep want, y.x.ts.2) := fun vol ep want => by unfold Rf.check; rw [hb, hver.2 hm]
    obtain ⟨rfl, rfl⟩ := Prod.mk.inj ((hck _ _ _).symm.trans e1)
    rw [hb] at hc
    have hf : y.a.t.vo = y.a.vol ∧ ¬ y.a.t.ep < y.a.ep ∧ andN y.a.want y.a.t.ri = 0 := by unfold Rf.ans at hc; rw [if_neg (by decide)] at hc; split at hc; (cases hc); split at hc; (cases hc); split at hc; (cases hc); refine ⟨by simp_all, by assumption, by simp_all⟩
    obtain ⟨f1, f2, f3⟩ := hf
    refine XW_skip ?_
    refine then_norm ?_
    refine XW_sr ?_
    refine OW_mv rfl rfl ?_
    refine OW_fa rfl rfl rfl ?_
    refine OW_loadR hS7 (k := 3) rfl rfl rfl rfl rfl (by first | exact part_whole rfl rfl rfl | rfl) ?_
    refine OW_env (e' := [_, _, _, _, _, _, _, _, _, _, _, _, _, _, _, _, _, _, _, _, _, _, _, _, _, _, _, _, _, _, _, _, _, _, _, _, _, _, _, _, _, _, _, _, _, _, _, _, _, _, _, _, _, _, _, _, _, _, _, _, _, _, _, _, _, _, _, _, _, _, _, _, _, _, _, _, _, _, _, _, _, _, _, _, _, _, _, _, _, _, _, _, _, _, _, _, _, _, _, _, _, _, _, _, _, _, _, _, _, _, _]) rfl ?_
    refine OW_fa rfl rfl rfl ?_
    refine OW_loadR hS7 (k := 2) rfl rfl rfl rfl rfl (by first | exact part_whole rfl rfl rfl | rfl) ?_
    refine OW_fa rfl rfl rfl ?_
    refine OW_env (e' := [_, _, _, _, _, _, _, _, _, _, _, _, _, _, _, _, _, _, _, _, _, _, _, _, _, _, _, _, _, _, _, _, _, _, _, _, _, _, _, _, _, _, _, _, _, _, _, _, _, _, _, _, _, _, _, _, _, _, _, _, _, _, _, _, _, _, _, _, _, _, _, _, _, _, _, _, _, _, _, _, _, _, _, _, _, _, _, _, _, _, _, _, _, _, _, _, _, _, _, _, _, _, _, _, _, _, _, _, _, _, _]) rfl ?_
    refine OW_loadR hS7 (k := 2) rfl rfl rfl rfl rfl (by first | exact part_whole rfl rfl rfl | rfl) ?_
    refine OW_mv rfl rfl ?_
    refine OW_fa rfl rfl rfl ?_
    refine OW_env (e' := [_, _, _, _, _, _, _, _, _, _, _, _, _, _, _, _, _, _, _, _, _, _, _, _, _, _, _, _, _, _, _, _, _, _, _, _, _, _, _, _, _, _, _, _, _, _, _, _, _, _, _, _, _, _, _, _, _, _, _, _, _, _, _, _, _, _, _, _, _, _, _, _, _, _, _, _, _, _, _, _, _, _, _, _, _, _, _, _, _, _, _, _, _, _, _, _, _, _, _, _, _, _, _, _, _, _, _, _, _, _, _]) rfl ?_
    refine OW_loadR hS7 (k := 2) rfl rfl rfl rfl rfl (by first | exact part_whole rfl rfl rfl | rfl) ?_
    refine OW_bi rfl rfl mnu64 ?_
    refine OW_fa rfl rfl rfl ?_
    refine OW_env (e' := [_, _, _, _, _, _, _, _, _, _, _, _, _, _, _, _, _, _, _, _, _, _, _, _, _, _, _, _, _, _, _, _, _, _, _, _, _, _, _, _, _, _, _, _, _, _, _, _, _, _, _, _, _, _, _, _, _, _, _, _, _, _, _, _, _, _, _, _, _, _, _, _, _, _, _, _, _, _, _, _, _, _, _, _, _, _, _, _, _, _, _, _, _, _, _, _, _, _, _, _, _, _, _, _, _, _, _, _, _, _, _]) rfl ?_
    refine OW_loadR hS7 (k := 2) rfl rfl rfl rfl rfl (by first | exact part_whole rfl rfl rfl | rfl) ?_
    refine OW_mv rfl rfl ?_
    refine OW_bin rfl rfl rfl rfl rfl ?_
    refine OW_env (e' := [_, _, _, _, _, _, _, _, _, _, _, _, _, _, _, _, _, _, _, _, _, _, _, _, _, _, _, _, _, _, _, _, _, _, _, _, _, _, _, _, _, _, _, _, _, _, _, _, _, _, _, _, _, _, _, _, _, _, _, _, _, _, _, _, _, _, _, _, _, _, _, _, _, _, _, _, _, _, _, _, _, _, _, _, _, _, _, _, _, _, _, _, _, _, _, _, _, _, _, _, _, _, _, _, _, _, _, _, _, _, _]) rfl ?_
    refine OW_fn rfl rfl (checkP hS7 (k := 1) rfl (le_lit (ν := []) (a := [12, 0, 1, 1, 1]) (b := [15, 0, 1, 1, 1, 1, 1]) (by decide)) under_nil (before_lit (ν := []) (a := [15, 0, 1, 1, 1, 1, 1]) (b := [16, 0, 1, 1, 1, 1, 1]) (by decide)) _ _ ha _ _ _ fun H8 T2 c2 e2 r2 z2 hS8 => ?_) 
    replace hS8 : Own _ _ _ ([_, _, _, _, _]) := hS8
    obtain ⟨rfl, rfl⟩ := Prod.mk.inj ((hck _ _ _).symm.trans e2)
    refine OW_as rfl rfl ?_
    refine OW_nilE (e' := [_, _, _, _, _, _, _, _, _, _, _, _, _, _, _, _, _, _, _, _, _, _, _, _, _, _, _, _, _, _, _, _, _, _, _, _, _, _, _, _, _, _, _, _, _, _, _, _, _, _, _, _, _, _, _, _, _, _, _, _, _, _, _, _, _, _, _, _, _, _, _, _, _, _, _, _, _, _, _, _, _, _, _, _, _, _, _, _, _, _, _, _, _, _, _, _, _, _, _, _, _, _, _, _, _, _, _, _, _, _, _]) rfl ?_
    refine XW_sr ?_
    refine OW_as rfl rfl ?_
    refine OW_nilE (e' := [_, _, _, _, _, _, _, _, _, _, _, _, _, _, _, _, _, _, _, _, _, _, _, _, _, _, _, _, _, _, _, _, _, _, _, _, _, _, _, _, _, _, _, _, _, _, _, _, _, _, _, _, _, _, _, _, _, _, _, _, _, _, _, _, _, _, _, _, _, _, _, _, _, _, _, _, _, _, _, _, _, _, _, _, _, _, _, _, _, _, _, _, _, _, _, _, _, _, _, _, _, _, _, _, _, _, _, _, _, _, _]) rfl ?_
    refine XW_seq ?_
    refine XW_sr ?_
    refine OW_fa rfl rfl rfl ?_
    refine OW_fa rfl rfl rfl ?_
    refine OW_loadR hS8 (k := 2) rfl rfl rfl rfl rfl (by first | exact part_whole rfl rfl rfl | rfl) ?_
    refine OW_env (e' := [_, _, _, _, _, _, _, _, _, _, _, _, _, _, _, _, _, _, _, _, _, _, _, _, _, _, _, _, _, _, _, _, _, _, _, _, _, _, _, _, _, _, _, _, _, _, _, _, _, _, _, _, _, _, _, _, _, _, _, _, _, _, _, _, _, _, _, _, _, _, _, _, _, _, _, _, _, _, _, _, _, _, _, _, _, _, _, _, _, _, _, _, _, _, _, _, _, _, _, _, _, _, _, _, _, _, _, _, _, _, _]) rfl ?_
    first
    | refine OW_bin rfl rfl rfl rfl (add_wu64 (by first | omega | assumption | (simp only [ByteArray.size_append, ByteArray.size_extract, List.length_map, List.length_append, List.length_cons, List.length_nil, List.length_drop, List.length_take]; omega))) ?_
    | refine OW_bin rfl rfl rfl rfl rfl ?_
    refine OW_bin rfl rfl rfl rfl rfl ?_
    refine OW_nilE (e' := [_, _, _, _, _, _, _, _, _, _, _, _, _, _, _, _, _, _, _, _, _, _, _, _, _, _, _, _, _, _, _, _, _, _, _, _, _, _, _, _, _, _, _, _, _, _, _, _, _, _, _, _, _, _, _, _, _, _, _, _, _, _, _, _, _, _, _, _, _, _, _, _, _, _, _, _, _, _, _, _, _, _, _, _, _, _, _, _, _, _, _, _, _, _, _, _, _, _, _, _, _, _, _, _, _, _, _, _, _, _, _]) rfl ?_
    refine XW_if rfl (fun h8 => ?_) (fun h8 => ?_)
    · try simp only [decide_eq_true_eq, decide_eq_false_iff_not, Bool.not_eq_true', Bool.not_eq_false', Bool.and_eq_true, Bool.or_eq_true, Bool.not_eq_true, Bool.not_eq_false, Decidable.not_not, bne_iff_ne, beq_iff_eq, List.length_append, List.length_cons, List.length_nil, List.length_drop, List.length_take] at h8
      refine XW_region ?_
      refine OW_mv rfl rfl ?_
      refine OW_fa rfl rfl rfl ?_
      refine OW_loadR hS8 (k := 3) rfl rfl rfl rfl rfl (by first | exact part_whole rfl rfl rfl | rfl) ?_
      refine OW_env (e' := [_, _, _, _, _, _, _, _, _, _, _, _, _, _, _, _, _, _, _, _, _, _, _, _, _, _, _, _, _, _, _, _, _, _, _, _, _, _, _, _, _, _, _, _, _, _, _, _, _, _, _, _, _, _, _, _, _, _, _, _, _, _, _, _, _, _, _, _, _, _, _, _, _, _, _, _, _, _, _, _, _, _, _, _, _, _, _, _, _, _, _, _, _, _, _, _, _, _, _, _, _, _, _, _, _, _, _, _, _, _, _]) rfl ?_
      refine OW_fa rfl rfl rfl ?_
      refine OW_loadR hS8 (k := 2) rfl rfl rfl rfl rfl (by first | exact part_whole rfl rfl rfl | rfl) ?_
      refine OW_fa rfl rfl rfl ?_
      refine OW_env (e' := [_, _, _, _, _, _, _, _, _, _, _, _, _, _, _, _, _, _, _, _, _, _, _, _, _, _, _, _, _, _, _, _, _, _, _, _, _, _, _, _, _, _, _, _, _, _, _, _, _, _, _, _, _, _, _, _, _, _, _, _, _, _, _, _, _, _, _, _, _, _, _, _, _, _, _, _, _, _, _, _, _, _, _, _, _, _, _, _, _, _, _, _, _, _, _, _, _, _, _, _, _, _, _, _, _, _, _, _, _, _, _]) rfl ?_
      refine OW_loadR hS8 (k := 2) rfl rfl rfl rfl rfl (by first | exact part_whole rfl rfl rfl | rfl) ?_
      refine OW_fa rfl rfl rfl ?_
      refine OW_fa rfl rfl rfl ?_
      refine OW_env (e' := [_, _, _, _, _, _, _, _, _, _, _, _, _, _, _, _, _, _, _, _, _, _, _, _, _, _, _, _, _, _, _, _, _, _, _, _, _, _, _, _, _, _, _, _, _, _, _, _, _, _, _, _, _, _, _, _, _, _, _, _, _, _, _, _, _, _, _, _, _, _, _, _, _, _, _, _, _, _, _, _, _, _, _, _, _, _, _, _, _, _, _, _, _, _, _, _, _, _, _, _, _, _, _, _, _, _, _, _, _, _, _]) rfl ?_
      refine OW_loadR hS8 (k := 2) rfl rfl rfl rfl rfl (by first | exact part_whole rfl rfl rfl | rfl) ?_
      first
      | refine OW_bin rfl rfl rfl rfl (add_wu64 (by first | omega | assumption | (simp only [ByteArray.size_append, ByteArray.size_extract, List.length_map, List.length_append, List.length_cons, List.length_nil, List.length_drop, List.length_take]; omega))) ?_
      | refine OW_bin rfl rfl rfl rfl rfl ?_
      refine OW_fa rfl rfl rfl ?_
      refine OW_env (e' := [_, _, _, _, _, _, _, _, _, _, _, _, _, _, _, _, _, _, _, _, _, _, _, _, _, _, _, _, _, _, _, _, _, _, _, _, _, _, _, _, _, _, _, _, _, _, _, _, _, _, _, _, _, _, _, _, _, _, _, _, _, _, _, _, _, _, _, _, _, _, _, _, _, _, _, _, _, _, _, _, _, _, _, _, _, _, _, _, _, _, _, _, _, _, _, _, _, _, _, _, _, _, _, _, _, _, _, _, _, _, _]) rfl ?_
      refine OW_loadR hS8 (k := 2) rfl rfl rfl rfl rfl (by first | exact part_whole rfl rfl rfl | rfl) ?_
      refine OW_fn rfl rfl (checkP hS8 (k := 1) rfl (le_lit (ν := []) (a := [16, 0, 1, 1, 1, 1, 1]) (b := [13, 1, 0, 1, 1, 1, 1, 1, 1, 1]) (by decide)) under_nil (before_lit (ν := []) (a := [13, 1, 0, 1, 1, 1, 1, 1, 1, 1]) (b := [14, 1, 0, 1, 1, 1, 1, 1, 1, 1]) (by decide)) _ _ ha _ _ _ fun H9 T3 c3 e3 r3 z3 hS9 => ?_) 
      replace hS9 : Own _ _ _ ([_, _, _, _, _]) := hS9
      obtain ⟨rfl, rfl⟩ := Prod.mk.inj ((hck _ _ _).symm.trans e3)
      refine OW_as rfl rfl ?_
      refine OW_nilE (e' := [_, _, _, _, _, _, _, _, _, _, _, _, _, _, _, _, _, _, _, _, _, _, _, _, _, _, _, _, _, _, _, _, _, _, _, _, _, _, _, _, _, _, _, _, _, _, _, _, _, _, _, _, _, _, _, _, _, _, _, _, _, _, _, _, _, _, _, _, _, _, _, _, _, _, _, _, _, _, _, _, _, _, _, _, _, _, _, _, _, _, _, _, _, _, _, _, _, _, _, _, _, _, _, _, _, _, _, _, _, _, _]) rfl ?_
      refine then_norm ?_
      refine XW_sr ?_
      refine OW_mv rfl rfl ?_
      refine OW_fa rfl rfl rfl ?_
      refine OW_loadR hS9 (k := 3) rfl rfl rfl rfl rfl (by first | exact part_whole rfl rfl rfl | rfl) ?_
      refine OW_env (e' := [_, _, _, _, _, _, _, _, _, _, _, _, _, _, _, _, _, _, _, _, _, _, _, _, _, _, _, _, _, _, _, _, _, _, _, _, _, _, _, _, _, _, _, _, _, _, _, _, _, _, _, _, _, _, _, _, _, _, _, _, _, _, _, _, _, _, _, _, _, _, _, _, _, _, _, _, _, _, _, _, _, _, _, _, _, _, _, _, _, _, _, _, _, _, _, _, _, _, _, _, _, _, _, _, _, _, _, _, _, _, _]) rfl ?_
      refine OW_fa rfl rfl rfl ?_
      refine OW_loadR hS9 (k := 2) rfl rfl rfl rfl rfl (by first | exact part_whole rfl rfl rfl | rfl) ?_
      refine OW_fa rfl rfl rfl ?_
      refine OW_env (e' := [_, _, _, _, _, _, _, _, _, _, _, _, _, _, _, _, _, _, _, _, _, _, _, _, _, _, _, _, _, _, _, _, _, _, _, _, _, _, _, _, _, _, _, _, _, _, _, _, _, _, _, _, _, _, _, _, _, _, _, _, _, _, _, _, _, _, _, _, _, _, _, _, _, _, _, _, _, _, _, _, _, _, _, _, _, _, _, _, _, _, _, _, _, _, _, _, _, _, _, _, _, _, _, _, _, _, _, _, _, _, _]) rfl ?_
      refine OW_loadR hS9 (k := 2) rfl rfl rfl rfl rfl (by first | exact part_whole rfl rfl rfl | rfl) ?_
      first
      | refine OW_bin rfl rfl rfl rfl (add_wu64 (by first | omega | assumption | (simp only [ByteArray.size_append, ByteArray.size_extract, List.length_map, List.length_append, List.length_cons, List.length_nil, List.length_drop, List.length_take]; omega))) ?_
      | refine OW_bin rfl rfl rfl rfl rfl ?_
      refine OW_fa rfl rfl rfl ?_
      refine OW_env (e' := [_, _, _, _, _, _, _, _, _, _, _, _, _, _, _, _, _, _, _, _, _, _, _, _, _, _, _, _, _, _, _, _, _, _, _, _, _, _, _, _, _, _, _, _, _, _, _, _, _, _, _, _, _, _, _, _, _, _, _, _, _, _, _, _, _, _, _, _, _, _, _, _, _, _, _, _, _, _, _, _, _, _, _, _, _, _, _, _, _, _, _, _, _, _, _, _, _, _, _, _, _, _, _, _, _, _, _, _, _, _, _]) rfl ?_
      refine OW_loadR hS9 (k := 2) rfl rfl rfl rfl rfl (by first | exact part_whole rfl rfl rfl | rfl) ?_
      refine OW_fa rfl rfl rfl ?_
      refine OW_loadR hS9 (k := 2) rfl rfl rfl rfl rfl (by first | exact part_whole rfl rfl rfl | rfl) ?_
      refine OW_env (e' := [_, _, _, _, _, _, _, _, _, _, _, _, _, _, _, _, _, _, _, _, _, _, _, _, _, _, _, _, _, _, _, _, _, _, _, _, _, _, _, _, _, _, _, _, _, _, _, _, _, _, _, _, _, _, _, _, _, _, _, _, _, _, _, _, _, _, _, _, _, _, _, _, _, _, _, _, _, _, _, _, _, _, _, _, _, _, _, _, _, _, _, _, _, _, _, _, _, _, _, _, _, _, _, _, _, _, _, _, _, _, _]) rfl ?_
      refine OW_fn rfl rfl (checkP hS9 (k := 1) rfl (le_lit (ν := []) (a := [14, 1, 0, 1, 1, 1, 1, 1, 1, 1]) (b := [12, 0, 1, 1, 1, 1, 1, 1, 1, 1]) (by decide)) under_nil (before_lit (ν := []) (a := [12, 0, 1, 1, 1, 1, 1, 1, 1, 1]) (b := [13, 0, 1, 1, 1, 1, 1, 1, 1, 1]) (by decide)) _ _ ha _ _ _ fun H10 T4 c4 e4 r4 z4 hS10 => ?_) 
      replace hS10 : Own _ _ _ ([_, _, _, _, _]) := hS10
      first | obtain ⟨rfl, rfl⟩ := Prod.mk.inj ((hck _ _ _).symm.trans e4) | obtain ⟨rfl, rfl⟩ := Prod.mk.inj ((hck _ _ _).symm.trans e5)
      refine OW_as rfl rfl ?_
      refine OW_nilE (e' := [_, _, _, _, _, _, _, _, _, _, _, _, _, _, _, _, _, _, _, _, _, _, _, _, _, _, _, _, _, _, _, _, _, _, _, _, _, _, _, _, _, _, _, _, _, _, _, _, _, _, _, _, _, _, _, _, _, _, _, _, _, _, _, _, _, _, _, _, _, _, _, _, _, _, _, _, _, _, _, _, _, _, _, _, _, _, _, _, _, _, _, _, _, _, _, _, _, _, _, _, _, _, _, _, _, _, _, _, _, _, _]) rfl ?_
      refine XW_sr ?_
      refine OW_mv rfl rfl ?_
      refine OW_bin rfl rfl rfl rfl (eqI (by have h9 := andN_and (l := y.less) f3; unfold Rf.ans; rw [if_neg (by decide), if_neg (by simp [f1]), if_neg (by omega)]; rw [if_neg]; intro h8; exact h8 h9)) ?_
      refine OW_mv rfl rfl ?_
      refine OW_env (e' := [_, _, _, _, _, _, _, _, _, _, _, _, _, _, _, _, _, _, _, _, _, _, _, _, _, _, _, _, _, _, _, _, _, _, _, _, _, _, _, _, _, _, _, _, _, _, _, _, _, _, _, _, _, _, _, _, _, _, _, _, _, _, _, _, _, _, _, _, _, _, _, _, _, _, _, _, _, _, _, _, _, _, _, _, _, _, _, _, _, _, _, _, _, _, _, _, _, _, _, _, _, _, _, _, _, _, _, _, _, _, _]) rfl ?_
      refine OW_mv rfl rfl ?_
      refine OW_bin rfl rfl rfl rfl (eqI (by first | rfl | (unfold Rf.ans; rw [if_neg (by decide), if_neg (by simp [f1]), if_pos (by have := ha.2.2.1; rw [IntKind.wrap_u64] at *; omega)]))) ?_
      refine OW_pick rfl rfl rfl ?_
      refine OW_env (e' := [_, _, _, _, _, _, _, _, _, _, _, _, _, _, _, _, _, _, _, _, _, _, _, _, _, _, _, _, _, _, _, _, _, _, _, _, _, _, _, _, _, _, _, _, _, _, _, _, _, _, _, _, _, _, _, _, _, _, _, _, _, _, _, _, _, _, _, _, _, _, _, _, _, _, _, _, _, _, _, _, _, _, _, _, _, _, _, _, _, _, _, _, _, _, _, _, _, _, _, _, _, _, _, _, _, _, _, _, _, _, _]) rfl ?_
      refine OW_mv rfl rfl ?_
      refine OW_mv rfl rfl ?_
      refine OW_bin rfl rfl rfl rfl (eqI (by unfold Rf.ans; rw [if_neg (by decide), if_pos (by have := ha.2.1; rw [IntKind.wrap_u64]; omega)])) ?_
      refine OW_env (e' := [_, _, _, _, _, _, _, _, _, _, _, _, _, _, _, _, _, _, _, _, _, _, _, _, _, _, _, _, _, _, _, _, _, _, _, _, _, _, _, _, _, _, _, _, _, _, _, _, _, _, _, _, _, _, _, _, _, _, _, _, _, _, _, _, _, _, _, _, _, _, _, _, _, _, _, _, _, _, _, _, _, _, _, _, _, _, _, _, _, _, _, _, _, _, _, _, _, _, _, _, _, _, _, _, _, _, _, _, _, _, _]) rfl ?_
      refine OW_pick rfl rfl rfl ?_
      refine OW_mv rfl rfl ?_
      refine OW_fa rfl rfl rfl ?_
      refine OW_env (e' := [_, _, _, _, _, _, _, _, _, _, _, _, _, _, _, _, _, _, _, _, _, _, _, _, _, _, _, _, _, _, _, _, _, _, _, _, _, _, _, _, _, _, _, _, _, _, _, _, _, _, _, _, _, _, _, _, _, _, _, _, _, _, _, _, _, _, _, _, _, _, _, _, _, _, _, _, _, _, _, _, _, _, _, _, _, _, _, _, _, _, _, _, _, _, _, _, _, _, _, _, _, _, _, _, _, _, _, _, _, _, _]) rfl ?_
      refine OW_fa rfl rfl rfl ?_
      refine OW_loadR hS10 (k := 2) rfl rfl rfl rfl rfl (by first | exact part_whole rfl rfl rfl | rfl) ?_
      refine OW_fa rfl rfl rfl ?_
      refine OW_env (e' := [_, _, _, _, _, _, _, _, _, _, _, _, _, _, _, _, _, _, _, _, _, _, _, _, _, _, _, _, _, _, _, _, _, _, _, _, _, _, _, _, _, _, _, _, _, _, _, _, _, _, _, _, _, _, _, _, _, _, _, _, _, _, _, _, _, _, _, _, _, _, _, _, _, _, _, _, _, _, _, _, _, _, _, _, _, _, _, _, _, _, _, _, _, _, _, _, _, _, _, _, _, _, _, _, _, _, _, _, _, _, _]) rfl ?_
      refine OW_loadR hS10 (k := 2) rfl rfl rfl rfl rfl (by first | exact part_whole rfl rfl rfl | rfl) ?_
      refine OW_bin rfl rfl rfl rfl rfl ?_
      refine OW_pick rfl rfl rfl ?_
      refine OW_env (e' := [_, _, _, _, _, _, _, _, _, _, _, _, _, _, _, _, _, _, _, _, _, _, _, _, _, _, _, _, _, _, _, _, _, _, _, _, _, _, _, _, _, _, _, _, _, _, _, _, _, _, _, _, _, _, _, _, _, _, _, _, _, _, _, _, _, _, _, _, _, _, _, _, _, _, _, _, _, _, _, _, _, _, _, _, _, _, _, _, _, _, _, _, _, _, _, _, _, _, _, _, _, _, _, _, _, _, _, _, _, _, _]) rfl ?_
      refine OW_as rfl rfl ?_
      refine OW_nilE (e' := [_, _, _, _, _, _, _, _, _, _, _, _, _, _, _, _, _, _, _, _, _, _, _, _, _, _, _, _, _, _, _, _, _, _, _, _, _, _, _, _, _, _, _, _, _, _, _, _, _, _, _, _, _, _, _, _, _, _, _, _, _, _, _, _, _, _, _, _, _, _, _, _, _, _, _, _, _, _, _, _, _, _, _, _, _, _, _, _, _, _, _, _, _, _, _, _, _, _, _, _, _, _, _, _, _, _, _, _, _, _, _]) rfl ?_
      refine XW_ret ?_
      -- outcome 2
      refine ret_ret (res1 rfl (rv_tmp rfl)) (frz1 (Q := Q) (by first | exact freeze_plain rfl | exact Ls.freeze (by assumption) | exact Ls.freeze Ls.of | exact Ls.freeze Ls.emp | exact Ls.freeze Ls.nls) ?_)
      first
      | ((refine qcast hq ?_; simp; omega))
      | exact hq
      | (refine qcast hq ?_; rfl)
      | (refine qcast hq ?_; simp; done)
      | (refine qcast hq ?_; simp; omega)
      | (refine qcast hq ?_; simp_all; done)
    · try simp only [decide_eq_true_eq, decide_eq_false_iff_not, Bool.not_eq_true', Bool.not_eq_false', Bool.and_eq_true, Bool.or_eq_true, Bool.not_eq_true, Bool.not_eq_false, Decidable.not_not, bne_iff_ne, beq_iff_eq, List.length_append, List.length_cons, List.length_nil, List.length_drop, List.length_take] at h8
      refine XW_skip ?_
      refine then_norm ?_
      refine XW_sr ?_
      refine OW_mv rfl rfl ?_
      refine OW_fa rfl rfl rfl ?_
      refine OW_loadR hS8 (k := 3) rfl rfl rfl rfl rfl (by first | exact part_whole rfl rfl rfl | rfl) ?_
      refine OW_env (e' := [_, _, _, _, _, _, _, _, _, _, _, _, _, _, _, _, _, _, _, _, _, _, _, _, _, _, _, _, _, _, _, _, _, _, _, _, _, _, _, _, _, _, _, _, _, _, _, _, _, _, _, _, _, _, _, _, _, _, _, _, _, _, _, _, _, _, _, _, _, _, _, _, _, _, _, _, _, _, _, _, _, _, _, _, _, _, _, _, _, _, _, _, _, _, _, _, _, _, _, _, _, _, _, _, _, _, _, _, _, _, _]) rfl ?_
      refine OW_fa rfl rfl rfl ?_
      refine OW_loadR hS8 (k := 2) rfl rfl rfl rfl rfl (by first | exact part_whole rfl rfl rfl | rfl) ?_
      refine OW_fa rfl rfl rfl ?_
      refine OW_env (e' := [_, _, _, _, _, _, _, _, _, _, _, _, _, _, _, _, _, _, _, _, _, _, _, _, _, _, _, _, _, _, _, _, _, _, _, _, _, _, _, _, _, _, _, _, _, _, _, _, _, _, _, _, _, _, _, _, _, _, _, _, _, _, _, _, _, _, _, _, _, _, _, _, _, _, _, _, _, _, _, _, _, _, _, _, _, _, _, _, _, _, _, _, _, _, _, _, _, _, _, _, _, _, _, _, _, _, _, _, _, _, _]) rfl ?_
      refine OW_loadR hS8 (k := 2) rfl rfl rfl rfl rfl (by first | exact part_whole rfl rfl rfl | rfl) ?_
      first
      | refine OW_bin rfl rfl rfl rfl (add_wu64 (by first | omega | assumption | (simp only [ByteArray.size_append, ByteArray.size_extract, List.length_map, List.length_append, List.length_cons, List.length_nil, List.length_drop, List.length_take]; omega))) ?_
      | refine OW_bin rfl rfl rfl rfl rfl ?_
      refine OW_fa rfl rfl rfl ?_
      refine OW_env (e' := [_, _, _, _, _, _, _, _, _, _, _, _, _, _, _, _, _, _, _, _, _, _, _, _, _, _, _, _, _, _, _, _, _, _, _, _, _, _, _, _, _, _, _, _, _, _, _, _, _, _, _, _, _, _, _, _, _, _, _, _, _, _, _, _, _, _, _, _, _, _, _, _, _, _, _, _, _, _, _, _, _, _, _, _, _, _, _, _, _, _, _, _, _, _, _, _, _, _, _, _, _, _, _, _, _, _, _, _, _, _, _]) rfl ?_
      refine OW_loadR hS8 (k := 2) rfl rfl rfl rfl rfl (by first | exact part_whole rfl rfl rfl | rfl) ?_
      refine OW_fa rfl rfl rfl ?_
      refine OW_loadR hS8 (k := 2) rfl rfl rfl rfl rfl (by first | exact part_whole rfl rfl rfl | rfl) ?_
      refine OW_env (e' := [_, _, _, _, _, _, _, _, _, _, _, _, _, _, _, _, _, _, _, _, _, _, _, _, _, _, _, _, _, _, _, _, _, _, _, _, _, _, _, _, _, _, _, _, _, _, _, _, _, _, _, _, _, _, _, _, _, _, _, _, _, _, _, _, _, _, _, _, _, _, _, _, _, _, _, _, _, _, _, _, _, _, _, _, _, _, _, _, _, _, _, _, _, _, _, _, _, _, _, _, _, _, _, _, _, _, _, _, _, _, _]) rfl ?_
      refine OW_fn rfl rfl (checkP hS8 (k := 1) rfl (le_lit (ν := []) (a := [16, 0, 1, 1, 1, 1, 1]) (b := [12, 0, 1, 1, 1, 1, 1, 1, 1, 1]) (by decide)) under_nil (before_lit (ν := []) (a := [12, 0, 1, 1, 1, 1, 1, 1, 1, 1]) (b := [13, 0, 1, 1, 1, 1, 1, 1, 1, 1]) (by decide)) _ _ ha _ _ _ fun H11 T5 c5 e5 r5 z5 hS11 => ?_) 
      replace hS11 : Own _ _ _ ([_, _, _, _, _]) := hS11
      first | obtain ⟨rfl, rfl⟩ := Prod.mk.inj ((hck _ _ _).symm.trans e4) | obtain ⟨rfl, rfl⟩ := Prod.mk.inj ((hck _ _ _).symm.trans e5)
      refine OW_as rfl rfl ?_
      refine OW_nilE (e' := [_, _, _, _, _, _, _, _, _, _, _, _, _, _, _, _, _, _, _, _, _, _, _, _, _, _, _, _, _, _, _, _, _, _, _, _, _, _, _, _, _, _, _, _, _, _, _, _, _, _, _, _, _, _, _, _, _, _, _, _, _, _, _, _, _, _, _, _, _, _, _, _, _, _, _, _, _, _, _, _, _, _, _, _, _, _, _, _, _, _, _, _, _, _, _, _, _, _, _, _, _, _, _, _, _, _, _, _, _, _, _]) rfl ?_
      refine XW_sr ?_
      refine OW_mv rfl rfl ?_
      refine OW_bin rfl rfl rfl rfl (eqI (by have h9 := andN_and (l := y.less) f3; unfold Rf.ans; rw [if_neg (by decide), if_neg (by simp [f1]), if_neg (by omega)]; rw [if_neg]; intro h8; exact h8 h9)) ?_
      refine OW_mv rfl rfl ?_
      refine OW_env (e' := [_, _, _, _, _, _, _, _, _, _, _, _, _, _, _, _, _, _, _, _, _, _, _, _, _, _, _, _, _, _, _, _, _, _, _, _, _, _, _, _, _, _, _, _, _, _, _, _, _, _, _, _, _, _, _, _, _, _, _, _, _, _, _, _, _, _, _, _, _, _, _, _, _, _, _, _, _, _, _, _, _, _, _, _, _, _, _, _, _, _, _, _, _, _, _, _, _, _, _, _, _, _, _, _, _, _, _, _, _, _, _]) rfl ?_
      refine OW_mv rfl rfl ?_
      refine OW_bin rfl rfl rfl rfl (eqI (by first | rfl | (unfold Rf.ans; rw [if_neg (by decide), if_neg (by simp [f1]), if_pos (by have := ha.2.2.1; rw [IntKind.wrap_u64] at *; omega)]))) ?_
      refine OW_pick rfl rfl rfl ?_
      refine OW_env (e' := [_, _, _, _, _, _, _, _, _, _, _, _, _, _, _, _, _, _, _, _, _, _, _, _, _, _, _, _, _, _, _, _, _, _, _, _, _, _, _, _, _, _, _, _, _, _, _, _, _, _, _, _, _, _, _, _, _, _, _, _, _, _, _, _, _, _, _, _, _, _, _, _, _, _, _, _, _, _, _, _, _, _, _, _, _, _, _, _, _, _, _, _, _, _, _, _, _, _, _, _, _, _, _, _, _, _, _, _, _, _, _]) rfl ?_
      refine OW_mv rfl rfl ?_
      refine OW_mv rfl rfl ?_
      refine OW_bin rfl rfl rfl rfl (eqI (by unfold Rf.ans; rw [if_neg (by decide), if_pos (by have := ha.2.1; rw [IntKind.wrap_u64]; omega)])) ?_
      refine OW_env (e' := [_, _, _, _, _, _, _, _, _, _, _, _, _, _, _, _, _, _, _, _, _, _, _, _, _, _, _, _, _, _, _, _, _, _, _, _, _, _, _, _, _, _, _, _, _, _, _, _, _, _, _, _, _, _, _, _, _, _, _, _, _, _, _, _, _, _, _, _, _, _, _, _, _, _, _, _, _, _, _, _, _, _, _, _, _, _, _, _, _, _, _, _, _, _, _, _, _, _, _, _, _, _, _, _, _, _, _, _, _, _, _]) rfl ?_
      refine OW_pick rfl rfl rfl ?_
      refine OW_mv rfl rfl ?_
      refine OW_fa rfl rfl rfl ?_
      refine OW_env (e' := [_, _, _, _, _, _, _, _, _, _, _, _, _, _, _, _, _, _, _, _, _, _, _, _, _, _, _, _, _, _, _, _, _, _, _, _, _, _, _, _, _, _, _, _, _, _, _, _, _, _, _, _, _, _, _, _, _, _, _, _, _, _, _, _, _, _, _, _, _, _, _, _, _, _, _, _, _, _, _, _, _, _, _, _, _, _, _, _, _, _, _, _, _, _, _, _, _, _, _, _, _, _, _, _, _, _, _, _, _, _, _]) rfl ?_
      refine OW_fa rfl rfl rfl ?_
      refine OW_loadR hS11 (k := 2) rfl rfl rfl rfl rfl (by first | exact part_whole rfl rfl rfl | rfl) ?_
      refine OW_fa rfl rfl rfl ?_
      refine OW_env (e' := [_, _, _, _, _, _, _, _, _, _, _, _, _, _, _, _, _, _, _, _, _, _, _, _, _, _, _, _, _, _, _, _, _, _, _, _, _, _, _, _, _, _, _, _, _, _, _, _, _, _, _, _, _, _, _, _, _, _, _, _, _, _, _, _, _, _, _, _, _, _, _, _, _, _, _, _, _, _, _, _, _, _, _, _, _, _, _, _, _, _, _, _, _, _, _, _, _, _, _, _, _, _, _, _, _, _, _, _, _, _, _]) rfl ?_
      refine OW_loadR hS11 (k := 2) rfl rfl rfl rfl rfl (by first | exact part_whole rfl rfl rfl | rfl) ?_
      refine OW_bin rfl rfl rfl rfl rfl ?_
      refine OW_pick rfl rfl rfl ?_
      refine OW_env (e' := [_, _, _, _, _, _, _, _, _, _, _, _, _, _, _, _, _, _, _, _, _, _, _, _, _, _, _, _, _, _, _, _, _, _, _, _, _, _, _, _, _, _, _, _, _, _, _, _, _, _, _, _, _, _, _, _, _, _, _, _, _, _, _, _, _, _, _, _, _, _, _, _, _, _, _, _, _, _, _, _, _, _, _, _, _, _, _, _, _, _, _, _, _, _, _, _, _, _, _, _, _, _, _, _, _, _, _, _, _, _, _]) rfl ?_
      refine OW_as rfl rfl ?_
      refine OW_nilE (e' := [_, _, _, _, _, _, _, _, _, _, _, _, _, _, _, _, _, _, _, _, _, _, _, _, _, _, _, _, _, _, _, _, _, _, _, _, _, _, _, _, _, _, _, _, _, _, _, _, _, _, _, _, _, _, _, _, _, _, _, _, _, _, _, _, _, _, _, _, _, _, _, _, _, _, _, _, _, _, _, _, _, _, _, _, _, _, _, _, _, _, _, _, _, _, _, _, _, _, _, _, _, _, _, _, _, _, _, _, _, _, _]) rfl ?_
      refine XW_ret ?_
      -- outcome 3
      refine ret_ret (res1 rfl (rv_tmp rfl)) (frz1 (Q := Q) (by first | exact freeze_plain rfl | exact Ls.freeze (by assumption) | exact Ls.freeze Ls.of | exact Ls.freeze Ls.emp | exact Ls.freeze Ls.nls) ?_)
      first
      | ((refine qcast hq ?_; simp; omega))
      | exact hq
      | (refine qcast hq ?_; rfl)
      | (refine qcast hq ?_; simp; done)
      | (refine qcast hq ?_; simp; omega)
      | (refine qcast hq ?_; simp_all; done)
end Go.Proofs.Ytoljfmghcfdbpaa.X
