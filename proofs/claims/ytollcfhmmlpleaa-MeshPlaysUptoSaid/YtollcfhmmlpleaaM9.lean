/- Layer 19: the law MeshOrders. -/
import Derived.Test.YtollcfhmmlpleaaI
import Derived.Test.YtollcfhmmlpleaaM7
set_option linter.unusedVariables false
set_option linter.unusedSimpArgs false
set_option maxRecDepth 100000
namespace Go.Proofs.Ytollcfhmmlpleaa.X
open Go Go.RowKit
theorem neLt (a b : Lt) : aBin cfg.T .neq 30 a.enc b.enc = some (.bool (!decide (a = b))) := by
  have : aEq cfg.T 4 30 a.enc b.enc = some (decide (a.f = b.f) && (decide (a.t = b.t) && (decide (a.s = b.s) && true))) := rfl
  show aCmp .neq (aEq cfg.T 4 30 a.enc b.enc) = _
  rw [this]
  cases a; cases b
  simp only [aCmp, Lt.mk.injEq, Bool.and_true, Bool.decide_and]
theorem pos0 {n : Nat} : pos 0 n = 0 := by
  unfold pos; rw [Int.zero_tmod, Int.zero_add, Int.tmod_self]; rfl
theorem orders (ls : List Lt) (f t : Int) (hl : ls.length ≤ 4611686018427387904) : CW cfg [] 5 [.lst (ls.map Lt.enc), .int .u64 f, .int .u64 t] (fun _ => none) (fun v _ => v = .bool true) := by
  refine CW_pure g5 F5 rfl ?_
  refine XW_sr ?_
  refine OW_as rfl rfl ?_
  refine OW_nilE (e' := [_, _, _, _, _, _, _, _, _, _, _, _, _, _, _, _, _, _, _, _, _, _, _, _, _, _, _, _, _, _, _, _, _, _, _, _, _, _, _, _, _, _, _, _, _, _, _, _, _, _, _, _, _, _, _, _, _, _, _, _, _, _, _, _, _, _, _, _, _, _, _, _, _, _]) rfl ?_
  refine XW_seq ?_
  refine XW_sr ?_
  refine OW_fn rfl rfl (fixedW (by kernel_rfl) ?_)
  by_cases hg : ls.length ≤ 200
  · refine OW_env (e' := [_, _, _, _, _, _, _, _, _, _, _, _, _, _, _, _, _, _, _, _, _, _, _, _, _, _, _, _, _, _, _, _, _, _, _, _, _, _, _, _, _, _, _, _, _, _, _, _, _, _, _, _, _, _, _, _, _, _, _, _, _, _, _, _, _, _, _, _, _, _, _, _, _, _]) rfl ?_
    refine OW_un rfl rfl rfl ?_
    refine OW_mv rfl rfl ?_
    first
      | refine OW_no rfl ?_
      | refine OW_mv rfl rfl ?_
    refine OW_env (e' := [_, _, _, _, _, _, _, _, _, _, _, _, _, _, _, _, _, _, _, _, _, _, _, _, _, _, _, _, _, _, _, _, _, _, _, _, _, _, _, _, _, _, _, _, _, _, _, _, _, _, _, _, _, _, _, _, _, _, _, _, _, _, _, _, _, _, _, _, _, _, _, _, _, _]) rfl ?_
    first
      | refine OW_no rfl ?_
      | refine OW_bi rfl rfl (aLen_map rfl) ?_
      | refine OW_bi rfl rfl (aLen rfl rfl) ?_
    first
      | refine OW_no rfl ?_
      | refine OW_bin rfl rfl rfl rfl (gtr_yes (by omega)) ?_
      | refine OW_bin rfl rfl rfl rfl (gtr_no (by omega)) ?_
      | refine OW_bin rfl rfl rfl rfl rfl ?_
    refine OW_pick rfl rfl rfl ?_
    refine OW_nilE (e' := [_, _, _, _, _, _, _, _, _, _, _, _, _, _, _, _, _, _, _, _, _, _, _, _, _, _, _, _, _, _, _, _, _, _, _, _, _, _, _, _, _, _, _, _, _, _, _, _, _, _, _, _, _, _, _, _, _, _, _, _, _, _, _, _, _, _, _, _, _, _, _, _, _, _]) rfl ?_
    refine XW_no rfl rfl ?_
    refine XW_skip ?_
    refine then_norm ?_
    refine XW_sr ?_
    refine OW_fn rfl rfl (mNew fun qm H1 hqm hm1 _ => ?_)
    refine OW_env (e' := [_, _, _, _, _, _, _, _, _, _, _, _, _, _, _, _, _, _, _, _, _, _, _, _, _, _, _, _, _, _, _, _, _, _, _, _, _, _, _, _, _, _, _, _, _, _, _, _, _, _, _, _, _, _, _, _, _, _, _, _, _, _, _, _, _, _, _, _, _, _, _, _, _, _]) rfl ?_
    refine OW_as rfl rfl ?_
    refine OW_nilE (e' := [_, _, _, _, _, _, _, _, _, _, _, _, _, _, _, _, _, _, _, _, _, _, _, _, _, _, _, _, _, _, _, _, _, _, _, _, _, _, _, _, _, _, _, _, _, _, _, _, _, _, _, _, _, _, _, _, _, _, _, _, _, _, _, _, _, _, _, _, _, _, _, _, _, _]) rfl ?_
    refine XW_sr ?_
    refine OW_mv rfl rfl ?_
    refine OW_mv rfl rfl ?_
    refine OW_fn rfl rfl (mPut hm1 (by simp) (by repeat (first | assumption | exact far1 (by assumption) (by decide) | exact far2 (by assumption) (by decide) | exact far3 (by assumption) (by decide) | exact far4 (by assumption) (by decide) | exact far5 (by assumption) (by decide) | exact far6 (by assumption) (by decide) | exact far7 (by assumption) (by decide) | exact far8 (by assumption) (by decide) | refine under_dn ?_)) (by simp) ls hl fun H2 S2 fp2 hm2 hf2 _ => ?_)
    have hf2' : ∀ p ∈ fp2, under [2, 0, 1, 1, 1] p = true := fun p hp => (hf2 p hp).elim (fun h => by cases h) id
    simp only [List.nil_append, List.length_nil, Nat.sub_zero] at hm2
    rw [List.take_of_length_le (by omega)] at hm2
    obtain ⟨m0, hm0⟩ : ∃ m : Nat, m = min ls.length (4096 - ([] : List Lt).length) := ⟨_, rfl⟩
    rw [← hm0]
    refine OW_nilE (e' := [_, _, _, _, _, _, _, _, _, _, _, _, _, _, _, _, _, _, _, _, _, _, _, _, _, _, _, _, _, _, _, _, _, _, _, _, _, _, _, _, _, _, _, _, _, _, _, _, _, _, _, _, _, _, _, _, _, _, _, _, _, _, _, _, _, _, _, _, _, _, _, _, _, _]) rfl ?_
    refine XW_sr ?_
    refine OW_mv rfl rfl ?_
    refine OW_mv rfl rfl ?_
    refine OW_mv rfl rfl ?_
    refine OW_fn rfl rfl (mLose hm2 f t hl (by repeat (first | assumption | exact far1 (by assumption) (by decide) | exact far2 (by assumption) (by decide) | exact far3 (by assumption) (by decide) | exact far4 (by assumption) (by decide) | exact far5 (by assumption) (by decide) | exact far6 (by assumption) (by decide) | exact far7 (by assumption) (by decide) | exact far8 (by assumption) (by decide) | refine under_dn ?_)) (fun p hp => by have := hf2' p hp; exact (by repeat (first | assumption | exact far1 (by assumption) (by decide) | exact far2 (by assumption) (by decide) | exact far3 (by assumption) (by decide) | exact far4 (by assumption) (by decide) | exact far5 (by assumption) (by decide) | exact far6 (by assumption) (by decide) | exact far7 (by assumption) (by decide) | exact far8 (by assumption) (by decide) | refine under_dn ?_))) fun H3 S3 hm3 _ => ?_)
    obtain ⟨K, hK⟩ : ∃ K : Lt → Bool, K = fun l => !(decide (l.f = f) && decide (l.t = t)) := ⟨_, rfl⟩
    rw [← hK] at hm3 ⊢
    obtain ⟨d0, hd0⟩ : ∃ d : Int, d = (ls.length : Int) - (ls.filter K).length := ⟨_, rfl⟩
    rw [← hd0]
    refine OW_env (e' := [_, _, _, _, _, _, _, _, _, _, _, _, _, _, _, _, _, _, _, _, _, _, _, _, _, _, _, _, _, _, _, _, _, _, _, _, _, _, _, _, _, _, _, _, _, _, _, _, _, _, _, _, _, _, _, _, _, _, _, _, _, _, _, _, _, _, _, _, _, _, _, _, _, _]) rfl ?_
    refine OW_as rfl rfl ?_
    refine OW_nilE (e' := [_, _, _, _, _, _, _, _, _, _, _, _, _, _, _, _, _, _, _, _, _, _, _, _, _, _, _, _, _, _, _, _, _, _, _, _, _, _, _, _, _, _, _, _, _, _, _, _, _, _, _, _, _, _, _, _, _, _, _, _, _, _, _, _, _, _, _, _, _, _, _, _, _, _]) rfl ?_
    refine XW_seq ?_
    refine XW_sr ?_
    refine OW_as rfl rfl ?_
    refine OW_nilE (e' := [_, _, _, _, _, _, _, _, _, _, _, _, _, _, _, _, _, _, _, _, _, _, _, _, _, _, _, _, _, _, _, _, _, _, _, _, _, _, _, _, _, _, _, _, _, _, _, _, _, _, _, _, _, _, _, _, _, _, _, _, _, _, _, _, _, _, _, _, _, _, _, _, _, _]) rfl ?_
    refine XW_block ?_
    refine XW_whileN (I := fun ν' n e H' => ∃ (i : Nat) (d : Int) (S : AVal), n = ls.length - i ∧ i ≤ ls.length ∧ under [1, 0, 1, 1, 1, 1, 1] ν' = true ∧ under ν' qm = false ∧ (∀ p ∈ fp2, under ν' p = false) ∧ IsMesh H' qm ((ls.drop i).filter K) S fp2 ∧ d = ((ls.drop i).length : Int) - ((ls.drop i).filter K).length ∧
      ∃ g : Nat → AVal, e = [.lst (ls.map Lt.enc), .int .u64 f, .int .u64 t, g 3, g 4, g 5, .bool false, .ptr qm 0 0, .int .i64 d, .int .i64 i, g 10, g 11, g 12, g 13, g 14, g 15, g 16, g 17, g 18, g 19, g 20, g 21, g 22, g 23, g 24, g 25, g 26, g 27, g 28, g 29, g 30, g 31, g 32, g 33, g 34, g 35, g 36, g 37, g 38, g 39, g 40, g 41, g 42, g 43, g 44, g 45, g 46, g 47, g 48, g 49, g 50, g 51, g 52, g 53, g 54, g 55, g 56, g 57, g 58, g 59, g 60, g 61, g 62, g 63, g 64, g 65, g 66, g 67, g 68, g 69, g 70, g 71, g 72, g 73]) ?_ ls.length _ _ _ ⟨0, d0, S3, by omega, by omega, rfl, (by repeat (first | assumption | exact far1 (by assumption) (by decide) | exact far2 (by assumption) (by decide) | exact far3 (by assumption) (by decide) | exact far4 (by assumption) (by decide) | exact far5 (by assumption) (by decide) | exact far6 (by assumption) (by decide) | exact far7 (by assumption) (by decide) | exact far8 (by assumption) (by decide) | refine under_dn ?_)), fun p hp => by have := hf2' p hp; exact (by repeat (first | assumption | exact far1 (by assumption) (by decide) | exact far2 (by assumption) (by decide) | exact far3 (by assumption) (by decide) | exact far4 (by assumption) (by decide) | exact far5 (by assumption) (by decide) | exact far6 (by assumption) (by decide) | exact far7 (by assumption) (by decide) | exact far8 (by assumption) (by decide) | refine under_dn ?_)), hm3, hd0, env_g rfl⟩
    rintro ν' n e H' ⟨i, d, S, rfl, hi, hU, hqν, hfν, hmx, hd, g, rfl⟩
    refine XW_seq ?_
    refine XW_sr ?_
    by_cases hlt : i < ls.length
    · have hxi : (ls.map Lt.enc)[i]? = some (ls[i].enc) := by simp [hlt]
      have hdr : ls.drop i = ls[i] :: ls.drop (i + 1) := List.drop_eq_getElem_cons hlt
      rw [hdr, List.filter_cons] at hmx hd
      refine OW_mv rfl rfl ?_
      refine OW_mv rfl rfl ?_
      first
        | refine OW_bi rfl rfl (aLen_map rfl) ?_
        | refine OW_bi rfl rfl (aLen rfl rfl) ?_
      refine OW_env (e' := [_, _, _, _, _, _, _, _, _, _, _, _, _, _, _, _, _, _, _, _, _, _, _, _, _, _, _, _, _, _, _, _, _, _, _, _, _, _, _, _, _, _, _, _, _, _, _, _, _, _, _, _, _, _, _, _, _, _, _, _, _, _, _, _, _, _, _, _, _, _, _, _, _, _]) rfl ?_
      first
        | refine OW_bin rfl rfl rfl rfl (lss_yes (by omega)) ?_
        | refine OW_bin rfl rfl rfl rfl (lss_no (by omega)) ?_
        | refine OW_bin rfl rfl rfl rfl rfl ?_
      refine OW_nilE (e' := [_, _, _, _, _, _, _, _, _, _, _, _, _, _, _, _, _, _, _, _, _, _, _, _, _, _, _, _, _, _, _, _, _, _, _, _, _, _, _, _, _, _, _, _, _, _, _, _, _, _, _, _, _, _, _, _, _, _, _, _, _, _, _, _, _, _, _, _, _, _, _, _, _, _]) rfl ?_
      refine XW_yes rfl rfl ?_
      refine XW_skip ?_
      refine then_norm ?_
      refine XW_seq ?_
      refine XW_block ?_
      refine XW_seq ?_
      refine XW_sr ?_
      by_cases hf : ls[i].f = f
      · refine OW_mv rfl rfl ?_
        refine OW_mv rfl rfl ?_
        refine OW_ia rfl rfl rfl (ia_lst T22 rfl T30 hxi rfl) ?_
        refine OW_env (e' := [_, _, _, _, _, _, _, _, _, _, _, _, _, _, _, _, _, _, _, _, _, _, _, _, _, _, _, _, _, _, _, _, _, _, _, _, _, _, _, _, _, _, _, _, _, _, _, _, _, _, _, _, _, _, _, _, _, _, _, _, _, _, _, _, _, _, _, _, _, _, _, _, _, _]) rfl ?_
        refine OW_fa rfl rfl rfl ?_
        refine OW_load rfl rfl (by first | exact aLoad_ept rfl rfl | exact aLoad_ptr rfl (by first | rfl | assumption | exact put_same) rfl rfl) ?_
        refine OW_mv rfl rfl ?_
        refine OW_bin rfl rfl rfl rfl (eq_yes hf) ?_
        refine OW_env (e' := [_, _, _, _, _, _, _, _, _, _, _, _, _, _, _, _, _, _, _, _, _, _, _, _, _, _, _, _, _, _, _, _, _, _, _, _, _, _, _, _, _, _, _, _, _, _, _, _, _, _, _, _, _, _, _, _, _, _, _, _, _, _, _, _, _, _, _, _, _, _, _, _, _, _]) rfl ?_
        refine OW_mv rfl rfl ?_
        first
          | refine OW_no rfl ?_
          | refine OW_mv rfl rfl ?_
        first
          | refine OW_no rfl ?_
          | refine OW_mv rfl rfl ?_
        refine OW_ia rfl rfl rfl (ia_lst T22 rfl T30 hxi rfl) ?_
        refine OW_env (e' := [_, _, _, _, _, _, _, _, _, _, _, _, _, _, _, _, _, _, _, _, _, _, _, _, _, _, _, _, _, _, _, _, _, _, _, _, _, _, _, _, _, _, _, _, _, _, _, _, _, _, _, _, _, _, _, _, _, _, _, _, _, _, _, _, _, _, _, _, _, _, _, _, _, _]) rfl ?_
        first
          | refine OW_no rfl ?_
          | refine OW_fa rfl rfl rfl ?_
        first
          | refine OW_no rfl ?_
          | refine OW_load rfl rfl (by first | exact aLoad_ept rfl rfl | exact aLoad_ptr rfl (by first | rfl | assumption | exact put_same) rfl rfl) ?_
        first
          | refine OW_no rfl ?_
          | refine OW_mv rfl rfl ?_
        by_cases ht : ls[i].t = t
        · refine OW_bin rfl rfl rfl rfl (eq_yes ht) ?_
          refine OW_env (e' := [_, _, _, _, _, _, _, _, _, _, _, _, _, _, _, _, _, _, _, _, _, _, _, _, _, _, _, _, _, _, _, _, _, _, _, _, _, _, _, _, _, _, _, _, _, _, _, _, _, _, _, _, _, _, _, _, _, _, _, _, _, _, _, _, _, _, _, _, _, _, _, _, _, _]) rfl ?_
          refine OW_pick rfl rfl rfl ?_
          refine OW_nilE (e' := [_, _, _, _, _, _, _, _, _, _, _, _, _, _, _, _, _, _, _, _, _, _, _, _, _, _, _, _, _, _, _, _, _, _, _, _, _, _, _, _, _, _, _, _, _, _, _, _, _, _, _, _, _, _, _, _, _, _, _, _, _, _, _, _, _, _, _, _, _, _, _, _, _, _]) rfl ?_
          have hKi : K ls[i] = false := by rw [hK]; simp [hf, ht]
          rw [if_neg (by simp [hKi])] at hmx hd
          refine XW_yes rfl rfl ?_
          refine XW_sr ?_
          have hfl := List.length_filter_le K (ls.drop (i + 1))
          have hdl : (ls.drop (i + 1)).length = ls.length - (i + 1) := List.length_drop
          rw [List.length_cons] at hd
          refine OW_mv rfl rfl ?_
          first
            | refine OW_bin rfl rfl rfl rfl (sub64 (by omega)) ?_
            | refine OW_bin rfl rfl rfl rfl (subu64 (by omega)) ?_
            | refine OW_bin rfl rfl rfl rfl rfl ?_
          refine OW_as rfl rfl ?_
          refine OW_nilE (e' := [_, _, _, _, _, _, _, _, _, _, _, _, _, _, _, _, _, _, _, _, _, _, _, _, _, _, _, _, _, _, _, _, _, _, _, _, _, _, _, _, _, _, _, _, _, _, _, _, _, _, _, _, _, _, _, _, _, _, _, _, _, _, _, _, _, _, _, _, _, _, _, _, _, _]) rfl ?_
          refine XW_exit ?_
          refine then_exit ?_
          refine block_exit ?_
          refine then_norm ?_
          refine XW_region ?_
          refine OW_mv rfl rfl ?_
          first
            | refine OW_bin rfl rfl rfl rfl (add64 (by omega)) ?_
            | refine OW_bin rfl rfl rfl rfl (addu64 (by omega)) ?_
            | refine OW_bin rfl rfl rfl rfl rfl ?_
          refine OW_as rfl rfl ?_
          refine OW_nilE (e' := [_, _, _, _, _, _, _, _, _, _, _, _, _, _, _, _, _, _, _, _, _, _, _, _, _, _, _, _, _, _, _, _, _, _, _, _, _, _, _, _, _, _, _, _, _, _, _, _, _, _, _, _, _, _, _, _, _, _, _, _, _, _, _, _, _, _, _, _, _, _, _, _, _, _]) rfl ?_
          refine ⟨ls.length - (i + 1), by omega, i + 1, _, S, rfl, by omega, under_in hU, (by repeat (first | assumption | exact far1 (by assumption) (by decide) | exact far2 (by assumption) (by decide) | exact far3 (by assumption) (by decide) | exact far4 (by assumption) (by decide) | exact far5 (by assumption) (by decide) | exact far6 (by assumption) (by decide) | exact far7 (by assumption) (by decide) | exact far8 (by assumption) (by decide) | refine under_dn ?_)), fun p hp => under_dn (hfν p hp), hmx, ?_, env_g rfl⟩
          omega
        · refine OW_bin rfl rfl rfl rfl (eq_no ht) ?_
          refine OW_env (e' := [_, _, _, _, _, _, _, _, _, _, _, _, _, _, _, _, _, _, _, _, _, _, _, _, _, _, _, _, _, _, _, _, _, _, _, _, _, _, _, _, _, _, _, _, _, _, _, _, _, _, _, _, _, _, _, _, _, _, _, _, _, _, _, _, _, _, _, _, _, _, _, _, _, _]) rfl ?_
          refine OW_pick rfl rfl rfl ?_
          refine OW_nilE (e' := [_, _, _, _, _, _, _, _, _, _, _, _, _, _, _, _, _, _, _, _, _, _, _, _, _, _, _, _, _, _, _, _, _, _, _, _, _, _, _, _, _, _, _, _, _, _, _, _, _, _, _, _, _, _, _, _, _, _, _, _, _, _, _, _, _, _, _, _, _, _, _, _, _, _]) rfl ?_
          have hKi : K ls[i] = true := by rw [hK]; simp [ht]
          rw [if_pos hKi] at hmx hd
          refine XW_no rfl rfl ?_
          refine XW_skip ?_
          refine then_norm ?_
          refine XW_sr ?_
          refine OW_mv rfl rfl ?_
          refine OW_fn rfl rfl (mTake hmx 0 (by have := List.length_filter_le K (ls.drop (i + 1)); simp; simp at this; omega) (by repeat (first | assumption | exact far1 (by assumption) (by decide) | exact far2 (by assumption) (by decide) | exact far3 (by assumption) (by decide) | exact far4 (by assumption) (by decide) | exact far5 (by assumption) (by decide) | exact far6 (by assumption) (by decide) | exact far7 (by assumption) (by decide) | exact far8 (by assumption) (by decide) | refine under_dn ?_)) (fun p hp => by have := hfν p hp; exact (by repeat (first | assumption | exact far1 (by assumption) (by decide) | exact far2 (by assumption) (by decide) | exact far3 (by assumption) (by decide) | exact far4 (by assumption) (by decide) | exact far5 (by assumption) (by decide) | exact far6 (by assumption) (by decide) | exact far7 (by assumption) (by decide) | exact far8 (by assumption) (by decide) | refine under_dn ?_))) (by omega) (fun h => by cases h) ?_)
          intro l H4 S4 hl4 hm4 _
          rw [pos0] at hl4 hm4
          obtain rfl : ls[i] = l := by simpa using hl4
          rw [List.eraseIdx_cons_zero] at hm4
          refine OW_env (e' := [_, _, _, _, _, _, _, _, _, _, _, _, _, _, _, _, _, _, _, _, _, _, _, _, _, _, _, _, _, _, _, _, _, _, _, _, _, _, _, _, _, _, _, _, _, _, _, _, _, _, _, _, _, _, _, _, _, _, _, _, _, _, _, _, _, _, _, _, _, _, _, _, _, _]) rfl ?_
          refine OW_mv rfl rfl ?_
          refine OW_ex rfl rfl rfl ?_
          refine OW_ex rfl rfl rfl ?_
          refine OW_env (e' := [_, _, _, _, _, _, _, _, _, _, _, _, _, _, _, _, _, _, _, _, _, _, _, _, _, _, _, _, _, _, _, _, _, _, _, _, _, _, _, _, _, _, _, _, _, _, _, _, _, _, _, _, _, _, _, _, _, _, _, _, _, _, _, _, _, _, _, _, _, _, _, _, _, _]) rfl ?_
          refine OW_alloc rfl rfl ?_
          refine OW_store rfl rfl rfl (aStore_ptr rfl (by first | rfl | assumption | exact put_same) rfl ⟨rfl, rfl, by decide⟩) ?_
          refine OW_as rfl rfl ?_
          refine OW_nilE (e' := [_, _, _, _, _, _, _, _, _, _, _, _, _, _, _, _, _, _, _, _, _, _, _, _, _, _, _, _, _, _, _, _, _, _, _, _, _, _, _, _, _, _, _, _, _, _, _, _, _, _, _, _, _, _, _, _, _, _, _, _, _, _, _, _, _, _, _, _, _, _, _, _, _, _]) rfl ?_
          refine XW_gen fun H5 hH5 => ?_
          have hm5 : IsMesh H5 qm ((ls.drop (i + 1)).filter K) S4 fp2 := by
            rw [hH5]; exact hm4.out (ν := 0 :: ν') (by repeat (first | assumption | exact far1 (by assumption) (by decide) | exact far2 (by assumption) (by decide) | exact far3 (by assumption) (by decide) | exact far4 (by assumption) (by decide) | exact far5 (by assumption) (by decide) | exact far6 (by assumption) (by decide) | exact far7 (by assumption) (by decide) | exact far8 (by assumption) (by decide) | refine under_dn ?_)) (fun p hp => under_dn (hfν p hp)) (by repeat (first | exact Out.refl | assumption | refine Out.put ?_ (by repeat (first | exact under_me | apply under_in))))
          have hl5 : H5 (5 :: 0 :: 1 :: 0 :: 1 :: 0 :: ν') = some (.row 3 [ls[i].enc]) := by rw [hH5]; exact put_same
          refine XW_sr ?_
          refine OW_mv rfl rfl ?_
          refine OW_un rfl rfl rfl ?_
          refine OW_mv rfl rfl ?_
          refine OW_load rfl rfl (load_row T30 rfl hl5 rfl rfl) ?_
          refine OW_env (e' := [_, _, _, _, _, _, _, _, _, _, _, _, _, _, _, _, _, _, _, _, _, _, _, _, _, _, _, _, _, _, _, _, _, _, _, _, _, _, _, _, _, _, _, _, _, _, _, _, _, _, _, _, _, _, _, _, _, _, _, _, _, _, _, _, _, _, _, _, _, _, _, _, _, _]) rfl ?_
          first
            | refine OW_no rfl ?_
            | refine OW_mv rfl rfl ?_
          first
            | refine OW_no rfl ?_
            | refine OW_mv rfl rfl ?_
          refine OW_ia rfl rfl rfl (ia_lst T22 rfl T30 hxi rfl) ?_
          refine OW_env (e' := [_, _, _, _, _, _, _, _, _, _, _, _, _, _, _, _, _, _, _, _, _, _, _, _, _, _, _, _, _, _, _, _, _, _, _, _, _, _, _, _, _, _, _, _, _, _, _, _, _, _, _, _, _, _, _, _, _, _, _, _, _, _, _, _, _, _, _, _, _, _, _, _, _, _]) rfl ?_
          first
            | refine OW_no rfl ?_
            | refine OW_load rfl rfl (by first | exact aLoad_ept rfl rfl | exact aLoad_ptr rfl (by first | rfl | assumption | exact put_same) rfl rfl) ?_
          refine OW_bin rfl rfl rfl rfl ((neLt ls[i] ls[i]).trans (by rw [decide_eq_true rfl])) ?_
          refine OW_env (e' := [_, _, _, _, _, _, _, _, _, _, _, _, _, _, _, _, _, _, _, _, _, _, _, _, _, _, _, _, _, _, _, _, _, _, _, _, _, _, _, _, _, _, _, _, _, _, _, _, _, _, _, _, _, _, _, _, _, _, _, _, _, _, _, _, _, _, _, _, _, _, _, _, _, _]) rfl ?_
          refine OW_pick rfl rfl rfl ?_
          refine OW_nilE (e' := [_, _, _, _, _, _, _, _, _, _, _, _, _, _, _, _, _, _, _, _, _, _, _, _, _, _, _, _, _, _, _, _, _, _, _, _, _, _, _, _, _, _, _, _, _, _, _, _, _, _, _, _, _, _, _, _, _, _, _, _, _, _, _, _, _, _, _, _, _, _, _, _, _, _]) rfl ?_
          refine XW_no rfl rfl ?_
          refine XW_skip ?_
          refine block_norm ?_
          refine then_norm ?_
          refine XW_region ?_
          refine OW_mv rfl rfl ?_
          first
            | refine OW_bin rfl rfl rfl rfl (add64 (by omega)) ?_
            | refine OW_bin rfl rfl rfl rfl (addu64 (by omega)) ?_
            | refine OW_bin rfl rfl rfl rfl rfl ?_
          refine OW_as rfl rfl ?_
          refine OW_nilE (e' := [_, _, _, _, _, _, _, _, _, _, _, _, _, _, _, _, _, _, _, _, _, _, _, _, _, _, _, _, _, _, _, _, _, _, _, _, _, _, _, _, _, _, _, _, _, _, _, _, _, _, _, _, _, _, _, _, _, _, _, _, _, _, _, _, _, _, _, _, _, _, _, _, _, _]) rfl ?_
          refine ⟨ls.length - (i + 1), by omega, i + 1, _, S4, rfl, by omega, under_in hU, (by repeat (first | assumption | exact far1 (by assumption) (by decide) | exact far2 (by assumption) (by decide) | exact far3 (by assumption) (by decide) | exact far4 (by assumption) (by decide) | exact far5 (by assumption) (by decide) | exact far6 (by assumption) (by decide) | exact far7 (by assumption) (by decide) | exact far8 (by assumption) (by decide) | refine under_dn ?_)), fun p hp => under_dn (hfν p hp), hm5, ?_, env_g rfl⟩
          rw [hd, List.length_cons, List.length_cons]; omega
      · refine OW_mv rfl rfl ?_
        refine OW_mv rfl rfl ?_
        refine OW_ia rfl rfl rfl (ia_lst T22 rfl T30 hxi rfl) ?_
        refine OW_env (e' := [_, _, _, _, _, _, _, _, _, _, _, _, _, _, _, _, _, _, _, _, _, _, _, _, _, _, _, _, _, _, _, _, _, _, _, _, _, _, _, _, _, _, _, _, _, _, _, _, _, _, _, _, _, _, _, _, _, _, _, _, _, _, _, _, _, _, _, _, _, _, _, _, _, _]) rfl ?_
        refine OW_fa rfl rfl rfl ?_
        refine OW_load rfl rfl (by first | exact aLoad_ept rfl rfl | exact aLoad_ptr rfl (by first | rfl | assumption | exact put_same) rfl rfl) ?_
        refine OW_mv rfl rfl ?_
        refine OW_bin rfl rfl rfl rfl (eq_no hf) ?_
        refine OW_env (e' := [_, _, _, _, _, _, _, _, _, _, _, _, _, _, _, _, _, _, _, _, _, _, _, _, _, _, _, _, _, _, _, _, _, _, _, _, _, _, _, _, _, _, _, _, _, _, _, _, _, _, _, _, _, _, _, _, _, _, _, _, _, _, _, _, _, _, _, _, _, _, _, _, _, _]) rfl ?_
        refine OW_mv rfl rfl ?_
        refine OW_no rfl ?_
        refine OW_no rfl ?_
        refine OW_no rfl ?_
        refine OW_no rfl ?_
        refine OW_no rfl ?_
        refine OW_no rfl ?_
        refine OW_no rfl ?_
        refine OW_env (e' := [_, _, _, _, _, _, _, _, _, _, _, _, _, _, _, _, _, _, _, _, _, _, _, _, _, _, _, _, _, _, _, _, _, _, _, _, _, _, _, _, _, _, _, _, _, _, _, _, _, _, _, _, _, _, _, _, _, _, _, _, _, _, _, _, _, _, _, _, _, _, _, _, _, _]) rfl ?_
        refine OW_pick rfl rfl rfl ?_
        refine OW_nilE (e' := [_, _, _, _, _, _, _, _, _, _, _, _, _, _, _, _, _, _, _, _, _, _, _, _, _, _, _, _, _, _, _, _, _, _, _, _, _, _, _, _, _, _, _, _, _, _, _, _, _, _, _, _, _, _, _, _, _, _, _, _, _, _, _, _, _, _, _, _, _, _, _, _, _, _]) rfl ?_
        have hKi : K ls[i] = true := by rw [hK]; simp [hf]
        rw [if_pos hKi] at hmx hd
        refine XW_no rfl rfl ?_
        refine XW_skip ?_
        refine then_norm ?_
        refine XW_sr ?_
        refine OW_mv rfl rfl ?_
        refine OW_fn rfl rfl (mTake hmx 0 (by have := List.length_filter_le K (ls.drop (i + 1)); simp; simp at this; omega) (by repeat (first | assumption | exact far1 (by assumption) (by decide) | exact far2 (by assumption) (by decide) | exact far3 (by assumption) (by decide) | exact far4 (by assumption) (by decide) | exact far5 (by assumption) (by decide) | exact far6 (by assumption) (by decide) | exact far7 (by assumption) (by decide) | exact far8 (by assumption) (by decide) | refine under_dn ?_)) (fun p hp => by have := hfν p hp; exact (by repeat (first | assumption | exact far1 (by assumption) (by decide) | exact far2 (by assumption) (by decide) | exact far3 (by assumption) (by decide) | exact far4 (by assumption) (by decide) | exact far5 (by assumption) (by decide) | exact far6 (by assumption) (by decide) | exact far7 (by assumption) (by decide) | exact far8 (by assumption) (by decide) | refine under_dn ?_))) (by omega) (fun h => by cases h) ?_)
        intro l H4 S4 hl4 hm4 _
        rw [pos0] at hl4 hm4
        obtain rfl : ls[i] = l := by simpa using hl4
        rw [List.eraseIdx_cons_zero] at hm4
        refine OW_env (e' := [_, _, _, _, _, _, _, _, _, _, _, _, _, _, _, _, _, _, _, _, _, _, _, _, _, _, _, _, _, _, _, _, _, _, _, _, _, _, _, _, _, _, _, _, _, _, _, _, _, _, _, _, _, _, _, _, _, _, _, _, _, _, _, _, _, _, _, _, _, _, _, _, _, _]) rfl ?_
        refine OW_mv rfl rfl ?_
        refine OW_ex rfl rfl rfl ?_
        refine OW_ex rfl rfl rfl ?_
        refine OW_env (e' := [_, _, _, _, _, _, _, _, _, _, _, _, _, _, _, _, _, _, _, _, _, _, _, _, _, _, _, _, _, _, _, _, _, _, _, _, _, _, _, _, _, _, _, _, _, _, _, _, _, _, _, _, _, _, _, _, _, _, _, _, _, _, _, _, _, _, _, _, _, _, _, _, _, _]) rfl ?_
        refine OW_alloc rfl rfl ?_
        refine OW_store rfl rfl rfl (aStore_ptr rfl (by first | rfl | assumption | exact put_same) rfl ⟨rfl, rfl, by decide⟩) ?_
        refine OW_as rfl rfl ?_
        refine OW_nilE (e' := [_, _, _, _, _, _, _, _, _, _, _, _, _, _, _, _, _, _, _, _, _, _, _, _, _, _, _, _, _, _, _, _, _, _, _, _, _, _, _, _, _, _, _, _, _, _, _, _, _, _, _, _, _, _, _, _, _, _, _, _, _, _, _, _, _, _, _, _, _, _, _, _, _, _]) rfl ?_
        refine XW_gen fun H5 hH5 => ?_
        have hm5 : IsMesh H5 qm ((ls.drop (i + 1)).filter K) S4 fp2 := by
          rw [hH5]; exact hm4.out (ν := 0 :: ν') (by repeat (first | assumption | exact far1 (by assumption) (by decide) | exact far2 (by assumption) (by decide) | exact far3 (by assumption) (by decide) | exact far4 (by assumption) (by decide) | exact far5 (by assumption) (by decide) | exact far6 (by assumption) (by decide) | exact far7 (by assumption) (by decide) | exact far8 (by assumption) (by decide) | refine under_dn ?_)) (fun p hp => under_dn (hfν p hp)) (by repeat (first | exact Out.refl | assumption | refine Out.put ?_ (by repeat (first | exact under_me | apply under_in))))
        have hl5 : H5 (5 :: 0 :: 1 :: 0 :: 1 :: 0 :: ν') = some (.row 3 [ls[i].enc]) := by rw [hH5]; exact put_same
        refine XW_sr ?_
        refine OW_mv rfl rfl ?_
        refine OW_un rfl rfl rfl ?_
        refine OW_mv rfl rfl ?_
        refine OW_load rfl rfl (load_row T30 rfl hl5 rfl rfl) ?_
        refine OW_env (e' := [_, _, _, _, _, _, _, _, _, _, _, _, _, _, _, _, _, _, _, _, _, _, _, _, _, _, _, _, _, _, _, _, _, _, _, _, _, _, _, _, _, _, _, _, _, _, _, _, _, _, _, _, _, _, _, _, _, _, _, _, _, _, _, _, _, _, _, _, _, _, _, _, _, _]) rfl ?_
        first
          | refine OW_no rfl ?_
          | refine OW_mv rfl rfl ?_
        first
          | refine OW_no rfl ?_
          | refine OW_mv rfl rfl ?_
        refine OW_ia rfl rfl rfl (ia_lst T22 rfl T30 hxi rfl) ?_
        refine OW_env (e' := [_, _, _, _, _, _, _, _, _, _, _, _, _, _, _, _, _, _, _, _, _, _, _, _, _, _, _, _, _, _, _, _, _, _, _, _, _, _, _, _, _, _, _, _, _, _, _, _, _, _, _, _, _, _, _, _, _, _, _, _, _, _, _, _, _, _, _, _, _, _, _, _, _, _]) rfl ?_
        first
          | refine OW_no rfl ?_
          | refine OW_load rfl rfl (by first | exact aLoad_ept rfl rfl | exact aLoad_ptr rfl (by first | rfl | assumption | exact put_same) rfl rfl) ?_
        refine OW_bin rfl rfl rfl rfl ((neLt ls[i] ls[i]).trans (by rw [decide_eq_true rfl])) ?_
        refine OW_env (e' := [_, _, _, _, _, _, _, _, _, _, _, _, _, _, _, _, _, _, _, _, _, _, _, _, _, _, _, _, _, _, _, _, _, _, _, _, _, _, _, _, _, _, _, _, _, _, _, _, _, _, _, _, _, _, _, _, _, _, _, _, _, _, _, _, _, _, _, _, _, _, _, _, _, _]) rfl ?_
        refine OW_pick rfl rfl rfl ?_
        refine OW_nilE (e' := [_, _, _, _, _, _, _, _, _, _, _, _, _, _, _, _, _, _, _, _, _, _, _, _, _, _, _, _, _, _, _, _, _, _, _, _, _, _, _, _, _, _, _, _, _, _, _, _, _, _, _, _, _, _, _, _, _, _, _, _, _, _, _, _, _, _, _, _, _, _, _, _, _, _]) rfl ?_
        refine XW_no rfl rfl ?_
        refine XW_skip ?_
        refine block_norm ?_
        refine then_norm ?_
        refine XW_region ?_
        refine OW_mv rfl rfl ?_
        first
          | refine OW_bin rfl rfl rfl rfl (add64 (by omega)) ?_
          | refine OW_bin rfl rfl rfl rfl (addu64 (by omega)) ?_
          | refine OW_bin rfl rfl rfl rfl rfl ?_
        refine OW_as rfl rfl ?_
        refine OW_nilE (e' := [_, _, _, _, _, _, _, _, _, _, _, _, _, _, _, _, _, _, _, _, _, _, _, _, _, _, _, _, _, _, _, _, _, _, _, _, _, _, _, _, _, _, _, _, _, _, _, _, _, _, _, _, _, _, _, _, _, _, _, _, _, _, _, _, _, _, _, _, _, _, _, _, _, _]) rfl ?_
        refine ⟨ls.length - (i + 1), by omega, i + 1, _, S4, rfl, by omega, under_in hU, (by repeat (first | assumption | exact far1 (by assumption) (by decide) | exact far2 (by assumption) (by decide) | exact far3 (by assumption) (by decide) | exact far4 (by assumption) (by decide) | exact far5 (by assumption) (by decide) | exact far6 (by assumption) (by decide) | exact far7 (by assumption) (by decide) | exact far8 (by assumption) (by decide) | refine under_dn ?_)), fun p hp => under_dn (hfν p hp), hm5, ?_, env_g rfl⟩
        rw [hd, List.length_cons, List.length_cons]; omega
    · obtain rfl : i = ls.length := by omega
      rw [List.drop_length, List.filter_nil] at hmx
      have hd0 : d = 0 := by rw [hd, List.drop_length]; rfl
      subst hd0
      refine OW_mv rfl rfl ?_
      refine OW_mv rfl rfl ?_
      first
        | refine OW_bi rfl rfl (aLen_map rfl) ?_
        | refine OW_bi rfl rfl (aLen rfl rfl) ?_
      refine OW_env (e' := [_, _, _, _, _, _, _, _, _, _, _, _, _, _, _, _, _, _, _, _, _, _, _, _, _, _, _, _, _, _, _, _, _, _, _, _, _, _, _, _, _, _, _, _, _, _, _, _, _, _, _, _, _, _, _, _, _, _, _, _, _, _, _, _, _, _, _, _, _, _, _, _, _, _]) rfl ?_
      first
        | refine OW_bin rfl rfl rfl rfl (lss_yes (by omega)) ?_
        | refine OW_bin rfl rfl rfl rfl (lss_no (by omega)) ?_
        | refine OW_bin rfl rfl rfl rfl rfl ?_
      refine OW_nilE (e' := [_, _, _, _, _, _, _, _, _, _, _, _, _, _, _, _, _, _, _, _, _, _, _, _, _, _, _, _, _, _, _, _, _, _, _, _, _, _, _, _, _, _, _, _, _, _, _, _, _, _, _, _, _, _, _, _, _, _, _, _, _, _, _, _, _, _, _, _, _, _, _, _, _, _]) rfl ?_
      refine XW_no rfl rfl ?_
      refine XW_exit ?_
      refine then_exit ?_
      refine block_exit ?_
      refine then_norm ?_
      refine XW_sr ?_
      refine OW_mv rfl rfl ?_
      first
        | refine OW_bin rfl rfl rfl rfl (eq_yes (by omega)) ?_
        | refine OW_bin rfl rfl rfl rfl (eq_no (by omega)) ?_
        | refine OW_bin rfl rfl rfl rfl rfl ?_
      refine OW_mv rfl rfl ?_
      refine OW_env (e' := [_, _, _, _, _, _, _, _, _, _, _, _, _, _, _, _, _, _, _, _, _, _, _, _, _, _, _, _, _, _, _, _, _, _, _, _, _, _, _, _, _, _, _, _, _, _, _, _, _, _, _, _, _, _, _, _, _, _, _, _, _, _, _, _, _, _, _, _, _, _, _, _, _, _]) rfl ?_
      first
        | refine OW_no rfl ?_
        | refine OW_mv rfl rfl ?_
      refine OW_fn rfl rfl (many hmx ?_)
      refine OW_env (e' := [_, _, _, _, _, _, _, _, _, _, _, _, _, _, _, _, _, _, _, _, _, _, _, _, _, _, _, _, _, _, _, _, _, _, _, _, _, _, _, _, _, _, _, _, _, _, _, _, _, _, _, _, _, _, _, _, _, _, _, _, _, _, _, _, _, _, _, _, _, _, _, _, _, _]) rfl ?_
      first
        | refine OW_no rfl ?_
        | refine OW_bin rfl rfl rfl rfl (eq_yes (by omega)) ?_
        | refine OW_bin rfl rfl rfl rfl (eq_no (by omega)) ?_
        | refine OW_bin rfl rfl rfl rfl rfl ?_
      refine OW_pick rfl rfl rfl ?_
      refine OW_as rfl rfl ?_
      refine OW_nilE (e' := [_, _, _, _, _, _, _, _, _, _, _, _, _, _, _, _, _, _, _, _, _, _, _, _, _, _, _, _, _, _, _, _, _, _, _, _, _, _, _, _, _, _, _, _, _, _, _, _, _, _, _, _, _, _, _, _, _, _, _, _, _, _, _, _, _, _, _, _, _, _, _, _, _, _]) rfl ?_
      refine XW_ret ?_
      exact ret_ret rfl rfl
  · refine OW_env (e' := [_, _, _, _, _, _, _, _, _, _, _, _, _, _, _, _, _, _, _, _, _, _, _, _, _, _, _, _, _, _, _, _, _, _, _, _, _, _, _, _, _, _, _, _, _, _, _, _, _, _, _, _, _, _, _, _, _, _, _, _, _, _, _, _, _, _, _, _, _, _, _, _, _, _]) rfl ?_
    refine OW_un rfl rfl rfl ?_
    refine OW_mv rfl rfl ?_
    first
      | refine OW_no rfl ?_
      | refine OW_mv rfl rfl ?_
    refine OW_env (e' := [_, _, _, _, _, _, _, _, _, _, _, _, _, _, _, _, _, _, _, _, _, _, _, _, _, _, _, _, _, _, _, _, _, _, _, _, _, _, _, _, _, _, _, _, _, _, _, _, _, _, _, _, _, _, _, _, _, _, _, _, _, _, _, _, _, _, _, _, _, _, _, _, _, _]) rfl ?_
    first
      | refine OW_no rfl ?_
      | refine OW_bi rfl rfl (aLen_map rfl) ?_
      | refine OW_bi rfl rfl (aLen rfl rfl) ?_
    first
      | refine OW_no rfl ?_
      | refine OW_bin rfl rfl rfl rfl (gtr_yes (by omega)) ?_
      | refine OW_bin rfl rfl rfl rfl (gtr_no (by omega)) ?_
      | refine OW_bin rfl rfl rfl rfl rfl ?_
    refine OW_pick rfl rfl rfl ?_
    refine OW_nilE (e' := [_, _, _, _, _, _, _, _, _, _, _, _, _, _, _, _, _, _, _, _, _, _, _, _, _, _, _, _, _, _, _, _, _, _, _, _, _, _, _, _, _, _, _, _, _, _, _, _, _, _, _, _, _, _, _, _, _, _, _, _, _, _, _, _, _, _, _, _, _, _, _, _, _, _]) rfl ?_
    refine XW_yes rfl rfl ?_
    refine XW_sr ?_
    refine OW_fn rfl rfl (fixedW (by kernel_rfl) ?_)
    refine OW_env (e' := [_, _, _, _, _, _, _, _, _, _, _, _, _, _, _, _, _, _, _, _, _, _, _, _, _, _, _, _, _, _, _, _, _, _, _, _, _, _, _, _, _, _, _, _, _, _, _, _, _, _, _, _, _, _, _, _, _, _, _, _, _, _, _, _, _, _, _, _, _, _, _, _, _, _]) rfl ?_
    refine OW_as rfl rfl ?_
    refine OW_nilE (e' := [_, _, _, _, _, _, _, _, _, _, _, _, _, _, _, _, _, _, _, _, _, _, _, _, _, _, _, _, _, _, _, _, _, _, _, _, _, _, _, _, _, _, _, _, _, _, _, _, _, _, _, _, _, _, _, _, _, _, _, _, _, _, _, _, _, _, _, _, _, _, _, _, _, _]) rfl ?_
    refine XW_ret ?_
    refine then_ret ?_
    exact ret_ret rfl rfl
theorem MeshOrders_true (a0 : (List Lt)) (n0 : Nat) (q0 : (Open.QSl (fun x : Lt => (Open.QSt (Open.QPair (Open.QInt .u64) (Open.QPair (Open.QInt .u64) Open.QStr))) (x.f, x.t, x.s))) a0 n0) (a1 : Int) (n1 : Nat) (q1 : (Open.QInt .u64) a1 n1) (a2 : Int) (n2 : Nat) (q2 : (Open.QInt .u64) a2 n2) (y0 : a0.length * 32 ≤ 140737488351232) :
    CW cfg [] 5 [AVal.lst (a0.map Lt.enc), AVal.int .u64 a1, AVal.int .u64 a2] (fun _ => none) (fun v _ => v = .bool true) :=
  orders a0 a1 a2 (by omega)
end Go.Proofs.Ytollcfhmmlpleaa.X
