/- Layer 19: the reference's Take and Lose. -/
import Derived.Test.YtollcfhmmlpleaaM12
set_option linter.unusedVariables false
set_option linter.unusedSimpArgs false
set_option maxRecDepth 100000
namespace Go.Proofs.Ytollcfhmmlpleaa.X
open Go Go.RowKit
variable {ν : Nm} {H : Heap} {Q : AVal → Heap → Prop}
abbrev z0 : Lt := ⟨0, 0, ⟨#[]⟩⟩
theorem rTake {v : AVal} {bs : List Lt} (hv : Lv v bs) (hb : bs.length ≤ 4096) (pick : Int)
    (h0 : bs = [] → Q (.tup [.lst [], z0.enc, .bool false]) H) (h1 : ∀ l, bs[pos pick bs.length]? = some l → Q (.tup [.lst ((bs.eraseIdx (pos pick bs.length)).map Lt.enc), l.enc, .bool true]) H) : CW cfg ν 16 [v, .int .i64 pick] H Q := by
  refine CW_pure g16 F16 rfl ?_
  refine XW_sr ?_
  refine OW_as rfl rfl ?_
  refine OW_alloc rfl rfl ?_
  refine OW_as rfl rfl ?_
  refine OW_nilE (e' := [_, _, _, _, _, _, _, _, _, _, _, _, _, _, _, _, _, _, _, _, _, _, _, _, _, _, _, _, _, _, _, _, _, _, _, _, _, _, _, _, _]) rfl ?_
  refine XW_seq ?_
  refine XW_sr ?_
  refine OW_mv rfl rfl ?_
  refine OW_bi rfl rfl (aLen hv.kind hv.len) ?_
  by_cases hn : bs.length = 0
  · obtain rfl : bs = [] := List.eq_nil_of_length_eq_zero hn
    refine OW_env (e' := [_, _, _, _, _, _, _, _, _, _, _, _, _, _, _, _, _, _, _, _, _, _, _, _, _, _, _, _, _, _, _, _, _, _, _, _, _, _, _, _, _]) rfl ?_
    first
      | refine OW_bin rfl rfl rfl rfl (eq_yes (by omega)) ?_
      | refine OW_bin rfl rfl rfl rfl (eq_no (by omega)) ?_
      | refine OW_bin rfl rfl rfl rfl rfl ?_
    refine OW_nilE (e' := [_, _, _, _, _, _, _, _, _, _, _, _, _, _, _, _, _, _, _, _, _, _, _, _, _, _, _, _, _, _, _, _, _, _, _, _, _, _, _, _, _]) rfl ?_
    refine XW_yes rfl rfl ?_
    refine XW_sr ?_
    refine OW_mv rfl rfl ?_
    refine OW_bd rfl rfl rfl ?_
    refine OW_as rfl rfl ?_
    refine OW_env (e' := [_, _, _, _, _, _, _, _, _, _, _, _, _, _, _, _, _, _, _, _, _, _, _, _, _, _, _, _, _, _, _, _, _, _, _, _, _, _, _, _, _]) rfl ?_
    refine OW_store rfl rfl rfl (aStore_ptr rfl (by first | rfl | assumption | exact put_same) rfl ⟨rfl, rfl, by decide⟩) ?_
    refine OW_as rfl rfl ?_
    refine OW_nilE (e' := [_, _, _, _, _, _, _, _, _, _, _, _, _, _, _, _, _, _, _, _, _, _, _, _, _, _, _, _, _, _, _, _, _, _, _, _, _, _, _, _, _]) rfl ?_
    refine XW_ret ?_
    refine then_ret ?_
    refine ret_ret (res3 rfl (rv_tmp rfl) (rv_cell rfl (aLoad_ptr T30 put_same rfl rfl)) (rv_tmp rfl)) ?_
    rcases hv with rfl | ⟨rfl, _⟩
    · exact h0 rfl
    · exact h0 rfl
  · refine OW_env (e' := [_, _, _, _, _, _, _, _, _, _, _, _, _, _, _, _, _, _, _, _, _, _, _, _, _, _, _, _, _, _, _, _, _, _, _, _, _, _, _, _, _]) rfl ?_
    first
      | refine OW_bin rfl rfl rfl rfl (eq_yes (by omega)) ?_
      | refine OW_bin rfl rfl rfl rfl (eq_no (by omega)) ?_
      | refine OW_bin rfl rfl rfl rfl rfl ?_
    refine OW_nilE (e' := [_, _, _, _, _, _, _, _, _, _, _, _, _, _, _, _, _, _, _, _, _, _, _, _, _, _, _, _, _, _, _, _, _, _, _, _, _, _, _, _, _]) rfl ?_
    refine XW_no rfl rfl ?_
    refine XW_skip ?_
    refine then_norm ?_
    obtain rfl : v = .lst (bs.map Lt.enc) := by
      rcases hv with rfl | ⟨_, rfl⟩
      · rfl
      · exact absurd rfl hn
    obtain ⟨p1, p2⟩ := pos_lt (pick := pick) hn
    refine XW_sr ?_
    refine OW_mv rfl rfl ?_
    refine OW_mv rfl rfl ?_
    first
      | refine OW_bi rfl rfl (aLen_map rfl) ?_
      | refine OW_bi rfl rfl (aLen rfl rfl) ?_
    refine OW_fn rfl rfl (rAt pick bs.length hn (by omega) ?_)
    generalize hj : pos pick bs.length = j at *
    refine OW_env (e' := [_, _, _, _, _, _, _, _, _, _, _, _, _, _, _, _, _, _, _, _, _, _, _, _, _, _, _, _, _, _, _, _, _, _, _, _, _, _, _, _, _]) rfl ?_
    refine OW_as rfl rfl ?_
    refine OW_nilE (e' := [_, _, _, _, _, _, _, _, _, _, _, _, _, _, _, _, _, _, _, _, _, _, _, _, _, _, _, _, _, _, _, _, _, _, _, _, _, _, _, _, _]) rfl ?_
    refine XW_sr ?_
    refine OW_bs rfl rfl rfl ?_
    refine OW_as rfl rfl ?_
    refine OW_nilE (e' := [_, _, _, _, _, _, _, _, _, _, _, _, _, _, _, _, _, _, _, _, _, _, _, _, _, _, _, _, _, _, _, _, _, _, _, _, _, _, _, _, _]) rfl ?_
    refine XW_seq ?_
    refine XW_sr ?_
    refine OW_as rfl rfl ?_
    refine OW_nilE (e' := [_, _, _, _, _, _, _, _, _, _, _, _, _, _, _, _, _, _, _, _, _, _, _, _, _, _, _, _, _, _, _, _, _, _, _, _, _, _, _, _, _]) rfl ?_
    refine XW_block ?_
    refine XW_whileN (I := fun ν' n e H' => ∃ (i : Nat) (O : AVal) (fO : List Nm), n = bs.length - i ∧ i ≤ bs.length ∧ under (1 :: 0 :: 1 :: 1 :: 1 :: 1 :: ν) ν' = true ∧ (∀ p ∈ fO, under ν p = true ∧ under ν' p = false ∧ p ≠ 1 :: 0 :: ν) ∧ H' (1 :: 0 :: ν) = some (.row 3 [z0.enc]) ∧ Sl H' 3 (((bs.take i).eraseIdx j).map Lt.enc) O fO ∧ ∃ g : Nat → AVal, e = [.lst (bs.map Lt.enc), .int .i64 pick, g 2, g 3, g 4, .ptr (1 :: 0 :: ν) 0 0, .bool false, .int .i64 j, O, .int .i64 i, g 10, g 11, g 12, g 13, g 14, g 15, g 16, g 17, g 18, g 19, g 20, g 21, g 22, g 23, g 24, g 25, g 26, g 27, g 28, g 29, g 30, g 31, g 32, g 33, g 34, g 35, g 36, g 37, g 38, g 39, g 40]) ?_ bs.length _ _ _
      ⟨0, .emp, [], by omega, by omega, under_me, by simp, put_same, .emp (by simp), env_g rfl⟩
    rintro ν' n e H' ⟨i, O, fO, rfl, hi, hU, hfO, hz, hs, g, rfl⟩
    have hzν : under ν' (1 :: 0 :: ν) = false := out_of hU (under_len (by simp))
    refine XW_seq ?_
    refine XW_sr ?_
    by_cases hlt : i < bs.length
    · have hxi : (bs.map Lt.enc)[i]? = some (bs[i].enc) := by simp [hlt]
      have hst := eraseIdx_step (j := j) hlt
      refine OW_mv rfl rfl ?_
      refine OW_mv rfl rfl ?_
      first
        | refine OW_bi rfl rfl (aLen_map rfl) ?_
        | refine OW_bi rfl rfl (aLen rfl rfl) ?_
      refine OW_env (e' := [_, _, _, _, _, _, _, _, _, _, _, _, _, _, _, _, _, _, _, _, _, _, _, _, _, _, _, _, _, _, _, _, _, _, _, _, _, _, _, _, _]) rfl ?_
      first
        | refine OW_bin rfl rfl rfl rfl (lss_yes (by omega)) ?_
        | refine OW_bin rfl rfl rfl rfl (lss_no (by omega)) ?_
        | refine OW_bin rfl rfl rfl rfl rfl ?_
      refine OW_nilE (e' := [_, _, _, _, _, _, _, _, _, _, _, _, _, _, _, _, _, _, _, _, _, _, _, _, _, _, _, _, _, _, _, _, _, _, _, _, _, _, _, _, _]) rfl ?_
      refine XW_yes rfl rfl ?_
      refine XW_skip ?_
      refine then_norm ?_
      refine XW_seq ?_
      refine XW_block ?_
      refine XW_sr ?_
      by_cases hc : i = j
      · rw [if_pos hc] at hst
        refine OW_mv rfl rfl ?_
        refine OW_mv rfl rfl ?_
        first
          | refine OW_bin rfl rfl rfl rfl (ne_yes (by omega)) ?_
          | refine OW_bin rfl rfl rfl rfl (ne_no (by omega)) ?_
          | refine OW_bin rfl rfl rfl rfl rfl ?_
        refine OW_nilE (e' := [_, _, _, _, _, _, _, _, _, _, _, _, _, _, _, _, _, _, _, _, _, _, _, _, _, _, _, _, _, _, _, _, _, _, _, _, _, _, _, _, _]) rfl ?_
        refine XW_no rfl rfl ?_
        refine XW_skip ?_
        refine block_norm ?_
        refine then_norm ?_
        refine XW_region ?_
        refine OW_mv rfl rfl ?_
        first
          | refine OW_bin rfl rfl rfl rfl (add64 (by omega)) ?_
          | refine OW_bin rfl rfl rfl rfl (addu64 (by omega)) ?_
          | refine OW_bin rfl rfl rfl rfl rfl ?_
        refine OW_as rfl rfl ?_
        refine OW_nilE (e' := [_, _, _, _, _, _, _, _, _, _, _, _, _, _, _, _, _, _, _, _, _, _, _, _, _, _, _, _, _, _, _, _, _, _, _, _, _, _, _, _, _]) rfl ?_
        exact ⟨bs.length - (i + 1), by omega, i + 1, O, fO, rfl, by omega, under_in hU, fun p hp => ⟨(hfO p hp).1, under_dn (hfO p hp).2.1, (hfO p hp).2.2⟩, hz, hs.cast (by rw [hst]), env_g rfl⟩
      · rw [if_neg hc] at hst
        refine OW_mv rfl rfl ?_
        refine OW_mv rfl rfl ?_
        first
          | refine OW_bin rfl rfl rfl rfl (ne_yes (by omega)) ?_
          | refine OW_bin rfl rfl rfl rfl (ne_no (by omega)) ?_
          | refine OW_bin rfl rfl rfl rfl rfl ?_
        refine OW_nilE (e' := [_, _, _, _, _, _, _, _, _, _, _, _, _, _, _, _, _, _, _, _, _, _, _, _, _, _, _, _, _, _, _, _, _, _, _, _, _, _, _, _, _]) rfl ?_
        refine XW_yes rfl rfl ?_
        refine XW_region ?_
        refine OW_mv rfl rfl ?_
        refine OW_mv rfl rfl ?_
        refine OW_mv rfl rfl ?_
        refine OW_ia rfl rfl rfl (ia_lst T22 rfl T30 hxi rfl) ?_
        refine OW_env (e' := [_, _, _, _, _, _, _, _, _, _, _, _, _, _, _, _, _, _, _, _, _, _, _, _, _, _, _, _, _, _, _, _, _, _, _, _, _, _, _, _, _]) rfl ?_
        refine OW_load rfl rfl (by first | exact aLoad_ept rfl rfl | exact aLoad_ptr rfl (by first | rfl | assumption | exact put_same) rfl rfl) ?_
        refine OW_bs rfl rfl rfl ?_
        obtain ⟨O2, H2, ha2, fO2, hs2, hf2, hfr2⟩ := hs.app (ν := 6 :: 1 :: 0 :: 1 :: 0 :: ν') (Y := .lst [bs[i].enc]) (ys := [bs[i].enc]) T22 rfl T30 rfl rfl (fun y hy => by rw [List.mem_singleton] at hy; rw [hy]; rfl) (by
          have : (((bs.take i).eraseIdx j).map Lt.enc).length + [bs[i].enc].length ≤ 8192 := by
            have := List.length_eraseIdx_le (bs.take i) j
            rw [List.length_take] at this
            rw [List.length_map, List.length_singleton]; omega
          exact Nat.le_trans (Nat.mul_le_mul_right _ this) (by decide)) (fun hm => (far (hfO _ hm).2.1 (by repeat (first | exact under_me | apply under_in))) rfl)
        refine OW_bi rfl rfl (app_bi rfl ha2) ?_
        refine OW_env (e' := [_, _, _, _, _, _, _, _, _, _, _, _, _, _, _, _, _, _, _, _, _, _, _, _, _, _, _, _, _, _, _, _, _, _, _, _, _, _, _, _, _]) rfl ?_
        refine OW_as rfl rfl ?_
        refine OW_nilE (e' := [_, _, _, _, _, _, _, _, _, _, _, _, _, _, _, _, _, _, _, _, _, _, _, _, _, _, _, _, _, _, _, _, _, _, _, _, _, _, _, _, _]) rfl ?_
        refine block_norm ?_
        refine then_norm ?_
        refine XW_region ?_
        refine OW_mv rfl rfl ?_
        first
          | refine OW_bin rfl rfl rfl rfl (add64 (by omega)) ?_
          | refine OW_bin rfl rfl rfl rfl (addu64 (by omega)) ?_
          | refine OW_bin rfl rfl rfl rfl rfl ?_
        refine OW_as rfl rfl ?_
        refine OW_nilE (e' := [_, _, _, _, _, _, _, _, _, _, _, _, _, _, _, _, _, _, _, _, _, _, _, _, _, _, _, _, _, _, _, _, _, _, _, _, _, _, _, _, _]) rfl ?_
        refine ⟨bs.length - (i + 1), by omega, i + 1, O2, fO2, rfl, by omega, under_in hU, fun p hp => ?_, ?_, hs2.cast ?_, env_g rfl⟩
        · rcases hf2 p hp with h | rfl
          · exact ⟨(hfO p h).1, under_dn (hfO p h).2.1, (hfO p h).2.2⟩
          · have h2 : under ν ν' = true := under_trans (under_in (under_in (under_in (under_in (under_in (under_in under_me)))))) hU
            exact ⟨under_in (under_in (under_in (under_in (under_in h2)))), under_far (i := 0) rfl (by repeat (first | exact under_me | apply under_in)), (far hzν (by repeat (first | exact under_me | apply under_in))).symm⟩
        · rw [hfr2 _ (fun hm => (hfO _ hm).2.2 rfl) (far hzν (by repeat (first | exact under_me | apply under_in)))]; exact hz
        · rw [hst]; simp only [List.map_append, List.map_cons, List.map_nil]
    · obtain rfl : i = bs.length := by omega
      rw [List.take_length] at hs
      have hxj : (bs.map Lt.enc)[j]? = some (bs[j].enc) := by simp [p1]
      refine OW_mv rfl rfl ?_
      refine OW_mv rfl rfl ?_
      first
        | refine OW_bi rfl rfl (aLen_map rfl) ?_
        | refine OW_bi rfl rfl (aLen rfl rfl) ?_
      refine OW_env (e' := [_, _, _, _, _, _, _, _, _, _, _, _, _, _, _, _, _, _, _, _, _, _, _, _, _, _, _, _, _, _, _, _, _, _, _, _, _, _, _, _, _]) rfl ?_
      first
        | refine OW_bin rfl rfl rfl rfl (lss_yes (by omega)) ?_
        | refine OW_bin rfl rfl rfl rfl (lss_no (by omega)) ?_
        | refine OW_bin rfl rfl rfl rfl rfl ?_
      refine OW_nilE (e' := [_, _, _, _, _, _, _, _, _, _, _, _, _, _, _, _, _, _, _, _, _, _, _, _, _, _, _, _, _, _, _, _, _, _, _, _, _, _, _, _, _]) rfl ?_
      refine XW_no rfl rfl ?_
      refine XW_exit ?_
      refine then_exit ?_
      refine block_exit ?_
      refine then_norm ?_
      refine XW_sr ?_
      refine OW_mv rfl rfl ?_
      refine OW_mv rfl rfl ?_
      refine OW_mv rfl rfl ?_
      refine OW_ia rfl rfl rfl (ia_lst T22 rfl T30 hxj rfl) ?_
      refine OW_env (e' := [_, _, _, _, _, _, _, _, _, _, _, _, _, _, _, _, _, _, _, _, _, _, _, _, _, _, _, _, _, _, _, _, _, _, _, _, _, _, _, _, _]) rfl ?_
      refine OW_load rfl rfl (by first | exact aLoad_ept rfl rfl | exact aLoad_ptr rfl (by first | rfl | assumption | exact put_same) rfl rfl) ?_
      refine OW_as rfl rfl ?_
      refine OW_store rfl rfl rfl (store_row (l := bs[j]) (l0 := z0) hz rfl) ?_
      refine OW_env (e' := [_, _, _, _, _, _, _, _, _, _, _, _, _, _, _, _, _, _, _, _, _, _, _, _, _, _, _, _, _, _, _, _, _, _, _, _, _, _, _, _, _]) rfl ?_
      refine OW_as rfl rfl ?_
      refine OW_nilE (e' := [_, _, _, _, _, _, _, _, _, _, _, _, _, _, _, _, _, _, _, _, _, _, _, _, _, _, _, _, _, _, _, _, _, _, _, _, _, _, _, _, _]) rfl ?_
      refine XW_ret ?_
      refine ret_ret (res3 rfl (rv_tmp rfl) (rv_cell rfl (aLoad_ptr T30 put_same rfl rfl)) (rv_tmp rfl)) ?_
      have hs' : Sl (H'.put (1 :: 0 :: ν) (some (.row 3 ([z0.enc].set 0 bs[j].enc)))) 3 ((bs.eraseIdx j).map Lt.enc) O fO := hs.frame fun p hp => put_ne (hfO p hp).2.2
      have e1 : freeze ν (H'.put (1 :: 0 :: ν) (some (.row 3 ([z0.enc].set 0 bs[j].enc)))) 8 (.tup [O, bs[j].enc, .bool true]) = .tup [freeze ν (H'.put (1 :: 0 :: ν) (some (.row 3 ([z0.enc].set 0 bs[j].enc)))) 7 O, bs[j].enc, .bool true] := rfl
      have h2 := h1 bs[j] (List.getElem?_eq_getElem p1)
      rw [← hs'.freeze (fun q hq => (hfO q hq).1) (enc_plain _) (n := 6)] at h2
      exact h2
end Go.Proofs.Ytollcfhmmlpleaa.X
