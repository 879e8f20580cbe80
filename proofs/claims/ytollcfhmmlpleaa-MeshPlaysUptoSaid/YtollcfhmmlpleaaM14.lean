/- Layer 19: the reference's Lose. -/
import Derived.Test.YtollcfhmmlpleaaM13
set_option linter.unusedVariables false
set_option linter.unusedSimpArgs false
set_option maxRecDepth 100000
namespace Go.Proofs.Ytollcfhmmlpleaa.X
open Go Go.RowKit
variable {ν : Nm} {H : Heap} {Q : AVal → Heap → Prop}
def kept (f t : Int) : Lt → Bool := fun l => !(decide (l.f = f) && decide (l.t = t))
theorem rLose {v : AVal} {bs : List Lt} (hv : Lv v bs) (hb : bs.length ≤ 4096) (f t : Int)
    (hq : Q (.tup [.lst ((bs.filter (kept f t)).map Lt.enc), .int .i64 (bs.length - (bs.filter (kept f t)).length)]) H) : CW cfg ν 17 [v, .int .u64 f, .int .u64 t] H Q := by
  refine CW_pure g17 F17 rfl ?_
  refine XW_sr ?_
  refine OW_as rfl rfl ?_
  refine OW_as rfl rfl ?_
  refine OW_nilE (e' := [_, _, _, _, _, _, _, _, _, _, _, _, _, _, _, _, _, _, _, _, _, _, _, _, _, _, _, _, _, _, _, _, _, _, _, _, _, _, _, _, _, _, _, _, _, _]) rfl ?_
  refine XW_sr ?_
  refine OW_bs rfl rfl rfl ?_
  refine OW_as rfl rfl ?_
  refine OW_nilE (e' := [_, _, _, _, _, _, _, _, _, _, _, _, _, _, _, _, _, _, _, _, _, _, _, _, _, _, _, _, _, _, _, _, _, _, _, _, _, _, _, _, _, _, _, _, _, _]) rfl ?_
  refine XW_seq ?_
  refine XW_sr ?_
  refine OW_as rfl rfl ?_
  refine OW_nilE (e' := [_, _, _, _, _, _, _, _, _, _, _, _, _, _, _, _, _, _, _, _, _, _, _, _, _, _, _, _, _, _, _, _, _, _, _, _, _, _, _, _, _, _, _, _, _, _]) rfl ?_
  refine XW_block ?_
  refine XW_whileN (I := fun ν' n e H' => ∃ (i : Nat) (O : AVal) (fO : List Nm), n = bs.length - i ∧ i ≤ bs.length ∧ under ν ν' = true ∧ (∀ p ∈ fO, under ν p = true ∧ under ν' p = false) ∧ Sl H' 3 (((bs.take i).filter (kept f t)).map Lt.enc) O fO ∧ ∃ g : Nat → AVal, e = [v, .int .u64 f, .int .u64 t, g 3, g 4, g 5, g 6, g 7, O, .int .i64 i, g 10, g 11, g 12, g 13, g 14, g 15, g 16, g 17, g 18, g 19, g 20, g 21, g 22, g 23, g 24, g 25, g 26, g 27, g 28, g 29, g 30, g 31, g 32, g 33, g 34, g 35, g 36, g 37, g 38, g 39, g 40, g 41, g 42, g 43, g 44, g 45]) ?_ bs.length _ _ _
    ⟨0, .emp, [], by omega, by omega, (by repeat (first | exact under_me | apply under_in)), by simp, .emp (by simp), env_g rfl⟩
  rintro ν' n e H' ⟨i, O, fO, rfl, hi, hU, hfO, hs, g, rfl⟩
  refine XW_seq ?_
  refine XW_sr ?_
  by_cases hlt : i < bs.length
  · obtain rfl : v = .lst (bs.map Lt.enc) := by
      rcases hv with rfl | ⟨_, rfl⟩
      · rfl
      · simp at hlt
    have hxi : (bs.map Lt.enc)[i]? = some (bs[i].enc) := by simp [hlt]
    have hst : (bs.take (i + 1)).filter (kept f t) = (bs.take i).filter (kept f t) ++ (if kept f t bs[i] then [bs[i]] else []) := by
      rw [← List.take_append_getElem hlt, List.filter_append]
      congr 1
      by_cases hk : kept f t bs[i] = true <;> simp [hk]
    refine OW_mv rfl rfl ?_
    refine OW_mv rfl rfl ?_
    first
      | refine OW_bi rfl rfl (aLen_map rfl) ?_
      | refine OW_bi rfl rfl (aLen rfl rfl) ?_
    refine OW_env (e' := [_, _, _, _, _, _, _, _, _, _, _, _, _, _, _, _, _, _, _, _, _, _, _, _, _, _, _, _, _, _, _, _, _, _, _, _, _, _, _, _, _, _, _, _, _, _]) rfl ?_
    first
      | refine OW_bin rfl rfl rfl rfl (lss_yes (by omega)) ?_
      | refine OW_bin rfl rfl rfl rfl (lss_no (by omega)) ?_
      | refine OW_bin rfl rfl rfl rfl rfl ?_
    refine OW_nilE (e' := [_, _, _, _, _, _, _, _, _, _, _, _, _, _, _, _, _, _, _, _, _, _, _, _, _, _, _, _, _, _, _, _, _, _, _, _, _, _, _, _, _, _, _, _, _, _]) rfl ?_
    refine XW_yes rfl rfl ?_
    refine XW_skip ?_
    refine then_norm ?_
    refine XW_seq ?_
    refine XW_block ?_
    refine XW_sr ?_
    have hsz : (((bs.take i).filter (kept f t)).map Lt.enc).length + [bs[i].enc].length ≤ 0 + 8192 := by
      have := List.length_filter_le (kept f t) (bs.take i)
      rw [List.length_take] at this
      rw [List.length_map, List.length_singleton]; omega
    have hsz : ((((bs.take i).filter (kept f t)).map Lt.enc).length + [bs[i].enc].length) * (32 + 1) ≤ 1099511627776 := Nat.le_trans (Nat.mul_le_mul_right _ hsz) (by decide)
    refine OW_mv rfl rfl ?_
    refine OW_mv rfl rfl ?_
    refine OW_ia rfl rfl rfl (ia_lst T22 rfl T30 hxi rfl) ?_
    refine OW_env (e' := [_, _, _, _, _, _, _, _, _, _, _, _, _, _, _, _, _, _, _, _, _, _, _, _, _, _, _, _, _, _, _, _, _, _, _, _, _, _, _, _, _, _, _, _, _, _]) rfl ?_
    refine OW_fa rfl rfl rfl ?_
    refine OW_load rfl rfl (by first | exact aLoad_ept rfl rfl | exact aLoad_ptr rfl (by first | rfl | assumption | exact put_same) rfl rfl) ?_
    refine OW_mv rfl rfl ?_
    by_cases hf : bs[i].f = f
    · refine OW_bin rfl rfl rfl rfl (ne_no hf) ?_
      refine OW_env (e' := [_, _, _, _, _, _, _, _, _, _, _, _, _, _, _, _, _, _, _, _, _, _, _, _, _, _, _, _, _, _, _, _, _, _, _, _, _, _, _, _, _, _, _, _, _, _]) rfl ?_
      refine OW_mv rfl rfl ?_
      first
        | refine OW_no rfl ?_
        | refine OW_mv rfl rfl ?_
      first
        | refine OW_no rfl ?_
        | refine OW_mv rfl rfl ?_
      refine OW_ia rfl rfl rfl (ia_lst T22 rfl T30 hxi rfl) ?_
      refine OW_env (e' := [_, _, _, _, _, _, _, _, _, _, _, _, _, _, _, _, _, _, _, _, _, _, _, _, _, _, _, _, _, _, _, _, _, _, _, _, _, _, _, _, _, _, _, _, _, _]) rfl ?_
      first
        | refine OW_no rfl ?_
        | refine OW_fa rfl rfl rfl ?_
      first
        | refine OW_no rfl ?_
        | refine OW_load rfl rfl (by first | exact aLoad_ept rfl rfl | exact aLoad_ptr rfl (by first | rfl | assumption | exact put_same) rfl rfl) ?_
      first
        | refine OW_no rfl ?_
        | refine OW_mv rfl rfl ?_
      by_cases ht : bs[i].t = t
      · have hk : kept f t bs[i] = false := by simp [kept, hf, ht]
        rw [if_neg (by simp [hk]), List.append_nil] at hst
        refine OW_bin rfl rfl rfl rfl (ne_no ht) ?_
        refine OW_env (e' := [_, _, _, _, _, _, _, _, _, _, _, _, _, _, _, _, _, _, _, _, _, _, _, _, _, _, _, _, _, _, _, _, _, _, _, _, _, _, _, _, _, _, _, _, _, _]) rfl ?_
        refine OW_pick rfl rfl rfl ?_
        refine OW_nilE (e' := [_, _, _, _, _, _, _, _, _, _, _, _, _, _, _, _, _, _, _, _, _, _, _, _, _, _, _, _, _, _, _, _, _, _, _, _, _, _, _, _, _, _, _, _, _, _]) rfl ?_
        refine XW_no rfl rfl ?_
        refine XW_skip ?_
        refine block_norm ?_
        refine then_norm ?_
        refine XW_region ?_
        refine OW_mv rfl rfl ?_
        first
          | refine OW_bin rfl rfl rfl rfl (add64 (by omega)) ?_
          | refine OW_bin rfl rfl rfl rfl (addu64 (by omega)) ?_
          | refine OW_bin rfl rfl rfl rfl rfl ?_
        refine OW_as rfl rfl ?_
        refine OW_nilE (e' := [_, _, _, _, _, _, _, _, _, _, _, _, _, _, _, _, _, _, _, _, _, _, _, _, _, _, _, _, _, _, _, _, _, _, _, _, _, _, _, _, _, _, _, _, _, _]) rfl ?_
        exact ⟨bs.length - (i + 1), by omega, i + 1, O, fO, rfl, by omega, under_in hU, fun p hp => ⟨(hfO p hp).1, under_dn (hfO p hp).2⟩, hs.cast (by rw [hst]), env_g rfl⟩
      · have hk : kept f t bs[i] = true := by simp [kept, ht]
        rw [if_pos hk] at hst
        refine OW_bin rfl rfl rfl rfl (ne_yes ht) ?_
        refine OW_env (e' := [_, _, _, _, _, _, _, _, _, _, _, _, _, _, _, _, _, _, _, _, _, _, _, _, _, _, _, _, _, _, _, _, _, _, _, _, _, _, _, _, _, _, _, _, _, _]) rfl ?_
        refine OW_pick rfl rfl rfl ?_
        refine OW_nilE (e' := [_, _, _, _, _, _, _, _, _, _, _, _, _, _, _, _, _, _, _, _, _, _, _, _, _, _, _, _, _, _, _, _, _, _, _, _, _, _, _, _, _, _, _, _, _, _]) rfl ?_
        refine XW_yes rfl rfl ?_
        refine XW_region ?_
        refine OW_mv rfl rfl ?_
        refine OW_mv rfl rfl ?_
        refine OW_mv rfl rfl ?_
        refine OW_ia rfl rfl rfl (ia_lst T22 rfl T30 hxi rfl) ?_
        refine OW_env (e' := [_, _, _, _, _, _, _, _, _, _, _, _, _, _, _, _, _, _, _, _, _, _, _, _, _, _, _, _, _, _, _, _, _, _, _, _, _, _, _, _, _, _, _, _, _, _]) rfl ?_
        refine OW_load rfl rfl (by first | exact aLoad_ept rfl rfl | exact aLoad_ptr rfl (by first | rfl | assumption | exact put_same) rfl rfl) ?_
        refine OW_bs rfl rfl rfl ?_
        obtain ⟨O2, H2, ha2, fO2, hs2, hf2, hfr2⟩ := hs.app (ν := 6 :: 1 :: 0 :: 1 :: 0 :: ν') (Y := .lst [bs[i].enc]) (ys := [bs[i].enc]) T22 rfl T30 rfl rfl (fun y hy => by rw [List.mem_singleton] at hy; rw [hy]; rfl) hsz (fun hm => (far (hfO _ hm).2 (by repeat (first | exact under_me | apply under_in))) rfl)
        refine OW_bi rfl rfl (app_bi rfl ha2) ?_
        refine OW_env (e' := [_, _, _, _, _, _, _, _, _, _, _, _, _, _, _, _, _, _, _, _, _, _, _, _, _, _, _, _, _, _, _, _, _, _, _, _, _, _, _, _, _, _, _, _, _, _]) rfl ?_
        refine OW_as rfl rfl ?_
        refine OW_nilE (e' := [_, _, _, _, _, _, _, _, _, _, _, _, _, _, _, _, _, _, _, _, _, _, _, _, _, _, _, _, _, _, _, _, _, _, _, _, _, _, _, _, _, _, _, _, _, _]) rfl ?_
        refine block_norm ?_
        refine then_norm ?_
        refine XW_region ?_
        refine OW_mv rfl rfl ?_
        first
          | refine OW_bin rfl rfl rfl rfl (add64 (by omega)) ?_
          | refine OW_bin rfl rfl rfl rfl (addu64 (by omega)) ?_
          | refine OW_bin rfl rfl rfl rfl rfl ?_
        refine OW_as rfl rfl ?_
        refine OW_nilE (e' := [_, _, _, _, _, _, _, _, _, _, _, _, _, _, _, _, _, _, _, _, _, _, _, _, _, _, _, _, _, _, _, _, _, _, _, _, _, _, _, _, _, _, _, _, _, _]) rfl ?_
        refine ⟨bs.length - (i + 1), by omega, i + 1, O2, fO2, rfl, by omega, under_in hU, fun p hp => ?_, hs2.cast ?_, env_g rfl⟩
        · rcases hf2 p hp with h | rfl
          · exact ⟨(hfO p h).1, under_dn (hfO p h).2⟩
          · exact ⟨under_in (under_in (under_in (under_in (under_in hU)))), under_far (i := 0) rfl (by repeat (first | exact under_me | apply under_in))⟩
        · rw [hst]; simp only [List.map_append, List.map_cons, List.map_nil]
    · have hk : kept f t bs[i] = true := by simp [kept, hf]
      rw [if_pos hk] at hst
      refine OW_bin rfl rfl rfl rfl (ne_yes hf) ?_
      refine OW_env (e' := [_, _, _, _, _, _, _, _, _, _, _, _, _, _, _, _, _, _, _, _, _, _, _, _, _, _, _, _, _, _, _, _, _, _, _, _, _, _, _, _, _, _, _, _, _, _]) rfl ?_
      refine OW_mv rfl rfl ?_
      refine OW_no rfl ?_
      refine OW_no rfl ?_
      refine OW_no rfl ?_
      refine OW_no rfl ?_
      refine OW_no rfl ?_
      refine OW_no rfl ?_
      refine OW_no rfl ?_
      refine OW_env (e' := [_, _, _, _, _, _, _, _, _, _, _, _, _, _, _, _, _, _, _, _, _, _, _, _, _, _, _, _, _, _, _, _, _, _, _, _, _, _, _, _, _, _, _, _, _, _]) rfl ?_
      refine OW_pick rfl rfl rfl ?_
      refine OW_nilE (e' := [_, _, _, _, _, _, _, _, _, _, _, _, _, _, _, _, _, _, _, _, _, _, _, _, _, _, _, _, _, _, _, _, _, _, _, _, _, _, _, _, _, _, _, _, _, _]) rfl ?_
      refine XW_yes rfl rfl ?_
      refine XW_region ?_
      refine OW_mv rfl rfl ?_
      refine OW_mv rfl rfl ?_
      refine OW_mv rfl rfl ?_
      refine OW_ia rfl rfl rfl (ia_lst T22 rfl T30 hxi rfl) ?_
      refine OW_env (e' := [_, _, _, _, _, _, _, _, _, _, _, _, _, _, _, _, _, _, _, _, _, _, _, _, _, _, _, _, _, _, _, _, _, _, _, _, _, _, _, _, _, _, _, _, _, _]) rfl ?_
      refine OW_load rfl rfl (by first | exact aLoad_ept rfl rfl | exact aLoad_ptr rfl (by first | rfl | assumption | exact put_same) rfl rfl) ?_
      refine OW_bs rfl rfl rfl ?_
      obtain ⟨O2, H2, ha2, fO2, hs2, hf2, hfr2⟩ := hs.app (ν := 6 :: 1 :: 0 :: 1 :: 0 :: ν') (Y := .lst [bs[i].enc]) (ys := [bs[i].enc]) T22 rfl T30 rfl rfl (fun y hy => by rw [List.mem_singleton] at hy; rw [hy]; rfl) hsz (fun hm => (far (hfO _ hm).2 (by repeat (first | exact under_me | apply under_in))) rfl)
      refine OW_bi rfl rfl (app_bi rfl ha2) ?_
      refine OW_env (e' := [_, _, _, _, _, _, _, _, _, _, _, _, _, _, _, _, _, _, _, _, _, _, _, _, _, _, _, _, _, _, _, _, _, _, _, _, _, _, _, _, _, _, _, _, _, _]) rfl ?_
      refine OW_as rfl rfl ?_
      refine OW_nilE (e' := [_, _, _, _, _, _, _, _, _, _, _, _, _, _, _, _, _, _, _, _, _, _, _, _, _, _, _, _, _, _, _, _, _, _, _, _, _, _, _, _, _, _, _, _, _, _]) rfl ?_
      refine block_norm ?_
      refine then_norm ?_
      refine XW_region ?_
      refine OW_mv rfl rfl ?_
      first
        | refine OW_bin rfl rfl rfl rfl (add64 (by omega)) ?_
        | refine OW_bin rfl rfl rfl rfl (addu64 (by omega)) ?_
        | refine OW_bin rfl rfl rfl rfl rfl ?_
      refine OW_as rfl rfl ?_
      refine OW_nilE (e' := [_, _, _, _, _, _, _, _, _, _, _, _, _, _, _, _, _, _, _, _, _, _, _, _, _, _, _, _, _, _, _, _, _, _, _, _, _, _, _, _, _, _, _, _, _, _]) rfl ?_
      refine ⟨bs.length - (i + 1), by omega, i + 1, O2, fO2, rfl, by omega, under_in hU, fun p hp => ?_, hs2.cast ?_, env_g rfl⟩
      · rcases hf2 p hp with h | rfl
        · exact ⟨(hfO p h).1, under_dn (hfO p h).2⟩
        · exact ⟨under_in (under_in (under_in (under_in (under_in hU)))), under_far (i := 0) rfl (by repeat (first | exact under_me | apply under_in))⟩
      · rw [hst]; simp only [List.map_append, List.map_cons, List.map_nil]
  · obtain rfl : i = bs.length := by omega
    rw [List.take_length] at hs
    have hle := List.length_filter_le (kept f t) bs
    refine OW_mv rfl rfl ?_
    refine OW_mv rfl rfl ?_
    refine OW_bi rfl rfl (aLen hv.kind hv.len) ?_
    refine OW_env (e' := [_, _, _, _, _, _, _, _, _, _, _, _, _, _, _, _, _, _, _, _, _, _, _, _, _, _, _, _, _, _, _, _, _, _, _, _, _, _, _, _, _, _, _, _, _, _]) rfl ?_
    first
      | refine OW_bin rfl rfl rfl rfl (lss_yes (by omega)) ?_
      | refine OW_bin rfl rfl rfl rfl (lss_no (by omega)) ?_
      | refine OW_bin rfl rfl rfl rfl rfl ?_
    refine OW_nilE (e' := [_, _, _, _, _, _, _, _, _, _, _, _, _, _, _, _, _, _, _, _, _, _, _, _, _, _, _, _, _, _, _, _, _, _, _, _, _, _, _, _, _, _, _, _, _, _]) rfl ?_
    refine XW_no rfl rfl ?_
    refine XW_exit ?_
    refine then_exit ?_
    refine block_exit ?_
    refine then_norm ?_
    refine XW_sr ?_
    refine OW_mv rfl rfl ?_
    refine OW_mv rfl rfl ?_
    refine OW_bi rfl rfl (aLen hv.kind hv.len) ?_
    refine OW_env (e' := [_, _, _, _, _, _, _, _, _, _, _, _, _, _, _, _, _, _, _, _, _, _, _, _, _, _, _, _, _, _, _, _, _, _, _, _, _, _, _, _, _, _, _, _, _, _]) rfl ?_
    refine OW_mv rfl rfl ?_
    refine OW_bi rfl rfl (aLen (n := (bs.filter (kept f t)).length) (hs.kind T22 rfl) (by rw [hs.len, List.length_map])) ?_
    refine OW_env (e' := [_, _, _, _, _, _, _, _, _, _, _, _, _, _, _, _, _, _, _, _, _, _, _, _, _, _, _, _, _, _, _, _, _, _, _, _, _, _, _, _, _, _, _, _, _, _]) rfl ?_
    first
      | refine OW_bin rfl rfl rfl rfl (sub64 (by omega)) ?_
      | refine OW_bin rfl rfl rfl rfl (subu64 (by omega)) ?_
      | refine OW_bin rfl rfl rfl rfl rfl ?_
    refine OW_as rfl rfl ?_
    refine OW_as rfl rfl ?_
    refine OW_nilE (e' := [_, _, _, _, _, _, _, _, _, _, _, _, _, _, _, _, _, _, _, _, _, _, _, _, _, _, _, _, _, _, _, _, _, _, _, _, _, _, _, _, _, _, _, _, _, _]) rfl ?_
    refine XW_ret ?_
    refine ret_ret (res2 rfl (rv_tmp rfl) (rv_tmp rfl)) ?_
    rw [← hs.freeze (fun q hq => (hfO q hq).1) (enc_plain _) (n := 6)] at hq
    exact hq
end Go.Proofs.Ytollcfhmmlpleaa.X
