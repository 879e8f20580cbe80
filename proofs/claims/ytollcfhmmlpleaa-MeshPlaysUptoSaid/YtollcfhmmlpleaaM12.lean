/- Layer 19: the reference's functions. -/
import Derived.Test.YtollcfhmmlpleaaM9
set_option linter.unusedVariables false
set_option linter.unusedSimpArgs false
set_option maxRecDepth 100000
namespace Go.Proofs.Ytollcfhmmlpleaa.X
open Go Go.RowKit
variable {ν : Nm} {H : Heap} {Q : AVal → Heap → Prop}
/-- A list of letters, as a value without a row of its own. -/
def Lv (v : AVal) (bs : List Lt) : Prop := v = .lst (bs.map Lt.enc) ∨ (v = .emp ∧ bs = [])
theorem Lv.elems {v : AVal} {bs : List Lt} (h : Lv v bs) : elems H v = some (bs.map Lt.enc) := by
  rcases h with rfl | ⟨rfl, rfl⟩ <;> rfl
theorem Lv.len {v : AVal} {bs : List Lt} (h : Lv v bs) : lenOf H v = some bs.length := by
  rcases h with rfl | ⟨rfl, rfl⟩ <;> simp [lenOf]
theorem Lv.kind {v : AVal} {bs : List Lt} (h : Lv v bs) : lenKind cfg.T [22] v = true := by
  rcases h with rfl | ⟨rfl, rfl⟩ <;> rfl
theorem rAt (pick : Int) (n : Nat) (hn : n ≠ 0) (hb : n ≤ 4611686018427387904) (hq : Q (.int .i64 (pos pick n)) H) : CW cfg ν 22 [.int .i64 pick, .int .i64 n] H Q := by
  obtain ⟨p1, p2⟩ := pos_lt (pick := pick) hn
  have hm1 := Int.tmod_lt_of_pos pick (show (0 : Int) < n by omega)
  have hm2 := Int.lt_tmod_of_pos pick (show (0 : Int) < n by omega)
  refine CW_pure g22 F22 rfl ?_
  refine XW_sr ?_
  refine OW_as rfl rfl ?_
  refine OW_nilE (e' := [_, _, _, _, _, _, _, _, _, _, _, _]) rfl ?_
  refine XW_sr ?_
  refine OW_mv rfl rfl ?_
  refine OW_mv rfl rfl ?_
  first
    | refine OW_bin rfl rfl rfl rfl (rem64 (by omega)) ?_
    | refine OW_bin rfl rfl rfl rfl rfl ?_
  refine OW_env (e' := [_, _, _, _, _, _, _, _, _, _, _, _]) rfl ?_
  refine OW_mv rfl rfl ?_
  first
    | refine OW_bin rfl rfl rfl rfl (add64 (by omega)) ?_
    | refine OW_bin rfl rfl rfl rfl (addu64 (by omega)) ?_
    | refine OW_bin rfl rfl rfl rfl rfl ?_
  refine OW_mv rfl rfl ?_
  refine OW_env (e' := [_, _, _, _, _, _, _, _, _, _, _, _]) rfl ?_
  first
    | refine OW_bin rfl rfl rfl rfl (rem64 (by omega)) ?_
    | refine OW_bin rfl rfl rfl rfl rfl ?_
  refine OW_as rfl rfl ?_
  refine OW_nilE (e' := [_, _, _, _, _, _, _, _, _, _, _, _]) rfl ?_
  refine XW_ret ?_
  refine ret_ret rfl ?_
  rw [← p2] at hq
  exact hq
theorem enc_plain (ls : List Lt) : ∀ x ∈ ls.map Lt.enc, plain x = true := by
  intro x hx
  obtain ⟨l, _, rfl⟩ := List.mem_map.1 hx
  rfl
theorem rPut {v : AVal} {bs ls : List Lt} (hv : Lv v bs) (hb : bs.length ≤ 4096) (hl : ls.length ≤ 4611686018427387904)
    (hq : Q (.tup [.lst ((bs ++ ls.take (4096 - bs.length)).map Lt.enc), .int .i64 (min ls.length (4096 - bs.length) : Nat)]) H) : CW cfg ν 15 [v, .lst (ls.map Lt.enc)] H Q := by
  refine CW_pure g15 F15 rfl ?_
  refine XW_sr ?_
  refine OW_as rfl rfl ?_
  refine OW_as rfl rfl ?_
  refine OW_nilE (e' := [_, _, _, _, _, _, _, _, _, _, _, _, _, _, _, _, _, _, _, _, _, _, _, _, _, _, _, _, _, _, _, _]) rfl ?_
  refine XW_sr ?_
  refine OW_bs rfl rfl rfl ?_
  refine OW_mv rfl rfl ?_
  obtain ⟨O, H1, ha1, fO, hs1, hf1, hfr1⟩ := (Sl.emp (H := fun _ => none) (w := 3) (xs := []) rfl).app (ν := 2 :: 0 :: 1 :: ν) (Y := v) (ys := bs.map Lt.enc) T22 rfl T30 rfl hv.elems (enc_ws bs) (by
    have : ([] : List AVal).length + (bs.map Lt.enc).length ≤ 8192 := by simp; omega
    exact Nat.le_trans (Nat.mul_le_mul_right _ this) (by decide)) (by simp)
  refine OW_bi rfl rfl (app_bi rfl ha1) ?_
  rw [List.nil_append] at hs1
  have hf1' : ∀ p ∈ fO, p = 2 :: 0 :: 1 :: ν := fun p hp => (hf1 p hp).elim (fun h => by cases h) id
  refine OW_env (e' := [_, _, _, _, _, _, _, _, _, _, _, _, _, _, _, _, _, _, _, _, _, _, _, _, _, _, _, _, _, _, _, _]) rfl ?_
  refine OW_as rfl rfl ?_
  refine OW_nilE (e' := [_, _, _, _, _, _, _, _, _, _, _, _, _, _, _, _, _, _, _, _, _, _, _, _, _, _, _, _, _, _, _, _]) rfl ?_
  refine XW_sr ?_
  refine OW_as rfl rfl ?_
  refine OW_nilE (e' := [_, _, _, _, _, _, _, _, _, _, _, _, _, _, _, _, _, _, _, _, _, _, _, _, _, _, _, _, _, _, _, _]) rfl ?_
  refine XW_seq ?_
  refine XW_sr ?_
  refine OW_as rfl rfl ?_
  refine OW_nilE (e' := [_, _, _, _, _, _, _, _, _, _, _, _, _, _, _, _, _, _, _, _, _, _, _, _, _, _, _, _, _, _, _, _]) rfl ?_
  refine XW_block ?_
  have hst : ∀ p ∈ fO, under ν p = true ∧ under (1 :: 0 :: 1 :: 1 :: 1 :: ν) p = false := fun p hp => by
    obtain rfl := hf1' p hp
    exact ⟨(by repeat (first | exact under_me | apply under_in)), under_len (by simp)⟩
  refine XW_whileN (I := fun ν' n e H' => ∃ (i m : Nat) (O : AVal) (fO : List Nm), n = ls.length - i ∧ i ≤ ls.length ∧ m = min i (4096 - bs.length) ∧ under ν ν' = true ∧ (∀ p ∈ fO, under ν p = true ∧ under ν' p = false) ∧ Sl H' 3 ((bs ++ ls.take m).map Lt.enc) O fO ∧ ∃ g : Nat → AVal, e = [v, .lst (ls.map Lt.enc), g 2, g 3, g 4, g 5, O, .int .i64 m, .int .i64 i, g 9, g 10, g 11, g 12, g 13, g 14, g 15, g 16, g 17, g 18, g 19, g 20, g 21, g 22, g 23, g 24, g 25, g 26, g 27, g 28, g 29, g 30, g 31]) ?_ ls.length _ _ _
    ⟨0, 0, O, fO, by omega, by omega, by omega, (by repeat (first | exact under_me | apply under_in)), hst, hs1.cast (by simp), env_g rfl⟩
  rintro ν' n e H' ⟨i, m, O, fO, rfl, hi, hm, hU, hfO, hs, g, rfl⟩
  refine XW_seq ?_
  refine XW_sr ?_
  by_cases hlt : i < ls.length
  · have hxi : (ls.map Lt.enc)[i]? = some (ls[i].enc) := by simp [hlt]
    have hxl : (bs ++ ls.take m).length = bs.length + m := by rw [List.length_append, List.length_take]; omega
    refine OW_mv rfl rfl ?_
    refine OW_mv rfl rfl ?_
    first
      | refine OW_bi rfl rfl (aLen_map rfl) ?_
      | refine OW_bi rfl rfl (aLen rfl rfl) ?_
    refine OW_env (e' := [_, _, _, _, _, _, _, _, _, _, _, _, _, _, _, _, _, _, _, _, _, _, _, _, _, _, _, _, _, _, _, _]) rfl ?_
    first
      | refine OW_bin rfl rfl rfl rfl (lss_yes (by omega)) ?_
      | refine OW_bin rfl rfl rfl rfl (lss_no (by omega)) ?_
      | refine OW_bin rfl rfl rfl rfl rfl ?_
    refine OW_nilE (e' := [_, _, _, _, _, _, _, _, _, _, _, _, _, _, _, _, _, _, _, _, _, _, _, _, _, _, _, _, _, _, _, _]) rfl ?_
    refine XW_yes rfl rfl ?_
    refine XW_skip ?_
    refine then_norm ?_
    refine XW_seq ?_
    refine XW_block ?_
    refine XW_sr ?_
    refine OW_mv rfl rfl ?_
    refine OW_bi rfl rfl (aLen (hs.kind T22 rfl) (n := bs.length + m) (by rw [hs.len, List.length_map, hxl])) ?_
    by_cases hc : bs.length + m < 4096
    · have hmi : m = i := by omega
      refine OW_env (e' := [_, _, _, _, _, _, _, _, _, _, _, _, _, _, _, _, _, _, _, _, _, _, _, _, _, _, _, _, _, _, _, _]) rfl ?_
      first
        | refine OW_bin rfl rfl rfl rfl (lss_yes (by omega)) ?_
        | refine OW_bin rfl rfl rfl rfl (lss_no (by omega)) ?_
        | refine OW_bin rfl rfl rfl rfl rfl ?_
      refine OW_nilE (e' := [_, _, _, _, _, _, _, _, _, _, _, _, _, _, _, _, _, _, _, _, _, _, _, _, _, _, _, _, _, _, _, _]) rfl ?_
      refine XW_yes rfl rfl ?_
      refine XW_sr ?_
      refine OW_mv rfl rfl ?_
      refine OW_mv rfl rfl ?_
      refine OW_mv rfl rfl ?_
      refine OW_ia rfl rfl rfl (ia_lst T22 rfl T30 hxi rfl) ?_
      refine OW_env (e' := [_, _, _, _, _, _, _, _, _, _, _, _, _, _, _, _, _, _, _, _, _, _, _, _, _, _, _, _, _, _, _, _]) rfl ?_
      refine OW_load rfl rfl (by first | exact aLoad_ept rfl rfl | exact aLoad_ptr rfl (by first | rfl | assumption | exact put_same) rfl rfl) ?_
      refine OW_bs rfl rfl rfl ?_
      obtain ⟨O2, H2, ha2, fO2, hs2, hf2, hfr2⟩ := hs.app (ν := 6 :: 0 :: 1 :: 0 :: 1 :: 0 :: ν') (Y := .lst [ls[i].enc]) (ys := [ls[i].enc]) T22 rfl T30 rfl rfl (fun y hy => by rw [List.mem_singleton] at hy; rw [hy]; rfl) (by
        have : ((bs ++ ls.take m).map Lt.enc).length + [ls[i].enc].length ≤ 8192 := by rw [List.length_map, hxl, List.length_singleton]; omega
        exact Nat.le_trans (Nat.mul_le_mul_right _ this) (by decide)) (fun hm => (far (hfO _ hm).2 (by repeat (first | exact under_me | apply under_in))) rfl)
      refine OW_bi rfl rfl (app_bi rfl ha2) ?_
      refine OW_env (e' := [_, _, _, _, _, _, _, _, _, _, _, _, _, _, _, _, _, _, _, _, _, _, _, _, _, _, _, _, _, _, _, _]) rfl ?_
      refine OW_as rfl rfl ?_
      refine OW_nilE (e' := [_, _, _, _, _, _, _, _, _, _, _, _, _, _, _, _, _, _, _, _, _, _, _, _, _, _, _, _, _, _, _, _]) rfl ?_
      refine XW_region ?_
      refine OW_mv rfl rfl ?_
      first
        | refine OW_bin rfl rfl rfl rfl (add64 (by omega)) ?_
        | refine OW_bin rfl rfl rfl rfl (addu64 (by omega)) ?_
        | refine OW_bin rfl rfl rfl rfl rfl ?_
      refine OW_as rfl rfl ?_
      refine OW_nilE (e' := [_, _, _, _, _, _, _, _, _, _, _, _, _, _, _, _, _, _, _, _, _, _, _, _, _, _, _, _, _, _, _, _]) rfl ?_
      refine block_norm ?_
      refine then_norm ?_
      refine XW_region ?_
      refine OW_mv rfl rfl ?_
      first
        | refine OW_bin rfl rfl rfl rfl (add64 (by omega)) ?_
        | refine OW_bin rfl rfl rfl rfl (addu64 (by omega)) ?_
        | refine OW_bin rfl rfl rfl rfl rfl ?_
      refine OW_as rfl rfl ?_
      refine OW_nilE (e' := [_, _, _, _, _, _, _, _, _, _, _, _, _, _, _, _, _, _, _, _, _, _, _, _, _, _, _, _, _, _, _, _]) rfl ?_
      refine ⟨ls.length - (i + 1), by omega, i + 1, m + 1, O2, fO2, rfl, by omega, by omega, under_in hU, fun p hp => ?_, hs2.cast ?_, env_g rfl⟩
      · rcases hf2 p hp with h | rfl
        · exact ⟨(hfO p h).1, under_dn (hfO p h).2⟩
        · exact ⟨under_in (under_in (under_in (under_in (under_in (under_in hU))))), under_far (i := 0) rfl (by repeat (first | exact under_me | apply under_in))⟩
      · rw [hmi, ← List.take_append_getElem hlt]; simp only [List.map_append, List.map_cons, List.map_nil, List.append_assoc]
    · refine OW_env (e' := [_, _, _, _, _, _, _, _, _, _, _, _, _, _, _, _, _, _, _, _, _, _, _, _, _, _, _, _, _, _, _, _]) rfl ?_
      first
        | refine OW_bin rfl rfl rfl rfl (lss_yes (by omega)) ?_
        | refine OW_bin rfl rfl rfl rfl (lss_no (by omega)) ?_
        | refine OW_bin rfl rfl rfl rfl rfl ?_
      refine OW_nilE (e' := [_, _, _, _, _, _, _, _, _, _, _, _, _, _, _, _, _, _, _, _, _, _, _, _, _, _, _, _, _, _, _, _]) rfl ?_
      refine XW_no rfl rfl ?_
      refine XW_skip ?_
      refine block_norm ?_
      refine then_norm ?_
      refine XW_region ?_
      refine OW_mv rfl rfl ?_
      first
        | refine OW_bin rfl rfl rfl rfl (add64 (by omega)) ?_
        | refine OW_bin rfl rfl rfl rfl (addu64 (by omega)) ?_
        | refine OW_bin rfl rfl rfl rfl rfl ?_
      refine OW_as rfl rfl ?_
      refine OW_nilE (e' := [_, _, _, _, _, _, _, _, _, _, _, _, _, _, _, _, _, _, _, _, _, _, _, _, _, _, _, _, _, _, _, _]) rfl ?_
      exact ⟨ls.length - (i + 1), by omega, i + 1, m, O, fO, rfl, by omega, by omega, under_in hU, fun p hp => ⟨(hfO p hp).1, under_dn (hfO p hp).2⟩, hs, env_g rfl⟩
  · obtain rfl : i = ls.length := by omega
    refine OW_mv rfl rfl ?_
    refine OW_mv rfl rfl ?_
    first
      | refine OW_bi rfl rfl (aLen_map rfl) ?_
      | refine OW_bi rfl rfl (aLen rfl rfl) ?_
    refine OW_env (e' := [_, _, _, _, _, _, _, _, _, _, _, _, _, _, _, _, _, _, _, _, _, _, _, _, _, _, _, _, _, _, _, _]) rfl ?_
    first
      | refine OW_bin rfl rfl rfl rfl (lss_yes (by omega)) ?_
      | refine OW_bin rfl rfl rfl rfl (lss_no (by omega)) ?_
      | refine OW_bin rfl rfl rfl rfl rfl ?_
    refine OW_nilE (e' := [_, _, _, _, _, _, _, _, _, _, _, _, _, _, _, _, _, _, _, _, _, _, _, _, _, _, _, _, _, _, _, _]) rfl ?_
    refine XW_no rfl rfl ?_
    refine XW_exit ?_
    refine then_exit ?_
    refine block_exit ?_
    refine then_norm ?_
    refine XW_sr ?_
    refine OW_mv rfl rfl ?_
    refine OW_mv rfl rfl ?_
    refine OW_as rfl rfl ?_
    refine OW_env (e' := [_, _, _, _, _, _, _, _, _, _, _, _, _, _, _, _, _, _, _, _, _, _, _, _, _, _, _, _, _, _, _, _]) rfl ?_
    refine OW_as rfl rfl ?_
    refine OW_nilE (e' := [_, _, _, _, _, _, _, _, _, _, _, _, _, _, _, _, _, _, _, _, _, _, _, _, _, _, _, _, _, _, _, _]) rfl ?_
    refine XW_ret ?_
    refine ret_ret (res2 rfl (rv_tmp rfl) (rv_tmp rfl)) ?_
    have e1 : freeze ν H' 8 (.tup [O, .int .i64 m]) = .tup [freeze ν H' 7 O, .int .i64 m] := rfl
    rw [e1, hs.freeze (fun q hq => (hfO q hq).1) (enc_plain _)]
    rw [← hm] at hq
    have e2 : ls.take m = ls.take (4096 - bs.length) := by
      by_cases hc : ls.length ≤ 4096 - bs.length
      · rw [hm, Nat.min_eq_left hc, List.take_length, List.take_of_length_le hc]
      · rw [hm, Nat.min_eq_right (by omega)]
    rw [e2]; exact hq
theorem eraseIdx_step {α : Type} {bs : List α} {i j : Nat} (hi : i < bs.length) : (bs.take (i + 1)).eraseIdx j = if i = j then (bs.take i).eraseIdx j else (bs.take i).eraseIdx j ++ [bs[i]] := by
  have hl : (bs.take i).length = i := by rw [List.length_take]; omega
  rw [← List.take_append_getElem hi]
  split
  · rename_i h
    subst h
    rw [List.eraseIdx_append_of_length_le (by omega), hl, Nat.sub_self, List.eraseIdx_of_length_le (l := bs.take i) (by omega)]
    simp
  · rename_i h
    by_cases hj : j < i
    · rw [List.eraseIdx_append_of_lt_length (by omega)]
    · rw [List.eraseIdx_append_of_length_le (by omega), hl, List.eraseIdx_of_length_le (l := bs.take i) (by omega), List.eraseIdx_of_length_le (by simp; omega)]
end Go.Proofs.Ytollcfhmmlpleaa.X
