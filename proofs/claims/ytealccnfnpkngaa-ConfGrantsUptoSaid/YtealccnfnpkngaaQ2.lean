/- Layer 12: what the functions of quotas do. -/
import Derived.Test.YtealccnfnpkngaaQ1
set_option linter.unusedVariables false
set_option linter.unusedSimpArgs false
set_option maxRecDepth 100000
namespace Go.Proofs.Ytealccnfnpkngaa.X
open Go Go.RowKit
variable {ν : Nm} {H : Heap} {Q : AVal → Heap → Prop}
theorem find_fn {b : Nm} {H2 : Heap} {tn : Int} (hb : H2 b = some (.row 1 [.int .u64 tn])) : Qu.FnP 87 [.ptr b 0 0] [b] H2 (isT tn) := by
  intro ν x H Q hbs hq
  obtain ⟨h1, h2⟩ := hbs b (by simp)
  rw [hb] at h1
  refine CW_fullS g87 F87 rfl ?_
  refine XW_sr ?_
  refine OW_box rfl rfl rfl ?_
  refine OW_as rfl rfl ?_
  refine OW_nilE (e' := [_, _, _, _, _, _, _, _]) rfl ?_
  refine XW_sr ?_
  refine OW_fa rfl rfl rfl ?_
  refine OW_load rfl rfl (aLoad_ptr rfl put_same rfl rfl) ?_
  refine OW_load rfl rfl (aLoad_ptr rfl (by rw [put_ne (far h2 (by repeat (first | exact under_me | apply under_in)))]; exact h1) rfl rfl) ?_
  refine OW_env (e' := [_, _, _, _, _, _, _, _]) rfl ?_
  first
    | refine OW_bin rfl rfl rfl rfl (eq_yes (by omega)) ?_
    | refine OW_bin rfl rfl rfl rfl (eq_no (by omega)) ?_
    | refine OW_bin rfl rfl rfl rfl rfl ?_
  refine OW_as rfl rfl ?_
  refine OW_nilE (e' := [_, _, _, _, _, _, _, _]) rfl ?_
  refine XW_ret ?_
  exact ret_ret rfl ⟨fun p hp => put_ne (far hp (by repeat (first | exact under_me | apply under_in))), hq⟩
theorem c_findB {v : AVal} {t : List Qu} (hv : freeze [] H 8 v = .lst (t.map Qu.enc)) (hn : t.length ≤ 4294967296) (tn : Int) (hq : Q (.int .i64 (atQ tn t)) H) : CW cfg ν 73 [v, .int .u64 tn] H Q := by
  refine CW_borrowL (args' := [.lst (t.map Qu.enc), .int .u64 tn]) g73 F73 rfl (fz_cons (by first | assumption | exact freeze_plain rfl | exact Ls.freeze (by assumption) | rfl) (fz_cons (by first | assumption | exact freeze_plain rfl | exact Ls.freeze (by assumption) | rfl) fz_nil)) ?_
  have hS0 : Own ν ν (fun _ => none) [] := Own.nil
  refine XW_sr ?_
  refine OW_boxR hS0 (le_app (p := ν) (b := [0, 0])) (under_app [0, 0] under_me) rfl rfl rfl ⟨rfl, rfl⟩ fun H1 hS1 => ?_
  replace hS1 : Own _ _ _ ([_]) := hS1
  refine OW_as rfl rfl ?_
  refine OW_nilE (e' := [_,_,_,_,_,_,_,_]) rfl ?_
  refine XW_sr ?_
  refine OW_mv rfl rfl ?_
  refine OW_mf rfl rfl ?_
  refine OW_fn rfl rfl (Qu.idx (find_fn (by obtain ⟨f, ⟨_, h⟩, _⟩ := hS1.get (k := 0) rfl; exact h)) (fun b hb => (by rw [List.mem_singleton] at hb; rw [hb]; obtain ⟨f, ⟨h0, _⟩, h⟩ := hS1.get (k := 0) rfl; exact ((le_lit (ν := ν) (a := [1, 0]) (b := [2, 0, 1]) (by decide)) _ (h _ (by rw [h0]; simp)).1).under)) (.ls Ls.of) (by omega) ?_) 
  refine OW_env (e' := [_,_,_,_,_,_,_,_]) rfl ?_
  refine OW_as rfl rfl ?_
  refine OW_nilE (e' := [_,_,_,_,_,_,_,_]) rfl ?_
  refine XW_ret ?_
  -- outcome 1
  refine ret_ret (res1 rfl (rv_tmp rfl)) ⟨rfl, ?_⟩
  exact hq
theorem c_Find {v : AVal} {t : List Qu} (hv : freeze [] H 8 v = .lst (t.map Qu.enc)) (hn : t.length ≤ 4294967296) (tn : Int) (hq : Q (.int .i64 (atQ tn t)) H) : CW cfg ν 64 [v, .int .u64 tn] H Q := by
  refine CW_borrowL (args' := [.lst (t.map Qu.enc), .int .u64 tn]) g64 F64 rfl (fz_cons (by first | assumption | exact freeze_plain rfl | exact Ls.freeze (by assumption) | rfl) (fz_cons (by first | assumption | exact freeze_plain rfl | exact Ls.freeze (by assumption) | rfl) fz_nil)) ?_
  refine XW_sr ?_
  refine OW_as rfl rfl ?_
  refine OW_nilE (e' := [_,_,_,_,_,_,_,_,_,_,_,_,_,_,_,_,_,_,_,_]) rfl ?_
  refine XW_seq ?_
  refine XW_sr ?_
  refine OW_as rfl rfl ?_
  refine OW_nilE (e' := [_,_,_,_,_,_,_,_,_,_,_,_,_,_,_,_,_,_,_,_]) rfl ?_
  refine XW_block ?_
  refine XW_whileN (I := fun ν' mm ee H' => ∃ (i : Nat), mm = t.length - i ∧ under (1 :: 0 :: 1 :: ν) ν' = true ∧ (i ≤ t.length ∧ atQ tn t = firstI (isT tn) (t.drop i) i) ∧ ∃ g : Nat → AVal, ee = [.lst (t.map Qu.enc), .int .u64 tn, g 2, g 3, g 4, .int .i64 i, g 6, g 7, g 8, g 9, g 10, g 11, g 12, g 13, g 14, g 15, g 16, g 17, g 18, g 19]) ?_ _ _ _ _ ⟨0, rfl, under_me, (⟨by omega, rfl⟩), env_g rfl⟩
  rintro ν1 mm ee H1 ⟨i, rfl, hU1, ⟨hi, hI⟩, g1, rfl⟩
  refine XW_seq ?_
  refine XW_sr ?_
  refine OW_mv rfl rfl ?_
  refine OW_mv rfl rfl ?_
  first
  | refine OW_lenL rfl rfl (by first | assumption | exact Ls.of | exact Ls.emp | exact Ls.nls) rfl rfl rfl (by first | exact List.length_map _ | rfl) ?_
  | refine OW_bi rfl rfl rfl ?_
  refine OW_env (e' := [_,_,_,_,_,_,_,_,_,_,_,_,_,_,_,_,_,_,_,_]) rfl ?_
  refine OW_bin rfl rfl rfl rfl rfl ?_
  refine OW_nilE (e' := [_,_,_,_,_,_,_,_,_,_,_,_,_,_,_,_,_,_,_,_]) rfl ?_
  refine XW_if rfl (fun h2 => ?_) (fun h2 => ?_)
  ·try simp only [bs] at h2
   refine XW_skip ?_
   refine then_norm ?_
   refine XW_seq ?_
   refine XW_block ?_
   refine XW_sr ?_
   refine OW_mv rfl rfl ?_
   refine OW_mv rfl rfl ?_
   first
   | refine OW_iaL rfl rfl rfl Ls.of rfl rfl rfl (by first | rfl | exact (Int.toNat_of_nonneg (by omega)).symm) (by first | assumption | exact at_map (by first | assumption | omega) | exact at_lst (by omega) | rfl) rfl ?_
   | refine OW_iaL rfl rfl rfl (by assumption) rfl rfl rfl (by first | rfl | exact (Int.toNat_of_nonneg (by omega)).symm) (by first | assumption | exact at_map (by first | assumption | omega) | exact at_lst (by omega) | rfl) rfl ?_
   refine OW_env (e' := [_,_,_,_,_,_,_,_,_,_,_,_,_,_,_,_,_,_,_,_]) rfl ?_
   refine OW_fa rfl rfl rfl ?_
   refine OW_loadE rfl rfl rfl (by first | exact part_whole rfl rfl rfl | rfl) ?_
   refine OW_mv rfl rfl ?_
   refine OW_env (e' := [_,_,_,_,_,_,_,_,_,_,_,_,_,_,_,_,_,_,_,_]) rfl ?_
   refine OW_bin rfl rfl rfl rfl rfl ?_
   refine OW_nilE (e' := [_,_,_,_,_,_,_,_,_,_,_,_,_,_,_,_,_,_,_,_]) rfl ?_
   refine XW_if rfl (fun h4 => ?_) (fun h4 => ?_)
   ·try simp only [bs] at h4
    refine XW_sr ?_
    refine OW_mv rfl rfl ?_
    refine OW_as rfl rfl ?_
    refine OW_nilE (e' := [_,_,_,_,_,_,_,_,_,_,_,_,_,_,_,_,_,_,_,_]) rfl ?_
    refine XW_ret ?_
    refine block_ret ?_
    refine then_ret ?_
    refine block_ret ?_
    refine then_ret ?_
    -- outcome 1
    refine ret_ret (res1 rfl (rv_tmp rfl)) ⟨rfl, ?_⟩
    first | (rw [hI, List.drop_eq_nil_of_le (by omega)] at hq; exact hq) | (rw [hI, List.drop_eq_getElem_cons (by omega), firstI, if_pos (by simpa [isT] using h4)] at hq; exact hq)
   ·try simp only [bs] at h4
    refine XW_skip ?_
    refine block_norm ?_
    refine then_norm ?_
    refine XW_region ?_
    refine OW_mv rfl rfl ?_
    first
    | refine OW_bin rfl rfl rfl rfl (add_w64 (by first | omega | assumption | (simp only [ss]; omega))) ?_
    | refine OW_bin rfl rfl rfl rfl rfl ?_
    refine OW_as rfl rfl ?_
    refine OW_nilE (e' := [_,_,_,_,_,_,_,_,_,_,_,_,_,_,_,_,_,_,_,_]) rfl ?_
    -- round 0.1
    refine ⟨_, ?_, i + 1, rfl, under_in hU1, ?_, env_g rfl⟩
    · first | omega | (simp; omega)
    · exact ⟨by omega, by rw [hI, List.drop_eq_getElem_cons (by omega), firstI, if_neg (by simpa [isT] using h4)]; rfl⟩
  ·try simp only [bs] at h2
   refine XW_exit ?_
   refine then_exit ?_
   refine block_exit ?_
   refine then_norm ?_
   refine XW_sr ?_
   refine OW_as rfl rfl ?_
   refine OW_nilE (e' := [_,_,_,_,_,_,_,_,_,_,_,_,_,_,_,_,_,_,_,_]) rfl ?_
   refine XW_ret ?_
   -- outcome 2
   refine ret_ret (res1 rfl (rv_tmp rfl)) ⟨rfl, ?_⟩
   first | (rw [hI, List.drop_eq_nil_of_le (by omega)] at hq; exact hq) | (rw [hI, List.drop_eq_getElem_cons (by omega), firstI, if_pos (by simpa [isT] using h4)] at hq; exact hq)
theorem wrapu_add {a b : Int} (ha : 0 ≤ a ∧ a ≤ 18446744073709551615) (hb : 0 ≤ b ∧ b ≤ 18446744073709551615) : (IntKind.u64.wrap (a + b) = a + b ∧ a + b ≤ 18446744073709551615) ∨ (IntKind.u64.wrap (a + b) = a + b - 18446744073709551616 ∧ 18446744073709551615 < a + b) := by
  rw [IntKind.wrap_u64]; omega
end Go.Proofs.Ytealccnfnpkngaa.X
