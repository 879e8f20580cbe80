/- Layer 19: the law MeshFull, reckoned. -/
import Derived.Test.YtollcfhmmlpleaaM6
set_option linter.unusedVariables false
set_option linter.unusedSimpArgs false
set_option maxRecDepth 100000
namespace Go.Proofs.Ytollcfhmmlpleaa.X
open Go Go.RowKit
variable {ν qm : Nm} {H : Heap} {Q : AVal → Heap → Prop} {ls : List Lt} {S : AVal} {fp : List Nm}
theorem fixedW (h : acall cfg (aexec cfg 60) ν 7 [] H = some (.bool true, H)) (hq : Q (.bool true) H) : CW cfg ν 7 [] H Q := ⟨60, _, _, h, hq⟩
theorem letterW (s : ByteArray) (hq : Q (Lt.enc ⟨1, 2, s⟩) H) : CW cfg ν 13 [.str s] H Q := by
  refine CW_pure g13 F13 rfl ?_
  refine XW_sr ?_
  refine OW_alloc rfl rfl ?_
  refine OW_nilE (e' := [_, _, _, _, _]) rfl ?_
  refine XW_sr ?_
  refine OW_mv rfl rfl ?_
  refine OW_bd rfl rfl rfl ?_
  refine OW_store rfl rfl rfl (aStore_ptr rfl (by first | rfl | assumption | exact put_same) rfl ⟨rfl, rfl, by decide⟩) ?_
  refine OW_nilE (e' := [_, _, _, _, _]) rfl ?_
  refine XW_ret ?_
  exact ret_ret (res1 rfl (rv_cell rfl (aLoad_ptr T30 put_same rfl rfl))) hq
theorem eqLt (a b : Lt) : aBin cfg.T .eql 30 a.enc b.enc = some (.bool (decide (a = b))) := by
  have : aEq cfg.T 4 30 a.enc b.enc = some (decide (a.f = b.f) && (decide (a.t = b.t) && (decide (a.s = b.s) && true))) := rfl
  show aCmp .eql (aEq cfg.T 4 30 a.enc b.enc) = _
  rw [this]
  cases a; cases b
  simp only [aCmp, Lt.mk.injEq, Bool.and_true, Bool.decide_and]
theorem full (more : Int) (hm : -9223372036854775808 ≤ more ∧ more ≤ 9223372036854775807) (hl : ls.length ≤ 4611686018427387904) : CW cfg [] 4 [.lst (ls.map Lt.enc), .int .i64 more] (fun _ => none) (fun v _ => v = .bool true) := by
  refine CW_pure g4 F4 rfl ?_
  refine XW_sr ?_
  refine OW_as rfl rfl ?_
  refine OW_nilE (e' := [_, _, _, _, _, _, _, _, _, _, _, _, _, _, _, _, _, _, _, _, _, _, _, _, _, _, _, _, _, _, _, _, _, _, _, _, _, _, _, _, _, _, _, _, _, _, _, _, _, _, _, _, _, _, _, _, _, _, _, _, _, _, _, _, _, _, _, _, _, _, _, _, _, _, _, _, _, _, _, _]) rfl ?_
  refine XW_seq ?_
  refine XW_sr ?_
  refine OW_fn rfl rfl (fixedW (by kernel_rfl) ?_)
  by_cases hg : ls.length ≤ 5000 ∧ 0 ≤ more ∧ more ≤ 5000
  · refine OW_env (e' := [_, _, _, _, _, _, _, _, _, _, _, _, _, _, _, _, _, _, _, _, _, _, _, _, _, _, _, _, _, _, _, _, _, _, _, _, _, _, _, _, _, _, _, _, _, _, _, _, _, _, _, _, _, _, _, _, _, _, _, _, _, _, _, _, _, _, _, _, _, _, _, _, _, _, _, _, _, _, _, _]) rfl ?_
    refine OW_un rfl rfl rfl ?_
    refine OW_mv rfl rfl ?_
    first
      | refine OW_no rfl ?_
      | refine OW_mv rfl rfl ?_
    refine OW_env (e' := [_, _, _, _, _, _, _, _, _, _, _, _, _, _, _, _, _, _, _, _, _, _, _, _, _, _, _, _, _, _, _, _, _, _, _, _, _, _, _, _, _, _, _, _, _, _, _, _, _, _, _, _, _, _, _, _, _, _, _, _, _, _, _, _, _, _, _, _, _, _, _, _, _, _, _, _, _, _, _, _]) rfl ?_
    first
      | refine OW_no rfl ?_
      | refine OW_bi rfl rfl (aLen_map rfl) ?_
      | refine OW_bi rfl rfl (aLen rfl rfl) ?_
    first
      | refine OW_no rfl ?_
      | refine OW_bin rfl rfl rfl rfl (gtr_yes (by omega)) ?_
      | refine OW_bin rfl rfl rfl rfl (gtr_no (by omega)) ?_
      | refine OW_bin rfl rfl rfl rfl rfl ?_
    refine OW_pick rfl rfl rfl ?_
    refine OW_env (e' := [_, _, _, _, _, _, _, _, _, _, _, _, _, _, _, _, _, _, _, _, _, _, _, _, _, _, _, _, _, _, _, _, _, _, _, _, _, _, _, _, _, _, _, _, _, _, _, _, _, _, _, _, _, _, _, _, _, _, _, _, _, _, _, _, _, _, _, _, _, _, _, _, _, _, _, _, _, _, _, _]) rfl ?_
    refine OW_mv rfl rfl ?_
    first
      | refine OW_no rfl ?_
      | refine OW_mv rfl rfl ?_
    first
      | refine OW_no rfl ?_
      | refine OW_bin rfl rfl rfl rfl (lss_yes (by omega)) ?_
      | refine OW_bin rfl rfl rfl rfl (lss_no (by omega)) ?_
      | refine OW_bin rfl rfl rfl rfl rfl ?_
    refine OW_env (e' := [_, _, _, _, _, _, _, _, _, _, _, _, _, _, _, _, _, _, _, _, _, _, _, _, _, _, _, _, _, _, _, _, _, _, _, _, _, _, _, _, _, _, _, _, _, _, _, _, _, _, _, _, _, _, _, _, _, _, _, _, _, _, _, _, _, _, _, _, _, _, _, _, _, _, _, _, _, _, _, _]) rfl ?_
    refine OW_pick rfl rfl rfl ?_
    refine OW_mv rfl rfl ?_
    first
      | refine OW_no rfl ?_
      | refine OW_mv rfl rfl ?_
    refine OW_env (e' := [_, _, _, _, _, _, _, _, _, _, _, _, _, _, _, _, _, _, _, _, _, _, _, _, _, _, _, _, _, _, _, _, _, _, _, _, _, _, _, _, _, _, _, _, _, _, _, _, _, _, _, _, _, _, _, _, _, _, _, _, _, _, _, _, _, _, _, _, _, _, _, _, _, _, _, _, _, _, _, _]) rfl ?_
    first
      | refine OW_no rfl ?_
      | refine OW_bin rfl rfl rfl rfl (gtr_yes (by omega)) ?_
      | refine OW_bin rfl rfl rfl rfl (gtr_no (by omega)) ?_
      | refine OW_bin rfl rfl rfl rfl rfl ?_
    refine OW_pick rfl rfl rfl ?_
    refine OW_nilE (e' := [_, _, _, _, _, _, _, _, _, _, _, _, _, _, _, _, _, _, _, _, _, _, _, _, _, _, _, _, _, _, _, _, _, _, _, _, _, _, _, _, _, _, _, _, _, _, _, _, _, _, _, _, _, _, _, _, _, _, _, _, _, _, _, _, _, _, _, _, _, _, _, _, _, _, _, _, _, _, _, _]) rfl ?_
    refine XW_no rfl rfl ?_
    refine XW_skip ?_
    refine then_norm ?_
    refine XW_sr ?_
    refine OW_fn rfl rfl (mNew fun qm H1 hqm hm1 _ => ?_)
    refine OW_env (e' := [_, _, _, _, _, _, _, _, _, _, _, _, _, _, _, _, _, _, _, _, _, _, _, _, _, _, _, _, _, _, _, _, _, _, _, _, _, _, _, _, _, _, _, _, _, _, _, _, _, _, _, _, _, _, _, _, _, _, _, _, _, _, _, _, _, _, _, _, _, _, _, _, _, _, _, _, _, _, _, _]) rfl ?_
    refine OW_as rfl rfl ?_
    refine OW_nilE (e' := [_, _, _, _, _, _, _, _, _, _, _, _, _, _, _, _, _, _, _, _, _, _, _, _, _, _, _, _, _, _, _, _, _, _, _, _, _, _, _, _, _, _, _, _, _, _, _, _, _, _, _, _, _, _, _, _, _, _, _, _, _, _, _, _, _, _, _, _, _, _, _, _, _, _, _, _, _, _, _, _]) rfl ?_
    refine XW_sr ?_
    refine OW_mv rfl rfl ?_
    refine OW_mv rfl rfl ?_
    refine OW_fn rfl rfl (mPut hm1 (by simp) (by repeat (first | assumption | exact far1 (by assumption) (by decide) | exact far2 (by assumption) (by decide) | exact far3 (by assumption) (by decide) | exact far4 (by assumption) (by decide) | exact far5 (by assumption) (by decide) | exact far6 (by assumption) (by decide) | exact far7 (by assumption) (by decide) | exact far8 (by assumption) (by decide) | refine under_dn ?_)) (by simp) ls hl fun H2 S2 fp2 hm2 hf2 _ => ?_)
    have hf2' : ∀ p ∈ fp2, under [2, 0, 1, 1, 1] p = true := fun p hp => (hf2 p hp).elim (fun h => by cases h) id
    simp only [List.nil_append, List.length_nil, Nat.sub_zero] at hm2
    simp only [List.length_nil, Nat.sub_zero]
    obtain ⟨m0, hm0⟩ : ∃ m : Nat, m = min ls.length 4096 := ⟨_, rfl⟩
    rw [← hm0]
    refine OW_env (e' := [_, _, _, _, _, _, _, _, _, _, _, _, _, _, _, _, _, _, _, _, _, _, _, _, _, _, _, _, _, _, _, _, _, _, _, _, _, _, _, _, _, _, _, _, _, _, _, _, _, _, _, _, _, _, _, _, _, _, _, _, _, _, _, _, _, _, _, _, _, _, _, _, _, _, _, _, _, _, _, _]) rfl ?_
    refine OW_as rfl rfl ?_
    refine OW_nilE (e' := [_, _, _, _, _, _, _, _, _, _, _, _, _, _, _, _, _, _, _, _, _, _, _, _, _, _, _, _, _, _, _, _, _, _, _, _, _, _, _, _, _, _, _, _, _, _, _, _, _, _, _, _, _, _, _, _, _, _, _, _, _, _, _, _, _, _, _, _, _, _, _, _, _, _, _, _, _, _, _, _]) rfl ?_
    refine XW_seq ?_
    refine XW_sr ?_
    refine OW_as rfl rfl ?_
    refine OW_nilE (e' := [_, _, _, _, _, _, _, _, _, _, _, _, _, _, _, _, _, _, _, _, _, _, _, _, _, _, _, _, _, _, _, _, _, _, _, _, _, _, _, _, _, _, _, _, _, _, _, _, _, _, _, _, _, _, _, _, _, _, _, _, _, _, _, _, _, _, _, _, _, _, _, _, _, _, _, _, _, _, _, _]) rfl ?_
    refine XW_block ?_
    refine XW_whileN (I := fun ν' n e H' => ∃ (i : Nat) (xs : List Lt) (S : AVal) (fp : List Nm), (n : Int) = more - i ∧ i ≤ more ∧ under [1, 0, 1, 1, 1, 1] ν' = true ∧ under ν' qm = false ∧ (∀ p ∈ fp, under ν' p = false ∧ under [1, 1, 1, 1, 1] p = false) ∧ IsMesh H' qm xs S fp ∧ xs.length = min (ls.length + i) 4096 ∧ (∀ l, ls[0]? = some l → xs[0]? = some l) ∧
      ∃ g : Nat → AVal, e = [.lst (ls.map Lt.enc), .int .i64 more, g 2, g 3, .bool false, .ptr qm 0 0, .int .i64 m0, .int .i64 i, g 8, g 9, g 10, g 11, g 12, g 13, g 14, g 15, g 16, g 17, g 18, g 19, g 20, g 21, g 22, g 23, g 24, g 25, g 26, g 27, g 28, g 29, g 30, g 31, g 32, g 33, g 34, g 35, g 36, g 37, g 38, g 39, g 40, g 41, g 42, g 43, g 44, g 45, g 46, g 47, g 48, g 49, g 50, g 51, g 52, g 53, g 54, g 55, g 56, g 57, g 58, g 59, g 60, g 61, g 62, g 63, g 64, g 65, g 66, g 67, g 68, g 69, g 70, g 71, g 72, g 73, g 74, g 75, g 76, g 77, g 78, g 79]) ?_ more.toNat _ _ _ ⟨0, ls.take 4096, S2, fp2, by omega, by omega, rfl, (by repeat (first | assumption | exact far1 (by assumption) (by decide) | exact far2 (by assumption) (by decide) | exact far3 (by assumption) (by decide) | exact far4 (by assumption) (by decide) | exact far5 (by assumption) (by decide) | exact far6 (by assumption) (by decide) | exact far7 (by assumption) (by decide) | exact far8 (by assumption) (by decide) | refine under_dn ?_)), fun p hp => by have := hf2' p hp; exact ⟨(by repeat (first | assumption | exact far1 (by assumption) (by decide) | exact far2 (by assumption) (by decide) | exact far3 (by assumption) (by decide) | exact far4 (by assumption) (by decide) | exact far5 (by assumption) (by decide) | exact far6 (by assumption) (by decide) | exact far7 (by assumption) (by decide) | exact far8 (by assumption) (by decide) | refine under_dn ?_)), (by repeat (first | assumption | exact far1 (by assumption) (by decide) | exact far2 (by assumption) (by decide) | exact far3 (by assumption) (by decide) | exact far4 (by assumption) (by decide) | exact far5 (by assumption) (by decide) | exact far6 (by assumption) (by decide) | exact far7 (by assumption) (by decide) | exact far8 (by assumption) (by decide) | refine under_dn ?_))⟩, hm2, by simp; omega, fun l hl => by rw [List.getElem?_take, if_pos (by omega)]; exact hl, env_g rfl⟩
    rintro ν' n e H' ⟨i, xs, S, fp, hn, hi, hU, hqν, hfν, hmx, hxl, hx0, g, rfl⟩
    refine XW_seq ?_
    refine XW_sr ?_
    by_cases hlt : (i : Int) < more
    · refine OW_mv rfl rfl ?_
      refine OW_mv rfl rfl ?_
      first
        | refine OW_bin rfl rfl rfl rfl (lss_yes (by omega)) ?_
        | refine OW_bin rfl rfl rfl rfl (lss_no (by omega)) ?_
        | refine OW_bin rfl rfl rfl rfl rfl ?_
      refine OW_nilE (e' := [_, _, _, _, _, _, _, _, _, _, _, _, _, _, _, _, _, _, _, _, _, _, _, _, _, _, _, _, _, _, _, _, _, _, _, _, _, _, _, _, _, _, _, _, _, _, _, _, _, _, _, _, _, _, _, _, _, _, _, _, _, _, _, _, _, _, _, _, _, _, _, _, _, _, _, _, _, _, _, _]) rfl ?_
      refine XW_yes rfl rfl ?_
      refine XW_skip ?_
      refine then_norm ?_
      refine XW_seq ?_
      refine XW_block ?_
      refine XW_region ?_
      refine OW_mv rfl rfl ?_
      refine OW_fn rfl rfl (letterW _ ?_)
      refine OW_env (e' := [_, _, _, _, _, _, _, _, _, _, _, _, _, _, _, _, _, _, _, _, _, _, _, _, _, _, _, _, _, _, _, _, _, _, _, _, _, _, _, _, _, _, _, _, _, _, _, _, _, _, _, _, _, _, _, _, _, _, _, _, _, _, _, _, _, _, _, _, _, _, _, _, _, _, _, _, _, _, _, _]) rfl ?_
      refine OW_bs rfl rfl rfl ?_
      refine OW_fn rfl rfl (mPut hmx (by omega) (by repeat (first | assumption | exact far1 (by assumption) (by decide) | exact far2 (by assumption) (by decide) | exact far3 (by assumption) (by decide) | exact far4 (by assumption) (by decide) | exact far5 (by assumption) (by decide) | exact far6 (by assumption) (by decide) | exact far7 (by assumption) (by decide) | exact far8 (by assumption) (by decide) | refine under_dn ?_)) (fun p hp => by have := (hfν p hp).1; have := (hfν p hp).2; exact (by repeat (first | assumption | exact far1 (by assumption) (by decide) | exact far2 (by assumption) (by decide) | exact far3 (by assumption) (by decide) | exact far4 (by assumption) (by decide) | exact far5 (by assumption) (by decide) | exact far6 (by assumption) (by decide) | exact far7 (by assumption) (by decide) | exact far8 (by assumption) (by decide) | refine under_dn ?_))) [⟨1, 2, "more".toUTF8⟩] (by simp) fun H3 S3 fp3 hm3 hf3 _ => ?_)
      refine OW_nilE (e' := [_, _, _, _, _, _, _, _, _, _, _, _, _, _, _, _, _, _, _, _, _, _, _, _, _, _, _, _, _, _, _, _, _, _, _, _, _, _, _, _, _, _, _, _, _, _, _, _, _, _, _, _, _, _, _, _, _, _, _, _, _, _, _, _, _, _, _, _, _, _, _, _, _, _, _, _, _, _, _, _]) rfl ?_
      refine block_norm ?_
      refine then_norm ?_
      refine XW_region ?_
      refine OW_mv rfl rfl ?_
      first
        | refine OW_bin rfl rfl rfl rfl (add64 (by omega)) ?_
        | refine OW_bin rfl rfl rfl rfl (addu64 (by omega)) ?_
        | refine OW_bin rfl rfl rfl rfl rfl ?_
      refine OW_as rfl rfl ?_
      refine OW_nilE (e' := [_, _, _, _, _, _, _, _, _, _, _, _, _, _, _, _, _, _, _, _, _, _, _, _, _, _, _, _, _, _, _, _, _, _, _, _, _, _, _, _, _, _, _, _, _, _, _, _, _, _, _, _, _, _, _, _, _, _, _, _, _, _, _, _, _, _, _, _, _, _, _, _, _, _, _, _, _, _, _, _]) rfl ?_
      refine ⟨(more - (i + 1)).toNat, by omega, i + 1, _, S3, fp3, by omega, by omega, under_in hU, (by repeat (first | assumption | exact far1 (by assumption) (by decide) | exact far2 (by assumption) (by decide) | exact far3 (by assumption) (by decide) | exact far4 (by assumption) (by decide) | exact far5 (by assumption) (by decide) | exact far6 (by assumption) (by decide) | exact far7 (by assumption) (by decide) | exact far8 (by assumption) (by decide) | refine under_dn ?_)), fun p hp => ?_, hm3, ?_, ?_, env_g rfl⟩
      · rcases hf3 p hp with h | h
        · exact ⟨under_dn (hfν p h).1, (hfν p h).2⟩
        · have h2 := under_trans hU (under_up (under_up (under_up (under_up h))))
          exact ⟨(by repeat (first | assumption | exact far1 (by assumption) (by decide) | exact far2 (by assumption) (by decide) | exact far3 (by assumption) (by decide) | exact far4 (by assumption) (by decide) | exact far5 (by assumption) (by decide) | exact far6 (by assumption) (by decide) | exact far7 (by assumption) (by decide) | exact far8 (by assumption) (by decide) | refine under_dn ?_)), (by repeat (first | assumption | exact far1 (by assumption) (by decide) | exact far2 (by assumption) (by decide) | exact far3 (by assumption) (by decide) | exact far4 (by assumption) (by decide) | exact far5 (by assumption) (by decide) | exact far6 (by assumption) (by decide) | exact far7 (by assumption) (by decide) | exact far8 (by assumption) (by decide) | refine under_dn ?_))⟩
      · rw [List.length_append, List.length_take, List.length_singleton]; omega
      · intro l hl
        have := hx0 l hl
        rw [List.getElem?_append_left (List.getElem?_eq_some_iff.1 this).1]; exact this
    · obtain rfl : more = i := by omega
      refine OW_mv rfl rfl ?_
      refine OW_mv rfl rfl ?_
      first
        | refine OW_bin rfl rfl rfl rfl (lss_yes (by omega)) ?_
        | refine OW_bin rfl rfl rfl rfl (lss_no (by omega)) ?_
        | refine OW_bin rfl rfl rfl rfl rfl ?_
      refine OW_nilE (e' := [_, _, _, _, _, _, _, _, _, _, _, _, _, _, _, _, _, _, _, _, _, _, _, _, _, _, _, _, _, _, _, _, _, _, _, _, _, _, _, _, _, _, _, _, _, _, _, _, _, _, _, _, _, _, _, _, _, _, _, _, _, _, _, _, _, _, _, _, _, _, _, _, _, _, _, _, _, _, _, _]) rfl ?_
      refine XW_no rfl rfl ?_
      refine XW_exit ?_
      refine then_exit ?_
      refine block_exit ?_
      refine then_norm ?_
      refine XW_sr ?_
      refine OW_mv rfl rfl ?_
      refine OW_fn rfl rfl (mLook hmx 0 (by omega) (by repeat (first | assumption | exact far1 (by assumption) (by decide) | exact far2 (by assumption) (by decide) | exact far3 (by assumption) (by decide) | exact far4 (by assumption) (by decide) | exact far5 (by assumption) (by decide) | exact far6 (by assumption) (by decide) | exact far7 (by assumption) (by decide) | exact far8 (by assumption) (by decide) | refine under_dn ?_)) (fun p hp => by have := (hfν p hp).1; have := (hfν p hp).2; exact (by repeat (first | assumption | exact far1 (by assumption) (by decide) | exact far2 (by assumption) (by decide) | exact far3 (by assumption) (by decide) | exact far4 (by assumption) (by decide) | exact far5 (by assumption) (by decide) | exact far6 (by assumption) (by decide) | exact far7 (by assumption) (by decide) | exact far8 (by assumption) (by decide) | refine under_dn ?_))) (by omega) ?_ ?_)
      · intro hx
        have hl0 : ls.length = 0 ∧ i = 0 := by subst hx; simp at hxl; omega
        have hl1 : ls = [] := List.eq_nil_of_length_eq_zero hl0.1
        have hi0 := hl0.2
        subst hl1; subst hi0; subst hx
        refine OW_env (e' := [_, _, _, _, _, _, _, _, _, _, _, _, _, _, _, _, _, _, _, _, _, _, _, _, _, _, _, _, _, _, _, _, _, _, _, _, _, _, _, _, _, _, _, _, _, _, _, _, _, _, _, _, _, _, _, _, _, _, _, _, _, _, _, _, _, _, _, _, _, _, _, _, _, _, _, _, _, _, _, _]) rfl ?_
        refine OW_mv rfl rfl ?_
        refine OW_ex rfl rfl rfl ?_
        refine OW_ex rfl rfl rfl ?_
        refine OW_env (e' := [_, _, _, _, _, _, _, _, _, _, _, _, _, _, _, _, _, _, _, _, _, _, _, _, _, _, _, _, _, _, _, _, _, _, _, _, _, _, _, _, _, _, _, _, _, _, _, _, _, _, _, _, _, _, _, _, _, _, _, _, _, _, _, _, _, _, _, _, _, _, _, _, _, _, _, _, _, _, _, _]) rfl ?_
        refine OW_alloc rfl rfl ?_
        refine OW_store rfl rfl rfl (aStore_ptr rfl (by first | rfl | assumption | exact put_same) rfl ⟨rfl, rfl, by decide⟩) ?_
        refine OW_as rfl rfl ?_
        refine OW_nilE (e' := [_, _, _, _, _, _, _, _, _, _, _, _, _, _, _, _, _, _, _, _, _, _, _, _, _, _, _, _, _, _, _, _, _, _, _, _, _, _, _, _, _, _, _, _, _, _, _, _, _, _, _, _, _, _, _, _, _, _, _, _, _, _, _, _, _, _, _, _, _, _, _, _, _, _, _, _, _, _, _, _]) rfl ?_
        refine XW_gen fun H4 hH4 => ?_
        have hm4 : IsMesh H4 qm [] S fp := by
          rw [hH4]; exact hmx.out (ν := [1, 1, 1, 1, 1]) (by repeat (first | assumption | exact far1 (by assumption) (by decide) | exact far2 (by assumption) (by decide) | exact far3 (by assumption) (by decide) | exact far4 (by assumption) (by decide) | exact far5 (by assumption) (by decide) | exact far6 (by assumption) (by decide) | exact far7 (by assumption) (by decide) | exact far8 (by assumption) (by decide) | refine under_dn ?_)) (fun p hp => (hfν p hp).2) (by repeat (first | exact Out.refl | assumption | refine Out.put ?_ (by repeat (first | exact under_me | apply under_in))))
        refine XW_sr ?_
        refine OW_mv rfl rfl ?_
        refine OW_mv rfl rfl ?_
        refine OW_env (e' := [_, _, _, _, _, _, _, _, _, _, _, _, _, _, _, _, _, _, _, _, _, _, _, _, _, _, _, _, _, _, _, _, _, _, _, _, _, _, _, _, _, _, _, _, _, _, _, _, _, _, _, _, _, _, _, _, _, _, _, _, _, _, _, _, _, _, _, _, _, _, _, _, _, _, _, _, _, _, _, _]) rfl ?_
        first
          | refine OW_bi rfl rfl (aLen_map rfl) ?_
          | refine OW_bi rfl rfl (aLen rfl rfl) ?_
        refine OW_bi rfl rfl (min64 (m := 0) (by simp)) ?_
        refine OW_bin rfl rfl rfl rfl (eq_yes (by rw [hm0]; rfl)) ?_
        refine OW_env (e' := [_, _, _, _, _, _, _, _, _, _, _, _, _, _, _, _, _, _, _, _, _, _, _, _, _, _, _, _, _, _, _, _, _, _, _, _, _, _, _, _, _, _, _, _, _, _, _, _, _, _, _, _, _, _, _, _, _, _, _, _, _, _, _, _, _, _, _, _, _, _, _, _, _, _, _, _, _, _, _, _]) rfl ?_
        refine OW_mv rfl rfl ?_
        first
          | refine OW_no rfl ?_
          | refine OW_mv rfl rfl ?_
        refine OW_fn rfl rfl (many hm4 ?_)
        refine OW_env (e' := [_, _, _, _, _, _, _, _, _, _, _, _, _, _, _, _, _, _, _, _, _, _, _, _, _, _, _, _, _, _, _, _, _, _, _, _, _, _, _, _, _, _, _, _, _, _, _, _, _, _, _, _, _, _, _, _, _, _, _, _, _, _, _, _, _, _, _, _, _, _, _, _, _, _, _, _, _, _, _, _]) rfl ?_
        first
          | refine OW_no rfl ?_
          | refine OW_mv rfl rfl ?_
        first
          | refine OW_no rfl ?_
          | refine OW_bi rfl rfl (aLen_map rfl) ?_
          | refine OW_bi rfl rfl (aLen rfl rfl) ?_
        first
          | refine OW_no rfl ?_
          | refine OW_mv rfl rfl ?_
        refine OW_env (e' := [_, _, _, _, _, _, _, _, _, _, _, _, _, _, _, _, _, _, _, _, _, _, _, _, _, _, _, _, _, _, _, _, _, _, _, _, _, _, _, _, _, _, _, _, _, _, _, _, _, _, _, _, _, _, _, _, _, _, _, _, _, _, _, _, _, _, _, _, _, _, _, _, _, _, _, _, _, _, _, _]) rfl ?_
        first
          | refine OW_no rfl ?_
          | refine OW_bin rfl rfl rfl rfl (add64 (by omega)) ?_
          | refine OW_bin rfl rfl rfl rfl (addu64 (by omega)) ?_
          | refine OW_bin rfl rfl rfl rfl rfl ?_
        refine OW_bi rfl rfl (min64 (m := 0) (by simp)) ?_
        refine OW_env (e' := [_, _, _, _, _, _, _, _, _, _, _, _, _, _, _, _, _, _, _, _, _, _, _, _, _, _, _, _, _, _, _, _, _, _, _, _, _, _, _, _, _, _, _, _, _, _, _, _, _, _, _, _, _, _, _, _, _, _, _, _, _, _, _, _, _, _, _, _, _, _, _, _, _, _, _, _, _, _, _, _]) rfl ?_
        first
          | refine OW_no rfl ?_
          | refine OW_bin rfl rfl rfl rfl (eq_yes (by omega)) ?_
          | refine OW_bin rfl rfl rfl rfl (eq_no (by omega)) ?_
          | refine OW_bin rfl rfl rfl rfl rfl ?_
        refine OW_pick rfl rfl rfl ?_
        refine OW_mv rfl rfl ?_
        refine OW_env (e' := [_, _, _, _, _, _, _, _, _, _, _, _, _, _, _, _, _, _, _, _, _, _, _, _, _, _, _, _, _, _, _, _, _, _, _, _, _, _, _, _, _, _, _, _, _, _, _, _, _, _, _, _, _, _, _, _, _, _, _, _, _, _, _, _, _, _, _, _, _, _, _, _, _, _, _, _, _, _, _, _]) rfl ?_
        first
          | refine OW_no rfl ?_
          | refine OW_mv rfl rfl ?_
        first
          | refine OW_no rfl ?_
          | refine OW_mv rfl rfl ?_
        first
          | refine OW_no rfl ?_
          | refine OW_bi rfl rfl (aLen_map rfl) ?_
          | refine OW_bi rfl rfl (aLen rfl rfl) ?_
        refine OW_env (e' := [_, _, _, _, _, _, _, _, _, _, _, _, _, _, _, _, _, _, _, _, _, _, _, _, _, _, _, _, _, _, _, _, _, _, _, _, _, _, _, _, _, _, _, _, _, _, _, _, _, _, _, _, _, _, _, _, _, _, _, _, _, _, _, _, _, _, _, _, _, _, _, _, _, _, _, _, _, _, _, _]) rfl ?_
        first
          | refine OW_no rfl ?_
          | refine OW_mv rfl rfl ?_
        first
          | refine OW_no rfl ?_
          | refine OW_bin rfl rfl rfl rfl (add64 (by omega)) ?_
          | refine OW_bin rfl rfl rfl rfl (addu64 (by omega)) ?_
          | refine OW_bin rfl rfl rfl rfl rfl ?_
        first
          | refine OW_no rfl ?_
          | refine OW_bin rfl rfl rfl rfl (gtr_yes (by omega)) ?_
          | refine OW_bin rfl rfl rfl rfl (gtr_no (by omega)) ?_
          | refine OW_bin rfl rfl rfl rfl rfl ?_
        refine OW_bin rfl rfl rfl rfl rfl ?_
        refine OW_env (e' := [_, _, _, _, _, _, _, _, _, _, _, _, _, _, _, _, _, _, _, _, _, _, _, _, _, _, _, _, _, _, _, _, _, _, _, _, _, _, _, _, _, _, _, _, _, _, _, _, _, _, _, _, _, _, _, _, _, _, _, _, _, _, _, _, _, _, _, _, _, _, _, _, _, _, _, _, _, _, _, _]) rfl ?_
        refine OW_pick rfl rfl rfl ?_
        refine OW_mv rfl rfl ?_
        first
          | refine OW_no rfl ?_
          | refine OW_mv rfl rfl ?_
        refine OW_env (e' := [_, _, _, _, _, _, _, _, _, _, _, _, _, _, _, _, _, _, _, _, _, _, _, _, _, _, _, _, _, _, _, _, _, _, _, _, _, _, _, _, _, _, _, _, _, _, _, _, _, _, _, _, _, _, _, _, _, _, _, _, _, _, _, _, _, _, _, _, _, _, _, _, _, _, _, _, _, _, _, _]) rfl ?_
        first
          | refine OW_no rfl ?_
          | refine OW_bi rfl rfl (aLen_map rfl) ?_
          | refine OW_bi rfl rfl (aLen rfl rfl) ?_
        first
          | refine OW_no rfl ?_
          | refine OW_bin rfl rfl rfl rfl (eq_yes (by omega)) ?_
          | refine OW_bin rfl rfl rfl rfl (eq_no (by omega)) ?_
          | refine OW_bin rfl rfl rfl rfl rfl ?_
        first
          | refine OW_no rfl ?_
          | refine OW_mv rfl rfl ?_
        refine OW_env (e' := [_, _, _, _, _, _, _, _, _, _, _, _, _, _, _, _, _, _, _, _, _, _, _, _, _, _, _, _, _, _, _, _, _, _, _, _, _, _, _, _, _, _, _, _, _, _, _, _, _, _, _, _, _, _, _, _, _, _, _, _, _, _, _, _, _, _, _, _, _, _, _, _, _, _, _, _, _, _, _, _]) rfl ?_
        first
          | refine OW_no rfl ?_
          | refine OW_load rfl rfl (by first | exact aLoad_ept rfl rfl | exact aLoad_ptr rfl (by first | rfl | assumption | exact put_same) rfl rfl) ?_
        first
          | refine OW_no rfl ?_
          | refine OW_mv rfl rfl ?_
        first
          | refine OW_no rfl ?_
          | refine OW_ia rfl rfl rfl ?_ ?_
        refine OW_env (e' := [_, _, _, _, _, _, _, _, _, _, _, _, _, _, _, _, _, _, _, _, _, _, _, _, _, _, _, _, _, _, _, _, _, _, _, _, _, _, _, _, _, _, _, _, _, _, _, _, _, _, _, _, _, _, _, _, _, _, _, _, _, _, _, _, _, _, _, _, _, _, _, _, _, _, _, _, _, _, _, _]) rfl ?_
        first
          | refine OW_no rfl ?_
          | refine OW_load rfl rfl (by first | exact aLoad_ept rfl rfl | exact aLoad_ptr rfl (by first | rfl | assumption | exact put_same) rfl rfl) ?_
        first
          | refine OW_no rfl ?_
          | refine OW_bin rfl rfl rfl rfl (eq_yes (by omega)) ?_
          | refine OW_bin rfl rfl rfl rfl (eq_no (by omega)) ?_
          | refine OW_bin rfl rfl rfl rfl rfl ?_
        first
          | refine OW_no rfl ?_
          | refine OW_pick rfl rfl rfl ?_
        refine OW_env (e' := [_, _, _, _, _, _, _, _, _, _, _, _, _, _, _, _, _, _, _, _, _, _, _, _, _, _, _, _, _, _, _, _, _, _, _, _, _, _, _, _, _, _, _, _, _, _, _, _, _, _, _, _, _, _, _, _, _, _, _, _, _, _, _, _, _, _, _, _, _, _, _, _, _, _, _, _, _, _, _, _]) rfl ?_
        refine OW_pick rfl rfl rfl ?_
        refine OW_as rfl rfl ?_
        refine OW_nilE (e' := [_, _, _, _, _, _, _, _, _, _, _, _, _, _, _, _, _, _, _, _, _, _, _, _, _, _, _, _, _, _, _, _, _, _, _, _, _, _, _, _, _, _, _, _, _, _, _, _, _, _, _, _, _, _, _, _, _, _, _, _, _, _, _, _, _, _, _, _, _, _, _, _, _, _, _, _, _, _, _, _]) rfl ?_
        refine XW_ret ?_
        exact ret_ret rfl rfl
      · intro l hl
        have hx1 : 0 < xs.length := by
          have := (List.getElem?_eq_some_iff.1 hl).1
          omega
        have hp0 : pos 0 xs.length = 0 := by
          have h0 : ((0 : Int).tmod xs.length + xs.length).tmod xs.length = 0 := by rw [Int.zero_tmod, Int.zero_add, Int.tmod_self]
          unfold pos; rw [h0]; rfl
        rw [hp0] at hl
        obtain ⟨m1, hm1'⟩ : ∃ m : Nat, m = min (ls.length + i) 4096 := ⟨_, rfl⟩
        rw [← hm1'] at hxl
        refine OW_env (e' := [_, _, _, _, _, _, _, _, _, _, _, _, _, _, _, _, _, _, _, _, _, _, _, _, _, _, _, _, _, _, _, _, _, _, _, _, _, _, _, _, _, _, _, _, _, _, _, _, _, _, _, _, _, _, _, _, _, _, _, _, _, _, _, _, _, _, _, _, _, _, _, _, _, _, _, _, _, _, _, _]) rfl ?_
        refine OW_mv rfl rfl ?_
        refine OW_ex rfl rfl rfl ?_
        refine OW_ex rfl rfl rfl ?_
        refine OW_env (e' := [_, _, _, _, _, _, _, _, _, _, _, _, _, _, _, _, _, _, _, _, _, _, _, _, _, _, _, _, _, _, _, _, _, _, _, _, _, _, _, _, _, _, _, _, _, _, _, _, _, _, _, _, _, _, _, _, _, _, _, _, _, _, _, _, _, _, _, _, _, _, _, _, _, _, _, _, _, _, _, _]) rfl ?_
        refine OW_alloc rfl rfl ?_
        refine OW_store rfl rfl rfl (aStore_ptr rfl (by first | rfl | assumption | exact put_same) rfl ⟨rfl, rfl, by decide⟩) ?_
        refine OW_as rfl rfl ?_
        refine OW_nilE (e' := [_, _, _, _, _, _, _, _, _, _, _, _, _, _, _, _, _, _, _, _, _, _, _, _, _, _, _, _, _, _, _, _, _, _, _, _, _, _, _, _, _, _, _, _, _, _, _, _, _, _, _, _, _, _, _, _, _, _, _, _, _, _, _, _, _, _, _, _, _, _, _, _, _, _, _, _, _, _, _, _]) rfl ?_
        refine XW_gen fun H4 hH4 => ?_
        have hm4 : IsMesh H4 qm xs S fp := by
          rw [hH4]; exact hmx.out (ν := [1, 1, 1, 1, 1]) (by repeat (first | assumption | exact far1 (by assumption) (by decide) | exact far2 (by assumption) (by decide) | exact far3 (by assumption) (by decide) | exact far4 (by assumption) (by decide) | exact far5 (by assumption) (by decide) | exact far6 (by assumption) (by decide) | exact far7 (by assumption) (by decide) | exact far8 (by assumption) (by decide) | refine under_dn ?_)) (fun p hp => (hfν p hp).2) (by repeat (first | exact Out.refl | assumption | refine Out.put ?_ (by repeat (first | exact under_me | apply under_in))))
        have hl4 : H4 [5, 0, 1, 1, 1, 1, 1] = some (.row 3 [l.enc]) := by rw [hH4]; exact put_same
        refine XW_sr ?_
        refine OW_mv rfl rfl ?_
        refine OW_mv rfl rfl ?_
        first
          | refine OW_bi rfl rfl (aLen_map rfl) ?_
          | refine OW_bi rfl rfl (aLen rfl rfl) ?_
        refine OW_bi rfl rfl (min64 (m := (m0 : Nat)) (by split <;> omega)) ?_
        refine OW_env (e' := [_, _, _, _, _, _, _, _, _, _, _, _, _, _, _, _, _, _, _, _, _, _, _, _, _, _, _, _, _, _, _, _, _, _, _, _, _, _, _, _, _, _, _, _, _, _, _, _, _, _, _, _, _, _, _, _, _, _, _, _, _, _, _, _, _, _, _, _, _, _, _, _, _, _, _, _, _, _, _, _]) rfl ?_
        first
          | refine OW_bin rfl rfl rfl rfl (eq_yes (by omega)) ?_
          | refine OW_bin rfl rfl rfl rfl (eq_no (by omega)) ?_
          | refine OW_bin rfl rfl rfl rfl rfl ?_
        refine OW_mv rfl rfl ?_
        first
          | refine OW_no rfl ?_
          | refine OW_mv rfl rfl ?_
        refine OW_fn rfl rfl (many hm4 ?_)
        refine OW_env (e' := [_, _, _, _, _, _, _, _, _, _, _, _, _, _, _, _, _, _, _, _, _, _, _, _, _, _, _, _, _, _, _, _, _, _, _, _, _, _, _, _, _, _, _, _, _, _, _, _, _, _, _, _, _, _, _, _, _, _, _, _, _, _, _, _, _, _, _, _, _, _, _, _, _, _, _, _, _, _, _, _]) rfl ?_
        first
          | refine OW_no rfl ?_
          | refine OW_mv rfl rfl ?_
        first
          | refine OW_no rfl ?_
          | refine OW_bi rfl rfl (aLen_map rfl) ?_
          | refine OW_bi rfl rfl (aLen rfl rfl) ?_
        first
          | refine OW_no rfl ?_
          | refine OW_mv rfl rfl ?_
        refine OW_env (e' := [_, _, _, _, _, _, _, _, _, _, _, _, _, _, _, _, _, _, _, _, _, _, _, _, _, _, _, _, _, _, _, _, _, _, _, _, _, _, _, _, _, _, _, _, _, _, _, _, _, _, _, _, _, _, _, _, _, _, _, _, _, _, _, _, _, _, _, _, _, _, _, _, _, _, _, _, _, _, _, _]) rfl ?_
        first
          | refine OW_no rfl ?_
          | refine OW_bin rfl rfl rfl rfl (add64 (by omega)) ?_
          | refine OW_bin rfl rfl rfl rfl (addu64 (by omega)) ?_
          | refine OW_bin rfl rfl rfl rfl rfl ?_
        refine OW_bi rfl rfl (min64 (m := (m1 : Nat)) (by split <;> omega)) ?_
        rw [hxl]
        refine OW_env (e' := [_, _, _, _, _, _, _, _, _, _, _, _, _, _, _, _, _, _, _, _, _, _, _, _, _, _, _, _, _, _, _, _, _, _, _, _, _, _, _, _, _, _, _, _, _, _, _, _, _, _, _, _, _, _, _, _, _, _, _, _, _, _, _, _, _, _, _, _, _, _, _, _, _, _, _, _, _, _, _, _]) rfl ?_
        first
          | refine OW_no rfl ?_
          | refine OW_bin rfl rfl rfl rfl (eq_yes (by omega)) ?_
          | refine OW_bin rfl rfl rfl rfl (eq_no (by omega)) ?_
          | refine OW_bin rfl rfl rfl rfl rfl ?_
        refine OW_pick rfl rfl rfl ?_
        refine OW_mv rfl rfl ?_
        refine OW_env (e' := [_, _, _, _, _, _, _, _, _, _, _, _, _, _, _, _, _, _, _, _, _, _, _, _, _, _, _, _, _, _, _, _, _, _, _, _, _, _, _, _, _, _, _, _, _, _, _, _, _, _, _, _, _, _, _, _, _, _, _, _, _, _, _, _, _, _, _, _, _, _, _, _, _, _, _, _, _, _, _, _]) rfl ?_
        first
          | refine OW_no rfl ?_
          | refine OW_mv rfl rfl ?_
        first
          | refine OW_no rfl ?_
          | refine OW_mv rfl rfl ?_
        first
          | refine OW_no rfl ?_
          | refine OW_bi rfl rfl (aLen_map rfl) ?_
          | refine OW_bi rfl rfl (aLen rfl rfl) ?_
        refine OW_env (e' := [_, _, _, _, _, _, _, _, _, _, _, _, _, _, _, _, _, _, _, _, _, _, _, _, _, _, _, _, _, _, _, _, _, _, _, _, _, _, _, _, _, _, _, _, _, _, _, _, _, _, _, _, _, _, _, _, _, _, _, _, _, _, _, _, _, _, _, _, _, _, _, _, _, _, _, _, _, _, _, _]) rfl ?_
        first
          | refine OW_no rfl ?_
          | refine OW_mv rfl rfl ?_
        first
          | refine OW_no rfl ?_
          | refine OW_bin rfl rfl rfl rfl (add64 (by omega)) ?_
          | refine OW_bin rfl rfl rfl rfl (addu64 (by omega)) ?_
          | refine OW_bin rfl rfl rfl rfl rfl ?_
        first
          | refine OW_no rfl ?_
          | refine OW_bin rfl rfl rfl rfl (gtr_yes (by omega)) ?_
          | refine OW_bin rfl rfl rfl rfl (gtr_no (by omega)) ?_
          | refine OW_bin rfl rfl rfl rfl rfl ?_
        refine OW_bin rfl rfl rfl rfl rfl ?_
        by_cases h0 : ls.length = 0
        · refine OW_env (e' := [_, _, _, _, _, _, _, _, _, _, _, _, _, _, _, _, _, _, _, _, _, _, _, _, _, _, _, _, _, _, _, _, _, _, _, _, _, _, _, _, _, _, _, _, _, _, _, _, _, _, _, _, _, _, _, _, _, _, _, _, _, _, _, _, _, _, _, _, _, _, _, _, _, _, _, _, _, _, _, _]) rfl ?_
          refine OW_pick rfl rfl rfl ?_
          refine OW_mv rfl rfl ?_
          first
            | refine OW_no rfl ?_
            | refine OW_mv rfl rfl ?_
          refine OW_env (e' := [_, _, _, _, _, _, _, _, _, _, _, _, _, _, _, _, _, _, _, _, _, _, _, _, _, _, _, _, _, _, _, _, _, _, _, _, _, _, _, _, _, _, _, _, _, _, _, _, _, _, _, _, _, _, _, _, _, _, _, _, _, _, _, _, _, _, _, _, _, _, _, _, _, _, _, _, _, _, _, _]) rfl ?_
          first
            | refine OW_no rfl ?_
            | refine OW_bi rfl rfl (aLen_map rfl) ?_
            | refine OW_bi rfl rfl (aLen rfl rfl) ?_
          first
            | refine OW_no rfl ?_
            | refine OW_bin rfl rfl rfl rfl (eq_yes (by omega)) ?_
            | refine OW_bin rfl rfl rfl rfl (eq_no (by omega)) ?_
            | refine OW_bin rfl rfl rfl rfl rfl ?_
          first
            | refine OW_no rfl ?_
            | refine OW_mv rfl rfl ?_
          refine OW_env (e' := [_, _, _, _, _, _, _, _, _, _, _, _, _, _, _, _, _, _, _, _, _, _, _, _, _, _, _, _, _, _, _, _, _, _, _, _, _, _, _, _, _, _, _, _, _, _, _, _, _, _, _, _, _, _, _, _, _, _, _, _, _, _, _, _, _, _, _, _, _, _, _, _, _, _, _, _, _, _, _, _]) rfl ?_
          first
            | refine OW_no rfl ?_
            | refine OW_load rfl rfl (by first | exact aLoad_ept rfl rfl | exact aLoad_ptr rfl (by first | rfl | assumption | exact put_same) rfl rfl) ?_
          first
            | refine OW_no rfl ?_
            | refine OW_mv rfl rfl ?_
          first
            | refine OW_no rfl ?_
            | refine OW_ia rfl rfl rfl ?_ ?_
          refine OW_env (e' := [_, _, _, _, _, _, _, _, _, _, _, _, _, _, _, _, _, _, _, _, _, _, _, _, _, _, _, _, _, _, _, _, _, _, _, _, _, _, _, _, _, _, _, _, _, _, _, _, _, _, _, _, _, _, _, _, _, _, _, _, _, _, _, _, _, _, _, _, _, _, _, _, _, _, _, _, _, _, _, _]) rfl ?_
          first
            | refine OW_no rfl ?_
            | refine OW_load rfl rfl (by first | exact aLoad_ept rfl rfl | exact aLoad_ptr rfl (by first | rfl | assumption | exact put_same) rfl rfl) ?_
          first
            | refine OW_no rfl ?_
            | refine OW_bin rfl rfl rfl rfl (eq_yes (by omega)) ?_
            | refine OW_bin rfl rfl rfl rfl (eq_no (by omega)) ?_
            | refine OW_bin rfl rfl rfl rfl rfl ?_
          first
            | refine OW_no rfl ?_
            | refine OW_pick rfl rfl rfl ?_
          refine OW_env (e' := [_, _, _, _, _, _, _, _, _, _, _, _, _, _, _, _, _, _, _, _, _, _, _, _, _, _, _, _, _, _, _, _, _, _, _, _, _, _, _, _, _, _, _, _, _, _, _, _, _, _, _, _, _, _, _, _, _, _, _, _, _, _, _, _, _, _, _, _, _, _, _, _, _, _, _, _, _, _, _, _]) rfl ?_
          refine OW_pick rfl rfl rfl ?_
          refine OW_as rfl rfl ?_
          refine OW_nilE (e' := [_, _, _, _, _, _, _, _, _, _, _, _, _, _, _, _, _, _, _, _, _, _, _, _, _, _, _, _, _, _, _, _, _, _, _, _, _, _, _, _, _, _, _, _, _, _, _, _, _, _, _, _, _, _, _, _, _, _, _, _, _, _, _, _, _, _, _, _, _, _, _, _, _, _, _, _, _, _, _, _]) rfl ?_
          refine XW_ret ?_
          exact ret_ret rfl rfl
        · have hla : ls[0]? = some l := by
            have h1 : ls[0]? = some ls[0] := List.getElem?_eq_getElem (by omega)
            have h2 := hx0 _ h1
            rw [hl] at h2
            rw [h1, ← Option.some.inj h2]
          have hla2 : (ls.map Lt.enc)[0]? = some l.enc := by rw [List.getElem?_map, hla]; rfl
          refine OW_env (e' := [_, _, _, _, _, _, _, _, _, _, _, _, _, _, _, _, _, _, _, _, _, _, _, _, _, _, _, _, _, _, _, _, _, _, _, _, _, _, _, _, _, _, _, _, _, _, _, _, _, _, _, _, _, _, _, _, _, _, _, _, _, _, _, _, _, _, _, _, _, _, _, _, _, _, _, _, _, _, _, _]) rfl ?_
          refine OW_pick rfl rfl rfl ?_
          refine OW_mv rfl rfl ?_
          first
            | refine OW_no rfl ?_
            | refine OW_mv rfl rfl ?_
          refine OW_env (e' := [_, _, _, _, _, _, _, _, _, _, _, _, _, _, _, _, _, _, _, _, _, _, _, _, _, _, _, _, _, _, _, _, _, _, _, _, _, _, _, _, _, _, _, _, _, _, _, _, _, _, _, _, _, _, _, _, _, _, _, _, _, _, _, _, _, _, _, _, _, _, _, _, _, _, _, _, _, _, _, _]) rfl ?_
          first
            | refine OW_no rfl ?_
            | refine OW_bi rfl rfl (aLen_map rfl) ?_
            | refine OW_bi rfl rfl (aLen rfl rfl) ?_
          first
            | refine OW_no rfl ?_
            | refine OW_bin rfl rfl rfl rfl (eq_yes (by omega)) ?_
            | refine OW_bin rfl rfl rfl rfl (eq_no (by omega)) ?_
            | refine OW_bin rfl rfl rfl rfl rfl ?_
          first
            | refine OW_no rfl ?_
            | refine OW_mv rfl rfl ?_
          refine OW_load rfl rfl (load_row T30 rfl hl4 rfl rfl) ?_
          refine OW_env (e' := [_, _, _, _, _, _, _, _, _, _, _, _, _, _, _, _, _, _, _, _, _, _, _, _, _, _, _, _, _, _, _, _, _, _, _, _, _, _, _, _, _, _, _, _, _, _, _, _, _, _, _, _, _, _, _, _, _, _, _, _, _, _, _, _, _, _, _, _, _, _, _, _, _, _, _, _, _, _, _, _]) rfl ?_
          first
            | refine OW_no rfl ?_
            | refine OW_mv rfl rfl ?_
          refine OW_ia rfl rfl rfl (ia_lst (i := 0) T22 rfl T30 hla2 rfl) ?_
          refine OW_load rfl rfl (aLoad_ept T30 rfl) ?_
          refine OW_bin rfl rfl rfl rfl ((eqLt l l).trans (by rw [decide_eq_true rfl])) ?_
          refine OW_env (e' := [_, _, _, _, _, _, _, _, _, _, _, _, _, _, _, _, _, _, _, _, _, _, _, _, _, _, _, _, _, _, _, _, _, _, _, _, _, _, _, _, _, _, _, _, _, _, _, _, _, _, _, _, _, _, _, _, _, _, _, _, _, _, _, _, _, _, _, _, _, _, _, _, _, _, _, _, _, _, _, _]) rfl ?_
          first
            | refine OW_no rfl ?_
            | refine OW_pick rfl rfl rfl ?_
          refine OW_pick rfl rfl rfl ?_
          refine OW_as rfl rfl ?_
          refine OW_nilE (e' := [_, _, _, _, _, _, _, _, _, _, _, _, _, _, _, _, _, _, _, _, _, _, _, _, _, _, _, _, _, _, _, _, _, _, _, _, _, _, _, _, _, _, _, _, _, _, _, _, _, _, _, _, _, _, _, _, _, _, _, _, _, _, _, _, _, _, _, _, _, _, _, _, _, _, _, _, _, _, _, _]) rfl ?_
          refine XW_ret ?_
          exact ret_ret rfl rfl
  · by_cases h1 : ls.length ≤ 5000
    · by_cases h2 : 0 ≤ more
      · refine OW_env (e' := [_, _, _, _, _, _, _, _, _, _, _, _, _, _, _, _, _, _, _, _, _, _, _, _, _, _, _, _, _, _, _, _, _, _, _, _, _, _, _, _, _, _, _, _, _, _, _, _, _, _, _, _, _, _, _, _, _, _, _, _, _, _, _, _, _, _, _, _, _, _, _, _, _, _, _, _, _, _, _, _]) rfl ?_
        refine OW_un rfl rfl rfl ?_
        refine OW_mv rfl rfl ?_
        first
          | refine OW_no rfl ?_
          | refine OW_mv rfl rfl ?_
        refine OW_env (e' := [_, _, _, _, _, _, _, _, _, _, _, _, _, _, _, _, _, _, _, _, _, _, _, _, _, _, _, _, _, _, _, _, _, _, _, _, _, _, _, _, _, _, _, _, _, _, _, _, _, _, _, _, _, _, _, _, _, _, _, _, _, _, _, _, _, _, _, _, _, _, _, _, _, _, _, _, _, _, _, _]) rfl ?_
        first
          | refine OW_no rfl ?_
          | refine OW_bi rfl rfl (aLen_map rfl) ?_
          | refine OW_bi rfl rfl (aLen rfl rfl) ?_
        first
          | refine OW_no rfl ?_
          | refine OW_bin rfl rfl rfl rfl (gtr_yes (by omega)) ?_
          | refine OW_bin rfl rfl rfl rfl (gtr_no (by omega)) ?_
          | refine OW_bin rfl rfl rfl rfl rfl ?_
        refine OW_pick rfl rfl rfl ?_
        refine OW_env (e' := [_, _, _, _, _, _, _, _, _, _, _, _, _, _, _, _, _, _, _, _, _, _, _, _, _, _, _, _, _, _, _, _, _, _, _, _, _, _, _, _, _, _, _, _, _, _, _, _, _, _, _, _, _, _, _, _, _, _, _, _, _, _, _, _, _, _, _, _, _, _, _, _, _, _, _, _, _, _, _, _]) rfl ?_
        refine OW_mv rfl rfl ?_
        first
          | refine OW_no rfl ?_
          | refine OW_mv rfl rfl ?_
        first
          | refine OW_no rfl ?_
          | refine OW_bin rfl rfl rfl rfl (lss_yes (by omega)) ?_
          | refine OW_bin rfl rfl rfl rfl (lss_no (by omega)) ?_
          | refine OW_bin rfl rfl rfl rfl rfl ?_
        refine OW_env (e' := [_, _, _, _, _, _, _, _, _, _, _, _, _, _, _, _, _, _, _, _, _, _, _, _, _, _, _, _, _, _, _, _, _, _, _, _, _, _, _, _, _, _, _, _, _, _, _, _, _, _, _, _, _, _, _, _, _, _, _, _, _, _, _, _, _, _, _, _, _, _, _, _, _, _, _, _, _, _, _, _]) rfl ?_
        refine OW_pick rfl rfl rfl ?_
        refine OW_mv rfl rfl ?_
        first
          | refine OW_no rfl ?_
          | refine OW_mv rfl rfl ?_
        refine OW_env (e' := [_, _, _, _, _, _, _, _, _, _, _, _, _, _, _, _, _, _, _, _, _, _, _, _, _, _, _, _, _, _, _, _, _, _, _, _, _, _, _, _, _, _, _, _, _, _, _, _, _, _, _, _, _, _, _, _, _, _, _, _, _, _, _, _, _, _, _, _, _, _, _, _, _, _, _, _, _, _, _, _]) rfl ?_
        first
          | refine OW_no rfl ?_
          | refine OW_bin rfl rfl rfl rfl (gtr_yes (by omega)) ?_
          | refine OW_bin rfl rfl rfl rfl (gtr_no (by omega)) ?_
          | refine OW_bin rfl rfl rfl rfl rfl ?_
        refine OW_pick rfl rfl rfl ?_
        refine OW_nilE (e' := [_, _, _, _, _, _, _, _, _, _, _, _, _, _, _, _, _, _, _, _, _, _, _, _, _, _, _, _, _, _, _, _, _, _, _, _, _, _, _, _, _, _, _, _, _, _, _, _, _, _, _, _, _, _, _, _, _, _, _, _, _, _, _, _, _, _, _, _, _, _, _, _, _, _, _, _, _, _, _, _]) rfl ?_
        refine XW_yes rfl rfl ?_
        refine XW_sr ?_
        refine OW_fn rfl rfl (fixedW (by kernel_rfl) ?_)
        refine OW_env (e' := [_, _, _, _, _, _, _, _, _, _, _, _, _, _, _, _, _, _, _, _, _, _, _, _, _, _, _, _, _, _, _, _, _, _, _, _, _, _, _, _, _, _, _, _, _, _, _, _, _, _, _, _, _, _, _, _, _, _, _, _, _, _, _, _, _, _, _, _, _, _, _, _, _, _, _, _, _, _, _, _]) rfl ?_
        refine OW_as rfl rfl ?_
        refine OW_nilE (e' := [_, _, _, _, _, _, _, _, _, _, _, _, _, _, _, _, _, _, _, _, _, _, _, _, _, _, _, _, _, _, _, _, _, _, _, _, _, _, _, _, _, _, _, _, _, _, _, _, _, _, _, _, _, _, _, _, _, _, _, _, _, _, _, _, _, _, _, _, _, _, _, _, _, _, _, _, _, _, _, _]) rfl ?_
        refine XW_ret ?_
        refine then_ret ?_
        exact ret_ret rfl rfl
      · refine OW_env (e' := [_, _, _, _, _, _, _, _, _, _, _, _, _, _, _, _, _, _, _, _, _, _, _, _, _, _, _, _, _, _, _, _, _, _, _, _, _, _, _, _, _, _, _, _, _, _, _, _, _, _, _, _, _, _, _, _, _, _, _, _, _, _, _, _, _, _, _, _, _, _, _, _, _, _, _, _, _, _, _, _]) rfl ?_
        refine OW_un rfl rfl rfl ?_
        refine OW_mv rfl rfl ?_
        first
          | refine OW_no rfl ?_
          | refine OW_mv rfl rfl ?_
        refine OW_env (e' := [_, _, _, _, _, _, _, _, _, _, _, _, _, _, _, _, _, _, _, _, _, _, _, _, _, _, _, _, _, _, _, _, _, _, _, _, _, _, _, _, _, _, _, _, _, _, _, _, _, _, _, _, _, _, _, _, _, _, _, _, _, _, _, _, _, _, _, _, _, _, _, _, _, _, _, _, _, _, _, _]) rfl ?_
        first
          | refine OW_no rfl ?_
          | refine OW_bi rfl rfl (aLen_map rfl) ?_
          | refine OW_bi rfl rfl (aLen rfl rfl) ?_
        first
          | refine OW_no rfl ?_
          | refine OW_bin rfl rfl rfl rfl (gtr_yes (by omega)) ?_
          | refine OW_bin rfl rfl rfl rfl (gtr_no (by omega)) ?_
          | refine OW_bin rfl rfl rfl rfl rfl ?_
        refine OW_pick rfl rfl rfl ?_
        refine OW_env (e' := [_, _, _, _, _, _, _, _, _, _, _, _, _, _, _, _, _, _, _, _, _, _, _, _, _, _, _, _, _, _, _, _, _, _, _, _, _, _, _, _, _, _, _, _, _, _, _, _, _, _, _, _, _, _, _, _, _, _, _, _, _, _, _, _, _, _, _, _, _, _, _, _, _, _, _, _, _, _, _, _]) rfl ?_
        refine OW_mv rfl rfl ?_
        first
          | refine OW_no rfl ?_
          | refine OW_mv rfl rfl ?_
        first
          | refine OW_no rfl ?_
          | refine OW_bin rfl rfl rfl rfl (lss_yes (by omega)) ?_
          | refine OW_bin rfl rfl rfl rfl (lss_no (by omega)) ?_
          | refine OW_bin rfl rfl rfl rfl rfl ?_
        refine OW_env (e' := [_, _, _, _, _, _, _, _, _, _, _, _, _, _, _, _, _, _, _, _, _, _, _, _, _, _, _, _, _, _, _, _, _, _, _, _, _, _, _, _, _, _, _, _, _, _, _, _, _, _, _, _, _, _, _, _, _, _, _, _, _, _, _, _, _, _, _, _, _, _, _, _, _, _, _, _, _, _, _, _]) rfl ?_
        refine OW_pick rfl rfl rfl ?_
        refine OW_mv rfl rfl ?_
        first
          | refine OW_no rfl ?_
          | refine OW_mv rfl rfl ?_
        refine OW_env (e' := [_, _, _, _, _, _, _, _, _, _, _, _, _, _, _, _, _, _, _, _, _, _, _, _, _, _, _, _, _, _, _, _, _, _, _, _, _, _, _, _, _, _, _, _, _, _, _, _, _, _, _, _, _, _, _, _, _, _, _, _, _, _, _, _, _, _, _, _, _, _, _, _, _, _, _, _, _, _, _, _]) rfl ?_
        first
          | refine OW_no rfl ?_
          | refine OW_bin rfl rfl rfl rfl (gtr_yes (by omega)) ?_
          | refine OW_bin rfl rfl rfl rfl (gtr_no (by omega)) ?_
          | refine OW_bin rfl rfl rfl rfl rfl ?_
        refine OW_pick rfl rfl rfl ?_
        refine OW_nilE (e' := [_, _, _, _, _, _, _, _, _, _, _, _, _, _, _, _, _, _, _, _, _, _, _, _, _, _, _, _, _, _, _, _, _, _, _, _, _, _, _, _, _, _, _, _, _, _, _, _, _, _, _, _, _, _, _, _, _, _, _, _, _, _, _, _, _, _, _, _, _, _, _, _, _, _, _, _, _, _, _, _]) rfl ?_
        refine XW_yes rfl rfl ?_
        refine XW_sr ?_
        refine OW_fn rfl rfl (fixedW (by kernel_rfl) ?_)
        refine OW_env (e' := [_, _, _, _, _, _, _, _, _, _, _, _, _, _, _, _, _, _, _, _, _, _, _, _, _, _, _, _, _, _, _, _, _, _, _, _, _, _, _, _, _, _, _, _, _, _, _, _, _, _, _, _, _, _, _, _, _, _, _, _, _, _, _, _, _, _, _, _, _, _, _, _, _, _, _, _, _, _, _, _]) rfl ?_
        refine OW_as rfl rfl ?_
        refine OW_nilE (e' := [_, _, _, _, _, _, _, _, _, _, _, _, _, _, _, _, _, _, _, _, _, _, _, _, _, _, _, _, _, _, _, _, _, _, _, _, _, _, _, _, _, _, _, _, _, _, _, _, _, _, _, _, _, _, _, _, _, _, _, _, _, _, _, _, _, _, _, _, _, _, _, _, _, _, _, _, _, _, _, _]) rfl ?_
        refine XW_ret ?_
        refine then_ret ?_
        exact ret_ret rfl rfl
    · refine OW_env (e' := [_, _, _, _, _, _, _, _, _, _, _, _, _, _, _, _, _, _, _, _, _, _, _, _, _, _, _, _, _, _, _, _, _, _, _, _, _, _, _, _, _, _, _, _, _, _, _, _, _, _, _, _, _, _, _, _, _, _, _, _, _, _, _, _, _, _, _, _, _, _, _, _, _, _, _, _, _, _, _, _]) rfl ?_
      refine OW_un rfl rfl rfl ?_
      refine OW_mv rfl rfl ?_
      first
        | refine OW_no rfl ?_
        | refine OW_mv rfl rfl ?_
      refine OW_env (e' := [_, _, _, _, _, _, _, _, _, _, _, _, _, _, _, _, _, _, _, _, _, _, _, _, _, _, _, _, _, _, _, _, _, _, _, _, _, _, _, _, _, _, _, _, _, _, _, _, _, _, _, _, _, _, _, _, _, _, _, _, _, _, _, _, _, _, _, _, _, _, _, _, _, _, _, _, _, _, _, _]) rfl ?_
      first
        | refine OW_no rfl ?_
        | refine OW_bi rfl rfl (aLen_map rfl) ?_
        | refine OW_bi rfl rfl (aLen rfl rfl) ?_
      first
        | refine OW_no rfl ?_
        | refine OW_bin rfl rfl rfl rfl (gtr_yes (by omega)) ?_
        | refine OW_bin rfl rfl rfl rfl (gtr_no (by omega)) ?_
        | refine OW_bin rfl rfl rfl rfl rfl ?_
      refine OW_pick rfl rfl rfl ?_
      refine OW_env (e' := [_, _, _, _, _, _, _, _, _, _, _, _, _, _, _, _, _, _, _, _, _, _, _, _, _, _, _, _, _, _, _, _, _, _, _, _, _, _, _, _, _, _, _, _, _, _, _, _, _, _, _, _, _, _, _, _, _, _, _, _, _, _, _, _, _, _, _, _, _, _, _, _, _, _, _, _, _, _, _, _]) rfl ?_
      refine OW_mv rfl rfl ?_
      first
        | refine OW_no rfl ?_
        | refine OW_mv rfl rfl ?_
      first
        | refine OW_no rfl ?_
        | refine OW_bin rfl rfl rfl rfl (lss_yes (by omega)) ?_
        | refine OW_bin rfl rfl rfl rfl (lss_no (by omega)) ?_
        | refine OW_bin rfl rfl rfl rfl rfl ?_
      refine OW_env (e' := [_, _, _, _, _, _, _, _, _, _, _, _, _, _, _, _, _, _, _, _, _, _, _, _, _, _, _, _, _, _, _, _, _, _, _, _, _, _, _, _, _, _, _, _, _, _, _, _, _, _, _, _, _, _, _, _, _, _, _, _, _, _, _, _, _, _, _, _, _, _, _, _, _, _, _, _, _, _, _, _]) rfl ?_
      refine OW_pick rfl rfl rfl ?_
      refine OW_mv rfl rfl ?_
      first
        | refine OW_no rfl ?_
        | refine OW_mv rfl rfl ?_
      refine OW_env (e' := [_, _, _, _, _, _, _, _, _, _, _, _, _, _, _, _, _, _, _, _, _, _, _, _, _, _, _, _, _, _, _, _, _, _, _, _, _, _, _, _, _, _, _, _, _, _, _, _, _, _, _, _, _, _, _, _, _, _, _, _, _, _, _, _, _, _, _, _, _, _, _, _, _, _, _, _, _, _, _, _]) rfl ?_
      first
        | refine OW_no rfl ?_
        | refine OW_bin rfl rfl rfl rfl (gtr_yes (by omega)) ?_
        | refine OW_bin rfl rfl rfl rfl (gtr_no (by omega)) ?_
        | refine OW_bin rfl rfl rfl rfl rfl ?_
      refine OW_pick rfl rfl rfl ?_
      refine OW_nilE (e' := [_, _, _, _, _, _, _, _, _, _, _, _, _, _, _, _, _, _, _, _, _, _, _, _, _, _, _, _, _, _, _, _, _, _, _, _, _, _, _, _, _, _, _, _, _, _, _, _, _, _, _, _, _, _, _, _, _, _, _, _, _, _, _, _, _, _, _, _, _, _, _, _, _, _, _, _, _, _, _, _]) rfl ?_
      refine XW_yes rfl rfl ?_
      refine XW_sr ?_
      refine OW_fn rfl rfl (fixedW (by kernel_rfl) ?_)
      refine OW_env (e' := [_, _, _, _, _, _, _, _, _, _, _, _, _, _, _, _, _, _, _, _, _, _, _, _, _, _, _, _, _, _, _, _, _, _, _, _, _, _, _, _, _, _, _, _, _, _, _, _, _, _, _, _, _, _, _, _, _, _, _, _, _, _, _, _, _, _, _, _, _, _, _, _, _, _, _, _, _, _, _, _]) rfl ?_
      refine OW_as rfl rfl ?_
      refine OW_nilE (e' := [_, _, _, _, _, _, _, _, _, _, _, _, _, _, _, _, _, _, _, _, _, _, _, _, _, _, _, _, _, _, _, _, _, _, _, _, _, _, _, _, _, _, _, _, _, _, _, _, _, _, _, _, _, _, _, _, _, _, _, _, _, _, _, _, _, _, _, _, _, _, _, _, _, _, _, _, _, _, _, _]) rfl ?_
      refine XW_ret ?_
      refine then_ret ?_
      exact ret_ret rfl rfl
end Go.Proofs.Ytollcfhmmlpleaa.X
