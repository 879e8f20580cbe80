/- Layer 19: the law MeshOnce. -/
import Derived.Test.YtollcfhmmlpleaaM9
set_option linter.unusedVariables false
set_option linter.unusedSimpArgs false
set_option maxRecDepth 100000
namespace Go.Proofs.Ytollcfhmmlpleaa.X
open Go Go.RowKit
theorem erase_perm {α : Type} : ∀ (l : List α) (i : Nat) (h : i < l.length), (l[i] :: l.eraseIdx i).Perm l
  | [], i, h => by simp at h
  | x :: r, 0, h => by simp
  | x :: r, i + 1, h => by
    have := erase_perm r i (by simpa using h)
    simp only [List.getElem_cons_succ, List.eraseIdx_cons_succ]
    exact (List.Perm.swap x _ _).trans (this.cons x)
set_option maxHeartbeats 4000000 in
theorem once (ls : List Lt) (ps : List Int) (hl : ls.length ≤ 4611686018427387904) (hpl : ps.length ≤ 4611686018427387904) (hps : ∀ a ∈ ps, -9223372036854775808 ≤ a ∧ a ≤ 9223372036854775807) :
    CW cfg [] 3 [.lst (ls.map Lt.enc), .lst (ps.map fun a => .int .i64 a)] (fun _ => none) (fun v _ => v = .bool true) := by
  refine CW_pure g3 F3 rfl ?_
  refine XW_sr ?_
  refine OW_as rfl rfl ?_
  refine OW_nilE (e' := [_, _, _, _, _, _, _, _, _, _, _, _, _, _, _, _, _, _, _, _, _, _, _, _, _, _, _, _, _, _, _, _, _, _, _, _, _, _, _, _, _, _, _, _, _, _, _, _, _, _, _, _, _, _, _, _, _, _, _, _, _, _, _, _, _, _, _, _, _, _, _, _, _, _, _, _, _, _, _, _, _, _, _, _, _, _, _, _, _, _, _, _, _, _, _, _, _, _, _, _, _, _, _, _, _, _, _, _, _, _, _, _, _, _, _, _, _, _, _, _, _]) rfl ?_
  refine XW_seq ?_
  refine XW_sr ?_
  refine OW_fn rfl rfl (fixedW (by kernel_rfl) ?_)
  by_cases hg : ls.length ≤ 200
  · refine OW_env (e' := [_, _, _, _, _, _, _, _, _, _, _, _, _, _, _, _, _, _, _, _, _, _, _, _, _, _, _, _, _, _, _, _, _, _, _, _, _, _, _, _, _, _, _, _, _, _, _, _, _, _, _, _, _, _, _, _, _, _, _, _, _, _, _, _, _, _, _, _, _, _, _, _, _, _, _, _, _, _, _, _, _, _, _, _, _, _, _, _, _, _, _, _, _, _, _, _, _, _, _, _, _, _, _, _, _, _, _, _, _, _, _, _, _, _, _, _, _, _, _, _, _]) rfl ?_
    refine OW_un rfl rfl rfl ?_
    refine OW_mv rfl rfl ?_
    first
      | refine OW_no rfl ?_
      | refine OW_mv rfl rfl ?_
    refine OW_env (e' := [_, _, _, _, _, _, _, _, _, _, _, _, _, _, _, _, _, _, _, _, _, _, _, _, _, _, _, _, _, _, _, _, _, _, _, _, _, _, _, _, _, _, _, _, _, _, _, _, _, _, _, _, _, _, _, _, _, _, _, _, _, _, _, _, _, _, _, _, _, _, _, _, _, _, _, _, _, _, _, _, _, _, _, _, _, _, _, _, _, _, _, _, _, _, _, _, _, _, _, _, _, _, _, _, _, _, _, _, _, _, _, _, _, _, _, _, _, _, _, _, _]) rfl ?_
    first
      | refine OW_no rfl ?_
      | refine OW_bi rfl rfl (aLen_map rfl) ?_
      | refine OW_bi rfl rfl (aLen rfl rfl) ?_
    first
      | refine OW_no rfl ?_
      | refine OW_bin rfl rfl rfl rfl (gtr_yes (by omega)) ?_
      | refine OW_bin rfl rfl rfl rfl (gtr_no (by omega)) ?_
      | refine OW_bin rfl rfl rfl rfl rfl ?_
    refine OW_pick rfl rfl rfl ?_
    refine OW_nilE (e' := [_, _, _, _, _, _, _, _, _, _, _, _, _, _, _, _, _, _, _, _, _, _, _, _, _, _, _, _, _, _, _, _, _, _, _, _, _, _, _, _, _, _, _, _, _, _, _, _, _, _, _, _, _, _, _, _, _, _, _, _, _, _, _, _, _, _, _, _, _, _, _, _, _, _, _, _, _, _, _, _, _, _, _, _, _, _, _, _, _, _, _, _, _, _, _, _, _, _, _, _, _, _, _, _, _, _, _, _, _, _, _, _, _, _, _, _, _, _, _, _, _]) rfl ?_
    refine XW_no rfl rfl ?_
    refine XW_skip ?_
    refine then_norm ?_
    refine XW_sr ?_
    refine OW_fn rfl rfl (mNew fun qm H1 hqm hm1 _ => ?_)
    refine OW_env (e' := [_, _, _, _, _, _, _, _, _, _, _, _, _, _, _, _, _, _, _, _, _, _, _, _, _, _, _, _, _, _, _, _, _, _, _, _, _, _, _, _, _, _, _, _, _, _, _, _, _, _, _, _, _, _, _, _, _, _, _, _, _, _, _, _, _, _, _, _, _, _, _, _, _, _, _, _, _, _, _, _, _, _, _, _, _, _, _, _, _, _, _, _, _, _, _, _, _, _, _, _, _, _, _, _, _, _, _, _, _, _, _, _, _, _, _, _, _, _, _, _, _]) rfl ?_
    refine OW_as rfl rfl ?_
    refine OW_nilE (e' := [_, _, _, _, _, _, _, _, _, _, _, _, _, _, _, _, _, _, _, _, _, _, _, _, _, _, _, _, _, _, _, _, _, _, _, _, _, _, _, _, _, _, _, _, _, _, _, _, _, _, _, _, _, _, _, _, _, _, _, _, _, _, _, _, _, _, _, _, _, _, _, _, _, _, _, _, _, _, _, _, _, _, _, _, _, _, _, _, _, _, _, _, _, _, _, _, _, _, _, _, _, _, _, _, _, _, _, _, _, _, _, _, _, _, _, _, _, _, _, _, _]) rfl ?_
    refine XW_seq ?_
    refine XW_sr ?_
    refine OW_mv rfl rfl ?_
    refine OW_mv rfl rfl ?_
    refine OW_fn rfl rfl (mPut hm1 (by simp) (by repeat (first | assumption | exact far1 (by assumption) (by decide) | exact far2 (by assumption) (by decide) | exact far3 (by assumption) (by decide) | exact far4 (by assumption) (by decide) | exact far5 (by assumption) (by decide) | exact far6 (by assumption) (by decide) | exact far7 (by assumption) (by decide) | exact far8 (by assumption) (by decide) | refine under_dn ?_)) (by simp) ls hl fun H2 S2 fp2 hm2 hf2 _ => ?_)
    have hf2' : ∀ p ∈ fp2, under [2, 0, 0, 1, 1, 1] p = true := fun p hp => (hf2 p hp).elim (fun h => by cases h) id
    simp only [List.nil_append, List.length_nil, Nat.sub_zero] at hm2
    rw [List.take_of_length_le (by omega)] at hm2
    obtain ⟨m0, hm0⟩ : ∃ m : Nat, m = min ls.length (4096 - ([] : List Lt).length) := ⟨_, rfl⟩
    have hm0' : m0 = ls.length := by rw [hm0]; simp; omega
    rw [← hm0]
    subst hm0'
    refine OW_env (e' := [_, _, _, _, _, _, _, _, _, _, _, _, _, _, _, _, _, _, _, _, _, _, _, _, _, _, _, _, _, _, _, _, _, _, _, _, _, _, _, _, _, _, _, _, _, _, _, _, _, _, _, _, _, _, _, _, _, _, _, _, _, _, _, _, _, _, _, _, _, _, _, _, _, _, _, _, _, _, _, _, _, _, _, _, _, _, _, _, _, _, _, _, _, _, _, _, _, _, _, _, _, _, _, _, _, _, _, _, _, _, _, _, _, _, _, _, _, _, _, _, _]) rfl ?_
    refine OW_mv rfl rfl ?_
    first
      | refine OW_bi rfl rfl (aLen_map rfl) ?_
      | refine OW_bi rfl rfl (aLen rfl rfl) ?_
    first
      | refine OW_bin rfl rfl rfl rfl (ne_yes (by omega)) ?_
      | refine OW_bin rfl rfl rfl rfl (ne_no (by omega)) ?_
      | refine OW_bin rfl rfl rfl rfl rfl ?_
    refine OW_nilE (e' := [_, _, _, _, _, _, _, _, _, _, _, _, _, _, _, _, _, _, _, _, _, _, _, _, _, _, _, _, _, _, _, _, _, _, _, _, _, _, _, _, _, _, _, _, _, _, _, _, _, _, _, _, _, _, _, _, _, _, _, _, _, _, _, _, _, _, _, _, _, _, _, _, _, _, _, _, _, _, _, _, _, _, _, _, _, _, _, _, _, _, _, _, _, _, _, _, _, _, _, _, _, _, _, _, _, _, _, _, _, _, _, _, _, _, _, _, _, _, _, _, _]) rfl ?_
    refine XW_no rfl rfl ?_
    refine XW_skip ?_
    refine then_norm ?_
    refine XW_sr ?_
    refine OW_bs rfl rfl rfl ?_
    refine OW_mv rfl rfl ?_
    obtain ⟨L3, H3, ha3, fL3, hs3, hfL3, hfr3⟩ := (Sl.emp (H := H2) (w := 3) (xs := []) rfl).app (ν := [2, 0, 1, 1, 1, 1]) (Y := .lst (ls.map Lt.enc)) (ys := ls.map Lt.enc) T22 rfl T30 rfl rfl (enc_ws ls) (by
      have : ([] : List AVal).length + (ls.map Lt.enc).length ≤ 8192 := by simp; omega
      exact Nat.le_trans (Nat.mul_le_mul_right _ this) (by decide)) (by simp)
    refine OW_bi rfl rfl (app_bi rfl ha3) ?_
    rw [List.nil_append] at hs3
    have hfL3' : ∀ p ∈ fL3, p = [2, 0, 1, 1, 1, 1] := fun p hp => (hfL3 p hp).elim (fun h => by cases h) id
    have hm3 : IsMesh H3 qm ls S2 fp2 := ⟨by rw [hfr3 qm (by simp) (far (ν := [0, 1, 1, 1, 1]) (by repeat (first | assumption | exact far1 (by assumption) (by decide) | exact far2 (by assumption) (by decide) | exact far3 (by assumption) (by decide) | exact far4 (by assumption) (by decide) | exact far5 (by assumption) (by decide) | exact far6 (by assumption) (by decide) | exact far7 (by assumption) (by decide) | exact far8 (by assumption) (by decide) | refine under_dn ?_)) (by repeat (first | exact under_me | apply under_in)))]; exact hm2.obj, hm2.sl.frame fun p hp => hfr3 p (by simp) (by have := hf2' p hp; exact far (ν := [0, 1, 1, 1, 1]) (by repeat (first | assumption | exact far1 (by assumption) (by decide) | exact far2 (by assumption) (by decide) | exact far3 (by assumption) (by decide) | exact far4 (by assumption) (by decide) | exact far5 (by assumption) (by decide) | exact far6 (by assumption) (by decide) | exact far7 (by assumption) (by decide) | exact far8 (by assumption) (by decide) | refine under_dn ?_)) (by repeat (first | exact under_me | apply under_in))), hm2.ne⟩
    refine OW_env (e' := [_, _, _, _, _, _, _, _, _, _, _, _, _, _, _, _, _, _, _, _, _, _, _, _, _, _, _, _, _, _, _, _, _, _, _, _, _, _, _, _, _, _, _, _, _, _, _, _, _, _, _, _, _, _, _, _, _, _, _, _, _, _, _, _, _, _, _, _, _, _, _, _, _, _, _, _, _, _, _, _, _, _, _, _, _, _, _, _, _, _, _, _, _, _, _, _, _, _, _, _, _, _, _, _, _, _, _, _, _, _, _, _, _, _, _, _, _, _, _, _, _]) rfl ?_
    refine OW_as rfl rfl ?_
    refine OW_nilE (e' := [_, _, _, _, _, _, _, _, _, _, _, _, _, _, _, _, _, _, _, _, _, _, _, _, _, _, _, _, _, _, _, _, _, _, _, _, _, _, _, _, _, _, _, _, _, _, _, _, _, _, _, _, _, _, _, _, _, _, _, _, _, _, _, _, _, _, _, _, _, _, _, _, _, _, _, _, _, _, _, _, _, _, _, _, _, _, _, _, _, _, _, _, _, _, _, _, _, _, _, _, _, _, _, _, _, _, _, _, _, _, _, _, _, _, _, _, _, _, _, _, _]) rfl ?_
    refine XW_seq ?_
    refine XW_sr ?_
    refine OW_as rfl rfl ?_
    refine OW_nilE (e' := [_, _, _, _, _, _, _, _, _, _, _, _, _, _, _, _, _, _, _, _, _, _, _, _, _, _, _, _, _, _, _, _, _, _, _, _, _, _, _, _, _, _, _, _, _, _, _, _, _, _, _, _, _, _, _, _, _, _, _, _, _, _, _, _, _, _, _, _, _, _, _, _, _, _, _, _, _, _, _, _, _, _, _, _, _, _, _, _, _, _, _, _, _, _, _, _, _, _, _, _, _, _, _, _, _, _, _, _, _, _, _, _, _, _, _, _, _, _, _, _, _]) rfl ?_
    refine XW_block ?_
    have hqL : under [1, 0, 1, 1, 1, 1, 1] qm = false := (by repeat (first | assumption | exact far1 (by assumption) (by decide) | exact far2 (by assumption) (by decide) | exact far3 (by assumption) (by decide) | exact far4 (by assumption) (by decide) | exact far5 (by assumption) (by decide) | exact far6 (by assumption) (by decide) | exact far7 (by assumption) (by decide) | exact far8 (by assumption) (by decide) | refine under_dn ?_))
    have hfL : ∀ p ∈ fp2, under [1, 0, 1, 1, 1, 1, 1] p = false := fun p hp => by have := hf2' p hp; exact (by repeat (first | assumption | exact far1 (by assumption) (by decide) | exact far2 (by assumption) (by decide) | exact far3 (by assumption) (by decide) | exact far4 (by assumption) (by decide) | exact far5 (by assumption) (by decide) | exact far6 (by assumption) (by decide) | exact far7 (by assumption) (by decide) | exact far8 (by assumption) (by decide) | refine under_dn ?_))
    have hst : ∀ p ∈ fL3, under [1, 0, 1, 1, 1, 1, 1] p = false ∧ p ≠ qm ∧ p ∉ fp2 := fun p hp => by
      obtain rfl := hfL3' p hp
      exact ⟨rfl, (far (ν := [2, 0, 1, 1, 1, 1]) (by repeat (first | assumption | exact far1 (by assumption) (by decide) | exact far2 (by assumption) (by decide) | exact far3 (by assumption) (by decide) | exact far4 (by assumption) (by decide) | exact far5 (by assumption) (by decide) | exact far6 (by assumption) (by decide) | exact far7 (by assumption) (by decide) | exact far8 (by assumption) (by decide) | refine under_dn ?_)) under_me).symm, fun hm => absurd (hf2' _ hm) (by decide)⟩
    refine XW_whileN (I := fun ν' n e H' => ∃ (i : Nat) (xs left : List Lt) (S L : AVal) (fL : List Nm), n = ls.length - i ∧ i ≤ ls.length ∧ under [1, 0, 1, 1, 1, 1, 1] ν' = true ∧ (∀ p ∈ fL, under ν' p = false ∧ p ≠ qm ∧ p ∉ fp2) ∧ IsMesh H' qm xs S fp2 ∧ Sl H' 3 (left.map Lt.enc) L fL ∧ xs.Perm left ∧ xs.length = ls.length - i ∧
      ∃ g : Nat → AVal, e = [.lst (ls.map Lt.enc), .lst (ps.map fun a => .int .i64 a), g 2, g 3, .bool false, .ptr qm 0 0, L, .int .i64 i, g 8, g 9, g 10, g 11, g 12, g 13, g 14, g 15, g 16, g 17, g 18, g 19, g 20, g 21, g 22, g 23, g 24, g 25, g 26, g 27, g 28, g 29, g 30, g 31, g 32, g 33, g 34, g 35, g 36, g 37, g 38, g 39, g 40, g 41, g 42, g 43, g 44, g 45, g 46, g 47, g 48, g 49, g 50, g 51, g 52, g 53, g 54, g 55, g 56, g 57, g 58, g 59, g 60, g 61, g 62, g 63, g 64, g 65, g 66, g 67, g 68, g 69, g 70, g 71, g 72, g 73, g 74, g 75, g 76, g 77, g 78, g 79, g 80, g 81, g 82, g 83, g 84, g 85, g 86, g 87, g 88, g 89, g 90, g 91, g 92, g 93, g 94, g 95, g 96, g 97, g 98, g 99, g 100, g 101, g 102, g 103, g 104, g 105, g 106, g 107, g 108, g 109, g 110, g 111, g 112, g 113, g 114, g 115, g 116, g 117, g 118, g 119, g 120]) ?_ ls.length _ _ _ ⟨0, ls, ls, S2, L3, fL3, by omega, by omega, rfl, hst, hm3, hs3, List.Perm.refl _, by omega, env_g rfl⟩
    rintro ν' n e H' ⟨i, xs, left, S, L, fL, rfl, hi, hU, hLn, hmx, hsL, hperm, hxl, g, rfl⟩
    have hqν := out_of hU hqL
    have hfν : ∀ p ∈ fp2, under ν' p = false := fun p hp => out_of hU (hfL p hp)
    refine XW_seq ?_
    refine XW_sr ?_
    by_cases hlt : i < ls.length
    · refine OW_mv rfl rfl ?_
      refine OW_mv rfl rfl ?_
      first
        | refine OW_bi rfl rfl (aLen_map rfl) ?_
        | refine OW_bi rfl rfl (aLen rfl rfl) ?_
      refine OW_env (e' := [_, _, _, _, _, _, _, _, _, _, _, _, _, _, _, _, _, _, _, _, _, _, _, _, _, _, _, _, _, _, _, _, _, _, _, _, _, _, _, _, _, _, _, _, _, _, _, _, _, _, _, _, _, _, _, _, _, _, _, _, _, _, _, _, _, _, _, _, _, _, _, _, _, _, _, _, _, _, _, _, _, _, _, _, _, _, _, _, _, _, _, _, _, _, _, _, _, _, _, _, _, _, _, _, _, _, _, _, _, _, _, _, _, _, _, _, _, _, _, _, _]) rfl ?_
      first
        | refine OW_bin rfl rfl rfl rfl (lss_yes (by omega)) ?_
        | refine OW_bin rfl rfl rfl rfl (lss_no (by omega)) ?_
        | refine OW_bin rfl rfl rfl rfl rfl ?_
      refine OW_nilE (e' := [_, _, _, _, _, _, _, _, _, _, _, _, _, _, _, _, _, _, _, _, _, _, _, _, _, _, _, _, _, _, _, _, _, _, _, _, _, _, _, _, _, _, _, _, _, _, _, _, _, _, _, _, _, _, _, _, _, _, _, _, _, _, _, _, _, _, _, _, _, _, _, _, _, _, _, _, _, _, _, _, _, _, _, _, _, _, _, _, _, _, _, _, _, _, _, _, _, _, _, _, _, _, _, _, _, _, _, _, _, _, _, _, _, _, _, _, _, _, _, _, _]) rfl ?_
      refine XW_yes rfl rfl ?_
      refine XW_skip ?_
      refine then_norm ?_
      refine XW_seq ?_
      refine XW_block ?_
      refine XW_sr ?_
      refine OW_as rfl rfl ?_
      refine OW_nilE (e' := [_, _, _, _, _, _, _, _, _, _, _, _, _, _, _, _, _, _, _, _, _, _, _, _, _, _, _, _, _, _, _, _, _, _, _, _, _, _, _, _, _, _, _, _, _, _, _, _, _, _, _, _, _, _, _, _, _, _, _, _, _, _, _, _, _, _, _, _, _, _, _, _, _, _, _, _, _, _, _, _, _, _, _, _, _, _, _, _, _, _, _, _, _, _, _, _, _, _, _, _, _, _, _, _, _, _, _, _, _, _, _, _, _, _, _, _, _, _, _, _, _]) rfl ?_
      refine XW_seq (XW.mono (Q := fun o e1 H1 => o = .norm ∧ H1 = H' ∧ ∃ (pk : Int), (-9223372036854775808 ≤ pk ∧ pk ≤ 9223372036854775807) ∧ ∃ g : Nat → AVal, e1 = [.lst (ls.map Lt.enc), .lst (ps.map fun a => .int .i64 a), g 2, g 3, .bool false, .ptr qm 0 0, L, .int .i64 i, .int .i64 pk, g 9, g 10, g 11, g 12, g 13, g 14, g 15, g 16, g 17, g 18, g 19, g 20, g 21, g 22, g 23, g 24, g 25, g 26, g 27, g 28, g 29, g 30, g 31, g 32, g 33, g 34, g 35, g 36, g 37, g 38, g 39, g 40, g 41, g 42, g 43, g 44, g 45, g 46, g 47, g 48, g 49, g 50, g 51, g 52, g 53, g 54, g 55, g 56, g 57, g 58, g 59, g 60, g 61, g 62, g 63, g 64, g 65, g 66, g 67, g 68, g 69, g 70, g 71, g 72, g 73, g 74, g 75, g 76, g 77, g 78, g 79, g 80, g 81, g 82, g 83, g 84, g 85, g 86, g 87, g 88, g 89, g 90, g 91, g 92, g 93, g 94, g 95, g 96, g 97, g 98, g 99, g 100, g 101, g 102, g 103, g 104, g 105, g 106, g 107, g 108, g 109, g 110, g 111, g 112, g 113, g 114, g 115, g 116, g 117, g 118, g 119, g 120]) ?_ ?_)
      · refine XW_sr ?_
        by_cases hp : i < ps.length
        · have hpi : (ps.map fun a => AVal.int .i64 a)[i]? = some (.int .i64 ps[i]) := by simp [hp]
          refine OW_mv rfl rfl ?_
          refine OW_mv rfl rfl ?_
          first
            | refine OW_bi rfl rfl (aLen_map rfl) ?_
            | refine OW_bi rfl rfl (aLen rfl rfl) ?_
          refine OW_env (e' := [_, _, _, _, _, _, _, _, _, _, _, _, _, _, _, _, _, _, _, _, _, _, _, _, _, _, _, _, _, _, _, _, _, _, _, _, _, _, _, _, _, _, _, _, _, _, _, _, _, _, _, _, _, _, _, _, _, _, _, _, _, _, _, _, _, _, _, _, _, _, _, _, _, _, _, _, _, _, _, _, _, _, _, _, _, _, _, _, _, _, _, _, _, _, _, _, _, _, _, _, _, _, _, _, _, _, _, _, _, _, _, _, _, _, _, _, _, _, _, _, _]) rfl ?_
          first
            | refine OW_bin rfl rfl rfl rfl (lss_yes (by omega)) ?_
            | refine OW_bin rfl rfl rfl rfl (lss_no (by omega)) ?_
            | refine OW_bin rfl rfl rfl rfl rfl ?_
          refine OW_nilE (e' := [_, _, _, _, _, _, _, _, _, _, _, _, _, _, _, _, _, _, _, _, _, _, _, _, _, _, _, _, _, _, _, _, _, _, _, _, _, _, _, _, _, _, _, _, _, _, _, _, _, _, _, _, _, _, _, _, _, _, _, _, _, _, _, _, _, _, _, _, _, _, _, _, _, _, _, _, _, _, _, _, _, _, _, _, _, _, _, _, _, _, _, _, _, _, _, _, _, _, _, _, _, _, _, _, _, _, _, _, _, _, _, _, _, _, _, _, _, _, _, _, _]) rfl ?_
          refine XW_yes rfl rfl ?_
          refine XW_region ?_
          refine OW_mv rfl rfl ?_
          refine OW_mv rfl rfl ?_
          refine OW_ia rfl rfl rfl (ia_lst T23 rfl T3 hpi rfl) ?_
          refine OW_env (e' := [_, _, _, _, _, _, _, _, _, _, _, _, _, _, _, _, _, _, _, _, _, _, _, _, _, _, _, _, _, _, _, _, _, _, _, _, _, _, _, _, _, _, _, _, _, _, _, _, _, _, _, _, _, _, _, _, _, _, _, _, _, _, _, _, _, _, _, _, _, _, _, _, _, _, _, _, _, _, _, _, _, _, _, _, _, _, _, _, _, _, _, _, _, _, _, _, _, _, _, _, _, _, _, _, _, _, _, _, _, _, _, _, _, _, _, _, _, _, _, _, _]) rfl ?_
          refine OW_load rfl rfl (by first | exact aLoad_ept rfl rfl | exact aLoad_ptr rfl (by first | rfl | assumption | exact put_same) rfl rfl) ?_
          refine OW_as rfl rfl ?_
          refine OW_nilE (e' := [_, _, _, _, _, _, _, _, _, _, _, _, _, _, _, _, _, _, _, _, _, _, _, _, _, _, _, _, _, _, _, _, _, _, _, _, _, _, _, _, _, _, _, _, _, _, _, _, _, _, _, _, _, _, _, _, _, _, _, _, _, _, _, _, _, _, _, _, _, _, _, _, _, _, _, _, _, _, _, _, _, _, _, _, _, _, _, _, _, _, _, _, _, _, _, _, _, _, _, _, _, _, _, _, _, _, _, _, _, _, _, _, _, _, _, _, _, _, _, _, _]) rfl ?_
          exact ⟨rfl, rfl, ps[i], hps _ (List.getElem_mem hp), env_g rfl⟩
        · refine OW_mv rfl rfl ?_
          refine OW_mv rfl rfl ?_
          first
            | refine OW_bi rfl rfl (aLen_map rfl) ?_
            | refine OW_bi rfl rfl (aLen rfl rfl) ?_
          refine OW_env (e' := [_, _, _, _, _, _, _, _, _, _, _, _, _, _, _, _, _, _, _, _, _, _, _, _, _, _, _, _, _, _, _, _, _, _, _, _, _, _, _, _, _, _, _, _, _, _, _, _, _, _, _, _, _, _, _, _, _, _, _, _, _, _, _, _, _, _, _, _, _, _, _, _, _, _, _, _, _, _, _, _, _, _, _, _, _, _, _, _, _, _, _, _, _, _, _, _, _, _, _, _, _, _, _, _, _, _, _, _, _, _, _, _, _, _, _, _, _, _, _, _, _]) rfl ?_
          first
            | refine OW_bin rfl rfl rfl rfl (lss_yes (by omega)) ?_
            | refine OW_bin rfl rfl rfl rfl (lss_no (by omega)) ?_
            | refine OW_bin rfl rfl rfl rfl rfl ?_
          refine OW_nilE (e' := [_, _, _, _, _, _, _, _, _, _, _, _, _, _, _, _, _, _, _, _, _, _, _, _, _, _, _, _, _, _, _, _, _, _, _, _, _, _, _, _, _, _, _, _, _, _, _, _, _, _, _, _, _, _, _, _, _, _, _, _, _, _, _, _, _, _, _, _, _, _, _, _, _, _, _, _, _, _, _, _, _, _, _, _, _, _, _, _, _, _, _, _, _, _, _, _, _, _, _, _, _, _, _, _, _, _, _, _, _, _, _, _, _, _, _, _, _, _, _, _, _]) rfl ?_
          refine XW_no rfl rfl ?_
          refine XW_skip ?_
          exact ⟨rfl, rfl, 0, by omega, env_g rfl⟩
      · rintro o e1 H1 ⟨rfl, rfl, pk, hpk, g, rfl⟩
        refine then_norm ?_
        refine XW_sr ?_
        refine OW_mv rfl rfl ?_
        refine OW_mv rfl rfl ?_
        refine OW_fn rfl rfl (mLook hmx pk (by omega) (by repeat (first | assumption | exact far1 (by assumption) (by decide) | exact far2 (by assumption) (by decide) | exact far3 (by assumption) (by decide) | exact far4 (by assumption) (by decide) | exact far5 (by assumption) (by decide) | exact far6 (by assumption) (by decide) | exact far7 (by assumption) (by decide) | exact far8 (by assumption) (by decide) | refine under_dn ?_)) (fun p hp => by have := hfν p hp; exact (by repeat (first | assumption | exact far1 (by assumption) (by decide) | exact far2 (by assumption) (by decide) | exact far3 (by assumption) (by decide) | exact far4 (by assumption) (by decide) | exact far5 (by assumption) (by decide) | exact far6 (by assumption) (by decide) | exact far7 (by assumption) (by decide) | exact far8 (by assumption) (by decide) | refine under_dn ?_))) hpk ?_ ?_)
        · intro hx; subst hx; simp at hxl; omega
        · intro l hl0
          generalize hj : pos pk xs.length = j at hl0
          refine OW_env (e' := [_, _, _, _, _, _, _, _, _, _, _, _, _, _, _, _, _, _, _, _, _, _, _, _, _, _, _, _, _, _, _, _, _, _, _, _, _, _, _, _, _, _, _, _, _, _, _, _, _, _, _, _, _, _, _, _, _, _, _, _, _, _, _, _, _, _, _, _, _, _, _, _, _, _, _, _, _, _, _, _, _, _, _, _, _, _, _, _, _, _, _, _, _, _, _, _, _, _, _, _, _, _, _, _, _, _, _, _, _, _, _, _, _, _, _, _, _, _, _, _, _]) rfl ?_
          refine OW_mv rfl rfl ?_
          refine OW_ex rfl rfl rfl ?_
          refine OW_ex rfl rfl rfl ?_
          refine OW_env (e' := [_, _, _, _, _, _, _, _, _, _, _, _, _, _, _, _, _, _, _, _, _, _, _, _, _, _, _, _, _, _, _, _, _, _, _, _, _, _, _, _, _, _, _, _, _, _, _, _, _, _, _, _, _, _, _, _, _, _, _, _, _, _, _, _, _, _, _, _, _, _, _, _, _, _, _, _, _, _, _, _, _, _, _, _, _, _, _, _, _, _, _, _, _, _, _, _, _, _, _, _, _, _, _, _, _, _, _, _, _, _, _, _, _, _, _, _, _, _, _, _, _]) rfl ?_
          refine OW_alloc rfl rfl ?_
          refine OW_store rfl rfl rfl (aStore_ptr rfl (by first | rfl | assumption | exact put_same) rfl ⟨rfl, rfl, by decide⟩) ?_
          refine OW_as rfl rfl ?_
          refine OW_nilE (e' := [_, _, _, _, _, _, _, _, _, _, _, _, _, _, _, _, _, _, _, _, _, _, _, _, _, _, _, _, _, _, _, _, _, _, _, _, _, _, _, _, _, _, _, _, _, _, _, _, _, _, _, _, _, _, _, _, _, _, _, _, _, _, _, _, _, _, _, _, _, _, _, _, _, _, _, _, _, _, _, _, _, _, _, _, _, _, _, _, _, _, _, _, _, _, _, _, _, _, _, _, _, _, _, _, _, _, _, _, _, _, _, _, _, _, _, _, _, _, _, _, _]) rfl ?_
          refine XW_gen fun H4 hH4 => ?_
          have ho4 : Out (0 :: 1 :: 0 :: ν') H1 H4 := by rw [hH4]; exact (by repeat (first | exact Out.refl | assumption | refine Out.put ?_ (by repeat (first | exact under_me | apply under_in))))
          have hq4 : under (0 :: 1 :: 0 :: ν') qm = false := under_dn (under_dn (under_dn hqν))
          have hf4 : ∀ p ∈ fp2, under (0 :: 1 :: 0 :: ν') p = false := fun p hp => under_dn (under_dn (under_dn (hfν p hp)))
          have hL4 : ∀ p ∈ fL, under (0 :: 1 :: 0 :: ν') p = false := fun p hp => under_dn (under_dn (under_dn (hLn p hp).1))
          have hm4 : IsMesh H4 qm xs S fp2 := hmx.out hq4 hf4 ho4
          have hs4 : Sl H4 3 (left.map Lt.enc) L fL := hsL.frame fun p hp => ho4 p (hL4 p hp)
          have hk4 : H4 (6 :: 0 :: 1 :: 1 :: 0 :: 1 :: 0 :: ν') = some (.row 3 [l.enc]) := by rw [hH4]; exact put_same
          refine XW_sr ?_
          refine OW_mv rfl rfl ?_
          refine OW_mv rfl rfl ?_
          refine OW_fn rfl rfl (mTake hm4 pk (by omega) (by repeat (first | assumption | exact far1 (by assumption) (by decide) | exact far2 (by assumption) (by decide) | exact far3 (by assumption) (by decide) | exact far4 (by assumption) (by decide) | exact far5 (by assumption) (by decide) | exact far6 (by assumption) (by decide) | exact far7 (by assumption) (by decide) | exact far8 (by assumption) (by decide) | refine under_dn ?_)) (fun p hp => by have := hf4 p hp; exact (by repeat (first | assumption | exact far1 (by assumption) (by decide) | exact far2 (by assumption) (by decide) | exact far3 (by assumption) (by decide) | exact far4 (by assumption) (by decide) | exact far5 (by assumption) (by decide) | exact far6 (by assumption) (by decide) | exact far7 (by assumption) (by decide) | exact far8 (by assumption) (by decide) | refine under_dn ?_))) hpk (fun h => by subst h; simp at hxl; omega) ?_)
          intro l' H5 S5 hl5 hm5 hf5
          rw [hj] at hl5 hm5
          obtain rfl : l = l' := by rw [hl0] at hl5; exact Option.some.inj hl5
          have hs5 : Sl H5 3 (left.map Lt.enc) L fL := hs4.frame fun p hp => hf5 p (hLn p hp).2.1 (hLn p hp).2.2 (by have := hL4 p hp; exact (by repeat (first | assumption | exact far1 (by assumption) (by decide) | exact far2 (by assumption) (by decide) | exact far3 (by assumption) (by decide) | exact far4 (by assumption) (by decide) | exact far5 (by assumption) (by decide) | exact far6 (by assumption) (by decide) | exact far7 (by assumption) (by decide) | exact far8 (by assumption) (by decide) | refine under_dn ?_)))
          have hk5 : H5 (6 :: 0 :: 1 :: 1 :: 0 :: 1 :: 0 :: ν') = some (.row 3 [l.enc]) := by
            rw [hf5 _ (far hq4 (by repeat (first | exact under_me | apply under_in))).symm (fun hm => (far (hf4 _ hm) (by repeat (first | exact under_me | apply under_in))) rfl) (under_len (by simp))]; exact hk4
          refine OW_env (e' := [_, _, _, _, _, _, _, _, _, _, _, _, _, _, _, _, _, _, _, _, _, _, _, _, _, _, _, _, _, _, _, _, _, _, _, _, _, _, _, _, _, _, _, _, _, _, _, _, _, _, _, _, _, _, _, _, _, _, _, _, _, _, _, _, _, _, _, _, _, _, _, _, _, _, _, _, _, _, _, _, _, _, _, _, _, _, _, _, _, _, _, _, _, _, _, _, _, _, _, _, _, _, _, _, _, _, _, _, _, _, _, _, _, _, _, _, _, _, _, _, _]) rfl ?_
          refine OW_mv rfl rfl ?_
          refine OW_ex rfl rfl rfl ?_
          refine OW_ex rfl rfl rfl ?_
          refine OW_env (e' := [_, _, _, _, _, _, _, _, _, _, _, _, _, _, _, _, _, _, _, _, _, _, _, _, _, _, _, _, _, _, _, _, _, _, _, _, _, _, _, _, _, _, _, _, _, _, _, _, _, _, _, _, _, _, _, _, _, _, _, _, _, _, _, _, _, _, _, _, _, _, _, _, _, _, _, _, _, _, _, _, _, _, _, _, _, _, _, _, _, _, _, _, _, _, _, _, _, _, _, _, _, _, _, _, _, _, _, _, _, _, _, _, _, _, _, _, _, _, _, _, _]) rfl ?_
          refine OW_alloc rfl rfl ?_
          refine OW_store rfl rfl rfl (aStore_ptr rfl (by first | rfl | assumption | exact put_same) rfl ⟨rfl, rfl, by decide⟩) ?_
          refine OW_as rfl rfl ?_
          refine OW_nilE (e' := [_, _, _, _, _, _, _, _, _, _, _, _, _, _, _, _, _, _, _, _, _, _, _, _, _, _, _, _, _, _, _, _, _, _, _, _, _, _, _, _, _, _, _, _, _, _, _, _, _, _, _, _, _, _, _, _, _, _, _, _, _, _, _, _, _, _, _, _, _, _, _, _, _, _, _, _, _, _, _, _, _, _, _, _, _, _, _, _, _, _, _, _, _, _, _, _, _, _, _, _, _, _, _, _, _, _, _, _, _, _, _, _, _, _, _, _, _, _, _, _, _]) rfl ?_
          refine XW_gen fun H6 hH6 => ?_
          have ho6 : Out (0 :: 1 :: 0 :: ν') H5 H6 := by rw [hH6]; exact (by repeat (first | exact Out.refl | assumption | refine Out.put ?_ (by repeat (first | exact under_me | apply under_in))))
          have hm6 : IsMesh H6 qm (xs.eraseIdx j) S5 fp2 := hm5.out hq4 hf4 ho6
          have hs6 : Sl H6 3 (left.map Lt.enc) L fL := hs5.frame fun p hp => ho6 p (hL4 p hp)
          have ht6 : H6 (6 :: 0 :: 1 :: 1 :: 1 :: 0 :: 1 :: 0 :: ν') = some (.row 3 [l.enc]) := by rw [hH6]; exact put_same
          have hk6 : H6 (6 :: 0 :: 1 :: 1 :: 0 :: 1 :: 0 :: ν') = some (.row 3 [l.enc]) := by
            rw [hH6, put_ne (by simp), put_ne (by simp)]; exact hk5
          have h3L : lenKind cfg.T [22] L = true := hs6.kind T22 rfl
          have hjl := (List.getElem?_eq_some_iff.1 hl0).1
          have hll : left.length = xs.length := hperm.length_eq.symm
          refine XW_sr ?_
          refine OW_as rfl rfl ?_
          refine OW_nilE (e' := [_, _, _, _, _, _, _, _, _, _, _, _, _, _, _, _, _, _, _, _, _, _, _, _, _, _, _, _, _, _, _, _, _, _, _, _, _, _, _, _, _, _, _, _, _, _, _, _, _, _, _, _, _, _, _, _, _, _, _, _, _, _, _, _, _, _, _, _, _, _, _, _, _, _, _, _, _, _, _, _, _, _, _, _, _, _, _, _, _, _, _, _, _, _, _, _, _, _, _, _, _, _, _, _, _, _, _, _, _, _, _, _, _, _, _, _, _, _, _, _, _]) rfl ?_
          refine XW_seq ?_
          refine XW_sr ?_
          refine OW_as rfl rfl ?_
          refine OW_nilE (e' := [_, _, _, _, _, _, _, _, _, _, _, _, _, _, _, _, _, _, _, _, _, _, _, _, _, _, _, _, _, _, _, _, _, _, _, _, _, _, _, _, _, _, _, _, _, _, _, _, _, _, _, _, _, _, _, _, _, _, _, _, _, _, _, _, _, _, _, _, _, _, _, _, _, _, _, _, _, _, _, _, _, _, _, _, _, _, _, _, _, _, _, _, _, _, _, _, _, _, _, _, _, _, _, _, _, _, _, _, _, _, _, _, _, _, _, _, _, _, _, _, _]) rfl ?_
          refine XW_block ?_
          refine XW_whileN (I := fun μ n e H'' => H'' = H6 ∧ ∃ (k : Nat) (z : Int), n = left.length - k ∧ k ≤ left.length ∧ ((z = -1 ∧ ∀ j (h : j < left.length), j < k → left[j] ≠ l) ∨ ∃ j : Nat, z = j ∧ left[j]? = some l) ∧ ∃ g : Nat → AVal, e = [.lst (ls.map Lt.enc), .lst (ps.map fun a => .int .i64 a), g 2, g 3, .bool false, .ptr qm 0 0, L, .int .i64 i, .int .i64 pk, .ptr (6 :: 0 :: 1 :: 1 :: 0 :: 1 :: 0 :: ν') 0 0, .bool true, .ptr (6 :: 0 :: 1 :: 1 :: 1 :: 0 :: 1 :: 0 :: ν') 0 0, .bool true, .int .i64 z, .int .i64 k, g 15, g 16, g 17, g 18, g 19, g 20, g 21, g 22, g 23, g 24, g 25, g 26, g 27, g 28, g 29, g 30, g 31, g 32, g 33, g 34, g 35, g 36, g 37, g 38, g 39, g 40, g 41, g 42, g 43, g 44, g 45, g 46, g 47, g 48, g 49, g 50, g 51, g 52, g 53, g 54, g 55, g 56, g 57, g 58, g 59, g 60, g 61, g 62, g 63, g 64, g 65, g 66, g 67, g 68, g 69, g 70, g 71, g 72, g 73, g 74, g 75, g 76, g 77, g 78, g 79, g 80, g 81, g 82, g 83, g 84, g 85, g 86, g 87, g 88, g 89, g 90, g 91, g 92, g 93, g 94, g 95, g 96, g 97, g 98, g 99, g 100, g 101, g 102, g 103, g 104, g 105, g 106, g 107, g 108, g 109, g 110, g 111, g 112, g 113, g 114, g 115, g 116, g 117, g 118, g 119, g 120]) ?_ left.length _ _ _ ⟨rfl, 0, -1, by omega, by omega, .inl ⟨rfl, fun j h hj => by omega⟩, env_g rfl⟩
          rintro μ n e H'' ⟨rfl, k, z, rfl, hk, hz, g, rfl⟩
          refine XW_seq ?_
          refine XW_sr ?_
          by_cases hkl : k < left.length
          · refine OW_mv rfl rfl ?_
            refine OW_mv rfl rfl ?_
            refine OW_bi rfl rfl (aLen h3L (n := left.length) (by rw [hs6.len, List.length_map])) ?_
            refine OW_env (e' := [_, _, _, _, _, _, _, _, _, _, _, _, _, _, _, _, _, _, _, _, _, _, _, _, _, _, _, _, _, _, _, _, _, _, _, _, _, _, _, _, _, _, _, _, _, _, _, _, _, _, _, _, _, _, _, _, _, _, _, _, _, _, _, _, _, _, _, _, _, _, _, _, _, _, _, _, _, _, _, _, _, _, _, _, _, _, _, _, _, _, _, _, _, _, _, _, _, _, _, _, _, _, _, _, _, _, _, _, _, _, _, _, _, _, _, _, _, _, _, _, _]) rfl ?_
            first
              | refine OW_bin rfl rfl rfl rfl (lss_yes (by omega)) ?_
              | refine OW_bin rfl rfl rfl rfl (lss_no (by omega)) ?_
              | refine OW_bin rfl rfl rfl rfl rfl ?_
            refine OW_nilE (e' := [_, _, _, _, _, _, _, _, _, _, _, _, _, _, _, _, _, _, _, _, _, _, _, _, _, _, _, _, _, _, _, _, _, _, _, _, _, _, _, _, _, _, _, _, _, _, _, _, _, _, _, _, _, _, _, _, _, _, _, _, _, _, _, _, _, _, _, _, _, _, _, _, _, _, _, _, _, _, _, _, _, _, _, _, _, _, _, _, _, _, _, _, _, _, _, _, _, _, _, _, _, _, _, _, _, _, _, _, _, _, _, _, _, _, _, _, _, _, _, _, _]) rfl ?_
            refine XW_yes rfl rfl ?_
            refine XW_skip ?_
            refine then_norm ?_
            refine XW_seq ?_
            refine XW_block ?_
            refine XW_sr ?_
            obtain ⟨q, ys, hLe, hfe, k1, k2, k3, k4⟩ := hs6.at (i := k) (x := left[k].enc) (by simp [hkl])
            subst hLe
            refine OW_mv rfl rfl ?_
            refine OW_mv rfl rfl ?_
            refine OW_ia rfl rfl rfl (ia_slc0 T22 rfl T30 rfl k3) ?_
            refine OW_load rfl rfl (load_row T30 rfl k1 k2 rfl) ?_
            refine OW_load rfl rfl (load_row T30 rfl ht6 rfl rfl) ?_
            by_cases he : left[k] = l
            · refine OW_bin rfl rfl rfl rfl ((eqLt left[k] l).trans (by rw [decide_eq_true he])) ?_
              rcases hz with ⟨rfl, hz2⟩ | ⟨j2, rfl, hj2⟩
              · refine OW_env (e' := [_, _, _, _, _, _, _, _, _, _, _, _, _, _, _, _, _, _, _, _, _, _, _, _, _, _, _, _, _, _, _, _, _, _, _, _, _, _, _, _, _, _, _, _, _, _, _, _, _, _, _, _, _, _, _, _, _, _, _, _, _, _, _, _, _, _, _, _, _, _, _, _, _, _, _, _, _, _, _, _, _, _, _, _, _, _, _, _, _, _, _, _, _, _, _, _, _, _, _, _, _, _, _, _, _, _, _, _, _, _, _, _, _, _, _, _, _, _, _, _, _]) rfl ?_
                refine OW_mv rfl rfl ?_
                first
                  | refine OW_no rfl ?_
                  | refine OW_mv rfl rfl ?_
                first
                  | refine OW_no rfl ?_
                  | refine OW_bin rfl rfl rfl rfl (lss_yes (by omega)) ?_
                  | refine OW_bin rfl rfl rfl rfl (lss_no (by omega)) ?_
                  | refine OW_bin rfl rfl rfl rfl rfl ?_
                refine OW_env (e' := [_, _, _, _, _, _, _, _, _, _, _, _, _, _, _, _, _, _, _, _, _, _, _, _, _, _, _, _, _, _, _, _, _, _, _, _, _, _, _, _, _, _, _, _, _, _, _, _, _, _, _, _, _, _, _, _, _, _, _, _, _, _, _, _, _, _, _, _, _, _, _, _, _, _, _, _, _, _, _, _, _, _, _, _, _, _, _, _, _, _, _, _, _, _, _, _, _, _, _, _, _, _, _, _, _, _, _, _, _, _, _, _, _, _, _, _, _, _, _, _, _]) rfl ?_
                refine OW_pick rfl rfl rfl ?_
                refine OW_nilE (e' := [_, _, _, _, _, _, _, _, _, _, _, _, _, _, _, _, _, _, _, _, _, _, _, _, _, _, _, _, _, _, _, _, _, _, _, _, _, _, _, _, _, _, _, _, _, _, _, _, _, _, _, _, _, _, _, _, _, _, _, _, _, _, _, _, _, _, _, _, _, _, _, _, _, _, _, _, _, _, _, _, _, _, _, _, _, _, _, _, _, _, _, _, _, _, _, _, _, _, _, _, _, _, _, _, _, _, _, _, _, _, _, _, _, _, _, _, _, _, _, _, _]) rfl ?_
                refine XW_yes rfl rfl ?_
                refine XW_region ?_
                refine OW_mv rfl rfl ?_
                refine OW_as rfl rfl ?_
                refine OW_nilE (e' := [_, _, _, _, _, _, _, _, _, _, _, _, _, _, _, _, _, _, _, _, _, _, _, _, _, _, _, _, _, _, _, _, _, _, _, _, _, _, _, _, _, _, _, _, _, _, _, _, _, _, _, _, _, _, _, _, _, _, _, _, _, _, _, _, _, _, _, _, _, _, _, _, _, _, _, _, _, _, _, _, _, _, _, _, _, _, _, _, _, _, _, _, _, _, _, _, _, _, _, _, _, _, _, _, _, _, _, _, _, _, _, _, _, _, _, _, _, _, _, _, _]) rfl ?_
                refine block_norm ?_
                refine then_norm ?_
                refine XW_region ?_
                refine OW_mv rfl rfl ?_
                first
                  | refine OW_bin rfl rfl rfl rfl (add64 (by omega)) ?_
                  | refine OW_bin rfl rfl rfl rfl (addu64 (by omega)) ?_
                  | refine OW_bin rfl rfl rfl rfl rfl ?_
                refine OW_as rfl rfl ?_
                refine OW_nilE (e' := [_, _, _, _, _, _, _, _, _, _, _, _, _, _, _, _, _, _, _, _, _, _, _, _, _, _, _, _, _, _, _, _, _, _, _, _, _, _, _, _, _, _, _, _, _, _, _, _, _, _, _, _, _, _, _, _, _, _, _, _, _, _, _, _, _, _, _, _, _, _, _, _, _, _, _, _, _, _, _, _, _, _, _, _, _, _, _, _, _, _, _, _, _, _, _, _, _, _, _, _, _, _, _, _, _, _, _, _, _, _, _, _, _, _, _, _, _, _, _, _, _]) rfl ?_
                exact ⟨left.length - (k + 1), by omega, rfl, k + 1, k, rfl, by omega, .inr ⟨k, rfl, by rw [← he]; exact List.getElem?_eq_getElem hkl⟩, env_g rfl⟩
              · refine OW_env (e' := [_, _, _, _, _, _, _, _, _, _, _, _, _, _, _, _, _, _, _, _, _, _, _, _, _, _, _, _, _, _, _, _, _, _, _, _, _, _, _, _, _, _, _, _, _, _, _, _, _, _, _, _, _, _, _, _, _, _, _, _, _, _, _, _, _, _, _, _, _, _, _, _, _, _, _, _, _, _, _, _, _, _, _, _, _, _, _, _, _, _, _, _, _, _, _, _, _, _, _, _, _, _, _, _, _, _, _, _, _, _, _, _, _, _, _, _, _, _, _, _, _]) rfl ?_
                refine OW_mv rfl rfl ?_
                first
                  | refine OW_no rfl ?_
                  | refine OW_mv rfl rfl ?_
                first
                  | refine OW_no rfl ?_
                  | refine OW_bin rfl rfl rfl rfl (lss_yes (by omega)) ?_
                  | refine OW_bin rfl rfl rfl rfl (lss_no (by omega)) ?_
                  | refine OW_bin rfl rfl rfl rfl rfl ?_
                refine OW_env (e' := [_, _, _, _, _, _, _, _, _, _, _, _, _, _, _, _, _, _, _, _, _, _, _, _, _, _, _, _, _, _, _, _, _, _, _, _, _, _, _, _, _, _, _, _, _, _, _, _, _, _, _, _, _, _, _, _, _, _, _, _, _, _, _, _, _, _, _, _, _, _, _, _, _, _, _, _, _, _, _, _, _, _, _, _, _, _, _, _, _, _, _, _, _, _, _, _, _, _, _, _, _, _, _, _, _, _, _, _, _, _, _, _, _, _, _, _, _, _, _, _, _]) rfl ?_
                refine OW_pick rfl rfl rfl ?_
                refine OW_nilE (e' := [_, _, _, _, _, _, _, _, _, _, _, _, _, _, _, _, _, _, _, _, _, _, _, _, _, _, _, _, _, _, _, _, _, _, _, _, _, _, _, _, _, _, _, _, _, _, _, _, _, _, _, _, _, _, _, _, _, _, _, _, _, _, _, _, _, _, _, _, _, _, _, _, _, _, _, _, _, _, _, _, _, _, _, _, _, _, _, _, _, _, _, _, _, _, _, _, _, _, _, _, _, _, _, _, _, _, _, _, _, _, _, _, _, _, _, _, _, _, _, _, _]) rfl ?_
                refine XW_no rfl rfl ?_
                refine XW_skip ?_
                refine block_norm ?_
                refine then_norm ?_
                refine XW_region ?_
                refine OW_mv rfl rfl ?_
                first
                  | refine OW_bin rfl rfl rfl rfl (add64 (by omega)) ?_
                  | refine OW_bin rfl rfl rfl rfl (addu64 (by omega)) ?_
                  | refine OW_bin rfl rfl rfl rfl rfl ?_
                refine OW_as rfl rfl ?_
                refine OW_nilE (e' := [_, _, _, _, _, _, _, _, _, _, _, _, _, _, _, _, _, _, _, _, _, _, _, _, _, _, _, _, _, _, _, _, _, _, _, _, _, _, _, _, _, _, _, _, _, _, _, _, _, _, _, _, _, _, _, _, _, _, _, _, _, _, _, _, _, _, _, _, _, _, _, _, _, _, _, _, _, _, _, _, _, _, _, _, _, _, _, _, _, _, _, _, _, _, _, _, _, _, _, _, _, _, _, _, _, _, _, _, _, _, _, _, _, _, _, _, _, _, _, _, _]) rfl ?_
                exact ⟨left.length - (k + 1), by omega, rfl, k + 1, j2, rfl, by omega, .inr ⟨j2, rfl, hj2⟩, env_g rfl⟩
            · refine OW_bin rfl rfl rfl rfl ((eqLt left[k] l).trans (by rw [decide_eq_false he])) ?_
              refine OW_env (e' := [_, _, _, _, _, _, _, _, _, _, _, _, _, _, _, _, _, _, _, _, _, _, _, _, _, _, _, _, _, _, _, _, _, _, _, _, _, _, _, _, _, _, _, _, _, _, _, _, _, _, _, _, _, _, _, _, _, _, _, _, _, _, _, _, _, _, _, _, _, _, _, _, _, _, _, _, _, _, _, _, _, _, _, _, _, _, _, _, _, _, _, _, _, _, _, _, _, _, _, _, _, _, _, _, _, _, _, _, _, _, _, _, _, _, _, _, _, _, _, _, _]) rfl ?_
              refine OW_mv rfl rfl ?_
              first
                | refine OW_no rfl ?_
                | refine OW_mv rfl rfl ?_
              first
                | refine OW_no rfl ?_
                | refine OW_bin rfl rfl rfl rfl (lss_yes (by omega)) ?_
                | refine OW_bin rfl rfl rfl rfl (lss_no (by omega)) ?_
                | refine OW_bin rfl rfl rfl rfl rfl ?_
              refine OW_env (e' := [_, _, _, _, _, _, _, _, _, _, _, _, _, _, _, _, _, _, _, _, _, _, _, _, _, _, _, _, _, _, _, _, _, _, _, _, _, _, _, _, _, _, _, _, _, _, _, _, _, _, _, _, _, _, _, _, _, _, _, _, _, _, _, _, _, _, _, _, _, _, _, _, _, _, _, _, _, _, _, _, _, _, _, _, _, _, _, _, _, _, _, _, _, _, _, _, _, _, _, _, _, _, _, _, _, _, _, _, _, _, _, _, _, _, _, _, _, _, _, _, _]) rfl ?_
              refine OW_pick rfl rfl rfl ?_
              refine OW_nilE (e' := [_, _, _, _, _, _, _, _, _, _, _, _, _, _, _, _, _, _, _, _, _, _, _, _, _, _, _, _, _, _, _, _, _, _, _, _, _, _, _, _, _, _, _, _, _, _, _, _, _, _, _, _, _, _, _, _, _, _, _, _, _, _, _, _, _, _, _, _, _, _, _, _, _, _, _, _, _, _, _, _, _, _, _, _, _, _, _, _, _, _, _, _, _, _, _, _, _, _, _, _, _, _, _, _, _, _, _, _, _, _, _, _, _, _, _, _, _, _, _, _, _]) rfl ?_
              refine XW_no rfl rfl ?_
              refine XW_skip ?_
              refine block_norm ?_
              refine then_norm ?_
              refine XW_region ?_
              refine OW_mv rfl rfl ?_
              first
                | refine OW_bin rfl rfl rfl rfl (add64 (by omega)) ?_
                | refine OW_bin rfl rfl rfl rfl (addu64 (by omega)) ?_
                | refine OW_bin rfl rfl rfl rfl rfl ?_
              refine OW_as rfl rfl ?_
              refine OW_nilE (e' := [_, _, _, _, _, _, _, _, _, _, _, _, _, _, _, _, _, _, _, _, _, _, _, _, _, _, _, _, _, _, _, _, _, _, _, _, _, _, _, _, _, _, _, _, _, _, _, _, _, _, _, _, _, _, _, _, _, _, _, _, _, _, _, _, _, _, _, _, _, _, _, _, _, _, _, _, _, _, _, _, _, _, _, _, _, _, _, _, _, _, _, _, _, _, _, _, _, _, _, _, _, _, _, _, _, _, _, _, _, _, _, _, _, _, _, _, _, _, _, _, _]) rfl ?_
              refine ⟨left.length - (k + 1), by omega, rfl, k + 1, z, rfl, by omega, ?_, env_g rfl⟩
              rcases hz with ⟨h1, h2⟩ | h2
              · refine .inl ⟨h1, fun j3 h3 h4 => ?_⟩
                by_cases e : j3 = k
                · subst e; exact he
                · exact h2 j3 h3 (by omega)
              · exact .inr h2
          · have hmem : l ∈ left := (hperm.mem_iff).1 (List.mem_of_getElem? hl0)
            obtain ⟨j2, hz2, hj2⟩ : ∃ j : Nat, z = j ∧ left[j]? = some l := by
              rcases hz with ⟨_, h2⟩ | h2
              · obtain ⟨j3, h3, h4⟩ := List.mem_iff_getElem.1 hmem
                exact absurd h4 (h2 j3 h3 (by omega))
              · exact h2
            clear hz
            subst hz2
            refine OW_mv rfl rfl ?_
            refine OW_mv rfl rfl ?_
            refine OW_bi rfl rfl (aLen h3L (n := left.length) (by rw [hs6.len, List.length_map])) ?_
            refine OW_env (e' := [_, _, _, _, _, _, _, _, _, _, _, _, _, _, _, _, _, _, _, _, _, _, _, _, _, _, _, _, _, _, _, _, _, _, _, _, _, _, _, _, _, _, _, _, _, _, _, _, _, _, _, _, _, _, _, _, _, _, _, _, _, _, _, _, _, _, _, _, _, _, _, _, _, _, _, _, _, _, _, _, _, _, _, _, _, _, _, _, _, _, _, _, _, _, _, _, _, _, _, _, _, _, _, _, _, _, _, _, _, _, _, _, _, _, _, _, _, _, _, _, _]) rfl ?_
            first
              | refine OW_bin rfl rfl rfl rfl (lss_yes (by omega)) ?_
              | refine OW_bin rfl rfl rfl rfl (lss_no (by omega)) ?_
              | refine OW_bin rfl rfl rfl rfl rfl ?_
            refine OW_nilE (e' := [_, _, _, _, _, _, _, _, _, _, _, _, _, _, _, _, _, _, _, _, _, _, _, _, _, _, _, _, _, _, _, _, _, _, _, _, _, _, _, _, _, _, _, _, _, _, _, _, _, _, _, _, _, _, _, _, _, _, _, _, _, _, _, _, _, _, _, _, _, _, _, _, _, _, _, _, _, _, _, _, _, _, _, _, _, _, _, _, _, _, _, _, _, _, _, _, _, _, _, _, _, _, _, _, _, _, _, _, _, _, _, _, _, _, _, _, _, _, _, _, _]) rfl ?_
            refine XW_no rfl rfl ?_
            refine XW_exit ?_
            refine then_exit ?_
            refine block_exit ?_
            refine then_norm ?_
            have hj2l := (List.getElem?_eq_some_iff.1 hj2).1
            have hel : (xs.eraseIdx j).length = xs.length - 1 := by rw [List.length_eraseIdx, if_pos hjl]
            refine XW_seq ?_
            refine XW_sr ?_
            refine OW_mv rfl rfl ?_
            refine OW_un rfl rfl rfl ?_
            refine OW_mv rfl rfl ?_
            refine OW_load rfl rfl (load_row T30 rfl hk6 rfl rfl) ?_
            refine OW_load rfl rfl (load_row T30 rfl ht6 rfl rfl) ?_
            refine OW_bin rfl rfl rfl rfl ((neLt l l).trans (by rw [decide_eq_true rfl])) ?_
            refine OW_env (e' := [_, _, _, _, _, _, _, _, _, _, _, _, _, _, _, _, _, _, _, _, _, _, _, _, _, _, _, _, _, _, _, _, _, _, _, _, _, _, _, _, _, _, _, _, _, _, _, _, _, _, _, _, _, _, _, _, _, _, _, _, _, _, _, _, _, _, _, _, _, _, _, _, _, _, _, _, _, _, _, _, _, _, _, _, _, _, _, _, _, _, _, _, _, _, _, _, _, _, _, _, _, _, _, _, _, _, _, _, _, _, _, _, _, _, _, _, _, _, _, _, _]) rfl ?_
            refine OW_pick rfl rfl rfl ?_
            refine OW_mv rfl rfl ?_
            first
              | refine OW_no rfl ?_
              | refine OW_mv rfl rfl ?_
            refine OW_env (e' := [_, _, _, _, _, _, _, _, _, _, _, _, _, _, _, _, _, _, _, _, _, _, _, _, _, _, _, _, _, _, _, _, _, _, _, _, _, _, _, _, _, _, _, _, _, _, _, _, _, _, _, _, _, _, _, _, _, _, _, _, _, _, _, _, _, _, _, _, _, _, _, _, _, _, _, _, _, _, _, _, _, _, _, _, _, _, _, _, _, _, _, _, _, _, _, _, _, _, _, _, _, _, _, _, _, _, _, _, _, _, _, _, _, _, _, _, _, _, _, _, _]) rfl ?_
            first
              | refine OW_no rfl ?_
              | refine OW_bin rfl rfl rfl rfl (lss_yes (by omega)) ?_
              | refine OW_bin rfl rfl rfl rfl (lss_no (by omega)) ?_
              | refine OW_bin rfl rfl rfl rfl rfl ?_
            refine OW_pick rfl rfl rfl ?_
            refine OW_mv rfl rfl ?_
            refine OW_env (e' := [_, _, _, _, _, _, _, _, _, _, _, _, _, _, _, _, _, _, _, _, _, _, _, _, _, _, _, _, _, _, _, _, _, _, _, _, _, _, _, _, _, _, _, _, _, _, _, _, _, _, _, _, _, _, _, _, _, _, _, _, _, _, _, _, _, _, _, _, _, _, _, _, _, _, _, _, _, _, _, _, _, _, _, _, _, _, _, _, _, _, _, _, _, _, _, _, _, _, _, _, _, _, _, _, _, _, _, _, _, _, _, _, _, _, _, _, _, _, _, _, _]) rfl ?_
            first
              | refine OW_no rfl ?_
              | refine OW_mv rfl rfl ?_
            refine OW_fn rfl rfl (many hm6 ?_)
            have hel2 : ((xs.eraseIdx j).length : Int) = (ls.length : Int) - 1 - i := by omega
            rw [hel2]
            refine OW_env (e' := [_, _, _, _, _, _, _, _, _, _, _, _, _, _, _, _, _, _, _, _, _, _, _, _, _, _, _, _, _, _, _, _, _, _, _, _, _, _, _, _, _, _, _, _, _, _, _, _, _, _, _, _, _, _, _, _, _, _, _, _, _, _, _, _, _, _, _, _, _, _, _, _, _, _, _, _, _, _, _, _, _, _, _, _, _, _, _, _, _, _, _, _, _, _, _, _, _, _, _, _, _, _, _, _, _, _, _, _, _, _, _, _, _, _, _, _, _, _, _, _, _]) rfl ?_
            first
              | refine OW_no rfl ?_
              | refine OW_mv rfl rfl ?_
            first
              | refine OW_no rfl ?_
              | refine OW_bi rfl rfl (aLen_map rfl) ?_
              | refine OW_bi rfl rfl (aLen rfl rfl) ?_
            first
              | refine OW_no rfl ?_
              | refine OW_bin rfl rfl rfl rfl (sub64 (by omega)) ?_
              | refine OW_bin rfl rfl rfl rfl (subu64 (by omega)) ?_
              | refine OW_bin rfl rfl rfl rfl rfl ?_
            refine OW_env (e' := [_, _, _, _, _, _, _, _, _, _, _, _, _, _, _, _, _, _, _, _, _, _, _, _, _, _, _, _, _, _, _, _, _, _, _, _, _, _, _, _, _, _, _, _, _, _, _, _, _, _, _, _, _, _, _, _, _, _, _, _, _, _, _, _, _, _, _, _, _, _, _, _, _, _, _, _, _, _, _, _, _, _, _, _, _, _, _, _, _, _, _, _, _, _, _, _, _, _, _, _, _, _, _, _, _, _, _, _, _, _, _, _, _, _, _, _, _, _, _, _, _]) rfl ?_
            first
              | refine OW_no rfl ?_
              | refine OW_mv rfl rfl ?_
            first
              | refine OW_no rfl ?_
              | refine OW_bin rfl rfl rfl rfl (sub64 (by omega)) ?_
              | refine OW_bin rfl rfl rfl rfl (subu64 (by omega)) ?_
              | refine OW_bin rfl rfl rfl rfl rfl ?_
            first
              | refine OW_no rfl ?_
              | refine OW_bin rfl rfl rfl rfl (ne_yes (by omega)) ?_
              | refine OW_bin rfl rfl rfl rfl (ne_no (by omega)) ?_
              | refine OW_bin rfl rfl rfl rfl rfl ?_
            refine OW_env (e' := [_, _, _, _, _, _, _, _, _, _, _, _, _, _, _, _, _, _, _, _, _, _, _, _, _, _, _, _, _, _, _, _, _, _, _, _, _, _, _, _, _, _, _, _, _, _, _, _, _, _, _, _, _, _, _, _, _, _, _, _, _, _, _, _, _, _, _, _, _, _, _, _, _, _, _, _, _, _, _, _, _, _, _, _, _, _, _, _, _, _, _, _, _, _, _, _, _, _, _, _, _, _, _, _, _, _, _, _, _, _, _, _, _, _, _, _, _, _, _, _, _]) rfl ?_
            refine OW_pick rfl rfl rfl ?_
            refine OW_nilE (e' := [_, _, _, _, _, _, _, _, _, _, _, _, _, _, _, _, _, _, _, _, _, _, _, _, _, _, _, _, _, _, _, _, _, _, _, _, _, _, _, _, _, _, _, _, _, _, _, _, _, _, _, _, _, _, _, _, _, _, _, _, _, _, _, _, _, _, _, _, _, _, _, _, _, _, _, _, _, _, _, _, _, _, _, _, _, _, _, _, _, _, _, _, _, _, _, _, _, _, _, _, _, _, _, _, _, _, _, _, _, _, _, _, _, _, _, _, _, _, _, _, _]) rfl ?_
            refine XW_no rfl rfl ?_
            refine XW_skip ?_
            refine then_norm ?_
            refine XW_region ?_
            obtain ⟨q, ys, hLe, hfe, k1, k2, k3, k4⟩ := hs6.at (i := j2) (x := l.enc) (by rw [List.getElem?_map, hj2]; rfl)
            subst hLe
            rw [List.length_map] at k4 ⊢
            have hys : left.length ≤ ys.length := by
              have := congrArg List.length k4
              simp only [List.length_take, List.length_map] at this; omega
            refine OW_bs rfl rfl rfl ?_
            refine OW_mv rfl rfl ?_
            refine OW_mv rfl rfl ?_
            refine OW_sl rfl rfl rfl rfl rfl (slc_hi (i := j2) T22 rfl T30 rfl (by omega)) ?_
            have he1 : elems H'' (.slc q 3 0 j2) = some ((left.take j2).map Lt.enc) := by
              rw [elems_slc k1 (by omega), List.drop_zero, List.map_take, ← k4, List.take_take, Nat.min_eq_left (by omega)]
            obtain ⟨A, H7, ha7, fA, hs7, hf7, hfr7⟩ := (Sl.emp (H := H'') (w := 3) (xs := []) rfl).app (ν := 4 :: 1 :: 1 :: 1 :: 1 :: 1 :: 1 :: 1 :: 0 :: 1 :: 0 :: ν') (Y := .slc q 3 0 j2) (ys := (left.take j2).map Lt.enc) T22 rfl T30 rfl he1 (enc_ws _) (by
              have : ([] : List AVal).length + ((left.take j2).map Lt.enc).length ≤ 8192 := by simp; omega
              exact Nat.le_trans (Nat.mul_le_mul_right _ this) (by decide)) (by simp)
            refine OW_bi rfl rfl (app_bi rfl ha7) ?_
            refine OW_env (e' := [_, _, _, _, _, _, _, _, _, _, _, _, _, _, _, _, _, _, _, _, _, _, _, _, _, _, _, _, _, _, _, _, _, _, _, _, _, _, _, _, _, _, _, _, _, _, _, _, _, _, _, _, _, _, _, _, _, _, _, _, _, _, _, _, _, _, _, _, _, _, _, _, _, _, _, _, _, _, _, _, _, _, _, _, _, _, _, _, _, _, _, _, _, _, _, _, _, _, _, _, _, _, _, _, _, _, _, _, _, _, _, _, _, _, _, _, _, _, _, _, _]) rfl ?_
            refine OW_mv rfl rfl ?_
            refine OW_mv rfl rfl ?_
            first
              | refine OW_bin rfl rfl rfl rfl (add64 (by omega)) ?_
              | refine OW_bin rfl rfl rfl rfl (addu64 (by omega)) ?_
              | refine OW_bin rfl rfl rfl rfl rfl ?_
            refine OW_sl rfl rfl rfl rfl rfl (slc_lo (i := j2 + 1) T22 rfl T30 rfl (by omega)) ?_
            have hqfL := hLn q (by rw [hfe]; simp)
            have hq7 : H7 q = some (.row 3 ys) := by rw [hfr7 q (by simp) (far (ν := ν') hqfL.1 (by repeat (first | exact under_me | apply under_in)))]; exact k1
            have he2 : elems H7 (.slc q 3 (0 + (j2 + 1)) (left.length - (j2 + 1))) = some ((left.drop (j2 + 1)).map Lt.enc) := by
              rw [elems_slc hq7 (by omega), Nat.zero_add, List.map_drop, ← k4, List.drop_take]
            have hfA : ∀ p ∈ fA, p = 4 :: 1 :: 1 :: 1 :: 1 :: 1 :: 1 :: 1 :: 0 :: 1 :: 0 :: ν' := fun p hp => (hf7 p hp).elim (fun h => by cases h) id
            obtain ⟨A2, H8, ha8, fA2, hs8, hf8, hfr8⟩ := hs7.app (ν := 9 :: 1 :: 1 :: 1 :: 1 :: 1 :: 1 :: 1 :: 0 :: 1 :: 0 :: ν') (Y := .slc q 3 (0 + (j2 + 1)) (left.length - (j2 + 1))) (ys := (left.drop (j2 + 1)).map Lt.enc) T22 rfl T30 rfl he2 (enc_ws _) (by
              have : ([] ++ (left.take j2).map Lt.enc).length + ((left.drop (j2 + 1)).map Lt.enc).length ≤ 8192 := by simp; omega
              exact Nat.le_trans (Nat.mul_le_mul_right _ this) (by decide)) (fun hm => by have := hfA _ hm; simp at this)
            refine OW_bi rfl rfl (app_bi rfl ha8) ?_
            refine OW_env (e' := [_, _, _, _, _, _, _, _, _, _, _, _, _, _, _, _, _, _, _, _, _, _, _, _, _, _, _, _, _, _, _, _, _, _, _, _, _, _, _, _, _, _, _, _, _, _, _, _, _, _, _, _, _, _, _, _, _, _, _, _, _, _, _, _, _, _, _, _, _, _, _, _, _, _, _, _, _, _, _, _, _, _, _, _, _, _, _, _, _, _, _, _, _, _, _, _, _, _, _, _, _, _, _, _, _, _, _, _, _, _, _, _, _, _, _, _, _, _, _, _, _]) rfl ?_
            refine OW_as rfl rfl ?_
            refine OW_nilE (e' := [_, _, _, _, _, _, _, _, _, _, _, _, _, _, _, _, _, _, _, _, _, _, _, _, _, _, _, _, _, _, _, _, _, _, _, _, _, _, _, _, _, _, _, _, _, _, _, _, _, _, _, _, _, _, _, _, _, _, _, _, _, _, _, _, _, _, _, _, _, _, _, _, _, _, _, _, _, _, _, _, _, _, _, _, _, _, _, _, _, _, _, _, _, _, _, _, _, _, _, _, _, _, _, _, _, _, _, _, _, _, _, _, _, _, _, _, _, _, _, _, _]) rfl ?_
            refine block_norm ?_
            refine then_norm ?_
            refine XW_region ?_
            refine OW_mv rfl rfl ?_
            first
              | refine OW_bin rfl rfl rfl rfl (add64 (by omega)) ?_
              | refine OW_bin rfl rfl rfl rfl (addu64 (by omega)) ?_
              | refine OW_bin rfl rfl rfl rfl rfl ?_
            refine OW_as rfl rfl ?_
            refine OW_nilE (e' := [_, _, _, _, _, _, _, _, _, _, _, _, _, _, _, _, _, _, _, _, _, _, _, _, _, _, _, _, _, _, _, _, _, _, _, _, _, _, _, _, _, _, _, _, _, _, _, _, _, _, _, _, _, _, _, _, _, _, _, _, _, _, _, _, _, _, _, _, _, _, _, _, _, _, _, _, _, _, _, _, _, _, _, _, _, _, _, _, _, _, _, _, _, _, _, _, _, _, _, _, _, _, _, _, _, _, _, _, _, _, _, _, _, _, _, _, _, _, _, _, _]) rfl ?_
            have hfA2 : ∀ p ∈ fA2, under (0 :: ν') p = true := fun p hp => by
              rcases hf8 p hp with h | rfl
              · rw [hfA p h]; exact (by repeat (first | exact under_me | apply under_in))
              · exact (by repeat (first | exact under_me | apply under_in))
            have ho8 : Out (0 :: 1 :: 0 :: ν') H'' H8 := fun p hp => by
              rw [hfr8 p (fun hm => (far hp (by repeat (first | exact under_me | apply under_in))) (hfA p hm)) (far hp (by repeat (first | exact under_me | apply under_in))), hfr7 p (by simp) (far hp (by repeat (first | exact under_me | apply under_in)))]
            refine ⟨ls.length - (i + 1), by omega, i + 1, xs.eraseIdx j, left.eraseIdx j2, S5, A2, fA2, rfl, by omega, under_in hU, fun p hp => ⟨under_far rfl (hfA2 p hp), fun e => (far hqν (under_up (hfA2 p hp))) e.symm, fun hm => (far (hfν p hm) (under_up (hfA2 p hp))) rfl⟩, hm6.out hq4 hf4 ho8, hs8.cast ?_, ?_, by omega, env_g rfl⟩
            · rw [List.nil_append, ← List.map_append, List.eraseIdx_eq_take_drop_succ]
            · have e1 := erase_perm xs j hjl
              have e2 := erase_perm left j2 hj2l
              rw [(List.getElem?_eq_some_iff.1 hl0).2] at e1
              rw [(List.getElem?_eq_some_iff.1 hj2).2] at e2
              exact List.Perm.cons_inv (e1.trans (hperm.trans e2.symm))
    · obtain rfl : i = ls.length := by omega
      have hx0 : xs = [] := List.eq_nil_of_length_eq_zero (by omega)
      subst hx0
      have hl0 : left = [] := List.Perm.eq_nil hperm.symm
      subst hl0
      have h2L : lenOf H' L = some 0 := hsL.len
      have h3L : lenKind cfg.T [22] L = true := hsL.kind T22 rfl
      refine OW_mv rfl rfl ?_
      refine OW_mv rfl rfl ?_
      first
        | refine OW_bi rfl rfl (aLen_map rfl) ?_
        | refine OW_bi rfl rfl (aLen rfl rfl) ?_
      refine OW_env (e' := [_, _, _, _, _, _, _, _, _, _, _, _, _, _, _, _, _, _, _, _, _, _, _, _, _, _, _, _, _, _, _, _, _, _, _, _, _, _, _, _, _, _, _, _, _, _, _, _, _, _, _, _, _, _, _, _, _, _, _, _, _, _, _, _, _, _, _, _, _, _, _, _, _, _, _, _, _, _, _, _, _, _, _, _, _, _, _, _, _, _, _, _, _, _, _, _, _, _, _, _, _, _, _, _, _, _, _, _, _, _, _, _, _, _, _, _, _, _, _, _, _]) rfl ?_
      first
        | refine OW_bin rfl rfl rfl rfl (lss_yes (by omega)) ?_
        | refine OW_bin rfl rfl rfl rfl (lss_no (by omega)) ?_
        | refine OW_bin rfl rfl rfl rfl rfl ?_
      refine OW_nilE (e' := [_, _, _, _, _, _, _, _, _, _, _, _, _, _, _, _, _, _, _, _, _, _, _, _, _, _, _, _, _, _, _, _, _, _, _, _, _, _, _, _, _, _, _, _, _, _, _, _, _, _, _, _, _, _, _, _, _, _, _, _, _, _, _, _, _, _, _, _, _, _, _, _, _, _, _, _, _, _, _, _, _, _, _, _, _, _, _, _, _, _, _, _, _, _, _, _, _, _, _, _, _, _, _, _, _, _, _, _, _, _, _, _, _, _, _, _, _, _, _, _, _]) rfl ?_
      refine XW_no rfl rfl ?_
      refine XW_exit ?_
      refine then_exit ?_
      refine block_exit ?_
      refine then_norm ?_
      refine XW_sr ?_
      refine OW_mv rfl rfl ?_
      refine OW_fn rfl rfl (mTake hmx 0 (by simp) (by repeat (first | assumption | exact far1 (by assumption) (by decide) | exact far2 (by assumption) (by decide) | exact far3 (by assumption) (by decide) | exact far4 (by assumption) (by decide) | exact far5 (by assumption) (by decide) | exact far6 (by assumption) (by decide) | exact far7 (by assumption) (by decide) | exact far8 (by assumption) (by decide) | refine under_dn ?_)) (fun p hp => by have := hf2' p hp; exact (by repeat (first | assumption | exact far1 (by assumption) (by decide) | exact far2 (by assumption) (by decide) | exact far3 (by assumption) (by decide) | exact far4 (by assumption) (by decide) | exact far5 (by assumption) (by decide) | exact far6 (by assumption) (by decide) | exact far7 (by assumption) (by decide) | exact far8 (by assumption) (by decide) | refine under_dn ?_))) (by omega) (fun _ H4 _ _ => ?_) (fun l H4 S4 h4 => by simp at h4))
      refine OW_env (e' := [_, _, _, _, _, _, _, _, _, _, _, _, _, _, _, _, _, _, _, _, _, _, _, _, _, _, _, _, _, _, _, _, _, _, _, _, _, _, _, _, _, _, _, _, _, _, _, _, _, _, _, _, _, _, _, _, _, _, _, _, _, _, _, _, _, _, _, _, _, _, _, _, _, _, _, _, _, _, _, _, _, _, _, _, _, _, _, _, _, _, _, _, _, _, _, _, _, _, _, _, _, _, _, _, _, _, _, _, _, _, _, _, _, _, _, _, _, _, _, _, _]) rfl ?_
      refine OW_mv rfl rfl ?_
      refine OW_ex rfl rfl rfl ?_
      refine OW_ex rfl rfl rfl ?_
      refine OW_env (e' := [_, _, _, _, _, _, _, _, _, _, _, _, _, _, _, _, _, _, _, _, _, _, _, _, _, _, _, _, _, _, _, _, _, _, _, _, _, _, _, _, _, _, _, _, _, _, _, _, _, _, _, _, _, _, _, _, _, _, _, _, _, _, _, _, _, _, _, _, _, _, _, _, _, _, _, _, _, _, _, _, _, _, _, _, _, _, _, _, _, _, _, _, _, _, _, _, _, _, _, _, _, _, _, _, _, _, _, _, _, _, _, _, _, _, _, _, _, _, _, _, _]) rfl ?_
      refine OW_alloc rfl rfl ?_
      refine OW_store rfl rfl rfl (aStore_ptr rfl (by first | rfl | assumption | exact put_same) rfl ⟨rfl, rfl, by decide⟩) ?_
      refine OW_as rfl rfl ?_
      refine OW_nilE (e' := [_, _, _, _, _, _, _, _, _, _, _, _, _, _, _, _, _, _, _, _, _, _, _, _, _, _, _, _, _, _, _, _, _, _, _, _, _, _, _, _, _, _, _, _, _, _, _, _, _, _, _, _, _, _, _, _, _, _, _, _, _, _, _, _, _, _, _, _, _, _, _, _, _, _, _, _, _, _, _, _, _, _, _, _, _, _, _, _, _, _, _, _, _, _, _, _, _, _, _, _, _, _, _, _, _, _, _, _, _, _, _, _, _, _, _, _, _, _, _, _, _]) rfl ?_
      refine XW_sr ?_
      refine OW_mv rfl rfl ?_
      refine OW_un rfl rfl rfl ?_
      refine OW_mv rfl rfl ?_
      refine OW_env (e' := [_, _, _, _, _, _, _, _, _, _, _, _, _, _, _, _, _, _, _, _, _, _, _, _, _, _, _, _, _, _, _, _, _, _, _, _, _, _, _, _, _, _, _, _, _, _, _, _, _, _, _, _, _, _, _, _, _, _, _, _, _, _, _, _, _, _, _, _, _, _, _, _, _, _, _, _, _, _, _, _, _, _, _, _, _, _, _, _, _, _, _, _, _, _, _, _, _, _, _, _, _, _, _, _, _, _, _, _, _, _, _, _, _, _, _, _, _, _, _, _, _]) rfl ?_
      first
        | refine OW_no rfl ?_
        | refine OW_mv rfl rfl ?_
      refine OW_bi rfl rfl (aLen h3L (n := 0) hsL.len) ?_
      refine OW_env (e' := [_, _, _, _, _, _, _, _, _, _, _, _, _, _, _, _, _, _, _, _, _, _, _, _, _, _, _, _, _, _, _, _, _, _, _, _, _, _, _, _, _, _, _, _, _, _, _, _, _, _, _, _, _, _, _, _, _, _, _, _, _, _, _, _, _, _, _, _, _, _, _, _, _, _, _, _, _, _, _, _, _, _, _, _, _, _, _, _, _, _, _, _, _, _, _, _, _, _, _, _, _, _, _, _, _, _, _, _, _, _, _, _, _, _, _, _, _, _, _, _, _]) rfl ?_
      first
        | refine OW_no rfl ?_
        | refine OW_bin rfl rfl rfl rfl (eq_yes (by omega)) ?_
        | refine OW_bin rfl rfl rfl rfl (eq_no (by omega)) ?_
        | refine OW_bin rfl rfl rfl rfl rfl ?_
      refine OW_pick rfl rfl rfl ?_
      refine OW_as rfl rfl ?_
      refine OW_nilE (e' := [_, _, _, _, _, _, _, _, _, _, _, _, _, _, _, _, _, _, _, _, _, _, _, _, _, _, _, _, _, _, _, _, _, _, _, _, _, _, _, _, _, _, _, _, _, _, _, _, _, _, _, _, _, _, _, _, _, _, _, _, _, _, _, _, _, _, _, _, _, _, _, _, _, _, _, _, _, _, _, _, _, _, _, _, _, _, _, _, _, _, _, _, _, _, _, _, _, _, _, _, _, _, _, _, _, _, _, _, _, _, _, _, _, _, _, _, _, _, _, _, _]) rfl ?_
      refine XW_ret ?_
      exact ret_ret rfl rfl
  · refine OW_env (e' := [_, _, _, _, _, _, _, _, _, _, _, _, _, _, _, _, _, _, _, _, _, _, _, _, _, _, _, _, _, _, _, _, _, _, _, _, _, _, _, _, _, _, _, _, _, _, _, _, _, _, _, _, _, _, _, _, _, _, _, _, _, _, _, _, _, _, _, _, _, _, _, _, _, _, _, _, _, _, _, _, _, _, _, _, _, _, _, _, _, _, _, _, _, _, _, _, _, _, _, _, _, _, _, _, _, _, _, _, _, _, _, _, _, _, _, _, _, _, _, _, _]) rfl ?_
    refine OW_un rfl rfl rfl ?_
    refine OW_mv rfl rfl ?_
    first
      | refine OW_no rfl ?_
      | refine OW_mv rfl rfl ?_
    refine OW_env (e' := [_, _, _, _, _, _, _, _, _, _, _, _, _, _, _, _, _, _, _, _, _, _, _, _, _, _, _, _, _, _, _, _, _, _, _, _, _, _, _, _, _, _, _, _, _, _, _, _, _, _, _, _, _, _, _, _, _, _, _, _, _, _, _, _, _, _, _, _, _, _, _, _, _, _, _, _, _, _, _, _, _, _, _, _, _, _, _, _, _, _, _, _, _, _, _, _, _, _, _, _, _, _, _, _, _, _, _, _, _, _, _, _, _, _, _, _, _, _, _, _, _]) rfl ?_
    first
      | refine OW_no rfl ?_
      | refine OW_bi rfl rfl (aLen_map rfl) ?_
      | refine OW_bi rfl rfl (aLen rfl rfl) ?_
    first
      | refine OW_no rfl ?_
      | refine OW_bin rfl rfl rfl rfl (gtr_yes (by omega)) ?_
      | refine OW_bin rfl rfl rfl rfl (gtr_no (by omega)) ?_
      | refine OW_bin rfl rfl rfl rfl rfl ?_
    refine OW_pick rfl rfl rfl ?_
    refine OW_nilE (e' := [_, _, _, _, _, _, _, _, _, _, _, _, _, _, _, _, _, _, _, _, _, _, _, _, _, _, _, _, _, _, _, _, _, _, _, _, _, _, _, _, _, _, _, _, _, _, _, _, _, _, _, _, _, _, _, _, _, _, _, _, _, _, _, _, _, _, _, _, _, _, _, _, _, _, _, _, _, _, _, _, _, _, _, _, _, _, _, _, _, _, _, _, _, _, _, _, _, _, _, _, _, _, _, _, _, _, _, _, _, _, _, _, _, _, _, _, _, _, _, _, _]) rfl ?_
    refine XW_yes rfl rfl ?_
    refine XW_sr ?_
    refine OW_fn rfl rfl (fixedW (by kernel_rfl) ?_)
    refine OW_env (e' := [_, _, _, _, _, _, _, _, _, _, _, _, _, _, _, _, _, _, _, _, _, _, _, _, _, _, _, _, _, _, _, _, _, _, _, _, _, _, _, _, _, _, _, _, _, _, _, _, _, _, _, _, _, _, _, _, _, _, _, _, _, _, _, _, _, _, _, _, _, _, _, _, _, _, _, _, _, _, _, _, _, _, _, _, _, _, _, _, _, _, _, _, _, _, _, _, _, _, _, _, _, _, _, _, _, _, _, _, _, _, _, _, _, _, _, _, _, _, _, _, _]) rfl ?_
    refine OW_as rfl rfl ?_
    refine OW_nilE (e' := [_, _, _, _, _, _, _, _, _, _, _, _, _, _, _, _, _, _, _, _, _, _, _, _, _, _, _, _, _, _, _, _, _, _, _, _, _, _, _, _, _, _, _, _, _, _, _, _, _, _, _, _, _, _, _, _, _, _, _, _, _, _, _, _, _, _, _, _, _, _, _, _, _, _, _, _, _, _, _, _, _, _, _, _, _, _, _, _, _, _, _, _, _, _, _, _, _, _, _, _, _, _, _, _, _, _, _, _, _, _, _, _, _, _, _, _, _, _, _, _, _]) rfl ?_
    refine XW_ret ?_
    refine then_ret ?_
    exact ret_ret rfl rfl
end Go.Proofs.Ytollcfhmmlpleaa.X
