/- Layer 19: slices.DeleteFunc over letters. -/
import Derived.Test.YtollcfhmmlpleaaM3
set_option linter.unusedVariables false
set_option linter.unusedSimpArgs false
set_option maxRecDepth 100000
namespace Go.Proofs.Ytollcfhmmlpleaa.X
open Go Go.RowKit
variable {ν qm : Nm} {H : Heap} {Q : AVal → Heap → Prop} {ls : List Lt} {S : AVal} {fp : List Nm}
theorem fst_spec (p : Lt → Bool) : ∀ (ls : List Lt) (k : Int), (fst p ls k = -1 ∧ ls.filter (fun x => !p x) = ls) ∨ ∃ i, i < ls.length ∧ fst p ls k = k + i ∧ (ls.take (i + 1)).filter (fun x => !p x) = ls.take i
  | [], k => .inl ⟨rfl, rfl⟩
  | x :: r, k => by
    by_cases hp : p x = true
    · exact .inr ⟨0, by simp, by simp [fst, hp], by simp [hp]⟩
    · rcases fst_spec p r (k + 1) with ⟨h1, h2⟩ | ⟨i, h1, h2, h3⟩
      · exact .inl ⟨by rw [fst, if_neg hp, h1], by rw [List.filter_cons, if_pos (by simp [hp]), h2]⟩
      · refine .inr ⟨i + 1, by simp; omega, by rw [fst, if_neg hp, h2]; omega, ?_⟩
        rw [List.take_succ_cons, List.filter_cons, if_pos (by simp [hp]), h3, List.take_succ_cons]
theorem store_row {H : Heap} {q : Nm} {i : Nat} {ys : List AVal} {l l0 : Lt} (hq : H q = some (.row 3 ys)) (hi : ys[i]? = some l0.enc) : aStore cfg.T H 30 (.ptr q i 0) l.enc = some (H.put q (some (.row 3 (ys.set i l.enc)))) :=
  aStore_ptr T30 hq hi ⟨rfl, rfl, Nat.le_refl 3⟩
theorem delF {f : FuncId} {caps : List AVal} {bs : List Nm} {p : Lt → Bool} (hf : FnP f caps bs H p) (hbs : ∀ b ∈ bs, b ∉ fp ∧ under ν b = false) (hfp : ∀ q ∈ fp, under ν q = false) (h : Sl H 3 (ls.map Lt.enc) S fp) (hn : ls.length ≤ 4611686018427387904)
    (hq : ∀ v H', Sl H' 3 ((ls.filter fun x => !p x).map Lt.enc) v fp → (∀ p, p ∉ fp → under ν p = false → H' p = H p) → Q v H') : CW cfg ν 20 [S, .fn f caps] H Q := by
  refine CW_keep g20 F20 rfl ?_
  refine XW_sr ?_
  refine OW_as rfl rfl ?_
  refine OW_nilE (e' := [_, _, _, _, _, _, _, _, _, _, _, _, _, _, _, _, _, _, _, _, _, _, _, _, _, _, _, _, _, _, _, _, _, _, _, _, _, _, _, _, _, _]) rfl ?_
  refine XW_sr ?_
  refine OW_mv rfl rfl ?_
  refine OW_mv rfl rfl ?_
  refine OW_fn rfl rfl (idx hf (fun b hb => by have := (hbs b hb).2; repeat (first | exact this | apply under_dn)) h hn ?_)
  refine OW_env (e' := [_, _, _, _, _, _, _, _, _, _, _, _, _, _, _, _, _, _, _, _, _, _, _, _, _, _, _, _, _, _, _, _, _, _, _, _, _, _, _, _, _, _]) rfl ?_
  refine OW_as rfl rfl ?_
  refine OW_nilE (e' := [_, _, _, _, _, _, _, _, _, _, _, _, _, _, _, _, _, _, _, _, _, _, _, _, _, _, _, _, _, _, _, _, _, _, _, _, _, _, _, _, _, _]) rfl ?_
  refine XW_seq ?_
  refine XW_sr ?_
  refine OW_mv rfl rfl ?_
  first
    | refine OW_bin rfl rfl rfl rfl (eq_yes (by omega)) ?_
    | refine OW_bin rfl rfl rfl rfl (eq_no (by omega)) ?_
    | refine OW_bin rfl rfl rfl rfl rfl ?_
  refine OW_nilE (e' := [_, _, _, _, _, _, _, _, _, _, _, _, _, _, _, _, _, _, _, _, _, _, _, _, _, _, _, _, _, _, _, _, _, _, _, _, _, _, _, _, _, _]) rfl ?_
  refine XW_if rfl (fun ht => ?_) (fun ht => ?_)
  · refine XW_sr ?_
    refine OW_mv rfl rfl ?_
    refine OW_as rfl rfl ?_
    refine OW_nilE (e' := [_, _, _, _, _, _, _, _, _, _, _, _, _, _, _, _, _, _, _, _, _, _, _, _, _, _, _, _, _, _, _, _, _, _, _, _, _, _, _, _, _, _]) rfl ?_
    refine XW_ret ?_
    refine then_ret ?_
    refine ret_ret rfl (hq _ _ ?_ (fun _ _ _ => rfl))
    have ht : fst p ls 0 = -1 := by simpa using ht
    rcases fst_spec p ls 0 with ⟨_, h2⟩ | ⟨i, _, h2, _⟩
    · rw [h2]; exact h
    · omega
  · have ht : fst p ls 0 ≠ -1 := by simpa using ht
    obtain ⟨i0, hi0, he0, hfi⟩ : ∃ i, i < ls.length ∧ fst p ls 0 = i ∧ (ls.take (i + 1)).filter (fun x => !p x) = ls.take i := by
      rcases fst_spec p ls 0 with ⟨h2, _⟩ | ⟨i, h1, h2, h3⟩
      · exact absurd h2 ht
      · exact ⟨i, h1, by omega, h3⟩
    rw [he0]
    obtain ⟨q, ys, rfl, rfl, hqr, _, _, htk⟩ := h.at (i := i0) (x := ls[i0].enc) (by simp [hi0])
    rw [List.length_map] at htk ⊢
    have hqν := hfp q (by simp)
    have hys : ls.length ≤ ys.length := by
      have := congrArg List.length htk
      simp only [List.length_take, List.length_map] at this; omega
    refine XW_skip ?_
    refine then_norm ?_
    refine XW_seq ?_
    refine XW_sr ?_
    refine OW_mv rfl rfl ?_
    first
      | refine OW_bin rfl rfl rfl rfl (add64 (by omega)) ?_
      | refine OW_bin rfl rfl rfl rfl (addu64 (by omega)) ?_
      | refine OW_bin rfl rfl rfl rfl rfl ?_
    refine OW_as rfl rfl ?_
    refine OW_nilE (e' := [_, _, _, _, _, _, _, _, _, _, _, _, _, _, _, _, _, _, _, _, _, _, _, _, _, _, _, _, _, _, _, _, _, _, _, _, _, _, _, _, _, _]) rfl ?_
    refine XW_block ?_
    refine XW_whileN (I := fun ν' n e H' => ∃ (i j : Nat) (zs : List AVal) (ks : List Lt), n = ls.length - j ∧ i < j ∧ j ≤ ls.length ∧ (∀ p, under ν p = false → under ν' p = false) ∧ H' q = some (.row 3 zs) ∧ zs.length = ys.length ∧ zs.take ls.length = ks.map Lt.enc ∧ ks.length = ls.length ∧
      ks.take i = (ls.take j).filter (fun x => !p x) ∧ ks.drop j = ls.drop j ∧ (∀ p, p ≠ q → under ν p = false → H' p = H p) ∧ ∃ g : Nat → AVal, e = [.slc q 3 0 ls.length, .fn f caps, g 2, g 3, g 4, .int .i64 i, .int .i64 j, g 7, g 8, g 9, g 10, g 11, g 12, g 13, g 14, g 15, g 16, g 17, g 18, g 19, g 20, g 21, g 22, g 23, g 24, g 25, g 26, g 27, g 28, g 29, g 30, g 31, g 32, g 33, g 34, g 35, g 36, g 37, g 38, g 39, g 40, g 41]) ?_ _ _ _ _ ⟨i0, i0 + 1, ys, ls, rfl, by omega, by omega, fun p hp => by repeat (first | exact hp | apply under_dn), hqr, rfl, htk, rfl, hfi.symm, rfl, fun _ _ _ => rfl, env_g rfl⟩
    rintro ν' n e H' ⟨i, j, zs, ks, rfl, hij, hjn, hsub, hqz, hzl, hzk, hkl, hki, hkj, hfr, g, rfl⟩
    refine XW_seq ?_
    refine XW_sr ?_
    refine OW_mv rfl rfl ?_
    refine OW_mv rfl rfl ?_
    refine OW_bi rfl rfl (aLen rfl rfl) ?_
    refine OW_env (e' := [_, _, _, _, _, _, _, _, _, _, _, _, _, _, _, _, _, _, _, _, _, _, _, _, _, _, _, _, _, _, _, _, _, _, _, _, _, _, _, _, _, _]) rfl ?_
    first
      | refine OW_bin rfl rfl rfl rfl (lss_yes (by omega)) ?_
      | refine OW_bin rfl rfl rfl rfl (lss_no (by omega)) ?_
      | refine OW_bin rfl rfl rfl rfl rfl ?_
    refine OW_nilE (e' := [_, _, _, _, _, _, _, _, _, _, _, _, _, _, _, _, _, _, _, _, _, _, _, _, _, _, _, _, _, _, _, _, _, _, _, _, _, _, _, _, _, _]) rfl ?_
    refine XW_if rfl (fun ht => ?_) (fun ht => ?_)
    · have hlt : j < ls.length := by simpa using ht
      have hkj2 : ks[j]? = some ls[j] := by
        have := congrArg (fun l => l[0]?) hkj
        simp only [List.getElem?_drop, Nat.add_zero] at this
        rw [this]; simp [hlt]
      have hzj : zs[j]? = some ls[j].enc := by
        have := congrArg (fun l => l[j]?) hzk
        simp only [List.getElem?_take, if_pos hlt, List.getElem?_map, hkj2, Option.map_some] at this
        exact this
      obtain ⟨l0, hl0⟩ : ∃ l0 : Lt, zs[i]? = some l0.enc := by
        have := congrArg (fun l => l[i]?) hzk
        simp only [List.getElem?_take, if_pos (show i < ls.length by omega), List.getElem?_map] at this
        have hk : i < ks.length := by omega
        rw [List.getElem?_eq_getElem hk, Option.map_some] at this
        exact ⟨_, this⟩
      refine XW_skip ?_
      refine then_norm ?_
      refine XW_seq ?_
      refine XW_block ?_
      refine XW_sr ?_
      refine OW_mv rfl rfl ?_
      refine OW_mv rfl rfl ?_
      refine OW_ia rfl rfl rfl (ia_slc0 T22 rfl T30 rfl hlt) ?_
      refine OW_load rfl rfl (load_row T30 rfl hqz hzj rfl) ?_
      refine OW_alloc rfl rfl ?_
      refine OW_store rfl rfl rfl (aStore_ptr T30 put_same rfl ⟨rfl, rfl, by decide⟩) ?_
      refine OW_nilE (e' := [_, _, _, _, _, _, _, _, _, _, _, _, _, _, _, _, _, _, _, _, _, _, _, _, _, _, _, _, _, _, _, _, _, _, _, _, _, _, _, _, _, _]) rfl ?_
      have hqa : ∀ {l : Nm}, under ν' l = true → q ≠ l := fun hl => far (hsub q hqν) hl
      refine XW_sr ?_
      refine OW_mv rfl rfl ?_
      refine OW_load rfl rfl (aLoad_ptr T30 put_same rfl rfl) ?_
      refine OW_fv rfl rfl rfl (hf _ ls[j] _ _ ?_ ?_)
      · intro b hb
        have hb2 := hsub b (hbs b hb).2
        have hne : b ≠ 4 :: 0 :: 0 :: 1 :: 0 :: ν' := far hb2 (under_in (under_in (under_in (under_in (under_in under_me)))))
        rw [put_ne hne, put_ne hne]
        exact ⟨hfr b (fun e => (hbs b hb).1 (by simp [e])) (hbs b hb).2, by repeat (first | exact hb2 | apply under_dn)⟩
      refine OW_env (e' := [_, _, _, _, _, _, _, _, _, _, _, _, _, _, _, _, _, _, _, _, _, _, _, _, _, _, _, _, _, _, _, _, _, _, _, _, _, _, _, _, _, _]) rfl ?_
      refine OW_un rfl rfl rfl ?_
      refine OW_nilE (e' := [_, _, _, _, _, _, _, _, _, _, _, _, _, _, _, _, _, _, _, _, _, _, _, _, _, _, _, _, _, _, _, _, _, _, _, _, _, _, _, _, _, _]) rfl ?_
      have hfl : (ls.take (j + 1)).filter (fun x => !p x) = (ls.take j).filter (fun x => !p x) ++ (if p ls[j] then [] else [ls[j]]) := by
        rw [List.take_succ_eq_append_getElem hlt, List.filter_append]
        congr 1
        by_cases hp : p ls[j] = true <;> simp [hp]
      refine XW_if rfl (fun hp => ?_) (fun hp => ?_)
      · have hp : p ls[j] = false := by simpa using hp
        refine XW_sr ?_
        refine OW_mv rfl rfl ?_
        refine OW_mv rfl rfl ?_
        refine OW_load rfl rfl (aLoad_ptr T30 put_same rfl rfl) ?_
        refine OW_ia rfl rfl rfl (ia_slc0 T22 rfl T30 rfl (show i < ls.length by omega)) ?_
        refine OW_store rfl rfl rfl (store_row (l := ls[j]) (l0 := l0) (by rw [put_ne (hqa (by repeat (first | exact under_me | apply under_in))), put_ne (hqa (by repeat (first | exact under_me | apply under_in)))]; exact hqz) hl0) ?_
        refine OW_nilE (e' := [_, _, _, _, _, _, _, _, _, _, _, _, _, _, _, _, _, _, _, _, _, _, _, _, _, _, _, _, _, _, _, _, _, _, _, _, _, _, _, _, _, _]) rfl ?_
        refine XW_region ?_
        refine OW_mv rfl rfl ?_
        first
          | refine OW_bin rfl rfl rfl rfl (add64 (by omega)) ?_
          | refine OW_bin rfl rfl rfl rfl (addu64 (by omega)) ?_
          | refine OW_bin rfl rfl rfl rfl rfl ?_
        refine OW_as rfl rfl ?_
        refine OW_nilE (e' := [_, _, _, _, _, _, _, _, _, _, _, _, _, _, _, _, _, _, _, _, _, _, _, _, _, _, _, _, _, _, _, _, _, _, _, _, _, _, _, _, _, _]) rfl ?_
        refine block_norm ?_
        refine then_norm ?_
        refine XW_region ?_
        refine OW_mv rfl rfl ?_
        first
          | refine OW_bin rfl rfl rfl rfl (add64 (by omega)) ?_
          | refine OW_bin rfl rfl rfl rfl (addu64 (by omega)) ?_
          | refine OW_bin rfl rfl rfl rfl rfl ?_
        refine OW_as rfl rfl ?_
        refine OW_nilE (e' := [_, _, _, _, _, _, _, _, _, _, _, _, _, _, _, _, _, _, _, _, _, _, _, _, _, _, _, _, _, _, _, _, _, _, _, _, _, _, _, _, _, _]) rfl ?_
        have hil : i < ks.length := by omega
        have hki2 : (ks.set i ls[j]).take (i + 1) = (ls.take (j + 1)).filter (fun x => !p x) := by
          rw [hfl, ← hki, if_neg (by simp [hp]), List.take_set, List.take_succ_eq_append_getElem hil, List.set_append_right _ _ (by rw [List.length_take]; omega), List.length_take, Nat.min_eq_left (by omega), Nat.sub_self, List.set_cons_zero]
        refine ⟨ls.length - (j + 1), by omega, i + 1, j + 1, zs.set i ls[j].enc, ks.set i ls[j], rfl, by omega, by omega, fun p hp => under_dn (hsub p hp), put_same, by simpa using hzl, ?_, by simpa using hkl, hki2, ?_, ?_, env_g rfl⟩
        · rw [List.take_set, hzk, List.map_set]
        · rw [List.drop_set_of_lt (by omega), ← List.drop_drop, hkj, List.drop_drop]
        · intro p' hp1 hp2
          have hpa : ∀ {l : Nm}, under ν' l = true → p' ≠ l := fun hl => far (hsub p' hp2) hl
          rw [put_ne hp1, put_ne (hpa (by repeat (first | exact under_me | apply under_in))), put_ne (hpa (by repeat (first | exact under_me | apply under_in)))]
          exact hfr p' hp1 hp2
      · have hp : p ls[j] = true := by simpa using hp
        refine XW_skip ?_
        refine block_norm ?_
        refine then_norm ?_
        refine XW_region ?_
        refine OW_mv rfl rfl ?_
        first
          | refine OW_bin rfl rfl rfl rfl (add64 (by omega)) ?_
          | refine OW_bin rfl rfl rfl rfl (addu64 (by omega)) ?_
          | refine OW_bin rfl rfl rfl rfl rfl ?_
        refine OW_as rfl rfl ?_
        refine OW_nilE (e' := [_, _, _, _, _, _, _, _, _, _, _, _, _, _, _, _, _, _, _, _, _, _, _, _, _, _, _, _, _, _, _, _, _, _, _, _, _, _, _, _, _, _]) rfl ?_
        refine ⟨ls.length - (j + 1), by omega, i, j + 1, zs, ks, rfl, by omega, by omega, fun p hp => under_dn (hsub p hp), ?_, hzl, hzk, hkl, ?_, ?_, ?_, env_g rfl⟩
        · rw [put_ne (hqa (by repeat (first | exact under_me | apply under_in))), put_ne (hqa (by repeat (first | exact under_me | apply under_in)))]; exact hqz
        · rw [hki, hfl, if_pos hp, List.append_nil]
        · rw [← List.drop_drop, hkj, List.drop_drop]
        · intro p' hp1 hp2
          have hpa : ∀ {l : Nm}, under ν' l = true → p' ≠ l := fun hl => far (hsub p' hp2) hl
          rw [put_ne (hpa (by repeat (first | exact under_me | apply under_in))), put_ne (hpa (by repeat (first | exact under_me | apply under_in)))]
          exact hfr p' hp1 hp2
    · have hge : ls.length ≤ j := by simpa using ht
      obtain rfl : j = ls.length := by omega
      refine XW_exit ?_
      refine then_exit ?_
      refine block_exit ?_
      refine then_norm ?_
      refine XW_sr ?_
      refine OW_mv rfl rfl ?_
      refine OW_mv rfl rfl ?_
      refine OW_sl rfl rfl rfl rfl rfl (slc_lo (i := i) T22 rfl T30 rfl (by omega)) ?_
      refine OW_bi rfl rfl (clear_slc T22 rfl T30 rfl hqz (by omega) rfl) ?_
      refine OW_nilE (e' := [_, _, _, _, _, _, _, _, _, _, _, _, _, _, _, _, _, _, _, _, _, _, _, _, _, _, _, _, _, _, _, _, _, _, _, _, _, _, _, _, _, _]) rfl ?_
      refine XW_sr ?_
      refine OW_mv rfl rfl ?_
      refine OW_mv rfl rfl ?_
      refine OW_sl rfl rfl rfl rfl rfl (slc_hi (i := i) T22 rfl T30 rfl (by omega)) ?_
      refine OW_env (e' := [_, _, _, _, _, _, _, _, _, _, _, _, _, _, _, _, _, _, _, _, _, _, _, _, _, _, _, _, _, _, _, _, _, _, _, _, _, _, _, _, _, _]) rfl ?_
      refine OW_as rfl rfl ?_
      refine OW_nilE (e' := [_, _, _, _, _, _, _, _, _, _, _, _, _, _, _, _, _, _, _, _, _, _, _, _, _, _, _, _, _, _, _, _, _, _, _, _, _, _, _, _, _, _]) rfl ?_
      refine XW_ret ?_
      rw [List.take_length] at hki
      refine ret_ret rfl (hq _ _ ?_ ?_)
      · have hzi : zs.take i = (ls.filter fun x => !p x).map Lt.enc := by
          rw [← hki, List.map_take, ← hzk, List.take_take]; congr 1; omega
        refine .row put_same ?_ ?_
        · rw [List.length_map, ← hki, List.length_take]; omega
        · rw [Nat.zero_add, List.append_assoc, List.take_append_of_le_length (by simp; omega), List.take_take, Nat.min_self]; exact hzi
      · intro p hp hp2
        have hp' : p ≠ q := by simpa using hp
        rw [put_ne hp']; exact hfr p hp' hp2
end Go.Proofs.Ytollcfhmmlpleaa.X
