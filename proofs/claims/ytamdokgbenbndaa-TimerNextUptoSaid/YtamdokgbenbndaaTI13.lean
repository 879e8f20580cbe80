/- Layer 20: Drop; the document's answer. -/
import Derived.Test.YtamdokgbenbndaaTI12
set_option linter.unusedVariables false
set_option linter.unusedSimpArgs false
set_option maxRecDepth 100000
namespace Go.Proofs.Ytamdokgbenbndaa.X
open Go Go.RowKit
variable {ν β ps pos' : Nm} {H : Heap} {Q : AVal → Heap → Prop} {L : List Asr} {k : Nat} {q : Nm} {h : List It} {B : List It} {n : Int}
/-- A function's value that tests elements; bs: the boxes that it looks at. -/
def It.FnP (f : FuncId) (caps : List AVal) (bs : List Nm) (H0 : Heap) (p : It → Bool) : Prop :=
  ∀ ν x H Q, (∀ b ∈ bs, H b = H0 b ∧ under ν b = false) → Q (.bool (p x)) H → CW cfg ν f (x.enc :: caps) H Q
theorem It.idx {ν : Nm} {H : Heap} {Q : AVal → Heap → Prop} {ls : List It} {S : AVal} {f : FuncId} {caps : List AVal} {bs : List Nm} {p : It → Bool} (hf : It.FnP f caps bs H p) (hbs : ∀ b ∈ bs, under ν b = false) (h : Rd H 3 (ls.map It.enc) S) (hn : ls.length ≤ 4611686018427387904) (hq : Q (.int .i64 (firstI p ls 0)) H) : CW cfg ν 25 [S, .fn f caps] H Q := by
  have h2 : lenOf H S = some ls.length := by rw [h.len, List.length_map]
  have h3 : lenKind cfg.T [47] S = true := h.kind T47 rfl
  refine CW_fullS g25 F25 rfl ?_
  refine XW_sr ?_
  refine OW_as rfl rfl ?_
  refine OW_nilE (e' := [_, _, _, _, _, _, _, _, _, _, _, _, _, _, _, _, _, _, _]) rfl ?_
  refine XW_seq ?_
  refine XW_sr ?_
  refine OW_mv rfl rfl ?_
  refine OW_bi rfl rfl (aLen h3 h2) ?_
  refine OW_env (e' := [_, _, _, _, _, _, _, _, _, _, _, _, _, _, _, _, _, _, _]) rfl ?_
  refine OW_mv rfl rfl ?_
  refine OW_nilE (e' := [_, _, _, _, _, _, _, _, _, _, _, _, _, _, _, _, _, _, _]) rfl ?_
  refine XW_block ?_
  refine XW_whileN (I := fun ν' n e H' => H' = H ∧ (∀ p, under ν p = false → under ν' p = false) ∧ ∃ (i : Nat), n = ls.length - i ∧ i ≤ ls.length ∧ firstI p ls 0 = firstI p (ls.drop i) i ∧ ∃ g : Nat → AVal, e = [S, .fn f caps, g 2, g 3, .int .i64 0, g 5, g 6, .int .i64 ls.length, .int .i64 i, g 9, g 10, g 11, g 12, g 13, g 14, g 15, g 16, g 17, g 18]) ?_ _ _ _ _ ⟨rfl, fun p hp => by repeat (first | exact hp | apply under_dn), 0, rfl, by omega, rfl, env_g rfl⟩
  rintro ν' n e H' ⟨rfl, hsub, i, rfl, hi, hfs, g, rfl⟩
  refine XW_sr ?_
  first
    | refine OW_bin rfl rfl rfl rfl (lss_yes (by omega)) ?_
    | refine OW_bin rfl rfl rfl rfl (lss_no (by omega)) ?_
    | refine OW_bin rfl rfl rfl rfl rfl ?_
  refine OW_nilE (e' := [_, _, _, _, _, _, _, _, _, _, _, _, _, _, _, _, _, _, _]) rfl ?_
  refine XW_seq ?_
  refine XW_if rfl (fun ht => ?_) (fun ht => ?_)
  · have hlt : i < ls.length := by simpa using ht
    have hxi : (ls.map It.enc)[i]? = some (ls[i].enc) := by simp [hlt]
    obtain ⟨P, k1, k2⟩ := h.at (kk := .i64) T47 rfl T53 rfl hxi rfl rfl
    refine XW_skip ?_
    refine then_norm ?_
    refine XW_seq ?_
    refine XW_block ?_
    refine XW_sr ?_
    refine OW_mv rfl rfl ?_
    refine OW_as rfl rfl ?_
    refine OW_nilE (e' := [_, _, _, _, _, _, _, _, _, _, _, _, _, _, _, _, _, _, _]) rfl ?_
    refine XW_sr ?_
    refine OW_mv rfl rfl ?_
    refine OW_mv rfl rfl ?_
    refine OW_mv rfl rfl ?_
    refine OW_ia rfl rfl rfl k1 ?_
    refine OW_load rfl rfl k2 ?_
    refine OW_fv rfl rfl rfl (hf _ ls[i] _ _ (fun b hb => ⟨rfl, by have := hsub b (hbs b hb); repeat (first | exact this | apply under_dn)⟩) ?_)
    refine OW_nilE (e' := [_, _, _, _, _, _, _, _, _, _, _, _, _, _, _, _, _, _, _]) rfl ?_
    refine XW_if rfl (fun hp => ?_) (fun hp => ?_)
    · refine XW_sr ?_
      refine OW_mv rfl rfl ?_
      refine OW_as rfl rfl ?_
      refine OW_nilE (e' := [_, _, _, _, _, _, _, _, _, _, _, _, _, _, _, _, _, _, _]) rfl ?_
      refine XW_ret ?_
      refine block_ret ?_
      refine then_ret ?_
      refine block_ret ?_
      refine then_ret ?_
      refine ret_ret rfl ⟨fun _ _ => rfl, ?_⟩
      rw [List.drop_eq_getElem_cons hlt, firstI, if_pos hp] at hfs
      rw [hfs] at hq; exact hq
    · refine XW_skip ?_
      refine block_norm ?_
      refine then_norm ?_
      refine XW_region ?_
      first
        | refine OW_bin rfl rfl rfl rfl (add64 (by omega)) ?_
        | refine OW_bin rfl rfl rfl rfl (addu64 (by omega)) ?_
        | refine OW_bin rfl rfl rfl rfl rfl ?_
      refine OW_mv rfl rfl ?_
      refine OW_nilE (e' := [_, _, _, _, _, _, _, _, _, _, _, _, _, _, _, _, _, _, _]) rfl ?_
      refine ⟨ls.length - (i + 1), by omega, rfl, fun p hp => under_dn (hsub p hp), i + 1, rfl, by omega, ?_, env_g rfl⟩
      rw [List.drop_eq_getElem_cons hlt, firstI, if_neg (by simp [hp])] at hfs
      exact hfs
  · have hge : ls.length ≤ i := by simpa using ht
    refine XW_exit ?_
    refine then_exit ?_
    refine block_exit ?_
    refine then_norm ?_
    refine XW_sr ?_
    refine OW_as rfl rfl ?_
    refine OW_nilE (e' := [_, _, _, _, _, _, _, _, _, _, _, _, _, _, _, _, _, _, _]) rfl ?_
    refine XW_ret ?_
    refine ret_ret rfl ⟨fun _ _ => rfl, ?_⟩
    rw [List.drop_eq_nil_of_le hge, firstI] at hfs
    rw [hfs] at hq; exact hq
theorem It.store {H : Heap} {q : Nm} {i : Nat} {ys : List AVal} {l l0 : It} (hq : H q = some (.row 3 ys)) (hi : ys[i]? = some l0.enc) : aStore cfg.T H 53 (.ptr q i 0) l.enc = some (H.put q (some (.row 3 (ys.set i l.enc)))) :=
  aStore_ptr T53 hq hi ⟨rfl, rfl, Nat.le_refl 3⟩
theorem It.delF {ν : Nm} {H : Heap} {Q : AVal → Heap → Prop} {ls : List It} {S : AVal} {fp : List Nm} {f : FuncId} {caps : List AVal} {bs : List Nm} {p : It → Bool} (hf : It.FnP f caps bs H p) (hbs : ∀ b ∈ bs, b ∉ fp ∧ under ν b = false) (hfp : ∀ q ∈ fp, under ν q = false) (h : Sl H 3 (ls.map It.enc) S fp) (hn : ls.length ≤ 4611686018427387904)
    (hq : ∀ v H', Sl H' 3 ((ls.filter fun x => !p x).map It.enc) v fp → (∀ p, p ∉ fp → under ν p = false → H' p = H p) → Q v H') : CW cfg ν 20 [S, .fn f caps] H Q := by
  refine CW_keep g20 F20 rfl ?_
  refine XW_sr ?_
  refine OW_as rfl rfl ?_
  refine OW_nilE (e' := [_, _, _, _, _, _, _, _, _, _, _, _, _, _, _, _, _, _, _, _, _, _, _, _, _, _, _, _, _, _, _, _, _, _, _, _, _, _, _, _, _, _]) rfl ?_
  refine XW_sr ?_
  refine OW_mv rfl rfl ?_
  refine OW_mv rfl rfl ?_
  refine OW_fn rfl rfl (It.idx hf (fun b hb => by have := (hbs b hb).2; repeat (first | exact this | apply under_dn)) (.own h) hn ?_)
  refine OW_env (e' := [_, _, _, _, _, _, _, _, _, _, _, _, _, _, _, _, _, _, _, _, _, _, _, _, _, _, _, _, _, _, _, _, _, _, _, _, _, _, _, _, _, _]) rfl ?_
  refine OW_as rfl rfl ?_
  refine OW_nilE (e' := [_, _, _, _, _, _, _, _, _, _, _, _, _, _, _, _, _, _, _, _, _, _, _, _, _, _, _, _, _, _, _, _, _, _, _, _, _, _, _, _, _, _]) rfl ?_
  refine XW_seq ?_
  refine XW_sr ?_
  refine OW_mv rfl rfl ?_
  first
    | refine OW_bin rfl rfl rfl rfl (eq_yes (by omega)) ?_
    | refine OW_bin rfl rfl rfl rfl (eq_no (by omega)) ?_
    | refine OW_bin rfl rfl rfl rfl rfl ?_
  refine OW_nilE (e' := [_, _, _, _, _, _, _, _, _, _, _, _, _, _, _, _, _, _, _, _, _, _, _, _, _, _, _, _, _, _, _, _, _, _, _, _, _, _, _, _, _, _]) rfl ?_
  refine XW_if rfl (fun ht => ?_) (fun ht => ?_)
  · refine XW_sr ?_
    refine OW_mv rfl rfl ?_
    refine OW_as rfl rfl ?_
    refine OW_nilE (e' := [_, _, _, _, _, _, _, _, _, _, _, _, _, _, _, _, _, _, _, _, _, _, _, _, _, _, _, _, _, _, _, _, _, _, _, _, _, _, _, _, _, _]) rfl ?_
    refine XW_ret ?_
    refine then_ret ?_
    refine ret_ret rfl (hq _ _ ?_ (fun _ _ _ => rfl))
    have ht : firstI p ls 0 = -1 := by simpa using ht
    rcases firstI_spec p ls 0 with ⟨_, h2⟩ | ⟨i, _, h2, _⟩
    · rw [h2]; exact h
    · omega
  · have ht : firstI p ls 0 ≠ -1 := by simpa using ht
    obtain ⟨i0, hi0, he0, hfi⟩ : ∃ i, i < ls.length ∧ firstI p ls 0 = i ∧ (ls.take (i + 1)).filter (fun x => !p x) = ls.take i := by
      rcases firstI_spec p ls 0 with ⟨h2, _⟩ | ⟨i, h1, h2, h3⟩
      · exact absurd h2 ht
      · exact ⟨i, h1, by omega, h3⟩
    rw [he0]
    obtain ⟨q, ys, rfl, rfl, hqr, _, _, htk⟩ := h.at' (i := i0) (x := ls[i0].enc) (by simp [hi0])
    rw [List.length_map] at htk ⊢
    have hqν := hfp q (by simp)
    have hys : ls.length ≤ ys.length := by
      have := congrArg List.length htk
      simp only [List.length_take, List.length_map] at this; omega
    refine XW_skip ?_
    refine then_norm ?_
    refine XW_seq ?_
    refine XW_sr ?_
    refine OW_mv rfl rfl ?_
    first
      | refine OW_bin rfl rfl rfl rfl (add64 (by omega)) ?_
      | refine OW_bin rfl rfl rfl rfl (addu64 (by omega)) ?_
      | refine OW_bin rfl rfl rfl rfl rfl ?_
    refine OW_as rfl rfl ?_
    refine OW_nilE (e' := [_, _, _, _, _, _, _, _, _, _, _, _, _, _, _, _, _, _, _, _, _, _, _, _, _, _, _, _, _, _, _, _, _, _, _, _, _, _, _, _, _, _]) rfl ?_
    refine XW_block ?_
    refine XW_whileN (I := fun ν' n e H' => ∃ (i j : Nat) (zs : List AVal) (ks : List It), n = ls.length - j ∧ i < j ∧ j ≤ ls.length ∧ (∀ p, under ν p = false → under ν' p = false) ∧ H' q = some (.row 3 zs) ∧ zs.length = ys.length ∧ zs.take ls.length = ks.map It.enc ∧ ks.length = ls.length ∧
      ks.take i = (ls.take j).filter (fun x => !p x) ∧ ks.drop j = ls.drop j ∧ (∀ p, p ≠ q → under ν p = false → H' p = H p) ∧ ∃ g : Nat → AVal, e = [.slc q 3 0 ls.length, .fn f caps, g 2, g 3, g 4, .int .i64 i, .int .i64 j, g 7, g 8, g 9, g 10, g 11, g 12, g 13, g 14, g 15, g 16, g 17, g 18, g 19, g 20, g 21, g 22, g 23, g 24, g 25, g 26, g 27, g 28, g 29, g 30, g 31, g 32, g 33, g 34, g 35, g 36, g 37, g 38, g 39, g 40, g 41]) ?_ _ _ _ _ ⟨i0, i0 + 1, ys, ls, rfl, by omega, by omega, fun p hp => by repeat (first | exact hp | apply under_dn), hqr, rfl, htk, rfl, hfi.symm, rfl, fun _ _ _ => rfl, env_g rfl⟩
    rintro ν' n e H' ⟨i, j, zs, ks, rfl, hij, hjn, hsub, hqz, hzl, hzk, hkl, hki, hkj, hfr, g, rfl⟩
    refine XW_seq ?_
    refine XW_sr ?_
    refine OW_mv rfl rfl ?_
    refine OW_mv rfl rfl ?_
    refine OW_bi rfl rfl (aLen rfl rfl) ?_
    refine OW_env (e' := [_, _, _, _, _, _, _, _, _, _, _, _, _, _, _, _, _, _, _, _, _, _, _, _, _, _, _, _, _, _, _, _, _, _, _, _, _, _, _, _, _, _]) rfl ?_
    first
      | refine OW_bin rfl rfl rfl rfl (lss_yes (by omega)) ?_
      | refine OW_bin rfl rfl rfl rfl (lss_no (by omega)) ?_
      | refine OW_bin rfl rfl rfl rfl rfl ?_
    refine OW_nilE (e' := [_, _, _, _, _, _, _, _, _, _, _, _, _, _, _, _, _, _, _, _, _, _, _, _, _, _, _, _, _, _, _, _, _, _, _, _, _, _, _, _, _, _]) rfl ?_
    refine XW_if rfl (fun ht => ?_) (fun ht => ?_)
    · have hlt : j < ls.length := by simpa using ht
      have hkj2 : ks[j]? = some ls[j] := by
        have := congrArg (fun l => l[0]?) hkj
        simp only [List.getElem?_drop, Nat.add_zero] at this
        rw [this]; simp [hlt]
      have hzj : zs[j]? = some ls[j].enc := by
        have := congrArg (fun l => l[j]?) hzk
        simp only [List.getElem?_take, if_pos hlt, List.getElem?_map, hkj2, Option.map_some] at this
        exact this
      obtain ⟨l0, hl0⟩ : ∃ l0 : It, zs[i]? = some l0.enc := by
        have := congrArg (fun l => l[i]?) hzk
        simp only [List.getElem?_take, if_pos (show i < ls.length by omega), List.getElem?_map] at this
        have hk : i < ks.length := by omega
        rw [List.getElem?_eq_getElem hk, Option.map_some] at this
        exact ⟨_, this⟩
      refine XW_skip ?_
      refine then_norm ?_
      refine XW_seq ?_
      refine XW_block ?_
      refine XW_sr ?_
      refine OW_mv rfl rfl ?_
      refine OW_mv rfl rfl ?_
      refine OW_ia rfl rfl rfl (ia_slc0 T47 rfl T53 rfl hlt) ?_
      refine OW_load rfl rfl (aLoad_ptr T53 hqz hzj rfl) ?_
      refine OW_alloc rfl rfl ?_
      refine OW_store rfl rfl rfl (aStore_ptr T53 put_same rfl ⟨rfl, rfl, by decide⟩) ?_
      refine OW_nilE (e' := [_, _, _, _, _, _, _, _, _, _, _, _, _, _, _, _, _, _, _, _, _, _, _, _, _, _, _, _, _, _, _, _, _, _, _, _, _, _, _, _, _, _]) rfl ?_
      have hqa : ∀ {l : Nm}, under ν' l = true → q ≠ l := fun hl => far (hsub q hqν) hl
      refine XW_sr ?_
      refine OW_mv rfl rfl ?_
      refine OW_load rfl rfl (aLoad_ptr T53 put_same rfl rfl) ?_
      refine OW_fv rfl rfl rfl (hf _ ls[j] _ _ ?_ ?_)
      · intro b hb
        have hb2 := hsub b (hbs b hb).2
        have hne : b ≠ 4 :: 0 :: 0 :: 1 :: 0 :: ν' := far hb2 (under_in (under_in (under_in (under_in (under_in under_me)))))
        rw [put_ne hne, put_ne hne]
        exact ⟨hfr b (fun e => (hbs b hb).1 (by simp [e])) (hbs b hb).2, by repeat (first | exact hb2 | apply under_dn)⟩
      refine OW_env (e' := [_, _, _, _, _, _, _, _, _, _, _, _, _, _, _, _, _, _, _, _, _, _, _, _, _, _, _, _, _, _, _, _, _, _, _, _, _, _, _, _, _, _]) rfl ?_
      refine OW_un rfl rfl rfl ?_
      refine OW_nilE (e' := [_, _, _, _, _, _, _, _, _, _, _, _, _, _, _, _, _, _, _, _, _, _, _, _, _, _, _, _, _, _, _, _, _, _, _, _, _, _, _, _, _, _]) rfl ?_
      have hfl : (ls.take (j + 1)).filter (fun x => !p x) = (ls.take j).filter (fun x => !p x) ++ (if p ls[j] then [] else [ls[j]]) := by
        rw [List.take_succ_eq_append_getElem hlt, List.filter_append]
        congr 1
        by_cases hp : p ls[j] = true <;> simp [hp]
      refine XW_if rfl (fun hp => ?_) (fun hp => ?_)
      · have hp : p ls[j] = false := by simpa using hp
        refine XW_sr ?_
        refine OW_mv rfl rfl ?_
        refine OW_mv rfl rfl ?_
        refine OW_load rfl rfl (aLoad_ptr T53 put_same rfl rfl) ?_
        refine OW_ia rfl rfl rfl (ia_slc0 T47 rfl T53 rfl (show i < ls.length by omega)) ?_
        refine OW_store rfl rfl rfl (It.store (l := ls[j]) (l0 := l0) (by rw [put_ne (hqa (by repeat (first | exact under_me | apply under_in))), put_ne (hqa (by repeat (first | exact under_me | apply under_in)))]; exact hqz) hl0) ?_
        refine OW_nilE (e' := [_, _, _, _, _, _, _, _, _, _, _, _, _, _, _, _, _, _, _, _, _, _, _, _, _, _, _, _, _, _, _, _, _, _, _, _, _, _, _, _, _, _]) rfl ?_
        refine XW_region ?_
        refine OW_mv rfl rfl ?_
        first
          | refine OW_bin rfl rfl rfl rfl (add64 (by omega)) ?_
          | refine OW_bin rfl rfl rfl rfl (addu64 (by omega)) ?_
          | refine OW_bin rfl rfl rfl rfl rfl ?_
        refine OW_as rfl rfl ?_
        refine OW_nilE (e' := [_, _, _, _, _, _, _, _, _, _, _, _, _, _, _, _, _, _, _, _, _, _, _, _, _, _, _, _, _, _, _, _, _, _, _, _, _, _, _, _, _, _]) rfl ?_
        refine block_norm ?_
        refine then_norm ?_
        refine XW_region ?_
        refine OW_mv rfl rfl ?_
        first
          | refine OW_bin rfl rfl rfl rfl (add64 (by omega)) ?_
          | refine OW_bin rfl rfl rfl rfl (addu64 (by omega)) ?_
          | refine OW_bin rfl rfl rfl rfl rfl ?_
        refine OW_as rfl rfl ?_
        refine OW_nilE (e' := [_, _, _, _, _, _, _, _, _, _, _, _, _, _, _, _, _, _, _, _, _, _, _, _, _, _, _, _, _, _, _, _, _, _, _, _, _, _, _, _, _, _]) rfl ?_
        have hil : i < ks.length := by omega
        have hki2 : (ks.set i ls[j]).take (i + 1) = (ls.take (j + 1)).filter (fun x => !p x) := by
          rw [hfl, ← hki, if_neg (by simp [hp]), List.take_set, List.take_succ_eq_append_getElem hil, List.set_append_right _ _ (by rw [List.length_take]; omega), List.length_take, Nat.min_eq_left (by omega), Nat.sub_self, List.set_cons_zero]
        refine ⟨ls.length - (j + 1), by omega, i + 1, j + 1, zs.set i ls[j].enc, ks.set i ls[j], rfl, by omega, by omega, fun p hp => under_dn (hsub p hp), put_same, by simpa using hzl, ?_, by simpa using hkl, hki2, ?_, ?_, env_g rfl⟩
        · rw [List.take_set, hzk, List.map_set]
        · rw [List.drop_set_of_lt (by omega), ← List.drop_drop, hkj, List.drop_drop]
        · intro p' hp1 hp2
          have hpa : ∀ {l : Nm}, under ν' l = true → p' ≠ l := fun hl => far (hsub p' hp2) hl
          rw [put_ne hp1, put_ne (hpa (by repeat (first | exact under_me | apply under_in))), put_ne (hpa (by repeat (first | exact under_me | apply under_in)))]
          exact hfr p' hp1 hp2
      · have hp : p ls[j] = true := by simpa using hp
        refine XW_skip ?_
        refine block_norm ?_
        refine then_norm ?_
        refine XW_region ?_
        refine OW_mv rfl rfl ?_
        first
          | refine OW_bin rfl rfl rfl rfl (add64 (by omega)) ?_
          | refine OW_bin rfl rfl rfl rfl (addu64 (by omega)) ?_
          | refine OW_bin rfl rfl rfl rfl rfl ?_
        refine OW_as rfl rfl ?_
        refine OW_nilE (e' := [_, _, _, _, _, _, _, _, _, _, _, _, _, _, _, _, _, _, _, _, _, _, _, _, _, _, _, _, _, _, _, _, _, _, _, _, _, _, _, _, _, _]) rfl ?_
        refine ⟨ls.length - (j + 1), by omega, i, j + 1, zs, ks, rfl, by omega, by omega, fun p hp => under_dn (hsub p hp), ?_, hzl, hzk, hkl, ?_, ?_, ?_, env_g rfl⟩
        · rw [put_ne (hqa (by repeat (first | exact under_me | apply under_in))), put_ne (hqa (by repeat (first | exact under_me | apply under_in)))]; exact hqz
        · rw [hki, hfl, if_pos hp, List.append_nil]
        · rw [← List.drop_drop, hkj, List.drop_drop]
        · intro p' hp1 hp2
          have hpa : ∀ {l : Nm}, under ν' l = true → p' ≠ l := fun hl => far (hsub p' hp2) hl
          rw [put_ne (hpa (by repeat (first | exact under_me | apply under_in))), put_ne (hpa (by repeat (first | exact under_me | apply under_in)))]
          exact hfr p' hp1 hp2
    · have hge : ls.length ≤ j := by simpa using ht
      obtain rfl : j = ls.length := by omega
      refine XW_exit ?_
      refine then_exit ?_
      refine block_exit ?_
      refine then_norm ?_
      refine XW_sr ?_
      refine OW_mv rfl rfl ?_
      refine OW_mv rfl rfl ?_
      refine OW_sl rfl rfl rfl rfl rfl (slc_lo (i := i) T47 rfl T53 rfl (by omega)) ?_
      refine OW_bi rfl rfl (clear_slc T47 rfl T53 rfl hqz (by omega) rfl) ?_
      refine OW_nilE (e' := [_, _, _, _, _, _, _, _, _, _, _, _, _, _, _, _, _, _, _, _, _, _, _, _, _, _, _, _, _, _, _, _, _, _, _, _, _, _, _, _, _, _]) rfl ?_
      refine XW_sr ?_
      refine OW_mv rfl rfl ?_
      refine OW_mv rfl rfl ?_
      refine OW_sl rfl rfl rfl rfl rfl (slc_hi (i := i) T47 rfl T53 rfl (by omega)) ?_
      refine OW_env (e' := [_, _, _, _, _, _, _, _, _, _, _, _, _, _, _, _, _, _, _, _, _, _, _, _, _, _, _, _, _, _, _, _, _, _, _, _, _, _, _, _, _, _]) rfl ?_
      refine OW_as rfl rfl ?_
      refine OW_nilE (e' := [_, _, _, _, _, _, _, _, _, _, _, _, _, _, _, _, _, _, _, _, _, _, _, _, _, _, _, _, _, _, _, _, _, _, _, _, _, _, _, _, _, _]) rfl ?_
      refine XW_ret ?_
      rw [List.take_length] at hki
      refine ret_ret rfl (hq _ _ ?_ ?_)
      · have hzi : zs.take i = (ls.filter fun x => !p x).map It.enc := by
          rw [← hki, List.map_take, ← hzk, List.take_take]; congr 1; omega
        refine .row put_same ?_ ?_
        · rw [List.length_map, ← hki, List.length_take]; omega
        · rw [Nat.zero_add, List.append_assoc, List.take_append_of_le_length (by simp; omega), List.take_take, Nat.min_self]; exact hzi
      · intro p hp hp2
        have hp' : p ≠ q := by simpa using hp
        rw [put_ne hp']; exact hfr p hp' hp2
/-- The same, side by side with other things; b: the box that the test looks at. -/
theorem It.delS {ν β ps pos' : Nm} {H : Heap} {Q : AVal → Heap → Prop} {L : List Asr} {k kb : Nat} {ls : List It} {S u : AVal} {b : Nm} {f : FuncId} {caps : List AVal} {p : It → Bool} (hf : It.FnP f caps [b] H p) (hS : Own β ps H L) (hle : le ps ν) (hk : L[k]? = some (sl S 3 (ls.map It.enc))) (hkb : L[kb]? = some (row b 1 [u])) (hne : k ≠ kb) (hpos : before ν pos') (hn : ls.length ≤ 4611686018427387904)
    (hq : ∀ v H', Own β pos' H' (L.set k (sl v 3 ((ls.filter fun x => !p x).map It.enc))) → Q v H') : CW cfg ν 20 [S, .fn f caps] H Q := by
  obtain ⟨fp, g, hs, hg, hd, hfp, hgp, hup⟩ := hS.two hk hkb hne
  have hs : Sl H 3 (ls.map It.enc) S fp := hs
  obtain ⟨rfl, hb⟩ : g = [b] ∧ H b = some (.row 1 [u]) := hg
  refine It.delF hf (fun b' hb' => ?_) (fun q hq => (hle _ (hfp q hq).1).under) hs hn fun v H' hs' hfr => ?_
  · obtain rfl : b' = b := by simpa using hb'
    exact ⟨fun hm => hd _ hm (by simp), (hle _ (hgp _ (by simp)).1).under⟩
  · exact hq v H' (hup H' fp (sl v 3 ((ls.filter fun x => !p x).map It.enc)) pos' (hle.trans (le_bef hpos)) hs' (fun p hp hb => hfr p hp (hle _ hb).under) (fun p hp => .inl hp) (fun p hp => ⟨(hle _ (hfp p hp).1).trans hpos, (hfp p hp).2⟩))
theorem drop_fn {b : Nm} {H2 : Heap} {w : ByteArray} (hb : H2 b = some (.row 1 [.str w])) : It.FnP 21 [.ptr b 0 0] [b] H2 (fun x => decide (x.wh = w)) := by
  intro ν x H Q hbs hq
  obtain ⟨h1, h2⟩ := hbs b (by simp)
  rw [hb] at h1
  refine CW_fullS g21 F21 rfl ?_
  refine XW_sr ?_
  refine OW_box rfl rfl rfl ?_
  refine OW_as rfl rfl ?_
  refine OW_nilE (e' := [_, _, _, _, _, _, _, _, _]) rfl ?_
  refine XW_sr ?_
  refine OW_fa rfl rfl rfl ?_
  refine OW_fa rfl rfl rfl ?_
  refine OW_load rfl rfl (aLoad_ptr rfl put_same rfl rfl) ?_
  refine OW_load rfl rfl (aLoad_ptr rfl (by rw [put_ne (far h2 (by repeat (first | exact under_me | apply under_in)))]; exact h1) rfl rfl) ?_
  refine OW_env (e' := [_, _, _, _, _, _, _, _, _]) rfl ?_
  first
    | refine OW_bin rfl rfl rfl rfl (eq_yes (by omega)) ?_
    | refine OW_bin rfl rfl rfl rfl (eq_no (by omega)) ?_
    | refine OW_bin rfl rfl rfl rfl rfl ?_
  refine OW_as rfl rfl ?_
  refine OW_nilE (e' := [_, _, _, _, _, _, _, _, _]) rfl ?_
  refine XW_ret ?_
  exact ret_ret rfl ⟨fun p hp => put_ne (far hp (by repeat (first | exact under_me | apply under_in))), hq⟩
def dropL (h : List It) (w : ByteArray) : List It := h.filter fun x => !decide (x.wh = w)
theorem init_x {X : Asr} {O : AVal} {n : AVal} {q : Nm} {h0 : List It} (hS : Own β ps H (X :: row q 2 [.agg [O, n]] :: sl O 3 (h0.map It.enc) :: L)) (hle : le ps ν) (hβ : under β ν = true) (hp : before ν pos') (hn : h0.length ≤ 4294960000)
    (hq : ∀ H1, Own β pos' H1 (X :: row q 2 [.agg [O, n]] :: sl O 3 ((initF h0 (h0.length / 2)).map It.enc) :: L) → Q (.tup []) H1) : CW cfg ν 22 [.ifc 51 (.ptr q 0 0)] H Q :=
  init_c (Own.rot (A := [_, _]) hS) hle hβ hp hn fun H1 h => hq H1 (Own.tor (A := [_, _]) h)
theorem drop_c {w : ByteArray} (hS : Own β ps H L) (hL : L[k]? = some (que q h n)) (hle : le ps ν) (hβ : under β ν = true) (hp : before ν pos') (hl : h.length ≤ 4294960000)
    (hq : ∀ H1, Own β pos' H1 (L.set k (que q (initF (dropL h w) ((dropL h w).length / 2)) n)) → Q (.int .i64 ((h.length : Int) - (dropL h w).length)) H1) : CW cfg ν 17 [.ptr q 0 0, .str w] H Q := by
  obtain ⟨O, hS⟩ := (hS.pick hL).un_que
  have hdl : (dropL h w).length ≤ h.length := List.length_filter_le _ _
  have hil : (initF (dropL h w) ((dropL h w).length / 2)).length = (dropL h w).length := (init_all _).2.length_eq
  refine CW_keep g17 F17 rfl ?_
  replace hS := Own.mono hS hle
  refine XW_sr ?_
  refine OW_boxR hS (le_app (p := ν) (b := [0, 0])) (under_app [0, 0] hβ) rfl rfl rfl ⟨rfl, rfl⟩ fun H1 hS1 => ?_
  replace hS1 : Own _ _ _ (_ :: _ :: _ :: L.eraseIdx k) := hS1
  refine OW_as rfl rfl ?_
  refine OW_nilE (e' := [_, _, _, _, _, _, _, _, _, _, _, _, _, _, _, _, _, _, _, _, _, _, _, _, _, _, _, _, _, _, _, _]) rfl ?_
  refine XW_sr ?_
  refine OW_mv rfl rfl ?_
  first
  | refine OW_nc rfl rfl ?_
  | refine OW_nce rfl rfl ?_
  refine OW_fa rfl rfl rfl ?_
  refine OW_env (e' := [_, _, _, _, _, _, _, _, _, _, _, _, _, _, _, _, _, _, _, _, _, _, _, _, _, _, _, _, _, _, _, _]) rfl ?_
  refine OW_loadR hS1 (k := 1) rfl rfl rfl rfl rfl (by first | exact part_whole rfl rfl rfl | rfl) ?_
  refine OW_lenO hS1 (k := 2) rfl rfl rfl rfl rfl rfl (by first | exact List.length_map _ | exact len_app1 | exact len_drop | (simp only [List.length_append, List.length_map, List.length_singleton, List.length_cons, List.length_nil]; rfl) | rfl) ?_
  refine OW_as rfl rfl ?_
  refine OW_nilE (e' := [_, _, _, _, _, _, _, _, _, _, _, _, _, _, _, _, _, _, _, _, _, _, _, _, _, _, _, _, _, _, _, _]) rfl ?_
  refine XW_sr ?_
  refine OW_mv rfl rfl ?_
  refine OW_mv rfl rfl ?_
  first
  | refine OW_nc rfl rfl ?_
  | refine OW_nce rfl rfl ?_
  refine OW_env (e' := [_, _, _, _, _, _, _, _, _, _, _, _, _, _, _, _, _, _, _, _, _, _, _, _, _, _, _, _, _, _, _, _]) rfl ?_
  refine OW_fa rfl rfl rfl ?_
  refine OW_loadR hS1 (k := 1) rfl rfl rfl rfl rfl (by first | exact part_whole rfl rfl rfl | rfl) ?_
  refine OW_mf rfl rfl ?_
  refine OW_env (e' := [_, _, _, _, _, _, _, _, _, _, _, _, _, _, _, _, _, _, _, _, _, _, _, _, _, _, _, _, _, _, _, _]) rfl ?_
  refine OW_fn rfl rfl (It.delS (drop_fn (by obtain ⟨f, ⟨_, h⟩, _⟩ := hS1.get (k := 0) rfl; exact h)) hS1 (le_lit (ν := ν) (a := [1, 0]) (b := [6, 0, 1, 1]) (by decide)) (k := 2) (kb := 0) rfl rfl (by decide) (before_lit (ν := ν) (a := [6, 0, 1, 1]) (b := [7, 0, 1, 1]) (by decide)) (by omega) fun O1 H2 hS2 => ?_) 
  replace hS2 : Own _ _ _ (_ :: _ :: _ :: L.eraseIdx k) := hS2
  first
  | refine OW_nc rfl rfl ?_
  | refine OW_nce rfl rfl ?_
  refine OW_fa rfl rfl rfl ?_
  refine OW_env (e' := [_, _, _, _, _, _, _, _, _, _, _, _, _, _, _, _, _, _, _, _, _, _, _, _, _, _, _, _, _, _, _, _]) rfl ?_
  refine OW_storeC hS2 (k := 1) rfl (le_lit (ν := ν) (a := [7, 0, 1, 1]) (b := [9, 0, 1, 1]) (by decide)) rfl rfl rfl (hS2.one (k := 2) rfl) rfl rfl (Nat.le_of_ble_eq_true rfl) (u2 := .agg [_, _]) rfl fun H3 hS3 => ?_
  replace hS3 : Own _ _ _ (_ :: _ :: _ :: L.eraseIdx k) := hS3
  refine OW_nilE (e' := [_, _, _, _, _, _, _, _, _, _, _, _, _, _, _, _, _, _, _, _, _, _, _, _, _, _, _, _, _, _, _, _]) rfl ?_
  refine XW_sr ?_
  refine OW_mv rfl rfl ?_
  first
  | refine OW_nc rfl rfl ?_
  | refine OW_nce rfl rfl ?_
  refine OW_fa rfl rfl rfl ?_
  refine OW_env (e' := [_, _, _, _, _, _, _, _, _, _, _, _, _, _, _, _, _, _, _, _, _, _, _, _, _, _, _, _, _, _, _, _]) rfl ?_
  refine OW_mi rfl rfl rfl rfl ?_
  refine OW_fn rfl rfl (init_x (h0 := dropL h w) hS3 (le_lit (ν := ν) (a := [10, 0, 1, 1]) (b := [4, 0, 1, 1, 1]) (by decide)) (under_app [4, 0, 1, 1, 1] hβ) (before_lit (ν := ν) (a := [4, 0, 1, 1, 1]) (b := [5, 0, 1, 1, 1]) (by decide)) (by omega) fun H4 hS4 => ?_) 
  replace hS4 : Own _ _ _ (_ :: _ :: _ :: L.eraseIdx k) := hS4
  refine OW_nilE (e' := [_, _, _, _, _, _, _, _, _, _, _, _, _, _, _, _, _, _, _, _, _, _, _, _, _, _, _, _, _, _, _, _]) rfl ?_
  refine XW_sr ?_
  refine OW_mv rfl rfl ?_
  refine OW_mv rfl rfl ?_
  first
  | refine OW_nc rfl rfl ?_
  | refine OW_nce rfl rfl ?_
  refine OW_env (e' := [_, _, _, _, _, _, _, _, _, _, _, _, _, _, _, _, _, _, _, _, _, _, _, _, _, _, _, _, _, _, _, _]) rfl ?_
  refine OW_fa rfl rfl rfl ?_
  refine OW_loadR hS4 (k := 1) rfl rfl rfl rfl rfl (by first | exact part_whole rfl rfl rfl | rfl) ?_
  first
  | refine OW_lenL rfl rfl (by first | assumption | exact Ls.of | exact Ls.emp | exact Ls.nls) rfl rfl rfl (by first | exact List.length_map _ | rfl) ?_
  | refine OW_bi rfl rfl rfl ?_
  | refine OW_lenO hS4 (k := 2) rfl rfl rfl rfl rfl rfl (by first | exact List.length_map _ | exact len_app1 | exact len_drop | (simp only [List.length_append, List.length_map, List.length_singleton, List.length_cons, List.length_nil]; rfl) | rfl) ?_
  refine OW_env (e' := [_, _, _, _, _, _, _, _, _, _, _, _, _, _, _, _, _, _, _, _, _, _, _, _, _, _, _, _, _, _, _, _]) rfl ?_
  first
  | refine OW_bin rfl rfl rfl rfl (sub_w64 (by first | omega | assumption | (simp only [ByteArray.size_append, ByteArray.size_extract, List.length_map, List.length_append, List.length_cons, List.length_nil, List.length_drop, List.length_take]; omega))) ?_
  | refine OW_bin rfl rfl rfl rfl rfl ?_
  refine OW_as rfl rfl ?_
  refine OW_nilE (e' := [_, _, _, _, _, _, _, _, _, _, _, _, _, _, _, _, _, _, _, _, _, _, _, _, _, _, _, _, _, _, _, _]) rfl ?_
  refine XW_ret ?_
  -- outcome 1
  refine ret_ret (res1 rfl (rv_tmp rfl)) ?_
  rw [hil]
  exact hq _ (Own.unpick (Own.mk_que (Own.drop0 (Own.mono hS4 (le_bef (bef_app (a := [5, 0, 1, 1, 1]) hp))))) hL)
theorem t_drop {w : ByteArray} (hS : Own β ps H L) (hL : L[k]? = some (tq q B n)) (hle : le ps ν) (hβ : under β ν = true) (hp : before ν pos') (hl : B.length ≤ 4294960000)
    (hq : ∀ H1, Own β pos' H1 (L.set k (tq q (dropL B w) n)) → Q (.int .i64 ((B.length : Int) - (dropL B w).length)) H1) : CW cfg ν 17 [.ptr q 0 0, .str w] H Q := by
  obtain ⟨h, hT, h1⟩ := hS.un_tq hL
  have hl2 := hT.len
  have hT2 := hT.drop (fun x => !decide (x.wh = w))
  have hl3 : (dropL h w).length = (dropL B w).length := (hT.perm.filter _).length_eq
  refine drop_c h1 (k := 0) rfl hle hβ hp (by omega) fun H1 h3 => ?_
  rw [hl2, hl3]
  exact hq H1 (Own.mk_tq h3 hT2 hL)
/-! ### The document's answer -/
def bstI (l : List Du) : Int := match bst (atD l) with
  | none => -1
  | some k => k
theorem atD_getD {l : List Du} {k : Nat} (hk : k < l.length) : (atD l).getD k 0 = l[k].at' := by simp [atD, List.getD_eq_getElem?_getD, hk]
theorem bstN_lt {l : List Int} {i k : Nat} (h : bstN l i = some k) : k < i := by
  cases i with
  | zero => cases h
  | succ i =>
    obtain ⟨k', h1, h2, _⟩ := bstN_spec l i
    rw [h] at h1
    obtain rfl := Option.some.inj h1
    omega
def obI (o : Option Nat) : Int := match o with
  | none => -1
  | some k => k
theorem bstN_i {l : List Du} {i : Nat} (hi : i < l.length) : obI (bstN (atD l) (i + 1)) = match bstN (atD l) i with
    | none => (i : Int)
    | some b => if l[i].at' < (l.getD b ⟨0, ⟨#[]⟩⟩).at' then (i : Int) else b := by
  rw [bstN]
  cases hb : bstN (atD l) i with
  | none => rfl
  | some b =>
    have := bstN_lt hb
    simp only [atD_getD hi, atD_getD (show b < l.length by omega), List.getD_eq_getElem?_getD, List.getElem?_eq_getElem (show b < l.length by omega), Option.getD_some]
    split <;> rfl
theorem nxt_step {l : List Du} {i : Nat} {b b' : Int} (hi : i < l.length) (hb : b = obI (bstN (atD l) i)) (h : (b < 0 ∧ b' = i) ∨ (0 ≤ b ∧ ∃ hl : b.toNat < l.length, l[i].at' < l[b.toNat].at' ∧ b' = i) ∨ (0 ≤ b ∧ ∃ hl : b.toNat < l.length, ¬ l[i].at' < l[b.toNat].at' ∧ b' = b)) : i + 1 ≤ l.length ∧ b' = obI (bstN (atD l) (i + 1)) ∧ (b' < 0 ∨ 0 ≤ b' ∧ b' < l.length) := by
  have hs := bstN_i hi
  cases ho : bstN (atD l) i with
  | none =>
    rw [ho] at hs hb
    simp only at hs
    have hb : b = -1 := hb
    rcases h with ⟨h1, h2⟩ | ⟨h1, _⟩ | ⟨h1, _⟩
    · rw [hs, h2]; omega
    · omega
    · omega
  | some k =>
    have hk := bstN_lt ho
    rw [ho] at hs hb
    have hb : b = (k : Int) := hb
    subst hb
    simp only [List.getD_eq_getElem?_getD, List.getElem?_eq_getElem (show k < l.length by omega), Option.getD_some] at hs
    rcases h with ⟨h1, h2⟩ | ⟨h1, hl, h2, h3⟩ | ⟨h1, hl, h2, h3⟩
    · omega
    · have h2 : l[i].at' < l[k].at' := h2
      rw [if_pos h2] at hs
      rw [hs, h3]; omega
    · have h2 : ¬ l[i].at' < l[k].at' := h2
      rw [if_neg h2] at hs
      rw [hs, h3]; omega
theorem r_next {v : AVal} {l : List Du} (hv : freeze [] H 8 v = .lst (l.map Du.enc)) (hn : l.length ≤ 4294960000) (hq : Q (.int .i64 (obI (bst (atD l)))) H) : CW cfg ν 14 [v] H Q := by
  refine CW_borrowL (args' := [.lst (l.map Du.enc)]) g14 F14 rfl (fz_cons (by first | assumption | exact freeze_plain rfl | exact Ls.freeze (by assumption) | rfl) fz_nil) ?_
  refine XW_sr ?_
  refine OW_as rfl rfl ?_
  refine OW_nilE (e' := [_, _, _, _, _, _, _, _, _, _, _, _, _, _, _, _, _, _, _, _, _, _, _, _, _, _, _, _]) rfl ?_
  refine XW_sr ?_
  refine OW_as rfl rfl ?_
  refine OW_nilE (e' := [_, _, _, _, _, _, _, _, _, _, _, _, _, _, _, _, _, _, _, _, _, _, _, _, _, _, _, _]) rfl ?_
  refine XW_seq ?_
  refine XW_sr ?_
  refine OW_as rfl rfl ?_
  refine OW_nilE (e' := [_, _, _, _, _, _, _, _, _, _, _, _, _, _, _, _, _, _, _, _, _, _, _, _, _, _, _, _]) rfl ?_
  refine XW_block ?_
  refine XW_whileN (I := fun ν' mm ee H' => ∃ (i : Nat) (b : Int), mm = l.length - i ∧ under (1 :: 0 :: 1 :: 1 :: ν) ν' = true ∧ (i ≤ l.length ∧ b = obI (bstN (atD l) i) ∧ (b < 0 ∨ 0 ≤ b ∧ b < l.length)) ∧ ∃ g : Nat → AVal, ee = [.lst (l.map Du.enc), g 1, g 2, .int .i64 b, .int .i64 i, g 5, g 6, g 7, g 8, g 9, g 10, g 11, g 12, g 13, g 14, g 15, g 16, g 17, g 18, g 19, g 20, g 21, g 22, g 23, g 24, g 25, g 26, g 27]) ?_ _ _ _ _ ⟨0, -1, rfl, under_me, (⟨by omega, rfl, .inl (by omega)⟩), env_g rfl⟩
  rintro ν1 mm ee H1 ⟨i, b, rfl, hU1, ⟨hi, hb, hbr⟩, g1, rfl⟩
  refine XW_seq ?_
  refine XW_sr ?_
  refine OW_mv rfl rfl ?_
  refine OW_mv rfl rfl ?_
  first
  | refine OW_lenL rfl rfl (by first | assumption | exact Ls.of | exact Ls.emp | exact Ls.nls) rfl rfl rfl (by first | exact List.length_map _ | rfl) ?_
  | refine OW_bi rfl rfl rfl ?_
  refine OW_env (e' := [_, _, _, _, _, _, _, _, _, _, _, _, _, _, _, _, _, _, _, _, _, _, _, _, _, _, _, _]) rfl ?_
  refine OW_bin rfl rfl rfl rfl rfl ?_
  refine OW_nilE (e' := [_, _, _, _, _, _, _, _, _, _, _, _, _, _, _, _, _, _, _, _, _, _, _, _, _, _, _, _]) rfl ?_
  refine XW_if rfl (fun h3 => ?_) (fun h3 => ?_)
  · try simp only [decide_eq_true_eq, decide_eq_false_iff_not, Bool.not_eq_true', Bool.not_eq_false', Bool.and_eq_true, Bool.or_eq_true, Bool.not_eq_true, Bool.not_eq_false, Decidable.not_not, bne_iff_ne, beq_iff_eq, List.length_append, List.length_cons, List.length_nil, List.length_drop, List.length_take] at h3
    refine XW_skip ?_
    refine then_norm ?_
    refine XW_seq ?_
    refine XW_block ?_
    refine XW_sr ?_
    refine OW_mv rfl rfl ?_
    refine OW_bin rfl rfl rfl rfl rfl ?_
    refine OW_mv rfl rfl ?_
    refine OW_env (e' := [_, _, _, _, _, _, _, _, _, _, _, _, _, _, _, _, _, _, _, _, _, _, _, _, _, _, _, _]) rfl ?_
    refine OW_split (tt := 13) rfl (fun g5_3 => ?_) (fun g5_3 => ?_)
    · try simp only [decide_eq_true_eq, decide_eq_false_iff_not, Bool.not_eq_true', Bool.not_eq_false', Bool.and_eq_true, Bool.or_eq_true, Bool.not_eq_true, Bool.not_eq_false, Decidable.not_not, bne_iff_ne, beq_iff_eq, List.length_append, List.length_cons, List.length_nil, List.length_drop, List.length_take] at g5_3
      refine OW_no rfl ?_
      refine OW_no rfl ?_
      refine OW_env (e' := [_, _, _, _, _, _, _, _, _, _, _, _, _, _, _, _, _, _, _, _, _, _, _, _, _, _, _, _]) rfl ?_
      refine OW_no rfl ?_
      refine OW_no rfl ?_
      refine OW_no rfl ?_
      refine OW_env (e' := [_, _, _, _, _, _, _, _, _, _, _, _, _, _, _, _, _, _, _, _, _, _, _, _, _, _, _, _]) rfl ?_
      refine OW_no rfl ?_
      refine OW_no rfl ?_
      refine OW_no rfl ?_
      refine OW_env (e' := [_, _, _, _, _, _, _, _, _, _, _, _, _, _, _, _, _, _, _, _, _, _, _, _, _, _, _, _]) rfl ?_
      refine OW_no rfl ?_
      refine OW_no rfl ?_
      refine OW_no rfl ?_
      refine OW_env (e' := [_, _, _, _, _, _, _, _, _, _, _, _, _, _, _, _, _, _, _, _, _, _, _, _, _, _, _, _]) rfl ?_
      refine OW_pick rfl rfl rfl ?_
      refine OW_nilE (e' := [_, _, _, _, _, _, _, _, _, _, _, _, _, _, _, _, _, _, _, _, _, _, _, _, _, _, _, _]) rfl ?_
      refine XW_yes rfl rfl ?_
      refine XW_region ?_
      refine OW_mv rfl rfl ?_
      refine OW_as rfl rfl ?_
      refine OW_nilE (e' := [_, _, _, _, _, _, _, _, _, _, _, _, _, _, _, _, _, _, _, _, _, _, _, _, _, _, _, _]) rfl ?_
      refine block_norm ?_
      refine then_norm ?_
      refine XW_region ?_
      refine OW_mv rfl rfl ?_
      first
      | refine OW_bin rfl rfl rfl rfl (add_w64 (by first | omega | assumption | (simp only [ByteArray.size_append, ByteArray.size_extract, List.length_map, List.length_append, List.length_cons, List.length_nil, List.length_drop, List.length_take]; omega))) ?_
      | refine OW_bin rfl rfl rfl rfl rfl ?_
      refine OW_as rfl rfl ?_
      refine OW_nilE (e' := [_, _, _, _, _, _, _, _, _, _, _, _, _, _, _, _, _, _, _, _, _, _, _, _, _, _, _, _]) rfl ?_
      -- round 0.1
      refine ⟨_, ?_, i + 1, _, rfl, under_in hU1, ?_, env_g rfl⟩
      · first | omega | (simp; omega)
      · exact nxt_step (by omega) hb (by first | exact .inl ⟨by omega, rfl⟩ | exact .inr (.inl ⟨by omega, by omega, by assumption, rfl⟩) | exact .inr (.inr ⟨by omega, by omega, by omega, rfl⟩) | trace_state)
    · try simp only [decide_eq_true_eq, decide_eq_false_iff_not, Bool.not_eq_true', Bool.not_eq_false', Bool.and_eq_true, Bool.or_eq_true, Bool.not_eq_true, Bool.not_eq_false, Decidable.not_not, bne_iff_ne, beq_iff_eq, List.length_append, List.length_cons, List.length_nil, List.length_drop, List.length_take] at g5_3
      refine OW_mv rfl rfl ?_
      refine OW_mv rfl rfl ?_
      refine OW_env (e' := [_, _, _, _, _, _, _, _, _, _, _, _, _, _, _, _, _, _, _, _, _, _, _, _, _, _, _, _]) rfl ?_
      first
      | refine OW_iaL rfl rfl rfl Ls.of rfl rfl rfl (by first | rfl | exact (Int.toNat_of_nonneg (by omega)).symm) (by first | assumption | exact at_map (by first | assumption | omega) | exact at_lst (by omega) | rfl) rfl ?_
      | refine OW_iaL rfl rfl rfl (by assumption) rfl rfl rfl (by first | rfl | exact (Int.toNat_of_nonneg (by omega)).symm) (by first | assumption | exact at_map (by first | assumption | omega) | exact at_lst (by omega) | rfl) rfl ?_
      refine OW_fa rfl rfl rfl ?_
      refine OW_loadE rfl rfl rfl (by first | exact part_whole rfl rfl rfl | rfl) ?_
      refine OW_env (e' := [_, _, _, _, _, _, _, _, _, _, _, _, _, _, _, _, _, _, _, _, _, _, _, _, _, _, _, _]) rfl ?_
      refine OW_mv rfl rfl ?_
      refine OW_mv rfl rfl ?_
      first
      | refine OW_iaL rfl rfl rfl Ls.of rfl rfl rfl (by first | rfl | exact (Int.toNat_of_nonneg (by omega)).symm) (by first | assumption | exact at_map (by first | assumption | omega) | exact at_lst (by omega) | rfl) rfl ?_
      | refine OW_iaL rfl rfl rfl (by assumption) rfl rfl rfl (by first | rfl | exact (Int.toNat_of_nonneg (by omega)).symm) (by first | assumption | exact at_map (by first | assumption | omega) | exact at_lst (by omega) | rfl) rfl ?_
      refine OW_env (e' := [_, _, _, _, _, _, _, _, _, _, _, _, _, _, _, _, _, _, _, _, _, _, _, _, _, _, _, _]) rfl ?_
      refine OW_fa rfl rfl rfl ?_
      refine OW_loadE rfl rfl rfl (by first | exact part_whole rfl rfl rfl | rfl) ?_
      refine OW_bin rfl rfl rfl rfl rfl ?_
      refine OW_env (e' := [_, _, _, _, _, _, _, _, _, _, _, _, _, _, _, _, _, _, _, _, _, _, _, _, _, _, _, _]) rfl ?_
      refine OW_pick rfl rfl rfl ?_
      refine OW_nilE (e' := [_, _, _, _, _, _, _, _, _, _, _, _, _, _, _, _, _, _, _, _, _, _, _, _, _, _, _, _]) rfl ?_
      refine XW_if rfl (fun h5 => ?_) (fun h5 => ?_)
      · try simp only [decide_eq_true_eq, decide_eq_false_iff_not, Bool.not_eq_true', Bool.not_eq_false', Bool.and_eq_true, Bool.or_eq_true, Bool.not_eq_true, Bool.not_eq_false, Decidable.not_not, bne_iff_ne, beq_iff_eq, List.length_append, List.length_cons, List.length_nil, List.length_drop, List.length_take] at h5
        refine XW_region ?_
        refine OW_mv rfl rfl ?_
        refine OW_as rfl rfl ?_
        refine OW_nilE (e' := [_, _, _, _, _, _, _, _, _, _, _, _, _, _, _, _, _, _, _, _, _, _, _, _, _, _, _, _]) rfl ?_
        refine block_norm ?_
        refine then_norm ?_
        refine XW_region ?_
        refine OW_mv rfl rfl ?_
        first
        | refine OW_bin rfl rfl rfl rfl (add_w64 (by first | omega | assumption | (simp only [ByteArray.size_append, ByteArray.size_extract, List.length_map, List.length_append, List.length_cons, List.length_nil, List.length_drop, List.length_take]; omega))) ?_
        | refine OW_bin rfl rfl rfl rfl rfl ?_
        refine OW_as rfl rfl ?_
        refine OW_nilE (e' := [_, _, _, _, _, _, _, _, _, _, _, _, _, _, _, _, _, _, _, _, _, _, _, _, _, _, _, _]) rfl ?_
        -- round 0.2
        refine ⟨_, ?_, i + 1, _, rfl, under_in hU1, ?_, env_g rfl⟩
        · first | omega | (simp; omega)
        · exact nxt_step (by omega) hb (by first | exact .inl ⟨by omega, rfl⟩ | exact .inr (.inl ⟨by omega, by omega, by assumption, rfl⟩) | exact .inr (.inr ⟨by omega, by omega, by omega, rfl⟩) | trace_state)
      · try simp only [decide_eq_true_eq, decide_eq_false_iff_not, Bool.not_eq_true', Bool.not_eq_false', Bool.and_eq_true, Bool.or_eq_true, Bool.not_eq_true, Bool.not_eq_false, Decidable.not_not, bne_iff_ne, beq_iff_eq, List.length_append, List.length_cons, List.length_nil, List.length_drop, List.length_take] at h5
        refine XW_skip ?_
        refine block_norm ?_
        refine then_norm ?_
        refine XW_region ?_
        refine OW_mv rfl rfl ?_
        first
        | refine OW_bin rfl rfl rfl rfl (add_w64 (by first | omega | assumption | (simp only [ByteArray.size_append, ByteArray.size_extract, List.length_map, List.length_append, List.length_cons, List.length_nil, List.length_drop, List.length_take]; omega))) ?_
        | refine OW_bin rfl rfl rfl rfl rfl ?_
        refine OW_as rfl rfl ?_
        refine OW_nilE (e' := [_, _, _, _, _, _, _, _, _, _, _, _, _, _, _, _, _, _, _, _, _, _, _, _, _, _, _, _]) rfl ?_
        -- round 0.3
        refine ⟨_, ?_, i + 1, _, rfl, under_in hU1, ?_, env_g rfl⟩
        · first | omega | (simp; omega)
        · exact nxt_step (by omega) hb (by first | exact .inl ⟨by omega, rfl⟩ | exact .inr (.inl ⟨by omega, by omega, by assumption, rfl⟩) | exact .inr (.inr ⟨by omega, by omega, by omega, rfl⟩) | trace_state)
  · try simp only [decide_eq_true_eq, decide_eq_false_iff_not, Bool.not_eq_true', Bool.not_eq_false', Bool.and_eq_true, Bool.or_eq_true, Bool.not_eq_true, Bool.not_eq_false, Decidable.not_not, bne_iff_ne, beq_iff_eq, List.length_append, List.length_cons, List.length_nil, List.length_drop, List.length_take] at h3
    refine XW_exit ?_
    refine then_exit ?_
    refine block_exit ?_
    refine then_norm ?_
    refine XW_sr ?_
    refine OW_mv rfl rfl ?_
    refine OW_as rfl rfl ?_
    refine OW_nilE (e' := [_, _, _, _, _, _, _, _, _, _, _, _, _, _, _, _, _, _, _, _, _, _, _, _, _, _, _, _]) rfl ?_
    refine XW_ret ?_
    -- outcome 1
    refine ret_ret (res1 rfl (rv_tmp rfl)) ⟨rfl, ?_⟩
    rw [show i = l.length by omega] at hb
    rw [hb, show l.length = (atD l).length by simp [atD]]; exact hq
end Go.Proofs.Ytamdokgbenbndaa.X
