/- Layer 11: functions over slices of sessions. -/
import Derived.Test.YtlnoligkgkngaaaK
import Derived.Test.YtlnoligkgkngaaaZ
set_option linter.unusedVariables false
set_option linter.unusedSimpArgs false
set_option maxRecDepth 100000
namespace Go.Proofs.Ytlnoligkgkngaaa.X
open Go Go.RowKit
structure Se where
  id : Int
  nr : Int
  an : ByteArray
  deriving DecidableEq
def Se.enc (l : Se) : AVal := .agg [.int .u64 l.id, .int .u64 l.nr, .str l.an]
/-- A function's value that tests elements; bs: the boxes that it looks at. -/
def Se.FnP (f : FuncId) (caps : List AVal) (bs : List Nm) (H0 : Heap) (p : Se → Bool) : Prop :=
  ∀ ν x H Q, (∀ b ∈ bs, H b = H0 b ∧ under ν b = false) → Q (.bool (p x)) H → CW cfg ν f (x.enc :: caps) H Q
theorem Se.idx {ν : Nm} {H : Heap} {Q : AVal → Heap → Prop} {ls : List Se} {S : AVal} {f : FuncId} {caps : List AVal} {bs : List Nm} {p : Se → Bool} (hf : Se.FnP f caps bs H p) (hbs : ∀ b ∈ bs, under ν b = false) (h : Rd H 3 (ls.map Se.enc) S) (hn : ls.length ≤ 4611686018427387904) (hq : Q (.int .i64 (firstI p ls 0)) H) : CW cfg ν 21 [S, .fn f caps] H Q := by
  have h2 : lenOf H S = some ls.length := by rw [h.len, List.length_map]
  have h3 : lenKind cfg.T [22] S = true := h.kind T22 rfl
  refine CW_fullS g21 F21 rfl ?_
  refine XW_sr ?_
  refine OW_as rfl rfl ?_
  refine OW_nilE (e' := [_, _, _, _, _, _, _, _, _, _, _, _, _, _, _, _, _, _, _]) rfl ?_
  refine XW_seq ?_
  refine XW_sr ?_
  refine OW_mv rfl rfl ?_
  refine OW_bi rfl rfl (aLen h3 h2) ?_
  refine OW_env (e' := [_, _, _, _, _, _, _, _, _, _, _, _, _, _, _, _, _, _, _]) rfl ?_
  refine OW_mv rfl rfl ?_
  refine OW_nilE (e' := [_, _, _, _, _, _, _, _, _, _, _, _, _, _, _, _, _, _, _]) rfl ?_
  refine XW_block ?_
  refine XW_whileN (I := fun ν' n e H' => H' = H ∧ (∀ p, under ν p = false → under ν' p = false) ∧ ∃ (i : Nat), n = ls.length - i ∧ i ≤ ls.length ∧ firstI p ls 0 = firstI p (ls.drop i) i ∧ ∃ g : Nat → AVal, e = [S, .fn f caps, g 2, g 3, .int .i64 0, g 5, g 6, .int .i64 ls.length, .int .i64 i, g 9, g 10, g 11, g 12, g 13, g 14, g 15, g 16, g 17, g 18]) ?_ _ _ _ _ ⟨rfl, fun p hp => by repeat (first | exact hp | apply under_dn), 0, rfl, by omega, rfl, env_g rfl⟩
  rintro ν' n e H' ⟨rfl, hsub, i, rfl, hi, hfs, g, rfl⟩
  refine XW_sr ?_
  first
    | refine OW_bin rfl rfl rfl rfl (lss_yes (by omega)) ?_
    | refine OW_bin rfl rfl rfl rfl (lss_no (by omega)) ?_
    | refine OW_bin rfl rfl rfl rfl rfl ?_
  refine OW_nilE (e' := [_, _, _, _, _, _, _, _, _, _, _, _, _, _, _, _, _, _, _]) rfl ?_
  refine XW_seq ?_
  refine XW_if rfl (fun ht => ?_) (fun ht => ?_)
  · have hlt : i < ls.length := by simpa using ht
    have hxi : (ls.map Se.enc)[i]? = some (ls[i].enc) := by simp [hlt]
    obtain ⟨P, k1, k2⟩ := h.at (kk := .i64) T22 rfl T25 rfl hxi rfl rfl
    refine XW_skip ?_
    refine then_norm ?_
    refine XW_seq ?_
    refine XW_block ?_
    refine XW_sr ?_
    refine OW_mv rfl rfl ?_
    refine OW_as rfl rfl ?_
    refine OW_nilE (e' := [_, _, _, _, _, _, _, _, _, _, _, _, _, _, _, _, _, _, _]) rfl ?_
    refine XW_sr ?_
    refine OW_mv rfl rfl ?_
    refine OW_mv rfl rfl ?_
    refine OW_mv rfl rfl ?_
    refine OW_ia rfl rfl rfl k1 ?_
    refine OW_load rfl rfl k2 ?_
    refine OW_fv rfl rfl rfl (hf _ ls[i] _ _ (fun b hb => ⟨rfl, by have := hsub b (hbs b hb); repeat (first | exact this | apply under_dn)⟩) ?_)
    refine OW_nilE (e' := [_, _, _, _, _, _, _, _, _, _, _, _, _, _, _, _, _, _, _]) rfl ?_
    refine XW_if rfl (fun hp => ?_) (fun hp => ?_)
    · refine XW_sr ?_
      refine OW_mv rfl rfl ?_
      refine OW_as rfl rfl ?_
      refine OW_nilE (e' := [_, _, _, _, _, _, _, _, _, _, _, _, _, _, _, _, _, _, _]) rfl ?_
      refine XW_ret ?_
      refine block_ret ?_
      refine then_ret ?_
      refine block_ret ?_
      refine then_ret ?_
      refine ret_ret rfl ⟨fun _ _ => rfl, ?_⟩
      rw [List.drop_eq_getElem_cons hlt, firstI, if_pos hp] at hfs
      rw [hfs] at hq; exact hq
    · refine XW_skip ?_
      refine block_norm ?_
      refine then_norm ?_
      refine XW_region ?_
      first
        | refine OW_bin rfl rfl rfl rfl (add64 (by omega)) ?_
        | refine OW_bin rfl rfl rfl rfl (addu64 (by omega)) ?_
        | refine OW_bin rfl rfl rfl rfl rfl ?_
      refine OW_mv rfl rfl ?_
      refine OW_nilE (e' := [_, _, _, _, _, _, _, _, _, _, _, _, _, _, _, _, _, _, _]) rfl ?_
      refine ⟨ls.length - (i + 1), by omega, rfl, fun p hp => under_dn (hsub p hp), i + 1, rfl, by omega, ?_, env_g rfl⟩
      rw [List.drop_eq_getElem_cons hlt, firstI, if_neg (by simp [hp])] at hfs
      exact hfs
  · have hge : ls.length ≤ i := by simpa using ht
    refine XW_exit ?_
    refine then_exit ?_
    refine block_exit ?_
    refine then_norm ?_
    refine XW_sr ?_
    refine OW_as rfl rfl ?_
    refine OW_nilE (e' := [_, _, _, _, _, _, _, _, _, _, _, _, _, _, _, _, _, _, _]) rfl ?_
    refine XW_ret ?_
    refine ret_ret rfl ⟨fun _ _ => rfl, ?_⟩
    rw [List.drop_eq_nil_of_le hge, firstI] at hfs
    rw [hfs] at hq; exact hq
theorem Se.has {ν : Nm} {H : Heap} {Q : AVal → Heap → Prop} {ls : List Se} {S : AVal} {f : FuncId} {caps : List AVal} {bs : List Nm} {p : Se → Bool} (hf : Se.FnP f caps bs H p) (hbs : ∀ b ∈ bs, under ν b = false) (h : Rd H 3 (ls.map Se.enc) S) (hn : ls.length ≤ 4611686018427387904) (hq : Q (.bool (ls.any p)) H) : CW cfg ν 29 [S, .fn f caps] H Q := by
  refine CW_fullS g29 F29 rfl ?_
  refine XW_sr ?_
  refine OW_as rfl rfl ?_
  refine OW_nilE (e' := [_, _, _, _, _, _, _, _, _]) rfl ?_
  refine XW_sr ?_
  refine OW_mv rfl rfl ?_
  refine OW_mv rfl rfl ?_
  refine OW_fn rfl rfl (Se.idx hf (fun b hb => by have := hbs b hb; repeat (first | exact this | apply under_dn)) h hn ?_)
  refine OW_env (e' := [_, _, _, _, _, _, _, _, _]) rfl ?_
  first
    | refine OW_bin rfl rfl rfl rfl (geq_yes (by omega)) ?_
    | refine OW_bin rfl rfl rfl rfl (geq_no (by omega)) ?_
    | refine OW_bin rfl rfl rfl rfl rfl ?_
  refine OW_as rfl rfl ?_
  refine OW_nilE (e' := [_, _, _, _, _, _, _, _, _]) rfl ?_
  refine XW_ret ?_
  refine ret_ret rfl ⟨fun _ _ => rfl, ?_⟩
  have : decide (firstI p ls 0 ≥ 0) = ls.any p := firstI_any p ls 0 (by omega)
  show Q (.bool (decide (firstI p ls 0 ≥ 0))) H
  rw [this]; exact hq
theorem Se.store {H : Heap} {q : Nm} {i : Nat} {ys : List AVal} {l l0 : Se} (hq : H q = some (.row 3 ys)) (hi : ys[i]? = some l0.enc) : aStore cfg.T H 25 (.ptr q i 0) l.enc = some (H.put q (some (.row 3 (ys.set i l.enc)))) :=
  aStore_ptr T25 hq hi ⟨rfl, rfl, Nat.le_refl 3⟩
theorem Se.delF {ν : Nm} {H : Heap} {Q : AVal → Heap → Prop} {ls : List Se} {S : AVal} {fp : List Nm} {f : FuncId} {caps : List AVal} {bs : List Nm} {p : Se → Bool} (hf : Se.FnP f caps bs H p) (hbs : ∀ b ∈ bs, b ∉ fp ∧ under ν b = false) (hfp : ∀ q ∈ fp, under ν q = false) (h : Sl H 3 (ls.map Se.enc) S fp) (hn : ls.length ≤ 4611686018427387904)
    (hq : ∀ v H', Sl H' 3 ((ls.filter fun x => !p x).map Se.enc) v fp → (∀ p, p ∉ fp → under ν p = false → H' p = H p) → Q v H') : CW cfg ν 23 [S, .fn f caps] H Q := by
  refine CW_keep g23 F23 rfl ?_
  refine XW_sr ?_
  refine OW_as rfl rfl ?_
  refine OW_nilE (e' := [_, _, _, _, _, _, _, _, _, _, _, _, _, _, _, _, _, _, _, _, _, _, _, _, _, _, _, _, _, _, _, _, _, _, _, _, _, _, _, _, _, _]) rfl ?_
  refine XW_sr ?_
  refine OW_mv rfl rfl ?_
  refine OW_mv rfl rfl ?_
  refine OW_fn rfl rfl (Se.idx hf (fun b hb => by have := (hbs b hb).2; repeat (first | exact this | apply under_dn)) (.own h) hn ?_)
  refine OW_env (e' := [_, _, _, _, _, _, _, _, _, _, _, _, _, _, _, _, _, _, _, _, _, _, _, _, _, _, _, _, _, _, _, _, _, _, _, _, _, _, _, _, _, _]) rfl ?_
  refine OW_as rfl rfl ?_
  refine OW_nilE (e' := [_, _, _, _, _, _, _, _, _, _, _, _, _, _, _, _, _, _, _, _, _, _, _, _, _, _, _, _, _, _, _, _, _, _, _, _, _, _, _, _, _, _]) rfl ?_
  refine XW_seq ?_
  refine XW_sr ?_
  refine OW_mv rfl rfl ?_
  first
    | refine OW_bin rfl rfl rfl rfl (eq_yes (by omega)) ?_
    | refine OW_bin rfl rfl rfl rfl (eq_no (by omega)) ?_
    | refine OW_bin rfl rfl rfl rfl rfl ?_
  refine OW_nilE (e' := [_, _, _, _, _, _, _, _, _, _, _, _, _, _, _, _, _, _, _, _, _, _, _, _, _, _, _, _, _, _, _, _, _, _, _, _, _, _, _, _, _, _]) rfl ?_
  refine XW_if rfl (fun ht => ?_) (fun ht => ?_)
  · refine XW_sr ?_
    refine OW_mv rfl rfl ?_
    refine OW_as rfl rfl ?_
    refine OW_nilE (e' := [_, _, _, _, _, _, _, _, _, _, _, _, _, _, _, _, _, _, _, _, _, _, _, _, _, _, _, _, _, _, _, _, _, _, _, _, _, _, _, _, _, _]) rfl ?_
    refine XW_ret ?_
    refine then_ret ?_
    refine ret_ret rfl (hq _ _ ?_ (fun _ _ _ => rfl))
    have ht : firstI p ls 0 = -1 := by simpa using ht
    rcases firstI_spec p ls 0 with ⟨_, h2⟩ | ⟨i, _, h2, _⟩
    · rw [h2]; exact h
    · omega
  · have ht : firstI p ls 0 ≠ -1 := by simpa using ht
    obtain ⟨i0, hi0, he0, hfi⟩ : ∃ i, i < ls.length ∧ firstI p ls 0 = i ∧ (ls.take (i + 1)).filter (fun x => !p x) = ls.take i := by
      rcases firstI_spec p ls 0 with ⟨h2, _⟩ | ⟨i, h1, h2, h3⟩
      · exact absurd h2 ht
      · exact ⟨i, h1, by omega, h3⟩
    rw [he0]
    obtain ⟨q, ys, rfl, rfl, hqr, _, _, htk⟩ := h.at' (i := i0) (x := ls[i0].enc) (by simp [hi0])
    rw [List.length_map] at htk ⊢
    have hqν := hfp q (by simp)
    have hys : ls.length ≤ ys.length := by
      have := congrArg List.length htk
      simp only [List.length_take, List.length_map] at this; omega
    refine XW_skip ?_
    refine then_norm ?_
    refine XW_seq ?_
    refine XW_sr ?_
    refine OW_mv rfl rfl ?_
    first
      | refine OW_bin rfl rfl rfl rfl (add64 (by omega)) ?_
      | refine OW_bin rfl rfl rfl rfl (addu64 (by omega)) ?_
      | refine OW_bin rfl rfl rfl rfl rfl ?_
    refine OW_as rfl rfl ?_
    refine OW_nilE (e' := [_, _, _, _, _, _, _, _, _, _, _, _, _, _, _, _, _, _, _, _, _, _, _, _, _, _, _, _, _, _, _, _, _, _, _, _, _, _, _, _, _, _]) rfl ?_
    refine XW_block ?_
    refine XW_whileN (I := fun ν' n e H' => ∃ (i j : Nat) (zs : List AVal) (ks : List Se), n = ls.length - j ∧ i < j ∧ j ≤ ls.length ∧ (∀ p, under ν p = false → under ν' p = false) ∧ H' q = some (.row 3 zs) ∧ zs.length = ys.length ∧ zs.take ls.length = ks.map Se.enc ∧ ks.length = ls.length ∧
      ks.take i = (ls.take j).filter (fun x => !p x) ∧ ks.drop j = ls.drop j ∧ (∀ p, p ≠ q → under ν p = false → H' p = H p) ∧ ∃ g : Nat → AVal, e = [.slc q 3 0 ls.length, .fn f caps, g 2, g 3, g 4, .int .i64 i, .int .i64 j, g 7, g 8, g 9, g 10, g 11, g 12, g 13, g 14, g 15, g 16, g 17, g 18, g 19, g 20, g 21, g 22, g 23, g 24, g 25, g 26, g 27, g 28, g 29, g 30, g 31, g 32, g 33, g 34, g 35, g 36, g 37, g 38, g 39, g 40, g 41]) ?_ _ _ _ _ ⟨i0, i0 + 1, ys, ls, rfl, by omega, by omega, fun p hp => by repeat (first | exact hp | apply under_dn), hqr, rfl, htk, rfl, hfi.symm, rfl, fun _ _ _ => rfl, env_g rfl⟩
    rintro ν' n e H' ⟨i, j, zs, ks, rfl, hij, hjn, hsub, hqz, hzl, hzk, hkl, hki, hkj, hfr, g, rfl⟩
    refine XW_seq ?_
    refine XW_sr ?_
    refine OW_mv rfl rfl ?_
    refine OW_mv rfl rfl ?_
    refine OW_bi rfl rfl (aLen rfl rfl) ?_
    refine OW_env (e' := [_, _, _, _, _, _, _, _, _, _, _, _, _, _, _, _, _, _, _, _, _, _, _, _, _, _, _, _, _, _, _, _, _, _, _, _, _, _, _, _, _, _]) rfl ?_
    first
      | refine OW_bin rfl rfl rfl rfl (lss_yes (by omega)) ?_
      | refine OW_bin rfl rfl rfl rfl (lss_no (by omega)) ?_
      | refine OW_bin rfl rfl rfl rfl rfl ?_
    refine OW_nilE (e' := [_, _, _, _, _, _, _, _, _, _, _, _, _, _, _, _, _, _, _, _, _, _, _, _, _, _, _, _, _, _, _, _, _, _, _, _, _, _, _, _, _, _]) rfl ?_
    refine XW_if rfl (fun ht => ?_) (fun ht => ?_)
    · have hlt : j < ls.length := by simpa using ht
      have hkj2 : ks[j]? = some ls[j] := by
        have := congrArg (fun l => l[0]?) hkj
        simp only [List.getElem?_drop, Nat.add_zero] at this
        rw [this]; simp [hlt]
      have hzj : zs[j]? = some ls[j].enc := by
        have := congrArg (fun l => l[j]?) hzk
        simp only [List.getElem?_take, if_pos hlt, List.getElem?_map, hkj2, Option.map_some] at this
        exact this
      obtain ⟨l0, hl0⟩ : ∃ l0 : Se, zs[i]? = some l0.enc := by
        have := congrArg (fun l => l[i]?) hzk
        simp only [List.getElem?_take, if_pos (show i < ls.length by omega), List.getElem?_map] at this
        have hk : i < ks.length := by omega
        rw [List.getElem?_eq_getElem hk, Option.map_some] at this
        exact ⟨_, this⟩
      refine XW_skip ?_
      refine then_norm ?_
      refine XW_seq ?_
      refine XW_block ?_
      refine XW_sr ?_
      refine OW_mv rfl rfl ?_
      refine OW_mv rfl rfl ?_
      refine OW_ia rfl rfl rfl (ia_slc0 T22 rfl T25 rfl hlt) ?_
      refine OW_load rfl rfl (aLoad_ptr T25 hqz hzj rfl) ?_
      refine OW_alloc rfl rfl ?_
      refine OW_store rfl rfl rfl (aStore_ptr T25 put_same rfl ⟨rfl, rfl, by decide⟩) ?_
      refine OW_nilE (e' := [_, _, _, _, _, _, _, _, _, _, _, _, _, _, _, _, _, _, _, _, _, _, _, _, _, _, _, _, _, _, _, _, _, _, _, _, _, _, _, _, _, _]) rfl ?_
      have hqa : ∀ {l : Nm}, under ν' l = true → q ≠ l := fun hl => far (hsub q hqν) hl
      refine XW_sr ?_
      refine OW_mv rfl rfl ?_
      refine OW_load rfl rfl (aLoad_ptr T25 put_same rfl rfl) ?_
      refine OW_fv rfl rfl rfl (hf _ ls[j] _ _ ?_ ?_)
      · intro b hb
        have hb2 := hsub b (hbs b hb).2
        have hne : b ≠ 4 :: 0 :: 0 :: 1 :: 0 :: ν' := far hb2 (under_in (under_in (under_in (under_in (under_in under_me)))))
        rw [put_ne hne, put_ne hne]
        exact ⟨hfr b (fun e => (hbs b hb).1 (by simp [e])) (hbs b hb).2, by repeat (first | exact hb2 | apply under_dn)⟩
      refine OW_env (e' := [_, _, _, _, _, _, _, _, _, _, _, _, _, _, _, _, _, _, _, _, _, _, _, _, _, _, _, _, _, _, _, _, _, _, _, _, _, _, _, _, _, _]) rfl ?_
      refine OW_un rfl rfl rfl ?_
      refine OW_nilE (e' := [_, _, _, _, _, _, _, _, _, _, _, _, _, _, _, _, _, _, _, _, _, _, _, _, _, _, _, _, _, _, _, _, _, _, _, _, _, _, _, _, _, _]) rfl ?_
      have hfl : (ls.take (j + 1)).filter (fun x => !p x) = (ls.take j).filter (fun x => !p x) ++ (if p ls[j] then [] else [ls[j]]) := by
        rw [List.take_succ_eq_append_getElem hlt, List.filter_append]
        congr 1
        by_cases hp : p ls[j] = true <;> simp [hp]
      refine XW_if rfl (fun hp => ?_) (fun hp => ?_)
      · have hp : p ls[j] = false := by simpa using hp
        refine XW_sr ?_
        refine OW_mv rfl rfl ?_
        refine OW_mv rfl rfl ?_
        refine OW_load rfl rfl (aLoad_ptr T25 put_same rfl rfl) ?_
        refine OW_ia rfl rfl rfl (ia_slc0 T22 rfl T25 rfl (show i < ls.length by omega)) ?_
        refine OW_store rfl rfl rfl (Se.store (l := ls[j]) (l0 := l0) (by rw [put_ne (hqa (by repeat (first | exact under_me | apply under_in))), put_ne (hqa (by repeat (first | exact under_me | apply under_in)))]; exact hqz) hl0) ?_
        refine OW_nilE (e' := [_, _, _, _, _, _, _, _, _, _, _, _, _, _, _, _, _, _, _, _, _, _, _, _, _, _, _, _, _, _, _, _, _, _, _, _, _, _, _, _, _, _]) rfl ?_
        refine XW_region ?_
        refine OW_mv rfl rfl ?_
        first
          | refine OW_bin rfl rfl rfl rfl (add64 (by omega)) ?_
          | refine OW_bin rfl rfl rfl rfl (addu64 (by omega)) ?_
          | refine OW_bin rfl rfl rfl rfl rfl ?_
        refine OW_as rfl rfl ?_
        refine OW_nilE (e' := [_, _, _, _, _, _, _, _, _, _, _, _, _, _, _, _, _, _, _, _, _, _, _, _, _, _, _, _, _, _, _, _, _, _, _, _, _, _, _, _, _, _]) rfl ?_
        refine block_norm ?_
        refine then_norm ?_
        refine XW_region ?_
        refine OW_mv rfl rfl ?_
        first
          | refine OW_bin rfl rfl rfl rfl (add64 (by omega)) ?_
          | refine OW_bin rfl rfl rfl rfl (addu64 (by omega)) ?_
          | refine OW_bin rfl rfl rfl rfl rfl ?_
        refine OW_as rfl rfl ?_
        refine OW_nilE (e' := [_, _, _, _, _, _, _, _, _, _, _, _, _, _, _, _, _, _, _, _, _, _, _, _, _, _, _, _, _, _, _, _, _, _, _, _, _, _, _, _, _, _]) rfl ?_
        have hil : i < ks.length := by omega
        have hki2 : (ks.set i ls[j]).take (i + 1) = (ls.take (j + 1)).filter (fun x => !p x) := by
          rw [hfl, ← hki, if_neg (by simp [hp]), List.take_set, List.take_succ_eq_append_getElem hil, List.set_append_right _ _ (by rw [List.length_take]; omega), List.length_take, Nat.min_eq_left (by omega), Nat.sub_self, List.set_cons_zero]
        refine ⟨ls.length - (j + 1), by omega, i + 1, j + 1, zs.set i ls[j].enc, ks.set i ls[j], rfl, by omega, by omega, fun p hp => under_dn (hsub p hp), put_same, by simpa using hzl, ?_, by simpa using hkl, hki2, ?_, ?_, env_g rfl⟩
        · rw [List.take_set, hzk, List.map_set]
        · rw [List.drop_set_of_lt (by omega), ← List.drop_drop, hkj, List.drop_drop]
        · intro p' hp1 hp2
          have hpa : ∀ {l : Nm}, under ν' l = true → p' ≠ l := fun hl => far (hsub p' hp2) hl
          rw [put_ne hp1, put_ne (hpa (by repeat (first | exact under_me | apply under_in))), put_ne (hpa (by repeat (first | exact under_me | apply under_in)))]
          exact hfr p' hp1 hp2
      · have hp : p ls[j] = true := by simpa using hp
        refine XW_skip ?_
        refine block_norm ?_
        refine then_norm ?_
        refine XW_region ?_
        refine OW_mv rfl rfl ?_
        first
          | refine OW_bin rfl rfl rfl rfl (add64 (by omega)) ?_
          | refine OW_bin rfl rfl rfl rfl (addu64 (by omega)) ?_
          | refine OW_bin rfl rfl rfl rfl rfl ?_
        refine OW_as rfl rfl ?_
        refine OW_nilE (e' := [_, _, _, _, _, _, _, _, _, _, _, _, _, _, _, _, _, _, _, _, _, _, _, _, _, _, _, _, _, _, _, _, _, _, _, _, _, _, _, _, _, _]) rfl ?_
        refine ⟨ls.length - (j + 1), by omega, i, j + 1, zs, ks, rfl, by omega, by omega, fun p hp => under_dn (hsub p hp), ?_, hzl, hzk, hkl, ?_, ?_, ?_, env_g rfl⟩
        · rw [put_ne (hqa (by repeat (first | exact under_me | apply under_in))), put_ne (hqa (by repeat (first | exact under_me | apply under_in)))]; exact hqz
        · rw [hki, hfl, if_pos hp, List.append_nil]
        · rw [← List.drop_drop, hkj, List.drop_drop]
        · intro p' hp1 hp2
          have hpa : ∀ {l : Nm}, under ν' l = true → p' ≠ l := fun hl => far (hsub p' hp2) hl
          rw [put_ne (hpa (by repeat (first | exact under_me | apply under_in))), put_ne (hpa (by repeat (first | exact under_me | apply under_in)))]
          exact hfr p' hp1 hp2
    · have hge : ls.length ≤ j := by simpa using ht
      obtain rfl : j = ls.length := by omega
      refine XW_exit ?_
      refine then_exit ?_
      refine block_exit ?_
      refine then_norm ?_
      refine XW_sr ?_
      refine OW_mv rfl rfl ?_
      refine OW_mv rfl rfl ?_
      refine OW_sl rfl rfl rfl rfl rfl (slc_lo (i := i) T22 rfl T25 rfl (by omega)) ?_
      refine OW_bi rfl rfl (clear_slc T22 rfl T25 rfl hqz (by omega) rfl) ?_
      refine OW_nilE (e' := [_, _, _, _, _, _, _, _, _, _, _, _, _, _, _, _, _, _, _, _, _, _, _, _, _, _, _, _, _, _, _, _, _, _, _, _, _, _, _, _, _, _]) rfl ?_
      refine XW_sr ?_
      refine OW_mv rfl rfl ?_
      refine OW_mv rfl rfl ?_
      refine OW_sl rfl rfl rfl rfl rfl (slc_hi (i := i) T22 rfl T25 rfl (by omega)) ?_
      refine OW_env (e' := [_, _, _, _, _, _, _, _, _, _, _, _, _, _, _, _, _, _, _, _, _, _, _, _, _, _, _, _, _, _, _, _, _, _, _, _, _, _, _, _, _, _]) rfl ?_
      refine OW_as rfl rfl ?_
      refine OW_nilE (e' := [_, _, _, _, _, _, _, _, _, _, _, _, _, _, _, _, _, _, _, _, _, _, _, _, _, _, _, _, _, _, _, _, _, _, _, _, _, _, _, _, _, _]) rfl ?_
      refine XW_ret ?_
      rw [List.take_length] at hki
      refine ret_ret rfl (hq _ _ ?_ ?_)
      · have hzi : zs.take i = (ls.filter fun x => !p x).map Se.enc := by
          rw [← hki, List.map_take, ← hzk, List.take_take]; congr 1; omega
        refine .row put_same ?_ ?_
        · rw [List.length_map, ← hki, List.length_take]; omega
        · rw [Nat.zero_add, List.append_assoc, List.take_append_of_le_length (by simp; omega), List.take_take, Nat.min_self]; exact hzi
      · intro p hp hp2
        have hp' : p ≠ q := by simpa using hp
        rw [put_ne hp']; exact hfr p hp' hp2
/-- The same, side by side with other things; b: the box that the test looks at. -/
theorem Se.delS {ν β ps pos' : Nm} {H : Heap} {Q : AVal → Heap → Prop} {L : List Asr} {k kb : Nat} {ls : List Se} {S u : AVal} {b : Nm} {f : FuncId} {caps : List AVal} {p : Se → Bool} (hf : Se.FnP f caps [b] H p) (hS : Own β ps H L) (hle : le ps ν) (hk : L[k]? = some (sl S 3 (ls.map Se.enc))) (hkb : L[kb]? = some (row b 1 [u])) (hne : k ≠ kb) (hpos : before ν pos') (hn : ls.length ≤ 4611686018427387904)
    (hq : ∀ v H', Own β pos' H' (L.set k (sl v 3 ((ls.filter fun x => !p x).map Se.enc))) → Q v H') : CW cfg ν 23 [S, .fn f caps] H Q := by
  obtain ⟨fp, g, hs, hg, hd, hfp, hgp, hup⟩ := hS.two hk hkb hne
  have hs : Sl H 3 (ls.map Se.enc) S fp := hs
  obtain ⟨rfl, hb⟩ : g = [b] ∧ H b = some (.row 1 [u]) := hg
  refine Se.delF hf (fun b' hb' => ?_) (fun q hq => (hle _ (hfp q hq).1).under) hs hn fun v H' hs' hfr => ?_
  · obtain rfl : b' = b := by simpa using hb'
    exact ⟨fun hm => hd _ hm (by simp), (hle _ (hgp _ (by simp)).1).under⟩
  · exact hq v H' (hup H' fp (sl v 3 ((ls.filter fun x => !p x).map Se.enc)) pos' (hle.trans (le_bef hpos)) hs' (fun p hp hb => hfr p hp (hle _ hb).under) (fun p hp => .inl hp) (fun p hp => ⟨(hle _ (hfp p hp).1).trans hpos, (hfp p hp).2⟩))
theorem Se.clone {ν β ps pos' : Nm} {H : Heap} {Q : AVal → Heap → Prop} {L : List Asr} {ls : List Se} {S : AVal} (hv : Ls S (ls.map Se.enc)) (hS : Own β ps H L) (hle : le ps ν) (hβ : under β ν = true) (hp : before ν pos') (hn : ls.length ≤ 4294967296)
    (hq : ∀ v H', Own β pos' H' (sl v 3 (ls.map Se.enc) :: L) → Q v H') : CW cfg ν 24 [S] H Q := by
  have body : ∀ S, (S = .nls ∨ S = .nne) → XW cfg ν fi24.body (start fi24 [S]) (fun _ => none) (retW cfg.T fi24 fun v _ => isEmp v = true) := by
    rintro S (rfl | rfl)
    · refine XW_sr ?_
      refine OW_as rfl rfl ?_
      refine OW_nilE (e' := [_, _, _, _, _, _, _, _]) rfl ?_
      refine XW_seq ?_
      refine XW_sr ?_
      refine OW_mv rfl rfl ?_
      first
        | refine OW_bin rfl rfl rfl rfl (eq_yes (by omega)) ?_
        | refine OW_bin rfl rfl rfl rfl (eq_no (by omega)) ?_
        | refine OW_bin rfl rfl rfl rfl rfl ?_
      refine OW_nilE (e' := [_, _, _, _, _, _, _, _]) rfl ?_
      refine XW_yes rfl rfl ?_
      refine XW_sr ?_
      refine OW_as rfl rfl ?_
      refine OW_nilE (e' := [_, _, _, _, _, _, _, _]) rfl ?_
      refine XW_ret ?_
      refine then_ret ?_
      exact ret_ret rfl rfl
    · refine XW_sr ?_
      refine OW_as rfl rfl ?_
      refine OW_nilE (e' := [_, _, _, _, _, _, _, _]) rfl ?_
      refine XW_seq ?_
      refine XW_sr ?_
      refine OW_mv rfl rfl ?_
      first
        | refine OW_bin rfl rfl rfl rfl (eq_yes (by omega)) ?_
        | refine OW_bin rfl rfl rfl rfl (eq_no (by omega)) ?_
        | refine OW_bin rfl rfl rfl rfl rfl ?_
      refine OW_nilE (e' := [_, _, _, _, _, _, _, _]) rfl ?_
      refine XW_no rfl rfl ?_
      refine XW_skip ?_
      refine then_norm ?_
      refine XW_sr ?_
      refine OW_bs rfl rfl rfl ?_
      refine OW_mv rfl rfl ?_
      refine OW_bi rfl rfl rfl ?_
      refine OW_env (e' := [_, _, _, _, _, _, _, _]) rfl ?_
      refine OW_as rfl rfl ?_
      refine OW_nilE (e' := [_, _, _, _, _, _, _, _]) rfl ?_
      refine XW_ret ?_
      exact ret_ret rfl rfl
  by_cases h0 : noneIn [S] = true
  · refine CW_clone0 g24 F24 rfl h0 (body _ (.inl rfl)) (body _ (.inr rfl)) (hq _ _ ?_)
    obtain rfl : ls = [] := by
      rcases hv with rfl | ⟨h, _⟩
      · cases ls with
        | nil => rfl
        | cons x r => simp [noneIn] at h0
      · simpa using h
    exact (hS.mono (hle.trans (le_bef hp))).addE
  · have h0 : noneIn [S] = false := by simpa using h0
    rcases hv with rfl | ⟨h, rfl | rfl⟩
    · obtain ⟨x, r, rfl⟩ : ∃ x r, ls = x :: r := by
        cases ls with
        | nil => simp [noneIn] at h0
        | cons x r => exact ⟨x, r, rfl⟩
      refine CW_clone g24 F24 rfl h0 ?_
      refine XW_sr ?_
      refine OW_as rfl rfl ?_
      refine OW_nilE (e' := [_, _, _, _, _, _, _, _]) rfl ?_
      refine XW_seq ?_
      refine XW_sr ?_
      refine OW_mv rfl rfl ?_
      first
        | refine OW_bin rfl rfl rfl rfl (eq_yes (by omega)) ?_
        | refine OW_bin rfl rfl rfl rfl (eq_no (by omega)) ?_
        | refine OW_bin rfl rfl rfl rfl rfl ?_
      refine OW_nilE (e' := [_, _, _, _, _, _, _, _]) rfl ?_
      refine XW_no rfl rfl ?_
      refine XW_skip ?_
      refine then_norm ?_
      refine XW_sr ?_
      refine OW_bs rfl rfl rfl ?_
      refine OW_mv rfl rfl ?_
      refine OW_appE (hS.mono hle) (le_app (b := [2, 0, 1, 1])) (under_app [2, 0, 1, 1] hβ) rfl rfl rfl rfl rfl rfl rfl rfl (Ls.elems Ls.of) (map_wide (fun _ => rfl)) (by simpa using hn) (by decide) fun O2 H2 hS2 => ?_
      refine OW_env (e' := [_, _, _, _, _, _, _, _]) rfl ?_
      refine OW_as rfl rfl ?_
      refine OW_nilE (e' := [_, _, _, _, _, _, _, _]) rfl ?_
      refine XW_ret ?_
      exact ret_ret rfl (hq _ _ (hS2.mono (le_bef (bef_app (a := [3, 0, 1, 1]) hp))))
    · simp [noneIn] at h0
    · obtain rfl : ls = [] := by simpa using h
      refine CW_clone g24 F24 rfl rfl ?_
      refine XW_sr ?_
      refine OW_as rfl rfl ?_
      refine OW_nilE (e' := [_, _, _, _, _, _, _, _]) rfl ?_
      refine XW_seq ?_
      refine XW_sr ?_
      refine OW_mv rfl rfl ?_
      first
        | refine OW_bin rfl rfl rfl rfl (eq_yes (by omega)) ?_
        | refine OW_bin rfl rfl rfl rfl (eq_no (by omega)) ?_
        | refine OW_bin rfl rfl rfl rfl rfl ?_
      refine OW_nilE (e' := [_, _, _, _, _, _, _, _]) rfl ?_
      refine XW_yes rfl rfl ?_
      refine XW_sr ?_
      refine OW_as rfl rfl ?_
      refine OW_nilE (e' := [_, _, _, _, _, _, _, _]) rfl ?_
      refine XW_ret ?_
      refine then_ret ?_
      exact ret_ret rfl (hq _ _ (hS.mono (hle.trans (le_bef hp))).addN)
end Go.Proofs.Ytlnoligkgkngaaa.X
