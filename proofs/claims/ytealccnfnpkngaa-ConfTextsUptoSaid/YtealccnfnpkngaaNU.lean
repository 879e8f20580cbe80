/- So many numbers of a text (layers 13, 14). -/
import Derived.Test.YtealccnfnpkngaaY3
import Derived.Test.YtealccnfnpkngaaMp
set_option linter.unusedVariables false
set_option linter.unusedSimpArgs false
set_option maxRecDepth 100000
namespace Go.Proofs.Ytealccnfnpkngaa.X
open Go Go.RowKit WM
theorem EZ30_NU {c : Cfg} {ν : Nm} {e : Env} {H : Heap} {all : Array Oper} {i : Nat} {Q : Env → Heap → Prop} {x0 x1 x2 x3 x4 x5 x6 x7 x8 x9 x10 x11 x12 x13 x14 x15 x16 x17 x18 x19 x20 x21 x22 x23 x24 x25 x26 x27 x28 x29 : AVal} (he : e = [x0,x1,x2,x3,x4,x5,x6,x7,x8,x9,x10,x11,x12,x13,x14,x15,x16,x17,x18,x19,x20,x21,x22,x23,x24,x25,x26,x27,x28,x29]) (h : Q [x0,x1,x2,x3,x4,x5,x6,x7,x8,x9,x10,x11,x12,x13,x14,x15,x16,x17,x18,x19,x20,x21,x22,x23,x24,x25,x26,x27,x28,x29] H) : OW c ν all [] i e H Q := by subst he; exact OW_nil h
theorem EZ31_NU {c : Cfg} {ν : Nm} {e : Env} {H : Heap} {all : Array Oper} {i : Nat} {Q : Env → Heap → Prop} {x0 x1 x2 x3 x4 x5 x6 x7 x8 x9 x10 x11 x12 x13 x14 x15 x16 x17 x18 x19 x20 x21 x22 x23 x24 x25 x26 x27 x28 x29 x30 : AVal} (he : e = [x0,x1,x2,x3,x4,x5,x6,x7,x8,x9,x10,x11,x12,x13,x14,x15,x16,x17,x18,x19,x20,x21,x22,x23,x24,x25,x26,x27,x28,x29,x30]) (h : Q [x0,x1,x2,x3,x4,x5,x6,x7,x8,x9,x10,x11,x12,x13,x14,x15,x16,x17,x18,x19,x20,x21,x22,x23,x24,x25,x26,x27,x28,x29,x30] H) : OW c ν all [] i e H Q := by subst he; exact OW_nil h
variable {ν : Nm} {H : Heap} {Q : AVal → Heap → Prop}
def encN (n : Int) : AVal := .int .u64 n
def resN (m : Nat) (s : ByteArray) : List Int × ByteArray × Bool := match cI.manyT m s.data.toList with
  | some (l, r) => (l, ba r, true)
  | none => ([], ⟨#[]⟩, false)
theorem cI_yes {s : ByteArray} (h : (resU s).2.2 = true) : cI.tk s.data.toList = some ((resU s).1, (resU s).2.1.data.toList) := by
  rcases cI_res s with ⟨h1, _⟩ | ⟨_, h2⟩
  · rw [h1] at h; cases h
  · exact h2
theorem cI_no {s : ByteArray} (h : (resU s).2.2 = false) : cI.tk s.data.toList = none := by
  rcases cI_res s with ⟨_, _, h2⟩ | ⟨h1, _⟩
  · exact h2
  · rw [h1] at h; cases h
theorem takeN_c {s : ByteArray} {m : Nat} (hs : s.size ≤ 4611686018427387904) (hm : m ≤ 16) (hq : Q (.tup [.lst ((resN m s).1.map encN), .str (resN m s).2.1, .bool (resN m s).2.2]) H) : CW cfg ν 48 [.str s, .int .i64 m] H Q := by
  refine CW_pure g48 F48 rfl ?_
  have hS0 : Own ν ν (fun _ => none) [] := Own.nil
  refine XW_sr ?_
  refine OW_as rfl rfl ?_
  refine OW_as rfl rfl ?_
  refine OW_as rfl rfl ?_
  refine EZ30_NU rfl ?_
  refine XW_sr ?_
  refine OW_as rfl rfl ?_
  refine EZ30_NU rfl ?_
  refine XW_seq ?_
  refine XW_sr ?_
  refine OW_mv rfl rfl ?_
  refine OW_mv rfl rfl ?_
  refine EZ30_NU rfl ?_
  refine XW_block ?_
  refine XW_whileN (I := fun ν' mm ee H' => ∃ (i : Nat) (O : AVal) (acc : List Int) (rest : ByteArray), mm = m - i ∧ under (1 :: 0 :: 1 :: 1 :: ν) ν' = true ∧ Own ν ν' H' ([sl O 1 (acc.map encN)]) ∧ (cI.Far m s.data.toList i acc rest.data.toList ∧ rest.size ≤ s.size) ∧ ∃ g : Nat → AVal, ee = [.str rest, .int .i64 m, g 2, g 3, g 4, g 5, g 6, O, g 8, g 9, g 10, .int .i64 m, .int .i64 i, g 13, g 14, g 15, g 16, g 17, g 18, g 19, g 20, g 21, g 22, g 23, g 24, g 25, g 26, g 27, g 28, g 29]) ?_ _ _ _ _ ⟨0, .nls, [], s, rfl, under_me, Own.cast (Own.mono (hS0.addN (w := 1)) (le_app (p := ν) (b := [1, 0, 1, 1]))) (rfl), (⟨cI.far0 m _, Nat.le_refl _⟩), env_g rfl⟩
  rintro ν1 mm ee H1 ⟨i, O, acc, rest, rfl, hU1, hS1, ⟨hF, hrs⟩, g1, rfl⟩
  refine XW_sr ?_
  refine OW_bin rfl rfl rfl rfl rfl ?_
  refine EZ30_NU rfl ?_
  refine XW_seq ?_
  refine XW_if rfl (fun h3 => ?_) (fun h3 => ?_)
  ·try simp only [bs] at h3
   refine XW_skip ?_
   refine then_norm ?_
   refine XW_seq ?_
   refine XW_block ?_
   refine XW_sr ?_
   have hal := hF.2.1; have hz := resU_size rest
   refine OW_mv rfl rfl ?_
   refine OW_fn rfl rfl (takeU_c (by omega) ?_) 
   refine OW_mv rfl rfl ?_
   refine OW_env (e' := [_,_,_,_,_,_,_,_,_,_,_,_,_,_,_,_,_,_,_,_,_,_,_,_,_,_,_,_,_,_]) rfl ?_
   refine OW_ex rfl rfl rfl ?_
   refine OW_ex rfl rfl rfl ?_
   refine OW_ex rfl rfl rfl ?_
   refine OW_env (e' := [_,_,_,_,_,_,_,_,_,_,_,_,_,_,_,_,_,_,_,_,_,_,_,_,_,_,_,_,_,_]) rfl ?_
   refine OW_as rfl rfl ?_
   refine OW_as rfl rfl ?_
   refine OW_as rfl rfl ?_
   refine EZ30_NU rfl ?_
   refine XW_seq ?_
   refine XW_sr ?_
   refine OW_mv rfl rfl ?_
   refine OW_un rfl rfl rfl ?_
   refine EZ30_NU rfl ?_
   refine XW_if rfl (fun h5 => ?_) (fun h5 => ?_)
   ·try simp only [bs] at h5
    refine XW_sr ?_
    refine OW_as rfl rfl ?_
    refine OW_as rfl rfl ?_
    refine OW_as rfl rfl ?_
    refine EZ30_NU rfl ?_
    refine XW_ret ?_
    refine then_ret ?_
    refine block_ret ?_
    refine then_ret ?_
    refine block_ret ?_
    refine then_ret ?_
    -- outcome 1
    refine ret_ret (res3 rfl (rv_tmp rfl) (rv_tmp rfl) (rv_tmp rfl)) (frz3 (Q := Q) (by first | exact freeze_plain rfl | exact Ls.freeze (by assumption) | exact Ls.freeze Ls.of | exact Ls.freeze Ls.emp | exact Ls.freeze Ls.nls) (by first | exact freeze_plain rfl | exact Ls.freeze (by assumption) | exact Ls.freeze Ls.of | exact Ls.freeze Ls.emp | exact Ls.freeze Ls.nls) (by first | exact freeze_plain rfl | exact Ls.freeze (by assumption) | exact Ls.freeze Ls.of | exact Ls.freeze Ls.emp | exact Ls.freeze Ls.nls) ?_)
    first | (rw [resN, Cod.far_none hF (by omega) (cI_no (by assumption))] at hq; exact hq) | (rw [resN, Cod.far_end hF (by omega)] at hq; exact hq)
   ·try simp only [bs] at h5
    refine XW_skip ?_
    refine then_norm ?_
    refine XW_region ?_
    refine OW_mv rfl rfl ?_
    refine OW_mv rfl rfl ?_
    refine OW_bs rfl rfl (v := .lst [_]) rfl ?_
    refine OW_env (e' := [_,_,_,_,_,_,_,_,_,_,_,_,_,_,_,_,_,_,_,_,_,_,_,_,_,_,_,_,_,_]) rfl ?_
    refine OW_app hS1 (k := 0) rfl (le_app (p := ν1) (b := [3, 1, 1, 0, 1, 1, 0])) (under_app [3, 1, 1, 0, 1, 1, 0] (under_trans (under_app [1, 0, 1, 1] under_me) hU1)) rfl rfl rfl rfl rfl rfl rfl rfl (by first | rfl | exact Ls.elems (by assumption)) (by first | exact one_wide rfl | exact map_wide (fun _ => rfl) | assumption | (intro y hy; simp at hy; done)) (by first | omega | (simp only [ss]; omega) | (simp; omega)) (by decide) fun O1 H2 hS2 => ?_
    replace hS2 : Own _ _ _ ([_]) := hS2
    refine OW_mv rfl rfl ?_
    refine OW_as rfl rfl ?_
    refine OW_env (e' := [_,_,_,_,_,_,_,_,_,_,_,_,_,_,_,_,_,_,_,_,_,_,_,_,_,_,_,_,_,_]) rfl ?_
    refine OW_as rfl rfl ?_
    refine EZ30_NU rfl ?_
    refine block_norm ?_
    refine then_norm ?_
    refine XW_region ?_
    first
    | refine OW_bin rfl rfl rfl rfl (add_w64 (by first | omega | assumption | (simp only [ss]; omega))) ?_
    | refine OW_bin rfl rfl rfl rfl rfl ?_
    refine OW_mv rfl rfl ?_
    refine EZ30_NU rfl ?_
    -- round 0.1
    refine ⟨_, ?_, i + 1, O1, acc ++ [(resU rest).1], (resU rest).2.1, rfl, under_in hU1, Own.cast (Own.mono (hS2) (le_lit (ν := ν1) (a := [4, 1, 1, 0, 1, 1, 0]) (b := [1]) (by decide))) (by rw [List.map_append]; rfl), ?_, env_g rfl⟩
    · first | omega | (simp; omega)
    · exact ⟨Cod.far_step hF (by omega) (cI_yes (by assumption)), by omega⟩
  ·try simp only [bs] at h3
   refine XW_exit ?_
   refine then_exit ?_
   refine block_exit ?_
   refine then_norm ?_
   refine XW_sr ?_
   refine OW_mv rfl rfl ?_
   refine OW_mv rfl rfl ?_
   refine OW_as rfl rfl ?_
   refine OW_env (e' := [_,_,_,_,_,_,_,_,_,_,_,_,_,_,_,_,_,_,_,_,_,_,_,_,_,_,_,_,_,_]) rfl ?_
   refine OW_as rfl rfl ?_
   refine OW_as rfl rfl ?_
   refine EZ30_NU rfl ?_
   refine XW_ret ?_
   -- outcome 2
   refine ret_ret (res3 rfl (rv_tmp rfl) (rv_tmp rfl) (rv_tmp rfl)) (frz3 (Q := Q) (by first | exact hS1.frz (k := 0) rfl (by first | exact map_plain (fun _ => rfl) | (intro x hx; simp at hx; done)) | exact freeze_plain rfl | exact Ls.freeze (by assumption) | exact Ls.freeze Ls.of | exact Ls.freeze Ls.emp | exact Ls.freeze Ls.nls) (by first | exact freeze_plain rfl | exact Ls.freeze (by assumption) | exact Ls.freeze Ls.of | exact Ls.freeze Ls.emp | exact Ls.freeze Ls.nls) (by first | exact freeze_plain rfl | exact Ls.freeze (by assumption) | exact Ls.freeze Ls.of | exact Ls.freeze Ls.emp | exact Ls.freeze Ls.nls) ?_)
   first | (rw [resN, Cod.far_none hF (by omega) (cI_no (by assumption))] at hq; exact hq) | (rw [resN, Cod.far_end hF (by omega)] at hq; exact hq)
theorem rnums_c {s : ByteArray} {m : Nat} (hs : s.size ≤ 4611686018427387904) (hm : m ≤ 16) (hq : Q (.tup [.lst ((resN m s).1.map encN), .str (resN m s).2.1, .bool (resN m s).2.2]) H) : CW cfg ν 49 [.str s, .int .i64 m] H Q := by
  refine CW_pure g49 F49 rfl ?_
  have hS0 : Own ν ν (fun _ => none) [] := Own.nil
  refine XW_sr ?_
  refine OW_as rfl rfl ?_
  refine OW_as rfl rfl ?_
  refine OW_as rfl rfl ?_
  refine EZ31_NU rfl ?_
  refine XW_sr ?_
  refine OW_bs rfl rfl rfl ?_
  refine OW_as rfl rfl ?_
  refine EZ31_NU rfl ?_
  refine XW_seq ?_
  refine XW_block ?_
  refine XW_whileN (I := fun ν' mm ee H' => ∃ (i : Nat) (O : AVal) (acc : List Int) (rest : ByteArray), mm = m - i ∧ under (0 :: 1 :: 1 :: ν) ν' = true ∧ Own ν ν' H' ([sl O 1 (acc.map encN)]) ∧ (cI.Far m s.data.toList i acc rest.data.toList ∧ rest.size ≤ s.size ∧ acc.length = i) ∧ ∃ g : Nat → AVal, ee = [.str rest, .int .i64 m, g 2, g 3, g 4, g 5, g 6, O, g 8, g 9, g 10, g 11, g 12, g 13, g 14, g 15, g 16, g 17, g 18, g 19, g 20, g 21, g 22, g 23, g 24, g 25, g 26, g 27, g 28, g 29, g 30]) ?_ _ _ _ _ ⟨0, .emp, [], s, rfl, under_me, Own.cast (Own.mono (hS0.addE (w := 1)) (le_app (p := ν) (b := [0, 1, 1]))) (rfl), (⟨cI.far0 m _, Nat.le_refl _, rfl⟩), env_g rfl⟩
  rintro ν1 mm ee H1 ⟨i, O, acc, rest, rfl, hU1, hS1, ⟨hF, hrs, hal⟩, g1, rfl⟩
  refine XW_seq ?_
  refine XW_sr ?_
  refine OW_mv rfl rfl ?_
  refine OW_lenO hS1 (k := 0) rfl rfl rfl rfl rfl rfl (by first | exact List.length_map _ | exact len_app1 | exact len_drop | (simp only [ss]; rfl) | rfl) ?_
  refine OW_mv rfl rfl ?_
  refine OW_env (e' := [_,_,_,_,_,_,_,_,_,_,_,_,_,_,_,_,_,_,_,_,_,_,_,_,_,_,_,_,_,_,_]) rfl ?_
  refine OW_bin rfl rfl rfl rfl rfl ?_
  refine EZ31_NU rfl ?_
  refine XW_if rfl (fun h2 => ?_) (fun h2 => ?_)
  ·try simp only [bs] at h2
   refine XW_skip ?_
   refine then_norm ?_
   refine XW_block ?_
   refine XW_sr ?_
   have hz := resU_size rest
   refine OW_mv rfl rfl ?_
   refine OW_fn rfl rfl (rtakeU (by omega) ?_) 
   refine OW_mv rfl rfl ?_
   refine OW_env (e' := [_,_,_,_,_,_,_,_,_,_,_,_,_,_,_,_,_,_,_,_,_,_,_,_,_,_,_,_,_,_,_]) rfl ?_
   refine OW_ex rfl rfl rfl ?_
   refine OW_ex rfl rfl rfl ?_
   refine OW_ex rfl rfl rfl ?_
   refine OW_env (e' := [_,_,_,_,_,_,_,_,_,_,_,_,_,_,_,_,_,_,_,_,_,_,_,_,_,_,_,_,_,_,_]) rfl ?_
   refine OW_as rfl rfl ?_
   refine OW_as rfl rfl ?_
   refine OW_as rfl rfl ?_
   refine EZ31_NU rfl ?_
   refine XW_seq ?_
   refine XW_sr ?_
   refine OW_mv rfl rfl ?_
   refine OW_un rfl rfl rfl ?_
   refine EZ31_NU rfl ?_
   refine XW_if rfl (fun h4 => ?_) (fun h4 => ?_)
   ·try simp only [bs] at h4
    refine XW_sr ?_
    refine OW_as rfl rfl ?_
    refine OW_as rfl rfl ?_
    refine OW_as rfl rfl ?_
    refine EZ31_NU rfl ?_
    refine XW_ret ?_
    refine then_ret ?_
    refine block_ret ?_
    refine block_ret ?_
    refine then_ret ?_
    -- outcome 1
    refine ret_ret (res3 rfl (rv_tmp rfl) (rv_tmp rfl) (rv_tmp rfl)) (frz3 (Q := Q) (by first | exact freeze_plain rfl | exact Ls.freeze (by assumption) | exact Ls.freeze Ls.of | exact Ls.freeze Ls.emp | exact Ls.freeze Ls.nls) (by first | exact freeze_plain rfl | exact Ls.freeze (by assumption) | exact Ls.freeze Ls.of | exact Ls.freeze Ls.emp | exact Ls.freeze Ls.nls) (by first | exact freeze_plain rfl | exact Ls.freeze (by assumption) | exact Ls.freeze Ls.of | exact Ls.freeze Ls.emp | exact Ls.freeze Ls.nls) ?_)
    first | (rw [resN, Cod.far_none hF (by omega) (cI_no (by assumption))] at hq; exact hq) | (rw [resN, Cod.far_end hF (by omega)] at hq; exact hq)
   ·try simp only [bs] at h4
    refine XW_skip ?_
    refine then_norm ?_
    refine XW_sr ?_
    refine OW_mv rfl rfl ?_
    refine OW_mv rfl rfl ?_
    refine OW_bs rfl rfl (v := .lst [_]) rfl ?_
    refine OW_env (e' := [_,_,_,_,_,_,_,_,_,_,_,_,_,_,_,_,_,_,_,_,_,_,_,_,_,_,_,_,_,_,_]) rfl ?_
    refine OW_app hS1 (k := 0) rfl (le_app (p := ν1) (b := [3, 0, 1, 1, 1, 0])) (under_app [3, 0, 1, 1, 1, 0] (under_trans (under_app [0, 1, 1] under_me) hU1)) rfl rfl rfl rfl rfl rfl rfl rfl (by first | rfl | exact Ls.elems (by assumption)) (by first | exact one_wide rfl | exact map_wide (fun _ => rfl) | assumption | (intro y hy; simp at hy; done)) (by first | omega | (simp only [ss]; omega) | (simp; omega)) (by decide) fun O1 H2 hS2 => ?_
    replace hS2 : Own _ _ _ ([_]) := hS2
    refine OW_as rfl rfl ?_
    refine EZ31_NU rfl ?_
    refine XW_region ?_
    refine OW_mv rfl rfl ?_
    refine OW_as rfl rfl ?_
    refine EZ31_NU rfl ?_
    refine block_norm ?_
    -- round 0.1
    refine ⟨_, ?_, i + 1, O1, acc ++ [(resU rest).1], (resU rest).2.1, rfl, under_in hU1, Own.cast (Own.mono (hS2) (le_lit (ν := ν1) (a := [4, 0, 1, 1, 1, 0]) (b := [1]) (by decide))) (by rw [List.map_append]; rfl), ?_, env_g rfl⟩
    · first | omega | (simp; omega)
    · exact ⟨Cod.far_step hF (by omega) (cI_yes (by assumption)), by omega, by rw [List.length_append, hal]; rfl⟩
  ·try simp only [bs] at h2
   refine XW_exit ?_
   refine then_exit ?_
   refine block_exit ?_
   refine then_norm ?_
   refine XW_sr ?_
   refine OW_mv rfl rfl ?_
   refine OW_mv rfl rfl ?_
   refine OW_as rfl rfl ?_
   refine OW_env (e' := [_,_,_,_,_,_,_,_,_,_,_,_,_,_,_,_,_,_,_,_,_,_,_,_,_,_,_,_,_,_,_]) rfl ?_
   refine OW_as rfl rfl ?_
   refine OW_as rfl rfl ?_
   refine EZ31_NU rfl ?_
   refine XW_ret ?_
   -- outcome 2
   refine ret_ret (res3 rfl (rv_tmp rfl) (rv_tmp rfl) (rv_tmp rfl)) (frz3 (Q := Q) (by first | exact hS1.frz (k := 0) rfl (by first | exact map_plain (fun _ => rfl) | (intro x hx; simp at hx; done)) | exact freeze_plain rfl | exact Ls.freeze (by assumption) | exact Ls.freeze Ls.of | exact Ls.freeze Ls.emp | exact Ls.freeze Ls.nls) (by first | exact freeze_plain rfl | exact Ls.freeze (by assumption) | exact Ls.freeze Ls.of | exact Ls.freeze Ls.emp | exact Ls.freeze Ls.nls) (by first | exact freeze_plain rfl | exact Ls.freeze (by assumption) | exact Ls.freeze Ls.of | exact Ls.freeze Ls.emp | exact Ls.freeze Ls.nls) ?_)
   first | (rw [resN, Cod.far_none hF (by omega) (cI_no (by assumption))] at hq; exact hq) | (rw [resN, Cod.far_end hF (by omega)] at hq; exact hq)
end Go.Proofs.Ytealccnfnpkngaa.X
