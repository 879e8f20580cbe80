/- Layer 19: slices.Delete, slices.IndexFunc, slices.DeleteFunc over letters. -/
import Derived.Test.YtollcfhmmlpleaaM1
set_option linter.unusedVariables false
set_option linter.unusedSimpArgs false
set_option maxRecDepth 100000
namespace Go.Proofs.Ytollcfhmmlpleaa.X
open Go Go.RowKit
variable {ν qm : Nm} {H : Heap} {Q : AVal → Heap → Prop} {ls : List Lt} {S : AVal} {fp : List Nm}
theorem enc_w (l : Lt) : l.enc.cells.length = 3 := rfl
theorem enc_ws (ls : List Lt) : ∀ y ∈ ls.map Lt.enc, y.cells.length = 3 := by
  intro y hy
  obtain ⟨l, _, rfl⟩ := List.mem_map.1 hy
  rfl
theorem del (h : Sl H 3 (ls.map Lt.enc) S fp) {i : Nat} (hi : i < ls.length) (hn : ls.length ≤ 4611686018427387904) (hq : ∀ v H', Sl H' 3 ((ls.eraseIdx i).map Lt.enc) v fp → (∀ p, p ∉ fp → H' p = H p) → Q v H') : CW cfg ν 19 [S, .int .i64 i, .int .i64 ((i + 1 : Nat) : Int)] H Q := by
  cases h with
  | emp h =>
    have : ls = [] := by simpa using h
    subst this; simp at hi
  | nls h =>
    have : ls = [] := by simpa using h
    subst this; simp at hi
  | @row q n ys h1 h2 h3 =>
    rw [List.length_map] at h2
    have hys : n ≤ ys.length := by
      have := congrArg List.length h3
      simp only [List.length_take, List.length_map] at this; omega
    refine CW_keep g19 F19 rfl ?_
    refine XW_sr ?_
    refine OW_as rfl rfl ?_
    refine OW_nilE (e' := [_, _, _, _, _, _, _, _, _, _, _, _, _, _, _, _, _, _, _, _, _, _, _, _, _, _, _, _, _, _, _, _, _]) rfl ?_
    refine XW_sr ?_
    refine OW_mv rfl rfl ?_
    refine OW_mv rfl rfl ?_
    refine OW_mv rfl rfl ?_
    refine OW_env (e' := [_, _, _, _, _, _, _, _, _, _, _, _, _, _, _, _, _, _, _, _, _, _, _, _, _, _, _, _, _, _, _, _, _]) rfl ?_
    refine OW_mv rfl rfl ?_
    refine OW_bi rfl rfl (aLen rfl rfl) ?_
    refine OW_slx rfl rfl rfl rfl rfl rfl (slc_three T22) (slcx_three (i := i) (j := i + 1) (m := n) T22 rfl T30 rfl h1 (by omega) (by omega) (by omega)) ?_
    refine OW_nilE (e' := [_, _, _, _, _, _, _, _, _, _, _, _, _, _, _, _, _, _, _, _, _, _, _, _, _, _, _, _, _, _, _, _, _]) rfl ?_
    refine XW_seq ?_
    refine XW_sr ?_
    refine OW_mv rfl rfl ?_
    refine OW_mv rfl rfl ?_
    first
      | refine OW_bin rfl rfl rfl rfl (eq_yes (by omega)) ?_
      | refine OW_bin rfl rfl rfl rfl (eq_no (by omega)) ?_
      | refine OW_bin rfl rfl rfl rfl rfl ?_
    refine OW_nilE (e' := [_, _, _, _, _, _, _, _, _, _, _, _, _, _, _, _, _, _, _, _, _, _, _, _, _, _, _, _, _, _, _, _, _]) rfl ?_
    refine XW_no rfl (by first | rfl | (simp; omega)) ?_
    refine XW_skip ?_
    refine then_norm ?_
    refine XW_sr ?_
    refine OW_mv rfl rfl ?_
    first
      | refine OW_bi rfl rfl (aLen_map rfl) ?_
      | refine OW_bi rfl rfl (aLen rfl rfl) ?_
    refine OW_as rfl rfl ?_
    refine OW_nilE (e' := [_, _, _, _, _, _, _, _, _, _, _, _, _, _, _, _, _, _, _, _, _, _, _, _, _, _, _, _, _, _, _, _, _]) rfl ?_
    refine XW_sr ?_
    refine OW_mv rfl rfl ?_
    refine OW_mv rfl rfl ?_
    refine OW_sl rfl rfl rfl rfl rfl (slc_hi (i := i) T22 rfl T30 rfl (by omega)) ?_
    refine OW_env (e' := [_, _, _, _, _, _, _, _, _, _, _, _, _, _, _, _, _, _, _, _, _, _, _, _, _, _, _, _, _, _, _, _, _]) rfl ?_
    refine OW_mv rfl rfl ?_
    refine OW_mv rfl rfl ?_
    refine OW_sl rfl rfl rfl rfl rfl (slc_lo (i := i + 1) T22 rfl T30 rfl (by omega)) ?_
    have hmid : (((ys.drop (0 + (i + 1))).take (n - (i + 1)))) = ((ls.drop (i + 1)).map Lt.enc) := by
      rw [List.map_drop, ← h3, List.drop_take, Nat.zero_add]
    have hel := elems_slc (H := H) (off := 0 + (i + 1)) (len := n - (i + 1)) h1 (by omega)
    rw [hmid] at hel
    have hml : ((ls.drop (i + 1)).map Lt.enc).length = n - (i + 1) := by simp; omega
    refine OW_bi rfl rfl (app_bi rfl (app_in T22 rfl T30 rfl h1 hel (enc_ws _) (by omega))) ?_
    rw [hml]
    refine OW_env (e' := [_, _, _, _, _, _, _, _, _, _, _, _, _, _, _, _, _, _, _, _, _, _, _, _, _, _, _, _, _, _, _, _, _]) rfl ?_
    refine OW_as rfl rfl ?_
    refine OW_nilE (e' := [_, _, _, _, _, _, _, _, _, _, _, _, _, _, _, _, _, _, _, _, _, _, _, _, _, _, _, _, _, _, _, _, _]) rfl ?_
    have hlen' : i + (n - (i + 1)) = n - 1 := by omega
    refine XW_sr ?_
    refine OW_mv rfl rfl ?_
    refine OW_mv rfl rfl ?_
    refine OW_bi rfl rfl (aLen rfl rfl) ?_
    refine OW_env (e' := [_, _, _, _, _, _, _, _, _, _, _, _, _, _, _, _, _, _, _, _, _, _, _, _, _, _, _, _, _, _, _, _, _]) rfl ?_
    refine OW_mv rfl rfl ?_
    refine OW_slx rfl rfl rfl rfl rfl rfl (slc_over T22 rfl T30 (by omega)) (slcx_over T22 rfl T30 rfl put_same (by omega) (by simp; omega)) ?_
    refine OW_bi rfl rfl (clear_slc T22 rfl T30 rfl put_same (by simp; omega) rfl) ?_
    refine OW_nilE (e' := [_, _, _, _, _, _, _, _, _, _, _, _, _, _, _, _, _, _, _, _, _, _, _, _, _, _, _, _, _, _, _, _, _]) rfl ?_
    refine XW_sr ?_
    refine OW_mv rfl rfl ?_
    refine OW_as rfl rfl ?_
    refine OW_nilE (e' := [_, _, _, _, _, _, _, _, _, _, _, _, _, _, _, _, _, _, _, _, _, _, _, _, _, _, _, _, _, _, _, _, _]) rfl ?_
    refine XW_ret ?_
    refine ret_ret rfl (hq _ _ ?_ ?_)
    · refine .row put_same ?_ ?_
      · simp [List.length_eraseIdx, hi]; omega
      · have e1 : (ys.take i) = (ls.take i).map Lt.enc := by rw [List.map_take, ← h3, List.take_take]; congr 1; omega
        have e2 : (ls.take i).length = i := by simp; omega
        rw [hlen', Nat.zero_add, List.append_assoc, List.take_append_of_le_length (by simp; omega), List.take_take, Nat.min_self, List.take_append_of_le_length (by simp; omega), e1, ← List.map_append, List.take_of_length_le (by simp; omega), List.eraseIdx_eq_take_drop_succ]
    · intro p hp
      have hp' : p ≠ q := by simpa using hp
      rw [put_ne hp', put_ne hp']
end Go.Proofs.Ytollcfhmmlpleaa.X
