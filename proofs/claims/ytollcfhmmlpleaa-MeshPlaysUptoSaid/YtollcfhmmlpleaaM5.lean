/- Layer 19: the mesh's methods. -/
import Derived.Test.YtollcfhmmlpleaaM4
set_option linter.unusedVariables false
set_option linter.unusedSimpArgs false
set_option maxRecDepth 100000
namespace Go.Proofs.Ytollcfhmmlpleaa.X
open Go Go.RowKit
variable {ν qm : Nm} {H : Heap} {Q : AVal → Heap → Prop} {ls : List Lt} {S : AVal} {fp : List Nm}
def Fr (ν qm : Nm) (fp : List Nm) (H H1 : Heap) : Prop := ∀ p, p ≠ qm → p ∉ fp → under ν p = false → H1 p = H p
theorem mNew (hq : ∀ qm H', under ν qm = true → IsMesh H' qm [] .emp [] → Out ν H H' → Q (.ptr qm 0 0) H') : CW cfg ν 8 [] H Q := by
  refine CW_keep g8 F8 rfl ?_
  refine XW_sr ?_
  refine OW_as rfl rfl ?_
  refine OW_nilE (e' := [_, _, _]) rfl ?_
  refine XW_sr ?_
  refine OW_bd rfl rfl rfl ?_
  refine OW_box rfl rfl rfl ?_
  refine OW_as rfl rfl ?_
  refine OW_nilE (e' := [_, _, _]) rfl ?_
  refine XW_ret ?_
  refine ret_ret rfl (hq _ _ (by repeat (first | exact under_me | apply under_in)) ⟨put_same, .emp rfl, by simp⟩ (Out.put Out.refl (by repeat (first | exact under_me | apply under_in))))
theorem mPut (h : IsMesh H qm ls S fp) (hn : ls.length ≤ 4096) (hqm : under ν qm = false) (hfp : ∀ p ∈ fp, under ν p = false) (new : List Lt) (hb : new.length ≤ 4611686018427387904)
    (hq : ∀ H' S' fp', IsMesh H' qm (ls ++ new.take (4096 - ls.length)) S' fp' → (∀ p ∈ fp', p ∈ fp ∨ under ν p = true) → Fr ν qm fp H H' → Q (.int .i64 (min new.length (4096 - ls.length) : Nat)) H') : CW cfg ν 9 [.ptr qm 0 0, .lst (new.map Lt.enc)] H Q := by
  obtain ⟨m, hm⟩ : ∃ m : Nat, m = min new.length (4096 - ls.length) := ⟨_, rfl⟩
  rw [← hm] at hq
  have h1 := h.obj
  have h2 : lenOf H S = some ls.length := by rw [h.sl.len, List.length_map]
  have h3 : lenKind cfg.T [22] S = true := h.sl.kind T22 rfl
  refine CW_keep g9 F9 rfl ?_
  refine XW_sr ?_
  refine OW_as rfl rfl ?_
  refine OW_nilE (e' := [_, _, _, _, _, _, _, _, _, _, _, _, _, _, _, _, _, _, _, _, _, _, _, _, _, _, _]) rfl ?_
  refine XW_sr ?_
  refine OW_mv rfl rfl ?_
  refine OW_bi rfl rfl (aLen (n := new.length) rfl (by simp [lenOf])) ?_
  refine OW_env (e' := [_, _, _, _, _, _, _, _, _, _, _, _, _, _, _, _, _, _, _, _, _, _, _, _, _, _, _]) rfl ?_
  refine OW_mv rfl rfl ?_
  first
    | refine OW_nc rfl rfl ?_
    | refine OW_nce rfl rfl ?_
  refine OW_fa rfl rfl rfl ?_
  refine OW_env (e' := [_, _, _, _, _, _, _, _, _, _, _, _, _, _, _, _, _, _, _, _, _, _, _, _, _, _, _]) rfl ?_
  refine OW_load rfl rfl (by first | exact aLoad_ept rfl rfl | exact aLoad_ptr rfl (by first | rfl | assumption | exact put_same) rfl rfl) ?_
  refine OW_bi rfl rfl (aLen h3 h2) ?_
  obtain ⟨d, hd⟩ : ∃ d : Int, d = 4096 - ls.length := ⟨_, rfl⟩
  refine OW_bin (v := .int .i64 d) rfl rfl rfl rfl (by rw [hd]; exact sub64 (by omega)) ?_
  refine OW_bi rfl rfl (min64 (m := (m : Nat)) (by split <;> omega)) ?_
  refine OW_env (e' := [_, _, _, _, _, _, _, _, _, _, _, _, _, _, _, _, _, _, _, _, _, _, _, _, _, _, _]) rfl ?_
  refine OW_as rfl rfl ?_
  refine OW_nilE (e' := [_, _, _, _, _, _, _, _, _, _, _, _, _, _, _, _, _, _, _, _, _, _, _, _, _, _, _]) rfl ?_
  refine XW_sr ?_
  refine OW_mv rfl rfl ?_
  refine OW_mv rfl rfl ?_
  first
    | refine OW_nc rfl rfl ?_
    | refine OW_nce rfl rfl ?_
  refine OW_env (e' := [_, _, _, _, _, _, _, _, _, _, _, _, _, _, _, _, _, _, _, _, _, _, _, _, _, _, _]) rfl ?_
  refine OW_fa rfl rfl rfl ?_
  refine OW_load rfl rfl (by first | exact aLoad_ept rfl rfl | exact aLoad_ptr rfl (by first | rfl | assumption | exact put_same) rfl rfl) ?_
  refine OW_mv rfl rfl ?_
  refine OW_env (e' := [_, _, _, _, _, _, _, _, _, _, _, _, _, _, _, _, _, _, _, _, _, _, _, _, _, _, _]) rfl ?_
  refine OW_mv rfl rfl ?_
  refine OW_sl rfl rfl rfl rfl rfl (lst_hi T22 rfl T30 (enc_ws new) (by rw [List.length_map]; omega)) ?_
  have hνf : (8 :: 0 :: 1 :: 1 :: ν : Nm) ∉ fp := fun hm => by have := hfp _ hm; rw [show under ν (8 :: 0 :: 1 :: 1 :: ν) = true from (by repeat (first | exact under_me | apply under_in))] at this; cases this
  obtain ⟨S', H', ha, fp', hs, hfp', hfr⟩ := h.sl.app (ν := 8 :: 0 :: 1 :: 1 :: ν) (Y := .lst ((new.map Lt.enc).take m)) (ys := (new.map Lt.enc).take m) T22 rfl T30 rfl rfl (fun y hy => enc_ws new y (List.mem_of_mem_take hy)) (by
    have : (List.map Lt.enc ls).length + ((List.map Lt.enc new).take m).length ≤ 8192 := by simp; omega
    exact Nat.le_trans (Nat.mul_le_mul_right _ this) (by decide)) hνf
  have hqm' : H' qm = some (.row 1 [.agg [S]]) := by rw [hfr qm h.ne (far hqm (by repeat (first | exact under_me | apply under_in)))]; exact h1
  refine OW_bi rfl rfl (app_bi rfl ha) ?_
  refine OW_env (e' := [_, _, _, _, _, _, _, _, _, _, _, _, _, _, _, _, _, _, _, _, _, _, _, _, _, _, _]) rfl ?_
  first
    | refine OW_nc rfl rfl ?_
    | refine OW_nce rfl rfl ?_
  refine OW_fa rfl rfl rfl ?_
  have hst : aStore cfg.T H' 22 (.ptr qm 0 (0 + 0)) S' = some (H'.put qm (some (.row 1 [.agg [S']]))) := by
    rw [aStore_ptr T22 hqm' rfl ⟨hs.one.1, by rw [hs.one.2]; rfl, Nat.le_refl 1⟩, hs.one.2]; rfl
  refine OW_store rfl rfl rfl hst ?_
  refine OW_nilE (e' := [_, _, _, _, _, _, _, _, _, _, _, _, _, _, _, _, _, _, _, _, _, _, _, _, _, _, _]) rfl ?_
  refine XW_sr ?_
  refine OW_mv rfl rfl ?_
  refine OW_as rfl rfl ?_
  refine OW_nilE (e' := [_, _, _, _, _, _, _, _, _, _, _, _, _, _, _, _, _, _, _, _, _, _, _, _, _, _, _]) rfl ?_
  refine XW_ret ?_
  have hne' : qm ∉ fp' := fun hm => by
    rcases hfp' _ hm with hm | rfl
    · exact h.ne hm
    · rw [show under ν (8 :: 0 :: 1 :: 1 :: ν) = true from (by repeat (first | exact under_me | apply under_in))] at hqm; cases hqm
  refine ret_ret rfl (hq _ S' fp' ⟨put_same, ?_, hne'⟩ (fun p hp => (hfp' p hp).imp id (by rintro rfl; exact (by repeat (first | exact under_me | apply under_in)))) (fun p p1 p2 p3 => ?_))
  · refine (hs.frame fun p hp => put_ne (by rintro rfl; exact hne' hp)).cast ?_
    rw [List.map_append, ← List.map_take]
    congr 2
    by_cases hc : new.length ≤ 4096 - ls.length
    · rw [hm, Nat.min_eq_left hc, List.take_length, List.take_of_length_le hc]
    · rw [hm, Nat.min_eq_right (by omega)]
  · rw [put_ne p1, hfr p p2 (far p3 (by repeat (first | exact under_me | apply under_in)))]
def pos (pick : Int) (n : Nat) : Nat := ((pick.tmod n + n).tmod n).toNat
theorem pos_lt {pick : Int} {n : Nat} (hn : n ≠ 0) : pos pick n < n ∧ ((pick.tmod n + n).tmod n) = (pos pick n : Nat) := by
  have h0 : (0 : Int) < n := by omega
  have h1 := Int.lt_tmod_of_pos pick h0
  have h2 : 0 ≤ pick.tmod n + n := by omega
  have h3 := Int.tmod_nonneg n h2
  have h4 := Int.tmod_lt_of_pos (pick.tmod n + n) h0
  unfold pos
  omega
theorem mLook (h : IsMesh H qm ls S fp) (pick : Int) (hn : ls.length ≤ 4611686018427387904) (hqm : under ν qm = false) (hfp : ∀ p ∈ fp, under ν p = false) (hp : -9223372036854775808 ≤ pick ∧ pick ≤ 9223372036854775807)
    (h0 : ls = [] → Q (.tup [Lt.enc ⟨0, 0, ⟨#[]⟩⟩, .bool false]) H) (h1 : ∀ l, ls[pos pick ls.length]? = some l → Q (.tup [l.enc, .bool true]) H) : CW cfg ν 10 [.ptr qm 0 0, .int .i64 pick] H Q := by
  refine CW_fullS g10 F10 rfl ?_
  refine XW_sr ?_
  refine OW_alloc rfl rfl ?_
  refine OW_as rfl rfl ?_
  refine OW_nilE (e' := [_, _, _, _, _, _, _, _, _, _, _, _, _, _, _, _, _, _, _, _, _, _, _, _]) rfl ?_
  refine XW_sr ?_
  refine OW_mv rfl rfl ?_
  refine OW_mv rfl rfl ?_
  have hm : ∀ a o, under ν a = true → IsMesh (H.put a o) qm ls S fp := fun a o ha => ⟨by rw [put_ne (far hqm ha)]; exact h.obj, h.sl.frame fun p hp => put_ne (far (hfp p hp) ha), h.ne⟩
  have hm := hm (0 :: 0 :: ν) (some (.row 3 [Lt.enc ⟨0, 0, ⟨#[]⟩⟩])) (by repeat (first | exact under_me | apply under_in))
  refine OW_fn rfl rfl (at_ hm pick hn hp ?_ ?_)
  · intro hl
    refine OW_env (e' := [_, _, _, _, _, _, _, _, _, _, _, _, _, _, _, _, _, _, _, _, _, _, _, _]) rfl ?_
    refine OW_mv rfl rfl ?_
    refine OW_ex rfl rfl rfl ?_
    refine OW_ex rfl rfl rfl ?_
    refine OW_env (e' := [_, _, _, _, _, _, _, _, _, _, _, _, _, _, _, _, _, _, _, _, _, _, _, _]) rfl ?_
    refine OW_as rfl rfl ?_
    refine OW_as rfl rfl ?_
    refine OW_nilE (e' := [_, _, _, _, _, _, _, _, _, _, _, _, _, _, _, _, _, _, _, _, _, _, _, _]) rfl ?_
    refine XW_seq ?_
    refine XW_sr ?_
    refine OW_mv rfl rfl ?_
    refine OW_un rfl rfl rfl ?_
    refine OW_nilE (e' := [_, _, _, _, _, _, _, _, _, _, _, _, _, _, _, _, _, _, _, _, _, _, _, _]) rfl ?_
    refine XW_yes rfl rfl ?_
    refine XW_sr ?_
    refine OW_bd rfl rfl rfl ?_
    refine OW_store rfl rfl rfl (aStore_ptr rfl (by first | rfl | assumption | exact put_same) rfl ⟨rfl, rfl, by decide⟩) ?_
    refine OW_as rfl rfl ?_
    refine OW_nilE (e' := [_, _, _, _, _, _, _, _, _, _, _, _, _, _, _, _, _, _, _, _, _, _, _, _]) rfl ?_
    refine XW_ret ?_
    refine then_ret ?_
    refine ret_ret (res2 rfl (rv_cell rfl (aLoad_ptr T30 put_same rfl rfl)) (rv_tmp rfl)) ⟨Out.put (Out.put Out.refl (by repeat (first | exact under_me | apply under_in))) (by repeat (first | exact under_me | apply under_in)), h0 hl⟩
  · intro hl
    have hl0 : ls.length ≠ 0 := fun e => hl (List.eq_nil_of_length_eq_zero e)
    obtain ⟨p1, p2⟩ := pos_lt (pick := pick) hl0
    rw [p2]
    generalize hi : pos pick ls.length = i at *
    have hxi : (ls.map Lt.enc)[i]? = some ls[i].enc := by simp [p1]
    refine OW_env (e' := [_, _, _, _, _, _, _, _, _, _, _, _, _, _, _, _, _, _, _, _, _, _, _, _]) rfl ?_
    refine OW_mv rfl rfl ?_
    refine OW_ex rfl rfl rfl ?_
    refine OW_ex rfl rfl rfl ?_
    refine OW_env (e' := [_, _, _, _, _, _, _, _, _, _, _, _, _, _, _, _, _, _, _, _, _, _, _, _]) rfl ?_
    refine OW_as rfl rfl ?_
    refine OW_as rfl rfl ?_
    refine OW_nilE (e' := [_, _, _, _, _, _, _, _, _, _, _, _, _, _, _, _, _, _, _, _, _, _, _, _]) rfl ?_
    refine XW_seq ?_
    refine XW_sr ?_
    refine OW_mv rfl rfl ?_
    refine OW_un rfl rfl rfl ?_
    refine OW_nilE (e' := [_, _, _, _, _, _, _, _, _, _, _, _, _, _, _, _, _, _, _, _, _, _, _, _]) rfl ?_
    refine XW_no rfl rfl ?_
    refine XW_skip ?_
    refine then_norm ?_
    have hob := hm.obj
    obtain ⟨q, ys, rfl, rfl, k1, k2, k3, k4⟩ := hm.sl.at hxi
    refine XW_sr ?_
    refine OW_mv rfl rfl ?_
    first
      | refine OW_nc rfl rfl ?_
      | refine OW_nce rfl rfl ?_
    refine OW_fa rfl rfl rfl ?_
    refine OW_env (e' := [_, _, _, _, _, _, _, _, _, _, _, _, _, _, _, _, _, _, _, _, _, _, _, _]) rfl ?_
    refine OW_load rfl rfl (by first | exact aLoad_ept rfl rfl | exact aLoad_ptr rfl (by first | rfl | assumption | exact put_same) rfl rfl) ?_
    refine OW_mv rfl rfl ?_
    refine OW_ia rfl rfl rfl (ia_slc0 T22 rfl T30 rfl k3) ?_
    refine OW_load rfl rfl (load_row T30 rfl k1 k2 rfl) ?_
    refine OW_env (e' := [_, _, _, _, _, _, _, _, _, _, _, _, _, _, _, _, _, _, _, _, _, _, _, _]) rfl ?_
    refine OW_store rfl rfl rfl (aStore_ptr rfl (by first | rfl | assumption | exact put_same) rfl ⟨rfl, rfl, by decide⟩) ?_
    refine OW_as rfl rfl ?_
    refine OW_nilE (e' := [_, _, _, _, _, _, _, _, _, _, _, _, _, _, _, _, _, _, _, _, _, _, _, _]) rfl ?_
    refine XW_ret ?_
    refine ret_ret (res2 rfl (rv_cell rfl (aLoad_ptr T30 put_same rfl rfl)) (rv_tmp rfl)) ⟨Out.put (Out.put Out.refl (by repeat (first | exact under_me | apply under_in))) (by repeat (first | exact under_me | apply under_in)), h1 ls[i] (List.getElem?_eq_getElem p1)⟩
end Go.Proofs.Ytollcfhmmlpleaa.X
