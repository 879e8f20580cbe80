/- Layer 19: Take and Lose. -/
import Derived.Test.YtollcfhmmlpleaaM5
set_option linter.unusedVariables false
set_option linter.unusedSimpArgs false
set_option maxRecDepth 100000
namespace Go.Proofs.Ytollcfhmmlpleaa.X
open Go Go.RowKit
variable {ν qm : Nm} {H : Heap} {Q : AVal → Heap → Prop} {ls : List Lt} {S : AVal} {fp : List Nm}
theorem IsMesh.out {H' : Heap} (h : IsMesh H qm ls S fp) (hqm : under ν qm = false) (hfp : ∀ p ∈ fp, under ν p = false) (ho : Out ν H H') : IsMesh H' qm ls S fp :=
  ⟨by rw [ho qm hqm]; exact h.obj, h.sl.frame fun p hp => ho p (hfp p hp), h.ne⟩
theorem mTake (h : IsMesh H qm ls S fp) (pick : Int) (hn : ls.length ≤ 4611686018427387904) (hqm : under ν qm = false) (hfp : ∀ p ∈ fp, under ν p = false) (hp : -9223372036854775808 ≤ pick ∧ pick ≤ 9223372036854775807)
    (h0 : ls = [] → ∀ H', IsMesh H' qm ls S fp → Fr ν qm fp H H' → Q (.tup [Lt.enc ⟨0, 0, ⟨#[]⟩⟩, .bool false]) H')
    (h1 : ∀ l H' S', ls[pos pick ls.length]? = some l → IsMesh H' qm (ls.eraseIdx (pos pick ls.length)) S' fp → Fr ν qm fp H H' → Q (.tup [l.enc, .bool true]) H') : CW cfg ν 11 [.ptr qm 0 0, .int .i64 pick] H Q := by
  refine CW_keep g11 F11 rfl ?_
  refine XW_sr ?_
  refine OW_alloc rfl rfl ?_
  refine OW_as rfl rfl ?_
  refine OW_nilE (e' := [_, _, _, _, _, _, _, _, _, _, _, _, _, _, _, _, _, _, _, _, _, _, _, _, _, _, _, _, _, _, _, _, _, _, _, _, _]) rfl ?_
  refine XW_sr ?_
  refine OW_mv rfl rfl ?_
  refine OW_mv rfl rfl ?_
  have hm : IsMesh (H.put (0 :: 0 :: ν) (some (.row 3 [Lt.enc ⟨0, 0, ⟨#[]⟩⟩]))) qm ls S fp := h.out hqm hfp (Out.put Out.refl (by repeat (first | exact under_me | apply under_in)))
  refine OW_fn rfl rfl (at_ hm pick hn hp ?_ ?_)
  · intro hl
    refine OW_env (e' := [_, _, _, _, _, _, _, _, _, _, _, _, _, _, _, _, _, _, _, _, _, _, _, _, _, _, _, _, _, _, _, _, _, _, _, _, _]) rfl ?_
    refine OW_mv rfl rfl ?_
    refine OW_ex rfl rfl rfl ?_
    refine OW_ex rfl rfl rfl ?_
    refine OW_env (e' := [_, _, _, _, _, _, _, _, _, _, _, _, _, _, _, _, _, _, _, _, _, _, _, _, _, _, _, _, _, _, _, _, _, _, _, _, _]) rfl ?_
    refine OW_as rfl rfl ?_
    refine OW_as rfl rfl ?_
    refine OW_nilE (e' := [_, _, _, _, _, _, _, _, _, _, _, _, _, _, _, _, _, _, _, _, _, _, _, _, _, _, _, _, _, _, _, _, _, _, _, _, _]) rfl ?_
    refine XW_seq ?_
    refine XW_sr ?_
    refine OW_mv rfl rfl ?_
    refine OW_un rfl rfl rfl ?_
    refine OW_nilE (e' := [_, _, _, _, _, _, _, _, _, _, _, _, _, _, _, _, _, _, _, _, _, _, _, _, _, _, _, _, _, _, _, _, _, _, _, _, _]) rfl ?_
    refine XW_yes rfl rfl ?_
    refine XW_sr ?_
    refine OW_bd rfl rfl rfl ?_
    refine OW_store rfl rfl rfl (aStore_ptr rfl (by first | rfl | assumption | exact put_same) rfl ⟨rfl, rfl, by decide⟩) ?_
    refine OW_as rfl rfl ?_
    refine OW_nilE (e' := [_, _, _, _, _, _, _, _, _, _, _, _, _, _, _, _, _, _, _, _, _, _, _, _, _, _, _, _, _, _, _, _, _, _, _, _, _]) rfl ?_
    refine XW_ret ?_
    refine then_ret ?_
    have ho : Out ν H ((H.put (0 :: 0 :: ν) (some (.row 3 [Lt.enc ⟨0, 0, ⟨#[]⟩⟩]))).put (0 :: 0 :: ν) (some (.row 3 [Lt.enc ⟨0, 0, ⟨#[]⟩⟩]))) := Out.put (Out.put Out.refl (by repeat (first | exact under_me | apply under_in))) (by repeat (first | exact under_me | apply under_in))
    exact ret_ret (res2 rfl (rv_cell rfl (aLoad_ptr T30 put_same rfl rfl)) (rv_tmp rfl)) (h0 hl _ (h.out hqm hfp ho) fun p _ _ hp => ho p hp)
  · intro hl
    have hl0 : ls.length ≠ 0 := fun e => hl (List.eq_nil_of_length_eq_zero e)
    obtain ⟨p1, p2⟩ := pos_lt (pick := pick) hl0
    rw [p2]
    generalize hi : pos pick ls.length = i at *
    have hxi : (ls.map Lt.enc)[i]? = some ls[i].enc := by simp [p1]
    refine OW_env (e' := [_, _, _, _, _, _, _, _, _, _, _, _, _, _, _, _, _, _, _, _, _, _, _, _, _, _, _, _, _, _, _, _, _, _, _, _, _]) rfl ?_
    refine OW_mv rfl rfl ?_
    refine OW_ex rfl rfl rfl ?_
    refine OW_ex rfl rfl rfl ?_
    refine OW_env (e' := [_, _, _, _, _, _, _, _, _, _, _, _, _, _, _, _, _, _, _, _, _, _, _, _, _, _, _, _, _, _, _, _, _, _, _, _, _]) rfl ?_
    refine OW_as rfl rfl ?_
    refine OW_as rfl rfl ?_
    refine OW_nilE (e' := [_, _, _, _, _, _, _, _, _, _, _, _, _, _, _, _, _, _, _, _, _, _, _, _, _, _, _, _, _, _, _, _, _, _, _, _, _]) rfl ?_
    refine XW_seq ?_
    refine XW_sr ?_
    refine OW_mv rfl rfl ?_
    refine OW_un rfl rfl rfl ?_
    refine OW_nilE (e' := [_, _, _, _, _, _, _, _, _, _, _, _, _, _, _, _, _, _, _, _, _, _, _, _, _, _, _, _, _, _, _, _, _, _, _, _, _]) rfl ?_
    refine XW_no rfl rfl ?_
    refine XW_skip ?_
    refine then_norm ?_
    have hob := hm.obj
    have hob0 := h.obj
    have hsl := hm.sl
    obtain ⟨q, ys, rfl, rfl, k1, k2, k3, k4⟩ := hm.sl.at hxi
    refine XW_sr ?_
    refine OW_mv rfl rfl ?_
    first
      | refine OW_nc rfl rfl ?_
      | refine OW_nce rfl rfl ?_
    refine OW_fa rfl rfl rfl ?_
    refine OW_env (e' := [_, _, _, _, _, _, _, _, _, _, _, _, _, _, _, _, _, _, _, _, _, _, _, _, _, _, _, _, _, _, _, _, _, _, _, _, _]) rfl ?_
    refine OW_load rfl rfl (by first | exact aLoad_ept rfl rfl | exact aLoad_ptr rfl (by first | rfl | assumption | exact put_same) rfl rfl) ?_
    refine OW_mv rfl rfl ?_
    refine OW_ia rfl rfl rfl (ia_slc0 T22 rfl T30 rfl k3) ?_
    refine OW_load rfl rfl (load_row T30 rfl k1 k2 rfl) ?_
    refine OW_env (e' := [_, _, _, _, _, _, _, _, _, _, _, _, _, _, _, _, _, _, _, _, _, _, _, _, _, _, _, _, _, _, _, _, _, _, _, _, _]) rfl ?_
    refine OW_alloc rfl rfl ?_
    refine OW_store rfl rfl rfl (aStore_ptr rfl (by first | rfl | assumption | exact put_same) rfl ⟨rfl, rfl, by decide⟩) ?_
    refine OW_nilE (e' := [_, _, _, _, _, _, _, _, _, _, _, _, _, _, _, _, _, _, _, _, _, _, _, _, _, _, _, _, _, _, _, _, _, _, _, _, _]) rfl ?_
    refine XW_gen fun H1 hH1 => ?_
    have ho : Out ν H H1 := by rw [hH1]; exact (by repeat (first | exact Out.refl | assumption | refine Out.put ?_ (by repeat (first | exact under_me | apply under_in))))
    have kz : H1 (0 :: 0 :: ν) = some (.row 3 [Lt.enc ⟨0, 0, ⟨#[]⟩⟩]) := by
      rw [hH1, put_ne (by simp), put_ne (by simp)]; exact put_same
    have kl : H1 (7 :: 0 :: 1 :: 1 :: 1 :: ν) = some (.row 3 [ls[i].enc]) := by rw [hH1]; exact put_same
    have hm1 := h.out hqm hfp ho
    have hob1 := hm1.obj
    refine XW_sr ?_
    refine OW_mv rfl rfl ?_
    refine OW_mv rfl rfl ?_
    first
      | refine OW_nc rfl rfl ?_
      | refine OW_nce rfl rfl ?_
    refine OW_env (e' := [_, _, _, _, _, _, _, _, _, _, _, _, _, _, _, _, _, _, _, _, _, _, _, _, _, _, _, _, _, _, _, _, _, _, _, _, _]) rfl ?_
    refine OW_fa rfl rfl rfl ?_
    refine OW_load rfl rfl (by first | exact aLoad_ept rfl rfl | exact aLoad_ptr rfl (by first | rfl | assumption | exact put_same) rfl rfl) ?_
    refine OW_mv rfl rfl ?_
    refine OW_env (e' := [_, _, _, _, _, _, _, _, _, _, _, _, _, _, _, _, _, _, _, _, _, _, _, _, _, _, _, _, _, _, _, _, _, _, _, _, _]) rfl ?_
    refine OW_mv rfl rfl ?_
    first
      | refine OW_bin rfl rfl rfl rfl (add64 (by omega)) ?_
      | refine OW_bin rfl rfl rfl rfl (addu64 (by omega)) ?_
      | refine OW_bin rfl rfl rfl rfl rfl ?_
    refine OW_fn rfl rfl (del hm1.sl (i := i) p1 hn ?_)
    intro S' H2 hs2 hf2
    have hq2 : H2 qm = some (.row 1 [.agg [.slc q 3 0 (ls.map Lt.enc).length]]) := by rw [hf2 qm h.ne]; exact hob1
    refine OW_env (e' := [_, _, _, _, _, _, _, _, _, _, _, _, _, _, _, _, _, _, _, _, _, _, _, _, _, _, _, _, _, _, _, _, _, _, _, _, _]) rfl ?_
    first
      | refine OW_nc rfl rfl ?_
      | refine OW_nce rfl rfl ?_
    refine OW_fa rfl rfl rfl ?_
    have hst : aStore cfg.T H2 22 (.ptr qm 0 (0 + 0)) S' = some (H2.put qm (some (.row 1 [.agg [S']]))) := by
      rw [aStore_ptr T22 hq2 rfl ⟨hs2.one.1, by rw [hs2.one.2]; rfl, Nat.le_refl 1⟩, hs2.one.2]; rfl
    refine OW_store rfl rfl rfl hst ?_
    refine OW_nilE (e' := [_, _, _, _, _, _, _, _, _, _, _, _, _, _, _, _, _, _, _, _, _, _, _, _, _, _, _, _, _, _, _, _, _, _, _, _, _]) rfl ?_
    have hqν := hfp q (by simp)
    have u1 : (7 :: 0 :: 1 :: 1 :: 1 :: ν : Nm) ∉ [q] := by simp; exact (far hqν (by repeat (first | exact under_me | apply under_in))).symm
    have u2 : (0 :: 0 :: ν : Nm) ∉ [q] := by simp; exact (far hqν (by repeat (first | exact under_me | apply under_in))).symm
    have kl2 : (H2.put qm (some (.row 1 [.agg [S']]))) (7 :: 0 :: 1 :: 1 :: 1 :: ν) = some (.row 3 [ls[i].enc]) := by
      rw [put_ne (far hqm (by repeat (first | exact under_me | apply under_in))).symm, hf2 _ u1]; exact kl
    have kz2 : (H2.put qm (some (.row 1 [.agg [S']]))) (0 :: 0 :: ν) = some (.row 3 [Lt.enc ⟨0, 0, ⟨#[]⟩⟩]) := by
      rw [put_ne (far hqm (by repeat (first | exact under_me | apply under_in))).symm, hf2 _ u2]; exact kz
    refine XW_sr ?_
    refine OW_load rfl rfl (load_row T30 rfl kl2 rfl rfl) ?_
    refine OW_env (e' := [_, _, _, _, _, _, _, _, _, _, _, _, _, _, _, _, _, _, _, _, _, _, _, _, _, _, _, _, _, _, _, _, _, _, _, _, _]) rfl ?_
    refine OW_store rfl rfl rfl (aStore_ptr rfl (by first | rfl | assumption | exact put_same) rfl ⟨rfl, rfl, by decide⟩) ?_
    refine OW_as rfl rfl ?_
    refine OW_nilE (e' := [_, _, _, _, _, _, _, _, _, _, _, _, _, _, _, _, _, _, _, _, _, _, _, _, _, _, _, _, _, _, _, _, _, _, _, _, _]) rfl ?_
    refine XW_ret ?_
    refine ret_ret (res2 rfl (rv_cell rfl (aLoad_ptr T30 put_same rfl rfl)) (rv_tmp rfl)) (h1 ls[i] _ S' (List.getElem?_eq_getElem p1) ⟨?_, ?_, h.ne⟩ ?_)
    · rw [put_ne (far hqm (by repeat (first | exact under_me | apply under_in))), put_same]
    · exact hs2.frame fun p hp => by
        have hpq : p = q := by simpa using hp
        subst hpq
        rw [put_ne (far hqν (by repeat (first | exact under_me | apply under_in))), put_ne (by rintro rfl; exact h.ne hp)]
    · intro p p1 p2 p3
      rw [put_ne (far p3 (by repeat (first | exact under_me | apply under_in))), put_ne p1, hf2 p p2, ho p p3]
theorem lose1 {a b : Nm} {f t : Int} {H0 : Heap} (ha : H0 a = some (.row 1 [.int .u64 f])) (hb : H0 b = some (.row 1 [.int .u64 t])) : FnP 21 [.ptr a 0 0, .ptr b 0 0] [a, b] H0 (fun l => decide (l.f = f) && decide (l.t = t)) := by
  intro ν x H Q hbs hq
  have ha' : H a = some (.row 1 [.int .u64 f]) := by rw [(hbs a (by simp)).1]; exact ha
  have hb' : H b = some (.row 1 [.int .u64 t]) := by rw [(hbs b (by simp)).1]; exact hb
  refine CW_fullS g21 F21 rfl ?_
  refine XW_sr ?_
  refine OW_box rfl rfl rfl ?_
  refine OW_as rfl rfl ?_
  refine OW_nilE (e' := [_, _, _, _, _, _, _, _, _, _, _, _, _, _, _]) rfl ?_
  refine XW_gen fun H1 hH1 => ?_
  have ho : Out ν H H1 := by rw [hH1]; exact (by repeat (first | exact Out.refl | assumption | refine Out.put ?_ (by repeat (first | exact under_me | apply under_in))))
  have kx : H1 (0 :: 0 :: ν) = some (.row 3 [x.enc]) := by rw [hH1]; exact put_same
  have ka : H1 a = some (.row 1 [.int .u64 f]) := by rw [ho a (hbs a (by simp)).2]; exact ha'
  have kb : H1 b = some (.row 1 [.int .u64 t]) := by rw [ho b (hbs b (by simp)).2]; exact hb'
  refine XW_sr ?_
  refine OW_fa rfl rfl rfl ?_
  refine OW_load rfl rfl (by first | exact aLoad_ept rfl rfl | exact aLoad_ptr rfl (by first | rfl | assumption | exact put_same) rfl rfl) ?_
  refine OW_load rfl rfl (by first | exact aLoad_ept rfl rfl | exact aLoad_ptr rfl (by first | rfl | assumption | exact put_same) rfl rfl) ?_
  by_cases hf : x.f = f
  · refine OW_bin rfl rfl rfl rfl (eq_yes hf) ?_
    refine OW_env (e' := [_, _, _, _, _, _, _, _, _, _, _, _, _, _, _]) rfl ?_
    refine OW_mv rfl rfl ?_
    first
      | refine OW_no rfl ?_
      | refine OW_fa rfl rfl rfl ?_
    first
      | refine OW_no rfl ?_
      | refine OW_load rfl rfl (by first | exact aLoad_ept rfl rfl | exact aLoad_ptr rfl (by first | rfl | assumption | exact put_same) rfl rfl) ?_
    refine OW_env (e' := [_, _, _, _, _, _, _, _, _, _, _, _, _, _, _]) rfl ?_
    first
      | refine OW_no rfl ?_
      | refine OW_load rfl rfl (by first | exact aLoad_ept rfl rfl | exact aLoad_ptr rfl (by first | rfl | assumption | exact put_same) rfl rfl) ?_
    by_cases ht : x.t = t
    · refine OW_bin rfl rfl rfl rfl (eq_yes ht) ?_
      refine OW_env (e' := [_, _, _, _, _, _, _, _, _, _, _, _, _, _, _]) rfl ?_
      refine OW_pick rfl rfl rfl ?_
      refine OW_as rfl rfl ?_
      refine OW_nilE (e' := [_, _, _, _, _, _, _, _, _, _, _, _, _, _, _]) rfl ?_
      refine XW_ret ?_
      refine ret_ret rfl ⟨ho, ?_⟩
      simp only [hf, ht, decide_true, Bool.and_self] at hq
      exact hq
    · refine OW_bin rfl rfl rfl rfl (eq_no ht) ?_
      refine OW_env (e' := [_, _, _, _, _, _, _, _, _, _, _, _, _, _, _]) rfl ?_
      refine OW_pick rfl rfl rfl ?_
      refine OW_as rfl rfl ?_
      refine OW_nilE (e' := [_, _, _, _, _, _, _, _, _, _, _, _, _, _, _]) rfl ?_
      refine XW_ret ?_
      refine ret_ret rfl ⟨ho, ?_⟩
      simp only [hf, ht, decide_true, decide_false, Bool.and_false] at hq
      exact hq
  · refine OW_bin rfl rfl rfl rfl (eq_no hf) ?_
    refine OW_env (e' := [_, _, _, _, _, _, _, _, _, _, _, _, _, _, _]) rfl ?_
    refine OW_mv rfl rfl ?_
    refine OW_no rfl ?_
    refine OW_no rfl ?_
    refine OW_no rfl ?_
    refine OW_no rfl ?_
    refine OW_env (e' := [_, _, _, _, _, _, _, _, _, _, _, _, _, _, _]) rfl ?_
    refine OW_pick rfl rfl rfl ?_
    refine OW_as rfl rfl ?_
    refine OW_nilE (e' := [_, _, _, _, _, _, _, _, _, _, _, _, _, _, _]) rfl ?_
    refine XW_ret ?_
    refine ret_ret rfl ⟨ho, ?_⟩
    simp only [hf, decide_false, Bool.false_and] at hq
    exact hq
theorem mLose (h : IsMesh H qm ls S fp) (f t : Int) (hn : ls.length ≤ 4611686018427387904) (hqm : under ν qm = false) (hfp : ∀ p ∈ fp, under ν p = false)
    (hq : ∀ H' S', IsMesh H' qm (ls.filter fun l => !(decide (l.f = f) && decide (l.t = t))) S' fp → Fr ν qm fp H H' → Q (.int .i64 (ls.length - (ls.filter fun l => !(decide (l.f = f) && decide (l.t = t))).length)) H') : CW cfg ν 14 [.ptr qm 0 0, .int .u64 f, .int .u64 t] H Q := by
  refine CW_keep g14 F14 rfl ?_
  refine XW_sr ?_
  refine OW_box rfl rfl rfl ?_
  refine OW_box rfl rfl rfl ?_
  refine OW_as rfl rfl ?_
  refine OW_nilE (e' := [_, _, _, _, _, _, _, _, _, _, _, _, _, _, _, _, _, _, _, _, _, _, _, _, _, _, _, _, _]) rfl ?_
  refine XW_gen fun H1 hH1 => ?_
  have ho : Out ν H H1 := by rw [hH1]; exact (by repeat (first | exact Out.refl | assumption | refine Out.put ?_ (by repeat (first | exact under_me | apply under_in))))
  have ka : H1 (0 :: 0 :: ν) = some (.row 1 [.int .u64 f]) := by rw [hH1, put_ne (by simp)]; exact put_same
  have kb : H1 (1 :: 0 :: ν) = some (.row 1 [.int .u64 t]) := by rw [hH1]; exact put_same
  have hm1 := h.out hqm hfp ho
  have hob1 := hm1.obj
  have h2 : lenOf H1 S = some ls.length := by rw [hm1.sl.len, List.length_map]
  have h3 : lenKind cfg.T [22] S = true := h.sl.kind T22 rfl
  refine XW_sr ?_
  refine OW_mv rfl rfl ?_
  first
    | refine OW_nc rfl rfl ?_
    | refine OW_nce rfl rfl ?_
  refine OW_fa rfl rfl rfl ?_
  refine OW_env (e' := [_, _, _, _, _, _, _, _, _, _, _, _, _, _, _, _, _, _, _, _, _, _, _, _, _, _, _, _, _]) rfl ?_
  refine OW_load rfl rfl (by first | exact aLoad_ept rfl rfl | exact aLoad_ptr rfl (by first | rfl | assumption | exact put_same) rfl rfl) ?_
  refine OW_bi rfl rfl (aLen h3 h2) ?_
  refine OW_env (e' := [_, _, _, _, _, _, _, _, _, _, _, _, _, _, _, _, _, _, _, _, _, _, _, _, _, _, _, _, _]) rfl ?_
  refine OW_as rfl rfl ?_
  refine OW_nilE (e' := [_, _, _, _, _, _, _, _, _, _, _, _, _, _, _, _, _, _, _, _, _, _, _, _, _, _, _, _, _]) rfl ?_
  refine XW_sr ?_
  refine OW_mv rfl rfl ?_
  refine OW_mv rfl rfl ?_
  first
    | refine OW_nc rfl rfl ?_
    | refine OW_nce rfl rfl ?_
  refine OW_env (e' := [_, _, _, _, _, _, _, _, _, _, _, _, _, _, _, _, _, _, _, _, _, _, _, _, _, _, _, _, _]) rfl ?_
  refine OW_fa rfl rfl rfl ?_
  refine OW_load rfl rfl (by first | exact aLoad_ept rfl rfl | exact aLoad_ptr rfl (by first | rfl | assumption | exact put_same) rfl rfl) ?_
  refine OW_mf rfl rfl ?_
  refine OW_fn rfl rfl (delF (lose1 (f := f) (t := t) ka kb) ?_ ?_ hm1.sl hn ?_)
  · intro b hb
    have : b = 0 :: 0 :: ν ∨ b = 1 :: 0 :: ν := by simpa using hb
    refine ⟨fun hm => ?_, ?_⟩
    · have := hfp b hm
      rcases ‹b = 0 :: 0 :: ν ∨ b = 1 :: 0 :: ν› with rfl | rfl
      · rw [show under ν (0 :: 0 :: ν) = true from (by repeat (first | exact under_me | apply under_in))] at this; cases this
      · rw [show under ν (1 :: 0 :: ν) = true from (by repeat (first | exact under_me | apply under_in))] at this; cases this
    · rcases this with rfl | rfl
      · exact under_len (by simp)
      · exact under_len (by simp)
  · exact fun q hq => under_dn (under_dn (under_dn (under_dn (hfp q hq))))
  intro S' H2 hs2 hf2
  have hq2 : H2 qm = some (.row 1 [.agg [S]]) := by rw [hf2 qm h.ne (by repeat (first | assumption | apply under_dn))]; exact hob1
  refine OW_env (e' := [_, _, _, _, _, _, _, _, _, _, _, _, _, _, _, _, _, _, _, _, _, _, _, _, _, _, _, _, _]) rfl ?_
  first
    | refine OW_nc rfl rfl ?_
    | refine OW_nce rfl rfl ?_
  refine OW_fa rfl rfl rfl ?_
  have hst : aStore cfg.T H2 22 (.ptr qm 0 (0 + 0)) S' = some (H2.put qm (some (.row 1 [.agg [S']]))) := by
    rw [aStore_ptr T22 hq2 rfl ⟨hs2.one.1, by rw [hs2.one.2]; rfl, Nat.le_refl 1⟩, hs2.one.2]; rfl
  refine OW_store rfl rfl rfl hst ?_
  refine OW_nilE (e' := [_, _, _, _, _, _, _, _, _, _, _, _, _, _, _, _, _, _, _, _, _, _, _, _, _, _, _, _, _]) rfl ?_
  have hm3 : IsMesh (H2.put qm (some (.row 1 [.agg [S']]))) qm (ls.filter fun l => !(decide (l.f = f) && decide (l.t = t))) S' fp :=
    ⟨put_same, hs2.frame fun p hp => put_ne (by rintro rfl; exact h.ne hp), h.ne⟩
  obtain ⟨ks, hks⟩ : ∃ ks, ks = ls.filter fun l => !(decide (l.f = f) && decide (l.t = t)) := ⟨_, rfl⟩
  rw [← hks] at hm3 hq
  have hkl : ks.length ≤ ls.length := by rw [hks]; exact List.length_filter_le _ _
  have h4 : lenOf (H2.put qm (some (.row 1 [.agg [S']]))) S' = some ks.length := by rw [hm3.sl.len, List.length_map]
  have h5 : lenKind cfg.T [22] S' = true := hm3.sl.kind T22 rfl
  refine XW_sr ?_
  refine OW_mv rfl rfl ?_
  refine OW_mv rfl rfl ?_
  first
    | refine OW_nc rfl rfl ?_
    | refine OW_nce rfl rfl ?_
  refine OW_env (e' := [_, _, _, _, _, _, _, _, _, _, _, _, _, _, _, _, _, _, _, _, _, _, _, _, _, _, _, _, _]) rfl ?_
  refine OW_fa rfl rfl rfl ?_
  refine OW_load rfl rfl (by first | exact aLoad_ept rfl rfl | exact aLoad_ptr rfl (by first | rfl | assumption | exact put_same) rfl rfl) ?_
  refine OW_bi rfl rfl (aLen h5 h4) ?_
  refine OW_env (e' := [_, _, _, _, _, _, _, _, _, _, _, _, _, _, _, _, _, _, _, _, _, _, _, _, _, _, _, _, _]) rfl ?_
  first
    | refine OW_bin rfl rfl rfl rfl (sub64 (by omega)) ?_
    | refine OW_bin rfl rfl rfl rfl (subu64 (by omega)) ?_
    | refine OW_bin rfl rfl rfl rfl rfl ?_
  refine OW_as rfl rfl ?_
  refine OW_nilE (e' := [_, _, _, _, _, _, _, _, _, _, _, _, _, _, _, _, _, _, _, _, _, _, _, _, _, _, _, _, _]) rfl ?_
  refine XW_ret ?_
  refine ret_ret rfl (hq _ S' hm3 ?_)
  intro p p1 p2 p3
  rw [put_ne p1, hf2 p p2 (by repeat (first | assumption | apply under_dn)), ho p p3]
end Go.Proofs.Ytollcfhmmlpleaa.X
