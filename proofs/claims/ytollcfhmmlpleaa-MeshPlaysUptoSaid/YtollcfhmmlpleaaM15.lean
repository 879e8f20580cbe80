/- Layer 19: the mesh as an own thing; the law MeshPlays. -/
import Derived.Test.YtollcfhmmlpleaaM14
import Derived.Test.YtollcfhmmlpleaaZ
set_option linter.unusedVariables false
set_option linter.unusedSimpArgs false
set_option maxRecDepth 100000
namespace Go.Proofs.Ytollcfhmmlpleaa.X
open Go Go.RowKit
variable {ν β ps pos' : Nm} {H : Heap} {Q : AVal → Heap → Prop} {L : List Asr} {q : Nm} {k : Nat} {ls : List Lt}
theorem IsMesh.framed {H1 : Heap} {S : AVal} {fp : List Nm} (h : IsMesh H q ls S fp) (hf : ∀ p ∈ q :: fp, H1 p = H p) : IsMesh H1 q ls S fp :=
  ⟨by rw [hf q (by simp)]; exact h.obj, h.sl.frame fun p hp => hf p (by simp [hp]), h.ne⟩
def mesh (q : Nm) (ls : List Lt) : Asr := ⟨fun H fp => ∃ S f, fp = q :: f ∧ IsMesh H q ls S f, fun ⟨S, f, h0, h1⟩ hf => ⟨S, f, h0, h1.framed (by rw [← h0]; exact hf)⟩⟩
/-- What a change of a mesh by a call is. -/
theorem Own.meshed (hS : Own β ps H L) (hL : L[k]? = some (mesh q ls)) (hle : le ps ν) (hβ : X.under β ν = true) (hp : before ν pos') : ∃ S fp, IsMesh H q ls S fp ∧ X.under ν q = false ∧ (∀ p ∈ fp, X.under ν p = false) ∧
    ∀ H' S' fp' ls', IsMesh H' q ls' S' fp' → (∀ p ∈ fp', p ∈ fp ∨ X.under ν p = true) → Fr ν q fp H H' → Own β pos' H' (L.set k (mesh q ls')) := by
  obtain ⟨f1, ⟨S, fp, rfl, hm⟩, hfp, hup⟩ := hS.upd hL (hle.trans (le_bef hp))
  have hb : ∀ p, before p ps → X.under ν p = false := fun p h => (hle _ h).under
  refine ⟨S, fp, hm, hb _ (hfp q (by simp)).1, fun p h => hb _ (hfp p (by simp [h])).1, fun H' S' fp' ls' hm' hf' hfr => ?_⟩
  refine hup H' (q :: fp') (mesh q ls') ⟨S', fp', rfl, hm'⟩ (fun p h1 h2 => hfr p (fun e => h1 (by simp [e])) (fun e => h1 (by simp [e])) (hb p h2)) (fun p h1 => ?_) (fun p h1 => ?_)
  · rcases List.mem_cons.1 h1 with rfl | h1
    · exact .inl (by simp)
    · rcases hf' p h1 with h2 | h2
      · exact .inl (by simp [h2])
      · exact .inr fun e => by rw [hb p e] at h2; cases h2
  · have old : ∀ p, p ∈ q :: fp → before p pos' ∧ X.under β p = true := fun p h => ⟨(hle _ (hfp p h).1).trans hp, (hfp p h).2⟩
    rcases List.mem_cons.1 h1 with rfl | h1
    · exact old _ (by simp)
    · rcases hf' p h1 with h2 | h2
      · exact old _ (by simp [h2])
      · exact ⟨bef_under (a := []) h2 hp, under_trans hβ h2⟩
section
variable (hS : Own β ps H L) (hL : L[k]? = some (mesh q ls)) (hle : le ps ν) (hβ : under β ν = true) (hp : before ν pos')
include hS hL hle hβ hp
theorem oPut (hn : ls.length ≤ 4096) (new : List Lt) (hb : new.length ≤ 4611686018427387904) (hq : ∀ H', Own β pos' H' (L.set k (mesh q (ls ++ new.take (4096 - ls.length)))) → Q (.int .i64 (min new.length (4096 - ls.length) : Nat)) H') : CW cfg ν 9 [.ptr q 0 0, .lst (new.map Lt.enc)] H Q := by
  obtain ⟨S, fp, hm, h1, h2, h3⟩ := hS.meshed hL hle hβ hp
  exact mPut hm hn h1 h2 new hb fun H' S' fp' k1 k2 k3 => hq H' (h3 H' S' fp' _ k1 k2 k3)
def tkL (pick : Int) (ls : List Lt) : List Lt × Lt × Bool := match ls[pos pick ls.length]? with
  | some l => (ls.eraseIdx (pos pick ls.length), l, true)
  | none => (ls, z0, false)
omit hS hL hle hβ hp in
theorem tkL_nil {pick : Int} (h : ls = []) : tkL pick ls = (ls, z0, false) := by subst h; rfl
omit hS hL hle hβ hp in
theorem tkL_some {pick : Int} {l : Lt} (h : ls[pos pick ls.length]? = some l) : tkL pick ls = (ls.eraseIdx (pos pick ls.length), l, true) := by unfold tkL; rw [h]
theorem oTake (hn : ls.length ≤ 4096) (pick : Int) (hpk : -9223372036854775808 ≤ pick ∧ pick ≤ 9223372036854775807) (hq : ∀ H', Own β pos' H' (L.set k (mesh q (tkL pick ls).1)) → Q (.tup [(tkL pick ls).2.1.enc, .bool (tkL pick ls).2.2]) H') : CW cfg ν 11 [.ptr q 0 0, .int .i64 pick] H Q := by
  obtain ⟨S, fp, hm, h1, h2, h3⟩ := hS.meshed hL hle hβ hp
  refine mTake hm pick (by omega) h1 h2 hpk (fun e H' k1 k2 => ?_) (fun l H' S' e k1 k2 => ?_)
  · rw [tkL_nil e] at hq; exact hq H' (h3 H' S fp ls k1 (fun p h => .inl h) k2)
  · rw [tkL_some e] at hq; exact hq H' (h3 H' S' fp _ k1 (fun p h => .inl h) k2)
theorem oLook (hn : ls.length ≤ 4096) (pick : Int) (hpk : -9223372036854775808 ≤ pick ∧ pick ≤ 9223372036854775807) (hq : Q (.tup [(tkL pick ls).2.1.enc, .bool (tkL pick ls).2.2]) H) : CW cfg ν 10 [.ptr q 0 0, .int .i64 pick] H Q := by
  obtain ⟨S, fp, hm, h1, h2, h3⟩ := hS.meshed hL hle hβ hp
  refine mLook hm pick (by omega) h1 h2 hpk (fun e => ?_) (fun l e => ?_)
  · rw [tkL_nil e] at hq; exact hq
  · rw [tkL_some e] at hq; exact hq
theorem oLose (hn : ls.length ≤ 4096) (f t : Int) (hq : ∀ H', Own β pos' H' (L.set k (mesh q (ls.filter (kept f t)))) → Q (.int .i64 (ls.length - (ls.filter (kept f t)).length)) H') : CW cfg ν 14 [.ptr q 0 0, .int .u64 f, .int .u64 t] H Q := by
  obtain ⟨S, fp, hm, h1, h2, h3⟩ := hS.meshed hL hle hβ hp
  exact mLose hm f t (by omega) h1 h2 fun H' S' k1 k2 => hq H' (h3 H' S' fp _ k1 (fun p h => .inl h) k2)
theorem oMany (hq : Q (.int .i64 ls.length) H) : CW cfg ν 12 [.ptr q 0 0] H Q := by
  obtain ⟨S, fp, hm, h1, h2, h3⟩ := hS.meshed hL hle hβ hp
  exact many hm hq
end
theorem oNewM (hS : Own β ps H L) (hle : le ps ν) (hβ : under β ν = true) (hp : before ν pos') (hq : ∀ q H', Own β pos' H' (mesh q [] :: L) → Q (.ptr q 0 0) H') : CW cfg ν 8 [] H Q := by
  refine mNew fun qm H' hu hm ho => hq qm H' ?_
  obtain ⟨fp, h1, h2⟩ := hS
  have hb : ∀ p ∈ fp, X.under ν p = false := fun p h => (hle _ (h2 p h).1).under
  refine ⟨qm :: fp, ⟨[qm], fp, rfl, fun p hp' hm' => ?_, ⟨.emp, [], rfl, hm⟩, h1.framed fun p h => ho p (hb p h)⟩, fun p h => ?_⟩
  · simp only [List.mem_singleton] at hp'
    subst hp'
    rw [hb p hm'] at hu; cases hu
  · rcases List.mem_cons.1 h with rfl | h
    · exact ⟨bef_under (a := []) hu hp, under_trans hβ hu⟩
    · exact ⟨(hle _ (h2 p h).1).trans hp, (h2 p h).2⟩
theorem rTake' {v : AVal} (hv : Lv v ls) (hb : ls.length ≤ 4096) (pick : Int) (hq : Q (.tup [.lst ((tkL pick ls).1.map Lt.enc), (tkL pick ls).2.1.enc, .bool (tkL pick ls).2.2]) H) : CW cfg ν 16 [v, .int .i64 pick] H Q := by
  refine rTake hv hb pick (fun e => ?_) (fun l e => ?_)
  · rw [tkL_nil e] at hq; subst e; exact hq
  · rw [tkL_some e] at hq; exact hq
theorem Lv.toLs {v : AVal} (h : Lv v ls) : Ls v (ls.map Lt.enc) := by
  rcases h with rfl | ⟨rfl, rfl⟩
  · exact Ls.of
  · exact Ls.emp
theorem tkL_len (pick : Int) (ls : List Lt) : (tkL pick ls).1.length ≤ ls.length := by
  unfold tkL
  split
  · exact List.length_eraseIdx_le _ _
  · exact Nat.le_refl _
theorem neLtF {a b : Lt} (h : a = b) : aBin cfg.T .neq 30 a.enc b.enc = some (.bool false) := by rw [neLt, decide_eq_true h]; rfl
theorem neB {a b : Bool} (h : a = b) : aBin cfg.T .neq 4 (.bool a) (.bool b) = some (.bool false) := by subst h; cases a <;> rfl
theorem neI {T : TT} {t : TypeId} {a b : Int} (h : a = b) : aBin T .neq t (.int .i64 a) (.int .i64 b) = some (.bool false) := by simp [aBin, aIntB, aInt, h]
structure Ac where
  d : Int
  pk : Int
  l : List Lt
  f : Int
  t : Int
def Ac.enc (x : Ac) : AVal := .agg [.int .i64 x.d, .int .i64 x.pk, .lst (x.l.map Lt.enc), .int .u64 x.f, .int .u64 x.t]
structure Ac.fit (x : Ac) : Prop where
  pk : -9223372036854775808 ≤ x.pk ∧ x.pk ≤ 9223372036854775807
  l : x.l.length ≤ 4611686018427387904
theorem lawPlays (l : List Ac) (hl : l.length ≤ 4611686018427387904) (hf : ∀ x ∈ l, x.fit) (hq : Q (.bool true) H) : CW cfg [] 6 [.lst (l.map Ac.enc)] H Q := by
  refine CW_pure g6 F6 rfl ?_
  have hS0 : Own [] [] (fun _ => none) [] := Own.nil
  refine XW_sr ?_
  refine OW_as rfl rfl ?_
  refine OW_nilE (e' := [_, _, _, _, _, _, _, _, _, _, _, _, _, _, _, _, _, _, _, _, _, _, _, _, _, _, _, _, _, _, _, _, _, _, _, _, _, _, _, _, _, _, _, _, _, _, _, _, _, _, _, _, _, _, _, _, _, _, _, _, _, _, _, _, _, _, _, _, _, _, _, _, _, _, _, _, _, _, _, _, _, _, _, _, _, _, _, _, _, _, _, _, _, _, _, _, _, _, _, _, _, _, _, _, _, _, _, _, _, _, _, _, _, _, _, _, _, _, _, _, _, _, _, _, _, _, _, _, _, _, _, _]) rfl ?_
  refine XW_sr ?_
  refine OW_fn rfl rfl (oNewM hS0 (le_app (p := []) (b := [0, 0, 1])) under_nil (before_lit (ν := []) (a := [0, 0, 1]) (b := [1, 0, 1]) (by decide)) fun q1 H1 hS1 => ?_) 
  replace hS1 : Own _ _ _ ([_]) := hS1
  refine OW_as rfl rfl ?_
  refine OW_nilE (e' := [_, _, _, _, _, _, _, _, _, _, _, _, _, _, _, _, _, _, _, _, _, _, _, _, _, _, _, _, _, _, _, _, _, _, _, _, _, _, _, _, _, _, _, _, _, _, _, _, _, _, _, _, _, _, _, _, _, _, _, _, _, _, _, _, _, _, _, _, _, _, _, _, _, _, _, _, _, _, _, _, _, _, _, _, _, _, _, _, _, _, _, _, _, _, _, _, _, _, _, _, _, _, _, _, _, _, _, _, _, _, _, _, _, _, _, _, _, _, _, _, _, _, _, _, _, _, _, _, _, _, _, _]) rfl ?_
  refine XW_sr ?_
  refine OW_bs rfl rfl rfl ?_
  refine OW_as rfl rfl ?_
  refine OW_nilE (e' := [_, _, _, _, _, _, _, _, _, _, _, _, _, _, _, _, _, _, _, _, _, _, _, _, _, _, _, _, _, _, _, _, _, _, _, _, _, _, _, _, _, _, _, _, _, _, _, _, _, _, _, _, _, _, _, _, _, _, _, _, _, _, _, _, _, _, _, _, _, _, _, _, _, _, _, _, _, _, _, _, _, _, _, _, _, _, _, _, _, _, _, _, _, _, _, _, _, _, _, _, _, _, _, _, _, _, _, _, _, _, _, _, _, _, _, _, _, _, _, _, _, _, _, _, _, _, _, _, _, _, _, _]) rfl ?_
  refine XW_seq ?_
  refine XW_sr ?_
  refine OW_as rfl rfl ?_
  refine OW_nilE (e' := [_, _, _, _, _, _, _, _, _, _, _, _, _, _, _, _, _, _, _, _, _, _, _, _, _, _, _, _, _, _, _, _, _, _, _, _, _, _, _, _, _, _, _, _, _, _, _, _, _, _, _, _, _, _, _, _, _, _, _, _, _, _, _, _, _, _, _, _, _, _, _, _, _, _, _, _, _, _, _, _, _, _, _, _, _, _, _, _, _, _, _, _, _, _, _, _, _, _, _, _, _, _, _, _, _, _, _, _, _, _, _, _, _, _, _, _, _, _, _, _, _, _, _, _, _, _, _, _, _, _, _, _]) rfl ?_
  refine XW_block ?_
  refine XW_whileN (I := fun ν' mm ee H' => ∃ (i : Nat) (v : AVal) (bs : List Lt), mm = l.length - i ∧ under (1 :: 0 :: 1 :: 1 :: 1 :: []) ν' = true ∧ Own [] ν' H' ([mesh q1 bs]) ∧ (i ≤ l.length ∧ i ≤ 100 ∧ Lv v bs ∧ bs.length ≤ 4096) ∧ ∃ g : Nat → AVal, ee = [.lst (l.map Ac.enc), g 1, g 2, .ptr q1 0 0, v, .int .i64 i, g 6, g 7, g 8, g 9, g 10, g 11, g 12, g 13, g 14, g 15, g 16, g 17, g 18, g 19, g 20, g 21, g 22, g 23, g 24, g 25, g 26, g 27, g 28, g 29, g 30, g 31, g 32, g 33, g 34, g 35, g 36, g 37, g 38, g 39, g 40, g 41, g 42, g 43, g 44, g 45, g 46, g 47, g 48, g 49, g 50, g 51, g 52, g 53, g 54, g 55, g 56, g 57, g 58, g 59, g 60, g 61, g 62, g 63, g 64, g 65, g 66, g 67, g 68, g 69, g 70, g 71, g 72, g 73, g 74, g 75, g 76, g 77, g 78, g 79, g 80, g 81, g 82, g 83, g 84, g 85, g 86, g 87, g 88, g 89, g 90, g 91, g 92, g 93, g 94, g 95, g 96, g 97, g 98, g 99, g 100, g 101, g 102, g 103, g 104, g 105, g 106, g 107, g 108, g 109, g 110, g 111, g 112, g 113, g 114, g 115, g 116, g 117, g 118, g 119, g 120, g 121, g 122, g 123, g 124, g 125, g 126, g 127, g 128, g 129, g 130, g 131]) ?_ _ _ _ _ ⟨0, .emp, [], rfl, under_me, Own.cast (Own.mono (hS1) (le_lit (ν := []) (a := [1, 0, 1]) (b := [1, 0, 1, 1, 1]) (by decide))) (rfl), (⟨Nat.zero_le _, by omega, .inr ⟨rfl, rfl⟩, by simp⟩), env_g rfl⟩
  rintro ν1 mm ee H2 ⟨i, v, bs, rfl, hU1, hS2, ⟨hi, hi2, hv, hbl⟩, g1, rfl⟩
  refine XW_seq ?_
  refine XW_sr ?_
  refine OW_mv rfl rfl ?_
  refine OW_mv rfl rfl ?_
  first
  | refine OW_lenL rfl rfl (by first | assumption | exact Ls.of | exact Ls.emp | exact Ls.nls) rfl rfl rfl (by first | exact List.length_map _ | rfl) ?_
  | refine OW_bi rfl rfl rfl ?_
  refine OW_env (e' := [_, _, _, _, _, _, _, _, _, _, _, _, _, _, _, _, _, _, _, _, _, _, _, _, _, _, _, _, _, _, _, _, _, _, _, _, _, _, _, _, _, _, _, _, _, _, _, _, _, _, _, _, _, _, _, _, _, _, _, _, _, _, _, _, _, _, _, _, _, _, _, _, _, _, _, _, _, _, _, _, _, _, _, _, _, _, _, _, _, _, _, _, _, _, _, _, _, _, _, _, _, _, _, _, _, _, _, _, _, _, _, _, _, _, _, _, _, _, _, _, _, _, _, _, _, _, _, _, _, _, _, _]) rfl ?_
  refine OW_bin rfl rfl rfl rfl rfl ?_
  refine OW_mv rfl rfl ?_
  refine OW_split (tt := 27) rfl (fun g4_5 => ?_) (fun g4_5 => ?_)
  · try simp only [decide_eq_true_eq, decide_eq_false_iff_not, Bool.not_eq_true', Bool.not_eq_false', Bool.and_eq_true, Bool.or_eq_true, Bool.not_eq_true, Bool.not_eq_false, Decidable.not_not, bne_iff_ne, beq_iff_eq, List.length_append, List.length_cons, List.length_nil, List.length_drop, List.length_take] at g4_5
    refine OW_env (e' := [_, _, _, _, _, _, _, _, _, _, _, _, _, _, _, _, _, _, _, _, _, _, _, _, _, _, _, _, _, _, _, _, _, _, _, _, _, _, _, _, _, _, _, _, _, _, _, _, _, _, _, _, _, _, _, _, _, _, _, _, _, _, _, _, _, _, _, _, _, _, _, _, _, _, _, _, _, _, _, _, _, _, _, _, _, _, _, _, _, _, _, _, _, _, _, _, _, _, _, _, _, _, _, _, _, _, _, _, _, _, _, _, _, _, _, _, _, _, _, _, _, _, _, _, _, _, _, _, _, _, _, _]) rfl ?_
    refine OW_mv rfl rfl ?_
    refine OW_bin rfl rfl rfl rfl rfl ?_
    refine OW_pick rfl rfl rfl ?_
    refine OW_nilE (e' := [_, _, _, _, _, _, _, _, _, _, _, _, _, _, _, _, _, _, _, _, _, _, _, _, _, _, _, _, _, _, _, _, _, _, _, _, _, _, _, _, _, _, _, _, _, _, _, _, _, _, _, _, _, _, _, _, _, _, _, _, _, _, _, _, _, _, _, _, _, _, _, _, _, _, _, _, _, _, _, _, _, _, _, _, _, _, _, _, _, _, _, _, _, _, _, _, _, _, _, _, _, _, _, _, _, _, _, _, _, _, _, _, _, _, _, _, _, _, _, _, _, _, _, _, _, _, _, _, _, _, _, _]) rfl ?_
    refine XW_if rfl (fun h4 => ?_) (fun h4 => ?_)
    · try simp only [decide_eq_true_eq, decide_eq_false_iff_not, Bool.not_eq_true', Bool.not_eq_false', Bool.and_eq_true, Bool.or_eq_true, Bool.not_eq_true, Bool.not_eq_false, Decidable.not_not, bne_iff_ne, beq_iff_eq, List.length_append, List.length_cons, List.length_nil, List.length_drop, List.length_take] at h4
      refine XW_skip ?_
      refine then_norm ?_
      refine XW_seq ?_
      refine XW_block ?_
      refine XW_sr ?_
      have hx := hf l[i] (List.getElem_mem (by omega))
      refine OW_mv rfl rfl ?_
      refine OW_mv rfl rfl ?_
      first
      | refine OW_iaL rfl rfl rfl Ls.of rfl rfl rfl (by first | rfl | exact (Int.toNat_of_nonneg (by omega)).symm) (by first | assumption | exact at_map (by first | assumption | omega) | exact at_lst (by omega) | rfl) rfl ?_
      | refine OW_iaL rfl rfl rfl (by assumption) rfl rfl rfl (by first | rfl | exact (Int.toNat_of_nonneg (by omega)).symm) (by first | assumption | exact at_map (by first | assumption | omega) | exact at_lst (by omega) | rfl) rfl ?_
      refine OW_env (e' := [_, _, _, _, _, _, _, _, _, _, _, _, _, _, _, _, _, _, _, _, _, _, _, _, _, _, _, _, _, _, _, _, _, _, _, _, _, _, _, _, _, _, _, _, _, _, _, _, _, _, _, _, _, _, _, _, _, _, _, _, _, _, _, _, _, _, _, _, _, _, _, _, _, _, _, _, _, _, _, _, _, _, _, _, _, _, _, _, _, _, _, _, _, _, _, _, _, _, _, _, _, _, _, _, _, _, _, _, _, _, _, _, _, _, _, _, _, _, _, _, _, _, _, _, _, _, _, _, _, _, _, _]) rfl ?_
      refine OW_loadE rfl rfl rfl (by first | exact part_whole rfl rfl rfl | rfl) ?_
      refine OW_allocR hS2 (le_app (p := ν1) (b := [4, 0, 0, 1, 0])) under_nil rfl rfl rfl rfl fun H3 hS3 => ?_
      replace hS3 : Own _ _ _ ([_, _]) := hS3
      first
      | refine OW_storeR hS3 (k := 0) rfl le_refl rfl rfl rfl rfl ⟨rfl, rfl, Nat.le_of_ble_eq_true rfl⟩ (set_whole rfl rfl) fun H4 hS4 => ?_
      | refine OW_storeR hS3 (k := 0) rfl le_refl rfl rfl rfl rfl ⟨rfl, rfl, Nat.le_of_ble_eq_true rfl⟩ (u2 := .agg [_, _, _, _, _]) rfl fun H4 hS4 => ?_
      replace hS4 : Own _ _ _ ([_, _]) := hS4
      refine OW_nilE (e' := [_, _, _, _, _, _, _, _, _, _, _, _, _, _, _, _, _, _, _, _, _, _, _, _, _, _, _, _, _, _, _, _, _, _, _, _, _, _, _, _, _, _, _, _, _, _, _, _, _, _, _, _, _, _, _, _, _, _, _, _, _, _, _, _, _, _, _, _, _, _, _, _, _, _, _, _, _, _, _, _, _, _, _, _, _, _, _, _, _, _, _, _, _, _, _, _, _, _, _, _, _, _, _, _, _, _, _, _, _, _, _, _, _, _, _, _, _, _, _, _, _, _, _, _, _, _, _, _, _, _, _, _]) rfl ?_
      refine XW_mid (M := fun ee H' => ∃ (v : AVal) (bs : List Lt), Own [] (1 :: 1 :: 0 :: 1 :: 0 :: ν1) H' ([mesh q1 bs]) ∧ (Lv v bs ∧ bs.length ≤ 4096) ∧ ∃ g : Nat → AVal, ee = [.lst (l.map Ac.enc), g 1, g 2, .ptr q1 0 0, v, .int .i64 i, g 6, g 7, g 8, g 9, g 10, g 11, g 12, g 13, g 14, g 15, g 16, g 17, g 18, g 19, g 20, g 21, g 22, g 23, g 24, g 25, g 26, g 27, g 28, g 29, g 30, g 31, g 32, g 33, g 34, g 35, g 36, g 37, g 38, g 39, g 40, g 41, g 42, g 43, g 44, g 45, g 46, g 47, g 48, g 49, g 50, g 51, g 52, g 53, g 54, g 55, g 56, g 57, g 58, g 59, g 60, g 61, g 62, g 63, g 64, g 65, g 66, g 67, g 68, g 69, g 70, g 71, g 72, g 73, g 74, g 75, g 76, g 77, g 78, g 79, g 80, g 81, g 82, g 83, g 84, g 85, g 86, g 87, g 88, g 89, g 90, g 91, g 92, g 93, g 94, g 95, g 96, g 97, g 98, g 99, g 100, g 101, g 102, g 103, g 104, g 105, g 106, g 107, g 108, g 109, g 110, g 111, g 112, g 113, g 114, g 115, g 116, g 117, g 118, g 119, g 120, g 121, g 122, g 123, g 124, g 125, g 126, g 127, g 128, g 129, g 130, g 131]) ?_ ?_
      · skip
        refine XW_sr ?_
        refine OW_fa rfl rfl rfl ?_
        refine OW_loadR hS4 (k := 0) rfl rfl rfl rfl rfl (by first | exact part_whole rfl rfl rfl | rfl) ?_
        refine OW_nilE (e' := [_, _, _, _, _, _, _, _, _, _, _, _, _, _, _, _, _, _, _, _, _, _, _, _, _, _, _, _, _, _, _, _, _, _, _, _, _, _, _, _, _, _, _, _, _, _, _, _, _, _, _, _, _, _, _, _, _, _, _, _, _, _, _, _, _, _, _, _, _, _, _, _, _, _, _, _, _, _, _, _, _, _, _, _, _, _, _, _, _, _, _, _, _, _, _, _, _, _, _, _, _, _, _, _, _, _, _, _, _, _, _, _, _, _, _, _, _, _, _, _, _, _, _, _, _, _, _, _, _, _, _, _]) rfl ?_
        refine XW_block ?_
        refine XW_sr ?_
        refine OW_bin rfl rfl rfl rfl rfl ?_
        refine OW_as rfl rfl ?_
        refine OW_nilE (e' := [_, _, _, _, _, _, _, _, _, _, _, _, _, _, _, _, _, _, _, _, _, _, _, _, _, _, _, _, _, _, _, _, _, _, _, _, _, _, _, _, _, _, _, _, _, _, _, _, _, _, _, _, _, _, _, _, _, _, _, _, _, _, _, _, _, _, _, _, _, _, _, _, _, _, _, _, _, _, _, _, _, _, _, _, _, _, _, _, _, _, _, _, _, _, _, _, _, _, _, _, _, _, _, _, _, _, _, _, _, _, _, _, _, _, _, _, _, _, _, _, _, _, _, _, _, _, _, _, _, _, _, _]) rfl ?_
        refine XW_if rfl (fun h8 => ?_) (fun h8 => ?_)
        · try simp only [decide_eq_true_eq, decide_eq_false_iff_not, Bool.not_eq_true', Bool.not_eq_false', Bool.and_eq_true, Bool.or_eq_true, Bool.not_eq_true, Bool.not_eq_false, Decidable.not_not, bne_iff_ne, beq_iff_eq, List.length_append, List.length_cons, List.length_nil, List.length_drop, List.length_take] at h8
          refine XW_sr ?_
          refine OW_mv rfl rfl ?_
          refine OW_fa rfl rfl rfl ?_
          refine OW_loadR hS4 (k := 0) rfl rfl rfl rfl rfl (by first | exact part_whole rfl rfl rfl | rfl) ?_
          refine OW_env (e' := [_, _, _, _, _, _, _, _, _, _, _, _, _, _, _, _, _, _, _, _, _, _, _, _, _, _, _, _, _, _, _, _, _, _, _, _, _, _, _, _, _, _, _, _, _, _, _, _, _, _, _, _, _, _, _, _, _, _, _, _, _, _, _, _, _, _, _, _, _, _, _, _, _, _, _, _, _, _, _, _, _, _, _, _, _, _, _, _, _, _, _, _, _, _, _, _, _, _, _, _, _, _, _, _, _, _, _, _, _, _, _, _, _, _, _, _, _, _, _, _, _, _, _, _, _, _, _, _, _, _, _, _]) rfl ?_
          refine OW_fn rfl rfl (rPut hv hbl hx.l ?_) 
          refine OW_mv rfl rfl ?_
          refine OW_ex rfl rfl rfl ?_
          refine OW_env (e' := [_, _, _, _, _, _, _, _, _, _, _, _, _, _, _, _, _, _, _, _, _, _, _, _, _, _, _, _, _, _, _, _, _, _, _, _, _, _, _, _, _, _, _, _, _, _, _, _, _, _, _, _, _, _, _, _, _, _, _, _, _, _, _, _, _, _, _, _, _, _, _, _, _, _, _, _, _, _, _, _, _, _, _, _, _, _, _, _, _, _, _, _, _, _, _, _, _, _, _, _, _, _, _, _, _, _, _, _, _, _, _, _, _, _, _, _, _, _, _, _, _, _, _, _, _, _, _, _, _, _, _, _]) rfl ?_
          refine OW_ex rfl rfl rfl ?_
          refine OW_as rfl rfl ?_
          refine OW_as rfl rfl ?_
          refine OW_nilE (e' := [_, _, _, _, _, _, _, _, _, _, _, _, _, _, _, _, _, _, _, _, _, _, _, _, _, _, _, _, _, _, _, _, _, _, _, _, _, _, _, _, _, _, _, _, _, _, _, _, _, _, _, _, _, _, _, _, _, _, _, _, _, _, _, _, _, _, _, _, _, _, _, _, _, _, _, _, _, _, _, _, _, _, _, _, _, _, _, _, _, _, _, _, _, _, _, _, _, _, _, _, _, _, _, _, _, _, _, _, _, _, _, _, _, _, _, _, _, _, _, _, _, _, _, _, _, _, _, _, _, _, _, _]) rfl ?_
          refine XW_seq ?_
          refine XW_sr ?_
          refine OW_mv rfl rfl ?_
          refine OW_fa rfl rfl rfl ?_
          refine OW_loadR hS4 (k := 0) rfl rfl rfl rfl rfl (by first | exact part_whole rfl rfl rfl | rfl) ?_
          refine OW_env (e' := [_, _, _, _, _, _, _, _, _, _, _, _, _, _, _, _, _, _, _, _, _, _, _, _, _, _, _, _, _, _, _, _, _, _, _, _, _, _, _, _, _, _, _, _, _, _, _, _, _, _, _, _, _, _, _, _, _, _, _, _, _, _, _, _, _, _, _, _, _, _, _, _, _, _, _, _, _, _, _, _, _, _, _, _, _, _, _, _, _, _, _, _, _, _, _, _, _, _, _, _, _, _, _, _, _, _, _, _, _, _, _, _, _, _, _, _, _, _, _, _, _, _, _, _, _, _, _, _, _, _, _, _]) rfl ?_
          refine OW_fn rfl rfl (oPut hS4 (k := 1) rfl (le_lit (ν := ν1) (a := [6, 0, 0, 1, 0]) (b := [3, 0, 0, 1, 1, 1, 0, 1, 0, 1, 0]) (by decide)) under_nil (before_lit (ν := ν1) (a := [3, 0, 0, 1, 1, 1, 0, 1, 0, 1, 0]) (b := [4, 0, 0, 1, 1, 1, 0, 1, 0, 1, 0]) (by decide)) hbl _ hx.l fun H5 hS5 => ?_) 
          replace hS5 : Own _ _ _ ([_, _]) := hS5
          refine OW_mv rfl rfl ?_
          refine OW_bin rfl rfl rfl rfl (neI rfl) ?_
          refine OW_nilE (e' := [_, _, _, _, _, _, _, _, _, _, _, _, _, _, _, _, _, _, _, _, _, _, _, _, _, _, _, _, _, _, _, _, _, _, _, _, _, _, _, _, _, _, _, _, _, _, _, _, _, _, _, _, _, _, _, _, _, _, _, _, _, _, _, _, _, _, _, _, _, _, _, _, _, _, _, _, _, _, _, _, _, _, _, _, _, _, _, _, _, _, _, _, _, _, _, _, _, _, _, _, _, _, _, _, _, _, _, _, _, _, _, _, _, _, _, _, _, _, _, _, _, _, _, _, _, _, _, _, _, _, _, _]) rfl ?_
          refine XW_no rfl rfl ?_
          refine XW_skip ?_
          refine then_norm ?_
          refine XW_region ?_
          refine OW_mv rfl rfl ?_
          refine OW_as rfl rfl ?_
          refine OW_nilE (e' := [_, _, _, _, _, _, _, _, _, _, _, _, _, _, _, _, _, _, _, _, _, _, _, _, _, _, _, _, _, _, _, _, _, _, _, _, _, _, _, _, _, _, _, _, _, _, _, _, _, _, _, _, _, _, _, _, _, _, _, _, _, _, _, _, _, _, _, _, _, _, _, _, _, _, _, _, _, _, _, _, _, _, _, _, _, _, _, _, _, _, _, _, _, _, _, _, _, _, _, _, _, _, _, _, _, _, _, _, _, _, _, _, _, _, _, _, _, _, _, _, _, _, _, _, _, _, _, _, _, _, _, _]) rfl ?_
          refine block_norm ?_
          have hSd1 : Own _ _ _ ([_]) := (Own.drop hS5 (k := 0) rfl)
          -- mid 29.1
          refine ⟨_, _, Own.cast (Own.mono (hSd1) (le_lit (ν := ν1) (a := [4, 0, 0, 1, 1, 1, 0, 1, 0, 1, 0]) (b := [1, 1, 0, 1, 0]) (by decide))) (rfl), ?_, env_g rfl⟩
          · exact ⟨.inl rfl, by simp only [List.length_append, List.length_take]; omega⟩
        · try simp only [decide_eq_true_eq, decide_eq_false_iff_not, Bool.not_eq_true', Bool.not_eq_false', Bool.and_eq_true, Bool.or_eq_true, Bool.not_eq_true, Bool.not_eq_false, Decidable.not_not, bne_iff_ne, beq_iff_eq, List.length_append, List.length_cons, List.length_nil, List.length_drop, List.length_take] at h8
          refine XW_sr ?_
          refine OW_bin rfl rfl rfl rfl rfl ?_
          refine OW_as rfl rfl ?_
          refine OW_nilE (e' := [_, _, _, _, _, _, _, _, _, _, _, _, _, _, _, _, _, _, _, _, _, _, _, _, _, _, _, _, _, _, _, _, _, _, _, _, _, _, _, _, _, _, _, _, _, _, _, _, _, _, _, _, _, _, _, _, _, _, _, _, _, _, _, _, _, _, _, _, _, _, _, _, _, _, _, _, _, _, _, _, _, _, _, _, _, _, _, _, _, _, _, _, _, _, _, _, _, _, _, _, _, _, _, _, _, _, _, _, _, _, _, _, _, _, _, _, _, _, _, _, _, _, _, _, _, _, _, _, _, _, _, _]) rfl ?_
          refine XW_if rfl (fun h13 => ?_) (fun h13 => ?_)
          · try simp only [decide_eq_true_eq, decide_eq_false_iff_not, Bool.not_eq_true', Bool.not_eq_false', Bool.and_eq_true, Bool.or_eq_true, Bool.not_eq_true, Bool.not_eq_false, Decidable.not_not, bne_iff_ne, beq_iff_eq, List.length_append, List.length_cons, List.length_nil, List.length_drop, List.length_take] at h13
            refine XW_sr ?_
            refine OW_mv rfl rfl ?_
            refine OW_fa rfl rfl rfl ?_
            refine OW_loadR hS4 (k := 0) rfl rfl rfl rfl rfl (by first | exact part_whole rfl rfl rfl | rfl) ?_
            refine OW_env (e' := [_, _, _, _, _, _, _, _, _, _, _, _, _, _, _, _, _, _, _, _, _, _, _, _, _, _, _, _, _, _, _, _, _, _, _, _, _, _, _, _, _, _, _, _, _, _, _, _, _, _, _, _, _, _, _, _, _, _, _, _, _, _, _, _, _, _, _, _, _, _, _, _, _, _, _, _, _, _, _, _, _, _, _, _, _, _, _, _, _, _, _, _, _, _, _, _, _, _, _, _, _, _, _, _, _, _, _, _, _, _, _, _, _, _, _, _, _, _, _, _, _, _, _, _, _, _, _, _, _, _, _, _]) rfl ?_
            refine OW_fn rfl rfl (rTake' hv hbl _ ?_) 
            refine OW_mv rfl rfl ?_
            refine OW_ex rfl rfl rfl ?_
            refine OW_env (e' := [_, _, _, _, _, _, _, _, _, _, _, _, _, _, _, _, _, _, _, _, _, _, _, _, _, _, _, _, _, _, _, _, _, _, _, _, _, _, _, _, _, _, _, _, _, _, _, _, _, _, _, _, _, _, _, _, _, _, _, _, _, _, _, _, _, _, _, _, _, _, _, _, _, _, _, _, _, _, _, _, _, _, _, _, _, _, _, _, _, _, _, _, _, _, _, _, _, _, _, _, _, _, _, _, _, _, _, _, _, _, _, _, _, _, _, _, _, _, _, _, _, _, _, _, _, _, _, _, _, _, _, _]) rfl ?_
            refine OW_ex rfl rfl rfl ?_
            refine OW_ex rfl rfl rfl ?_
            refine OW_allocR hS4 (le_lit (ν := ν1) (a := [6, 0, 0, 1, 0]) (b := [8, 0, 1, 1, 1, 0, 1, 0, 1, 0]) (by decide)) under_nil rfl rfl rfl rfl fun H6 hS6 => ?_
            replace hS6 : Own _ _ _ ([_, _, _]) := hS6
            refine OW_env (e' := [_, _, _, _, _, _, _, _, _, _, _, _, _, _, _, _, _, _, _, _, _, _, _, _, _, _, _, _, _, _, _, _, _, _, _, _, _, _, _, _, _, _, _, _, _, _, _, _, _, _, _, _, _, _, _, _, _, _, _, _, _, _, _, _, _, _, _, _, _, _, _, _, _, _, _, _, _, _, _, _, _, _, _, _, _, _, _, _, _, _, _, _, _, _, _, _, _, _, _, _, _, _, _, _, _, _, _, _, _, _, _, _, _, _, _, _, _, _, _, _, _, _, _, _, _, _, _, _, _, _, _, _]) rfl ?_
            refine OW_as rfl rfl ?_
            first
            | refine OW_storeR hS6 (k := 0) rfl (le_lit (ν := ν1) (a := [9, 0, 1, 1, 1, 0, 1, 0, 1, 0]) (b := [10, 0, 1, 1, 1, 0, 1, 0, 1, 0]) (by decide)) rfl rfl rfl rfl ⟨rfl, rfl, Nat.le_of_ble_eq_true rfl⟩ (set_whole rfl rfl) fun H7 hS7 => ?_
            | refine OW_storeR hS6 (k := 0) rfl (le_lit (ν := ν1) (a := [9, 0, 1, 1, 1, 0, 1, 0, 1, 0]) (b := [10, 0, 1, 1, 1, 0, 1, 0, 1, 0]) (by decide)) rfl rfl rfl rfl ⟨rfl, rfl, Nat.le_of_ble_eq_true rfl⟩ (u2 := .agg [_, _, _]) rfl fun H7 hS7 => ?_
            replace hS7 : Own _ _ _ ([_, _, _]) := hS7
            refine OW_as rfl rfl ?_
            refine OW_nilE (e' := [_, _, _, _, _, _, _, _, _, _, _, _, _, _, _, _, _, _, _, _, _, _, _, _, _, _, _, _, _, _, _, _, _, _, _, _, _, _, _, _, _, _, _, _, _, _, _, _, _, _, _, _, _, _, _, _, _, _, _, _, _, _, _, _, _, _, _, _, _, _, _, _, _, _, _, _, _, _, _, _, _, _, _, _, _, _, _, _, _, _, _, _, _, _, _, _, _, _, _, _, _, _, _, _, _, _, _, _, _, _, _, _, _, _, _, _, _, _, _, _, _, _, _, _, _, _, _, _, _, _, _, _]) rfl ?_
            refine XW_sr ?_
            refine OW_mv rfl rfl ?_
            refine OW_fa rfl rfl rfl ?_
            refine OW_loadR hS7 (k := 1) rfl rfl rfl rfl rfl (by first | exact part_whole rfl rfl rfl | rfl) ?_
            refine OW_env (e' := [_, _, _, _, _, _, _, _, _, _, _, _, _, _, _, _, _, _, _, _, _, _, _, _, _, _, _, _, _, _, _, _, _, _, _, _, _, _, _, _, _, _, _, _, _, _, _, _, _, _, _, _, _, _, _, _, _, _, _, _, _, _, _, _, _, _, _, _, _, _, _, _, _, _, _, _, _, _, _, _, _, _, _, _, _, _, _, _, _, _, _, _, _, _, _, _, _, _, _, _, _, _, _, _, _, _, _, _, _, _, _, _, _, _, _, _, _, _, _, _, _, _, _, _, _, _, _, _, _, _, _, _]) rfl ?_
            refine OW_fn rfl rfl (oTake hS7 (k := 2) rfl (le_lit (ν := ν1) (a := [11, 0, 1, 1, 1, 0, 1, 0, 1, 0]) (b := [3, 0, 1, 1, 1, 1, 0, 1, 0, 1, 0]) (by decide)) under_nil (before_lit (ν := ν1) (a := [3, 0, 1, 1, 1, 1, 0, 1, 0, 1, 0]) (b := [4, 0, 1, 1, 1, 1, 0, 1, 0, 1, 0]) (by decide)) hbl _ hx.pk fun H8 hS8 => ?_) 
            replace hS8 : Own _ _ _ ([_, _, _]) := hS8
            refine OW_mv rfl rfl ?_
            refine OW_ex rfl rfl rfl ?_
            refine OW_env (e' := [_, _, _, _, _, _, _, _, _, _, _, _, _, _, _, _, _, _, _, _, _, _, _, _, _, _, _, _, _, _, _, _, _, _, _, _, _, _, _, _, _, _, _, _, _, _, _, _, _, _, _, _, _, _, _, _, _, _, _, _, _, _, _, _, _, _, _, _, _, _, _, _, _, _, _, _, _, _, _, _, _, _, _, _, _, _, _, _, _, _, _, _, _, _, _, _, _, _, _, _, _, _, _, _, _, _, _, _, _, _, _, _, _, _, _, _, _, _, _, _, _, _, _, _, _, _, _, _, _, _, _, _]) rfl ?_
            refine OW_ex rfl rfl rfl ?_
            refine OW_allocR hS8 (le_lit (ν := ν1) (a := [4, 0, 1, 1, 1, 1, 0, 1, 0, 1, 0]) (b := [7, 0, 1, 1, 1, 1, 0, 1, 0, 1, 0]) (by decide)) under_nil rfl rfl rfl rfl fun H9 hS9 => ?_
            replace hS9 : Own _ _ _ ([_, _, _, _]) := hS9
            first
            | refine OW_storeR hS9 (k := 0) rfl le_refl rfl rfl rfl rfl ⟨rfl, rfl, Nat.le_of_ble_eq_true rfl⟩ (set_whole rfl rfl) fun H10 hS10 => ?_
            | refine OW_storeR hS9 (k := 0) rfl le_refl rfl rfl rfl rfl ⟨rfl, rfl, Nat.le_of_ble_eq_true rfl⟩ (u2 := .agg [_, _, _]) rfl fun H10 hS10 => ?_
            replace hS10 : Own _ _ _ ([_, _, _, _]) := hS10
            refine OW_env (e' := [_, _, _, _, _, _, _, _, _, _, _, _, _, _, _, _, _, _, _, _, _, _, _, _, _, _, _, _, _, _, _, _, _, _, _, _, _, _, _, _, _, _, _, _, _, _, _, _, _, _, _, _, _, _, _, _, _, _, _, _, _, _, _, _, _, _, _, _, _, _, _, _, _, _, _, _, _, _, _, _, _, _, _, _, _, _, _, _, _, _, _, _, _, _, _, _, _, _, _, _, _, _, _, _, _, _, _, _, _, _, _, _, _, _, _, _, _, _, _, _, _, _, _, _, _, _, _, _, _, _, _, _]) rfl ?_
            refine OW_as rfl rfl ?_
            refine OW_nilE (e' := [_, _, _, _, _, _, _, _, _, _, _, _, _, _, _, _, _, _, _, _, _, _, _, _, _, _, _, _, _, _, _, _, _, _, _, _, _, _, _, _, _, _, _, _, _, _, _, _, _, _, _, _, _, _, _, _, _, _, _, _, _, _, _, _, _, _, _, _, _, _, _, _, _, _, _, _, _, _, _, _, _, _, _, _, _, _, _, _, _, _, _, _, _, _, _, _, _, _, _, _, _, _, _, _, _, _, _, _, _, _, _, _, _, _, _, _, _, _, _, _, _, _, _, _, _, _, _, _, _, _, _, _]) rfl ?_
            refine XW_seq ?_
            refine XW_sr ?_
            refine OW_loadR hS10 (k := 1) rfl rfl rfl rfl rfl (by first | exact part_whole rfl rfl rfl | rfl) ?_
            refine OW_loadR hS10 (k := 0) rfl rfl rfl rfl rfl (by first | exact part_whole rfl rfl rfl | rfl) ?_
            refine OW_bin rfl rfl rfl rfl (neLtF rfl) ?_
            refine OW_env (e' := [_, _, _, _, _, _, _, _, _, _, _, _, _, _, _, _, _, _, _, _, _, _, _, _, _, _, _, _, _, _, _, _, _, _, _, _, _, _, _, _, _, _, _, _, _, _, _, _, _, _, _, _, _, _, _, _, _, _, _, _, _, _, _, _, _, _, _, _, _, _, _, _, _, _, _, _, _, _, _, _, _, _, _, _, _, _, _, _, _, _, _, _, _, _, _, _, _, _, _, _, _, _, _, _, _, _, _, _, _, _, _, _, _, _, _, _, _, _, _, _, _, _, _, _, _, _, _, _, _, _, _, _]) rfl ?_
            refine OW_mv rfl rfl ?_
            refine OW_mv rfl rfl ?_
            refine OW_mv rfl rfl ?_
            refine OW_env (e' := [_, _, _, _, _, _, _, _, _, _, _, _, _, _, _, _, _, _, _, _, _, _, _, _, _, _, _, _, _, _, _, _, _, _, _, _, _, _, _, _, _, _, _, _, _, _, _, _, _, _, _, _, _, _, _, _, _, _, _, _, _, _, _, _, _, _, _, _, _, _, _, _, _, _, _, _, _, _, _, _, _, _, _, _, _, _, _, _, _, _, _, _, _, _, _, _, _, _, _, _, _, _, _, _, _, _, _, _, _, _, _, _, _, _, _, _, _, _, _, _, _, _, _, _, _, _, _, _, _, _, _, _]) rfl ?_
            refine OW_bin rfl rfl rfl rfl (neB rfl) ?_
            refine OW_pick rfl rfl rfl ?_
            refine OW_nilE (e' := [_, _, _, _, _, _, _, _, _, _, _, _, _, _, _, _, _, _, _, _, _, _, _, _, _, _, _, _, _, _, _, _, _, _, _, _, _, _, _, _, _, _, _, _, _, _, _, _, _, _, _, _, _, _, _, _, _, _, _, _, _, _, _, _, _, _, _, _, _, _, _, _, _, _, _, _, _, _, _, _, _, _, _, _, _, _, _, _, _, _, _, _, _, _, _, _, _, _, _, _, _, _, _, _, _, _, _, _, _, _, _, _, _, _, _, _, _, _, _, _, _, _, _, _, _, _, _, _, _, _, _, _]) rfl ?_
            refine XW_no rfl rfl ?_
            refine XW_skip ?_
            refine then_norm ?_
            refine XW_region ?_
            refine OW_mv rfl rfl ?_
            refine OW_as rfl rfl ?_
            refine OW_nilE (e' := [_, _, _, _, _, _, _, _, _, _, _, _, _, _, _, _, _, _, _, _, _, _, _, _, _, _, _, _, _, _, _, _, _, _, _, _, _, _, _, _, _, _, _, _, _, _, _, _, _, _, _, _, _, _, _, _, _, _, _, _, _, _, _, _, _, _, _, _, _, _, _, _, _, _, _, _, _, _, _, _, _, _, _, _, _, _, _, _, _, _, _, _, _, _, _, _, _, _, _, _, _, _, _, _, _, _, _, _, _, _, _, _, _, _, _, _, _, _, _, _, _, _, _, _, _, _, _, _, _, _, _, _]) rfl ?_
            refine block_norm ?_
            have hSd2 : Own _ _ _ ([_]) := (Own.drop (Own.drop (Own.drop hS10 (k := 0) rfl) (k := 0) rfl) (k := 0) rfl)
            -- mid 29.2
            refine ⟨_, _, Own.cast (Own.mono (hSd2) (le_lit (ν := ν1) (a := [9, 0, 1, 1, 1, 1, 0, 1, 0, 1, 0]) (b := [1, 1, 0, 1, 0]) (by decide))) (rfl), ?_, env_g rfl⟩
            · exact ⟨.inl rfl, Nat.le_trans (tkL_len _ _) hbl⟩
          · try simp only [decide_eq_true_eq, decide_eq_false_iff_not, Bool.not_eq_true', Bool.not_eq_false', Bool.and_eq_true, Bool.or_eq_true, Bool.not_eq_true, Bool.not_eq_false, Decidable.not_not, bne_iff_ne, beq_iff_eq, List.length_append, List.length_cons, List.length_nil, List.length_drop, List.length_take] at h13
            refine XW_sr ?_
            refine OW_bin rfl rfl rfl rfl rfl ?_
            refine OW_as rfl rfl ?_
            refine OW_nilE (e' := [_, _, _, _, _, _, _, _, _, _, _, _, _, _, _, _, _, _, _, _, _, _, _, _, _, _, _, _, _, _, _, _, _, _, _, _, _, _, _, _, _, _, _, _, _, _, _, _, _, _, _, _, _, _, _, _, _, _, _, _, _, _, _, _, _, _, _, _, _, _, _, _, _, _, _, _, _, _, _, _, _, _, _, _, _, _, _, _, _, _, _, _, _, _, _, _, _, _, _, _, _, _, _, _, _, _, _, _, _, _, _, _, _, _, _, _, _, _, _, _, _, _, _, _, _, _, _, _, _, _, _, _]) rfl ?_
            refine XW_if rfl (fun h19 => ?_) (fun h19 => ?_)
            · try simp only [decide_eq_true_eq, decide_eq_false_iff_not, Bool.not_eq_true', Bool.not_eq_false', Bool.and_eq_true, Bool.or_eq_true, Bool.not_eq_true, Bool.not_eq_false, Decidable.not_not, bne_iff_ne, beq_iff_eq, List.length_append, List.length_cons, List.length_nil, List.length_drop, List.length_take] at h19
              refine XW_sr ?_
              refine OW_mv rfl rfl ?_
              refine OW_fa rfl rfl rfl ?_
              refine OW_loadR hS4 (k := 0) rfl rfl rfl rfl rfl (by first | exact part_whole rfl rfl rfl | rfl) ?_
              refine OW_env (e' := [_, _, _, _, _, _, _, _, _, _, _, _, _, _, _, _, _, _, _, _, _, _, _, _, _, _, _, _, _, _, _, _, _, _, _, _, _, _, _, _, _, _, _, _, _, _, _, _, _, _, _, _, _, _, _, _, _, _, _, _, _, _, _, _, _, _, _, _, _, _, _, _, _, _, _, _, _, _, _, _, _, _, _, _, _, _, _, _, _, _, _, _, _, _, _, _, _, _, _, _, _, _, _, _, _, _, _, _, _, _, _, _, _, _, _, _, _, _, _, _, _, _, _, _, _, _, _, _, _, _, _, _]) rfl ?_
              refine OW_fn rfl rfl (rTake' hv hbl _ ?_) 
              refine OW_mv rfl rfl ?_
              refine OW_ex rfl rfl rfl ?_
              refine OW_env (e' := [_, _, _, _, _, _, _, _, _, _, _, _, _, _, _, _, _, _, _, _, _, _, _, _, _, _, _, _, _, _, _, _, _, _, _, _, _, _, _, _, _, _, _, _, _, _, _, _, _, _, _, _, _, _, _, _, _, _, _, _, _, _, _, _, _, _, _, _, _, _, _, _, _, _, _, _, _, _, _, _, _, _, _, _, _, _, _, _, _, _, _, _, _, _, _, _, _, _, _, _, _, _, _, _, _, _, _, _, _, _, _, _, _, _, _, _, _, _, _, _, _, _, _, _, _, _, _, _, _, _, _, _]) rfl ?_
              refine OW_ex rfl rfl rfl ?_
              refine OW_ex rfl rfl rfl ?_
              refine OW_allocR hS4 (le_lit (ν := ν1) (a := [6, 0, 0, 1, 0]) (b := [8, 0, 1, 1, 1, 1, 0, 1, 0, 1, 0]) (by decide)) under_nil rfl rfl rfl rfl fun H11 hS11 => ?_
              replace hS11 : Own _ _ _ ([_, _, _]) := hS11
              refine OW_env (e' := [_, _, _, _, _, _, _, _, _, _, _, _, _, _, _, _, _, _, _, _, _, _, _, _, _, _, _, _, _, _, _, _, _, _, _, _, _, _, _, _, _, _, _, _, _, _, _, _, _, _, _, _, _, _, _, _, _, _, _, _, _, _, _, _, _, _, _, _, _, _, _, _, _, _, _, _, _, _, _, _, _, _, _, _, _, _, _, _, _, _, _, _, _, _, _, _, _, _, _, _, _, _, _, _, _, _, _, _, _, _, _, _, _, _, _, _, _, _, _, _, _, _, _, _, _, _, _, _, _, _, _, _]) rfl ?_
              refine OW_as rfl rfl ?_
              first
              | refine OW_storeR hS11 (k := 0) rfl (le_lit (ν := ν1) (a := [9, 0, 1, 1, 1, 1, 0, 1, 0, 1, 0]) (b := [10, 0, 1, 1, 1, 1, 0, 1, 0, 1, 0]) (by decide)) rfl rfl rfl rfl ⟨rfl, rfl, Nat.le_of_ble_eq_true rfl⟩ (set_whole rfl rfl) fun H12 hS12 => ?_
              | refine OW_storeR hS11 (k := 0) rfl (le_lit (ν := ν1) (a := [9, 0, 1, 1, 1, 1, 0, 1, 0, 1, 0]) (b := [10, 0, 1, 1, 1, 1, 0, 1, 0, 1, 0]) (by decide)) rfl rfl rfl rfl ⟨rfl, rfl, Nat.le_of_ble_eq_true rfl⟩ (u2 := .agg [_, _, _]) rfl fun H12 hS12 => ?_
              replace hS12 : Own _ _ _ ([_, _, _]) := hS12
              refine OW_as rfl rfl ?_
              refine OW_nilE (e' := [_, _, _, _, _, _, _, _, _, _, _, _, _, _, _, _, _, _, _, _, _, _, _, _, _, _, _, _, _, _, _, _, _, _, _, _, _, _, _, _, _, _, _, _, _, _, _, _, _, _, _, _, _, _, _, _, _, _, _, _, _, _, _, _, _, _, _, _, _, _, _, _, _, _, _, _, _, _, _, _, _, _, _, _, _, _, _, _, _, _, _, _, _, _, _, _, _, _, _, _, _, _, _, _, _, _, _, _, _, _, _, _, _, _, _, _, _, _, _, _, _, _, _, _, _, _, _, _, _, _, _, _]) rfl ?_
              refine XW_sr ?_
              refine OW_mv rfl rfl ?_
              refine OW_fa rfl rfl rfl ?_
              refine OW_loadR hS12 (k := 1) rfl rfl rfl rfl rfl (by first | exact part_whole rfl rfl rfl | rfl) ?_
              refine OW_env (e' := [_, _, _, _, _, _, _, _, _, _, _, _, _, _, _, _, _, _, _, _, _, _, _, _, _, _, _, _, _, _, _, _, _, _, _, _, _, _, _, _, _, _, _, _, _, _, _, _, _, _, _, _, _, _, _, _, _, _, _, _, _, _, _, _, _, _, _, _, _, _, _, _, _, _, _, _, _, _, _, _, _, _, _, _, _, _, _, _, _, _, _, _, _, _, _, _, _, _, _, _, _, _, _, _, _, _, _, _, _, _, _, _, _, _, _, _, _, _, _, _, _, _, _, _, _, _, _, _, _, _, _, _]) rfl ?_
              refine OW_fn rfl rfl (oLook hS12 (k := 2) rfl (le_lit (ν := ν1) (a := [11, 0, 1, 1, 1, 1, 0, 1, 0, 1, 0]) (b := [3, 0, 1, 1, 1, 1, 1, 0, 1, 0, 1, 0]) (by decide)) under_nil (before_lit (ν := ν1) (a := [3, 0, 1, 1, 1, 1, 1, 0, 1, 0, 1, 0]) (b := [4, 0, 1, 1, 1, 1, 1, 0, 1, 0, 1, 0]) (by decide)) hbl _ hx.pk ?_) 
              refine OW_mv rfl rfl ?_
              refine OW_ex rfl rfl rfl ?_
              refine OW_env (e' := [_, _, _, _, _, _, _, _, _, _, _, _, _, _, _, _, _, _, _, _, _, _, _, _, _, _, _, _, _, _, _, _, _, _, _, _, _, _, _, _, _, _, _, _, _, _, _, _, _, _, _, _, _, _, _, _, _, _, _, _, _, _, _, _, _, _, _, _, _, _, _, _, _, _, _, _, _, _, _, _, _, _, _, _, _, _, _, _, _, _, _, _, _, _, _, _, _, _, _, _, _, _, _, _, _, _, _, _, _, _, _, _, _, _, _, _, _, _, _, _, _, _, _, _, _, _, _, _, _, _, _, _]) rfl ?_
              refine OW_ex rfl rfl rfl ?_
              refine OW_allocR hS12 (le_lit (ν := ν1) (a := [11, 0, 1, 1, 1, 1, 0, 1, 0, 1, 0]) (b := [7, 0, 1, 1, 1, 1, 1, 0, 1, 0, 1, 0]) (by decide)) under_nil rfl rfl rfl rfl fun H13 hS13 => ?_
              replace hS13 : Own _ _ _ ([_, _, _, _]) := hS13
              first
              | refine OW_storeR hS13 (k := 0) rfl le_refl rfl rfl rfl rfl ⟨rfl, rfl, Nat.le_of_ble_eq_true rfl⟩ (set_whole rfl rfl) fun H14 hS14 => ?_
              | refine OW_storeR hS13 (k := 0) rfl le_refl rfl rfl rfl rfl ⟨rfl, rfl, Nat.le_of_ble_eq_true rfl⟩ (u2 := .agg [_, _, _]) rfl fun H14 hS14 => ?_
              replace hS14 : Own _ _ _ ([_, _, _, _]) := hS14
              refine OW_env (e' := [_, _, _, _, _, _, _, _, _, _, _, _, _, _, _, _, _, _, _, _, _, _, _, _, _, _, _, _, _, _, _, _, _, _, _, _, _, _, _, _, _, _, _, _, _, _, _, _, _, _, _, _, _, _, _, _, _, _, _, _, _, _, _, _, _, _, _, _, _, _, _, _, _, _, _, _, _, _, _, _, _, _, _, _, _, _, _, _, _, _, _, _, _, _, _, _, _, _, _, _, _, _, _, _, _, _, _, _, _, _, _, _, _, _, _, _, _, _, _, _, _, _, _, _, _, _, _, _, _, _, _, _]) rfl ?_
              refine OW_as rfl rfl ?_
              refine OW_nilE (e' := [_, _, _, _, _, _, _, _, _, _, _, _, _, _, _, _, _, _, _, _, _, _, _, _, _, _, _, _, _, _, _, _, _, _, _, _, _, _, _, _, _, _, _, _, _, _, _, _, _, _, _, _, _, _, _, _, _, _, _, _, _, _, _, _, _, _, _, _, _, _, _, _, _, _, _, _, _, _, _, _, _, _, _, _, _, _, _, _, _, _, _, _, _, _, _, _, _, _, _, _, _, _, _, _, _, _, _, _, _, _, _, _, _, _, _, _, _, _, _, _, _, _, _, _, _, _, _, _, _, _, _, _]) rfl ?_
              refine XW_sr ?_
              refine OW_loadR hS14 (k := 1) rfl rfl rfl rfl rfl (by first | exact part_whole rfl rfl rfl | rfl) ?_
              refine OW_loadR hS14 (k := 0) rfl rfl rfl rfl rfl (by first | exact part_whole rfl rfl rfl | rfl) ?_
              refine OW_bin rfl rfl rfl rfl (neLtF rfl) ?_
              refine OW_env (e' := [_, _, _, _, _, _, _, _, _, _, _, _, _, _, _, _, _, _, _, _, _, _, _, _, _, _, _, _, _, _, _, _, _, _, _, _, _, _, _, _, _, _, _, _, _, _, _, _, _, _, _, _, _, _, _, _, _, _, _, _, _, _, _, _, _, _, _, _, _, _, _, _, _, _, _, _, _, _, _, _, _, _, _, _, _, _, _, _, _, _, _, _, _, _, _, _, _, _, _, _, _, _, _, _, _, _, _, _, _, _, _, _, _, _, _, _, _, _, _, _, _, _, _, _, _, _, _, _, _, _, _, _]) rfl ?_
              refine OW_mv rfl rfl ?_
              refine OW_mv rfl rfl ?_
              refine OW_mv rfl rfl ?_
              refine OW_env (e' := [_, _, _, _, _, _, _, _, _, _, _, _, _, _, _, _, _, _, _, _, _, _, _, _, _, _, _, _, _, _, _, _, _, _, _, _, _, _, _, _, _, _, _, _, _, _, _, _, _, _, _, _, _, _, _, _, _, _, _, _, _, _, _, _, _, _, _, _, _, _, _, _, _, _, _, _, _, _, _, _, _, _, _, _, _, _, _, _, _, _, _, _, _, _, _, _, _, _, _, _, _, _, _, _, _, _, _, _, _, _, _, _, _, _, _, _, _, _, _, _, _, _, _, _, _, _, _, _, _, _, _, _]) rfl ?_
              refine OW_bin rfl rfl rfl rfl (neB rfl) ?_
              refine OW_pick rfl rfl rfl ?_
              refine OW_nilE (e' := [_, _, _, _, _, _, _, _, _, _, _, _, _, _, _, _, _, _, _, _, _, _, _, _, _, _, _, _, _, _, _, _, _, _, _, _, _, _, _, _, _, _, _, _, _, _, _, _, _, _, _, _, _, _, _, _, _, _, _, _, _, _, _, _, _, _, _, _, _, _, _, _, _, _, _, _, _, _, _, _, _, _, _, _, _, _, _, _, _, _, _, _, _, _, _, _, _, _, _, _, _, _, _, _, _, _, _, _, _, _, _, _, _, _, _, _, _, _, _, _, _, _, _, _, _, _, _, _, _, _, _, _]) rfl ?_
              refine XW_no rfl rfl ?_
              refine XW_skip ?_
              refine block_norm ?_
              have hSd3 : Own _ _ _ ([_]) := (Own.drop (Own.drop (Own.drop hS14 (k := 0) rfl) (k := 0) rfl) (k := 0) rfl)
              -- mid 29.3
              refine ⟨_, _, Own.cast (Own.mono (hSd3) (le_lit (ν := ν1) (a := [9, 0, 1, 1, 1, 1, 1, 0, 1, 0, 1, 0]) (b := [1, 1, 0, 1, 0]) (by decide))) (rfl), ?_, env_g rfl⟩
              · exact ⟨hv, hbl⟩
            · try simp only [decide_eq_true_eq, decide_eq_false_iff_not, Bool.not_eq_true', Bool.not_eq_false', Bool.and_eq_true, Bool.or_eq_true, Bool.not_eq_true, Bool.not_eq_false, Decidable.not_not, bne_iff_ne, beq_iff_eq, List.length_append, List.length_cons, List.length_nil, List.length_drop, List.length_take] at h19
              refine XW_sr ?_
              refine OW_bin rfl rfl rfl rfl rfl ?_
              refine OW_as rfl rfl ?_
              refine OW_nilE (e' := [_, _, _, _, _, _, _, _, _, _, _, _, _, _, _, _, _, _, _, _, _, _, _, _, _, _, _, _, _, _, _, _, _, _, _, _, _, _, _, _, _, _, _, _, _, _, _, _, _, _, _, _, _, _, _, _, _, _, _, _, _, _, _, _, _, _, _, _, _, _, _, _, _, _, _, _, _, _, _, _, _, _, _, _, _, _, _, _, _, _, _, _, _, _, _, _, _, _, _, _, _, _, _, _, _, _, _, _, _, _, _, _, _, _, _, _, _, _, _, _, _, _, _, _, _, _, _, _, _, _, _, _]) rfl ?_
              refine XW_if rfl (fun h24 => ?_) (fun h24 => ?_)
              · try simp only [decide_eq_true_eq, decide_eq_false_iff_not, Bool.not_eq_true', Bool.not_eq_false', Bool.and_eq_true, Bool.or_eq_true, Bool.not_eq_true, Bool.not_eq_false, Decidable.not_not, bne_iff_ne, beq_iff_eq, List.length_append, List.length_cons, List.length_nil, List.length_drop, List.length_take] at h24
                refine XW_sr ?_
                refine OW_mv rfl rfl ?_
                refine OW_fa rfl rfl rfl ?_
                refine OW_loadR hS4 (k := 0) rfl rfl rfl rfl rfl (by first | exact part_whole rfl rfl rfl | rfl) ?_
                refine OW_env (e' := [_, _, _, _, _, _, _, _, _, _, _, _, _, _, _, _, _, _, _, _, _, _, _, _, _, _, _, _, _, _, _, _, _, _, _, _, _, _, _, _, _, _, _, _, _, _, _, _, _, _, _, _, _, _, _, _, _, _, _, _, _, _, _, _, _, _, _, _, _, _, _, _, _, _, _, _, _, _, _, _, _, _, _, _, _, _, _, _, _, _, _, _, _, _, _, _, _, _, _, _, _, _, _, _, _, _, _, _, _, _, _, _, _, _, _, _, _, _, _, _, _, _, _, _, _, _, _, _, _, _, _, _]) rfl ?_
                refine OW_fa rfl rfl rfl ?_
                refine OW_loadR hS4 (k := 0) rfl rfl rfl rfl rfl (by first | exact part_whole rfl rfl rfl | rfl) ?_
                refine OW_fn rfl rfl (rLose hv hbl _ _ ?_) 
                refine OW_env (e' := [_, _, _, _, _, _, _, _, _, _, _, _, _, _, _, _, _, _, _, _, _, _, _, _, _, _, _, _, _, _, _, _, _, _, _, _, _, _, _, _, _, _, _, _, _, _, _, _, _, _, _, _, _, _, _, _, _, _, _, _, _, _, _, _, _, _, _, _, _, _, _, _, _, _, _, _, _, _, _, _, _, _, _, _, _, _, _, _, _, _, _, _, _, _, _, _, _, _, _, _, _, _, _, _, _, _, _, _, _, _, _, _, _, _, _, _, _, _, _, _, _, _, _, _, _, _, _, _, _, _, _, _]) rfl ?_
                refine OW_mv rfl rfl ?_
                refine OW_ex rfl rfl rfl ?_
                refine OW_ex rfl rfl rfl ?_
                refine OW_env (e' := [_, _, _, _, _, _, _, _, _, _, _, _, _, _, _, _, _, _, _, _, _, _, _, _, _, _, _, _, _, _, _, _, _, _, _, _, _, _, _, _, _, _, _, _, _, _, _, _, _, _, _, _, _, _, _, _, _, _, _, _, _, _, _, _, _, _, _, _, _, _, _, _, _, _, _, _, _, _, _, _, _, _, _, _, _, _, _, _, _, _, _, _, _, _, _, _, _, _, _, _, _, _, _, _, _, _, _, _, _, _, _, _, _, _, _, _, _, _, _, _, _, _, _, _, _, _, _, _, _, _, _, _]) rfl ?_
                refine OW_as rfl rfl ?_
                refine OW_as rfl rfl ?_
                refine OW_nilE (e' := [_, _, _, _, _, _, _, _, _, _, _, _, _, _, _, _, _, _, _, _, _, _, _, _, _, _, _, _, _, _, _, _, _, _, _, _, _, _, _, _, _, _, _, _, _, _, _, _, _, _, _, _, _, _, _, _, _, _, _, _, _, _, _, _, _, _, _, _, _, _, _, _, _, _, _, _, _, _, _, _, _, _, _, _, _, _, _, _, _, _, _, _, _, _, _, _, _, _, _, _, _, _, _, _, _, _, _, _, _, _, _, _, _, _, _, _, _, _, _, _, _, _, _, _, _, _, _, _, _, _, _, _]) rfl ?_
                refine XW_seq ?_
                refine XW_sr ?_
                refine OW_mv rfl rfl ?_
                refine OW_fa rfl rfl rfl ?_
                refine OW_loadR hS4 (k := 0) rfl rfl rfl rfl rfl (by first | exact part_whole rfl rfl rfl | rfl) ?_
                refine OW_env (e' := [_, _, _, _, _, _, _, _, _, _, _, _, _, _, _, _, _, _, _, _, _, _, _, _, _, _, _, _, _, _, _, _, _, _, _, _, _, _, _, _, _, _, _, _, _, _, _, _, _, _, _, _, _, _, _, _, _, _, _, _, _, _, _, _, _, _, _, _, _, _, _, _, _, _, _, _, _, _, _, _, _, _, _, _, _, _, _, _, _, _, _, _, _, _, _, _, _, _, _, _, _, _, _, _, _, _, _, _, _, _, _, _, _, _, _, _, _, _, _, _, _, _, _, _, _, _, _, _, _, _, _, _]) rfl ?_
                refine OW_fa rfl rfl rfl ?_
                refine OW_loadR hS4 (k := 0) rfl rfl rfl rfl rfl (by first | exact part_whole rfl rfl rfl | rfl) ?_
                refine OW_fn rfl rfl (oLose hS4 (k := 1) rfl (le_lit (ν := ν1) (a := [6, 0, 0, 1, 0]) (b := [5, 0, 0, 1, 1, 1, 1, 1, 1, 0, 1, 0, 1, 0]) (by decide)) under_nil (before_lit (ν := ν1) (a := [5, 0, 0, 1, 1, 1, 1, 1, 1, 0, 1, 0, 1, 0]) (b := [6, 0, 0, 1, 1, 1, 1, 1, 1, 0, 1, 0, 1, 0]) (by decide)) hbl _ _ fun H15 hS15 => ?_) 
                replace hS15 : Own _ _ _ ([_, _]) := hS15
                refine OW_env (e' := [_, _, _, _, _, _, _, _, _, _, _, _, _, _, _, _, _, _, _, _, _, _, _, _, _, _, _, _, _, _, _, _, _, _, _, _, _, _, _, _, _, _, _, _, _, _, _, _, _, _, _, _, _, _, _, _, _, _, _, _, _, _, _, _, _, _, _, _, _, _, _, _, _, _, _, _, _, _, _, _, _, _, _, _, _, _, _, _, _, _, _, _, _, _, _, _, _, _, _, _, _, _, _, _, _, _, _, _, _, _, _, _, _, _, _, _, _, _, _, _, _, _, _, _, _, _, _, _, _, _, _, _]) rfl ?_
                refine OW_mv rfl rfl ?_
                refine OW_bin rfl rfl rfl rfl (neI rfl) ?_
                refine OW_nilE (e' := [_, _, _, _, _, _, _, _, _, _, _, _, _, _, _, _, _, _, _, _, _, _, _, _, _, _, _, _, _, _, _, _, _, _, _, _, _, _, _, _, _, _, _, _, _, _, _, _, _, _, _, _, _, _, _, _, _, _, _, _, _, _, _, _, _, _, _, _, _, _, _, _, _, _, _, _, _, _, _, _, _, _, _, _, _, _, _, _, _, _, _, _, _, _, _, _, _, _, _, _, _, _, _, _, _, _, _, _, _, _, _, _, _, _, _, _, _, _, _, _, _, _, _, _, _, _, _, _, _, _, _, _]) rfl ?_
                refine XW_no rfl rfl ?_
                refine XW_skip ?_
                refine then_norm ?_
                refine XW_region ?_
                refine OW_mv rfl rfl ?_
                refine OW_as rfl rfl ?_
                refine OW_nilE (e' := [_, _, _, _, _, _, _, _, _, _, _, _, _, _, _, _, _, _, _, _, _, _, _, _, _, _, _, _, _, _, _, _, _, _, _, _, _, _, _, _, _, _, _, _, _, _, _, _, _, _, _, _, _, _, _, _, _, _, _, _, _, _, _, _, _, _, _, _, _, _, _, _, _, _, _, _, _, _, _, _, _, _, _, _, _, _, _, _, _, _, _, _, _, _, _, _, _, _, _, _, _, _, _, _, _, _, _, _, _, _, _, _, _, _, _, _, _, _, _, _, _, _, _, _, _, _, _, _, _, _, _, _]) rfl ?_
                refine block_norm ?_
                have hSd4 : Own _ _ _ ([_]) := (Own.drop hS15 (k := 0) rfl)
                -- mid 29.4
                refine ⟨_, _, Own.cast (Own.mono (hSd4) (le_lit (ν := ν1) (a := [6, 0, 0, 1, 1, 1, 1, 1, 1, 0, 1, 0, 1, 0]) (b := [1, 1, 0, 1, 0]) (by decide))) (rfl), ?_, env_g rfl⟩
                · exact ⟨.inl rfl, Nat.le_trans (List.length_filter_le _ _) hbl⟩
              · try simp only [decide_eq_true_eq, decide_eq_false_iff_not, Bool.not_eq_true', Bool.not_eq_false', Bool.and_eq_true, Bool.or_eq_true, Bool.not_eq_true, Bool.not_eq_false, Decidable.not_not, bne_iff_ne, beq_iff_eq, List.length_append, List.length_cons, List.length_nil, List.length_drop, List.length_take] at h24
                refine XW_skip ?_
                refine block_norm ?_
                have hSd5 : Own _ _ _ ([_]) := (Own.drop hS4 (k := 0) rfl)
                -- mid 29.5
                refine ⟨_, _, Own.cast (Own.mono (hSd5) (le_lit (ν := ν1) (a := [6, 0, 0, 1, 0]) (b := [1, 1, 0, 1, 0]) (by decide))) (rfl), ?_, env_g rfl⟩
                · exact ⟨hv, hbl⟩
      · rintro ee H16 ⟨v, bs, hS16, ⟨hv, hbl⟩, g2, rfl⟩
        refine XW_sr ?_
        refine OW_mv rfl rfl ?_
        refine OW_fn rfl rfl (oMany hS16 (k := 0) rfl (le_app (p := 1 :: 1 :: 0 :: 1 :: 0 :: ν1) (b := [1, 0])) under_nil (before_lit (ν := ν1) (a := [1, 0, 1, 1, 0, 1, 0]) (b := [2, 0, 1, 1, 0, 1, 0]) (by decide)) ?_) 
        refine OW_mv rfl rfl ?_
        refine OW_env (e' := [_, _, _, _, _, _, _, _, _, _, _, _, _, _, _, _, _, _, _, _, _, _, _, _, _, _, _, _, _, _, _, _, _, _, _, _, _, _, _, _, _, _, _, _, _, _, _, _, _, _, _, _, _, _, _, _, _, _, _, _, _, _, _, _, _, _, _, _, _, _, _, _, _, _, _, _, _, _, _, _, _, _, _, _, _, _, _, _, _, _, _, _, _, _, _, _, _, _, _, _, _, _, _, _, _, _, _, _, _, _, _, _, _, _, _, _, _, _, _, _, _, _, _, _, _, _, _, _, _, _, _, _]) rfl ?_
        have hvl := hv.toLs
        first
        | refine OW_lenL rfl rfl (by first | assumption | exact Ls.of | exact Ls.emp | exact Ls.nls) rfl rfl rfl (by first | exact List.length_map _ | rfl) ?_
        | refine OW_bi rfl rfl rfl ?_
        refine OW_bin rfl rfl rfl rfl (neI rfl) ?_
        refine OW_nilE (e' := [_, _, _, _, _, _, _, _, _, _, _, _, _, _, _, _, _, _, _, _, _, _, _, _, _, _, _, _, _, _, _, _, _, _, _, _, _, _, _, _, _, _, _, _, _, _, _, _, _, _, _, _, _, _, _, _, _, _, _, _, _, _, _, _, _, _, _, _, _, _, _, _, _, _, _, _, _, _, _, _, _, _, _, _, _, _, _, _, _, _, _, _, _, _, _, _, _, _, _, _, _, _, _, _, _, _, _, _, _, _, _, _, _, _, _, _, _, _, _, _, _, _, _, _, _, _, _, _, _, _, _, _]) rfl ?_
        refine XW_no rfl rfl ?_
        refine XW_skip ?_
        refine block_norm ?_
        refine then_norm ?_
        refine XW_region ?_
        refine OW_mv rfl rfl ?_
        first
        | refine OW_bin rfl rfl rfl rfl (add_w64 (by first | omega | assumption | (simp only [ByteArray.size_append, ByteArray.size_extract, List.length_map, List.length_append, List.length_cons, List.length_nil, List.length_drop, List.length_take]; omega))) ?_
        | refine OW_bin rfl rfl rfl rfl rfl ?_
        refine OW_as rfl rfl ?_
        refine OW_nilE (e' := [_, _, _, _, _, _, _, _, _, _, _, _, _, _, _, _, _, _, _, _, _, _, _, _, _, _, _, _, _, _, _, _, _, _, _, _, _, _, _, _, _, _, _, _, _, _, _, _, _, _, _, _, _, _, _, _, _, _, _, _, _, _, _, _, _, _, _, _, _, _, _, _, _, _, _, _, _, _, _, _, _, _, _, _, _, _, _, _, _, _, _, _, _, _, _, _, _, _, _, _, _, _, _, _, _, _, _, _, _, _, _, _, _, _, _, _, _, _, _, _, _, _, _, _, _, _, _, _, _, _, _, _]) rfl ?_
        -- round 0.1
        refine ⟨_, ?_, i + 1, v, bs, rfl, under_in hU1, Own.cast (Own.mono (hS16) (le_lit (ν := ν1) (a := [1, 1, 0, 1, 0]) (b := [1]) (by decide))) (rfl), ?_, env_g rfl⟩
        · first | omega | (simp; omega)
        · exact ⟨by omega, by omega, hv, hbl⟩
    · try simp only [decide_eq_true_eq, decide_eq_false_iff_not, Bool.not_eq_true', Bool.not_eq_false', Bool.and_eq_true, Bool.or_eq_true, Bool.not_eq_true, Bool.not_eq_false, Decidable.not_not, bne_iff_ne, beq_iff_eq, List.length_append, List.length_cons, List.length_nil, List.length_drop, List.length_take] at h4
      refine XW_exit ?_
      refine then_exit ?_
      refine block_exit ?_
      refine then_norm ?_
      refine XW_sr ?_
      refine OW_fn rfl rfl (fixedW (by kernel_rfl) ?_) 
      refine OW_as rfl rfl ?_
      refine OW_nilE (e' := [_, _, _, _, _, _, _, _, _, _, _, _, _, _, _, _, _, _, _, _, _, _, _, _, _, _, _, _, _, _, _, _, _, _, _, _, _, _, _, _, _, _, _, _, _, _, _, _, _, _, _, _, _, _, _, _, _, _, _, _, _, _, _, _, _, _, _, _, _, _, _, _, _, _, _, _, _, _, _, _, _, _, _, _, _, _, _, _, _, _, _, _, _, _, _, _, _, _, _, _, _, _, _, _, _, _, _, _, _, _, _, _, _, _, _, _, _, _, _, _, _, _, _, _, _, _, _, _, _, _, _, _]) rfl ?_
      refine XW_ret ?_
      -- outcome 1
      refine ret_ret (res1 rfl (rv_tmp rfl)) (frz1 (Q := Q) (by first | exact freeze_plain rfl | exact Ls.freeze (by assumption) | exact Ls.freeze Ls.of | exact Ls.freeze Ls.emp | exact Ls.freeze Ls.nls) ?_)
      first
      | exact hq
      | (refine qcast hq ?_; rfl)
      | (refine qcast hq ?_; simp; done)
      | (refine qcast hq ?_; simp; omega)
      | (refine qcast hq ?_; simp_all; done)
  · try simp only [decide_eq_true_eq, decide_eq_false_iff_not, Bool.not_eq_true', Bool.not_eq_false', Bool.and_eq_true, Bool.or_eq_true, Bool.not_eq_true, Bool.not_eq_false, Decidable.not_not, bne_iff_ne, beq_iff_eq, List.length_append, List.length_cons, List.length_nil, List.length_drop, List.length_take] at g4_5
    refine OW_env (e' := [_, _, _, _, _, _, _, _, _, _, _, _, _, _, _, _, _, _, _, _, _, _, _, _, _, _, _, _, _, _, _, _, _, _, _, _, _, _, _, _, _, _, _, _, _, _, _, _, _, _, _, _, _, _, _, _, _, _, _, _, _, _, _, _, _, _, _, _, _, _, _, _, _, _, _, _, _, _, _, _, _, _, _, _, _, _, _, _, _, _, _, _, _, _, _, _, _, _, _, _, _, _, _, _, _, _, _, _, _, _, _, _, _, _, _, _, _, _, _, _, _, _, _, _, _, _, _, _, _, _, _, _]) rfl ?_
    refine OW_no rfl ?_
    refine OW_no rfl ?_
    refine OW_pick rfl rfl rfl ?_
    refine OW_nilE (e' := [_, _, _, _, _, _, _, _, _, _, _, _, _, _, _, _, _, _, _, _, _, _, _, _, _, _, _, _, _, _, _, _, _, _, _, _, _, _, _, _, _, _, _, _, _, _, _, _, _, _, _, _, _, _, _, _, _, _, _, _, _, _, _, _, _, _, _, _, _, _, _, _, _, _, _, _, _, _, _, _, _, _, _, _, _, _, _, _, _, _, _, _, _, _, _, _, _, _, _, _, _, _, _, _, _, _, _, _, _, _, _, _, _, _, _, _, _, _, _, _, _, _, _, _, _, _, _, _, _, _, _, _]) rfl ?_
    refine XW_no rfl rfl ?_
    refine XW_exit ?_
    refine then_exit ?_
    refine block_exit ?_
    refine then_norm ?_
    refine XW_sr ?_
    refine OW_fn rfl rfl (fixedW (by kernel_rfl) ?_) 
    refine OW_as rfl rfl ?_
    refine OW_nilE (e' := [_, _, _, _, _, _, _, _, _, _, _, _, _, _, _, _, _, _, _, _, _, _, _, _, _, _, _, _, _, _, _, _, _, _, _, _, _, _, _, _, _, _, _, _, _, _, _, _, _, _, _, _, _, _, _, _, _, _, _, _, _, _, _, _, _, _, _, _, _, _, _, _, _, _, _, _, _, _, _, _, _, _, _, _, _, _, _, _, _, _, _, _, _, _, _, _, _, _, _, _, _, _, _, _, _, _, _, _, _, _, _, _, _, _, _, _, _, _, _, _, _, _, _, _, _, _, _, _, _, _, _, _]) rfl ?_
    refine XW_ret ?_
    -- outcome 2
    refine ret_ret (res1 rfl (rv_tmp rfl)) (frz1 (Q := Q) (by first | exact freeze_plain rfl | exact Ls.freeze (by assumption) | exact Ls.freeze Ls.of | exact Ls.freeze Ls.emp | exact Ls.freeze Ls.nls) ?_)
    first
    | exact hq
    | (refine qcast hq ?_; rfl)
    | (refine qcast hq ?_; simp; done)
    | (refine qcast hq ?_; simp; omega)
    | (refine qcast hq ?_; simp_all; done)
end Go.Proofs.Ytollcfhmmlpleaa.X
