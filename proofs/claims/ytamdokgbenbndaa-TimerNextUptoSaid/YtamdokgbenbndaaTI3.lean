/- Layer 20: container/heap: up, down. -/
import Derived.Test.YtamdokgbenbndaaTI2
set_option linter.unusedVariables false
set_option linter.unusedSimpArgs false
set_option maxRecDepth 100000
namespace Go.Proofs.Ytamdokgbenbndaa.X
open Go Go.RowKit
variable {ν β ps pos' : Nm} {H : Heap} {Q : AVal → Heap → Prop} {L : List Asr} {k : Nat}
def lessA (h : List It) (a b : Nat) : Bool := match h[a]?, h[b]? with
  | some x, some y => lessI x y
  | _, _ => false
theorem lessA_eq {h : List It} {a b : Nat} (ha : a < h.length) (hb : b < h.length) : lessA h a b = lessI h[a] h[b] := by
  unfold lessA; rw [List.getElem?_eq_getElem ha, List.getElem?_eq_getElem hb]
def upF (h : List It) (j : Nat) : List It := if hj : j = 0 then h else if lessA h j ((j - 1) / 2) then upF (swp h ((j - 1) / 2) j) ((j - 1) / 2) else h
termination_by j
decreasing_by omega
theorem upF_stop {h : List It} {j : Nat} (hh : j = 0 ∨ lessA h j ((j - 1) / 2) = false) : upF h j = h := by
  rw [upF]
  split
  · rfl
  · rename_i h0
    rw [hh.resolve_left h0]; rfl
theorem upF_go {h : List It} {j : Nat} (h0 : j ≠ 0) (hh : lessA h j ((j - 1) / 2) = true) : upF h j = upF (swp h ((j - 1) / 2) j) ((j - 1) / 2) := by
  rw [upF, dif_neg h0, if_pos hh]
theorem half_c {T : TT} {t : TypeId} {j : Nat} (hj : j ≤ 4294967000) : aBin T .quo t (.int .i64 ((j : Int) - 1)) (.int .i64 2) = some (.int .i64 (((j - 1) / 2 : Nat) : Int)) := by
  show (if (2 : Int) = 0 then none else some (AVal.int .i64 (IntKind.i64.wrap (((j : Int) - 1).tdiv 2)))) = _
  rw [if_neg (by decide)]
  by_cases h0 : j = 0
  · subst h0; rfl
  · rw [Int.tdiv_eq_ediv_of_nonneg (by omega), IntWalk.i64_in _ (by omega)]
    congr 2
    omega
theorem up_c {O : AVal} {n : AVal} {q : Nm} {h0 : List It} {j0 : Nat} (hS : Own β ps H (row q 2 [.agg [O, n]] :: sl O 3 (h0.map It.enc) :: L)) (hle : le ps ν) (hβ : under β ν = true) (hp : before ν pos') (hn : h0.length ≤ 4294967000) (hj0 : j0 < h0.length)
    (hq : ∀ H1, Own β pos' H1 (row q 2 [.agg [O, n]] :: sl O 3 ((upF h0 j0).map It.enc) :: L) → Q (.tup []) H1) : CW cfg ν 23 [.ifc 51 (.ptr q 0 0), .int .i64 j0] H Q := by
  refine CW_keep g23 F23 rfl ?_
  replace hS := Own.mono hS hle
  refine XW_block ?_
  refine XW_whileN (I := fun ν' mm ee H' => ∃ (h : List It) (j : Nat), mm = j + 1 ∧ under (ν) ν' = true ∧ Own β ν' H' (row q 2 [.agg [O, n]] :: sl O 3 (h.map It.enc) :: L) ∧ (h.length = h0.length ∧ j < h.length ∧ upF h0 j0 = upF h j) ∧ ∃ g : Nat → AVal, ee = [.ifc 51 (.ptr q 0 0), .int .i64 j, g 2, g 3, g 4, g 5, g 6, g 7, g 8, g 9, g 10, g 11, g 12, g 13, g 14, g 15, g 16, g 17, g 18, g 19, g 20, g 21, g 22]) ?_ _ _ _ _ ⟨h0, j0, rfl, under_me, Own.cast (Own.mono (hS) le_refl) (rfl), (⟨rfl, hj0, rfl⟩), env_g rfl⟩
  rintro ν1 mm ee H1 ⟨h, j, rfl, hU1, hS1, ⟨hl, hj, hu⟩, g1, rfl⟩
  refine XW_block ?_
  refine XW_sr ?_
  refine OW_mv rfl rfl ?_
  first
  | refine OW_bin rfl rfl rfl rfl (sub_w64 (by first | omega | assumption | (simp only [ByteArray.size_append, ByteArray.size_extract, List.length_map, List.length_append, List.length_cons, List.length_nil, List.length_drop, List.length_take]; omega))) ?_
  | refine OW_bin rfl rfl rfl rfl rfl ?_
  first
  | refine OW_bin rfl rfl rfl rfl (half_c (by omega)) ?_
  | refine OW_bin rfl rfl rfl rfl (quo_in64 (by omega)) ?_
  | refine OW_bin rfl rfl rfl rfl rfl ?_
  refine OW_env (e' := [_, _, _, _, _, _, _, _, _, _, _, _, _, _, _, _, _, _, _, _, _, _, _]) rfl ?_
  refine OW_as rfl rfl ?_
  refine OW_nilE (e' := [_, _, _, _, _, _, _, _, _, _, _, _, _, _, _, _, _, _, _, _, _, _, _]) rfl ?_
  refine XW_seq ?_
  refine XW_sr ?_
  refine OW_mv rfl rfl ?_
  refine OW_mv rfl rfl ?_
  refine OW_bin rfl rfl rfl rfl rfl ?_
  refine OW_env (e' := [_, _, _, _, _, _, _, _, _, _, _, _, _, _, _, _, _, _, _, _, _, _, _]) rfl ?_
  refine OW_mv rfl rfl ?_
  refine OW_split (tt := 11) rfl (fun g1_4 => ?_) (fun g1_4 => ?_)
  · try simp only [decide_eq_true_eq, decide_eq_false_iff_not, Bool.not_eq_true', Bool.not_eq_false', Bool.and_eq_true, Bool.or_eq_true, Bool.not_eq_true, Bool.not_eq_false, Decidable.not_not, bne_iff_ne, beq_iff_eq, List.length_append, List.length_cons, List.length_nil, List.length_drop, List.length_take] at g1_4
    refine OW_no rfl ?_
    refine OW_env (e' := [_, _, _, _, _, _, _, _, _, _, _, _, _, _, _, _, _, _, _, _, _, _, _]) rfl ?_
    refine OW_no rfl ?_
    refine OW_no rfl ?_
    refine OW_no rfl ?_
    refine OW_env (e' := [_, _, _, _, _, _, _, _, _, _, _, _, _, _, _, _, _, _, _, _, _, _, _]) rfl ?_
    refine OW_no rfl ?_
    refine OW_pick rfl rfl rfl ?_
    refine OW_nilE (e' := [_, _, _, _, _, _, _, _, _, _, _, _, _, _, _, _, _, _, _, _, _, _, _]) rfl ?_
    refine XW_yes rfl rfl ?_
    refine XW_exit ?_
    refine then_exit ?_
    refine block_exit_ne rfl ?_
    refine block_exit ?_
    -- outcome 1
    refine ret_norm ((res0 rfl)) ?_
    first | (rw [hu, upF_stop (.inl (by omega))] at hq; exact hq _ (Own.mono hS1 (le_bef (bef_under (a := []) hU1 hp)))) | (rw [hu, upF_stop (.inr (by rw [lessA_eq (by omega) (by omega)]; assumption))] at hq; exact hq _ (Own.mono hS1 (le_bef (bef_under (a := []) hU1 hp))))
  · try simp only [decide_eq_true_eq, decide_eq_false_iff_not, Bool.not_eq_true', Bool.not_eq_false', Bool.and_eq_true, Bool.or_eq_true, Bool.not_eq_true, Bool.not_eq_false, Decidable.not_not, bne_iff_ne, beq_iff_eq, List.length_append, List.length_cons, List.length_nil, List.length_drop, List.length_take] at g1_4
    refine OW_mv rfl rfl ?_
    refine OW_env (e' := [_, _, _, _, _, _, _, _, _, _, _, _, _, _, _, _, _, _, _, _, _, _, _]) rfl ?_
    refine OW_mv rfl rfl ?_
    refine OW_mv rfl rfl ?_
    refine OW_invL M51Less rfl rfl (Own.aload hS1 (k := 0) rfl rfl rfl) rfl (less_c (hS1.freeze0 (k := 1) rfl (map_plain (fun _ => rfl))) (by omega) (by omega) ?_)
    refine OW_env (e' := [_, _, _, _, _, _, _, _, _, _, _, _, _, _, _, _, _, _, _, _, _, _, _]) rfl ?_
    refine OW_un rfl rfl rfl ?_
    refine OW_pick rfl rfl rfl ?_
    refine OW_nilE (e' := [_, _, _, _, _, _, _, _, _, _, _, _, _, _, _, _, _, _, _, _, _, _, _]) rfl ?_
    refine XW_if rfl (fun h1 => ?_) (fun h1 => ?_)
    · try simp only [decide_eq_true_eq, decide_eq_false_iff_not, Bool.not_eq_true', Bool.not_eq_false', Bool.and_eq_true, Bool.or_eq_true, Bool.not_eq_true, Bool.not_eq_false, Decidable.not_not, bne_iff_ne, beq_iff_eq, List.length_append, List.length_cons, List.length_nil, List.length_drop, List.length_take] at h1
      refine XW_exit ?_
      refine then_exit ?_
      refine block_exit_ne rfl ?_
      refine block_exit ?_
      -- outcome 2
      refine ret_norm ((res0 rfl)) ?_
      first | (rw [hu, upF_stop (.inl (by omega))] at hq; exact hq _ (Own.mono hS1 (le_bef (bef_under (a := []) hU1 hp)))) | (rw [hu, upF_stop (.inr (by rw [lessA_eq (by omega) (by omega)]; assumption))] at hq; exact hq _ (Own.mono hS1 (le_bef (bef_under (a := []) hU1 hp))))
    · try simp only [decide_eq_true_eq, decide_eq_false_iff_not, Bool.not_eq_true', Bool.not_eq_false', Bool.and_eq_true, Bool.or_eq_true, Bool.not_eq_true, Bool.not_eq_false, Decidable.not_not, bne_iff_ne, beq_iff_eq, List.length_append, List.length_cons, List.length_nil, List.length_drop, List.length_take] at h1
      refine XW_skip ?_
      refine then_norm ?_
      refine XW_sr ?_
      refine OW_mv rfl rfl ?_
      refine OW_mv rfl rfl ?_
      refine OW_mv rfl rfl ?_
      refine OW_env (e' := [_, _, _, _, _, _, _, _, _, _, _, _, _, _, _, _, _, _, _, _, _, _, _]) rfl ?_
      refine OW_invL M51Swap rfl rfl (Own.aload hS1 (k := 0) rfl rfl rfl) rfl (swap_c hS1 (k := 1) rfl (le_app (p := ν1) (b := [3, 0, 1, 1, 0])) (under_app [3, 0, 1, 1, 0] (under_trans hβ hU1)) (before_lit (ν := ν1) (a := [3, 0, 1, 1, 0]) (b := [4, 0, 1, 1, 0]) (by decide)) (by omega) (by omega) fun H2 hS2 => ?_)
      replace hS2 : Own _ _ _ (_ :: _ :: L) := hS2
      refine OW_nilE (e' := [_, _, _, _, _, _, _, _, _, _, _, _, _, _, _, _, _, _, _, _, _, _, _]) rfl ?_
      refine XW_region ?_
      refine OW_mv rfl rfl ?_
      refine OW_as rfl rfl ?_
      refine OW_nilE (e' := [_, _, _, _, _, _, _, _, _, _, _, _, _, _, _, _, _, _, _, _, _, _, _]) rfl ?_
      refine block_norm ?_
      -- round 0.1
      refine ⟨_, ?_, swp h ((j - 1) / 2) j, (j - 1) / 2, rfl, under_in hU1, Own.cast (Own.mono (hS2) (le_lit (ν := ν1) (a := [4, 0, 1, 1, 0]) (b := [1]) (by decide))) (rfl), ?_, env_g rfl⟩
      · first | omega | (simp; omega)
      · exact ⟨by rw [swp_len]; exact hl, by rw [swp_len]; omega, hu.trans (upF_go (by omega) (by rw [lessA_eq (by omega) (by omega)]; assumption))⟩
end Go.Proofs.Ytamdokgbenbndaa.X
