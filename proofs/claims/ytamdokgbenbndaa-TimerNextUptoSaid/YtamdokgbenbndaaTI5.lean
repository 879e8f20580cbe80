/- Layer 20: container/heap: Push, Pop, Init. -/
import Derived.Test.YtamdokgbenbndaaTI4
set_option linter.unusedVariables false
set_option linter.unusedSimpArgs false
set_option maxRecDepth 100000
namespace Go.Proofs.Ytamdokgbenbndaa.X
open Go Go.RowKit
variable {ν β ps pos' : Nm} {H : Heap} {Q : AVal → Heap → Prop} {L : List Asr} {k : Nat}
theorem hpush_c {O : AVal} {n : AVal} {q : Nm} {h : List It} {x : It} (hS : Own β ps H (row q 2 [.agg [O, n]] :: sl O 3 (h.map It.enc) :: L)) (hle : le ps ν) (hβ : under β ν = true) (hp : before ν pos') (hn : h.length ≤ 4294960000)
    (hq : ∀ H1 O', Own β pos' H1 (row q 2 [.agg [O', n]] :: sl O' 3 ((upF (h ++ [x]) h.length).map It.enc) :: L) → Q (.tup []) H1) : CW cfg ν 18 [.ifc 51 (.ptr q 0 0), .ifc 53 x.enc] H Q := by
  have hl : (h ++ [x]).length = h.length + 1 := by simp
  refine CW_keep g18 F18 rfl ?_
  replace hS := Own.mono hS hle
  refine XW_sr ?_
  refine OW_mv rfl rfl ?_
  refine OW_mv rfl rfl ?_
  refine OW_inv M51Push rfl rfl rfl (push_c hS (le_app (p := ν) (b := [2, 0])) (under_app [2, 0] hβ) (before_lit (ν := ν) (a := [2, 0]) (b := [3, 0]) (by decide)) (by omega) fun H1 O1 hS1 => ?_)
  replace hS1 : Own _ _ _ (_ :: _ :: L) := hS1
  refine OW_nilE (e' := [_, _, _, _, _, _, _, _, _, _, _, _]) rfl ?_
  refine XW_region ?_
  refine OW_mv rfl rfl ?_
  refine OW_mv rfl rfl ?_
  refine OW_invL M51Len rfl rfl (Own.aload hS1 (k := 0) rfl rfl rfl) rfl (len_c (hS1.freeze0 (k := 1) rfl (map_plain (fun _ => rfl))) ?_)
  refine OW_env (e' := [_, _, _, _, _, _, _, _, _, _, _, _]) rfl ?_
  rw [hl]
  first
  | refine OW_bin rfl rfl rfl rfl (sub_w64 (by first | omega | assumption | (simp only [ByteArray.size_append, ByteArray.size_extract, List.length_map, List.length_append, List.length_cons, List.length_nil, List.length_drop, List.length_take]; omega))) ?_
  | refine OW_bin rfl rfl rfl rfl rfl ?_
  rw [show (((h.length + 1 : Nat) : Int)) - 1 = (h.length : Int) by omega]
  refine OW_fn rfl rfl (up_c hS1 (le_lit (ν := ν) (a := [3, 0]) (b := [4, 1]) (by decide)) (under_app [4, 1] hβ) (before_lit (ν := ν) (a := [4, 1]) (b := [5, 1]) (by decide)) (by omega) (by omega) fun H2 hS2 => ?_) 
  replace hS2 : Own _ _ _ (_ :: _ :: L) := hS2
  refine OW_nilE (e' := [_, _, _, _, _, _, _, _, _, _, _, _]) rfl ?_
  -- outcome 1
  refine ret_norm ((res0 rfl)) ?_
  exact hq _ _ (Own.mono hS2 (le_bef (bef_app (a := [5, 1]) hp)))
def popF (h : List It) : List It := (downF (swp h 0 (h.length - 1)) 0 (h.length - 1)).dropLast
theorem downF_len (h : List It) (i n : Nat) : (downF h i n).length = h.length := by
  by_cases h0 : 2 * i + 1 < n
  · by_cases hh : lessA h (kid h n i) i = true
    · rw [downF_go h0 hh, downF_len, swp_len]
    · rw [downF_stop (.inr (by simpa using hh))]
  · rw [downF_stop (.inl h0)]
termination_by n - i
decreasing_by
  have := kid_gt h n i
  omega
theorem heappop_c {O : AVal} {n : AVal} {q : Nm} {h : List It} (h0 : 0 < h.length) (hS : Own β ps H (row q 2 [.agg [O, n]] :: sl O 3 (h.map It.enc) :: L)) (hle : le ps ν) (hβ : under β ν = true) (hp : before ν pos') (hn : h.length ≤ 4294960000)
    (hq : ∀ H1 O' v, Own β pos' H1 (row q 2 [.agg [O', n]] :: sl O' 3 ((popF h).map It.enc) :: L) → Q v H1) : CW cfg ν 19 [.ifc 51 (.ptr q 0 0)] H Q := by
  have hl := swp_len h 0 (h.length - 1)
  have hl2 := downF_len (swp h 0 (h.length - 1)) 0 (h.length - 1)
  refine CW_keep g19 F19 rfl ?_
  replace hS := Own.mono hS hle
  refine XW_sr ?_
  refine OW_as rfl rfl ?_
  refine OW_nilE (e' := [_, _, _, _, _, _, _, _, _, _, _, _, _, _, _]) rfl ?_
  refine XW_sr ?_
  refine OW_mv rfl rfl ?_
  refine OW_invL M51Len rfl rfl (Own.aload hS (k := 0) rfl rfl rfl) rfl (len_c (hS.freeze0 (k := 1) rfl (map_plain (fun _ => rfl))) ?_)
  first
  | refine OW_bin rfl rfl rfl rfl (sub_w64 (by first | omega | assumption | (simp only [ByteArray.size_append, ByteArray.size_extract, List.length_map, List.length_append, List.length_cons, List.length_nil, List.length_drop, List.length_take]; omega))) ?_
  | refine OW_bin rfl rfl rfl rfl rfl ?_
  refine OW_env (e' := [_, _, _, _, _, _, _, _, _, _, _, _, _, _, _]) rfl ?_
  rw [show (h.length : Int) - 1 = ((h.length - 1 : Nat) : Int) by omega]
  refine OW_as rfl rfl ?_
  refine OW_nilE (e' := [_, _, _, _, _, _, _, _, _, _, _, _, _, _, _]) rfl ?_
  refine XW_sr ?_
  refine OW_mv rfl rfl ?_
  refine OW_mv rfl rfl ?_
  refine OW_invL M51Swap rfl rfl (Own.aload hS (k := 0) rfl rfl rfl) rfl (swap_c (i := 0) hS (k := 1) rfl (le_app (p := ν) (b := [2, 0, 1, 1])) (under_app [2, 0, 1, 1] hβ) (before_lit (ν := ν) (a := [2, 0, 1, 1]) (b := [3, 0, 1, 1]) (by decide)) (by omega) (by omega) fun H1 hS1 => ?_)
  replace hS1 : Own _ _ _ (_ :: _ :: L) := hS1
  refine OW_nilE (e' := [_, _, _, _, _, _, _, _, _, _, _, _, _, _, _]) rfl ?_
  refine XW_sr ?_
  refine OW_mv rfl rfl ?_
  refine OW_mv rfl rfl ?_
  refine OW_fn rfl rfl (down_c (i0 := 0) hS1 (le_lit (ν := ν) (a := [3, 0, 1, 1]) (b := [2, 0, 1, 1, 1]) (by decide)) (under_app [2, 0, 1, 1, 1] hβ) (before_lit (ν := ν) (a := [2, 0, 1, 1, 1]) (b := [3, 0, 1, 1, 1]) (by decide)) (by omega) (by omega) (by omega) fun H2 b1 hS2 => ?_)
  replace hS2 : Own _ _ _ (_ :: _ :: L) := hS2
  refine OW_nilE (e' := [_, _, _, _, _, _, _, _, _, _, _, _, _, _, _]) rfl ?_
  refine XW_sr ?_
  refine OW_mv rfl rfl ?_
  refine OW_inv M51Pop rfl rfl rfl (hpop_c (by omega) hS2 (le_lit (ν := ν) (a := [3, 0, 1, 1, 1]) (b := [1, 0, 1, 1, 1, 1]) (by decide)) (under_app [1, 0, 1, 1, 1, 1] hβ) (before_lit (ν := ν) (a := [1, 0, 1, 1, 1, 1]) (b := [2, 0, 1, 1, 1, 1]) (by decide)) (by omega) fun H3 O1 hS3 => ?_)
  replace hS3 : Own _ _ _ (_ :: _ :: L) := hS3
  refine OW_as rfl rfl ?_
  refine OW_nilE (e' := [_, _, _, _, _, _, _, _, _, _, _, _, _, _, _]) rfl ?_
  refine XW_ret ?_
  -- outcome 1
  refine ret_ret (res1 rfl (rv_tmp rfl)) ?_
  exact hq _ _ _ (Own.mono hS3 (le_bef (bef_app (a := [2, 0, 1, 1, 1, 1]) hp)))
/-- heap.Init: down from the last parent to the head. -/
def initF (h : List It) : Nat → List It
  | 0 => h
  | i + 1 => initF (downF h i h.length) i
theorem init_c {O : AVal} {n : AVal} {q : Nm} {h0 : List It} (hS : Own β ps H (row q 2 [.agg [O, n]] :: sl O 3 (h0.map It.enc) :: L)) (hle : le ps ν) (hβ : under β ν = true) (hp : before ν pos') (hn : h0.length ≤ 4294960000)
    (hq : ∀ H1, Own β pos' H1 (row q 2 [.agg [O, n]] :: sl O 3 ((initF h0 (h0.length / 2)).map It.enc) :: L) → Q (.tup []) H1) : CW cfg ν 22 [.ifc 51 (.ptr q 0 0)] H Q := by
  refine CW_keep g22 F22 rfl ?_
  replace hS := Own.mono hS hle
  refine XW_sr ?_
  refine OW_mv rfl rfl ?_
  refine OW_invL M51Len rfl rfl (Own.aload hS (k := 0) rfl rfl rfl) rfl (len_c (hS.freeze0 (k := 1) rfl (map_plain (fun _ => rfl))) ?_)
  refine OW_as rfl rfl ?_
  refine OW_nilE (e' := [_, _, _, _, _, _, _, _, _, _, _, _, _, _, _, _, _]) rfl ?_
  refine XW_sr ?_
  refine OW_mv rfl rfl ?_
  first
  | refine OW_bin rfl rfl rfl rfl (quo_in64 (by omega)) ?_
  | refine OW_bin rfl rfl rfl rfl rfl ?_
  rw [show (h0.length : Int) / 2 = ((h0.length / 2 : Nat) : Int) by omega]
  first
  | refine OW_bin rfl rfl rfl rfl (sub_w64 (by first | omega | assumption | (simp only [ByteArray.size_append, ByteArray.size_extract, List.length_map, List.length_append, List.length_cons, List.length_nil, List.length_drop, List.length_take]; omega))) ?_
  | refine OW_bin rfl rfl rfl rfl rfl ?_
  refine OW_env (e' := [_, _, _, _, _, _, _, _, _, _, _, _, _, _, _, _, _]) rfl ?_
  refine OW_as rfl rfl ?_
  refine OW_nilE (e' := [_, _, _, _, _, _, _, _, _, _, _, _, _, _, _, _, _]) rfl ?_
  refine XW_block ?_
  refine XW_whileN (I := fun ν' mm ee H' => ∃ (h : List It) (j : Nat), mm = j + 1 ∧ under (1 :: 1 :: ν) ν' = true ∧ Own β ν' H' (row q 2 [.agg [O, n]] :: sl O 3 (h.map It.enc) :: L) ∧ (h.length = h0.length ∧ j ≤ h.length ∧ initF h0 (h0.length / 2) = initF h j) ∧ ∃ g : Nat → AVal, ee = [.ifc 51 (.ptr q 0 0), g 1, .int .i64 h0.length, .int .i64 ((j : Int) - 1), g 4, g 5, g 6, g 7, g 8, g 9, g 10, g 11, g 12, g 13, g 14, g 15, g 16]) ?_ _ _ _ _ ⟨h0, h0.length / 2, rfl, under_me, Own.cast (Own.mono (hS) (le_app (p := ν) (b := [1, 1]))) (rfl), (⟨rfl, by omega, rfl⟩), env_g rfl⟩
  rintro ν1 mm ee H1 ⟨h, j, rfl, hU1, hS1, ⟨hl, hj, hu⟩, g1, rfl⟩
  refine XW_seq ?_
  refine XW_sr ?_
  refine OW_mv rfl rfl ?_
  refine OW_bin rfl rfl rfl rfl rfl ?_
  refine OW_nilE (e' := [_, _, _, _, _, _, _, _, _, _, _, _, _, _, _, _, _]) rfl ?_
  refine XW_if rfl (fun h2 => ?_) (fun h2 => ?_)
  · try simp only [decide_eq_true_eq, decide_eq_false_iff_not, Bool.not_eq_true', Bool.not_eq_false', Bool.and_eq_true, Bool.or_eq_true, Bool.not_eq_true, Bool.not_eq_false, Decidable.not_not, bne_iff_ne, beq_iff_eq, List.length_append, List.length_cons, List.length_nil, List.length_drop, List.length_take] at h2
    refine XW_skip ?_
    refine then_norm ?_
    refine XW_seq ?_
    refine XW_block ?_
    refine XW_region ?_
    refine OW_mv rfl rfl ?_
    refine OW_mv rfl rfl ?_
    refine OW_mv rfl rfl ?_
    refine OW_env (e' := [_, _, _, _, _, _, _, _, _, _, _, _, _, _, _, _, _]) rfl ?_
    rw [show (j : Int) - 1 = ((j - 1 : Nat) : Int) by omega]
    refine OW_fn rfl rfl (down_c hS1 (le_app (p := ν1) (b := [3, 0, 1, 0])) (under_app [3, 0, 1, 0] (under_trans (under_app [1, 1] hβ) hU1)) (before_lit (ν := ν1) (a := [3, 0, 1, 0]) (b := [4, 0, 1, 0]) (by decide)) (by omega) (by omega) (by omega) fun H2 b1 hS2 => ?_) 
    replace hS2 : Own _ _ _ (_ :: _ :: L) := hS2
    refine OW_nilE (e' := [_, _, _, _, _, _, _, _, _, _, _, _, _, _, _, _, _]) rfl ?_
    refine block_norm ?_
    refine then_norm ?_
    refine XW_region ?_
    refine OW_mv rfl rfl ?_
    first
    | refine OW_bin rfl rfl rfl rfl (sub_w64 (by first | omega | assumption | (simp only [ByteArray.size_append, ByteArray.size_extract, List.length_map, List.length_append, List.length_cons, List.length_nil, List.length_drop, List.length_take]; omega))) ?_
    | refine OW_bin rfl rfl rfl rfl rfl ?_
    refine OW_as rfl rfl ?_
    refine OW_nilE (e' := [_, _, _, _, _, _, _, _, _, _, _, _, _, _, _, _, _]) rfl ?_
    -- round 0.1
    refine ⟨_, ?_, downF h (j - 1) h0.length, j - 1, rfl, under_in hU1, Own.cast (Own.mono (hS2) (le_lit (ν := ν1) (a := [4, 0, 1, 0]) (b := [1]) (by decide))) (rfl), ?_, env_g rfl⟩
    · first | omega | (simp; omega)
    · exact ⟨by rw [downF_len]; exact hl, by rw [downF_len]; omega, hu.trans (by obtain ⟨z, rfl⟩ : ∃ z, j = z + 1 := ⟨j - 1, by omega⟩; rw [initF, hl]; rfl)⟩
  · try simp only [decide_eq_true_eq, decide_eq_false_iff_not, Bool.not_eq_true', Bool.not_eq_false', Bool.and_eq_true, Bool.or_eq_true, Bool.not_eq_true, Bool.not_eq_false, Decidable.not_not, bne_iff_ne, beq_iff_eq, List.length_append, List.length_cons, List.length_nil, List.length_drop, List.length_take] at h2
    refine XW_exit ?_
    refine then_exit ?_
    refine block_exit ?_
    -- outcome 1
    refine ret_norm ((res0 rfl)) ?_
    rw [hu, show j = 0 by omega, initF] at hq; exact hq _ (Own.mono hS1 (le_bef (bef_under (a := []) hU1 (bef_app (a := [1, 1]) hp))))
end Go.Proofs.Ytamdokgbenbndaa.X
