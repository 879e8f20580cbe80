/- Layer 20: TimerPlays. -/
import Derived.Test.YtamdokgbenbndaaTI17
set_option linter.unusedVariables false
set_option linter.unusedSimpArgs false
set_option maxRecDepth 100000
set_option maxHeartbeats 2000000
namespace Go.Proofs.Ytamdokgbenbndaa.X
open Go Go.RowKit
variable {ν β ps pos' : Nm} {H : Heap} {Q : AVal → Heap → Prop} {L : List Asr} {k : Nat} {q : Nm} {D : List Du} {n : Int}
structure At where
  d : Int
  at' : Int
  wh : ByteArray
def At.enc (x : At) : AVal := .agg [.int .i64 x.d, .int .u64 x.at', .str x.wh]
/-- What comes next, and where it is. -/
theorem plays_next (D : List Du) : ∃ (d0 : Du) (b0 : Bool) (kk : Int), nxtD D = (d0, b0) ∧ obI (bst (atD D)) = kk ∧ kk < D.length ∧ (b0 = decide (kk ≥ 0)) ∧ (kk < 0 → d0 = zD) ∧ (∀ h : kk.toNat < D.length, 0 ≤ kk → D[kk.toNat] = d0) ∧
    ∀ now, ∃ (d : Du) (b : Bool) (D' : List Du), popD D now = ((d, b), D') ∧ (0 ≤ kk → b = decide (d0.at' ≤ now)) ∧ (kk < 0 → b = false) ∧ (b = true → d = d0 ∧ D' = D.eraseIdx kk.toNat ∧ 0 ≤ kk) ∧ (b = false → d = zD ∧ D' = D) := by
  rcases bst_cases D with ⟨h1, h2⟩ | ⟨k, h2, hk, h3⟩
  · subst h1
    refine ⟨zD, false, -1, rfl, by rw [h2]; rfl, by simp, by simp, fun _ => rfl, fun h => by simp at h, fun now => ⟨zD, false, [], rfl, fun h => by omega, fun _ => rfl, (fun h => by cases h), fun _ => ⟨rfl, rfl⟩⟩⟩
  · refine ⟨D[k], true, k, by simp only [nxtD, h2, h3], by rw [h2]; rfl, by omega, by simp, fun h => by omega, fun h _ => rfl, fun now => ?_⟩
    by_cases hn : now < D[k].at'
    · exact ⟨zD, false, D, by simp only [popD, h2, h3]; rw [if_pos hn], fun _ => (decide_eq_false (by omega)).symm, fun h => by omega, (fun h => by cases h), fun _ => ⟨rfl, rfl⟩⟩
    · exact ⟨D[k], true, D.eraseIdx k, by simp only [popD, h2, h3]; rw [if_neg hn], fun _ => (decide_eq_true (by omega)).symm, fun h => by omega, fun _ => ⟨rfl, rfl, by omega⟩, (fun h => by cases h)⟩
theorem r_nextO {O : AVal} {kk : Int} (hS : Own β ps H L) (hL : L[k]? = some (sl O 2 (D.map Du.enc))) (hn : D.length ≤ 4294960000) (hk : obI (bst (atD D)) = kk) (hq : Q (.int .i64 kk) H) : CW cfg ν 14 [O] H Q :=
  r_next (hS.freeze0 hL (map_plain (fun _ => rfl))) hn (by rw [hk]; exact hq)
theorem r_withoutI {O : AVal} {l : List Du} {kk : Int} (hk : 0 ≤ kk) (hS : Own β ps H L) (hL : L[k]? = some (sl O 2 (l.map Du.enc))) (hle : le ps ν) (hβ : under β ν = true) (hp : before ν pos') (hn : l.length ≤ 4294960000)
    (hq : ∀ v H1, Own β pos' H1 (sl v 2 ((l.eraseIdx kk.toNat).map Du.enc) :: L) → Q v H1) : CW cfg ν 15 [O, .int .i64 kk] H Q := by
  obtain ⟨j, rfl⟩ := Int.eq_ofNat_of_zero_le hk
  exact r_without hS hL hle hβ hp hn hq
theorem len_erase {α : Type} (l : List α) (k : Nat) : (l.eraseIdx k).length ≤ l.length := List.length_eraseIdx_le _ _
theorem len_keep (w : ByteArray) (l : List Du) : (keepD w l).length ≤ l.length := List.length_filter_le _ _
theorem lawPlays {l : List At} (hl : l.length ≤ 4294960000) (hq : Q (.bool true) H) : CW cfg [] 5 [.lst (l.map At.enc)] H Q := by
  refine CW_pure g5 F5 rfl ?_
  have hS0 : Own [] [] (fun _ => none) [] := Own.nil
  refine XW_sr ?_
  refine OW_as rfl rfl ?_
  refine OW_nilE (e' := [_, _, _, _, _, _, _, _, _, _, _, _, _, _, _, _, _, _, _, _, _, _, _, _, _, _, _, _, _, _, _, _, _, _, _, _, _, _, _, _, _, _, _, _, _, _, _, _, _, _, _, _, _, _, _, _, _, _, _, _, _, _, _, _, _, _, _, _, _, _, _, _, _, _, _, _, _, _, _, _, _, _, _, _, _, _, _, _, _, _, _, _, _, _, _, _, _, _, _, _, _, _, _, _, _, _, _, _, _, _, _, _, _, _, _, _, _, _, _, _, _, _, _, _, _, _, _, _, _, _, _, _, _, _, _, _, _, _, _, _, _, _, _, _, _, _]) rfl ?_
  refine XW_sr ?_
  refine OW_fn rfl rfl (d_new hS0 (le_app (p := []) (b := [0, 0, 1])) under_nil (before_lit (ν := []) (a := [0, 0, 1]) (b := [1, 0, 1]) (by decide)) fun H1 q1 hS1 => ?_) 
  replace hS1 : Own _ _ _ ([_]) := hS1
  refine OW_as rfl rfl ?_
  refine OW_nilE (e' := [_, _, _, _, _, _, _, _, _, _, _, _, _, _, _, _, _, _, _, _, _, _, _, _, _, _, _, _, _, _, _, _, _, _, _, _, _, _, _, _, _, _, _, _, _, _, _, _, _, _, _, _, _, _, _, _, _, _, _, _, _, _, _, _, _, _, _, _, _, _, _, _, _, _, _, _, _, _, _, _, _, _, _, _, _, _, _, _, _, _, _, _, _, _, _, _, _, _, _, _, _, _, _, _, _, _, _, _, _, _, _, _, _, _, _, _, _, _, _, _, _, _, _, _, _, _, _, _, _, _, _, _, _, _, _, _, _, _, _, _, _, _, _, _, _, _]) rfl ?_
  refine XW_sr ?_
  refine OW_bs rfl rfl rfl ?_
  refine OW_as rfl rfl ?_
  refine OW_nilE (e' := [_, _, _, _, _, _, _, _, _, _, _, _, _, _, _, _, _, _, _, _, _, _, _, _, _, _, _, _, _, _, _, _, _, _, _, _, _, _, _, _, _, _, _, _, _, _, _, _, _, _, _, _, _, _, _, _, _, _, _, _, _, _, _, _, _, _, _, _, _, _, _, _, _, _, _, _, _, _, _, _, _, _, _, _, _, _, _, _, _, _, _, _, _, _, _, _, _, _, _, _, _, _, _, _, _, _, _, _, _, _, _, _, _, _, _, _, _, _, _, _, _, _, _, _, _, _, _, _, _, _, _, _, _, _, _, _, _, _, _, _, _, _, _, _, _, _]) rfl ?_
  refine XW_seq ?_
  refine XW_sr ?_
  refine OW_as rfl rfl ?_
  refine OW_nilE (e' := [_, _, _, _, _, _, _, _, _, _, _, _, _, _, _, _, _, _, _, _, _, _, _, _, _, _, _, _, _, _, _, _, _, _, _, _, _, _, _, _, _, _, _, _, _, _, _, _, _, _, _, _, _, _, _, _, _, _, _, _, _, _, _, _, _, _, _, _, _, _, _, _, _, _, _, _, _, _, _, _, _, _, _, _, _, _, _, _, _, _, _, _, _, _, _, _, _, _, _, _, _, _, _, _, _, _, _, _, _, _, _, _, _, _, _, _, _, _, _, _, _, _, _, _, _, _, _, _, _, _, _, _, _, _, _, _, _, _, _, _, _, _, _, _, _, _]) rfl ?_
  refine XW_block ?_
  refine XW_whileN (I := fun ν' mm ee H' => ∃ (i : Nat) (n : Nat) (D : List Du) (O : AVal), mm = l.length - i ∧ under (1 :: 0 :: 1 :: 1 :: 1 :: []) ν' = true ∧ Own [] ν' H' ([sl O 2 (D.map Du.enc), dq q1 D n]) ∧ (i ≤ l.length ∧ D.length ≤ i ∧ n ≤ i ∧ i ≤ 100) ∧ ∃ g : Nat → AVal, ee = [.lst (l.map At.enc), g 1, g 2, .ptr q1 0 0, O, .int .i64 i, g 6, g 7, g 8, g 9, g 10, g 11, g 12, g 13, g 14, g 15, g 16, g 17, g 18, g 19, g 20, g 21, g 22, g 23, g 24, g 25, g 26, g 27, g 28, g 29, g 30, g 31, g 32, g 33, g 34, g 35, g 36, g 37, g 38, g 39, g 40, g 41, g 42, g 43, g 44, g 45, g 46, g 47, g 48, g 49, g 50, g 51, g 52, g 53, g 54, g 55, g 56, g 57, g 58, g 59, g 60, g 61, g 62, g 63, g 64, g 65, g 66, g 67, g 68, g 69, g 70, g 71, g 72, g 73, g 74, g 75, g 76, g 77, g 78, g 79, g 80, g 81, g 82, g 83, g 84, g 85, g 86, g 87, g 88, g 89, g 90, g 91, g 92, g 93, g 94, g 95, g 96, g 97, g 98, g 99, g 100, g 101, g 102, g 103, g 104, g 105, g 106, g 107, g 108, g 109, g 110, g 111, g 112, g 113, g 114, g 115, g 116, g 117, g 118, g 119, g 120, g 121, g 122, g 123, g 124, g 125, g 126, g 127, g 128, g 129, g 130, g 131, g 132, g 133, g 134, g 135, g 136, g 137, g 138, g 139, g 140, g 141, g 142, g 143, g 144, g 145]) ?_ _ _ _ _ ⟨0, 0, [], .emp, rfl, under_me, Own.cast (Own.mono (hS1.addE (w := 2)) (le_lit (ν := []) (a := [1, 0, 1]) (b := [1, 0, 1, 1, 1]) (by decide))) (rfl), (⟨by omega, by simp, by omega, by omega⟩), env_g rfl⟩
  rintro ν1 mm ee H2 ⟨i, n, D, O, rfl, hU1, hS2, ⟨hi, hD, hn, hi2⟩, g1, rfl⟩
  refine XW_seq ?_
  refine XW_sr ?_
  refine OW_mv rfl rfl ?_
  refine OW_mv rfl rfl ?_
  first
  | refine OW_lenL rfl rfl (by first | assumption | exact Ls.of | exact Ls.emp | exact Ls.nls) rfl rfl rfl (by first | exact List.length_map _ | rfl) ?_
  | refine OW_bi rfl rfl rfl ?_
  | refine OW_lenO hS2 (k := 0) rfl rfl rfl rfl rfl rfl (by first | exact List.length_map _ | exact len_app1 | exact len_drop | (simp only [List.length_append, List.length_map, List.length_singleton, List.length_cons, List.length_nil]; rfl) | rfl) ?_
  refine OW_env (e' := [_, _, _, _, _, _, _, _, _, _, _, _, _, _, _, _, _, _, _, _, _, _, _, _, _, _, _, _, _, _, _, _, _, _, _, _, _, _, _, _, _, _, _, _, _, _, _, _, _, _, _, _, _, _, _, _, _, _, _, _, _, _, _, _, _, _, _, _, _, _, _, _, _, _, _, _, _, _, _, _, _, _, _, _, _, _, _, _, _, _, _, _, _, _, _, _, _, _, _, _, _, _, _, _, _, _, _, _, _, _, _, _, _, _, _, _, _, _, _, _, _, _, _, _, _, _, _, _, _, _, _, _, _, _, _, _, _, _, _, _, _, _, _, _, _, _]) rfl ?_
  refine OW_bin rfl rfl rfl rfl rfl ?_
  refine OW_mv rfl rfl ?_
  refine OW_split (tt := 21) rfl (fun g4_5 => ?_) (fun g4_5 => ?_)
  · first
    | (exfalso; (try simp only [decide_eq_true_eq, decide_eq_false_iff_not, Bool.not_eq_true', Bool.not_eq_false', Bool.and_eq_true, Bool.or_eq_true, Bool.not_eq_true, Bool.not_eq_false, Decidable.not_not, bne_iff_ne, beq_iff_eq, List.length_append, List.length_cons, List.length_nil, List.length_drop, List.length_take] at g4_5) <;> (first | omega | contradiction | (cases b <;> contradiction)); done)
    | skip
      try simp only [decide_eq_true_eq, decide_eq_false_iff_not, Bool.not_eq_true', Bool.not_eq_false', Bool.and_eq_true, Bool.or_eq_true, Bool.not_eq_true, Bool.not_eq_false, Decidable.not_not, bne_iff_ne, beq_iff_eq, List.length_append, List.length_cons, List.length_nil, List.length_drop, List.length_take] at g4_5
      refine OW_env (e' := [_, _, _, _, _, _, _, _, _, _, _, _, _, _, _, _, _, _, _, _, _, _, _, _, _, _, _, _, _, _, _, _, _, _, _, _, _, _, _, _, _, _, _, _, _, _, _, _, _, _, _, _, _, _, _, _, _, _, _, _, _, _, _, _, _, _, _, _, _, _, _, _, _, _, _, _, _, _, _, _, _, _, _, _, _, _, _, _, _, _, _, _, _, _, _, _, _, _, _, _, _, _, _, _, _, _, _, _, _, _, _, _, _, _, _, _, _, _, _, _, _, _, _, _, _, _, _, _, _, _, _, _, _, _, _, _, _, _, _, _, _, _, _, _, _, _]) rfl ?_
      refine OW_mv rfl rfl ?_
      refine OW_bin rfl rfl rfl rfl rfl ?_
      refine OW_pick rfl rfl rfl ?_
      refine OW_nilE (e' := [_, _, _, _, _, _, _, _, _, _, _, _, _, _, _, _, _, _, _, _, _, _, _, _, _, _, _, _, _, _, _, _, _, _, _, _, _, _, _, _, _, _, _, _, _, _, _, _, _, _, _, _, _, _, _, _, _, _, _, _, _, _, _, _, _, _, _, _, _, _, _, _, _, _, _, _, _, _, _, _, _, _, _, _, _, _, _, _, _, _, _, _, _, _, _, _, _, _, _, _, _, _, _, _, _, _, _, _, _, _, _, _, _, _, _, _, _, _, _, _, _, _, _, _, _, _, _, _, _, _, _, _, _, _, _, _, _, _, _, _, _, _, _, _, _, _]) rfl ?_
      refine XW_if rfl (fun h4 => ?_) (fun h4 => ?_)
      · first
        | (exfalso; (try simp only [decide_eq_true_eq, decide_eq_false_iff_not, Bool.not_eq_true', Bool.not_eq_false', Bool.and_eq_true, Bool.or_eq_true, Bool.not_eq_true, Bool.not_eq_false, Decidable.not_not, bne_iff_ne, beq_iff_eq, List.length_append, List.length_cons, List.length_nil, List.length_drop, List.length_take] at h4) <;> (first | omega | contradiction | (cases b <;> contradiction)); done)
        | skip
          try simp only [decide_eq_true_eq, decide_eq_false_iff_not, Bool.not_eq_true', Bool.not_eq_false', Bool.and_eq_true, Bool.or_eq_true, Bool.not_eq_true, Bool.not_eq_false, Decidable.not_not, bne_iff_ne, beq_iff_eq, List.length_append, List.length_cons, List.length_nil, List.length_drop, List.length_take] at h4
          refine XW_skip ?_
          refine then_norm ?_
          refine XW_seq ?_
          refine XW_block ?_
          refine XW_sr ?_
          obtain ⟨d0, b0, kk, hk1, hk2, hk3, hk4, hk5, hk6, hk7⟩ := plays_next D
          refine OW_mv rfl rfl ?_
          refine OW_mv rfl rfl ?_
          first
          | refine OW_iaL rfl rfl rfl Ls.of rfl rfl rfl (by first | rfl | exact (Int.toNat_of_nonneg (by omega)).symm) (by first | assumption | exact at_map (by first | assumption | omega) | exact at_lst (by omega) | rfl) rfl ?_
          | refine OW_iaL rfl rfl rfl (by assumption) rfl rfl rfl (by first | rfl | exact (Int.toNat_of_nonneg (by omega)).symm) (by first | assumption | exact at_map (by first | assumption | omega) | exact at_lst (by omega) | rfl) rfl ?_
          refine OW_env (e' := [_, _, _, _, _, _, _, _, _, _, _, _, _, _, _, _, _, _, _, _, _, _, _, _, _, _, _, _, _, _, _, _, _, _, _, _, _, _, _, _, _, _, _, _, _, _, _, _, _, _, _, _, _, _, _, _, _, _, _, _, _, _, _, _, _, _, _, _, _, _, _, _, _, _, _, _, _, _, _, _, _, _, _, _, _, _, _, _, _, _, _, _, _, _, _, _, _, _, _, _, _, _, _, _, _, _, _, _, _, _, _, _, _, _, _, _, _, _, _, _, _, _, _, _, _, _, _, _, _, _, _, _, _, _, _, _, _, _, _, _, _, _, _, _, _, _]) rfl ?_
          refine OW_loadE rfl rfl rfl (by first | exact part_whole rfl rfl rfl | rfl) ?_
          refine OW_allocR hS2 (le_app (p := ν1) (b := [4, 0, 0, 1, 0])) under_nil rfl rfl rfl rfl fun H3 hS3 => ?_
          replace hS3 : Own _ _ _ ([_, _, _]) := hS3
          first
          | refine OW_storeR hS3 (k := 0) rfl le_refl rfl rfl rfl rfl ⟨rfl, rfl, Nat.le_of_ble_eq_true rfl⟩ (set_whole rfl rfl) fun H4 hS4 => ?_
          | refine OW_storeR hS3 (k := 0) rfl le_refl rfl rfl rfl rfl ⟨rfl, rfl, Nat.le_of_ble_eq_true rfl⟩ (u2 := .agg [_, _, _]) rfl fun H4 hS4 => ?_
          replace hS4 : Own _ _ _ ([_, _, _]) := hS4
          refine OW_nilE (e' := [_, _, _, _, _, _, _, _, _, _, _, _, _, _, _, _, _, _, _, _, _, _, _, _, _, _, _, _, _, _, _, _, _, _, _, _, _, _, _, _, _, _, _, _, _, _, _, _, _, _, _, _, _, _, _, _, _, _, _, _, _, _, _, _, _, _, _, _, _, _, _, _, _, _, _, _, _, _, _, _, _, _, _, _, _, _, _, _, _, _, _, _, _, _, _, _, _, _, _, _, _, _, _, _, _, _, _, _, _, _, _, _, _, _, _, _, _, _, _, _, _, _, _, _, _, _, _, _, _, _, _, _, _, _, _, _, _, _, _, _, _, _, _, _, _, _]) rfl ?_
          refine XW_sr ?_
          refine OW_mv rfl rfl ?_
          refine OW_fn rfl rfl (r_nextO hS4 (k := 1) rfl (by omega) hk2 ?_) 
          refine OW_as rfl rfl ?_
          refine OW_nilE (e' := [_, _, _, _, _, _, _, _, _, _, _, _, _, _, _, _, _, _, _, _, _, _, _, _, _, _, _, _, _, _, _, _, _, _, _, _, _, _, _, _, _, _, _, _, _, _, _, _, _, _, _, _, _, _, _, _, _, _, _, _, _, _, _, _, _, _, _, _, _, _, _, _, _, _, _, _, _, _, _, _, _, _, _, _, _, _, _, _, _, _, _, _, _, _, _, _, _, _, _, _, _, _, _, _, _, _, _, _, _, _, _, _, _, _, _, _, _, _, _, _, _, _, _, _, _, _, _, _, _, _, _, _, _, _, _, _, _, _, _, _, _, _, _, _, _, _]) rfl ?_
          refine XW_sr ?_
          refine OW_bd rfl rfl (v := .agg [_, _]) rfl ?_
          refine OW_allocR hS4 (le_lit (ν := ν1) (a := [6, 0, 0, 1, 0]) (b := [1, 0, 1, 1, 0, 1, 0]) (by decide)) under_nil rfl rfl rfl rfl fun H5 hS5 => ?_
          replace hS5 : Own _ _ _ ([_, _, _, _]) := hS5
          first
          | refine OW_storeR hS5 (k := 0) rfl le_refl rfl rfl rfl rfl ⟨rfl, rfl, Nat.le_of_ble_eq_true rfl⟩ (set_whole rfl rfl) fun H6 hS6 => ?_
          | refine OW_storeR hS5 (k := 0) rfl le_refl rfl rfl rfl rfl ⟨rfl, rfl, Nat.le_of_ble_eq_true rfl⟩ (u2 := .agg [_, _]) rfl fun H6 hS6 => ?_
          replace hS6 : Own _ _ _ ([_, _, _, _]) := hS6
          refine OW_nilE (e' := [_, _, _, _, _, _, _, _, _, _, _, _, _, _, _, _, _, _, _, _, _, _, _, _, _, _, _, _, _, _, _, _, _, _, _, _, _, _, _, _, _, _, _, _, _, _, _, _, _, _, _, _, _, _, _, _, _, _, _, _, _, _, _, _, _, _, _, _, _, _, _, _, _, _, _, _, _, _, _, _, _, _, _, _, _, _, _, _, _, _, _, _, _, _, _, _, _, _, _, _, _, _, _, _, _, _, _, _, _, _, _, _, _, _, _, _, _, _, _, _, _, _, _, _, _, _, _, _, _, _, _, _, _, _, _, _, _, _, _, _, _, _, _, _, _, _]) rfl ?_
          refine XW_mid (M := fun ee H' => ∃ (O : AVal), Own [] (1 :: 1 :: 1 :: 1 :: 0 :: 1 :: 0 :: ν1) H' ([row (1 :: 0 :: 1 :: 1 :: 0 :: 1 :: 0 :: ν1) 2 [d0.enc], row (4 :: 0 :: 0 :: 1 :: 0 :: ν1) 3 [l[i].enc], sl O 2 (D.map Du.enc), dq q1 D n]) ∧ (True) ∧ ∃ g : Nat → AVal, ee = [.lst (l.map At.enc), g 1, g 2, .ptr q1 0 0, O, .int .i64 i, .ptr (4 :: 0 :: 0 :: 1 :: 0 :: ν1) 0 0, .int .i64 kk, .ptr (1 :: 0 :: 1 :: 1 :: 0 :: 1 :: 0 :: ν1) 0 0, g 9, g 10, g 11, g 12, g 13, g 14, g 15, g 16, g 17, g 18, g 19, g 20, g 21, g 22, g 23, g 24, g 25, g 26, g 27, g 28, g 29, g 30, g 31, g 32, g 33, g 34, g 35, g 36, g 37, g 38, g 39, g 40, g 41, g 42, g 43, g 44, g 45, g 46, g 47, g 48, g 49, g 50, g 51, g 52, g 53, g 54, g 55, g 56, g 57, g 58, g 59, g 60, g 61, g 62, g 63, g 64, g 65, g 66, g 67, g 68, g 69, g 70, g 71, g 72, g 73, g 74, g 75, g 76, g 77, g 78, g 79, g 80, g 81, g 82, g 83, g 84, g 85, g 86, g 87, g 88, g 89, g 90, g 91, g 92, g 93, g 94, g 95, g 96, g 97, g 98, g 99, g 100, g 101, g 102, g 103, g 104, g 105, g 106, g 107, g 108, g 109, g 110, g 111, g 112, g 113, g 114, g 115, g 116, g 117, g 118, g 119, g 120, g 121, g 122, g 123, g 124, g 125, g 126, g 127, g 128, g 129, g 130, g 131, g 132, g 133, g 134, g 135, g 136, g 137, g 138, g 139, g 140, g 141, g 142, g 143, g 144, g 145]) ?_ ?_
          · skip
            refine XW_sr ?_
            refine OW_mv rfl rfl ?_
            refine OW_bin rfl rfl rfl rfl rfl ?_
            refine OW_nilE (e' := [_, _, _, _, _, _, _, _, _, _, _, _, _, _, _, _, _, _, _, _, _, _, _, _, _, _, _, _, _, _, _, _, _, _, _, _, _, _, _, _, _, _, _, _, _, _, _, _, _, _, _, _, _, _, _, _, _, _, _, _, _, _, _, _, _, _, _, _, _, _, _, _, _, _, _, _, _, _, _, _, _, _, _, _, _, _, _, _, _, _, _, _, _, _, _, _, _, _, _, _, _, _, _, _, _, _, _, _, _, _, _, _, _, _, _, _, _, _, _, _, _, _, _, _, _, _, _, _, _, _, _, _, _, _, _, _, _, _, _, _, _, _, _, _, _, _]) rfl ?_
            refine XW_if rfl (fun h9 => ?_) (fun h9 => ?_)
            · first
              | (exfalso; (try simp only [decide_eq_true_eq, decide_eq_false_iff_not, Bool.not_eq_true', Bool.not_eq_false', Bool.and_eq_true, Bool.or_eq_true, Bool.not_eq_true, Bool.not_eq_false, Decidable.not_not, bne_iff_ne, beq_iff_eq, List.length_append, List.length_cons, List.length_nil, List.length_drop, List.length_take] at h9) <;> (first | omega | contradiction | (cases b <;> contradiction)); done)
              | skip
                try simp only [decide_eq_true_eq, decide_eq_false_iff_not, Bool.not_eq_true', Bool.not_eq_false', Bool.and_eq_true, Bool.or_eq_true, Bool.not_eq_true, Bool.not_eq_false, Decidable.not_not, bne_iff_ne, beq_iff_eq, List.length_append, List.length_cons, List.length_nil, List.length_drop, List.length_take] at h9
                refine XW_region ?_
                refine OW_mv rfl rfl ?_
                refine OW_mv rfl rfl ?_
                refine OW_iaO hS6 (k := 2) rfl rfl rfl rfl rfl rfl rfl rfl (by first | rfl | exact (Int.toNat_of_nonneg (by omega)).symm) (by first | assumption | exact at_map (by first | assumption | omega) | exact at_lst (by omega) | rfl) fun q2 ys1 hO1 hq1 ht1 hy1 hu1 => ?_
                subst hO1
                refine OW_env (e' := [_, _, _, _, _, _, _, _, _, _, _, _, _, _, _, _, _, _, _, _, _, _, _, _, _, _, _, _, _, _, _, _, _, _, _, _, _, _, _, _, _, _, _, _, _, _, _, _, _, _, _, _, _, _, _, _, _, _, _, _, _, _, _, _, _, _, _, _, _, _, _, _, _, _, _, _, _, _, _, _, _, _, _, _, _, _, _, _, _, _, _, _, _, _, _, _, _, _, _, _, _, _, _, _, _, _, _, _, _, _, _, _, _, _, _, _, _, _, _, _, _, _, _, _, _, _, _, _, _, _, _, _, _, _, _, _, _, _, _, _, _, _, _, _, _, _]) rfl ?_
                refine OW_loadP rfl rfl hq1 hy1 rfl (by first | exact part_whole rfl rfl rfl | rfl) ?_
                first
                | refine OW_storeR hS6 (k := 0) rfl (le_lit (ν := ν1) (a := [3, 0, 1, 1, 0, 1, 0]) (b := [4, 1, 0, 1, 1, 1, 0, 1, 0]) (by decide)) rfl rfl rfl rfl ⟨rfl, rfl, Nat.le_of_ble_eq_true rfl⟩ (set_whole rfl rfl) fun H7 hS7 => ?_
                | refine OW_storeR hS6 (k := 0) rfl (le_lit (ν := ν1) (a := [3, 0, 1, 1, 0, 1, 0]) (b := [4, 1, 0, 1, 1, 1, 0, 1, 0]) (by decide)) rfl rfl rfl rfl ⟨rfl, rfl, Nat.le_of_ble_eq_true rfl⟩ (u2 := .agg [_, _]) rfl fun H7 hS7 => ?_
                replace hS7 : Own _ _ _ ([_, _, _, _]) := hS7
                refine OW_nilE (e' := [_, _, _, _, _, _, _, _, _, _, _, _, _, _, _, _, _, _, _, _, _, _, _, _, _, _, _, _, _, _, _, _, _, _, _, _, _, _, _, _, _, _, _, _, _, _, _, _, _, _, _, _, _, _, _, _, _, _, _, _, _, _, _, _, _, _, _, _, _, _, _, _, _, _, _, _, _, _, _, _, _, _, _, _, _, _, _, _, _, _, _, _, _, _, _, _, _, _, _, _, _, _, _, _, _, _, _, _, _, _, _, _, _, _, _, _, _, _, _, _, _, _, _, _, _, _, _, _, _, _, _, _, _, _, _, _, _, _, _, _, _, _, _, _, _, _]) rfl ?_
                -- mid 11.1
                refine ⟨.slc q2 _ 0 _, Own.cast (Own.mono (hS7) (le_lit (ν := ν1) (a := [5, 1, 0, 1, 1, 1, 0, 1, 0]) (b := [1, 1, 1, 1, 0, 1, 0]) (by decide))) (by first | (rw [hk6 (by omega) (by omega)]; rfl) | (rw [hk5 (by omega)]; rfl)), ?_, env_g rfl⟩
                · first | trivial | omega | simp_all
            · first
              | (exfalso; (try simp only [decide_eq_true_eq, decide_eq_false_iff_not, Bool.not_eq_true', Bool.not_eq_false', Bool.and_eq_true, Bool.or_eq_true, Bool.not_eq_true, Bool.not_eq_false, Decidable.not_not, bne_iff_ne, beq_iff_eq, List.length_append, List.length_cons, List.length_nil, List.length_drop, List.length_take] at h9) <;> (first | omega | contradiction | (cases b <;> contradiction)); done)
              | skip
                try simp only [decide_eq_true_eq, decide_eq_false_iff_not, Bool.not_eq_true', Bool.not_eq_false', Bool.and_eq_true, Bool.or_eq_true, Bool.not_eq_true, Bool.not_eq_false, Decidable.not_not, bne_iff_ne, beq_iff_eq, List.length_append, List.length_cons, List.length_nil, List.length_drop, List.length_take] at h9
                refine XW_skip ?_
                -- mid 11.2
                refine ⟨O, Own.cast (Own.mono (hS6) (le_lit (ν := ν1) (a := [3, 0, 1, 1, 0, 1, 0]) (b := [1, 1, 1, 1, 0, 1, 0]) (by decide))) (by first | (rw [hk6 (by omega) (by omega)]; rfl) | (rw [hk5 (by omega)]; rfl)), ?_, env_g rfl⟩
                · first | trivial | omega | simp_all
          · rintro ee H8 ⟨O, hS8, _, g2, rfl⟩
            refine XW_mid (M := fun ee H' => ∃ (n : Nat) (D : List Du) (O : AVal), Own [] (1 :: 1 :: 1 :: 1 :: 1 :: 0 :: 1 :: 0 :: ν1) H' ([sl O 2 (D.map Du.enc), dq q1 D n]) ∧ (D.length ≤ i + 1 ∧ n ≤ i + 1) ∧ ∃ g : Nat → AVal, ee = [.lst (l.map At.enc), g 1, g 2, .ptr q1 0 0, O, .int .i64 i, g 6, g 7, g 8, g 9, g 10, g 11, g 12, g 13, g 14, g 15, g 16, g 17, g 18, g 19, g 20, g 21, g 22, g 23, g 24, g 25, g 26, g 27, g 28, g 29, g 30, g 31, g 32, g 33, g 34, g 35, g 36, g 37, g 38, g 39, g 40, g 41, g 42, g 43, g 44, g 45, g 46, g 47, g 48, g 49, g 50, g 51, g 52, g 53, g 54, g 55, g 56, g 57, g 58, g 59, g 60, g 61, g 62, g 63, g 64, g 65, g 66, g 67, g 68, g 69, g 70, g 71, g 72, g 73, g 74, g 75, g 76, g 77, g 78, g 79, g 80, g 81, g 82, g 83, g 84, g 85, g 86, g 87, g 88, g 89, g 90, g 91, g 92, g 93, g 94, g 95, g 96, g 97, g 98, g 99, g 100, g 101, g 102, g 103, g 104, g 105, g 106, g 107, g 108, g 109, g 110, g 111, g 112, g 113, g 114, g 115, g 116, g 117, g 118, g 119, g 120, g 121, g 122, g 123, g 124, g 125, g 126, g 127, g 128, g 129, g 130, g 131, g 132, g 133, g 134, g 135, g 136, g 137, g 138, g 139, g 140, g 141, g 142, g 143, g 144, g 145]) ?_ ?_
            · skip
              refine XW_sr ?_
              refine OW_fa rfl rfl rfl ?_
              refine OW_loadR hS8 (k := 1) rfl rfl rfl rfl rfl (by first | exact part_whole rfl rfl rfl | rfl) ?_
              refine OW_nilE (e' := [_, _, _, _, _, _, _, _, _, _, _, _, _, _, _, _, _, _, _, _, _, _, _, _, _, _, _, _, _, _, _, _, _, _, _, _, _, _, _, _, _, _, _, _, _, _, _, _, _, _, _, _, _, _, _, _, _, _, _, _, _, _, _, _, _, _, _, _, _, _, _, _, _, _, _, _, _, _, _, _, _, _, _, _, _, _, _, _, _, _, _, _, _, _, _, _, _, _, _, _, _, _, _, _, _, _, _, _, _, _, _, _, _, _, _, _, _, _, _, _, _, _, _, _, _, _, _, _, _, _, _, _, _, _, _, _, _, _, _, _, _, _, _, _, _, _]) rfl ?_
              refine XW_block ?_
              refine XW_sr ?_
              refine OW_bin rfl rfl rfl rfl rfl ?_
              refine OW_as rfl rfl ?_
              refine OW_nilE (e' := [_, _, _, _, _, _, _, _, _, _, _, _, _, _, _, _, _, _, _, _, _, _, _, _, _, _, _, _, _, _, _, _, _, _, _, _, _, _, _, _, _, _, _, _, _, _, _, _, _, _, _, _, _, _, _, _, _, _, _, _, _, _, _, _, _, _, _, _, _, _, _, _, _, _, _, _, _, _, _, _, _, _, _, _, _, _, _, _, _, _, _, _, _, _, _, _, _, _, _, _, _, _, _, _, _, _, _, _, _, _, _, _, _, _, _, _, _, _, _, _, _, _, _, _, _, _, _, _, _, _, _, _, _, _, _, _, _, _, _, _, _, _, _, _, _, _]) rfl ?_
              refine XW_if rfl (fun h12 => ?_) (fun h12 => ?_)
              · first
                | (exfalso; (try simp only [decide_eq_true_eq, decide_eq_false_iff_not, Bool.not_eq_true', Bool.not_eq_false', Bool.and_eq_true, Bool.or_eq_true, Bool.not_eq_true, Bool.not_eq_false, Decidable.not_not, bne_iff_ne, beq_iff_eq, List.length_append, List.length_cons, List.length_nil, List.length_drop, List.length_take] at h12) <;> (first | omega | contradiction | (cases b <;> contradiction)); done)
                | skip
                  try simp only [decide_eq_true_eq, decide_eq_false_iff_not, Bool.not_eq_true', Bool.not_eq_false', Bool.and_eq_true, Bool.or_eq_true, Bool.not_eq_true, Bool.not_eq_false, Decidable.not_not, bne_iff_ne, beq_iff_eq, List.length_append, List.length_cons, List.length_nil, List.length_drop, List.length_take] at h12
                  refine XW_seq ?_
                  refine XW_sr ?_
                  refine OW_mv rfl rfl ?_
                  refine OW_fa rfl rfl rfl ?_
                  refine OW_loadR hS8 (k := 1) rfl rfl rfl rfl rfl (by first | exact part_whole rfl rfl rfl | rfl) ?_
                  refine OW_env (e' := [_, _, _, _, _, _, _, _, _, _, _, _, _, _, _, _, _, _, _, _, _, _, _, _, _, _, _, _, _, _, _, _, _, _, _, _, _, _, _, _, _, _, _, _, _, _, _, _, _, _, _, _, _, _, _, _, _, _, _, _, _, _, _, _, _, _, _, _, _, _, _, _, _, _, _, _, _, _, _, _, _, _, _, _, _, _, _, _, _, _, _, _, _, _, _, _, _, _, _, _, _, _, _, _, _, _, _, _, _, _, _, _, _, _, _, _, _, _, _, _, _, _, _, _, _, _, _, _, _, _, _, _, _, _, _, _, _, _, _, _, _, _, _, _, _, _]) rfl ?_
                  refine OW_fa rfl rfl rfl ?_
                  refine OW_loadR hS8 (k := 1) rfl rfl rfl rfl rfl (by first | exact part_whole rfl rfl rfl | rfl) ?_
                  refine OW_fn rfl rfl (d_add hS8 (k := 3) rfl (le_app (p := 1 :: 1 :: 1 :: 1 :: 0 :: 1 :: 0 :: ν1) (b := [5, 0, 0, 1, 1, 0])) under_nil (before_lit (ν := ν1) (a := [5, 0, 0, 1, 1, 0, 1, 1, 1, 1, 0, 1, 0]) (b := [6, 0, 0, 1, 1, 0, 1, 1, 1, 1, 0, 1, 0]) (by decide)) ⟨by omega, by omega⟩ (by omega) fun H9 hS9 => ?_) 
                  replace hS9 : Own _ _ _ ([_, _, _, _]) := hS9
                  refine OW_env (e' := [_, _, _, _, _, _, _, _, _, _, _, _, _, _, _, _, _, _, _, _, _, _, _, _, _, _, _, _, _, _, _, _, _, _, _, _, _, _, _, _, _, _, _, _, _, _, _, _, _, _, _, _, _, _, _, _, _, _, _, _, _, _, _, _, _, _, _, _, _, _, _, _, _, _, _, _, _, _, _, _, _, _, _, _, _, _, _, _, _, _, _, _, _, _, _, _, _, _, _, _, _, _, _, _, _, _, _, _, _, _, _, _, _, _, _, _, _, _, _, _, _, _, _, _, _, _, _, _, _, _, _, _, _, _, _, _, _, _, _, _, _, _, _, _, _, _]) rfl ?_
                  refine OW_mv rfl rfl ?_
                  refine OW_lenO hS9 (k := 2) rfl rfl rfl rfl rfl rfl (by first | exact List.length_map _ | exact len_app1 | exact len_drop | (simp only [List.length_append, List.length_map, List.length_singleton, List.length_cons, List.length_nil]; rfl) | rfl) ?_
                  refine OW_bin rfl rfl rfl rfl rfl ?_
                  refine OW_env (e' := [_, _, _, _, _, _, _, _, _, _, _, _, _, _, _, _, _, _, _, _, _, _, _, _, _, _, _, _, _, _, _, _, _, _, _, _, _, _, _, _, _, _, _, _, _, _, _, _, _, _, _, _, _, _, _, _, _, _, _, _, _, _, _, _, _, _, _, _, _, _, _, _, _, _, _, _, _, _, _, _, _, _, _, _, _, _, _, _, _, _, _, _, _, _, _, _, _, _, _, _, _, _, _, _, _, _, _, _, _, _, _, _, _, _, _, _, _, _, _, _, _, _, _, _, _, _, _, _, _, _, _, _, _, _, _, _, _, _, _, _, _, _, _, _, _, _]) rfl ?_
                  refine OW_bin rfl rfl rfl rfl (neBF (decide_eq_true (by omega)).symm) ?_
                  refine OW_nilE (e' := [_, _, _, _, _, _, _, _, _, _, _, _, _, _, _, _, _, _, _, _, _, _, _, _, _, _, _, _, _, _, _, _, _, _, _, _, _, _, _, _, _, _, _, _, _, _, _, _, _, _, _, _, _, _, _, _, _, _, _, _, _, _, _, _, _, _, _, _, _, _, _, _, _, _, _, _, _, _, _, _, _, _, _, _, _, _, _, _, _, _, _, _, _, _, _, _, _, _, _, _, _, _, _, _, _, _, _, _, _, _, _, _, _, _, _, _, _, _, _, _, _, _, _, _, _, _, _, _, _, _, _, _, _, _, _, _, _, _, _, _, _, _, _, _, _, _]) rfl ?_
                  refine XW_no rfl rfl ?_
                  refine XW_skip ?_
                  refine then_norm ?_
                  refine XW_sr ?_
                  refine OW_mv rfl rfl ?_
                  refine OW_lenO hS9 (k := 2) rfl rfl rfl rfl rfl rfl (by first | exact List.length_map _ | exact len_app1 | exact len_drop | (simp only [List.length_append, List.length_map, List.length_singleton, List.length_cons, List.length_nil]; rfl) | rfl) ?_
                  refine OW_bin rfl rfl rfl rfl rfl ?_
                  refine OW_nilE (e' := [_, _, _, _, _, _, _, _, _, _, _, _, _, _, _, _, _, _, _, _, _, _, _, _, _, _, _, _, _, _, _, _, _, _, _, _, _, _, _, _, _, _, _, _, _, _, _, _, _, _, _, _, _, _, _, _, _, _, _, _, _, _, _, _, _, _, _, _, _, _, _, _, _, _, _, _, _, _, _, _, _, _, _, _, _, _, _, _, _, _, _, _, _, _, _, _, _, _, _, _, _, _, _, _, _, _, _, _, _, _, _, _, _, _, _, _, _, _, _, _, _, _, _, _, _, _, _, _, _, _, _, _, _, _, _, _, _, _, _, _, _, _, _, _, _, _]) rfl ?_
                  refine XW_if rfl (fun h15 => ?_) (fun h15 => ?_)
                  · first
                    | (exfalso; (try simp only [decide_eq_true_eq, decide_eq_false_iff_not, Bool.not_eq_true', Bool.not_eq_false', Bool.and_eq_true, Bool.or_eq_true, Bool.not_eq_true, Bool.not_eq_false, Decidable.not_not, bne_iff_ne, beq_iff_eq, List.length_append, List.length_cons, List.length_nil, List.length_drop, List.length_take] at h15) <;> (first | omega | contradiction | (cases b <;> contradiction)); done)
                    | skip
                      try simp only [decide_eq_true_eq, decide_eq_false_iff_not, Bool.not_eq_true', Bool.not_eq_false', Bool.and_eq_true, Bool.or_eq_true, Bool.not_eq_true, Bool.not_eq_false, Decidable.not_not, bne_iff_ne, beq_iff_eq, List.length_append, List.length_cons, List.length_nil, List.length_drop, List.length_take] at h15
                      refine XW_region ?_
                      refine OW_mv rfl rfl ?_
                      refine OW_fa rfl rfl rfl ?_
                      refine OW_loadR hS9 (k := 1) rfl rfl rfl rfl rfl (by first | exact part_whole rfl rfl rfl | rfl) ?_
                      refine OW_env (e' := [_, _, _, _, _, _, _, _, _, _, _, _, _, _, _, _, _, _, _, _, _, _, _, _, _, _, _, _, _, _, _, _, _, _, _, _, _, _, _, _, _, _, _, _, _, _, _, _, _, _, _, _, _, _, _, _, _, _, _, _, _, _, _, _, _, _, _, _, _, _, _, _, _, _, _, _, _, _, _, _, _, _, _, _, _, _, _, _, _, _, _, _, _, _, _, _, _, _, _, _, _, _, _, _, _, _, _, _, _, _, _, _, _, _, _, _, _, _, _, _, _, _, _, _, _, _, _, _, _, _, _, _, _, _, _, _, _, _, _, _, _, _, _, _, _, _]) rfl ?_
                      refine OW_fa rfl rfl rfl ?_
                      refine OW_loadR hS9 (k := 1) rfl rfl rfl rfl rfl (by first | exact part_whole rfl rfl rfl | rfl) ?_
                      refine OW_bd rfl rfl (v := .agg [_, _]) rfl ?_
                      refine OW_env (e' := [_, _, _, _, _, _, _, _, _, _, _, _, _, _, _, _, _, _, _, _, _, _, _, _, _, _, _, _, _, _, _, _, _, _, _, _, _, _, _, _, _, _, _, _, _, _, _, _, _, _, _, _, _, _, _, _, _, _, _, _, _, _, _, _, _, _, _, _, _, _, _, _, _, _, _, _, _, _, _, _, _, _, _, _, _, _, _, _, _, _, _, _, _, _, _, _, _, _, _, _, _, _, _, _, _, _, _, _, _, _, _, _, _, _, _, _, _, _, _, _, _, _, _, _, _, _, _, _, _, _, _, _, _, _, _, _, _, _, _, _, _, _, _, _, _, _]) rfl ?_
                      refine OW_bs rfl rfl (v := .lst [_]) rfl ?_
                      refine OW_app hS9 (k := 2) rfl (le_lit (ν := ν1) (a := [6, 0, 0, 1, 1, 0, 1, 1, 1, 1, 0, 1, 0]) (b := [7, 1, 1, 1, 1, 0, 1, 1, 1, 1, 0, 1, 0]) (by decide)) under_nil rfl rfl rfl rfl rfl rfl rfl rfl (by first | rfl | exact Ls.elems (by assumption)) (by first | exact one_wide rfl | exact map_wide (fun _ => rfl) | assumption | (intro y hy; simp at hy; done)) (by first | omega | (simp only [List.length_map, List.length_append, List.length_singleton, List.length_cons, List.length_nil, List.length_take, List.length_drop]; omega) | (simp; omega)) (by decide) fun O1 H10 hS10 => ?_
                      replace hS10 : Own _ _ _ ([_, _, _, _]) := hS10
                      refine OW_as rfl rfl ?_
                      refine OW_nilE (e' := [_, _, _, _, _, _, _, _, _, _, _, _, _, _, _, _, _, _, _, _, _, _, _, _, _, _, _, _, _, _, _, _, _, _, _, _, _, _, _, _, _, _, _, _, _, _, _, _, _, _, _, _, _, _, _, _, _, _, _, _, _, _, _, _, _, _, _, _, _, _, _, _, _, _, _, _, _, _, _, _, _, _, _, _, _, _, _, _, _, _, _, _, _, _, _, _, _, _, _, _, _, _, _, _, _, _, _, _, _, _, _, _, _, _, _, _, _, _, _, _, _, _, _, _, _, _, _, _, _, _, _, _, _, _, _, _, _, _, _, _, _, _, _, _, _, _]) rfl ?_
                      refine block_norm ?_
                      have hSd1 : Own _ _ _ ([_, _]) := (Own.drop (Own.drop hS10 (k := 0) rfl) (k := 0) rfl)
                      -- mid 33.1
                      refine ⟨n + 1, D ++ [⟨l[i].at', l[i].wh⟩], O1, Own.cast (Own.mono (hSd1) (le_lit (ν := ν1) (a := [8, 1, 1, 1, 1, 0, 1, 1, 1, 1, 0, 1, 0]) (b := [1, 1, 1, 1, 1, 0, 1, 0]) (by decide))) (by rw [List.map_append]; rfl), ?_, env_g rfl⟩
                      · exact ⟨by rw [List.length_append]; simp; omega, by omega⟩
                  · first
                    | (exfalso; (try simp only [decide_eq_true_eq, decide_eq_false_iff_not, Bool.not_eq_true', Bool.not_eq_false', Bool.and_eq_true, Bool.or_eq_true, Bool.not_eq_true, Bool.not_eq_false, Decidable.not_not, bne_iff_ne, beq_iff_eq, List.length_append, List.length_cons, List.length_nil, List.length_drop, List.length_take] at h15) <;> (first | omega | contradiction | (cases b <;> contradiction)); done)
                    | skip
                      try simp only [decide_eq_true_eq, decide_eq_false_iff_not, Bool.not_eq_true', Bool.not_eq_false', Bool.and_eq_true, Bool.or_eq_true, Bool.not_eq_true, Bool.not_eq_false, Decidable.not_not, bne_iff_ne, beq_iff_eq, List.length_append, List.length_cons, List.length_nil, List.length_drop, List.length_take] at h15
                      refine XW_skip ?_
                      refine block_norm ?_
                      have hSd2 : Own _ _ _ ([_, _]) := (Own.drop (Own.drop hS9 (k := 0) rfl) (k := 0) rfl)
                      -- mid 33.2
                      refine ⟨n, D, O, Own.cast (Own.mono (hSd2) (le_lit (ν := ν1) (a := [6, 0, 0, 1, 1, 0, 1, 1, 1, 1, 0, 1, 0]) (b := [1, 1, 1, 1, 1, 0, 1, 0]) (by decide))) (rfl), ?_, env_g rfl⟩
                      · exact ⟨by omega, by omega⟩
              · first
                | (exfalso; (try simp only [decide_eq_true_eq, decide_eq_false_iff_not, Bool.not_eq_true', Bool.not_eq_false', Bool.and_eq_true, Bool.or_eq_true, Bool.not_eq_true, Bool.not_eq_false, Decidable.not_not, bne_iff_ne, beq_iff_eq, List.length_append, List.length_cons, List.length_nil, List.length_drop, List.length_take] at h12) <;> (first | omega | contradiction | (cases b <;> contradiction)); done)
                | skip
                  try simp only [decide_eq_true_eq, decide_eq_false_iff_not, Bool.not_eq_true', Bool.not_eq_false', Bool.and_eq_true, Bool.or_eq_true, Bool.not_eq_true, Bool.not_eq_false, Decidable.not_not, bne_iff_ne, beq_iff_eq, List.length_append, List.length_cons, List.length_nil, List.length_drop, List.length_take] at h12
                  refine XW_sr ?_
                  refine OW_bin rfl rfl rfl rfl rfl ?_
                  refine OW_as rfl rfl ?_
                  refine OW_nilE (e' := [_, _, _, _, _, _, _, _, _, _, _, _, _, _, _, _, _, _, _, _, _, _, _, _, _, _, _, _, _, _, _, _, _, _, _, _, _, _, _, _, _, _, _, _, _, _, _, _, _, _, _, _, _, _, _, _, _, _, _, _, _, _, _, _, _, _, _, _, _, _, _, _, _, _, _, _, _, _, _, _, _, _, _, _, _, _, _, _, _, _, _, _, _, _, _, _, _, _, _, _, _, _, _, _, _, _, _, _, _, _, _, _, _, _, _, _, _, _, _, _, _, _, _, _, _, _, _, _, _, _, _, _, _, _, _, _, _, _, _, _, _, _, _, _, _, _]) rfl ?_
                  refine XW_if rfl (fun h17 => ?_) (fun h17 => ?_)
                  · first
                    | (exfalso; (try simp only [decide_eq_true_eq, decide_eq_false_iff_not, Bool.not_eq_true', Bool.not_eq_false', Bool.and_eq_true, Bool.or_eq_true, Bool.not_eq_true, Bool.not_eq_false, Decidable.not_not, bne_iff_ne, beq_iff_eq, List.length_append, List.length_cons, List.length_nil, List.length_drop, List.length_take] at h17) <;> (first | omega | contradiction | (cases b <;> contradiction)); done)
                    | skip
                      try simp only [decide_eq_true_eq, decide_eq_false_iff_not, Bool.not_eq_true', Bool.not_eq_false', Bool.and_eq_true, Bool.or_eq_true, Bool.not_eq_true, Bool.not_eq_false, Decidable.not_not, bne_iff_ne, beq_iff_eq, List.length_append, List.length_cons, List.length_nil, List.length_drop, List.length_take] at h17
                      refine XW_sr ?_
                      obtain ⟨d, b, D', hp1, hp2, hp3, hp4, hp5⟩ := hk7 l[i].at'
                      refine OW_mv rfl rfl ?_
                      refine OW_fa rfl rfl rfl ?_
                      refine OW_loadR hS8 (k := 1) rfl rfl rfl rfl rfl (by first | exact part_whole rfl rfl rfl | rfl) ?_
                      refine OW_env (e' := [_, _, _, _, _, _, _, _, _, _, _, _, _, _, _, _, _, _, _, _, _, _, _, _, _, _, _, _, _, _, _, _, _, _, _, _, _, _, _, _, _, _, _, _, _, _, _, _, _, _, _, _, _, _, _, _, _, _, _, _, _, _, _, _, _, _, _, _, _, _, _, _, _, _, _, _, _, _, _, _, _, _, _, _, _, _, _, _, _, _, _, _, _, _, _, _, _, _, _, _, _, _, _, _, _, _, _, _, _, _, _, _, _, _, _, _, _, _, _, _, _, _, _, _, _, _, _, _, _, _, _, _, _, _, _, _, _, _, _, _, _, _, _, _, _, _]) rfl ?_
                      refine OW_fn rfl rfl (d_pop hS8 (k := 3) rfl (le_app (p := 1 :: 1 :: 1 :: 1 :: 0 :: 1 :: 0 :: ν1) (b := [3, 0, 1, 1, 1, 0])) under_nil (before_lit (ν := ν1) (a := [3, 0, 1, 1, 1, 0, 1, 1, 1, 1, 0, 1, 0]) (b := [4, 0, 1, 1, 1, 0, 1, 1, 1, 1, 0, 1, 0]) (by decide)) (by omega) hp1 fun H11 hS11 => ?_) 
                      replace hS11 : Own _ _ _ ([_, _, _, _]) := hS11
                      refine OW_mv rfl rfl ?_
                      refine OW_ex rfl rfl rfl ?_
                      refine OW_env (e' := [_, _, _, _, _, _, _, _, _, _, _, _, _, _, _, _, _, _, _, _, _, _, _, _, _, _, _, _, _, _, _, _, _, _, _, _, _, _, _, _, _, _, _, _, _, _, _, _, _, _, _, _, _, _, _, _, _, _, _, _, _, _, _, _, _, _, _, _, _, _, _, _, _, _, _, _, _, _, _, _, _, _, _, _, _, _, _, _, _, _, _, _, _, _, _, _, _, _, _, _, _, _, _, _, _, _, _, _, _, _, _, _, _, _, _, _, _, _, _, _, _, _, _, _, _, _, _, _, _, _, _, _, _, _, _, _, _, _, _, _, _, _, _, _, _, _]) rfl ?_
                      refine OW_ex rfl rfl rfl ?_
                      refine OW_allocR hS11 (le_lit (ν := ν1) (a := [4, 0, 1, 1, 1, 0, 1, 1, 1, 1, 0, 1, 0]) (b := [7, 0, 1, 1, 1, 0, 1, 1, 1, 1, 0, 1, 0]) (by decide)) under_nil rfl rfl rfl rfl fun H12 hS12 => ?_
                      replace hS12 : Own _ _ _ ([_, _, _, _, _]) := hS12
                      first
                      | refine OW_storeR hS12 (k := 0) rfl le_refl rfl rfl rfl rfl ⟨rfl, rfl, Nat.le_of_ble_eq_true rfl⟩ (set_whole rfl rfl) fun H13 hS13 => ?_
                      | refine OW_storeR hS12 (k := 0) rfl le_refl rfl rfl rfl rfl ⟨rfl, rfl, Nat.le_of_ble_eq_true rfl⟩ (u2 := .agg [_, _]) rfl fun H13 hS13 => ?_
                      replace hS13 : Own _ _ _ ([_, _, _, _, _]) := hS13
                      refine OW_env (e' := [_, _, _, _, _, _, _, _, _, _, _, _, _, _, _, _, _, _, _, _, _, _, _, _, _, _, _, _, _, _, _, _, _, _, _, _, _, _, _, _, _, _, _, _, _, _, _, _, _, _, _, _, _, _, _, _, _, _, _, _, _, _, _, _, _, _, _, _, _, _, _, _, _, _, _, _, _, _, _, _, _, _, _, _, _, _, _, _, _, _, _, _, _, _, _, _, _, _, _, _, _, _, _, _, _, _, _, _, _, _, _, _, _, _, _, _, _, _, _, _, _, _, _, _, _, _, _, _, _, _, _, _, _, _, _, _, _, _, _, _, _, _, _, _, _, _]) rfl ?_
                      refine OW_as rfl rfl ?_
                      refine OW_nilE (e' := [_, _, _, _, _, _, _, _, _, _, _, _, _, _, _, _, _, _, _, _, _, _, _, _, _, _, _, _, _, _, _, _, _, _, _, _, _, _, _, _, _, _, _, _, _, _, _, _, _, _, _, _, _, _, _, _, _, _, _, _, _, _, _, _, _, _, _, _, _, _, _, _, _, _, _, _, _, _, _, _, _, _, _, _, _, _, _, _, _, _, _, _, _, _, _, _, _, _, _, _, _, _, _, _, _, _, _, _, _, _, _, _, _, _, _, _, _, _, _, _, _, _, _, _, _, _, _, _, _, _, _, _, _, _, _, _, _, _, _, _, _, _, _, _, _, _]) rfl ?_
                      refine XW_sr ?_
                      refine OW_mv rfl rfl ?_
                      refine OW_bin rfl rfl rfl rfl rfl ?_
                      refine OW_mv rfl rfl ?_
                      refine OW_env (e' := [_, _, _, _, _, _, _, _, _, _, _, _, _, _, _, _, _, _, _, _, _, _, _, _, _, _, _, _, _, _, _, _, _, _, _, _, _, _, _, _, _, _, _, _, _, _, _, _, _, _, _, _, _, _, _, _, _, _, _, _, _, _, _, _, _, _, _, _, _, _, _, _, _, _, _, _, _, _, _, _, _, _, _, _, _, _, _, _, _, _, _, _, _, _, _, _, _, _, _, _, _, _, _, _, _, _, _, _, _, _, _, _, _, _, _, _, _, _, _, _, _, _, _, _, _, _, _, _, _, _, _, _, _, _, _, _, _, _, _, _, _, _, _, _, _, _]) rfl ?_
                      refine OW_split (tt := 76) rfl (fun g19_3 => ?_) (fun g19_3 => ?_)
                      · first
                        | (exfalso; (try simp only [decide_eq_true_eq, decide_eq_false_iff_not, Bool.not_eq_true', Bool.not_eq_false', Bool.and_eq_true, Bool.or_eq_true, Bool.not_eq_true, Bool.not_eq_false, Decidable.not_not, bne_iff_ne, beq_iff_eq, List.length_append, List.length_cons, List.length_nil, List.length_drop, List.length_take] at g19_3) <;> (first | omega | contradiction | (cases b <;> contradiction)); done)
                        | skip
                          try simp only [decide_eq_true_eq, decide_eq_false_iff_not, Bool.not_eq_true', Bool.not_eq_false', Bool.and_eq_true, Bool.or_eq_true, Bool.not_eq_true, Bool.not_eq_false, Decidable.not_not, bne_iff_ne, beq_iff_eq, List.length_append, List.length_cons, List.length_nil, List.length_drop, List.length_take] at g19_3
                          refine OW_fa rfl rfl rfl ?_
                          refine OW_loadR hS13 (k := 1) rfl rfl rfl rfl rfl (by first | exact part_whole rfl rfl rfl | rfl) ?_
                          refine OW_env (e' := [_, _, _, _, _, _, _, _, _, _, _, _, _, _, _, _, _, _, _, _, _, _, _, _, _, _, _, _, _, _, _, _, _, _, _, _, _, _, _, _, _, _, _, _, _, _, _, _, _, _, _, _, _, _, _, _, _, _, _, _, _, _, _, _, _, _, _, _, _, _, _, _, _, _, _, _, _, _, _, _, _, _, _, _, _, _, _, _, _, _, _, _, _, _, _, _, _, _, _, _, _, _, _, _, _, _, _, _, _, _, _, _, _, _, _, _, _, _, _, _, _, _, _, _, _, _, _, _, _, _, _, _, _, _, _, _, _, _, _, _, _, _, _, _, _, _]) rfl ?_
                          refine OW_fa rfl rfl rfl ?_
                          refine OW_loadR hS13 (k := 2) rfl rfl rfl rfl rfl (by first | exact part_whole rfl rfl rfl | rfl) ?_
                          refine OW_bin rfl rfl rfl rfl rfl ?_
                          refine OW_env (e' := [_, _, _, _, _, _, _, _, _, _, _, _, _, _, _, _, _, _, _, _, _, _, _, _, _, _, _, _, _, _, _, _, _, _, _, _, _, _, _, _, _, _, _, _, _, _, _, _, _, _, _, _, _, _, _, _, _, _, _, _, _, _, _, _, _, _, _, _, _, _, _, _, _, _, _, _, _, _, _, _, _, _, _, _, _, _, _, _, _, _, _, _, _, _, _, _, _, _, _, _, _, _, _, _, _, _, _, _, _, _, _, _, _, _, _, _, _, _, _, _, _, _, _, _, _, _, _, _, _, _, _, _, _, _, _, _, _, _, _, _, _, _, _, _, _, _]) rfl ?_
                          refine OW_pick rfl rfl rfl ?_
                          refine OW_as rfl rfl ?_
                          refine OW_nilE (e' := [_, _, _, _, _, _, _, _, _, _, _, _, _, _, _, _, _, _, _, _, _, _, _, _, _, _, _, _, _, _, _, _, _, _, _, _, _, _, _, _, _, _, _, _, _, _, _, _, _, _, _, _, _, _, _, _, _, _, _, _, _, _, _, _, _, _, _, _, _, _, _, _, _, _, _, _, _, _, _, _, _, _, _, _, _, _, _, _, _, _, _, _, _, _, _, _, _, _, _, _, _, _, _, _, _, _, _, _, _, _, _, _, _, _, _, _, _, _, _, _, _, _, _, _, _, _, _, _, _, _, _, _, _, _, _, _, _, _, _, _, _, _, _, _, _, _]) rfl ?_
                          refine XW_seq ?_
                          refine XW_sr ?_
                          first | (rw [← hp2 (by omega)]) | (obtain rfl : b = false := hp3 (by omega))
                          refine OW_mv rfl rfl ?_
                          refine OW_mv rfl rfl ?_
                          refine OW_bin rfl rfl rfl rfl (neBF rfl) ?_
                          refine OW_env (e' := [_, _, _, _, _, _, _, _, _, _, _, _, _, _, _, _, _, _, _, _, _, _, _, _, _, _, _, _, _, _, _, _, _, _, _, _, _, _, _, _, _, _, _, _, _, _, _, _, _, _, _, _, _, _, _, _, _, _, _, _, _, _, _, _, _, _, _, _, _, _, _, _, _, _, _, _, _, _, _, _, _, _, _, _, _, _, _, _, _, _, _, _, _, _, _, _, _, _, _, _, _, _, _, _, _, _, _, _, _, _, _, _, _, _, _, _, _, _, _, _, _, _, _, _, _, _, _, _, _, _, _, _, _, _, _, _, _, _, _, _, _, _, _, _, _, _]) rfl ?_
                          refine OW_mv rfl rfl ?_
                          refine OW_mv rfl rfl ?_
                          refine OW_mv rfl rfl ?_
                          refine OW_env (e' := [_, _, _, _, _, _, _, _, _, _, _, _, _, _, _, _, _, _, _, _, _, _, _, _, _, _, _, _, _, _, _, _, _, _, _, _, _, _, _, _, _, _, _, _, _, _, _, _, _, _, _, _, _, _, _, _, _, _, _, _, _, _, _, _, _, _, _, _, _, _, _, _, _, _, _, _, _, _, _, _, _, _, _, _, _, _, _, _, _, _, _, _, _, _, _, _, _, _, _, _, _, _, _, _, _, _, _, _, _, _, _, _, _, _, _, _, _, _, _, _, _, _, _, _, _, _, _, _, _, _, _, _, _, _, _, _, _, _, _, _, _, _, _, _, _, _]) rfl ?_
                          refine OW_split (tt := 88) rfl (fun g20_6 => ?_) (fun g20_6 => ?_)
                          · first
                            | (exfalso; (try simp only [decide_eq_true_eq, decide_eq_false_iff_not, Bool.not_eq_true', Bool.not_eq_false', Bool.and_eq_true, Bool.or_eq_true, Bool.not_eq_true, Bool.not_eq_false, Decidable.not_not, bne_iff_ne, beq_iff_eq, List.length_append, List.length_cons, List.length_nil, List.length_drop, List.length_take] at g20_6) <;> (first | omega | contradiction | (cases b <;> contradiction)); done)
                            | skip
                              try simp only [decide_eq_true_eq, decide_eq_false_iff_not, Bool.not_eq_true', Bool.not_eq_false', Bool.and_eq_true, Bool.or_eq_true, Bool.not_eq_true, Bool.not_eq_false, Decidable.not_not, bne_iff_ne, beq_iff_eq, List.length_append, List.length_cons, List.length_nil, List.length_drop, List.length_take] at g20_6
                              refine OW_loadR hS13 (k := 0) rfl rfl rfl rfl rfl (by first | exact part_whole rfl rfl rfl | rfl) ?_
                              refine OW_loadR hS13 (k := 1) rfl rfl rfl rfl rfl (by first | exact part_whole rfl rfl rfl | rfl) ?_
                              refine OW_env (e' := [_, _, _, _, _, _, _, _, _, _, _, _, _, _, _, _, _, _, _, _, _, _, _, _, _, _, _, _, _, _, _, _, _, _, _, _, _, _, _, _, _, _, _, _, _, _, _, _, _, _, _, _, _, _, _, _, _, _, _, _, _, _, _, _, _, _, _, _, _, _, _, _, _, _, _, _, _, _, _, _, _, _, _, _, _, _, _, _, _, _, _, _, _, _, _, _, _, _, _, _, _, _, _, _, _, _, _, _, _, _, _, _, _, _, _, _, _, _, _, _, _, _, _, _, _, _, _, _, _, _, _, _, _, _, _, _, _, _, _, _, _, _, _, _, _, _]) rfl ?_
                              refine OW_bin rfl rfl rfl rfl (neDuF (hp4 (by assumption)).1) ?_
                              refine OW_pick rfl rfl rfl ?_
                              refine OW_pick rfl rfl rfl ?_
                              refine OW_env (e' := [_, _, _, _, _, _, _, _, _, _, _, _, _, _, _, _, _, _, _, _, _, _, _, _, _, _, _, _, _, _, _, _, _, _, _, _, _, _, _, _, _, _, _, _, _, _, _, _, _, _, _, _, _, _, _, _, _, _, _, _, _, _, _, _, _, _, _, _, _, _, _, _, _, _, _, _, _, _, _, _, _, _, _, _, _, _, _, _, _, _, _, _, _, _, _, _, _, _, _, _, _, _, _, _, _, _, _, _, _, _, _, _, _, _, _, _, _, _, _, _, _, _, _, _, _, _, _, _, _, _, _, _, _, _, _, _, _, _, _, _, _, _, _, _, _, _]) rfl ?_
                              refine OW_mv rfl rfl ?_
                              refine OW_mv rfl rfl ?_
                              refine OW_un rfl rfl rfl ?_
                              refine OW_env (e' := [_, _, _, _, _, _, _, _, _, _, _, _, _, _, _, _, _, _, _, _, _, _, _, _, _, _, _, _, _, _, _, _, _, _, _, _, _, _, _, _, _, _, _, _, _, _, _, _, _, _, _, _, _, _, _, _, _, _, _, _, _, _, _, _, _, _, _, _, _, _, _, _, _, _, _, _, _, _, _, _, _, _, _, _, _, _, _, _, _, _, _, _, _, _, _, _, _, _, _, _, _, _, _, _, _, _, _, _, _, _, _, _, _, _, _, _, _, _, _, _, _, _, _, _, _, _, _, _, _, _, _, _, _, _, _, _, _, _, _, _, _, _, _, _, _, _]) rfl ?_
                              refine OW_mv rfl rfl ?_
                              refine OW_split (tt := 97) rfl (fun g20_15 => ?_) (fun g20_15 => ?_)
                              · first
                                | (exfalso; (try simp only [decide_eq_true_eq, decide_eq_false_iff_not, Bool.not_eq_true', Bool.not_eq_false', Bool.and_eq_true, Bool.or_eq_true, Bool.not_eq_true, Bool.not_eq_false, Decidable.not_not, bne_iff_ne, beq_iff_eq, List.length_append, List.length_cons, List.length_nil, List.length_drop, List.length_take] at g20_15) <;> (first | omega | contradiction | (cases b <;> contradiction)); done)
                                | skip
                                  try simp only [decide_eq_true_eq, decide_eq_false_iff_not, Bool.not_eq_true', Bool.not_eq_false', Bool.and_eq_true, Bool.or_eq_true, Bool.not_eq_true, Bool.not_eq_false, Decidable.not_not, bne_iff_ne, beq_iff_eq, List.length_append, List.length_cons, List.length_nil, List.length_drop, List.length_take] at g20_15
                                  refine OW_loadR hS13 (k := 0) rfl rfl rfl rfl rfl (by first | exact part_whole rfl rfl rfl | rfl) ?_
                                  refine OW_env (e' := [_, _, _, _, _, _, _, _, _, _, _, _, _, _, _, _, _, _, _, _, _, _, _, _, _, _, _, _, _, _, _, _, _, _, _, _, _, _, _, _, _, _, _, _, _, _, _, _, _, _, _, _, _, _, _, _, _, _, _, _, _, _, _, _, _, _, _, _, _, _, _, _, _, _, _, _, _, _, _, _, _, _, _, _, _, _, _, _, _, _, _, _, _, _, _, _, _, _, _, _, _, _, _, _, _, _, _, _, _, _, _, _, _, _, _, _, _, _, _, _, _, _, _, _, _, _, _, _, _, _, _, _, _, _, _, _, _, _, _, _, _, _, _, _, _, _]) rfl ?_
                                  refine OW_bd rfl rfl (v := .agg [_, _]) rfl ?_
                                  refine OW_bin rfl rfl rfl rfl (neDuF (a := d) (b := zD) (hp5 (by first | assumption | rfl)).1) ?_
                                  refine OW_pick rfl rfl rfl ?_
                                  refine OW_env (e' := [_, _, _, _, _, _, _, _, _, _, _, _, _, _, _, _, _, _, _, _, _, _, _, _, _, _, _, _, _, _, _, _, _, _, _, _, _, _, _, _, _, _, _, _, _, _, _, _, _, _, _, _, _, _, _, _, _, _, _, _, _, _, _, _, _, _, _, _, _, _, _, _, _, _, _, _, _, _, _, _, _, _, _, _, _, _, _, _, _, _, _, _, _, _, _, _, _, _, _, _, _, _, _, _, _, _, _, _, _, _, _, _, _, _, _, _, _, _, _, _, _, _, _, _, _, _, _, _, _, _, _, _, _, _, _, _, _, _, _, _, _, _, _, _, _, _]) rfl ?_
                                  refine OW_pick rfl rfl rfl ?_
                                  refine OW_nilE (e' := [_, _, _, _, _, _, _, _, _, _, _, _, _, _, _, _, _, _, _, _, _, _, _, _, _, _, _, _, _, _, _, _, _, _, _, _, _, _, _, _, _, _, _, _, _, _, _, _, _, _, _, _, _, _, _, _, _, _, _, _, _, _, _, _, _, _, _, _, _, _, _, _, _, _, _, _, _, _, _, _, _, _, _, _, _, _, _, _, _, _, _, _, _, _, _, _, _, _, _, _, _, _, _, _, _, _, _, _, _, _, _, _, _, _, _, _, _, _, _, _, _, _, _, _, _, _, _, _, _, _, _, _, _, _, _, _, _, _, _, _, _, _, _, _, _, _]) rfl ?_
                                  refine XW_no rfl rfl ?_
                                  refine XW_skip ?_
                                  refine then_norm ?_
                                  refine XW_sr ?_
                                  refine OW_mv rfl rfl ?_
                                  refine OW_nilE (e' := [_, _, _, _, _, _, _, _, _, _, _, _, _, _, _, _, _, _, _, _, _, _, _, _, _, _, _, _, _, _, _, _, _, _, _, _, _, _, _, _, _, _, _, _, _, _, _, _, _, _, _, _, _, _, _, _, _, _, _, _, _, _, _, _, _, _, _, _, _, _, _, _, _, _, _, _, _, _, _, _, _, _, _, _, _, _, _, _, _, _, _, _, _, _, _, _, _, _, _, _, _, _, _, _, _, _, _, _, _, _, _, _, _, _, _, _, _, _, _, _, _, _, _, _, _, _, _, _, _, _, _, _, _, _, _, _, _, _, _, _, _, _, _, _, _, _]) rfl ?_
                                  refine XW_if rfl (fun h22 => ?_) (fun h22 => ?_)
                                  · first
                                    | (exfalso; (try simp only [decide_eq_true_eq, decide_eq_false_iff_not, Bool.not_eq_true', Bool.not_eq_false', Bool.and_eq_true, Bool.or_eq_true, Bool.not_eq_true, Bool.not_eq_false, Decidable.not_not, bne_iff_ne, beq_iff_eq, List.length_append, List.length_cons, List.length_nil, List.length_drop, List.length_take] at h22) <;> (first | omega | contradiction | (cases b <;> contradiction)); done)
                                    | skip
                                      try simp only [decide_eq_true_eq, decide_eq_false_iff_not, Bool.not_eq_true', Bool.not_eq_false', Bool.and_eq_true, Bool.or_eq_true, Bool.not_eq_true, Bool.not_eq_false, Decidable.not_not, bne_iff_ne, beq_iff_eq, List.length_append, List.length_cons, List.length_nil, List.length_drop, List.length_take] at h22
                                      refine XW_region ?_
                                      refine OW_mv rfl rfl ?_
                                      refine OW_mv rfl rfl ?_
                                      refine OW_fn rfl rfl (r_withoutI (hp4 (by assumption)).2.2 hS13 (k := 3) rfl (le_lit (ν := ν1) (a := [9, 0, 1, 1, 1, 0, 1, 1, 1, 1, 0, 1, 0]) (b := [2, 1, 1, 1, 1, 1, 1, 1, 0, 1, 1, 1, 1, 0, 1, 0]) (by decide)) under_nil (before_lit (ν := ν1) (a := [2, 1, 1, 1, 1, 1, 1, 1, 0, 1, 1, 1, 1, 0, 1, 0]) (b := [3, 1, 1, 1, 1, 1, 1, 1, 0, 1, 1, 1, 1, 0, 1, 0]) (by decide)) (by omega) fun O2 H14 hS14 => ?_) 
                                      replace hS14 : Own _ _ _ ([_, _, _, _, _, _]) := hS14
                                      refine OW_env (e' := [_, _, _, _, _, _, _, _, _, _, _, _, _, _, _, _, _, _, _, _, _, _, _, _, _, _, _, _, _, _, _, _, _, _, _, _, _, _, _, _, _, _, _, _, _, _, _, _, _, _, _, _, _, _, _, _, _, _, _, _, _, _, _, _, _, _, _, _, _, _, _, _, _, _, _, _, _, _, _, _, _, _, _, _, _, _, _, _, _, _, _, _, _, _, _, _, _, _, _, _, _, _, _, _, _, _, _, _, _, _, _, _, _, _, _, _, _, _, _, _, _, _, _, _, _, _, _, _, _, _, _, _, _, _, _, _, _, _, _, _, _, _, _, _, _, _]) rfl ?_
                                      refine OW_as rfl rfl ?_
                                      refine OW_nilE (e' := [_, _, _, _, _, _, _, _, _, _, _, _, _, _, _, _, _, _, _, _, _, _, _, _, _, _, _, _, _, _, _, _, _, _, _, _, _, _, _, _, _, _, _, _, _, _, _, _, _, _, _, _, _, _, _, _, _, _, _, _, _, _, _, _, _, _, _, _, _, _, _, _, _, _, _, _, _, _, _, _, _, _, _, _, _, _, _, _, _, _, _, _, _, _, _, _, _, _, _, _, _, _, _, _, _, _, _, _, _, _, _, _, _, _, _, _, _, _, _, _, _, _, _, _, _, _, _, _, _, _, _, _, _, _, _, _, _, _, _, _, _, _, _, _, _, _]) rfl ?_
                                      refine block_norm ?_
                                      have hSd3 : Own _ _ _ ([_, _]) := (Own.drop (Own.drop (Own.drop (Own.drop hS14 (k := 1) rfl) (k := 1) rfl) (k := 1) rfl) (k := 1) rfl)
                                      -- mid 33.3
                                      refine ⟨n, D, O2, Own.cast (Own.mono (hSd3) (le_lit (ν := ν1) (a := [3, 1, 1, 1, 1, 1, 1, 1, 0, 1, 1, 1, 1, 0, 1, 0]) (b := [1, 1, 1, 1, 1, 0, 1, 0]) (by decide))) (rfl), ?_, env_g rfl⟩
                                      · exact ⟨by omega, by omega⟩
                                  · first
                                    | (exfalso; (try simp only [decide_eq_true_eq, decide_eq_false_iff_not, Bool.not_eq_true', Bool.not_eq_false', Bool.and_eq_true, Bool.or_eq_true, Bool.not_eq_true, Bool.not_eq_false, Decidable.not_not, bne_iff_ne, beq_iff_eq, List.length_append, List.length_cons, List.length_nil, List.length_drop, List.length_take] at h22) <;> (first | omega | contradiction | (cases b <;> contradiction)); done)
                                    | skip
                                      try simp only [decide_eq_true_eq, decide_eq_false_iff_not, Bool.not_eq_true', Bool.not_eq_false', Bool.and_eq_true, Bool.or_eq_true, Bool.not_eq_true, Bool.not_eq_false, Decidable.not_not, bne_iff_ne, beq_iff_eq, List.length_append, List.length_cons, List.length_nil, List.length_drop, List.length_take] at h22
                                      refine XW_skip ?_
                                      refine block_norm ?_
                                      have hSd4 : Own _ _ _ ([_, _]) := (Own.drop (Own.drop (Own.drop hS13 (k := 0) rfl) (k := 0) rfl) (k := 0) rfl)
                                      -- mid 33.4
                                      refine ⟨n, D, O, Own.cast (Own.mono (hSd4) (le_lit (ν := ν1) (a := [9, 0, 1, 1, 1, 0, 1, 1, 1, 1, 0, 1, 0]) (b := [1, 1, 1, 1, 1, 0, 1, 0]) (by decide))) (rfl), ?_, env_g rfl⟩
                                      · exact ⟨by omega, by omega⟩
                              · first
                                | (exfalso; (try simp only [decide_eq_true_eq, decide_eq_false_iff_not, Bool.not_eq_true', Bool.not_eq_false', Bool.and_eq_true, Bool.or_eq_true, Bool.not_eq_true, Bool.not_eq_false, Decidable.not_not, bne_iff_ne, beq_iff_eq, List.length_append, List.length_cons, List.length_nil, List.length_drop, List.length_take] at g20_15) <;> (first | omega | contradiction | (cases b <;> contradiction)); done)
                                | skip
                                  try simp only [decide_eq_true_eq, decide_eq_false_iff_not, Bool.not_eq_true', Bool.not_eq_false', Bool.and_eq_true, Bool.or_eq_true, Bool.not_eq_true, Bool.not_eq_false, Decidable.not_not, bne_iff_ne, beq_iff_eq, List.length_append, List.length_cons, List.length_nil, List.length_drop, List.length_take] at g20_15
                                  refine OW_no rfl ?_
                                  refine OW_env (e' := [_, _, _, _, _, _, _, _, _, _, _, _, _, _, _, _, _, _, _, _, _, _, _, _, _, _, _, _, _, _, _, _, _, _, _, _, _, _, _, _, _, _, _, _, _, _, _, _, _, _, _, _, _, _, _, _, _, _, _, _, _, _, _, _, _, _, _, _, _, _, _, _, _, _, _, _, _, _, _, _, _, _, _, _, _, _, _, _, _, _, _, _, _, _, _, _, _, _, _, _, _, _, _, _, _, _, _, _, _, _, _, _, _, _, _, _, _, _, _, _, _, _, _, _, _, _, _, _, _, _, _, _, _, _, _, _, _, _, _, _, _, _, _, _, _, _]) rfl ?_
                                  refine OW_no rfl ?_
                                  refine OW_no rfl ?_
                                  refine OW_pick rfl rfl rfl ?_
                                  refine OW_env (e' := [_, _, _, _, _, _, _, _, _, _, _, _, _, _, _, _, _, _, _, _, _, _, _, _, _, _, _, _, _, _, _, _, _, _, _, _, _, _, _, _, _, _, _, _, _, _, _, _, _, _, _, _, _, _, _, _, _, _, _, _, _, _, _, _, _, _, _, _, _, _, _, _, _, _, _, _, _, _, _, _, _, _, _, _, _, _, _, _, _, _, _, _, _, _, _, _, _, _, _, _, _, _, _, _, _, _, _, _, _, _, _, _, _, _, _, _, _, _, _, _, _, _, _, _, _, _, _, _, _, _, _, _, _, _, _, _, _, _, _, _, _, _, _, _, _, _]) rfl ?_
                                  refine OW_pick rfl rfl rfl ?_
                                  refine OW_nilE (e' := [_, _, _, _, _, _, _, _, _, _, _, _, _, _, _, _, _, _, _, _, _, _, _, _, _, _, _, _, _, _, _, _, _, _, _, _, _, _, _, _, _, _, _, _, _, _, _, _, _, _, _, _, _, _, _, _, _, _, _, _, _, _, _, _, _, _, _, _, _, _, _, _, _, _, _, _, _, _, _, _, _, _, _, _, _, _, _, _, _, _, _, _, _, _, _, _, _, _, _, _, _, _, _, _, _, _, _, _, _, _, _, _, _, _, _, _, _, _, _, _, _, _, _, _, _, _, _, _, _, _, _, _, _, _, _, _, _, _, _, _, _, _, _, _, _, _]) rfl ?_
                                  refine XW_no rfl rfl ?_
                                  refine XW_skip ?_
                                  refine then_norm ?_
                                  refine XW_sr ?_
                                  refine OW_mv rfl rfl ?_
                                  refine OW_nilE (e' := [_, _, _, _, _, _, _, _, _, _, _, _, _, _, _, _, _, _, _, _, _, _, _, _, _, _, _, _, _, _, _, _, _, _, _, _, _, _, _, _, _, _, _, _, _, _, _, _, _, _, _, _, _, _, _, _, _, _, _, _, _, _, _, _, _, _, _, _, _, _, _, _, _, _, _, _, _, _, _, _, _, _, _, _, _, _, _, _, _, _, _, _, _, _, _, _, _, _, _, _, _, _, _, _, _, _, _, _, _, _, _, _, _, _, _, _, _, _, _, _, _, _, _, _, _, _, _, _, _, _, _, _, _, _, _, _, _, _, _, _, _, _, _, _, _, _]) rfl ?_
                                  refine XW_if rfl (fun h22 => ?_) (fun h22 => ?_)
                                  · first
                                    | (exfalso; (try simp only [decide_eq_true_eq, decide_eq_false_iff_not, Bool.not_eq_true', Bool.not_eq_false', Bool.and_eq_true, Bool.or_eq_true, Bool.not_eq_true, Bool.not_eq_false, Decidable.not_not, bne_iff_ne, beq_iff_eq, List.length_append, List.length_cons, List.length_nil, List.length_drop, List.length_take] at h22) <;> (first | omega | contradiction | (cases b <;> contradiction)); done)
                                    | skip
                                      try simp only [decide_eq_true_eq, decide_eq_false_iff_not, Bool.not_eq_true', Bool.not_eq_false', Bool.and_eq_true, Bool.or_eq_true, Bool.not_eq_true, Bool.not_eq_false, Decidable.not_not, bne_iff_ne, beq_iff_eq, List.length_append, List.length_cons, List.length_nil, List.length_drop, List.length_take] at h22
                                      refine XW_region ?_
                                      refine OW_mv rfl rfl ?_
                                      refine OW_mv rfl rfl ?_
                                      refine OW_fn rfl rfl (r_withoutI (hp4 (by assumption)).2.2 hS13 (k := 3) rfl (le_lit (ν := ν1) (a := [9, 0, 1, 1, 1, 0, 1, 1, 1, 1, 0, 1, 0]) (b := [2, 1, 1, 1, 1, 1, 1, 1, 0, 1, 1, 1, 1, 0, 1, 0]) (by decide)) under_nil (before_lit (ν := ν1) (a := [2, 1, 1, 1, 1, 1, 1, 1, 0, 1, 1, 1, 1, 0, 1, 0]) (b := [3, 1, 1, 1, 1, 1, 1, 1, 0, 1, 1, 1, 1, 0, 1, 0]) (by decide)) (by omega) fun O3 H15 hS15 => ?_) 
                                      replace hS15 : Own _ _ _ ([_, _, _, _, _, _]) := hS15
                                      refine OW_env (e' := [_, _, _, _, _, _, _, _, _, _, _, _, _, _, _, _, _, _, _, _, _, _, _, _, _, _, _, _, _, _, _, _, _, _, _, _, _, _, _, _, _, _, _, _, _, _, _, _, _, _, _, _, _, _, _, _, _, _, _, _, _, _, _, _, _, _, _, _, _, _, _, _, _, _, _, _, _, _, _, _, _, _, _, _, _, _, _, _, _, _, _, _, _, _, _, _, _, _, _, _, _, _, _, _, _, _, _, _, _, _, _, _, _, _, _, _, _, _, _, _, _, _, _, _, _, _, _, _, _, _, _, _, _, _, _, _, _, _, _, _, _, _, _, _, _, _]) rfl ?_
                                      refine OW_as rfl rfl ?_
                                      refine OW_nilE (e' := [_, _, _, _, _, _, _, _, _, _, _, _, _, _, _, _, _, _, _, _, _, _, _, _, _, _, _, _, _, _, _, _, _, _, _, _, _, _, _, _, _, _, _, _, _, _, _, _, _, _, _, _, _, _, _, _, _, _, _, _, _, _, _, _, _, _, _, _, _, _, _, _, _, _, _, _, _, _, _, _, _, _, _, _, _, _, _, _, _, _, _, _, _, _, _, _, _, _, _, _, _, _, _, _, _, _, _, _, _, _, _, _, _, _, _, _, _, _, _, _, _, _, _, _, _, _, _, _, _, _, _, _, _, _, _, _, _, _, _, _, _, _, _, _, _, _]) rfl ?_
                                      refine block_norm ?_
                                      have hSd5 : Own _ _ _ ([_, _]) := (Own.drop (Own.drop (Own.drop (Own.drop hS15 (k := 1) rfl) (k := 1) rfl) (k := 1) rfl) (k := 1) rfl)
                                      -- mid 33.5
                                      refine ⟨n, D.eraseIdx kk.toNat, O3, Own.cast (Own.mono (hSd5) (le_lit (ν := ν1) (a := [3, 1, 1, 1, 1, 1, 1, 1, 0, 1, 1, 1, 1, 0, 1, 0]) (b := [1, 1, 1, 1, 1, 0, 1, 0]) (by decide))) (by rw [(hp4 (by assumption)).2.1]), ?_, env_g rfl⟩
                                      · exact ⟨by have := len_erase D kk.toNat; omega, by omega⟩
                                  · first
                                    | (exfalso; (try simp only [decide_eq_true_eq, decide_eq_false_iff_not, Bool.not_eq_true', Bool.not_eq_false', Bool.and_eq_true, Bool.or_eq_true, Bool.not_eq_true, Bool.not_eq_false, Decidable.not_not, bne_iff_ne, beq_iff_eq, List.length_append, List.length_cons, List.length_nil, List.length_drop, List.length_take] at h22) <;> (first | omega | contradiction | (cases b <;> contradiction)); done)
                                    | skip
                                      try simp only [decide_eq_true_eq, decide_eq_false_iff_not, Bool.not_eq_true', Bool.not_eq_false', Bool.and_eq_true, Bool.or_eq_true, Bool.not_eq_true, Bool.not_eq_false, Decidable.not_not, bne_iff_ne, beq_iff_eq, List.length_append, List.length_cons, List.length_nil, List.length_drop, List.length_take] at h22
                                      refine XW_skip ?_
                                      refine block_norm ?_
                                      have hSd6 : Own _ _ _ ([_, _]) := (Own.drop (Own.drop (Own.drop hS13 (k := 0) rfl) (k := 0) rfl) (k := 0) rfl)
                                      -- mid 33.6
                                      refine ⟨n, D, O, Own.cast (Own.mono (hSd6) (le_lit (ν := ν1) (a := [9, 0, 1, 1, 1, 0, 1, 1, 1, 1, 0, 1, 0]) (b := [1, 1, 1, 1, 1, 0, 1, 0]) (by decide))) (rfl), ?_, env_g rfl⟩
                                      · exact ⟨by omega, by omega⟩
                          · first
                            | (exfalso; (try simp only [decide_eq_true_eq, decide_eq_false_iff_not, Bool.not_eq_true', Bool.not_eq_false', Bool.and_eq_true, Bool.or_eq_true, Bool.not_eq_true, Bool.not_eq_false, Decidable.not_not, bne_iff_ne, beq_iff_eq, List.length_append, List.length_cons, List.length_nil, List.length_drop, List.length_take] at g20_6) <;> (first | omega | contradiction | (cases b <;> contradiction)); done)
                            | skip
                              try simp only [decide_eq_true_eq, decide_eq_false_iff_not, Bool.not_eq_true', Bool.not_eq_false', Bool.and_eq_true, Bool.or_eq_true, Bool.not_eq_true, Bool.not_eq_false, Decidable.not_not, bne_iff_ne, beq_iff_eq, List.length_append, List.length_cons, List.length_nil, List.length_drop, List.length_take] at g20_6
                              refine OW_no rfl ?_
                              refine OW_no rfl ?_
                              refine OW_env (e' := [_, _, _, _, _, _, _, _, _, _, _, _, _, _, _, _, _, _, _, _, _, _, _, _, _, _, _, _, _, _, _, _, _, _, _, _, _, _, _, _, _, _, _, _, _, _, _, _, _, _, _, _, _, _, _, _, _, _, _, _, _, _, _, _, _, _, _, _, _, _, _, _, _, _, _, _, _, _, _, _, _, _, _, _, _, _, _, _, _, _, _, _, _, _, _, _, _, _, _, _, _, _, _, _, _, _, _, _, _, _, _, _, _, _, _, _, _, _, _, _, _, _, _, _, _, _, _, _, _, _, _, _, _, _, _, _, _, _, _, _, _, _, _, _, _, _]) rfl ?_
                              refine OW_no rfl ?_
                              refine OW_pick rfl rfl rfl ?_
                              refine OW_pick rfl rfl rfl ?_
                              refine OW_env (e' := [_, _, _, _, _, _, _, _, _, _, _, _, _, _, _, _, _, _, _, _, _, _, _, _, _, _, _, _, _, _, _, _, _, _, _, _, _, _, _, _, _, _, _, _, _, _, _, _, _, _, _, _, _, _, _, _, _, _, _, _, _, _, _, _, _, _, _, _, _, _, _, _, _, _, _, _, _, _, _, _, _, _, _, _, _, _, _, _, _, _, _, _, _, _, _, _, _, _, _, _, _, _, _, _, _, _, _, _, _, _, _, _, _, _, _, _, _, _, _, _, _, _, _, _, _, _, _, _, _, _, _, _, _, _, _, _, _, _, _, _, _, _, _, _, _, _]) rfl ?_
                              refine OW_mv rfl rfl ?_
                              refine OW_mv rfl rfl ?_
                              refine OW_un rfl rfl rfl ?_
                              refine OW_env (e' := [_, _, _, _, _, _, _, _, _, _, _, _, _, _, _, _, _, _, _, _, _, _, _, _, _, _, _, _, _, _, _, _, _, _, _, _, _, _, _, _, _, _, _, _, _, _, _, _, _, _, _, _, _, _, _, _, _, _, _, _, _, _, _, _, _, _, _, _, _, _, _, _, _, _, _, _, _, _, _, _, _, _, _, _, _, _, _, _, _, _, _, _, _, _, _, _, _, _, _, _, _, _, _, _, _, _, _, _, _, _, _, _, _, _, _, _, _, _, _, _, _, _, _, _, _, _, _, _, _, _, _, _, _, _, _, _, _, _, _, _, _, _, _, _, _, _]) rfl ?_
                              refine OW_mv rfl rfl ?_
                              refine OW_split (tt := 97) rfl (fun g20_15 => ?_) (fun g20_15 => ?_)
                              · first
                                | (exfalso; (try simp only [decide_eq_true_eq, decide_eq_false_iff_not, Bool.not_eq_true', Bool.not_eq_false', Bool.and_eq_true, Bool.or_eq_true, Bool.not_eq_true, Bool.not_eq_false, Decidable.not_not, bne_iff_ne, beq_iff_eq, List.length_append, List.length_cons, List.length_nil, List.length_drop, List.length_take] at g20_15) <;> (first | omega | contradiction | (cases b <;> contradiction)); done)
                                | skip
                                  try simp only [decide_eq_true_eq, decide_eq_false_iff_not, Bool.not_eq_true', Bool.not_eq_false', Bool.and_eq_true, Bool.or_eq_true, Bool.not_eq_true, Bool.not_eq_false, Decidable.not_not, bne_iff_ne, beq_iff_eq, List.length_append, List.length_cons, List.length_nil, List.length_drop, List.length_take] at g20_15
                                  refine OW_loadR hS13 (k := 0) rfl rfl rfl rfl rfl (by first | exact part_whole rfl rfl rfl | rfl) ?_
                                  refine OW_env (e' := [_, _, _, _, _, _, _, _, _, _, _, _, _, _, _, _, _, _, _, _, _, _, _, _, _, _, _, _, _, _, _, _, _, _, _, _, _, _, _, _, _, _, _, _, _, _, _, _, _, _, _, _, _, _, _, _, _, _, _, _, _, _, _, _, _, _, _, _, _, _, _, _, _, _, _, _, _, _, _, _, _, _, _, _, _, _, _, _, _, _, _, _, _, _, _, _, _, _, _, _, _, _, _, _, _, _, _, _, _, _, _, _, _, _, _, _, _, _, _, _, _, _, _, _, _, _, _, _, _, _, _, _, _, _, _, _, _, _, _, _, _, _, _, _, _, _]) rfl ?_
                                  refine OW_bd rfl rfl (v := .agg [_, _]) rfl ?_
                                  refine OW_bin rfl rfl rfl rfl (neDuF (a := d) (b := zD) (hp5 (by first | assumption | rfl)).1) ?_
                                  refine OW_pick rfl rfl rfl ?_
                                  refine OW_env (e' := [_, _, _, _, _, _, _, _, _, _, _, _, _, _, _, _, _, _, _, _, _, _, _, _, _, _, _, _, _, _, _, _, _, _, _, _, _, _, _, _, _, _, _, _, _, _, _, _, _, _, _, _, _, _, _, _, _, _, _, _, _, _, _, _, _, _, _, _, _, _, _, _, _, _, _, _, _, _, _, _, _, _, _, _, _, _, _, _, _, _, _, _, _, _, _, _, _, _, _, _, _, _, _, _, _, _, _, _, _, _, _, _, _, _, _, _, _, _, _, _, _, _, _, _, _, _, _, _, _, _, _, _, _, _, _, _, _, _, _, _, _, _, _, _, _, _]) rfl ?_
                                  refine OW_pick rfl rfl rfl ?_
                                  refine OW_nilE (e' := [_, _, _, _, _, _, _, _, _, _, _, _, _, _, _, _, _, _, _, _, _, _, _, _, _, _, _, _, _, _, _, _, _, _, _, _, _, _, _, _, _, _, _, _, _, _, _, _, _, _, _, _, _, _, _, _, _, _, _, _, _, _, _, _, _, _, _, _, _, _, _, _, _, _, _, _, _, _, _, _, _, _, _, _, _, _, _, _, _, _, _, _, _, _, _, _, _, _, _, _, _, _, _, _, _, _, _, _, _, _, _, _, _, _, _, _, _, _, _, _, _, _, _, _, _, _, _, _, _, _, _, _, _, _, _, _, _, _, _, _, _, _, _, _, _, _]) rfl ?_
                                  refine XW_no rfl rfl ?_
                                  refine XW_skip ?_
                                  refine then_norm ?_
                                  refine XW_sr ?_
                                  refine OW_mv rfl rfl ?_
                                  refine OW_nilE (e' := [_, _, _, _, _, _, _, _, _, _, _, _, _, _, _, _, _, _, _, _, _, _, _, _, _, _, _, _, _, _, _, _, _, _, _, _, _, _, _, _, _, _, _, _, _, _, _, _, _, _, _, _, _, _, _, _, _, _, _, _, _, _, _, _, _, _, _, _, _, _, _, _, _, _, _, _, _, _, _, _, _, _, _, _, _, _, _, _, _, _, _, _, _, _, _, _, _, _, _, _, _, _, _, _, _, _, _, _, _, _, _, _, _, _, _, _, _, _, _, _, _, _, _, _, _, _, _, _, _, _, _, _, _, _, _, _, _, _, _, _, _, _, _, _, _, _]) rfl ?_
                                  refine XW_if rfl (fun h22 => ?_) (fun h22 => ?_)
                                  · first
                                    | (exfalso; (try simp only [decide_eq_true_eq, decide_eq_false_iff_not, Bool.not_eq_true', Bool.not_eq_false', Bool.and_eq_true, Bool.or_eq_true, Bool.not_eq_true, Bool.not_eq_false, Decidable.not_not, bne_iff_ne, beq_iff_eq, List.length_append, List.length_cons, List.length_nil, List.length_drop, List.length_take] at h22) <;> (first | omega | contradiction | (cases b <;> contradiction)); done)
                                    | skip
                                      try simp only [decide_eq_true_eq, decide_eq_false_iff_not, Bool.not_eq_true', Bool.not_eq_false', Bool.and_eq_true, Bool.or_eq_true, Bool.not_eq_true, Bool.not_eq_false, Decidable.not_not, bne_iff_ne, beq_iff_eq, List.length_append, List.length_cons, List.length_nil, List.length_drop, List.length_take] at h22
                                      refine XW_region ?_
                                      refine OW_mv rfl rfl ?_
                                      refine OW_mv rfl rfl ?_
                                      refine OW_fn rfl rfl (r_withoutI (hp4 (by assumption)).2.2 hS13 (k := 3) rfl (le_lit (ν := ν1) (a := [9, 0, 1, 1, 1, 0, 1, 1, 1, 1, 0, 1, 0]) (b := [2, 1, 1, 1, 1, 1, 1, 1, 0, 1, 1, 1, 1, 0, 1, 0]) (by decide)) under_nil (before_lit (ν := ν1) (a := [2, 1, 1, 1, 1, 1, 1, 1, 0, 1, 1, 1, 1, 0, 1, 0]) (b := [3, 1, 1, 1, 1, 1, 1, 1, 0, 1, 1, 1, 1, 0, 1, 0]) (by decide)) (by omega) fun O4 H16 hS16 => ?_) 
                                      replace hS16 : Own _ _ _ ([_, _, _, _, _, _]) := hS16
                                      refine OW_env (e' := [_, _, _, _, _, _, _, _, _, _, _, _, _, _, _, _, _, _, _, _, _, _, _, _, _, _, _, _, _, _, _, _, _, _, _, _, _, _, _, _, _, _, _, _, _, _, _, _, _, _, _, _, _, _, _, _, _, _, _, _, _, _, _, _, _, _, _, _, _, _, _, _, _, _, _, _, _, _, _, _, _, _, _, _, _, _, _, _, _, _, _, _, _, _, _, _, _, _, _, _, _, _, _, _, _, _, _, _, _, _, _, _, _, _, _, _, _, _, _, _, _, _, _, _, _, _, _, _, _, _, _, _, _, _, _, _, _, _, _, _, _, _, _, _, _, _]) rfl ?_
                                      refine OW_as rfl rfl ?_
                                      refine OW_nilE (e' := [_, _, _, _, _, _, _, _, _, _, _, _, _, _, _, _, _, _, _, _, _, _, _, _, _, _, _, _, _, _, _, _, _, _, _, _, _, _, _, _, _, _, _, _, _, _, _, _, _, _, _, _, _, _, _, _, _, _, _, _, _, _, _, _, _, _, _, _, _, _, _, _, _, _, _, _, _, _, _, _, _, _, _, _, _, _, _, _, _, _, _, _, _, _, _, _, _, _, _, _, _, _, _, _, _, _, _, _, _, _, _, _, _, _, _, _, _, _, _, _, _, _, _, _, _, _, _, _, _, _, _, _, _, _, _, _, _, _, _, _, _, _, _, _, _, _]) rfl ?_
                                      refine block_norm ?_
                                      have hSd7 : Own _ _ _ ([_, _]) := (Own.drop (Own.drop (Own.drop (Own.drop hS16 (k := 1) rfl) (k := 1) rfl) (k := 1) rfl) (k := 1) rfl)
                                      -- mid 33.7
                                      refine ⟨n, D, O4, Own.cast (Own.mono (hSd7) (le_lit (ν := ν1) (a := [3, 1, 1, 1, 1, 1, 1, 1, 0, 1, 1, 1, 1, 0, 1, 0]) (b := [1, 1, 1, 1, 1, 0, 1, 0]) (by decide))) (rfl), ?_, env_g rfl⟩
                                      · exact ⟨by omega, by omega⟩
                                  · first
                                    | (exfalso; (try simp only [decide_eq_true_eq, decide_eq_false_iff_not, Bool.not_eq_true', Bool.not_eq_false', Bool.and_eq_true, Bool.or_eq_true, Bool.not_eq_true, Bool.not_eq_false, Decidable.not_not, bne_iff_ne, beq_iff_eq, List.length_append, List.length_cons, List.length_nil, List.length_drop, List.length_take] at h22) <;> (first | omega | contradiction | (cases b <;> contradiction)); done)
                                    | skip
                                      try simp only [decide_eq_true_eq, decide_eq_false_iff_not, Bool.not_eq_true', Bool.not_eq_false', Bool.and_eq_true, Bool.or_eq_true, Bool.not_eq_true, Bool.not_eq_false, Decidable.not_not, bne_iff_ne, beq_iff_eq, List.length_append, List.length_cons, List.length_nil, List.length_drop, List.length_take] at h22
                                      refine XW_skip ?_
                                      refine block_norm ?_
                                      have hSd8 : Own _ _ _ ([_, _]) := (Own.drop (Own.drop (Own.drop hS13 (k := 0) rfl) (k := 0) rfl) (k := 0) rfl)
                                      -- mid 33.8
                                      refine ⟨n, D, O, Own.cast (Own.mono (hSd8) (le_lit (ν := ν1) (a := [9, 0, 1, 1, 1, 0, 1, 1, 1, 1, 0, 1, 0]) (b := [1, 1, 1, 1, 1, 0, 1, 0]) (by decide))) (by rw [(hp5 (by assumption)).2]), ?_, env_g rfl⟩
                                      · exact ⟨by omega, by omega⟩
                              · first
                                | (exfalso; (try simp only [decide_eq_true_eq, decide_eq_false_iff_not, Bool.not_eq_true', Bool.not_eq_false', Bool.and_eq_true, Bool.or_eq_true, Bool.not_eq_true, Bool.not_eq_false, Decidable.not_not, bne_iff_ne, beq_iff_eq, List.length_append, List.length_cons, List.length_nil, List.length_drop, List.length_take] at g20_15) <;> (first | omega | contradiction | (cases b <;> contradiction)); done)
                                | skip
                                  try simp only [decide_eq_true_eq, decide_eq_false_iff_not, Bool.not_eq_true', Bool.not_eq_false', Bool.and_eq_true, Bool.or_eq_true, Bool.not_eq_true, Bool.not_eq_false, Decidable.not_not, bne_iff_ne, beq_iff_eq, List.length_append, List.length_cons, List.length_nil, List.length_drop, List.length_take] at g20_15
                                  refine OW_no rfl ?_
                                  refine OW_env (e' := [_, _, _, _, _, _, _, _, _, _, _, _, _, _, _, _, _, _, _, _, _, _, _, _, _, _, _, _, _, _, _, _, _, _, _, _, _, _, _, _, _, _, _, _, _, _, _, _, _, _, _, _, _, _, _, _, _, _, _, _, _, _, _, _, _, _, _, _, _, _, _, _, _, _, _, _, _, _, _, _, _, _, _, _, _, _, _, _, _, _, _, _, _, _, _, _, _, _, _, _, _, _, _, _, _, _, _, _, _, _, _, _, _, _, _, _, _, _, _, _, _, _, _, _, _, _, _, _, _, _, _, _, _, _, _, _, _, _, _, _, _, _, _, _, _, _]) rfl ?_
                                  refine OW_no rfl ?_
                                  refine OW_no rfl ?_
                                  refine OW_pick rfl rfl rfl ?_
                                  refine OW_env (e' := [_, _, _, _, _, _, _, _, _, _, _, _, _, _, _, _, _, _, _, _, _, _, _, _, _, _, _, _, _, _, _, _, _, _, _, _, _, _, _, _, _, _, _, _, _, _, _, _, _, _, _, _, _, _, _, _, _, _, _, _, _, _, _, _, _, _, _, _, _, _, _, _, _, _, _, _, _, _, _, _, _, _, _, _, _, _, _, _, _, _, _, _, _, _, _, _, _, _, _, _, _, _, _, _, _, _, _, _, _, _, _, _, _, _, _, _, _, _, _, _, _, _, _, _, _, _, _, _, _, _, _, _, _, _, _, _, _, _, _, _, _, _, _, _, _, _]) rfl ?_
                                  refine OW_pick rfl rfl rfl ?_
                                  refine OW_nilE (e' := [_, _, _, _, _, _, _, _, _, _, _, _, _, _, _, _, _, _, _, _, _, _, _, _, _, _, _, _, _, _, _, _, _, _, _, _, _, _, _, _, _, _, _, _, _, _, _, _, _, _, _, _, _, _, _, _, _, _, _, _, _, _, _, _, _, _, _, _, _, _, _, _, _, _, _, _, _, _, _, _, _, _, _, _, _, _, _, _, _, _, _, _, _, _, _, _, _, _, _, _, _, _, _, _, _, _, _, _, _, _, _, _, _, _, _, _, _, _, _, _, _, _, _, _, _, _, _, _, _, _, _, _, _, _, _, _, _, _, _, _, _, _, _, _, _, _]) rfl ?_
                                  refine XW_no rfl rfl ?_
                                  refine XW_skip ?_
                                  refine then_norm ?_
                                  refine XW_sr ?_
                                  refine OW_mv rfl rfl ?_
                                  refine OW_nilE (e' := [_, _, _, _, _, _, _, _, _, _, _, _, _, _, _, _, _, _, _, _, _, _, _, _, _, _, _, _, _, _, _, _, _, _, _, _, _, _, _, _, _, _, _, _, _, _, _, _, _, _, _, _, _, _, _, _, _, _, _, _, _, _, _, _, _, _, _, _, _, _, _, _, _, _, _, _, _, _, _, _, _, _, _, _, _, _, _, _, _, _, _, _, _, _, _, _, _, _, _, _, _, _, _, _, _, _, _, _, _, _, _, _, _, _, _, _, _, _, _, _, _, _, _, _, _, _, _, _, _, _, _, _, _, _, _, _, _, _, _, _, _, _, _, _, _, _]) rfl ?_
                                  refine XW_if rfl (fun h22 => ?_) (fun h22 => ?_)
                                  · first
                                    | (exfalso; (try simp only [decide_eq_true_eq, decide_eq_false_iff_not, Bool.not_eq_true', Bool.not_eq_false', Bool.and_eq_true, Bool.or_eq_true, Bool.not_eq_true, Bool.not_eq_false, Decidable.not_not, bne_iff_ne, beq_iff_eq, List.length_append, List.length_cons, List.length_nil, List.length_drop, List.length_take] at h22) <;> (first | omega | contradiction | (cases b <;> contradiction)); done)
                                    | skip
                                      try simp only [decide_eq_true_eq, decide_eq_false_iff_not, Bool.not_eq_true', Bool.not_eq_false', Bool.and_eq_true, Bool.or_eq_true, Bool.not_eq_true, Bool.not_eq_false, Decidable.not_not, bne_iff_ne, beq_iff_eq, List.length_append, List.length_cons, List.length_nil, List.length_drop, List.length_take] at h22
                                      refine XW_region ?_
                                      refine OW_mv rfl rfl ?_
                                      refine OW_mv rfl rfl ?_
                                      refine OW_fn rfl rfl (r_withoutI (hp4 (by assumption)).2.2 hS13 (k := 3) rfl (le_lit (ν := ν1) (a := [9, 0, 1, 1, 1, 0, 1, 1, 1, 1, 0, 1, 0]) (b := [2, 1, 1, 1, 1, 1, 1, 1, 0, 1, 1, 1, 1, 0, 1, 0]) (by decide)) under_nil (before_lit (ν := ν1) (a := [2, 1, 1, 1, 1, 1, 1, 1, 0, 1, 1, 1, 1, 0, 1, 0]) (b := [3, 1, 1, 1, 1, 1, 1, 1, 0, 1, 1, 1, 1, 0, 1, 0]) (by decide)) (by omega) fun O5 H17 hS17 => ?_) 
                                      replace hS17 : Own _ _ _ ([_, _, _, _, _, _]) := hS17
                                      refine OW_env (e' := [_, _, _, _, _, _, _, _, _, _, _, _, _, _, _, _, _, _, _, _, _, _, _, _, _, _, _, _, _, _, _, _, _, _, _, _, _, _, _, _, _, _, _, _, _, _, _, _, _, _, _, _, _, _, _, _, _, _, _, _, _, _, _, _, _, _, _, _, _, _, _, _, _, _, _, _, _, _, _, _, _, _, _, _, _, _, _, _, _, _, _, _, _, _, _, _, _, _, _, _, _, _, _, _, _, _, _, _, _, _, _, _, _, _, _, _, _, _, _, _, _, _, _, _, _, _, _, _, _, _, _, _, _, _, _, _, _, _, _, _, _, _, _, _, _, _]) rfl ?_
                                      refine OW_as rfl rfl ?_
                                      refine OW_nilE (e' := [_, _, _, _, _, _, _, _, _, _, _, _, _, _, _, _, _, _, _, _, _, _, _, _, _, _, _, _, _, _, _, _, _, _, _, _, _, _, _, _, _, _, _, _, _, _, _, _, _, _, _, _, _, _, _, _, _, _, _, _, _, _, _, _, _, _, _, _, _, _, _, _, _, _, _, _, _, _, _, _, _, _, _, _, _, _, _, _, _, _, _, _, _, _, _, _, _, _, _, _, _, _, _, _, _, _, _, _, _, _, _, _, _, _, _, _, _, _, _, _, _, _, _, _, _, _, _, _, _, _, _, _, _, _, _, _, _, _, _, _, _, _, _, _, _, _]) rfl ?_
                                      refine block_norm ?_
                                      have hSd9 : Own _ _ _ ([_, _]) := (Own.drop (Own.drop (Own.drop (Own.drop hS17 (k := 1) rfl) (k := 1) rfl) (k := 1) rfl) (k := 1) rfl)
                                      -- mid 33.9
                                      refine ⟨n, D, O5, Own.cast (Own.mono (hSd9) (le_lit (ν := ν1) (a := [3, 1, 1, 1, 1, 1, 1, 1, 0, 1, 1, 1, 1, 0, 1, 0]) (b := [1, 1, 1, 1, 1, 0, 1, 0]) (by decide))) (rfl), ?_, env_g rfl⟩
                                      · exact ⟨by omega, by omega⟩
                                  · first
                                    | (exfalso; (try simp only [decide_eq_true_eq, decide_eq_false_iff_not, Bool.not_eq_true', Bool.not_eq_false', Bool.and_eq_true, Bool.or_eq_true, Bool.not_eq_true, Bool.not_eq_false, Decidable.not_not, bne_iff_ne, beq_iff_eq, List.length_append, List.length_cons, List.length_nil, List.length_drop, List.length_take] at h22) <;> (first | omega | contradiction | (cases b <;> contradiction)); done)
                                    | skip
                                      try simp only [decide_eq_true_eq, decide_eq_false_iff_not, Bool.not_eq_true', Bool.not_eq_false', Bool.and_eq_true, Bool.or_eq_true, Bool.not_eq_true, Bool.not_eq_false, Decidable.not_not, bne_iff_ne, beq_iff_eq, List.length_append, List.length_cons, List.length_nil, List.length_drop, List.length_take] at h22
                                      refine XW_skip ?_
                                      refine block_norm ?_
                                      have hSd10 : Own _ _ _ ([_, _]) := (Own.drop (Own.drop (Own.drop hS13 (k := 0) rfl) (k := 0) rfl) (k := 0) rfl)
                                      -- mid 33.10
                                      refine ⟨n, D, O, Own.cast (Own.mono (hSd10) (le_lit (ν := ν1) (a := [9, 0, 1, 1, 1, 0, 1, 1, 1, 1, 0, 1, 0]) (b := [1, 1, 1, 1, 1, 0, 1, 0]) (by decide))) (rfl), ?_, env_g rfl⟩
                                      · exact ⟨by omega, by omega⟩
                      · first
                        | (exfalso; (try simp only [decide_eq_true_eq, decide_eq_false_iff_not, Bool.not_eq_true', Bool.not_eq_false', Bool.and_eq_true, Bool.or_eq_true, Bool.not_eq_true, Bool.not_eq_false, Decidable.not_not, bne_iff_ne, beq_iff_eq, List.length_append, List.length_cons, List.length_nil, List.length_drop, List.length_take] at g19_3) <;> (first | omega | contradiction | (cases b <;> contradiction)); done)
                        | skip
                          try simp only [decide_eq_true_eq, decide_eq_false_iff_not, Bool.not_eq_true', Bool.not_eq_false', Bool.and_eq_true, Bool.or_eq_true, Bool.not_eq_true, Bool.not_eq_false, Decidable.not_not, bne_iff_ne, beq_iff_eq, List.length_append, List.length_cons, List.length_nil, List.length_drop, List.length_take] at g19_3
                          refine OW_no rfl ?_
                          refine OW_no rfl ?_
                          refine OW_env (e' := [_, _, _, _, _, _, _, _, _, _, _, _, _, _, _, _, _, _, _, _, _, _, _, _, _, _, _, _, _, _, _, _, _, _, _, _, _, _, _, _, _, _, _, _, _, _, _, _, _, _, _, _, _, _, _, _, _, _, _, _, _, _, _, _, _, _, _, _, _, _, _, _, _, _, _, _, _, _, _, _, _, _, _, _, _, _, _, _, _, _, _, _, _, _, _, _, _, _, _, _, _, _, _, _, _, _, _, _, _, _, _, _, _, _, _, _, _, _, _, _, _, _, _, _, _, _, _, _, _, _, _, _, _, _, _, _, _, _, _, _, _, _, _, _, _, _]) rfl ?_
                          refine OW_no rfl ?_
                          refine OW_no rfl ?_
                          refine OW_no rfl ?_
                          refine OW_env (e' := [_, _, _, _, _, _, _, _, _, _, _, _, _, _, _, _, _, _, _, _, _, _, _, _, _, _, _, _, _, _, _, _, _, _, _, _, _, _, _, _, _, _, _, _, _, _, _, _, _, _, _, _, _, _, _, _, _, _, _, _, _, _, _, _, _, _, _, _, _, _, _, _, _, _, _, _, _, _, _, _, _, _, _, _, _, _, _, _, _, _, _, _, _, _, _, _, _, _, _, _, _, _, _, _, _, _, _, _, _, _, _, _, _, _, _, _, _, _, _, _, _, _, _, _, _, _, _, _, _, _, _, _, _, _, _, _, _, _, _, _, _, _, _, _, _, _]) rfl ?_
                          refine OW_pick rfl rfl rfl ?_
                          refine OW_as rfl rfl ?_
                          refine OW_nilE (e' := [_, _, _, _, _, _, _, _, _, _, _, _, _, _, _, _, _, _, _, _, _, _, _, _, _, _, _, _, _, _, _, _, _, _, _, _, _, _, _, _, _, _, _, _, _, _, _, _, _, _, _, _, _, _, _, _, _, _, _, _, _, _, _, _, _, _, _, _, _, _, _, _, _, _, _, _, _, _, _, _, _, _, _, _, _, _, _, _, _, _, _, _, _, _, _, _, _, _, _, _, _, _, _, _, _, _, _, _, _, _, _, _, _, _, _, _, _, _, _, _, _, _, _, _, _, _, _, _, _, _, _, _, _, _, _, _, _, _, _, _, _, _, _, _, _, _]) rfl ?_
                          refine XW_seq ?_
                          refine XW_sr ?_
                          first | (rw [← hp2 (by omega)]) | (obtain rfl : b = false := hp3 (by omega))
                          refine OW_mv rfl rfl ?_
                          refine OW_mv rfl rfl ?_
                          refine OW_bin rfl rfl rfl rfl (neBF rfl) ?_
                          refine OW_env (e' := [_, _, _, _, _, _, _, _, _, _, _, _, _, _, _, _, _, _, _, _, _, _, _, _, _, _, _, _, _, _, _, _, _, _, _, _, _, _, _, _, _, _, _, _, _, _, _, _, _, _, _, _, _, _, _, _, _, _, _, _, _, _, _, _, _, _, _, _, _, _, _, _, _, _, _, _, _, _, _, _, _, _, _, _, _, _, _, _, _, _, _, _, _, _, _, _, _, _, _, _, _, _, _, _, _, _, _, _, _, _, _, _, _, _, _, _, _, _, _, _, _, _, _, _, _, _, _, _, _, _, _, _, _, _, _, _, _, _, _, _, _, _, _, _, _, _]) rfl ?_
                          refine OW_mv rfl rfl ?_
                          refine OW_mv rfl rfl ?_
                          refine OW_mv rfl rfl ?_
                          refine OW_env (e' := [_, _, _, _, _, _, _, _, _, _, _, _, _, _, _, _, _, _, _, _, _, _, _, _, _, _, _, _, _, _, _, _, _, _, _, _, _, _, _, _, _, _, _, _, _, _, _, _, _, _, _, _, _, _, _, _, _, _, _, _, _, _, _, _, _, _, _, _, _, _, _, _, _, _, _, _, _, _, _, _, _, _, _, _, _, _, _, _, _, _, _, _, _, _, _, _, _, _, _, _, _, _, _, _, _, _, _, _, _, _, _, _, _, _, _, _, _, _, _, _, _, _, _, _, _, _, _, _, _, _, _, _, _, _, _, _, _, _, _, _, _, _, _, _, _, _]) rfl ?_
                          refine OW_split (tt := 88) rfl (fun g20_6 => ?_) (fun g20_6 => ?_)
                          · first
                            | (exfalso; (try simp only [decide_eq_true_eq, decide_eq_false_iff_not, Bool.not_eq_true', Bool.not_eq_false', Bool.and_eq_true, Bool.or_eq_true, Bool.not_eq_true, Bool.not_eq_false, Decidable.not_not, bne_iff_ne, beq_iff_eq, List.length_append, List.length_cons, List.length_nil, List.length_drop, List.length_take] at g20_6) <;> (first | omega | contradiction | (cases b <;> contradiction)); done)
                            | skip
                              try simp only [decide_eq_true_eq, decide_eq_false_iff_not, Bool.not_eq_true', Bool.not_eq_false', Bool.and_eq_true, Bool.or_eq_true, Bool.not_eq_true, Bool.not_eq_false, Decidable.not_not, bne_iff_ne, beq_iff_eq, List.length_append, List.length_cons, List.length_nil, List.length_drop, List.length_take] at g20_6
                              refine OW_loadR hS13 (k := 0) rfl rfl rfl rfl rfl (by first | exact part_whole rfl rfl rfl | rfl) ?_
                              refine OW_loadR hS13 (k := 1) rfl rfl rfl rfl rfl (by first | exact part_whole rfl rfl rfl | rfl) ?_
                              refine OW_env (e' := [_, _, _, _, _, _, _, _, _, _, _, _, _, _, _, _, _, _, _, _, _, _, _, _, _, _, _, _, _, _, _, _, _, _, _, _, _, _, _, _, _, _, _, _, _, _, _, _, _, _, _, _, _, _, _, _, _, _, _, _, _, _, _, _, _, _, _, _, _, _, _, _, _, _, _, _, _, _, _, _, _, _, _, _, _, _, _, _, _, _, _, _, _, _, _, _, _, _, _, _, _, _, _, _, _, _, _, _, _, _, _, _, _, _, _, _, _, _, _, _, _, _, _, _, _, _, _, _, _, _, _, _, _, _, _, _, _, _, _, _, _, _, _, _, _, _]) rfl ?_
                              refine OW_bin rfl rfl rfl rfl (neDuF (hp4 (by assumption)).1) ?_
                              refine OW_pick rfl rfl rfl ?_
                              refine OW_pick rfl rfl rfl ?_
                              refine OW_env (e' := [_, _, _, _, _, _, _, _, _, _, _, _, _, _, _, _, _, _, _, _, _, _, _, _, _, _, _, _, _, _, _, _, _, _, _, _, _, _, _, _, _, _, _, _, _, _, _, _, _, _, _, _, _, _, _, _, _, _, _, _, _, _, _, _, _, _, _, _, _, _, _, _, _, _, _, _, _, _, _, _, _, _, _, _, _, _, _, _, _, _, _, _, _, _, _, _, _, _, _, _, _, _, _, _, _, _, _, _, _, _, _, _, _, _, _, _, _, _, _, _, _, _, _, _, _, _, _, _, _, _, _, _, _, _, _, _, _, _, _, _, _, _, _, _, _, _]) rfl ?_
                              refine OW_mv rfl rfl ?_
                              refine OW_mv rfl rfl ?_
                              refine OW_un rfl rfl rfl ?_
                              refine OW_env (e' := [_, _, _, _, _, _, _, _, _, _, _, _, _, _, _, _, _, _, _, _, _, _, _, _, _, _, _, _, _, _, _, _, _, _, _, _, _, _, _, _, _, _, _, _, _, _, _, _, _, _, _, _, _, _, _, _, _, _, _, _, _, _, _, _, _, _, _, _, _, _, _, _, _, _, _, _, _, _, _, _, _, _, _, _, _, _, _, _, _, _, _, _, _, _, _, _, _, _, _, _, _, _, _, _, _, _, _, _, _, _, _, _, _, _, _, _, _, _, _, _, _, _, _, _, _, _, _, _, _, _, _, _, _, _, _, _, _, _, _, _, _, _, _, _, _, _]) rfl ?_
                              refine OW_mv rfl rfl ?_
                              refine OW_split (tt := 97) rfl (fun g20_15 => ?_) (fun g20_15 => ?_)
                              · first
                                | (exfalso; (try simp only [decide_eq_true_eq, decide_eq_false_iff_not, Bool.not_eq_true', Bool.not_eq_false', Bool.and_eq_true, Bool.or_eq_true, Bool.not_eq_true, Bool.not_eq_false, Decidable.not_not, bne_iff_ne, beq_iff_eq, List.length_append, List.length_cons, List.length_nil, List.length_drop, List.length_take] at g20_15) <;> (first | omega | contradiction | (cases b <;> contradiction)); done)
                                | skip
                                  try simp only [decide_eq_true_eq, decide_eq_false_iff_not, Bool.not_eq_true', Bool.not_eq_false', Bool.and_eq_true, Bool.or_eq_true, Bool.not_eq_true, Bool.not_eq_false, Decidable.not_not, bne_iff_ne, beq_iff_eq, List.length_append, List.length_cons, List.length_nil, List.length_drop, List.length_take] at g20_15
                                  refine OW_loadR hS13 (k := 0) rfl rfl rfl rfl rfl (by first | exact part_whole rfl rfl rfl | rfl) ?_
                                  refine OW_env (e' := [_, _, _, _, _, _, _, _, _, _, _, _, _, _, _, _, _, _, _, _, _, _, _, _, _, _, _, _, _, _, _, _, _, _, _, _, _, _, _, _, _, _, _, _, _, _, _, _, _, _, _, _, _, _, _, _, _, _, _, _, _, _, _, _, _, _, _, _, _, _, _, _, _, _, _, _, _, _, _, _, _, _, _, _, _, _, _, _, _, _, _, _, _, _, _, _, _, _, _, _, _, _, _, _, _, _, _, _, _, _, _, _, _, _, _, _, _, _, _, _, _, _, _, _, _, _, _, _, _, _, _, _, _, _, _, _, _, _, _, _, _, _, _, _, _, _]) rfl ?_
                                  refine OW_bd rfl rfl (v := .agg [_, _]) rfl ?_
                                  refine OW_bin rfl rfl rfl rfl (neDuF (a := d) (b := zD) (hp5 (by first | assumption | rfl)).1) ?_
                                  refine OW_pick rfl rfl rfl ?_
                                  refine OW_env (e' := [_, _, _, _, _, _, _, _, _, _, _, _, _, _, _, _, _, _, _, _, _, _, _, _, _, _, _, _, _, _, _, _, _, _, _, _, _, _, _, _, _, _, _, _, _, _, _, _, _, _, _, _, _, _, _, _, _, _, _, _, _, _, _, _, _, _, _, _, _, _, _, _, _, _, _, _, _, _, _, _, _, _, _, _, _, _, _, _, _, _, _, _, _, _, _, _, _, _, _, _, _, _, _, _, _, _, _, _, _, _, _, _, _, _, _, _, _, _, _, _, _, _, _, _, _, _, _, _, _, _, _, _, _, _, _, _, _, _, _, _, _, _, _, _, _, _]) rfl ?_
                                  refine OW_pick rfl rfl rfl ?_
                                  refine OW_nilE (e' := [_, _, _, _, _, _, _, _, _, _, _, _, _, _, _, _, _, _, _, _, _, _, _, _, _, _, _, _, _, _, _, _, _, _, _, _, _, _, _, _, _, _, _, _, _, _, _, _, _, _, _, _, _, _, _, _, _, _, _, _, _, _, _, _, _, _, _, _, _, _, _, _, _, _, _, _, _, _, _, _, _, _, _, _, _, _, _, _, _, _, _, _, _, _, _, _, _, _, _, _, _, _, _, _, _, _, _, _, _, _, _, _, _, _, _, _, _, _, _, _, _, _, _, _, _, _, _, _, _, _, _, _, _, _, _, _, _, _, _, _, _, _, _, _, _, _]) rfl ?_
                                  refine XW_no rfl rfl ?_
                                  refine XW_skip ?_
                                  refine then_norm ?_
                                  refine XW_sr ?_
                                  refine OW_mv rfl rfl ?_
                                  refine OW_nilE (e' := [_, _, _, _, _, _, _, _, _, _, _, _, _, _, _, _, _, _, _, _, _, _, _, _, _, _, _, _, _, _, _, _, _, _, _, _, _, _, _, _, _, _, _, _, _, _, _, _, _, _, _, _, _, _, _, _, _, _, _, _, _, _, _, _, _, _, _, _, _, _, _, _, _, _, _, _, _, _, _, _, _, _, _, _, _, _, _, _, _, _, _, _, _, _, _, _, _, _, _, _, _, _, _, _, _, _, _, _, _, _, _, _, _, _, _, _, _, _, _, _, _, _, _, _, _, _, _, _, _, _, _, _, _, _, _, _, _, _, _, _, _, _, _, _, _, _]) rfl ?_
                                  refine XW_no rfl rfl ?_
                                  refine XW_skip ?_
                                  refine block_norm ?_
                                  have hSd11 : Own _ _ _ ([_, _]) := (Own.drop (Own.drop (Own.drop hS13 (k := 0) rfl) (k := 0) rfl) (k := 0) rfl)
                                  -- mid 33.11
                                  refine ⟨n, D, O, Own.cast (Own.mono (hSd11) (le_lit (ν := ν1) (a := [9, 0, 1, 1, 1, 0, 1, 1, 1, 1, 0, 1, 0]) (b := [1, 1, 1, 1, 1, 0, 1, 0]) (by decide))) (rfl), ?_, env_g rfl⟩
                                  · exact ⟨by omega, by omega⟩
                              · first
                                | (exfalso; (try simp only [decide_eq_true_eq, decide_eq_false_iff_not, Bool.not_eq_true', Bool.not_eq_false', Bool.and_eq_true, Bool.or_eq_true, Bool.not_eq_true, Bool.not_eq_false, Decidable.not_not, bne_iff_ne, beq_iff_eq, List.length_append, List.length_cons, List.length_nil, List.length_drop, List.length_take] at g20_15) <;> (first | omega | contradiction | (cases b <;> contradiction)); done)
                                | skip
                                  try simp only [decide_eq_true_eq, decide_eq_false_iff_not, Bool.not_eq_true', Bool.not_eq_false', Bool.and_eq_true, Bool.or_eq_true, Bool.not_eq_true, Bool.not_eq_false, Decidable.not_not, bne_iff_ne, beq_iff_eq, List.length_append, List.length_cons, List.length_nil, List.length_drop, List.length_take] at g20_15
                                  refine OW_no rfl ?_
                                  refine OW_env (e' := [_, _, _, _, _, _, _, _, _, _, _, _, _, _, _, _, _, _, _, _, _, _, _, _, _, _, _, _, _, _, _, _, _, _, _, _, _, _, _, _, _, _, _, _, _, _, _, _, _, _, _, _, _, _, _, _, _, _, _, _, _, _, _, _, _, _, _, _, _, _, _, _, _, _, _, _, _, _, _, _, _, _, _, _, _, _, _, _, _, _, _, _, _, _, _, _, _, _, _, _, _, _, _, _, _, _, _, _, _, _, _, _, _, _, _, _, _, _, _, _, _, _, _, _, _, _, _, _, _, _, _, _, _, _, _, _, _, _, _, _, _, _, _, _, _, _]) rfl ?_
                                  refine OW_no rfl ?_
                                  refine OW_no rfl ?_
                                  refine OW_pick rfl rfl rfl ?_
                                  refine OW_env (e' := [_, _, _, _, _, _, _, _, _, _, _, _, _, _, _, _, _, _, _, _, _, _, _, _, _, _, _, _, _, _, _, _, _, _, _, _, _, _, _, _, _, _, _, _, _, _, _, _, _, _, _, _, _, _, _, _, _, _, _, _, _, _, _, _, _, _, _, _, _, _, _, _, _, _, _, _, _, _, _, _, _, _, _, _, _, _, _, _, _, _, _, _, _, _, _, _, _, _, _, _, _, _, _, _, _, _, _, _, _, _, _, _, _, _, _, _, _, _, _, _, _, _, _, _, _, _, _, _, _, _, _, _, _, _, _, _, _, _, _, _, _, _, _, _, _, _]) rfl ?_
                                  refine OW_pick rfl rfl rfl ?_
                                  refine OW_nilE (e' := [_, _, _, _, _, _, _, _, _, _, _, _, _, _, _, _, _, _, _, _, _, _, _, _, _, _, _, _, _, _, _, _, _, _, _, _, _, _, _, _, _, _, _, _, _, _, _, _, _, _, _, _, _, _, _, _, _, _, _, _, _, _, _, _, _, _, _, _, _, _, _, _, _, _, _, _, _, _, _, _, _, _, _, _, _, _, _, _, _, _, _, _, _, _, _, _, _, _, _, _, _, _, _, _, _, _, _, _, _, _, _, _, _, _, _, _, _, _, _, _, _, _, _, _, _, _, _, _, _, _, _, _, _, _, _, _, _, _, _, _, _, _, _, _, _, _]) rfl ?_
                                  refine XW_no rfl rfl ?_
                                  refine XW_skip ?_
                                  refine then_norm ?_
                                  refine XW_sr ?_
                                  refine OW_mv rfl rfl ?_
                                  refine OW_nilE (e' := [_, _, _, _, _, _, _, _, _, _, _, _, _, _, _, _, _, _, _, _, _, _, _, _, _, _, _, _, _, _, _, _, _, _, _, _, _, _, _, _, _, _, _, _, _, _, _, _, _, _, _, _, _, _, _, _, _, _, _, _, _, _, _, _, _, _, _, _, _, _, _, _, _, _, _, _, _, _, _, _, _, _, _, _, _, _, _, _, _, _, _, _, _, _, _, _, _, _, _, _, _, _, _, _, _, _, _, _, _, _, _, _, _, _, _, _, _, _, _, _, _, _, _, _, _, _, _, _, _, _, _, _, _, _, _, _, _, _, _, _, _, _, _, _, _, _]) rfl ?_
                                  refine XW_no rfl rfl ?_
                                  refine XW_skip ?_
                                  refine block_norm ?_
                                  have hSd12 : Own _ _ _ ([_, _]) := (Own.drop (Own.drop (Own.drop hS13 (k := 0) rfl) (k := 0) rfl) (k := 0) rfl)
                                  -- mid 33.12
                                  refine ⟨n, D, O, Own.cast (Own.mono (hSd12) (le_lit (ν := ν1) (a := [9, 0, 1, 1, 1, 0, 1, 1, 1, 1, 0, 1, 0]) (b := [1, 1, 1, 1, 1, 0, 1, 0]) (by decide))) (rfl), ?_, env_g rfl⟩
                                  · exact ⟨by omega, by omega⟩
                          · first
                            | (exfalso; (try simp only [decide_eq_true_eq, decide_eq_false_iff_not, Bool.not_eq_true', Bool.not_eq_false', Bool.and_eq_true, Bool.or_eq_true, Bool.not_eq_true, Bool.not_eq_false, Decidable.not_not, bne_iff_ne, beq_iff_eq, List.length_append, List.length_cons, List.length_nil, List.length_drop, List.length_take] at g20_6) <;> (first | omega | contradiction | (cases b <;> contradiction)); done)
                            | skip
                              try simp only [decide_eq_true_eq, decide_eq_false_iff_not, Bool.not_eq_true', Bool.not_eq_false', Bool.and_eq_true, Bool.or_eq_true, Bool.not_eq_true, Bool.not_eq_false, Decidable.not_not, bne_iff_ne, beq_iff_eq, List.length_append, List.length_cons, List.length_nil, List.length_drop, List.length_take] at g20_6
                              refine OW_no rfl ?_
                              refine OW_no rfl ?_
                              refine OW_env (e' := [_, _, _, _, _, _, _, _, _, _, _, _, _, _, _, _, _, _, _, _, _, _, _, _, _, _, _, _, _, _, _, _, _, _, _, _, _, _, _, _, _, _, _, _, _, _, _, _, _, _, _, _, _, _, _, _, _, _, _, _, _, _, _, _, _, _, _, _, _, _, _, _, _, _, _, _, _, _, _, _, _, _, _, _, _, _, _, _, _, _, _, _, _, _, _, _, _, _, _, _, _, _, _, _, _, _, _, _, _, _, _, _, _, _, _, _, _, _, _, _, _, _, _, _, _, _, _, _, _, _, _, _, _, _, _, _, _, _, _, _, _, _, _, _, _, _]) rfl ?_
                              refine OW_no rfl ?_
                              refine OW_pick rfl rfl rfl ?_
                              refine OW_pick rfl rfl rfl ?_
                              refine OW_env (e' := [_, _, _, _, _, _, _, _, _, _, _, _, _, _, _, _, _, _, _, _, _, _, _, _, _, _, _, _, _, _, _, _, _, _, _, _, _, _, _, _, _, _, _, _, _, _, _, _, _, _, _, _, _, _, _, _, _, _, _, _, _, _, _, _, _, _, _, _, _, _, _, _, _, _, _, _, _, _, _, _, _, _, _, _, _, _, _, _, _, _, _, _, _, _, _, _, _, _, _, _, _, _, _, _, _, _, _, _, _, _, _, _, _, _, _, _, _, _, _, _, _, _, _, _, _, _, _, _, _, _, _, _, _, _, _, _, _, _, _, _, _, _, _, _, _, _]) rfl ?_
                              refine OW_mv rfl rfl ?_
                              refine OW_mv rfl rfl ?_
                              refine OW_un rfl rfl rfl ?_
                              refine OW_env (e' := [_, _, _, _, _, _, _, _, _, _, _, _, _, _, _, _, _, _, _, _, _, _, _, _, _, _, _, _, _, _, _, _, _, _, _, _, _, _, _, _, _, _, _, _, _, _, _, _, _, _, _, _, _, _, _, _, _, _, _, _, _, _, _, _, _, _, _, _, _, _, _, _, _, _, _, _, _, _, _, _, _, _, _, _, _, _, _, _, _, _, _, _, _, _, _, _, _, _, _, _, _, _, _, _, _, _, _, _, _, _, _, _, _, _, _, _, _, _, _, _, _, _, _, _, _, _, _, _, _, _, _, _, _, _, _, _, _, _, _, _, _, _, _, _, _, _]) rfl ?_
                              refine OW_mv rfl rfl ?_
                              refine OW_split (tt := 97) rfl (fun g20_15 => ?_) (fun g20_15 => ?_)
                              · first
                                | (exfalso; (try simp only [decide_eq_true_eq, decide_eq_false_iff_not, Bool.not_eq_true', Bool.not_eq_false', Bool.and_eq_true, Bool.or_eq_true, Bool.not_eq_true, Bool.not_eq_false, Decidable.not_not, bne_iff_ne, beq_iff_eq, List.length_append, List.length_cons, List.length_nil, List.length_drop, List.length_take] at g20_15) <;> (first | omega | contradiction | (cases b <;> contradiction)); done)
                                | skip
                                  try simp only [decide_eq_true_eq, decide_eq_false_iff_not, Bool.not_eq_true', Bool.not_eq_false', Bool.and_eq_true, Bool.or_eq_true, Bool.not_eq_true, Bool.not_eq_false, Decidable.not_not, bne_iff_ne, beq_iff_eq, List.length_append, List.length_cons, List.length_nil, List.length_drop, List.length_take] at g20_15
                                  refine OW_loadR hS13 (k := 0) rfl rfl rfl rfl rfl (by first | exact part_whole rfl rfl rfl | rfl) ?_
                                  refine OW_env (e' := [_, _, _, _, _, _, _, _, _, _, _, _, _, _, _, _, _, _, _, _, _, _, _, _, _, _, _, _, _, _, _, _, _, _, _, _, _, _, _, _, _, _, _, _, _, _, _, _, _, _, _, _, _, _, _, _, _, _, _, _, _, _, _, _, _, _, _, _, _, _, _, _, _, _, _, _, _, _, _, _, _, _, _, _, _, _, _, _, _, _, _, _, _, _, _, _, _, _, _, _, _, _, _, _, _, _, _, _, _, _, _, _, _, _, _, _, _, _, _, _, _, _, _, _, _, _, _, _, _, _, _, _, _, _, _, _, _, _, _, _, _, _, _, _, _, _]) rfl ?_
                                  refine OW_bd rfl rfl (v := .agg [_, _]) rfl ?_
                                  refine OW_bin rfl rfl rfl rfl (neDuF (a := d) (b := zD) (hp5 (by first | assumption | rfl)).1) ?_
                                  refine OW_pick rfl rfl rfl ?_
                                  refine OW_env (e' := [_, _, _, _, _, _, _, _, _, _, _, _, _, _, _, _, _, _, _, _, _, _, _, _, _, _, _, _, _, _, _, _, _, _, _, _, _, _, _, _, _, _, _, _, _, _, _, _, _, _, _, _, _, _, _, _, _, _, _, _, _, _, _, _, _, _, _, _, _, _, _, _, _, _, _, _, _, _, _, _, _, _, _, _, _, _, _, _, _, _, _, _, _, _, _, _, _, _, _, _, _, _, _, _, _, _, _, _, _, _, _, _, _, _, _, _, _, _, _, _, _, _, _, _, _, _, _, _, _, _, _, _, _, _, _, _, _, _, _, _, _, _, _, _, _, _]) rfl ?_
                                  refine OW_pick rfl rfl rfl ?_
                                  refine OW_nilE (e' := [_, _, _, _, _, _, _, _, _, _, _, _, _, _, _, _, _, _, _, _, _, _, _, _, _, _, _, _, _, _, _, _, _, _, _, _, _, _, _, _, _, _, _, _, _, _, _, _, _, _, _, _, _, _, _, _, _, _, _, _, _, _, _, _, _, _, _, _, _, _, _, _, _, _, _, _, _, _, _, _, _, _, _, _, _, _, _, _, _, _, _, _, _, _, _, _, _, _, _, _, _, _, _, _, _, _, _, _, _, _, _, _, _, _, _, _, _, _, _, _, _, _, _, _, _, _, _, _, _, _, _, _, _, _, _, _, _, _, _, _, _, _, _, _, _, _]) rfl ?_
                                  refine XW_no rfl rfl ?_
                                  refine XW_skip ?_
                                  refine then_norm ?_
                                  refine XW_sr ?_
                                  refine OW_mv rfl rfl ?_
                                  refine OW_nilE (e' := [_, _, _, _, _, _, _, _, _, _, _, _, _, _, _, _, _, _, _, _, _, _, _, _, _, _, _, _, _, _, _, _, _, _, _, _, _, _, _, _, _, _, _, _, _, _, _, _, _, _, _, _, _, _, _, _, _, _, _, _, _, _, _, _, _, _, _, _, _, _, _, _, _, _, _, _, _, _, _, _, _, _, _, _, _, _, _, _, _, _, _, _, _, _, _, _, _, _, _, _, _, _, _, _, _, _, _, _, _, _, _, _, _, _, _, _, _, _, _, _, _, _, _, _, _, _, _, _, _, _, _, _, _, _, _, _, _, _, _, _, _, _, _, _, _, _]) rfl ?_
                                  refine XW_no rfl rfl ?_
                                  refine XW_skip ?_
                                  refine block_norm ?_
                                  have hSd13 : Own _ _ _ ([_, _]) := (Own.drop (Own.drop (Own.drop hS13 (k := 0) rfl) (k := 0) rfl) (k := 0) rfl)
                                  -- mid 33.13
                                  refine ⟨n, D, O, Own.cast (Own.mono (hSd13) (le_lit (ν := ν1) (a := [9, 0, 1, 1, 1, 0, 1, 1, 1, 1, 0, 1, 0]) (b := [1, 1, 1, 1, 1, 0, 1, 0]) (by decide))) (by rw [(hp5 rfl).2]), ?_, env_g rfl⟩
                                  · exact ⟨by omega, by omega⟩
                              · first
                                | (exfalso; (try simp only [decide_eq_true_eq, decide_eq_false_iff_not, Bool.not_eq_true', Bool.not_eq_false', Bool.and_eq_true, Bool.or_eq_true, Bool.not_eq_true, Bool.not_eq_false, Decidable.not_not, bne_iff_ne, beq_iff_eq, List.length_append, List.length_cons, List.length_nil, List.length_drop, List.length_take] at g20_15) <;> (first | omega | contradiction | (cases b <;> contradiction)); done)
                                | skip
                                  try simp only [decide_eq_true_eq, decide_eq_false_iff_not, Bool.not_eq_true', Bool.not_eq_false', Bool.and_eq_true, Bool.or_eq_true, Bool.not_eq_true, Bool.not_eq_false, Decidable.not_not, bne_iff_ne, beq_iff_eq, List.length_append, List.length_cons, List.length_nil, List.length_drop, List.length_take] at g20_15
                                  refine OW_no rfl ?_
                                  refine OW_env (e' := [_, _, _, _, _, _, _, _, _, _, _, _, _, _, _, _, _, _, _, _, _, _, _, _, _, _, _, _, _, _, _, _, _, _, _, _, _, _, _, _, _, _, _, _, _, _, _, _, _, _, _, _, _, _, _, _, _, _, _, _, _, _, _, _, _, _, _, _, _, _, _, _, _, _, _, _, _, _, _, _, _, _, _, _, _, _, _, _, _, _, _, _, _, _, _, _, _, _, _, _, _, _, _, _, _, _, _, _, _, _, _, _, _, _, _, _, _, _, _, _, _, _, _, _, _, _, _, _, _, _, _, _, _, _, _, _, _, _, _, _, _, _, _, _, _, _]) rfl ?_
                                  refine OW_no rfl ?_
                                  refine OW_no rfl ?_
                                  refine OW_pick rfl rfl rfl ?_
                                  refine OW_env (e' := [_, _, _, _, _, _, _, _, _, _, _, _, _, _, _, _, _, _, _, _, _, _, _, _, _, _, _, _, _, _, _, _, _, _, _, _, _, _, _, _, _, _, _, _, _, _, _, _, _, _, _, _, _, _, _, _, _, _, _, _, _, _, _, _, _, _, _, _, _, _, _, _, _, _, _, _, _, _, _, _, _, _, _, _, _, _, _, _, _, _, _, _, _, _, _, _, _, _, _, _, _, _, _, _, _, _, _, _, _, _, _, _, _, _, _, _, _, _, _, _, _, _, _, _, _, _, _, _, _, _, _, _, _, _, _, _, _, _, _, _, _, _, _, _, _, _]) rfl ?_
                                  refine OW_pick rfl rfl rfl ?_
                                  refine OW_nilE (e' := [_, _, _, _, _, _, _, _, _, _, _, _, _, _, _, _, _, _, _, _, _, _, _, _, _, _, _, _, _, _, _, _, _, _, _, _, _, _, _, _, _, _, _, _, _, _, _, _, _, _, _, _, _, _, _, _, _, _, _, _, _, _, _, _, _, _, _, _, _, _, _, _, _, _, _, _, _, _, _, _, _, _, _, _, _, _, _, _, _, _, _, _, _, _, _, _, _, _, _, _, _, _, _, _, _, _, _, _, _, _, _, _, _, _, _, _, _, _, _, _, _, _, _, _, _, _, _, _, _, _, _, _, _, _, _, _, _, _, _, _, _, _, _, _, _, _]) rfl ?_
                                  refine XW_no rfl rfl ?_
                                  refine XW_skip ?_
                                  refine then_norm ?_
                                  refine XW_sr ?_
                                  refine OW_mv rfl rfl ?_
                                  refine OW_nilE (e' := [_, _, _, _, _, _, _, _, _, _, _, _, _, _, _, _, _, _, _, _, _, _, _, _, _, _, _, _, _, _, _, _, _, _, _, _, _, _, _, _, _, _, _, _, _, _, _, _, _, _, _, _, _, _, _, _, _, _, _, _, _, _, _, _, _, _, _, _, _, _, _, _, _, _, _, _, _, _, _, _, _, _, _, _, _, _, _, _, _, _, _, _, _, _, _, _, _, _, _, _, _, _, _, _, _, _, _, _, _, _, _, _, _, _, _, _, _, _, _, _, _, _, _, _, _, _, _, _, _, _, _, _, _, _, _, _, _, _, _, _, _, _, _, _, _, _]) rfl ?_
                                  refine XW_no rfl rfl ?_
                                  refine XW_skip ?_
                                  refine block_norm ?_
                                  have hSd14 : Own _ _ _ ([_, _]) := (Own.drop (Own.drop (Own.drop hS13 (k := 0) rfl) (k := 0) rfl) (k := 0) rfl)
                                  -- mid 33.14
                                  refine ⟨n, D, O, Own.cast (Own.mono (hSd14) (le_lit (ν := ν1) (a := [9, 0, 1, 1, 1, 0, 1, 1, 1, 1, 0, 1, 0]) (b := [1, 1, 1, 1, 1, 0, 1, 0]) (by decide))) (rfl), ?_, env_g rfl⟩
                                  · exact ⟨by omega, by omega⟩
                  · first
                    | (exfalso; (try simp only [decide_eq_true_eq, decide_eq_false_iff_not, Bool.not_eq_true', Bool.not_eq_false', Bool.and_eq_true, Bool.or_eq_true, Bool.not_eq_true, Bool.not_eq_false, Decidable.not_not, bne_iff_ne, beq_iff_eq, List.length_append, List.length_cons, List.length_nil, List.length_drop, List.length_take] at h17) <;> (first | omega | contradiction | (cases b <;> contradiction)); done)
                    | skip
                      try simp only [decide_eq_true_eq, decide_eq_false_iff_not, Bool.not_eq_true', Bool.not_eq_false', Bool.and_eq_true, Bool.or_eq_true, Bool.not_eq_true, Bool.not_eq_false, Decidable.not_not, bne_iff_ne, beq_iff_eq, List.length_append, List.length_cons, List.length_nil, List.length_drop, List.length_take] at h17
                      refine XW_sr ?_
                      refine OW_bin rfl rfl rfl rfl rfl ?_
                      refine OW_as rfl rfl ?_
                      refine OW_nilE (e' := [_, _, _, _, _, _, _, _, _, _, _, _, _, _, _, _, _, _, _, _, _, _, _, _, _, _, _, _, _, _, _, _, _, _, _, _, _, _, _, _, _, _, _, _, _, _, _, _, _, _, _, _, _, _, _, _, _, _, _, _, _, _, _, _, _, _, _, _, _, _, _, _, _, _, _, _, _, _, _, _, _, _, _, _, _, _, _, _, _, _, _, _, _, _, _, _, _, _, _, _, _, _, _, _, _, _, _, _, _, _, _, _, _, _, _, _, _, _, _, _, _, _, _, _, _, _, _, _, _, _, _, _, _, _, _, _, _, _, _, _, _, _, _, _, _, _]) rfl ?_
                      refine XW_if rfl (fun h24 => ?_) (fun h24 => ?_)
                      · first
                        | (exfalso; (try simp only [decide_eq_true_eq, decide_eq_false_iff_not, Bool.not_eq_true', Bool.not_eq_false', Bool.and_eq_true, Bool.or_eq_true, Bool.not_eq_true, Bool.not_eq_false, Decidable.not_not, bne_iff_ne, beq_iff_eq, List.length_append, List.length_cons, List.length_nil, List.length_drop, List.length_take] at h24) <;> (first | omega | contradiction | (cases b <;> contradiction)); done)
                        | skip
                          try simp only [decide_eq_true_eq, decide_eq_false_iff_not, Bool.not_eq_true', Bool.not_eq_false', Bool.and_eq_true, Bool.or_eq_true, Bool.not_eq_true, Bool.not_eq_false, Decidable.not_not, bne_iff_ne, beq_iff_eq, List.length_append, List.length_cons, List.length_nil, List.length_drop, List.length_take] at h24
                          refine XW_sr ?_
                          refine OW_mv rfl rfl ?_
                          refine OW_fn rfl rfl (d_next hS8 (k := 3) rfl (le_app (p := 1 :: 1 :: 1 :: 1 :: 0 :: 1 :: 0 :: ν1) (b := [1, 0, 1, 1, 1, 1, 0])) under_nil (before_lit (ν := ν1) (a := [1, 0, 1, 1, 1, 1, 0, 1, 1, 1, 1, 0, 1, 0]) (b := [2, 0, 1, 1, 1, 1, 0, 1, 1, 1, 1, 0, 1, 0]) (by decide)) hk1 fun H18 hS18 => ?_) 
                          replace hS18 : Own _ _ _ ([_, _, _, _]) := hS18
                          refine OW_mv rfl rfl ?_
                          refine OW_env (e' := [_, _, _, _, _, _, _, _, _, _, _, _, _, _, _, _, _, _, _, _, _, _, _, _, _, _, _, _, _, _, _, _, _, _, _, _, _, _, _, _, _, _, _, _, _, _, _, _, _, _, _, _, _, _, _, _, _, _, _, _, _, _, _, _, _, _, _, _, _, _, _, _, _, _, _, _, _, _, _, _, _, _, _, _, _, _, _, _, _, _, _, _, _, _, _, _, _, _, _, _, _, _, _, _, _, _, _, _, _, _, _, _, _, _, _, _, _, _, _, _, _, _, _, _, _, _, _, _, _, _, _, _, _, _, _, _, _, _, _, _, _, _, _, _, _, _]) rfl ?_
                          refine OW_ex rfl rfl rfl ?_
                          refine OW_ex rfl rfl rfl ?_
                          refine OW_allocR hS18 (le_lit (ν := ν1) (a := [2, 0, 1, 1, 1, 1, 0, 1, 1, 1, 1, 0, 1, 0]) (b := [5, 0, 1, 1, 1, 1, 0, 1, 1, 1, 1, 0, 1, 0]) (by decide)) under_nil rfl rfl rfl rfl fun H19 hS19 => ?_
                          replace hS19 : Own _ _ _ ([_, _, _, _, _]) := hS19
                          refine OW_env (e' := [_, _, _, _, _, _, _, _, _, _, _, _, _, _, _, _, _, _, _, _, _, _, _, _, _, _, _, _, _, _, _, _, _, _, _, _, _, _, _, _, _, _, _, _, _, _, _, _, _, _, _, _, _, _, _, _, _, _, _, _, _, _, _, _, _, _, _, _, _, _, _, _, _, _, _, _, _, _, _, _, _, _, _, _, _, _, _, _, _, _, _, _, _, _, _, _, _, _, _, _, _, _, _, _, _, _, _, _, _, _, _, _, _, _, _, _, _, _, _, _, _, _, _, _, _, _, _, _, _, _, _, _, _, _, _, _, _, _, _, _, _, _, _, _, _, _]) rfl ?_
                          first
                          | refine OW_storeR hS19 (k := 0) rfl le_refl rfl rfl rfl rfl ⟨rfl, rfl, Nat.le_of_ble_eq_true rfl⟩ (set_whole rfl rfl) fun H20 hS20 => ?_
                          | refine OW_storeR hS19 (k := 0) rfl le_refl rfl rfl rfl rfl ⟨rfl, rfl, Nat.le_of_ble_eq_true rfl⟩ (u2 := .agg [_, _]) rfl fun H20 hS20 => ?_
                          replace hS20 : Own _ _ _ ([_, _, _, _, _]) := hS20
                          refine OW_as rfl rfl ?_
                          refine OW_nilE (e' := [_, _, _, _, _, _, _, _, _, _, _, _, _, _, _, _, _, _, _, _, _, _, _, _, _, _, _, _, _, _, _, _, _, _, _, _, _, _, _, _, _, _, _, _, _, _, _, _, _, _, _, _, _, _, _, _, _, _, _, _, _, _, _, _, _, _, _, _, _, _, _, _, _, _, _, _, _, _, _, _, _, _, _, _, _, _, _, _, _, _, _, _, _, _, _, _, _, _, _, _, _, _, _, _, _, _, _, _, _, _, _, _, _, _, _, _, _, _, _, _, _, _, _, _, _, _, _, _, _, _, _, _, _, _, _, _, _, _, _, _, _, _, _, _, _, _]) rfl ?_
                          refine XW_sr ?_
                          refine OW_mv rfl rfl ?_
                          refine OW_mv rfl rfl ?_
                          refine OW_bin rfl rfl rfl rfl rfl ?_
                          refine OW_env (e' := [_, _, _, _, _, _, _, _, _, _, _, _, _, _, _, _, _, _, _, _, _, _, _, _, _, _, _, _, _, _, _, _, _, _, _, _, _, _, _, _, _, _, _, _, _, _, _, _, _, _, _, _, _, _, _, _, _, _, _, _, _, _, _, _, _, _, _, _, _, _, _, _, _, _, _, _, _, _, _, _, _, _, _, _, _, _, _, _, _, _, _, _, _, _, _, _, _, _, _, _, _, _, _, _, _, _, _, _, _, _, _, _, _, _, _, _, _, _, _, _, _, _, _, _, _, _, _, _, _, _, _, _, _, _, _, _, _, _, _, _, _, _, _, _, _, _]) rfl ?_
                          refine OW_bin rfl rfl rfl rfl (neBF hk4) ?_
                          refine OW_mv rfl rfl ?_
                          refine OW_loadR hS20 (k := 0) rfl rfl rfl rfl rfl (by first | exact part_whole rfl rfl rfl | rfl) ?_
                          refine OW_env (e' := [_, _, _, _, _, _, _, _, _, _, _, _, _, _, _, _, _, _, _, _, _, _, _, _, _, _, _, _, _, _, _, _, _, _, _, _, _, _, _, _, _, _, _, _, _, _, _, _, _, _, _, _, _, _, _, _, _, _, _, _, _, _, _, _, _, _, _, _, _, _, _, _, _, _, _, _, _, _, _, _, _, _, _, _, _, _, _, _, _, _, _, _, _, _, _, _, _, _, _, _, _, _, _, _, _, _, _, _, _, _, _, _, _, _, _, _, _, _, _, _, _, _, _, _, _, _, _, _, _, _, _, _, _, _, _, _, _, _, _, _, _, _, _, _, _, _]) rfl ?_
                          refine OW_loadR hS20 (k := 1) rfl rfl rfl rfl rfl (by first | exact part_whole rfl rfl rfl | rfl) ?_
                          refine OW_bin rfl rfl rfl rfl (neDuF rfl) ?_
                          refine OW_pick rfl rfl rfl ?_
                          refine OW_nilE (e' := [_, _, _, _, _, _, _, _, _, _, _, _, _, _, _, _, _, _, _, _, _, _, _, _, _, _, _, _, _, _, _, _, _, _, _, _, _, _, _, _, _, _, _, _, _, _, _, _, _, _, _, _, _, _, _, _, _, _, _, _, _, _, _, _, _, _, _, _, _, _, _, _, _, _, _, _, _, _, _, _, _, _, _, _, _, _, _, _, _, _, _, _, _, _, _, _, _, _, _, _, _, _, _, _, _, _, _, _, _, _, _, _, _, _, _, _, _, _, _, _, _, _, _, _, _, _, _, _, _, _, _, _, _, _, _, _, _, _, _, _, _, _, _, _, _, _]) rfl ?_
                          refine XW_no rfl rfl ?_
                          refine XW_skip ?_
                          refine block_norm ?_
                          have hSd15 : Own _ _ _ ([_, _]) := (Own.drop (Own.drop (Own.drop hS20 (k := 0) rfl) (k := 0) rfl) (k := 0) rfl)
                          -- mid 33.15
                          refine ⟨n, D, O, Own.cast (Own.mono (hSd15) (le_lit (ν := ν1) (a := [7, 0, 1, 1, 1, 1, 0, 1, 1, 1, 1, 0, 1, 0]) (b := [1, 1, 1, 1, 1, 0, 1, 0]) (by decide))) (rfl), ?_, env_g rfl⟩
                          · exact ⟨by omega, by omega⟩
                      · first
                        | (exfalso; (try simp only [decide_eq_true_eq, decide_eq_false_iff_not, Bool.not_eq_true', Bool.not_eq_false', Bool.and_eq_true, Bool.or_eq_true, Bool.not_eq_true, Bool.not_eq_false, Decidable.not_not, bne_iff_ne, beq_iff_eq, List.length_append, List.length_cons, List.length_nil, List.length_drop, List.length_take] at h24) <;> (first | omega | contradiction | (cases b <;> contradiction)); done)
                        | skip
                          try simp only [decide_eq_true_eq, decide_eq_false_iff_not, Bool.not_eq_true', Bool.not_eq_false', Bool.and_eq_true, Bool.or_eq_true, Bool.not_eq_true, Bool.not_eq_false, Decidable.not_not, bne_iff_ne, beq_iff_eq, List.length_append, List.length_cons, List.length_nil, List.length_drop, List.length_take] at h24
                          refine XW_sr ?_
                          refine OW_bin rfl rfl rfl rfl rfl ?_
                          refine OW_as rfl rfl ?_
                          refine OW_nilE (e' := [_, _, _, _, _, _, _, _, _, _, _, _, _, _, _, _, _, _, _, _, _, _, _, _, _, _, _, _, _, _, _, _, _, _, _, _, _, _, _, _, _, _, _, _, _, _, _, _, _, _, _, _, _, _, _, _, _, _, _, _, _, _, _, _, _, _, _, _, _, _, _, _, _, _, _, _, _, _, _, _, _, _, _, _, _, _, _, _, _, _, _, _, _, _, _, _, _, _, _, _, _, _, _, _, _, _, _, _, _, _, _, _, _, _, _, _, _, _, _, _, _, _, _, _, _, _, _, _, _, _, _, _, _, _, _, _, _, _, _, _, _, _, _, _, _, _]) rfl ?_
                          refine XW_if rfl (fun h28 => ?_) (fun h28 => ?_)
                          · first
                            | (exfalso; (try simp only [decide_eq_true_eq, decide_eq_false_iff_not, Bool.not_eq_true', Bool.not_eq_false', Bool.and_eq_true, Bool.or_eq_true, Bool.not_eq_true, Bool.not_eq_false, Decidable.not_not, bne_iff_ne, beq_iff_eq, List.length_append, List.length_cons, List.length_nil, List.length_drop, List.length_take] at h28) <;> (first | omega | contradiction | (cases b <;> contradiction)); done)
                            | skip
                              try simp only [decide_eq_true_eq, decide_eq_false_iff_not, Bool.not_eq_true', Bool.not_eq_false', Bool.and_eq_true, Bool.or_eq_true, Bool.not_eq_true, Bool.not_eq_false, Decidable.not_not, bne_iff_ne, beq_iff_eq, List.length_append, List.length_cons, List.length_nil, List.length_drop, List.length_take] at h28
                              refine XW_sr ?_
                              refine OW_mv rfl rfl ?_
                              refine OW_fa rfl rfl rfl ?_
                              refine OW_loadR hS8 (k := 1) rfl rfl rfl rfl rfl (by first | exact part_whole rfl rfl rfl | rfl) ?_
                              refine OW_env (e' := [_, _, _, _, _, _, _, _, _, _, _, _, _, _, _, _, _, _, _, _, _, _, _, _, _, _, _, _, _, _, _, _, _, _, _, _, _, _, _, _, _, _, _, _, _, _, _, _, _, _, _, _, _, _, _, _, _, _, _, _, _, _, _, _, _, _, _, _, _, _, _, _, _, _, _, _, _, _, _, _, _, _, _, _, _, _, _, _, _, _, _, _, _, _, _, _, _, _, _, _, _, _, _, _, _, _, _, _, _, _, _, _, _, _, _, _, _, _, _, _, _, _, _, _, _, _, _, _, _, _, _, _, _, _, _, _, _, _, _, _, _, _, _, _, _, _]) rfl ?_
                              refine OW_fn rfl rfl (r_drop hS8 (k := 2) rfl (le_app (p := 1 :: 1 :: 1 :: 1 :: 0 :: 1 :: 0 :: ν1) (b := [3, 0, 1, 1, 1, 1, 1, 0])) under_nil (before_lit (ν := ν1) (a := [3, 0, 1, 1, 1, 1, 1, 0, 1, 1, 1, 1, 0, 1, 0]) (b := [4, 0, 1, 1, 1, 1, 1, 0, 1, 1, 1, 1, 0, 1, 0]) (by decide)) (by omega) fun O6 H21 hS21 => ?_) 
                              replace hS21 : Own _ _ _ ([_, _, _, _, _]) := hS21
                              refine OW_as rfl rfl ?_
                              refine OW_nilE (e' := [_, _, _, _, _, _, _, _, _, _, _, _, _, _, _, _, _, _, _, _, _, _, _, _, _, _, _, _, _, _, _, _, _, _, _, _, _, _, _, _, _, _, _, _, _, _, _, _, _, _, _, _, _, _, _, _, _, _, _, _, _, _, _, _, _, _, _, _, _, _, _, _, _, _, _, _, _, _, _, _, _, _, _, _, _, _, _, _, _, _, _, _, _, _, _, _, _, _, _, _, _, _, _, _, _, _, _, _, _, _, _, _, _, _, _, _, _, _, _, _, _, _, _, _, _, _, _, _, _, _, _, _, _, _, _, _, _, _, _, _, _, _, _, _, _, _]) rfl ?_
                              refine XW_seq ?_
                              refine XW_sr ?_
                              have hlk := len_keep l[i].wh D
                              refine OW_mv rfl rfl ?_
                              refine OW_fa rfl rfl rfl ?_
                              refine OW_loadR hS21 (k := 2) rfl rfl rfl rfl rfl (by first | exact part_whole rfl rfl rfl | rfl) ?_
                              refine OW_env (e' := [_, _, _, _, _, _, _, _, _, _, _, _, _, _, _, _, _, _, _, _, _, _, _, _, _, _, _, _, _, _, _, _, _, _, _, _, _, _, _, _, _, _, _, _, _, _, _, _, _, _, _, _, _, _, _, _, _, _, _, _, _, _, _, _, _, _, _, _, _, _, _, _, _, _, _, _, _, _, _, _, _, _, _, _, _, _, _, _, _, _, _, _, _, _, _, _, _, _, _, _, _, _, _, _, _, _, _, _, _, _, _, _, _, _, _, _, _, _, _, _, _, _, _, _, _, _, _, _, _, _, _, _, _, _, _, _, _, _, _, _, _, _, _, _, _, _]) rfl ?_
                              refine OW_fn rfl rfl (d_drop hS21 (k := 4) rfl (le_lit (ν := ν1) (a := [4, 0, 1, 1, 1, 1, 1, 0, 1, 1, 1, 1, 0, 1, 0]) (b := [3, 0, 0, 1, 1, 1, 1, 1, 1, 0, 1, 1, 1, 1, 0, 1, 0]) (by decide)) under_nil (before_lit (ν := ν1) (a := [3, 0, 0, 1, 1, 1, 1, 1, 1, 0, 1, 1, 1, 1, 0, 1, 0]) (b := [4, 0, 0, 1, 1, 1, 1, 1, 1, 0, 1, 1, 1, 1, 0, 1, 0]) (by decide)) (by omega) fun H22 hS22 => ?_) 
                              replace hS22 : Own _ _ _ ([_, _, _, _, _]) := hS22
                              refine OW_mv rfl rfl ?_
                              refine OW_lenO hS22 (k := 3) rfl rfl rfl rfl rfl rfl (by first | exact List.length_map _ | exact len_app1 | exact len_drop | (simp only [List.length_append, List.length_map, List.length_singleton, List.length_cons, List.length_nil]; rfl) | rfl) ?_
                              refine OW_env (e' := [_, _, _, _, _, _, _, _, _, _, _, _, _, _, _, _, _, _, _, _, _, _, _, _, _, _, _, _, _, _, _, _, _, _, _, _, _, _, _, _, _, _, _, _, _, _, _, _, _, _, _, _, _, _, _, _, _, _, _, _, _, _, _, _, _, _, _, _, _, _, _, _, _, _, _, _, _, _, _, _, _, _, _, _, _, _, _, _, _, _, _, _, _, _, _, _, _, _, _, _, _, _, _, _, _, _, _, _, _, _, _, _, _, _, _, _, _, _, _, _, _, _, _, _, _, _, _, _, _, _, _, _, _, _, _, _, _, _, _, _, _, _, _, _, _, _]) rfl ?_
                              refine OW_mv rfl rfl ?_
                              refine OW_lenO hS22 (k := 0) rfl rfl rfl rfl rfl rfl (by first | exact List.length_map _ | exact len_app1 | exact len_drop | (simp only [List.length_append, List.length_map, List.length_singleton, List.length_cons, List.length_nil]; rfl) | rfl) ?_
                              first
                              | refine OW_bin rfl rfl rfl rfl (sub_w64 (by first | omega | assumption | (simp only [ByteArray.size_append, ByteArray.size_extract, List.length_map, List.length_append, List.length_cons, List.length_nil, List.length_drop, List.length_take]; omega))) ?_
                              | refine OW_bin rfl rfl rfl rfl rfl ?_
                              refine OW_env (e' := [_, _, _, _, _, _, _, _, _, _, _, _, _, _, _, _, _, _, _, _, _, _, _, _, _, _, _, _, _, _, _, _, _, _, _, _, _, _, _, _, _, _, _, _, _, _, _, _, _, _, _, _, _, _, _, _, _, _, _, _, _, _, _, _, _, _, _, _, _, _, _, _, _, _, _, _, _, _, _, _, _, _, _, _, _, _, _, _, _, _, _, _, _, _, _, _, _, _, _, _, _, _, _, _, _, _, _, _, _, _, _, _, _, _, _, _, _, _, _, _, _, _, _, _, _, _, _, _, _, _, _, _, _, _, _, _, _, _, _, _, _, _, _, _, _, _]) rfl ?_
                              refine OW_bin rfl rfl rfl rfl (neIF rfl) ?_
                              refine OW_nilE (e' := [_, _, _, _, _, _, _, _, _, _, _, _, _, _, _, _, _, _, _, _, _, _, _, _, _, _, _, _, _, _, _, _, _, _, _, _, _, _, _, _, _, _, _, _, _, _, _, _, _, _, _, _, _, _, _, _, _, _, _, _, _, _, _, _, _, _, _, _, _, _, _, _, _, _, _, _, _, _, _, _, _, _, _, _, _, _, _, _, _, _, _, _, _, _, _, _, _, _, _, _, _, _, _, _, _, _, _, _, _, _, _, _, _, _, _, _, _, _, _, _, _, _, _, _, _, _, _, _, _, _, _, _, _, _, _, _, _, _, _, _, _, _, _, _, _, _]) rfl ?_
                              refine XW_no rfl rfl ?_
                              refine XW_skip ?_
                              refine then_norm ?_
                              refine XW_region ?_
                              refine OW_mv rfl rfl ?_
                              refine OW_as rfl rfl ?_
                              refine OW_nilE (e' := [_, _, _, _, _, _, _, _, _, _, _, _, _, _, _, _, _, _, _, _, _, _, _, _, _, _, _, _, _, _, _, _, _, _, _, _, _, _, _, _, _, _, _, _, _, _, _, _, _, _, _, _, _, _, _, _, _, _, _, _, _, _, _, _, _, _, _, _, _, _, _, _, _, _, _, _, _, _, _, _, _, _, _, _, _, _, _, _, _, _, _, _, _, _, _, _, _, _, _, _, _, _, _, _, _, _, _, _, _, _, _, _, _, _, _, _, _, _, _, _, _, _, _, _, _, _, _, _, _, _, _, _, _, _, _, _, _, _, _, _, _, _, _, _, _, _]) rfl ?_
                              refine block_norm ?_
                              have hSd16 : Own _ _ _ ([_, _]) := (Own.drop (Own.drop (Own.drop hS22 (k := 1) rfl) (k := 1) rfl) (k := 1) rfl)
                              -- mid 33.16
                              refine ⟨n, keepD l[i].wh D, O6, Own.cast (Own.mono (hSd16) (le_lit (ν := ν1) (a := [4, 0, 0, 1, 1, 1, 1, 1, 1, 0, 1, 1, 1, 1, 0, 1, 0]) (b := [1, 1, 1, 1, 1, 0, 1, 0]) (by decide))) (rfl), ?_, env_g rfl⟩
                              · exact ⟨by have := len_keep l[i].wh D; omega, by omega⟩
                          · first
                            | (exfalso; (try simp only [decide_eq_true_eq, decide_eq_false_iff_not, Bool.not_eq_true', Bool.not_eq_false', Bool.and_eq_true, Bool.or_eq_true, Bool.not_eq_true, Bool.not_eq_false, Decidable.not_not, bne_iff_ne, beq_iff_eq, List.length_append, List.length_cons, List.length_nil, List.length_drop, List.length_take] at h28) <;> (first | omega | contradiction | (cases b <;> contradiction)); done)
                            | skip
                              try simp only [decide_eq_true_eq, decide_eq_false_iff_not, Bool.not_eq_true', Bool.not_eq_false', Bool.and_eq_true, Bool.or_eq_true, Bool.not_eq_true, Bool.not_eq_false, Decidable.not_not, bne_iff_ne, beq_iff_eq, List.length_append, List.length_cons, List.length_nil, List.length_drop, List.length_take] at h28
                              refine XW_skip ?_
                              refine block_norm ?_
                              have hSd17 : Own _ _ _ ([_, _]) := (Own.drop (Own.drop hS8 (k := 0) rfl) (k := 0) rfl)
                              -- mid 33.17
                              refine ⟨n, D, O, Own.cast (Own.mono (hSd17) (le_app (p := 1 :: 1 :: 1 :: 1 :: 0 :: 1 :: 0 :: ν1) (b := [1]))) (rfl), ?_, env_g rfl⟩
                              · exact ⟨by omega, by omega⟩
            · rintro ee H23 ⟨n, D, O, hS23, ⟨hD3, hn3⟩, g3, rfl⟩
              refine XW_sr ?_
              refine OW_mv rfl rfl ?_
              refine OW_fn rfl rfl (d_many hS23 (k := 1) rfl (le_app (p := 1 :: 1 :: 1 :: 1 :: 1 :: 0 :: 1 :: 0 :: ν1) (b := [1, 0])) under_nil (before_lit (ν := ν1) (a := [1, 0, 1, 1, 1, 1, 1, 0, 1, 0]) (b := [2, 0, 1, 1, 1, 1, 1, 0, 1, 0]) (by decide)) fun H24 hS24 => ?_) 
              replace hS24 : Own _ _ _ ([_, _]) := hS24
              refine OW_mv rfl rfl ?_
              refine OW_env (e' := [_, _, _, _, _, _, _, _, _, _, _, _, _, _, _, _, _, _, _, _, _, _, _, _, _, _, _, _, _, _, _, _, _, _, _, _, _, _, _, _, _, _, _, _, _, _, _, _, _, _, _, _, _, _, _, _, _, _, _, _, _, _, _, _, _, _, _, _, _, _, _, _, _, _, _, _, _, _, _, _, _, _, _, _, _, _, _, _, _, _, _, _, _, _, _, _, _, _, _, _, _, _, _, _, _, _, _, _, _, _, _, _, _, _, _, _, _, _, _, _, _, _, _, _, _, _, _, _, _, _, _, _, _, _, _, _, _, _, _, _, _, _, _, _, _, _]) rfl ?_
              refine OW_lenO hS24 (k := 0) rfl rfl rfl rfl rfl rfl (by first | exact List.length_map _ | exact len_app1 | exact len_drop | (simp only [List.length_append, List.length_map, List.length_singleton, List.length_cons, List.length_nil]; rfl) | rfl) ?_
              refine OW_bin rfl rfl rfl rfl (neIF rfl) ?_
              refine OW_nilE (e' := [_, _, _, _, _, _, _, _, _, _, _, _, _, _, _, _, _, _, _, _, _, _, _, _, _, _, _, _, _, _, _, _, _, _, _, _, _, _, _, _, _, _, _, _, _, _, _, _, _, _, _, _, _, _, _, _, _, _, _, _, _, _, _, _, _, _, _, _, _, _, _, _, _, _, _, _, _, _, _, _, _, _, _, _, _, _, _, _, _, _, _, _, _, _, _, _, _, _, _, _, _, _, _, _, _, _, _, _, _, _, _, _, _, _, _, _, _, _, _, _, _, _, _, _, _, _, _, _, _, _, _, _, _, _, _, _, _, _, _, _, _, _, _, _, _, _]) rfl ?_
              refine XW_no rfl rfl ?_
              refine XW_skip ?_
              refine block_norm ?_
              refine then_norm ?_
              refine XW_region ?_
              refine OW_mv rfl rfl ?_
              first
              | refine OW_bin rfl rfl rfl rfl (add_w64 (by first | omega | assumption | (simp only [ByteArray.size_append, ByteArray.size_extract, List.length_map, List.length_append, List.length_cons, List.length_nil, List.length_drop, List.length_take]; omega))) ?_
              | refine OW_bin rfl rfl rfl rfl rfl ?_
              refine OW_as rfl rfl ?_
              refine OW_nilE (e' := [_, _, _, _, _, _, _, _, _, _, _, _, _, _, _, _, _, _, _, _, _, _, _, _, _, _, _, _, _, _, _, _, _, _, _, _, _, _, _, _, _, _, _, _, _, _, _, _, _, _, _, _, _, _, _, _, _, _, _, _, _, _, _, _, _, _, _, _, _, _, _, _, _, _, _, _, _, _, _, _, _, _, _, _, _, _, _, _, _, _, _, _, _, _, _, _, _, _, _, _, _, _, _, _, _, _, _, _, _, _, _, _, _, _, _, _, _, _, _, _, _, _, _, _, _, _, _, _, _, _, _, _, _, _, _, _, _, _, _, _, _, _, _, _, _, _]) rfl ?_
              -- round 0.1
              refine ⟨_, ?_, i + 1, n, D, O, rfl, under_in hU1, Own.cast (Own.mono (hS24) (le_lit (ν := ν1) (a := [2, 0, 1, 1, 1, 1, 1, 0, 1, 0]) (b := [1]) (by decide))) (rfl), ?_, env_g rfl⟩
              · first | omega | (simp; omega)
              · exact ⟨by omega, by omega, by omega, by omega⟩
      · first
        | (exfalso; (try simp only [decide_eq_true_eq, decide_eq_false_iff_not, Bool.not_eq_true', Bool.not_eq_false', Bool.and_eq_true, Bool.or_eq_true, Bool.not_eq_true, Bool.not_eq_false, Decidable.not_not, bne_iff_ne, beq_iff_eq, List.length_append, List.length_cons, List.length_nil, List.length_drop, List.length_take] at h4) <;> (first | omega | contradiction | (cases b <;> contradiction)); done)
        | skip
          try simp only [decide_eq_true_eq, decide_eq_false_iff_not, Bool.not_eq_true', Bool.not_eq_false', Bool.and_eq_true, Bool.or_eq_true, Bool.not_eq_true, Bool.not_eq_false, Decidable.not_not, bne_iff_ne, beq_iff_eq, List.length_append, List.length_cons, List.length_nil, List.length_drop, List.length_take] at h4
          refine XW_exit ?_
          refine then_exit ?_
          refine block_exit ?_
          refine then_norm ?_
          refine XW_sr ?_
          refine OW_fn rfl rfl (fixedW (by kernel_rfl) ?_) 
          refine OW_as rfl rfl ?_
          refine OW_nilE (e' := [_, _, _, _, _, _, _, _, _, _, _, _, _, _, _, _, _, _, _, _, _, _, _, _, _, _, _, _, _, _, _, _, _, _, _, _, _, _, _, _, _, _, _, _, _, _, _, _, _, _, _, _, _, _, _, _, _, _, _, _, _, _, _, _, _, _, _, _, _, _, _, _, _, _, _, _, _, _, _, _, _, _, _, _, _, _, _, _, _, _, _, _, _, _, _, _, _, _, _, _, _, _, _, _, _, _, _, _, _, _, _, _, _, _, _, _, _, _, _, _, _, _, _, _, _, _, _, _, _, _, _, _, _, _, _, _, _, _, _, _, _, _, _, _, _, _]) rfl ?_
          refine XW_ret ?_
          -- outcome 1
          refine ret_ret (res1 rfl (rv_tmp rfl)) (frz1 (Q := Q) (by first | exact freeze_plain rfl | exact Ls.freeze (by assumption) | exact Ls.freeze Ls.of | exact Ls.freeze Ls.emp | exact Ls.freeze Ls.nls) ?_)
          first
          | exact hq
          | (refine qcast hq ?_; rfl)
          | (refine qcast hq ?_; simp; done)
          | (refine qcast hq ?_; simp; omega)
          | (refine qcast hq ?_; simp_all; done)
  · first
    | (exfalso; (try simp only [decide_eq_true_eq, decide_eq_false_iff_not, Bool.not_eq_true', Bool.not_eq_false', Bool.and_eq_true, Bool.or_eq_true, Bool.not_eq_true, Bool.not_eq_false, Decidable.not_not, bne_iff_ne, beq_iff_eq, List.length_append, List.length_cons, List.length_nil, List.length_drop, List.length_take] at g4_5) <;> (first | omega | contradiction | (cases b <;> contradiction)); done)
    | skip
      try simp only [decide_eq_true_eq, decide_eq_false_iff_not, Bool.not_eq_true', Bool.not_eq_false', Bool.and_eq_true, Bool.or_eq_true, Bool.not_eq_true, Bool.not_eq_false, Decidable.not_not, bne_iff_ne, beq_iff_eq, List.length_append, List.length_cons, List.length_nil, List.length_drop, List.length_take] at g4_5
      refine OW_env (e' := [_, _, _, _, _, _, _, _, _, _, _, _, _, _, _, _, _, _, _, _, _, _, _, _, _, _, _, _, _, _, _, _, _, _, _, _, _, _, _, _, _, _, _, _, _, _, _, _, _, _, _, _, _, _, _, _, _, _, _, _, _, _, _, _, _, _, _, _, _, _, _, _, _, _, _, _, _, _, _, _, _, _, _, _, _, _, _, _, _, _, _, _, _, _, _, _, _, _, _, _, _, _, _, _, _, _, _, _, _, _, _, _, _, _, _, _, _, _, _, _, _, _, _, _, _, _, _, _, _, _, _, _, _, _, _, _, _, _, _, _, _, _, _, _, _, _]) rfl ?_
      refine OW_no rfl ?_
      refine OW_no rfl ?_
      refine OW_pick rfl rfl rfl ?_
      refine OW_nilE (e' := [_, _, _, _, _, _, _, _, _, _, _, _, _, _, _, _, _, _, _, _, _, _, _, _, _, _, _, _, _, _, _, _, _, _, _, _, _, _, _, _, _, _, _, _, _, _, _, _, _, _, _, _, _, _, _, _, _, _, _, _, _, _, _, _, _, _, _, _, _, _, _, _, _, _, _, _, _, _, _, _, _, _, _, _, _, _, _, _, _, _, _, _, _, _, _, _, _, _, _, _, _, _, _, _, _, _, _, _, _, _, _, _, _, _, _, _, _, _, _, _, _, _, _, _, _, _, _, _, _, _, _, _, _, _, _, _, _, _, _, _, _, _, _, _, _, _]) rfl ?_
      refine XW_no rfl rfl ?_
      refine XW_exit ?_
      refine then_exit ?_
      refine block_exit ?_
      refine then_norm ?_
      refine XW_sr ?_
      refine OW_fn rfl rfl (fixedW (by kernel_rfl) ?_) 
      refine OW_as rfl rfl ?_
      refine OW_nilE (e' := [_, _, _, _, _, _, _, _, _, _, _, _, _, _, _, _, _, _, _, _, _, _, _, _, _, _, _, _, _, _, _, _, _, _, _, _, _, _, _, _, _, _, _, _, _, _, _, _, _, _, _, _, _, _, _, _, _, _, _, _, _, _, _, _, _, _, _, _, _, _, _, _, _, _, _, _, _, _, _, _, _, _, _, _, _, _, _, _, _, _, _, _, _, _, _, _, _, _, _, _, _, _, _, _, _, _, _, _, _, _, _, _, _, _, _, _, _, _, _, _, _, _, _, _, _, _, _, _, _, _, _, _, _, _, _, _, _, _, _, _, _, _, _, _, _, _]) rfl ?_
      refine XW_ret ?_
      -- outcome 2
      refine ret_ret (res1 rfl (rv_tmp rfl)) (frz1 (Q := Q) (by first | exact freeze_plain rfl | exact Ls.freeze (by assumption) | exact Ls.freeze Ls.of | exact Ls.freeze Ls.emp | exact Ls.freeze Ls.nls) ?_)
      first
      | exact hq
      | (refine qcast hq ?_; rfl)
      | (refine qcast hq ?_; simp; done)
      | (refine qcast hq ?_; simp; omega)
      | (refine qcast hq ?_; simp_all; done)
end Go.Proofs.Ytamdokgbenbndaa.X
