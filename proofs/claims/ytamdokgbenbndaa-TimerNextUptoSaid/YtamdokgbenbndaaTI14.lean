/- Layer 20: queues by dues alone; Without and Drop of the document's answer. -/
import Derived.Test.YtamdokgbenbndaaTI13
set_option linter.unusedVariables false
set_option linter.unusedSimpArgs false
set_option maxRecDepth 100000
namespace Go.Proofs.Ytamdokgbenbndaa.X
open Go Go.RowKit
variable {ν β ps pos' : Nm} {H : Heap} {Q : AVal → Heap → Prop} {L : List Asr} {k : Nat} {q : Nm} {D : List Du} {n : Int}
def dq (q : Nm) (D : List Du) (n : Int) : Asr := Asr.ex fun B : {B : List It // B.map It.due = D} => tq q B.1 n
theorem Own.un_dq (h0 : Own β ps H L) (hL : L[k]? = some (dq q D n)) : ∃ B : List It, B.map It.due = D ∧ Own β ps H (tq q B n :: L.eraseIdx k) := by
  obtain ⟨⟨B, hB⟩, h1⟩ := Own.un_ex (h0.pick hL)
  exact ⟨B, hB, h1⟩
theorem Own.mk_dq {B : List It} {D' : List Du} {n' : Int} (h0 : Own β ps H (tq q B n' :: L.eraseIdx k)) (hB : B.map It.due = D') (hL : L[k]? = some (dq q D n)) : Own β ps H (L.set k (dq q D' n')) :=
  Own.unpick (Own.mk_ex (f := fun B : {B : List It // B.map It.due = D'} => tq q B.1 n') ⟨B, hB⟩ h0) hL
theorem Own.mk_dqs {B : List It} (h0 : Own β ps H (tq q B n :: L.eraseIdx k)) (hB : B.map It.due = D) (hL : L[k]? = some (dq q D n)) : Own β ps H L := (Own.mk_dq h0 hB hL).cast (set_get_self hL)
theorem d_new (hS : Own β ps H L) (hle : le ps ν) (hβ : under β ν = true) (hp : before ν pos') (hq : ∀ H1 q, Own β pos' H1 (dq q [] 0 :: L) → Q (.ptr q 0 0) H1) : CW cfg ν 8 [] H Q :=
  t_new hS hle hβ hp fun H1 q h1 => hq H1 q (Own.mk_ex (f := fun B : {B : List It // B.map It.due = []} => tq q B.1 0) ⟨[], rfl⟩ h1)
section
variable (hS : Own β ps H L) (hL : L[k]? = some (dq q D n)) (hle : le ps ν) (hβ : under β ν = true) (hp : before ν pos')
include hS hL hle hβ hp
theorem d_add {a : Int} {w : ByteArray} (hn : 0 ≤ n ∧ n ≤ 4611686018427387904) (hb : D.length < 4096) (hq : ∀ H1, Own β pos' H1 (L.set k (dq q (D ++ [⟨a, w⟩]) (n + 1))) → Q (.bool true) H1) : CW cfg ν 9 [.ptr q 0 0, .int .u64 a, .str w] H Q := by
  obtain ⟨B, hB, h1⟩ := hS.un_dq hL
  have hl : B.length = D.length := by rw [← hB, List.length_map]
  exact t_add h1 (k := 0) rfl hle hβ hp hn (by omega) fun H1 h3 => hq H1 (Own.mk_dq h3 (by rw [List.map_append, hB]; rfl) hL)
theorem d_many (hq : ∀ H1, Own β pos' H1 L → Q (.int .i64 D.length) H1) : CW cfg ν 11 [.ptr q 0 0] H Q := by
  obtain ⟨B, hB, h1⟩ := hS.un_dq hL
  have hl : B.length = D.length := by rw [← hB, List.length_map]
  exact t_many h1 (k := 0) rfl hle hβ hp fun H1 h3 => by rw [hl]; exact hq H1 (Own.mk_dqs h3 hB hL)
theorem d_next {d : Du} {b : Bool} (hr : nxtD D = (d, b)) (hq : ∀ H1, Own β pos' H1 L → Q (.tup [d.enc, .bool b]) H1) : CW cfg ν 12 [.ptr q 0 0] H Q := by
  obtain ⟨B, hB, h1⟩ := hS.un_dq hL
  refine t_next h1 (k := 0) rfl hle hβ hp fun H1 h3 => ?_
  rw [nxtB_D, hB, hr]
  exact hq H1 (Own.mk_dqs h3 hB hL)
theorem d_pop {now : Int} {d : Du} {b : Bool} {D' : List Du} (hl : D.length ≤ 4294960000) (hr : popD D now = ((d, b), D')) (hq : ∀ H1, Own β pos' H1 (L.set k (dq q D' n)) → Q (.tup [d.enc, .bool b]) H1) : CW cfg ν 10 [.ptr q 0 0, .int .u64 now] H Q := by
  obtain ⟨B, hB, h1⟩ := hS.un_dq hL
  have hl2 : B.length = D.length := by rw [← hB, List.length_map]
  obtain ⟨h4, h5⟩ := popB_D B now
  rw [hB, hr] at h4 h5
  refine t_pop h1 (k := 0) rfl hle hβ hp (by omega) fun H1 h3 => ?_
  rw [h4]
  exact hq H1 (Own.mk_dq h3 h5 hL)
theorem d_drop {w : ByteArray} (hl : D.length ≤ 4294960000) (hq : ∀ H1, Own β pos' H1 (L.set k (dq q (keepD w D) n)) → Q (.int .i64 ((D.length : Int) - (keepD w D).length)) H1) : CW cfg ν 17 [.ptr q 0 0, .str w] H Q := by
  obtain ⟨B, hB, h1⟩ := hS.un_dq hL
  have hl2 : B.length = D.length := by rw [← hB, List.length_map]
  have h4 : (dropL B w).map It.due = keepD w D := by
    rw [← hB, keepD, List.filter_map]; rfl
  have h5 : (dropL B w).length = (keepD w D).length := by rw [← h4, List.length_map]
  refine t_drop h1 (k := 0) rfl hle hβ hp (by omega) fun H1 h3 => ?_
  rw [hl2, h5]
  exact hq H1 (Own.mk_dq h3 h4 hL)
theorem early_c {now : Int} {d : Du} {b : Bool} {D' : List Du} (hl : D.length ≤ 4294960000) (hr : popD D now = ((d, b), D')) (hq : ∀ H1, Own β pos' H1 (L.set k (dq q D' n)) → Q (.bool b) H1) : CW cfg ν 13 [.ptr q 0 0, .int .u64 now] H Q := by
  replace hS := hS.pick hL
  refine CW_keep g13 F13 rfl ?_
  replace hS := Own.mono hS hle
  refine XW_sr ?_
  refine OW_as rfl rfl ?_
  refine OW_nilE (e' := [_, _, _, _, _, _, _, _, _, _, _, _, _, _]) rfl ?_
  refine XW_sr ?_
  refine OW_mv rfl rfl ?_
  refine OW_mv rfl rfl ?_
  refine OW_fn rfl rfl (d_pop hS (k := 0) rfl (le_app (p := ν) (b := [2, 0, 1])) (under_app [2, 0, 1] hβ) (before_lit (ν := ν) (a := [2, 0, 1]) (b := [3, 0, 1]) (by decide)) hl hr fun H1 hS1 => ?_) 
  replace hS1 : Own _ _ _ (_ :: L.eraseIdx k) := hS1
  refine OW_env (e' := [_, _, _, _, _, _, _, _, _, _, _, _, _, _]) rfl ?_
  refine OW_mv rfl rfl ?_
  refine OW_ex rfl rfl rfl ?_
  refine OW_ex rfl rfl rfl ?_
  refine OW_env (e' := [_, _, _, _, _, _, _, _, _, _, _, _, _, _]) rfl ?_
  refine OW_allocR hS1 (le_lit (ν := ν) (a := [3, 0, 1]) (b := [6, 0, 1]) (by decide)) (under_app [6, 0, 1] hβ) rfl rfl rfl rfl fun H2 hS2 => ?_
  replace hS2 : Own _ _ _ (_ :: _ :: L.eraseIdx k) := hS2
  first
  | refine OW_storeR hS2 (k := 0) rfl le_refl rfl rfl rfl rfl ⟨rfl, rfl, Nat.le_of_ble_eq_true rfl⟩ (set_whole rfl rfl) fun H3 hS3 => ?_
  | refine OW_storeR hS2 (k := 0) rfl le_refl rfl rfl rfl rfl ⟨rfl, rfl, Nat.le_of_ble_eq_true rfl⟩ (u2 := .agg [_, _]) rfl fun H3 hS3 => ?_
  replace hS3 : Own _ _ _ (_ :: _ :: L.eraseIdx k) := hS3
  refine OW_as rfl rfl ?_
  refine OW_nilE (e' := [_, _, _, _, _, _, _, _, _, _, _, _, _, _]) rfl ?_
  refine XW_sr ?_
  refine OW_mv rfl rfl ?_
  refine OW_as rfl rfl ?_
  refine OW_nilE (e' := [_, _, _, _, _, _, _, _, _, _, _, _, _, _]) rfl ?_
  refine XW_ret ?_
  -- outcome 1
  refine ret_ret (res1 rfl (rv_tmp rfl)) ?_
  exact hq _ (Own.unpick (Own.drop0 (Own.mono hS3 (le_bef (bef_app (a := [8, 0, 1]) hp)))) hL)
end
theorem erase_take {α : Type} {l : List α} {i j : Nat} (hi : i < l.length) : (l.take (i + 1)).eraseIdx j = if i = j then (l.take i).eraseIdx j else (l.take i).eraseIdx j ++ [l[i]] := by
  rw [List.take_succ_eq_append_getElem hi]
  have hl : (l.take i).length = i := by rw [List.length_take]; omega
  by_cases h : i = j
  · subst h
    rw [if_pos rfl, List.eraseIdx_append_of_length_le (by omega), hl, Nat.sub_self, List.eraseIdx_of_length_le (l := l.take i) (by omega)]
    show l.take i ++ [] = _
    rw [List.append_nil]
  · rw [if_neg h]
    rcases Nat.lt_or_gt_of_ne h with h1 | h1
    · rw [List.eraseIdx_of_length_le (by simp; omega), List.eraseIdx_of_length_le (by omega)]
    · rw [List.eraseIdx_append_of_lt_length (by omega)]
theorem Own.put2 {X a : Asr} (h : Own β ps H (X :: a :: L.eraseIdx k)) (hL : L[k]? = some a) : Own β ps H (X :: L) :=
  (Own.unpick (L := X :: L) (k := k + 1) (Own.rot (A := [_]) h) (by simpa using hL)).cast (set_get_self (by simpa using hL))
theorem r_without {O : AVal} {l : List Du} {j : Nat} (hS : Own β ps H L) (hL : L[k]? = some (sl O 2 (l.map Du.enc))) (hle : le ps ν) (hβ : under β ν = true) (hp : before ν pos') (hn : l.length ≤ 4294960000)
    (hq : ∀ v H1, Own β pos' H1 (sl v 2 ((l.eraseIdx j).map Du.enc) :: L) → Q v H1) : CW cfg ν 15 [O, .int .i64 j] H Q := by
  replace hS := hS.pick hL
  refine CW_keep g15 F15 rfl ?_
  replace hS := Own.mono hS hle
  refine XW_sr ?_
  refine OW_as rfl rfl ?_
  refine OW_nilE (e' := [_, _, _, _, _, _, _, _, _, _, _, _, _, _, _, _, _, _, _, _, _, _, _, _, _]) rfl ?_
  refine XW_sr ?_
  refine OW_bs rfl rfl rfl ?_
  refine OW_as rfl rfl ?_
  refine OW_nilE (e' := [_, _, _, _, _, _, _, _, _, _, _, _, _, _, _, _, _, _, _, _, _, _, _, _, _]) rfl ?_
  refine XW_seq ?_
  refine XW_sr ?_
  refine OW_as rfl rfl ?_
  refine OW_nilE (e' := [_, _, _, _, _, _, _, _, _, _, _, _, _, _, _, _, _, _, _, _, _, _, _, _, _]) rfl ?_
  refine XW_block ?_
  refine XW_whileN (I := fun ν' mm ee H' => ∃ (i : Nat) (O2 : AVal), mm = l.length - i ∧ under (1 :: 0 :: 1 :: 1 :: ν) ν' = true ∧ Own β ν' H' (sl O2 2 (((l.take i).eraseIdx j).map Du.enc) :: sl O 2 (l.map Du.enc) :: L.eraseIdx k) ∧ (i ≤ l.length) ∧ ∃ g : Nat → AVal, ee = [O, .int .i64 j, g 2, g 3, g 4, O2, .int .i64 i, g 7, g 8, g 9, g 10, g 11, g 12, g 13, g 14, g 15, g 16, g 17, g 18, g 19, g 20, g 21, g 22, g 23, g 24]) ?_ _ _ _ _ ⟨0, .emp, rfl, under_me, Own.cast (Own.mono (hS.addE (w := 2)) (le_app (p := ν) (b := [1, 0, 1, 1]))) (by simp), (by omega), env_g rfl⟩
  rintro ν1 mm ee H1 ⟨i, O2, rfl, hU1, hS1, hi, g1, rfl⟩
  refine XW_seq ?_
  refine XW_sr ?_
  refine OW_mv rfl rfl ?_
  refine OW_mv rfl rfl ?_
  refine OW_lenO hS1 (k := 1) rfl rfl rfl rfl rfl rfl (by first | exact List.length_map _ | exact len_app1 | exact len_drop | (simp only [List.length_append, List.length_map, List.length_singleton, List.length_cons, List.length_nil]; rfl) | rfl) ?_
  refine OW_env (e' := [_, _, _, _, _, _, _, _, _, _, _, _, _, _, _, _, _, _, _, _, _, _, _, _, _]) rfl ?_
  refine OW_bin rfl rfl rfl rfl rfl ?_
  refine OW_nilE (e' := [_, _, _, _, _, _, _, _, _, _, _, _, _, _, _, _, _, _, _, _, _, _, _, _, _]) rfl ?_
  refine XW_if rfl (fun h3 => ?_) (fun h3 => ?_)
  · try simp only [decide_eq_true_eq, decide_eq_false_iff_not, Bool.not_eq_true', Bool.not_eq_false', Bool.and_eq_true, Bool.or_eq_true, Bool.not_eq_true, Bool.not_eq_false, Decidable.not_not, bne_iff_ne, beq_iff_eq, List.length_append, List.length_cons, List.length_nil, List.length_drop, List.length_take] at h3
    refine XW_skip ?_
    refine then_norm ?_
    refine XW_seq ?_
    refine XW_block ?_
    refine XW_sr ?_
    have hel := List.length_eraseIdx_le (l.take i) j; have htl := List.length_take_le i l
    refine OW_mv rfl rfl ?_
    refine OW_mv rfl rfl ?_
    refine OW_bin rfl rfl rfl rfl rfl ?_
    refine OW_nilE (e' := [_, _, _, _, _, _, _, _, _, _, _, _, _, _, _, _, _, _, _, _, _, _, _, _, _]) rfl ?_
    refine XW_if rfl (fun h5 => ?_) (fun h5 => ?_)
    · try simp only [decide_eq_true_eq, decide_eq_false_iff_not, Bool.not_eq_true', Bool.not_eq_false', Bool.and_eq_true, Bool.or_eq_true, Bool.not_eq_true, Bool.not_eq_false, Decidable.not_not, bne_iff_ne, beq_iff_eq, List.length_append, List.length_cons, List.length_nil, List.length_drop, List.length_take] at h5
      refine XW_region ?_
      refine OW_mv rfl rfl ?_
      refine OW_mv rfl rfl ?_
      refine OW_mv rfl rfl ?_
      refine OW_env (e' := [_, _, _, _, _, _, _, _, _, _, _, _, _, _, _, _, _, _, _, _, _, _, _, _, _]) rfl ?_
      refine OW_iaO hS1 (k := 1) rfl rfl rfl rfl rfl rfl rfl rfl (by first | rfl | exact (Int.toNat_of_nonneg (by omega)).symm) (by first | assumption | exact at_map (by first | assumption | omega) | exact at_lst (by omega) | rfl) fun q1 ys1 hO1 hq1 ht1 hy1 hu1 => ?_
      subst hO1
      refine OW_loadP rfl rfl hq1 hy1 rfl (by first | exact part_whole rfl rfl rfl | rfl) ?_
      refine OW_bs rfl rfl (v := .lst [_]) rfl ?_
      refine OW_env (e' := [_, _, _, _, _, _, _, _, _, _, _, _, _, _, _, _, _, _, _, _, _, _, _, _, _]) rfl ?_
      refine OW_app hS1 (k := 0) rfl (le_app (p := ν1) (b := [6, 1, 0, 1, 0])) (under_app [6, 1, 0, 1, 0] (under_trans (under_app [1, 0, 1, 1] hβ) hU1)) rfl rfl rfl rfl rfl rfl rfl rfl (by first | rfl | exact Ls.elems (by assumption)) (by first | exact one_wide rfl | exact map_wide (fun _ => rfl) | assumption | (intro y hy; simp at hy; done)) (by first | omega | (simp only [List.length_map, List.length_append, List.length_singleton, List.length_cons, List.length_nil, List.length_take, List.length_drop]; omega) | (simp; omega)) (by decide) fun O1 H2 hS2 => ?_
      replace hS2 : Own _ _ _ (_ :: _ :: L.eraseIdx k) := hS2
      refine OW_as rfl rfl ?_
      refine OW_nilE (e' := [_, _, _, _, _, _, _, _, _, _, _, _, _, _, _, _, _, _, _, _, _, _, _, _, _]) rfl ?_
      refine block_norm ?_
      refine then_norm ?_
      refine XW_region ?_
      refine OW_mv rfl rfl ?_
      first
      | refine OW_bin rfl rfl rfl rfl (add_w64 (by first | omega | assumption | (simp only [ByteArray.size_append, ByteArray.size_extract, List.length_map, List.length_append, List.length_cons, List.length_nil, List.length_drop, List.length_take]; omega))) ?_
      | refine OW_bin rfl rfl rfl rfl rfl ?_
      refine OW_as rfl rfl ?_
      refine OW_nilE (e' := [_, _, _, _, _, _, _, _, _, _, _, _, _, _, _, _, _, _, _, _, _, _, _, _, _]) rfl ?_
      -- round 0.1
      refine ⟨_, ?_, i + 1, O1, rfl, under_in hU1, Own.cast (Own.mono (hS2) (le_lit (ν := ν1) (a := [7, 1, 0, 1, 0]) (b := [1]) (by decide))) (by rw [erase_take (by omega)]; first | (rw [if_pos (by omega)]) | (rw [if_neg (by omega), List.map_append]; rfl)), ?_, env_g rfl⟩
      · first | omega | (simp; omega)
      · omega
    · try simp only [decide_eq_true_eq, decide_eq_false_iff_not, Bool.not_eq_true', Bool.not_eq_false', Bool.and_eq_true, Bool.or_eq_true, Bool.not_eq_true, Bool.not_eq_false, Decidable.not_not, bne_iff_ne, beq_iff_eq, List.length_append, List.length_cons, List.length_nil, List.length_drop, List.length_take] at h5
      refine XW_skip ?_
      refine block_norm ?_
      refine then_norm ?_
      refine XW_region ?_
      refine OW_mv rfl rfl ?_
      first
      | refine OW_bin rfl rfl rfl rfl (add_w64 (by first | omega | assumption | (simp only [ByteArray.size_append, ByteArray.size_extract, List.length_map, List.length_append, List.length_cons, List.length_nil, List.length_drop, List.length_take]; omega))) ?_
      | refine OW_bin rfl rfl rfl rfl rfl ?_
      refine OW_as rfl rfl ?_
      refine OW_nilE (e' := [_, _, _, _, _, _, _, _, _, _, _, _, _, _, _, _, _, _, _, _, _, _, _, _, _]) rfl ?_
      -- round 0.2
      refine ⟨_, ?_, i + 1, O2, rfl, under_in hU1, Own.cast (Own.mono (hS1) (le_app (p := ν1) (b := [1]))) (by rw [erase_take (by omega)]; first | (rw [if_pos (by omega)]) | (rw [if_neg (by omega), List.map_append]; rfl)), ?_, env_g rfl⟩
      · first | omega | (simp; omega)
      · omega
  · try simp only [decide_eq_true_eq, decide_eq_false_iff_not, Bool.not_eq_true', Bool.not_eq_false', Bool.and_eq_true, Bool.or_eq_true, Bool.not_eq_true, Bool.not_eq_false, Decidable.not_not, bne_iff_ne, beq_iff_eq, List.length_append, List.length_cons, List.length_nil, List.length_drop, List.length_take] at h3
    refine XW_exit ?_
    refine then_exit ?_
    refine block_exit ?_
    refine then_norm ?_
    refine XW_sr ?_
    refine OW_mv rfl rfl ?_
    refine OW_as rfl rfl ?_
    refine OW_nilE (e' := [_, _, _, _, _, _, _, _, _, _, _, _, _, _, _, _, _, _, _, _, _, _, _, _, _]) rfl ?_
    refine XW_ret ?_
    -- outcome 1
    refine ret_ret (res1 rfl (rv_tmp rfl)) ?_
    rw [List.take_of_length_le (by omega)] at hS1
    exact hq _ _ (Own.put2 (Own.mono hS1 (le_bef (bef_under (a := []) hU1 (bef_app (a := [1, 0, 1, 1]) hp)))) hL)
theorem r_drop {O : AVal} {l : List Du} {w : ByteArray} (hS : Own β ps H L) (hL : L[k]? = some (sl O 2 (l.map Du.enc))) (hle : le ps ν) (hβ : under β ν = true) (hp : before ν pos') (hn : l.length ≤ 4294960000)
    (hq : ∀ v H1, Own β pos' H1 (sl v 2 ((keepD w l).map Du.enc) :: L) → Q v H1) : CW cfg ν 16 [O, .str w] H Q := by
  replace hS := hS.pick hL
  refine CW_keep g16 F16 rfl ?_
  replace hS := Own.mono hS hle
  refine XW_sr ?_
  refine OW_as rfl rfl ?_
  refine OW_nilE (e' := [_, _, _, _, _, _, _, _, _, _, _, _, _, _, _, _, _, _, _, _, _, _, _, _, _, _, _, _, _]) rfl ?_
  refine XW_sr ?_
  refine OW_bs rfl rfl rfl ?_
  refine OW_as rfl rfl ?_
  refine OW_nilE (e' := [_, _, _, _, _, _, _, _, _, _, _, _, _, _, _, _, _, _, _, _, _, _, _, _, _, _, _, _, _]) rfl ?_
  refine XW_seq ?_
  refine XW_sr ?_
  refine OW_as rfl rfl ?_
  refine OW_nilE (e' := [_, _, _, _, _, _, _, _, _, _, _, _, _, _, _, _, _, _, _, _, _, _, _, _, _, _, _, _, _]) rfl ?_
  refine XW_block ?_
  refine XW_whileN (I := fun ν' mm ee H' => ∃ (i : Nat) (O2 : AVal), mm = l.length - i ∧ under (1 :: 0 :: 1 :: 1 :: ν) ν' = true ∧ Own β ν' H' (sl O2 2 ((keepD w (l.take i)).map Du.enc) :: sl O 2 (l.map Du.enc) :: L.eraseIdx k) ∧ (i ≤ l.length) ∧ ∃ g : Nat → AVal, ee = [O, .str w, g 2, g 3, g 4, O2, .int .i64 i, g 7, g 8, g 9, g 10, g 11, g 12, g 13, g 14, g 15, g 16, g 17, g 18, g 19, g 20, g 21, g 22, g 23, g 24, g 25, g 26, g 27, g 28]) ?_ _ _ _ _ ⟨0, .emp, rfl, under_me, Own.cast (Own.mono (hS.addE (w := 2)) (le_app (p := ν) (b := [1, 0, 1, 1]))) (by simp [keepD]), (by omega), env_g rfl⟩
  rintro ν1 mm ee H1 ⟨i, O2, rfl, hU1, hS1, hi, g1, rfl⟩
  refine XW_seq ?_
  refine XW_sr ?_
  refine OW_mv rfl rfl ?_
  refine OW_mv rfl rfl ?_
  refine OW_lenO hS1 (k := 1) rfl rfl rfl rfl rfl rfl (by first | exact List.length_map _ | exact len_app1 | exact len_drop | (simp only [List.length_append, List.length_map, List.length_singleton, List.length_cons, List.length_nil]; rfl) | rfl) ?_
  refine OW_env (e' := [_, _, _, _, _, _, _, _, _, _, _, _, _, _, _, _, _, _, _, _, _, _, _, _, _, _, _, _, _]) rfl ?_
  refine OW_bin rfl rfl rfl rfl rfl ?_
  refine OW_nilE (e' := [_, _, _, _, _, _, _, _, _, _, _, _, _, _, _, _, _, _, _, _, _, _, _, _, _, _, _, _, _]) rfl ?_
  refine XW_if rfl (fun h3 => ?_) (fun h3 => ?_)
  · try simp only [decide_eq_true_eq, decide_eq_false_iff_not, Bool.not_eq_true', Bool.not_eq_false', Bool.and_eq_true, Bool.or_eq_true, Bool.not_eq_true, Bool.not_eq_false, Decidable.not_not, bne_iff_ne, beq_iff_eq, List.length_append, List.length_cons, List.length_nil, List.length_drop, List.length_take] at h3
    refine XW_skip ?_
    refine then_norm ?_
    refine XW_seq ?_
    refine XW_block ?_
    refine XW_sr ?_
    have hel : (keepD w (l.take i)).length ≤ l.length := Nat.le_trans (List.length_filter_le _ _) (List.length_take_le' i l)
    refine OW_mv rfl rfl ?_
    refine OW_mv rfl rfl ?_
    refine OW_iaO hS1 (k := 1) rfl rfl rfl rfl rfl rfl rfl rfl (by first | rfl | exact (Int.toNat_of_nonneg (by omega)).symm) (by first | assumption | exact at_map (by first | assumption | omega) | exact at_lst (by omega) | rfl) fun q1 ys1 hO1 hq1 ht1 hy1 hu1 => ?_
    subst hO1
    refine OW_env (e' := [_, _, _, _, _, _, _, _, _, _, _, _, _, _, _, _, _, _, _, _, _, _, _, _, _, _, _, _, _]) rfl ?_
    refine OW_fa rfl rfl rfl ?_
    refine OW_loadP rfl rfl hq1 hy1 rfl (by first | exact part_whole rfl rfl rfl | rfl) ?_
    refine OW_mv rfl rfl ?_
    refine OW_env (e' := [_, _, _, _, _, _, _, _, _, _, _, _, _, _, _, _, _, _, _, _, _, _, _, _, _, _, _, _, _]) rfl ?_
    refine OW_bin rfl rfl rfl rfl rfl ?_
    refine OW_nilE (e' := [_, _, _, _, _, _, _, _, _, _, _, _, _, _, _, _, _, _, _, _, _, _, _, _, _, _, _, _, _]) rfl ?_
    refine XW_if rfl (fun h5 => ?_) (fun h5 => ?_)
    · try simp only [decide_eq_true_eq, decide_eq_false_iff_not, Bool.not_eq_true', Bool.not_eq_false', Bool.and_eq_true, Bool.or_eq_true, Bool.not_eq_true, Bool.not_eq_false, Decidable.not_not, bne_iff_ne, beq_iff_eq, List.length_append, List.length_cons, List.length_nil, List.length_drop, List.length_take] at h5
      refine XW_region ?_
      refine OW_mv rfl rfl ?_
      refine OW_mv rfl rfl ?_
      refine OW_mv rfl rfl ?_
      refine OW_env (e' := [_, _, _, _, _, _, _, _, _, _, _, _, _, _, _, _, _, _, _, _, _, _, _, _, _, _, _, _, _]) rfl ?_
      refine OW_iaO hS1 (k := 1) rfl rfl rfl rfl rfl rfl rfl rfl (by first | rfl | exact (Int.toNat_of_nonneg (by omega)).symm) (by first | assumption | exact at_map (by first | assumption | omega) | exact at_lst (by omega) | rfl) fun q2 ys2 hO2 hq2 ht2 hy2 hu2 => ?_
      obtain rfl : q1 = q2 := (AVal.slc.inj hO2).1
      refine OW_loadP rfl rfl hq2 hy2 rfl (by first | exact part_whole rfl rfl rfl | rfl) ?_
      refine OW_bs rfl rfl (v := .lst [_]) rfl ?_
      refine OW_env (e' := [_, _, _, _, _, _, _, _, _, _, _, _, _, _, _, _, _, _, _, _, _, _, _, _, _, _, _, _, _]) rfl ?_
      refine OW_app hS1 (k := 0) rfl (le_app (p := ν1) (b := [6, 1, 0, 1, 0])) (under_app [6, 1, 0, 1, 0] (under_trans (under_app [1, 0, 1, 1] hβ) hU1)) rfl rfl rfl rfl rfl rfl rfl rfl (by first | rfl | exact Ls.elems (by assumption)) (by first | exact one_wide rfl | exact map_wide (fun _ => rfl) | assumption | (intro y hy; simp at hy; done)) (by first | omega | (simp only [List.length_map, List.length_append, List.length_singleton, List.length_cons, List.length_nil, List.length_take, List.length_drop]; omega) | (simp; omega)) (by decide) fun O1 H2 hS2 => ?_
      replace hS2 : Own _ _ _ (_ :: _ :: L.eraseIdx k) := hS2
      refine OW_as rfl rfl ?_
      refine OW_nilE (e' := [_, _, _, _, _, _, _, _, _, _, _, _, _, _, _, _, _, _, _, _, _, _, _, _, _, _, _, _, _]) rfl ?_
      refine block_norm ?_
      refine then_norm ?_
      refine XW_region ?_
      refine OW_mv rfl rfl ?_
      first
      | refine OW_bin rfl rfl rfl rfl (add_w64 (by first | omega | assumption | (simp only [ByteArray.size_append, ByteArray.size_extract, List.length_map, List.length_append, List.length_cons, List.length_nil, List.length_drop, List.length_take]; omega))) ?_
      | refine OW_bin rfl rfl rfl rfl rfl ?_
      refine OW_as rfl rfl ?_
      refine OW_nilE (e' := [_, _, _, _, _, _, _, _, _, _, _, _, _, _, _, _, _, _, _, _, _, _, _, _, _, _, _, _, _]) rfl ?_
      -- round 0.1
      refine ⟨_, ?_, i + 1, O1, rfl, under_in hU1, Own.cast (Own.mono (hS2) (le_lit (ν := ν1) (a := [7, 1, 0, 1, 0]) (b := [1]) (by decide))) (by first | (rw [keepD_no (by omega) (by assumption)]) | (rw [keepD_yes (by omega) (by assumption), List.map_append]; rfl)), ?_, env_g rfl⟩
      · first | omega | (simp; omega)
      · omega
    · try simp only [decide_eq_true_eq, decide_eq_false_iff_not, Bool.not_eq_true', Bool.not_eq_false', Bool.and_eq_true, Bool.or_eq_true, Bool.not_eq_true, Bool.not_eq_false, Decidable.not_not, bne_iff_ne, beq_iff_eq, List.length_append, List.length_cons, List.length_nil, List.length_drop, List.length_take] at h5
      refine XW_skip ?_
      refine block_norm ?_
      refine then_norm ?_
      refine XW_region ?_
      refine OW_mv rfl rfl ?_
      first
      | refine OW_bin rfl rfl rfl rfl (add_w64 (by first | omega | assumption | (simp only [ByteArray.size_append, ByteArray.size_extract, List.length_map, List.length_append, List.length_cons, List.length_nil, List.length_drop, List.length_take]; omega))) ?_
      | refine OW_bin rfl rfl rfl rfl rfl ?_
      refine OW_as rfl rfl ?_
      refine OW_nilE (e' := [_, _, _, _, _, _, _, _, _, _, _, _, _, _, _, _, _, _, _, _, _, _, _, _, _, _, _, _, _]) rfl ?_
      -- round 0.2
      refine ⟨_, ?_, i + 1, O2, rfl, under_in hU1, Own.cast (Own.mono (hS1) (le_app (p := ν1) (b := [1]))) (by first | (rw [keepD_no (by omega) (by assumption)]) | (rw [keepD_yes (by omega) (by assumption), List.map_append]; rfl)), ?_, env_g rfl⟩
      · first | omega | (simp; omega)
      · omega
  · try simp only [decide_eq_true_eq, decide_eq_false_iff_not, Bool.not_eq_true', Bool.not_eq_false', Bool.and_eq_true, Bool.or_eq_true, Bool.not_eq_true, Bool.not_eq_false, Decidable.not_not, bne_iff_ne, beq_iff_eq, List.length_append, List.length_cons, List.length_nil, List.length_drop, List.length_take] at h3
    refine XW_exit ?_
    refine then_exit ?_
    refine block_exit ?_
    refine then_norm ?_
    refine XW_sr ?_
    refine OW_mv rfl rfl ?_
    refine OW_as rfl rfl ?_
    refine OW_nilE (e' := [_, _, _, _, _, _, _, _, _, _, _, _, _, _, _, _, _, _, _, _, _, _, _, _, _, _, _, _, _]) rfl ?_
    refine XW_ret ?_
    -- outcome 1
    refine ret_ret (res1 rfl (rv_tmp rfl)) ?_
    rw [List.take_of_length_le (by omega)] at hS1
    exact hq _ _ (Own.put2 (Own.mono hS1 (le_bef (bef_under (a := []) hU1 (bef_app (a := [1, 0, 1, 1]) hp)))) hL)
end Go.Proofs.Ytamdokgbenbndaa.X
