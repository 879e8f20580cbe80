/- Layer 07: the law TokenChecks, reckoned. -/
import Derived.Test.YtoljfmghcfdbpaaTK6
set_option linter.unusedVariables false
set_option linter.unusedSimpArgs false
set_option maxRecDepth 100000
namespace Go.Proofs.Ytoljfmghcfdbpaa.X
open Go Go.RowKit WM
variable {ν β ps pos' : Nm} {H : Heap} {Q : AVal → Heap → Prop} {L : List Asr} {q : Nm} {k : Nat} {S T : Rf}
theorem Rf.issues_le {key : Int} : ∀ (l : List Tk) {S : Rf} {N : Nat}, S.le N → (S.issues key l).2.le (N + l.length)
  | [], _, _, h => h
  | t :: l, S, N, h => by
    have h1 : (S.issue key t).2.le (N + 1) := Rf.value_le h _
    have := issues_le (key := key) l h1
    simp only [List.length_cons, Rf.issues]
    exact this.mono (by omega)
theorem issues_at {key : Int} {S : Rf} {l : List Tk} {i : Nat} (h : i < l.length) (h2 : i < (S.issues key l).1.length) : (S.issues key l).1[i] = ((S.issues key (l.take i)).2.issue key l[i]).1 := by
  have h0 : l = l.take (i + 1) ++ l.drop (i + 1) := (List.take_append_drop _ _).symm
  have key2 : ∀ (a b : List Tk) {S : Rf}, (S.issues key (a ++ b)).1 = (S.issues key a).1 ++ ((S.issues key a).2.issues key b).1 := by
    intro a
    induction a with
    | nil => intro b S; rfl
    | cons x a ih => intro b S; simp only [List.cons_append, Rf.issues, ih]
  have h3 : (S.issues key l).1 = (S.issues key (l.take (i + 1))).1 ++ ((S.issues key (l.take (i + 1))).2.issues key (l.drop (i + 1))).1 := by
    rw [← key2, List.take_append_drop]
  have hl : (S.issues key (l.take i)).1.length = i := by rw [Rf.issues_len, List.length_take]; omega
  have h4 : (S.issues key l).1[i]? = some ((S.issues key (l.take i)).2.issue key l[i]).1 := by
    rw [h3, Rf.issues_step h, List.append_assoc, List.getElem?_append_right (by omega), hl]
    simp
  rw [List.getElem?_eq_getElem h2] at h4
  exact Option.some.inj h4
theorem neTkF {x y : Tk} (h : x = y) : aBin cfg.T .neq 24 x.enc y.enc = some (.bool false) := by
  have e := eqTkT h
  simp only [aBin] at e ⊢
  have : ∀ r : Option Bool, aCmp .eql r = some (.bool true) → aCmp .neq r = some (.bool false) := fun r hr => by cases r with | none => cases hr | some b => cases b <;> first | rfl | cases hr
  exact this _ e
theorem lawChecks (x : Us) (a : As) (hx : x.good) (ha : a.t.fit) (hw : U64 a.want) (hq : Q (.bool true) H) : CW cfg [] 7 [x.enc, a.enc] H Q := by
  have hr := x.rows
  have hln := x.len
  have hil := hx.iss
  have hN : x.ts.2.le 100 := by
    have := Rf.issues_le (key := x.key) (x.iss.take 100) (Rf.new_le x.d)
    refine this.mono ?_
    rw [List.length_take]; omega
  have hlen : x.ts.1.length = (x.iss.take 100).length := Rf.issues_len _
  rw [List.length_take] at hlen
  refine CW_pure g7 F7 rfl ?_
  have hS0 : Own [] [] (fun _ => none) [] := Own.nil
  refine XW_sr ?_
  refine OW_boxR hS0 (le_app (p := []) (b := [0, 0])) under_nil rfl rfl rfl ⟨rfl, rfl⟩ fun H1 hS1 => ?_
  replace hS1 : Own _ _ _ ([_]) := hS1
  refine OW_boxR hS1 le_refl under_nil rfl rfl rfl ⟨rfl, rfl⟩ fun H2 hS2 => ?_
  replace hS2 : Own _ _ _ ([_, _]) := hS2
  refine OW_as rfl rfl ?_
  refine OW_nilE (e' := [_, _, _, _, _, _, _, _, _, _, _, _, _, _, _, _, _, _, _, _, _, _, _, _, _, _, _, _, _, _, _, _, _, _, _, _, _, _, _, _, _, _, _, _, _, _, _, _, _, _, _, _, _, _, _, _, _, _, _, _, _, _, _, _, _, _, _, _, _, _, _, _, _, _, _, _, _, _, _, _, _, _, _]) rfl ?_
  refine XW_sr ?_
  refine OW_loadR hS2 (k := 1) rfl rfl rfl rfl rfl (by first | exact part_whole rfl rfl rfl | rfl) ?_
  refine OW_fn rfl rfl (issuedW x hx hS2 (le_lit (ν := []) (a := [2, 0]) (b := [1, 0, 1]) (by decide)) under_nil (before_lit (ν := []) (a := [1, 0, 1]) (b := [2, 0, 1]) (by decide)) fun q1 O1 H3 hS3 => ?_) 
  replace hS3 : Own _ _ _ ([_, _, _, _]) := hS3
  refine OW_mv rfl rfl ?_
  refine OW_env (e' := [_, _, _, _, _, _, _, _, _, _, _, _, _, _, _, _, _, _, _, _, _, _, _, _, _, _, _, _, _, _, _, _, _, _, _, _, _, _, _, _, _, _, _, _, _, _, _, _, _, _, _, _, _, _, _, _, _, _, _, _, _, _, _, _, _, _, _, _, _, _, _, _, _, _, _, _, _, _, _, _, _, _, _]) rfl ?_
  refine OW_ex rfl rfl rfl ?_
  refine OW_ex rfl rfl rfl ?_
  refine OW_as rfl rfl ?_
  refine OW_env (e' := [_, _, _, _, _, _, _, _, _, _, _, _, _, _, _, _, _, _, _, _, _, _, _, _, _, _, _, _, _, _, _, _, _, _, _, _, _, _, _, _, _, _, _, _, _, _, _, _, _, _, _, _, _, _, _, _, _, _, _, _, _, _, _, _, _, _, _, _, _, _, _, _, _, _, _, _, _, _, _, _, _, _, _]) rfl ?_
  refine OW_as rfl rfl ?_
  refine OW_nilE (e' := [_, _, _, _, _, _, _, _, _, _, _, _, _, _, _, _, _, _, _, _, _, _, _, _, _, _, _, _, _, _, _, _, _, _, _, _, _, _, _, _, _, _, _, _, _, _, _, _, _, _, _, _, _, _, _, _, _, _, _, _, _, _, _, _, _, _, _, _, _, _, _, _, _, _, _, _, _, _, _, _, _, _, _]) rfl ?_
  refine XW_sr ?_
  refine OW_fa rfl rfl rfl ?_
  refine OW_loadR hS3 (k := 3) rfl rfl rfl rfl rfl (by first | exact part_whole rfl rfl rfl | rfl) ?_
  refine OW_fn rfl rfl (rNew hS3 (le_lit (ν := []) (a := [2, 0, 1]) (b := [2, 0, 1, 1]) (by decide)) under_nil (before_lit (ν := []) (a := [2, 0, 1, 1]) (b := [3, 0, 1, 1]) (by decide)) Ls.of (by have := hx.d; omega) fun p1 H4 hS4 => ?_) 
  replace hS4 : Own _ _ _ ([_, _, _, _, _]) := hS4
  refine OW_env (e' := [_, _, _, _, _, _, _, _, _, _, _, _, _, _, _, _, _, _, _, _, _, _, _, _, _, _, _, _, _, _, _, _, _, _, _, _, _, _, _, _, _, _, _, _, _, _, _, _, _, _, _, _, _, _, _, _, _, _, _, _, _, _, _, _, _, _, _, _, _, _, _, _, _, _, _, _, _, _, _, _, _, _, _]) rfl ?_
  refine OW_as rfl rfl ?_
  refine OW_nilE (e' := [_, _, _, _, _, _, _, _, _, _, _, _, _, _, _, _, _, _, _, _, _, _, _, _, _, _, _, _, _, _, _, _, _, _, _, _, _, _, _, _, _, _, _, _, _, _, _, _, _, _, _, _, _, _, _, _, _, _, _, _, _, _, _, _, _, _, _, _, _, _, _, _, _, _, _, _, _, _, _, _, _, _, _]) rfl ?_
  refine XW_seq ?_
  refine XW_sr ?_
  refine OW_as rfl rfl ?_
  refine OW_nilE (e' := [_, _, _, _, _, _, _, _, _, _, _, _, _, _, _, _, _, _, _, _, _, _, _, _, _, _, _, _, _, _, _, _, _, _, _, _, _, _, _, _, _, _, _, _, _, _, _, _, _, _, _, _, _, _, _, _, _, _, _, _, _, _, _, _, _, _, _, _, _, _, _, _, _, _, _, _, _, _, _, _, _, _, _]) rfl ?_
  refine XW_block ?_
  refine XW_whileN (I := fun ν' mm ee H' => ∃ (i : Nat), mm = x.ts.1.length - i ∧ under (1 :: 0 :: 1 :: 1 :: 1 :: []) ν' = true ∧ Own [] ν' H' ([rorc p1 ((Rf.new x.d).issues x.key (x.iss.take i)).2, sl O1 5 (x.ts.1.map Tk.enc), orc q1 x.ts.2.of, row (1 :: 0 :: []) 8 [a.enc], row (0 :: 0 :: []) 3 [x.enc]]) ∧ (i ≤ x.ts.1.length) ∧ ∃ g : Nat → AVal, ee = [g 0, g 1, .ptr (0 :: 0 :: []) 0 0, .ptr (1 :: 0 :: []) 0 0, g 4, .ptr q1 0 0, O1, .ptr p1 0 0, .int .i64 i, g 9, g 10, g 11, g 12, g 13, g 14, g 15, g 16, g 17, g 18, g 19, g 20, g 21, g 22, g 23, g 24, g 25, g 26, g 27, g 28, g 29, g 30, g 31, g 32, g 33, g 34, g 35, g 36, g 37, g 38, g 39, g 40, g 41, g 42, g 43, g 44, g 45, g 46, g 47, g 48, g 49, g 50, g 51, g 52, g 53, g 54, g 55, g 56, g 57, g 58, g 59, g 60, g 61, g 62, g 63, g 64, g 65, g 66, g 67, g 68, g 69, g 70, g 71, g 72, g 73, g 74, g 75, g 76, g 77, g 78, g 79, g 80, g 81, g 82]) ?_ _ _ _ _ ⟨0, rfl, under_me, Own.cast (Own.mono (hS4) (le_lit (ν := []) (a := [3, 0, 1, 1]) (b := [1, 0, 1, 1, 1]) (by decide))) (rfl), (Nat.zero_le _), env_g rfl⟩
  rintro ν1 mm ee H5 ⟨i, rfl, hU1, hS5, hi, g1, rfl⟩
  have hNi := Rf.issues_le (key := x.key) (x.iss.take i) (Rf.new_le x.d)
  rw [List.length_take] at hNi
  refine XW_seq ?_
  refine XW_sr ?_
  refine OW_mv rfl rfl ?_
  refine OW_mv rfl rfl ?_
  refine OW_lenO hS5 (k := 1) rfl rfl rfl rfl rfl rfl (by first | exact List.length_map _ | exact len_app1 | exact len_drop | (simp only [List.length_append, List.length_map, List.length_singleton, List.length_cons, List.length_nil]; rfl) | rfl) ?_
  refine OW_env (e' := [_, _, _, _, _, _, _, _, _, _, _, _, _, _, _, _, _, _, _, _, _, _, _, _, _, _, _, _, _, _, _, _, _, _, _, _, _, _, _, _, _, _, _, _, _, _, _, _, _, _, _, _, _, _, _, _, _, _, _, _, _, _, _, _, _, _, _, _, _, _, _, _, _, _, _, _, _, _, _, _, _, _, _]) rfl ?_
  refine OW_bin rfl rfl rfl rfl rfl ?_
  refine OW_nilE (e' := [_, _, _, _, _, _, _, _, _, _, _, _, _, _, _, _, _, _, _, _, _, _, _, _, _, _, _, _, _, _, _, _, _, _, _, _, _, _, _, _, _, _, _, _, _, _, _, _, _, _, _, _, _, _, _, _, _, _, _, _, _, _, _, _, _, _, _, _, _, _, _, _, _, _, _, _, _, _, _, _, _, _, _]) rfl ?_
  refine XW_if rfl (fun h4 => ?_) (fun h4 => ?_)
  · try simp only [decide_eq_true_eq, decide_eq_false_iff_not, Bool.not_eq_true', Bool.not_eq_false', Bool.and_eq_true, Bool.or_eq_true, Bool.not_eq_true, Bool.not_eq_false, Decidable.not_not, bne_iff_ne, beq_iff_eq, List.length_append, List.length_cons, List.length_nil, List.length_drop, List.length_take] at h4
    refine XW_skip ?_
    refine then_norm ?_
    refine XW_seq ?_
    refine XW_block ?_
    obtain ⟨qz1, hqz1⟩ := hS5.slcOf (k := 1) rfl (by first | omega | (simp only [List.length_map]; omega))
    subst hqz1
    refine XW_srF (qs := [qz1]) rfl rfl ?_
    have hSF1 : Own _ _ _ ([_, _, _, _, _]) := (Own.hideS (Own.hide0 hS5) (k := 1) rfl)
    refine OWF_op rfl ?_
    refine OW_mv rfl rfl ?_
    refine OW_nil ?_
    refine OWF_op rfl ?_
    refine OW_mv rfl rfl ?_
    refine OW_nil ?_
    refine OWF_op rfl ?_
    refine OW_iaS rfl rfl rfl rfl rfl rfl rfl (by first | rfl | exact (Int.toNat_of_nonneg (by omega)).symm) (by first | omega | (simp only [List.length_map]; omega)) ?_
    refine OW_nil ?_
    refine OWF_env (e' := [_, _, _, _, _, _, _, _, _, _, _, _, _, _, _, _, _, _, _, _, _, _, _, _, _, _, _, _, _, _, _, _, _, _, _, _, _, _, _, _, _, _, _, _, _, _, _, _, _, _, _, _, _, _, _, _, _, _, _, _, _, _, _, _, _, _, _, _, _, _, _, _, _, _, _, _, _, _, _, _, _, _, _]) rfl ?_
    refine OWF_fl rfl ?_
    refine OW_loadKS hS5 (k := 1) rfl (by simp) rfl rfl rfl (by first | assumption | exact at_map (by first | assumption | omega) | exact at_lst (by omega) | rfl) (by first | exact part_whole rfl rfl rfl | rfl) ?_
    refine OW_nil ?_
    refine OWF_op rfl ?_
    refine OW_mv rfl rfl ?_
    refine OW_nil ?_
    refine OWF_op rfl ?_
    refine OW_fa rfl rfl rfl ?_
    refine OW_nil ?_
    refine OWF_env (e' := [_, _, _, _, _, _, _, _, _, _, _, _, _, _, _, _, _, _, _, _, _, _, _, _, _, _, _, _, _, _, _, _, _, _, _, _, _, _, _, _, _, _, _, _, _, _, _, _, _, _, _, _, _, _, _, _, _, _, _, _, _, _, _, _, _, _, _, _, _, _, _, _, _, _, _, _, _, _, _, _, _, _, _]) rfl ?_
    refine OWF_op rfl ?_
    refine OW_loadR hSF1 (k := 4) rfl rfl rfl rfl rfl (by first | exact part_whole rfl rfl rfl | rfl) ?_
    refine OW_nil ?_
    refine OWF_op rfl ?_
    refine OW_fa rfl rfl rfl ?_
    refine OW_nil ?_
    refine OWF_op rfl ?_
    refine OW_loadR hSF1 (k := 4) rfl rfl rfl rfl rfl (by first | exact part_whole rfl rfl rfl | rfl) ?_
    refine OW_nil ?_
    refine OWF_env (e' := [_, _, _, _, _, _, _, _, _, _, _, _, _, _, _, _, _, _, _, _, _, _, _, _, _, _, _, _, _, _, _, _, _, _, _, _, _, _, _, _, _, _, _, _, _, _, _, _, _, _, _, _, _, _, _, _, _, _, _, _, _, _, _, _, _, _, _, _, _, _, _, _, _, _, _, _, _, _, _, _, _, _, _]) rfl ?_
    refine OWF_op rfl ?_
    refine OW_mv rfl rfl ?_
    refine OW_nil ?_
    refine OWF_op rfl ?_
    first
    | refine OW_iaL rfl rfl rfl Ls.of rfl rfl rfl (by first | rfl | exact (Int.toNat_of_nonneg (by omega)).symm) (by first | assumption | exact at_map (by first | assumption | omega) | exact at_lst (by omega) | rfl) rfl ?_
    | refine OW_iaL rfl rfl rfl (by assumption) rfl rfl rfl (by first | rfl | exact (Int.toNat_of_nonneg (by omega)).symm) (by first | assumption | exact at_map (by first | assumption | omega) | exact at_lst (by omega) | rfl) rfl ?_
    refine OW_nil ?_
    refine OWF_op rfl ?_
    refine OW_loadE rfl rfl rfl (by first | exact part_whole rfl rfl rfl | rfl) ?_
    refine OW_nil ?_
    refine OWF_env (e' := [_, _, _, _, _, _, _, _, _, _, _, _, _, _, _, _, _, _, _, _, _, _, _, _, _, _, _, _, _, _, _, _, _, _, _, _, _, _, _, _, _, _, _, _, _, _, _, _, _, _, _, _, _, _, _, _, _, _, _, _, _, _, _, _, _, _, _, _, _, _, _, _, _, _, _, _, _, _, _, _, _, _, _]) rfl ?_
    refine OWF_op rfl ?_
    refine OW_fn rfl rfl (rissueW hSF1 (k := 0) rfl (le_app (p := ν1) (b := [12, 0, 0, 1, 0])) under_nil (before_lit (ν := ν1) (a := [12, 0, 0, 1, 0]) (b := [13, 0, 0, 1, 0]) (by decide)) hNi (by omega) _ _ (hx.fit _ (List.getElem_mem (by omega))) fun H6 hS6 => ?_) 
    replace hS6 : Own _ _ _ ([_, _, _, _, _]) := hS6
    refine OW_nil ?_
    have hti : x.ts.1[i] = (((Rf.new x.d).issues x.key (x.iss.take i)).2.issue x.key x.iss[i]).1 := by have h0 := issues_at (key := x.key) (S := Rf.new x.d) (l := x.iss.take 100) (i := i) (by rw [List.length_take]; omega) (by show i < x.ts.1.length; omega); rw [List.take_take, Nat.min_eq_left (by omega)] at h0; simp only [List.getElem_take] at h0; exact h0
    refine OWF_op rfl ?_
    refine OW_bin rfl rfl rfl rfl (neTkF hti) ?_
    refine OW_nil ?_
    refine OWF_nilE (e' := [_, _, _, _, _, _, _, _, _, _, _, _, _, _, _, _, _, _, _, _, _, _, _, _, _, _, _, _, _, _, _, _, _, _, _, _, _, _, _, _, _, _, _, _, _, _, _, _, _, _, _, _, _, _, _, _, _, _, _, _, _, _, _, _, _, _, _, _, _, _, _, _, _, _, _, _, _, _, _, _, _, _, _]) rfl ?_
    have hSB1 : Own _ _ _ ([_, _, _, _, _]) := (Own.backS hS5 (k := 1) rfl (Own.back0 hS6) (k' := 1) rfl)
    refine XW_no rfl rfl ?_
    refine XW_skip ?_
    refine block_norm ?_
    refine then_norm ?_
    refine XW_region ?_
    refine OW_mv rfl rfl ?_
    first
    | refine OW_bin rfl rfl rfl rfl (add_w64 (by first | omega | assumption | (simp only [ByteArray.size_append, ByteArray.size_extract, List.length_map, List.length_append, List.length_cons, List.length_nil, List.length_drop, List.length_take]; omega))) ?_
    | refine OW_bin rfl rfl rfl rfl rfl ?_
    refine OW_as rfl rfl ?_
    refine OW_nilE (e' := [_, _, _, _, _, _, _, _, _, _, _, _, _, _, _, _, _, _, _, _, _, _, _, _, _, _, _, _, _, _, _, _, _, _, _, _, _, _, _, _, _, _, _, _, _, _, _, _, _, _, _, _, _, _, _, _, _, _, _, _, _, _, _, _, _, _, _, _, _, _, _, _, _, _, _, _, _, _, _, _, _, _, _]) rfl ?_
    -- round 0.1
    refine ⟨_, ?_, i + 1, rfl, under_in hU1, Own.cast (Own.mono (hSB1) (le_lit (ν := ν1) (a := [13, 0, 0, 1, 0]) (b := [1]) (by decide))) (by rw [Rf.issues_step (by omega)]), ?_, env_g rfl⟩
    · first | omega | (simp; omega)
    · omega
  · try simp only [decide_eq_true_eq, decide_eq_false_iff_not, Bool.not_eq_true', Bool.not_eq_false', Bool.and_eq_true, Bool.or_eq_true, Bool.not_eq_true, Bool.not_eq_false, Decidable.not_not, bne_iff_ne, beq_iff_eq, List.length_append, List.length_cons, List.length_nil, List.length_drop, List.length_take] at h4
    refine XW_exit ?_
    refine then_exit ?_
    refine block_exit ?_
    refine then_norm ?_
    refine XW_sr ?_
    have he := Us.stop (x := x) (i := i) (by omega) (by omega)
    rw [he] at hS5
    refine OW_mv rfl rfl ?_
    refine OW_fa rfl rfl rfl ?_
    refine OW_loadR hS5 (k := 4) rfl rfl rfl rfl rfl (by first | exact part_whole rfl rfl rfl | rfl) ?_
    refine OW_env (e' := [_, _, _, _, _, _, _, _, _, _, _, _, _, _, _, _, _, _, _, _, _, _, _, _, _, _, _, _, _, _, _, _, _, _, _, _, _, _, _, _, _, _, _, _, _, _, _, _, _, _, _, _, _, _, _, _, _, _, _, _, _, _, _, _, _, _, _, _, _, _, _, _, _, _, _, _, _, _, _, _, _, _, _]) rfl ?_
    refine OW_fa rfl rfl rfl ?_
    refine OW_loadR hS5 (k := 3) rfl rfl rfl rfl rfl (by first | exact part_whole rfl rfl rfl | rfl) ?_
    refine OW_fa rfl rfl rfl ?_
    refine OW_env (e' := [_, _, _, _, _, _, _, _, _, _, _, _, _, _, _, _, _, _, _, _, _, _, _, _, _, _, _, _, _, _, _, _, _, _, _, _, _, _, _, _, _, _, _, _, _, _, _, _, _, _, _, _, _, _, _, _, _, _, _, _, _, _, _, _, _, _, _, _, _, _, _, _, _, _, _, _, _, _, _, _, _, _, _]) rfl ?_
    refine OW_loadR hS5 (k := 3) rfl rfl rfl rfl rfl (by first | exact part_whole rfl rfl rfl | rfl) ?_
    refine OW_fa rfl rfl rfl ?_
    refine OW_loadR hS5 (k := 3) rfl rfl rfl rfl rfl (by first | exact part_whole rfl rfl rfl | rfl) ?_
    refine OW_env (e' := [_, _, _, _, _, _, _, _, _, _, _, _, _, _, _, _, _, _, _, _, _, _, _, _, _, _, _, _, _, _, _, _, _, _, _, _, _, _, _, _, _, _, _, _, _, _, _, _, _, _, _, _, _, _, _, _, _, _, _, _, _, _, _, _, _, _, _, _, _, _, _, _, _, _, _, _, _, _, _, _, _, _, _]) rfl ?_
    refine OW_fa rfl rfl rfl ?_
    refine OW_loadR hS5 (k := 3) rfl rfl rfl rfl rfl (by first | exact part_whole rfl rfl rfl | rfl) ?_
    refine OW_fn rfl rfl (checkW hS5 (k := 2) rfl (le_bef (bef_under (a := []) hU1 (before_lit (ν := []) (a := [1, 0, 1, 1, 1]) (b := [11, 0, 1, 1, 1, 1]) (by decide)))) under_nil (before_lit (ν := []) (a := [11, 0, 1, 1, 1, 1]) (b := [12, 0, 1, 1, 1, 1]) (by decide)) _ _ ha _ _ _ fun H7 hS7 => ?_) 
    replace hS7 : Own _ _ _ ([_, _, _, _, _]) := hS7
    refine OW_env (e' := [_, _, _, _, _, _, _, _, _, _, _, _, _, _, _, _, _, _, _, _, _, _, _, _, _, _, _, _, _, _, _, _, _, _, _, _, _, _, _, _, _, _, _, _, _, _, _, _, _, _, _, _, _, _, _, _, _, _, _, _, _, _, _, _, _, _, _, _, _, _, _, _, _, _, _, _, _, _, _, _, _, _, _]) rfl ?_
    refine OW_as rfl rfl ?_
    refine OW_nilE (e' := [_, _, _, _, _, _, _, _, _, _, _, _, _, _, _, _, _, _, _, _, _, _, _, _, _, _, _, _, _, _, _, _, _, _, _, _, _, _, _, _, _, _, _, _, _, _, _, _, _, _, _, _, _, _, _, _, _, _, _, _, _, _, _, _, _, _, _, _, _, _, _, _, _, _, _, _, _, _, _, _, _, _, _]) rfl ?_
    refine XW_sr ?_
    refine OW_mv rfl rfl ?_
    refine OW_fa rfl rfl rfl ?_
    refine OW_loadR hS7 (k := 4) rfl rfl rfl rfl rfl (by first | exact part_whole rfl rfl rfl | rfl) ?_
    refine OW_env (e' := [_, _, _, _, _, _, _, _, _, _, _, _, _, _, _, _, _, _, _, _, _, _, _, _, _, _, _, _, _, _, _, _, _, _, _, _, _, _, _, _, _, _, _, _, _, _, _, _, _, _, _, _, _, _, _, _, _, _, _, _, _, _, _, _, _, _, _, _, _, _, _, _, _, _, _, _, _, _, _, _, _, _, _]) rfl ?_
    refine OW_fa rfl rfl rfl ?_
    refine OW_loadR hS7 (k := 3) rfl rfl rfl rfl rfl (by first | exact part_whole rfl rfl rfl | rfl) ?_
    refine OW_fa rfl rfl rfl ?_
    refine OW_env (e' := [_, _, _, _, _, _, _, _, _, _, _, _, _, _, _, _, _, _, _, _, _, _, _, _, _, _, _, _, _, _, _, _, _, _, _, _, _, _, _, _, _, _, _, _, _, _, _, _, _, _, _, _, _, _, _, _, _, _, _, _, _, _, _, _, _, _, _, _, _, _, _, _, _, _, _, _, _, _, _, _, _, _, _]) rfl ?_
    refine OW_loadR hS7 (k := 3) rfl rfl rfl rfl rfl (by first | exact part_whole rfl rfl rfl | rfl) ?_
    refine OW_fa rfl rfl rfl ?_
    refine OW_loadR hS7 (k := 3) rfl rfl rfl rfl rfl (by first | exact part_whole rfl rfl rfl | rfl) ?_
    refine OW_env (e' := [_, _, _, _, _, _, _, _, _, _, _, _, _, _, _, _, _, _, _, _, _, _, _, _, _, _, _, _, _, _, _, _, _, _, _, _, _, _, _, _, _, _, _, _, _, _, _, _, _, _, _, _, _, _, _, _, _, _, _, _, _, _, _, _, _, _, _, _, _, _, _, _, _, _, _, _, _, _, _, _, _, _, _]) rfl ?_
    refine OW_fa rfl rfl rfl ?_
    refine OW_loadR hS7 (k := 3) rfl rfl rfl rfl rfl (by first | exact part_whole rfl rfl rfl | rfl) ?_
    refine OW_fn rfl rfl (rcheckW hS7 (k := 0) rfl (le_lit (ν := []) (a := [12, 0, 1, 1, 1, 1]) (b := [11, 0, 1, 1, 1, 1, 1]) (by decide)) under_nil (before_lit (ν := []) (a := [11, 0, 1, 1, 1, 1, 1]) (b := [12, 0, 1, 1, 1, 1, 1]) (by decide)) hN (by omega) _ _ ha _ _ _ hw fun H8 hS8 => ?_) 
    replace hS8 : Own _ _ _ ([_, _, _, _, _]) := hS8
    refine OW_env (e' := [_, _, _, _, _, _, _, _, _, _, _, _, _, _, _, _, _, _, _, _, _, _, _, _, _, _, _, _, _, _, _, _, _, _, _, _, _, _, _, _, _, _, _, _, _, _, _, _, _, _, _, _, _, _, _, _, _, _, _, _, _, _, _, _, _, _, _, _, _, _, _, _, _, _, _, _, _, _, _, _, _, _, _]) rfl ?_
    refine OW_as rfl rfl ?_
    refine OW_nilE (e' := [_, _, _, _, _, _, _, _, _, _, _, _, _, _, _, _, _, _, _, _, _, _, _, _, _, _, _, _, _, _, _, _, _, _, _, _, _, _, _, _, _, _, _, _, _, _, _, _, _, _, _, _, _, _, _, _, _, _, _, _, _, _, _, _, _, _, _, _, _, _, _, _, _, _, _, _, _, _, _, _, _, _, _]) rfl ?_
    refine XW_sr ?_
    refine OW_fn rfl rfl (fixedW (by kernel_rfl) ?_) 
    refine OW_mv rfl rfl ?_
    refine OW_mv rfl rfl ?_
    refine OW_env (e' := [_, _, _, _, _, _, _, _, _, _, _, _, _, _, _, _, _, _, _, _, _, _, _, _, _, _, _, _, _, _, _, _, _, _, _, _, _, _, _, _, _, _, _, _, _, _, _, _, _, _, _, _, _, _, _, _, _, _, _, _, _, _, _, _, _, _, _, _, _, _, _, _, _, _, _, _, _, _, _, _, _, _, _]) rfl ?_
    refine OW_mv rfl rfl ?_
    refine OW_bin rfl rfl rfl rfl (eqI rfl) ?_
    refine OW_pick rfl rfl rfl ?_
    refine OW_env (e' := [_, _, _, _, _, _, _, _, _, _, _, _, _, _, _, _, _, _, _, _, _, _, _, _, _, _, _, _, _, _, _, _, _, _, _, _, _, _, _, _, _, _, _, _, _, _, _, _, _, _, _, _, _, _, _, _, _, _, _, _, _, _, _, _, _, _, _, _, _, _, _, _, _, _, _, _, _, _, _, _, _, _, _]) rfl ?_
    refine OW_mv rfl rfl ?_
    refine OW_mv rfl rfl ?_
    refine OW_fn rfl rfl (oDrawn hS8 (k := 2) rfl (le_lit (ν := []) (a := [12, 0, 1, 1, 1, 1, 1]) (b := [8, 0, 1, 1, 1, 1, 1, 1]) (by decide)) under_nil (before_lit (ν := []) (a := [8, 0, 1, 1, 1, 1, 1, 1]) (b := [9, 0, 1, 1, 1, 1, 1, 1]) (by decide)) fun H9 hS9 => ?_) 
    replace hS9 : Own _ _ _ ([_, _, _, _, _]) := hS9
    refine OW_env (e' := [_, _, _, _, _, _, _, _, _, _, _, _, _, _, _, _, _, _, _, _, _, _, _, _, _, _, _, _, _, _, _, _, _, _, _, _, _, _, _, _, _, _, _, _, _, _, _, _, _, _, _, _, _, _, _, _, _, _, _, _, _, _, _, _, _, _, _, _, _, _, _, _, _, _, _, _, _, _, _, _, _, _, _]) rfl ?_
    refine OW_mv rfl rfl ?_
    refine OW_fn rfl rfl (rDrawn hS9 (k := 0) rfl (le_lit (ν := []) (a := [9, 0, 1, 1, 1, 1, 1, 1]) (b := [10, 0, 1, 1, 1, 1, 1, 1]) (by decide)) under_nil (before_lit (ν := []) (a := [10, 0, 1, 1, 1, 1, 1, 1]) (b := [11, 0, 1, 1, 1, 1, 1, 1]) (by decide)) fun H10 hS10 => ?_) 
    replace hS10 : Own _ _ _ ([_, _, _, _, _]) := hS10
    refine OW_bin rfl rfl rfl rfl (eqI rfl) ?_
    refine OW_env (e' := [_, _, _, _, _, _, _, _, _, _, _, _, _, _, _, _, _, _, _, _, _, _, _, _, _, _, _, _, _, _, _, _, _, _, _, _, _, _, _, _, _, _, _, _, _, _, _, _, _, _, _, _, _, _, _, _, _, _, _, _, _, _, _, _, _, _, _, _, _, _, _, _, _, _, _, _, _, _, _, _, _, _, _]) rfl ?_
    refine OW_pick rfl rfl rfl ?_
    refine OW_mv rfl rfl ?_
    refine OW_mv rfl rfl ?_
    refine OW_env (e' := [_, _, _, _, _, _, _, _, _, _, _, _, _, _, _, _, _, _, _, _, _, _, _, _, _, _, _, _, _, _, _, _, _, _, _, _, _, _, _, _, _, _, _, _, _, _, _, _, _, _, _, _, _, _, _, _, _, _, _, _, _, _, _, _, _, _, _, _, _, _, _, _, _, _, _, _, _, _, _, _, _, _, _]) rfl ?_
    refine OW_fn rfl rfl (oBad hS10 (k := 2) rfl (le_lit (ν := []) (a := [11, 0, 1, 1, 1, 1, 1, 1]) (b := [15, 0, 1, 1, 1, 1, 1, 1]) (by decide)) under_nil (before_lit (ν := []) (a := [15, 0, 1, 1, 1, 1, 1, 1]) (b := [16, 0, 1, 1, 1, 1, 1, 1]) (by decide)) fun H11 hS11 => ?_) 
    replace hS11 : Own _ _ _ ([_, _, _, _, _]) := hS11
    refine OW_mv rfl rfl ?_
    refine OW_fn rfl rfl (rBad hS11 (k := 0) rfl (le_lit (ν := []) (a := [16, 0, 1, 1, 1, 1, 1, 1]) (b := [17, 0, 1, 1, 1, 1, 1, 1]) (by decide)) under_nil (before_lit (ν := []) (a := [17, 0, 1, 1, 1, 1, 1, 1]) (b := [18, 0, 1, 1, 1, 1, 1, 1]) (by decide)) fun H12 hS12 => ?_) 
    replace hS12 : Own _ _ _ ([_, _, _, _, _]) := hS12
    refine OW_env (e' := [_, _, _, _, _, _, _, _, _, _, _, _, _, _, _, _, _, _, _, _, _, _, _, _, _, _, _, _, _, _, _, _, _, _, _, _, _, _, _, _, _, _, _, _, _, _, _, _, _, _, _, _, _, _, _, _, _, _, _, _, _, _, _, _, _, _, _, _, _, _, _, _, _, _, _, _, _, _, _, _, _, _, _]) rfl ?_
    refine OW_bin rfl rfl rfl rfl (eqB rfl) ?_
    refine OW_pick rfl rfl rfl ?_
    refine OW_as rfl rfl ?_
    refine OW_nilE (e' := [_, _, _, _, _, _, _, _, _, _, _, _, _, _, _, _, _, _, _, _, _, _, _, _, _, _, _, _, _, _, _, _, _, _, _, _, _, _, _, _, _, _, _, _, _, _, _, _, _, _, _, _, _, _, _, _, _, _, _, _, _, _, _, _, _, _, _, _, _, _, _, _, _, _, _, _, _, _, _, _, _, _, _]) rfl ?_
    refine XW_ret ?_
    -- outcome 1
    refine ret_ret (res1 rfl (rv_tmp rfl)) (frz1 (Q := Q) (by first | exact freeze_plain rfl | exact Ls.freeze (by assumption) | exact Ls.freeze Ls.of | exact Ls.freeze Ls.emp | exact Ls.freeze Ls.nls) ?_)
    first
    | exact hq
    | (refine qcast hq ?_; rfl)
    | (refine qcast hq ?_; simp; done)
    | (refine qcast hq ?_; simp; omega)
    | (refine qcast hq ?_; simp_all; done)
end Go.Proofs.Ytoljfmghcfdbpaa.X
