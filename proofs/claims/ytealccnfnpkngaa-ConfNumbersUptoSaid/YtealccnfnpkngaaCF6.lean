/- Layer 14: Run of the program. -/
import Derived.Test.YtealccnfnpkngaaCF5
set_option linter.unusedVariables false
set_option linter.unusedSimpArgs false
set_option maxRecDepth 100000
namespace Go.Proofs.Ytealccnfnpkngaa.X
open Go Go.RowKit WM
theorem EN66_CF6 {c : Cfg} {ν : Nm} {e : Env} {H : Heap} {all : Array Oper} {r : List Oper} {i : Nat} {Q : Env → Heap → Prop} {x0 x1 x2 x3 x4 x5 x6 x7 x8 x9 x10 x11 x12 x13 x14 x15 x16 x17 x18 x19 x20 x21 x22 x23 x24 x25 x26 x27 x28 x29 x30 x31 x32 x33 x34 x35 x36 x37 x38 x39 x40 x41 x42 x43 x44 x45 x46 x47 x48 x49 x50 x51 x52 x53 x54 x55 x56 x57 x58 x59 x60 x61 x62 x63 x64 x65 : AVal} (he : e = [x0,x1,x2,x3,x4,x5,x6,x7,x8,x9,x10,x11,x12,x13,x14,x15,x16,x17,x18,x19,x20,x21,x22,x23,x24,x25,x26,x27,x28,x29,x30,x31,x32,x33,x34,x35,x36,x37,x38,x39,x40,x41,x42,x43,x44,x45,x46,x47,x48,x49,x50,x51,x52,x53,x54,x55,x56,x57,x58,x59,x60,x61,x62,x63,x64,x65]) (h : OW c ν all r i [x0,x1,x2,x3,x4,x5,x6,x7,x8,x9,x10,x11,x12,x13,x14,x15,x16,x17,x18,x19,x20,x21,x22,x23,x24,x25,x26,x27,x28,x29,x30,x31,x32,x33,x34,x35,x36,x37,x38,x39,x40,x41,x42,x43,x44,x45,x46,x47,x48,x49,x50,x51,x52,x53,x54,x55,x56,x57,x58,x59,x60,x61,x62,x63,x64,x65] H Q) : OW c ν all r i e H Q := by subst he; exact h
theorem EZ66_CF6 {c : Cfg} {ν : Nm} {e : Env} {H : Heap} {all : Array Oper} {i : Nat} {Q : Env → Heap → Prop} {x0 x1 x2 x3 x4 x5 x6 x7 x8 x9 x10 x11 x12 x13 x14 x15 x16 x17 x18 x19 x20 x21 x22 x23 x24 x25 x26 x27 x28 x29 x30 x31 x32 x33 x34 x35 x36 x37 x38 x39 x40 x41 x42 x43 x44 x45 x46 x47 x48 x49 x50 x51 x52 x53 x54 x55 x56 x57 x58 x59 x60 x61 x62 x63 x64 x65 : AVal} (he : e = [x0,x1,x2,x3,x4,x5,x6,x7,x8,x9,x10,x11,x12,x13,x14,x15,x16,x17,x18,x19,x20,x21,x22,x23,x24,x25,x26,x27,x28,x29,x30,x31,x32,x33,x34,x35,x36,x37,x38,x39,x40,x41,x42,x43,x44,x45,x46,x47,x48,x49,x50,x51,x52,x53,x54,x55,x56,x57,x58,x59,x60,x61,x62,x63,x64,x65]) (h : Q [x0,x1,x2,x3,x4,x5,x6,x7,x8,x9,x10,x11,x12,x13,x14,x15,x16,x17,x18,x19,x20,x21,x22,x23,x24,x25,x26,x27,x28,x29,x30,x31,x32,x33,x34,x35,x36,x37,x38,x39,x40,x41,x42,x43,x44,x45,x46,x47,x48,x49,x50,x51,x52,x53,x54,x55,x56,x57,x58,x59,x60,x61,x62,x63,x64,x65] H) : OW c ν all [] i e H Q := by subst he; exact OW_nil h
theorem FN66_CF6 {c : Cfg} {ν : Nm} {e : Env} {H : Heap} {all : Array Oper} {rs : List Tmp} {HK : Heap} {r : List Oper} {i : Nat} {Q : Env → Heap → Prop} {x0 x1 x2 x3 x4 x5 x6 x7 x8 x9 x10 x11 x12 x13 x14 x15 x16 x17 x18 x19 x20 x21 x22 x23 x24 x25 x26 x27 x28 x29 x30 x31 x32 x33 x34 x35 x36 x37 x38 x39 x40 x41 x42 x43 x44 x45 x46 x47 x48 x49 x50 x51 x52 x53 x54 x55 x56 x57 x58 x59 x60 x61 x62 x63 x64 x65 : AVal} (he : e = [x0,x1,x2,x3,x4,x5,x6,x7,x8,x9,x10,x11,x12,x13,x14,x15,x16,x17,x18,x19,x20,x21,x22,x23,x24,x25,x26,x27,x28,x29,x30,x31,x32,x33,x34,x35,x36,x37,x38,x39,x40,x41,x42,x43,x44,x45,x46,x47,x48,x49,x50,x51,x52,x53,x54,x55,x56,x57,x58,x59,x60,x61,x62,x63,x64,x65]) (h : OWF c ν all rs HK r i [x0,x1,x2,x3,x4,x5,x6,x7,x8,x9,x10,x11,x12,x13,x14,x15,x16,x17,x18,x19,x20,x21,x22,x23,x24,x25,x26,x27,x28,x29,x30,x31,x32,x33,x34,x35,x36,x37,x38,x39,x40,x41,x42,x43,x44,x45,x46,x47,x48,x49,x50,x51,x52,x53,x54,x55,x56,x57,x58,x59,x60,x61,x62,x63,x64,x65] H Q) : OWF c ν all rs HK r i e H Q := by subst he; exact h
variable {ν β ps pos' : Nm} {H : Heap} {Q : AVal → Heap → Prop} {L : List Asr} {k : Nat} {q : Nm} {c : Cf} {gs : Int}
def runS (c : Cf) (gs d a b : Int) : Cf × Int × Int :=
  if gs < 1 ∨ 4 < gs ∨ d < 0 ∨ 2 < d then (c, 0, 140) else if d = 0 then tenS c a b else if d = 1 then volS c gs.toNat a b else bmpS c a
theorem runS_bad {d a b : Int} (h : gs < 1 ∨ 4 < gs ∨ d < 0 ∨ 2 < d) : runS c gs d a b = (c, 0, 140) := if_pos h
theorem runS_0 {a b : Int} (h : ¬ (gs < 1 ∨ 4 < gs)) : runS c gs 0 a b = tenS c a b := by unfold runS; rw [if_neg (by omega), if_pos rfl]
theorem runS_1 {a b : Int} (h : ¬ (gs < 1 ∨ 4 < gs)) : runS c gs 1 a b = volS c gs.toNat a b := by unfold runS; rw [if_neg (by omega), if_neg (by decide), if_pos rfl]
theorem runS_2 {a b : Int} (h : ¬ (gs < 1 ∨ 4 < gs)) : runS c gs 2 a b = bmpS c a := by unfold runS; rw [if_neg (by omega), if_neg (by decide), if_neg (by decide)]
theorem p_run_bad {U V : AVal} (hU : Ls U (c.qs.map Qu.enc)) (hV : Ls V (c.ps.map Pl.enc)) {d a b : Int} (hf : c.fit) (hd : gs < 1 ∨ 4 < gs ∨ d < 0 ∨ 2 < d) (hq : Q (.tup [c.enc, .int .i64 140, .int .u64 0]) H) : CW cfg ν 10 [.agg [U, V, .int .u64 c.nx], .int .i64 gs, .int .i64 d, .int .u64 a, .int .u64 b] H Q := by
  have hlp := hf.lp; have hlq := hf.lq
  refine CW_pure g10 F10 rfl ?_
  have hS0 : Own ν ν (fun _ => none) [] := Own.nil
  refine XW_sr ?_
  refine OW_boxR hS0 (le_app (p := ν) (b := [0, 0])) (under_app [0, 0] under_me) rfl rfl rfl ⟨rfl, rfl⟩ fun H1 hS1 => ?_
  replace hS1 : Own _ _ _ ([_]) := hS1
  refine OW_allocR hS1 le_refl (under_app [1, 0] under_me) rfl rfl rfl rfl fun H2 hS2 => ?_
  replace hS2 : Own _ _ _ ([_, _]) := hS2
  refine OW_as rfl rfl ?_
  refine EN66_CF6 rfl ?_
  refine OW_as rfl rfl ?_
  refine EZ66_CF6 rfl ?_
  refine XW_srF (qs := [0 :: 0 :: ν]) rfl rfl ?_
  have hSF1 : Own _ _ _ ([_, _]) := (Own.hide (Own.hide0 hS2) (k := 1) rfl)
  refine OWF_op rfl ?_
  refine OW_fa rfl rfl rfl ?_
  refine OW_nil ?_
  refine OWF_fl rfl ?_
  refine OW_loadK hS2 (k := 1) rfl (by simp) rfl rfl rfl rfl (by first | exact part_whole rfl rfl rfl | rfl) ?_
  refine OW_nil ?_
  refine OWF_op rfl ?_
  refine OW_fn rfl rfl (Qu.clone hU hSF1 (le_lit (ν := ν) (a := [2, 0]) (b := [2, 0, 1]) (by decide)) (under_app [2, 0, 1] under_me) (before_lit (ν := ν) (a := [2, 0, 1]) (b := [3, 0, 1]) (by decide)) (by omega) fun O1 H3 hS3 => ?_) 
  replace hS3 : Own _ _ _ ([_, _, _]) := hS3
  refine OW_nil ?_
  refine FN66_CF6 rfl ?_
  refine OWF_op rfl ?_
  refine OW_fa rfl rfl rfl ?_
  refine OW_nil ?_
  refine OWF_fl rfl ?_
  refine OW_loadK hS2 (k := 1) rfl (by simp) rfl rfl rfl rfl (by first | exact part_whole rfl rfl rfl | rfl) ?_
  refine OW_nil ?_
  refine OWF_op rfl ?_
  refine OW_fn rfl rfl (Pl.clone hV hS3 (le_lit (ν := ν) (a := [3, 0, 1]) (b := [5, 0, 1]) (by decide)) (under_app [5, 0, 1] under_me) (before_lit (ν := ν) (a := [5, 0, 1]) (b := [6, 0, 1]) (by decide)) (by omega) fun O2 H4 hS4 => ?_) 
  replace hS4 : Own _ _ _ ([_, _, _, _]) := hS4
  refine OW_nil ?_
  refine FN66_CF6 rfl ?_
  refine OWF_op rfl ?_
  refine OW_fa rfl rfl rfl ?_
  refine OW_nil ?_
  refine OWF_fl rfl ?_
  refine OW_loadK hS2 (k := 1) rfl (by simp) rfl rfl rfl rfl (by first | exact part_whole rfl rfl rfl | rfl) ?_
  refine OW_nil ?_
  refine OWF_op rfl ?_
  refine OW_bdP rfl (pcons rfl (hS4.one (k := 1) rfl).1 (pcons rfl (hS4.one (k := 0) rfl).1 (pcons rfl rfl rfl))) rfl rfl rfl (cs := [_, _, _]) (fill1 rfl (hS4.one (k := 1) rfl).2 rfl (Nat.le_of_ble_eq_true rfl) rfl (fill1 rfl (hS4.one (k := 0) rfl).2 rfl (Nat.le_of_ble_eq_true rfl) rfl (fill1 rfl rfl rfl (Nat.le_of_ble_eq_true rfl) rfl rfl))) ?_
  refine OW_nil ?_
  refine FN66_CF6 rfl ?_
  refine OWF_op rfl ?_
  refine OW_mv rfl rfl ?_
  refine OW_nil ?_
  refine OWF_op rfl ?_
  refine OW_bd rfl rfl (v := .agg [_, _, _, _]) rfl ?_
  refine OW_nil ?_
  refine OWF_op rfl ?_
  refine OW_boxR hS4 (le_lit (ν := ν) (a := [6, 0, 1]) (b := [11, 0, 1]) (by decide)) (under_app [11, 0, 1] under_me) rfl rfl rfl ⟨rfl, rfl⟩ fun H5 hS5 => ?_
  replace hS5 : Own _ _ _ ([_, _, _, _, _]) := hS5
  refine OW_nil ?_
  refine FN66_CF6 rfl ?_
  refine OWF_op rfl ?_
  refine OW_as rfl rfl ?_
  refine OW_nil ?_
  refine OWF_nilE (e' := [_,_,_,_,_,_,_,_,_,_,_,_,_,_,_,_,_,_,_,_,_,_,_,_,_,_,_,_,_,_,_,_,_,_,_,_,_,_,_,_,_,_,_,_,_,_,_,_,_,_,_,_,_,_,_,_,_,_,_,_,_,_,_,_,_,_]) rfl ?_
  have hSB1 : Own _ _ _ ([_, _, _, _, _]) := (Own.back hS2 (k := 1) rfl (Own.back0 hS5) (k' := 4) rfl)
  refine XW_sr ?_
  refine OW_mv rfl rfl ?_
  refine OW_mfb rfl (by decide) rfl ?_
  refine OW_mv rfl rfl ?_
  refine EN66_CF6 rfl ?_
  refine OW_mfb rfl (by decide) rfl ?_
  refine OW_mv rfl rfl ?_
  refine OW_mfb rfl (by decide) rfl ?_
  refine EN66_CF6 rfl ?_
  refine OW_bd rfl rfl (v := .agg [_, _, _]) rfl ?_
  refine OW_allocR hSB1 (le_lit (ν := ν) (a := [12, 0, 1]) (b := [7, 0, 1, 1]) (by decide)) (under_app [7, 0, 1, 1] under_me) rfl rfl rfl rfl fun H6 hS6 => ?_
  replace hS6 : Own _ _ _ ([_, _, _, _, _, _]) := hS6
  first
  | refine OW_storeR hS6 (k := 0) rfl le_refl rfl rfl rfl rfl ⟨rfl, rfl, Nat.le_of_ble_eq_true rfl⟩ (set_whole rfl rfl) fun H7 hS7 => ?_
  | refine OW_storeR hS6 (k := 0) rfl le_refl rfl rfl rfl rfl ⟨rfl, rfl, Nat.le_of_ble_eq_true rfl⟩ (u2 := .agg [_, _, _]) rfl fun H7 hS7 => ?_
  replace hS7 : Own _ _ _ ([_, _, _, _, _, _]) := hS7
  refine EZ66_CF6 rfl ?_
  refine XW_seq ?_
  refine XW_sr ?_
  refine OW_mv rfl rfl ?_
  refine OW_fn rfl rfl (c_grouped ?_) 
  refine OW_un rfl rfl rfl ?_
  refine EN66_CF6 rfl ?_
  refine OW_mv rfl rfl ?_
  refine OW_split (tt := 39) rfl (fun g3_4 => ?_) (fun g3_4 => ?_)
  ·first
   |(exfalso; (try simp only [bs] at g3_4) <;> (first | (exact absurd rfl g3_4) | (exact g3_4 trivial) | omega | (simp at g3_4; done)); done)
   |skip
    try simp only [bs] at g3_4
    refine OW_no rfl ?_
    refine EN66_CF6 rfl ?_
    refine OW_no rfl ?_
    refine OW_pick rfl rfl rfl ?_
    refine OW_mv rfl rfl ?_
    refine EN66_CF6 rfl ?_
    refine OW_no rfl ?_
    refine OW_no rfl ?_
    refine OW_pick rfl rfl rfl ?_
    refine EZ66_CF6 rfl ?_
    refine XW_yes rfl rfl ?_
    refine XW_sr ?_
    refine OW_mv rfl rfl ?_
    first
    | refine OW_nc rfl rfl ?_
    | refine OW_nce rfl rfl ?_
    refine OW_fa rfl rfl rfl ?_
    refine EN66_CF6 rfl ?_
    refine OW_loadR hS7 (k := 1) rfl rfl rfl rfl rfl (by first | exact part_whole rfl rfl rfl | rfl) ?_
    first
    | refine OW_storeR hS7 (k := 4) rfl (le_lit (ν := ν) (a := [9, 0, 1, 1]) (b := [4, 0, 1, 0, 1, 1, 1]) (by decide)) rfl rfl rfl rfl ⟨rfl, rfl, Nat.le_of_ble_eq_true rfl⟩ (set_whole rfl rfl) fun H8 hS8 => ?_
    | refine OW_storeR hS7 (k := 4) rfl (le_lit (ν := ν) (a := [9, 0, 1, 1]) (b := [4, 0, 1, 0, 1, 1, 1]) (by decide)) rfl rfl rfl rfl ⟨rfl, rfl, Nat.le_of_ble_eq_true rfl⟩ (u2 := .agg [_, _, _]) rfl fun H8 hS8 => ?_
    replace hS8 : Own _ _ _ ([_, _, _, _, _, _]) := hS8
    refine OW_as rfl rfl ?_
    refine EN66_CF6 rfl ?_
    refine OW_as rfl rfl ?_
    refine EZ66_CF6 rfl ?_
    refine XW_ret ?_
    refine then_ret ?_
    -- outcome 1
    have fz2 := hS8.frz (k := 2) (n := 5) rfl (by first | exact map_plain (fun _ => rfl) | (intro x hx; simp at hx; done))
    have fz3 := hS8.frz (k := 3) (n := 5) rfl (by first | exact map_plain (fun _ => rfl) | (intro x hx; simp at hx; done))
    refine ret_ret (res3 rfl (rv_cellR hS8 (k := 4) rfl rfl rfl rfl (by first | exact part_whole rfl rfl rfl | rfl)) (rv_tmp rfl) (rv_tmp rfl)) (frz3 (Q := Q) (by first | exact freeze_plain rfl | exact Ls.freeze (by assumption) | exact Ls.freeze Ls.of | exact Ls.freeze Ls.emp | exact Ls.freeze Ls.nls | exact frA (frAc (by first | exact freeze_plain rfl | assumption | exact Ls.freeze Ls.of | exact Ls.freeze Ls.emp | exact Ls.freeze Ls.nls | exact Ls.freeze (by assumption)) (frAc (by first | exact freeze_plain rfl | assumption | exact Ls.freeze Ls.of | exact Ls.freeze Ls.emp | exact Ls.freeze Ls.nls | exact Ls.freeze (by assumption)) (frAc (by first | exact freeze_plain rfl | assumption | exact Ls.freeze Ls.of | exact Ls.freeze Ls.emp | exact Ls.freeze Ls.nls | exact Ls.freeze (by assumption)) frAn)))) (by first | exact freeze_plain rfl | exact Ls.freeze (by assumption) | exact Ls.freeze Ls.of | exact Ls.freeze Ls.emp | exact Ls.freeze Ls.nls) (by first | exact freeze_plain rfl | exact Ls.freeze (by assumption) | exact Ls.freeze Ls.of | exact Ls.freeze Ls.emp | exact Ls.freeze Ls.nls) ?_)
    first
    | exact hq
    | (refine qcast hq ?_; rfl)
    | (refine qcast hq ?_; simp; done)
    | (refine qcast hq ?_; simp; omega)
    | (refine qcast hq ?_; simp_all; done)
  ·first
   |(exfalso; (try simp only [bs] at g3_4) <;> (first | (exact absurd rfl g3_4) | (exact g3_4 trivial) | omega | (simp at g3_4; done)); done)
   |skip
    try simp only [bs] at g3_4
    refine OW_mv rfl rfl ?_
    refine EN66_CF6 rfl ?_
    refine OW_bin rfl rfl rfl rfl rfl ?_
    refine OW_pick rfl rfl rfl ?_
    refine OW_mv rfl rfl ?_
    refine EN66_CF6 rfl ?_
    refine OW_split (tt := 43) rfl (fun g3_8 => ?_) (fun g3_8 => ?_)
    ·first
     |(exfalso; (try simp only [bs] at g3_8) <;> (first | (exact absurd rfl g3_8) | (exact g3_8 trivial) | omega | (simp at g3_8; done)); done)
     |skip
      try simp only [bs] at g3_8
      refine OW_no rfl ?_
      refine OW_no rfl ?_
      refine EN66_CF6 rfl ?_
      refine OW_pick rfl rfl rfl ?_
      refine EZ66_CF6 rfl ?_
      refine XW_yes rfl rfl ?_
      refine XW_sr ?_
      refine OW_mv rfl rfl ?_
      first
      | refine OW_nc rfl rfl ?_
      | refine OW_nce rfl rfl ?_
      refine OW_fa rfl rfl rfl ?_
      refine EN66_CF6 rfl ?_
      refine OW_loadR hS7 (k := 1) rfl rfl rfl rfl rfl (by first | exact part_whole rfl rfl rfl | rfl) ?_
      first
      | refine OW_storeR hS7 (k := 4) rfl (le_lit (ν := ν) (a := [9, 0, 1, 1]) (b := [4, 0, 1, 0, 1, 1, 1]) (by decide)) rfl rfl rfl rfl ⟨rfl, rfl, Nat.le_of_ble_eq_true rfl⟩ (set_whole rfl rfl) fun H9 hS9 => ?_
      | refine OW_storeR hS7 (k := 4) rfl (le_lit (ν := ν) (a := [9, 0, 1, 1]) (b := [4, 0, 1, 0, 1, 1, 1]) (by decide)) rfl rfl rfl rfl ⟨rfl, rfl, Nat.le_of_ble_eq_true rfl⟩ (u2 := .agg [_, _, _]) rfl fun H9 hS9 => ?_
      replace hS9 : Own _ _ _ ([_, _, _, _, _, _]) := hS9
      refine OW_as rfl rfl ?_
      refine EN66_CF6 rfl ?_
      refine OW_as rfl rfl ?_
      refine EZ66_CF6 rfl ?_
      refine XW_ret ?_
      refine then_ret ?_
      -- outcome 2
      have fz2 := hS9.frz (k := 2) (n := 5) rfl (by first | exact map_plain (fun _ => rfl) | (intro x hx; simp at hx; done))
      have fz3 := hS9.frz (k := 3) (n := 5) rfl (by first | exact map_plain (fun _ => rfl) | (intro x hx; simp at hx; done))
      refine ret_ret (res3 rfl (rv_cellR hS9 (k := 4) rfl rfl rfl rfl (by first | exact part_whole rfl rfl rfl | rfl)) (rv_tmp rfl) (rv_tmp rfl)) (frz3 (Q := Q) (by first | exact freeze_plain rfl | exact Ls.freeze (by assumption) | exact Ls.freeze Ls.of | exact Ls.freeze Ls.emp | exact Ls.freeze Ls.nls | exact frA (frAc (by first | exact freeze_plain rfl | assumption | exact Ls.freeze Ls.of | exact Ls.freeze Ls.emp | exact Ls.freeze Ls.nls | exact Ls.freeze (by assumption)) (frAc (by first | exact freeze_plain rfl | assumption | exact Ls.freeze Ls.of | exact Ls.freeze Ls.emp | exact Ls.freeze Ls.nls | exact Ls.freeze (by assumption)) (frAc (by first | exact freeze_plain rfl | assumption | exact Ls.freeze Ls.of | exact Ls.freeze Ls.emp | exact Ls.freeze Ls.nls | exact Ls.freeze (by assumption)) frAn)))) (by first | exact freeze_plain rfl | exact Ls.freeze (by assumption) | exact Ls.freeze Ls.of | exact Ls.freeze Ls.emp | exact Ls.freeze Ls.nls) (by first | exact freeze_plain rfl | exact Ls.freeze (by assumption) | exact Ls.freeze Ls.of | exact Ls.freeze Ls.emp | exact Ls.freeze Ls.nls) ?_)
      first
      | exact hq
      | (refine qcast hq ?_; rfl)
      | (refine qcast hq ?_; simp; done)
      | (refine qcast hq ?_; simp; omega)
      | (refine qcast hq ?_; simp_all; done)
    ·first
     |(exfalso; (try simp only [bs] at g3_8) <;> (first | (exact absurd rfl g3_8) | (exact g3_8 trivial) | omega | (simp at g3_8; done)); done)
     |skip
      try simp only [bs] at g3_8
      refine OW_mv rfl rfl ?_
      refine OW_bin rfl rfl rfl rfl rfl ?_
      refine EN66_CF6 rfl ?_
      refine OW_pick rfl rfl rfl ?_
      refine EZ66_CF6 rfl ?_
      refine XW_if rfl (fun h3 => ?_) (fun h3 => ?_)
      ·first
       |(exfalso; (try simp only [bs] at h3) <;> (first | (exact absurd rfl h3) | (exact h3 trivial) | omega | (simp at h3; done)); done)
       |skip
        try simp only [bs] at h3
        refine XW_sr ?_
        refine OW_mv rfl rfl ?_
        first
        | refine OW_nc rfl rfl ?_
        | refine OW_nce rfl rfl ?_
        refine OW_fa rfl rfl rfl ?_
        refine EN66_CF6 rfl ?_
        refine OW_loadR hS7 (k := 1) rfl rfl rfl rfl rfl (by first | exact part_whole rfl rfl rfl | rfl) ?_
        first
        | refine OW_storeR hS7 (k := 4) rfl (le_lit (ν := ν) (a := [9, 0, 1, 1]) (b := [4, 0, 1, 0, 1, 1, 1]) (by decide)) rfl rfl rfl rfl ⟨rfl, rfl, Nat.le_of_ble_eq_true rfl⟩ (set_whole rfl rfl) fun H10 hS10 => ?_
        | refine OW_storeR hS7 (k := 4) rfl (le_lit (ν := ν) (a := [9, 0, 1, 1]) (b := [4, 0, 1, 0, 1, 1, 1]) (by decide)) rfl rfl rfl rfl ⟨rfl, rfl, Nat.le_of_ble_eq_true rfl⟩ (u2 := .agg [_, _, _]) rfl fun H10 hS10 => ?_
        replace hS10 : Own _ _ _ ([_, _, _, _, _, _]) := hS10
        refine OW_as rfl rfl ?_
        refine EN66_CF6 rfl ?_
        refine OW_as rfl rfl ?_
        refine EZ66_CF6 rfl ?_
        refine XW_ret ?_
        refine then_ret ?_
        -- outcome 3
        have fz2 := hS10.frz (k := 2) (n := 5) rfl (by first | exact map_plain (fun _ => rfl) | (intro x hx; simp at hx; done))
        have fz3 := hS10.frz (k := 3) (n := 5) rfl (by first | exact map_plain (fun _ => rfl) | (intro x hx; simp at hx; done))
        refine ret_ret (res3 rfl (rv_cellR hS10 (k := 4) rfl rfl rfl rfl (by first | exact part_whole rfl rfl rfl | rfl)) (rv_tmp rfl) (rv_tmp rfl)) (frz3 (Q := Q) (by first | exact freeze_plain rfl | exact Ls.freeze (by assumption) | exact Ls.freeze Ls.of | exact Ls.freeze Ls.emp | exact Ls.freeze Ls.nls | exact frA (frAc (by first | exact freeze_plain rfl | assumption | exact Ls.freeze Ls.of | exact Ls.freeze Ls.emp | exact Ls.freeze Ls.nls | exact Ls.freeze (by assumption)) (frAc (by first | exact freeze_plain rfl | assumption | exact Ls.freeze Ls.of | exact Ls.freeze Ls.emp | exact Ls.freeze Ls.nls | exact Ls.freeze (by assumption)) (frAc (by first | exact freeze_plain rfl | assumption | exact Ls.freeze Ls.of | exact Ls.freeze Ls.emp | exact Ls.freeze Ls.nls | exact Ls.freeze (by assumption)) frAn)))) (by first | exact freeze_plain rfl | exact Ls.freeze (by assumption) | exact Ls.freeze Ls.of | exact Ls.freeze Ls.emp | exact Ls.freeze Ls.nls) (by first | exact freeze_plain rfl | exact Ls.freeze (by assumption) | exact Ls.freeze Ls.of | exact Ls.freeze Ls.emp | exact Ls.freeze Ls.nls) ?_)
        first
        | exact hq
        | (refine qcast hq ?_; rfl)
        | (refine qcast hq ?_; simp; done)
        | (refine qcast hq ?_; simp; omega)
        | (refine qcast hq ?_; simp_all; done)
      · exfalso; (try simp only [bs] at h3) <;> (omega)
theorem p_run_0 {U V : AVal} (hU : Ls U (c.qs.map Qu.enc)) (hV : Ls V (c.ps.map Pl.enc)) {a b : Int} (hf : c.fit) (hg : ¬ (gs < 1 ∨ 4 < gs)) (hq : Q (.tup [(runS c gs 0 a b).1.enc, .int .i64 (runS c gs 0 a b).2.2, .int .u64 (runS c gs 0 a b).2.1]) H) : CW cfg ν 10 [.agg [U, V, .int .u64 c.nx], .int .i64 gs, .int .i64 0, .int .u64 a, .int .u64 b] H Q := by
  have hlp := hf.lp; have hlq := hf.lq
  rw [runS_0 hg] at hq
  skip
  refine CW_pure g10 F10 rfl ?_
  have hS0 : Own ν ν (fun _ => none) [] := Own.nil
  refine XW_sr ?_
  refine OW_boxR hS0 (le_app (p := ν) (b := [0, 0])) (under_app [0, 0] under_me) rfl rfl rfl ⟨rfl, rfl⟩ fun H1 hS1 => ?_
  replace hS1 : Own _ _ _ ([_]) := hS1
  refine OW_allocR hS1 le_refl (under_app [1, 0] under_me) rfl rfl rfl rfl fun H2 hS2 => ?_
  replace hS2 : Own _ _ _ ([_, _]) := hS2
  refine OW_as rfl rfl ?_
  refine EN66_CF6 rfl ?_
  refine OW_as rfl rfl ?_
  refine EZ66_CF6 rfl ?_
  refine XW_srF (qs := [0 :: 0 :: ν]) rfl rfl ?_
  have hSF1 : Own _ _ _ ([_, _]) := (Own.hide (Own.hide0 hS2) (k := 1) rfl)
  refine OWF_op rfl ?_
  refine OW_fa rfl rfl rfl ?_
  refine OW_nil ?_
  refine OWF_fl rfl ?_
  refine OW_loadK hS2 (k := 1) rfl (by simp) rfl rfl rfl rfl (by first | exact part_whole rfl rfl rfl | rfl) ?_
  refine OW_nil ?_
  refine OWF_op rfl ?_
  refine OW_fn rfl rfl (Qu.clone hU hSF1 (le_lit (ν := ν) (a := [2, 0]) (b := [2, 0, 1]) (by decide)) (under_app [2, 0, 1] under_me) (before_lit (ν := ν) (a := [2, 0, 1]) (b := [3, 0, 1]) (by decide)) (by omega) fun O1 H3 hS3 => ?_) 
  replace hS3 : Own _ _ _ ([_, _, _]) := hS3
  refine OW_nil ?_
  refine FN66_CF6 rfl ?_
  refine OWF_op rfl ?_
  refine OW_fa rfl rfl rfl ?_
  refine OW_nil ?_
  refine OWF_fl rfl ?_
  refine OW_loadK hS2 (k := 1) rfl (by simp) rfl rfl rfl rfl (by first | exact part_whole rfl rfl rfl | rfl) ?_
  refine OW_nil ?_
  refine OWF_op rfl ?_
  refine OW_fn rfl rfl (Pl.clone hV hS3 (le_lit (ν := ν) (a := [3, 0, 1]) (b := [5, 0, 1]) (by decide)) (under_app [5, 0, 1] under_me) (before_lit (ν := ν) (a := [5, 0, 1]) (b := [6, 0, 1]) (by decide)) (by omega) fun O2 H4 hS4 => ?_) 
  replace hS4 : Own _ _ _ ([_, _, _, _]) := hS4
  refine OW_nil ?_
  refine FN66_CF6 rfl ?_
  refine OWF_op rfl ?_
  refine OW_fa rfl rfl rfl ?_
  refine OW_nil ?_
  refine OWF_fl rfl ?_
  refine OW_loadK hS2 (k := 1) rfl (by simp) rfl rfl rfl rfl (by first | exact part_whole rfl rfl rfl | rfl) ?_
  refine OW_nil ?_
  refine OWF_op rfl ?_
  refine OW_bdP rfl (pcons rfl (hS4.one (k := 1) rfl).1 (pcons rfl (hS4.one (k := 0) rfl).1 (pcons rfl rfl rfl))) rfl rfl rfl (cs := [_, _, _]) (fill1 rfl (hS4.one (k := 1) rfl).2 rfl (Nat.le_of_ble_eq_true rfl) rfl (fill1 rfl (hS4.one (k := 0) rfl).2 rfl (Nat.le_of_ble_eq_true rfl) rfl (fill1 rfl rfl rfl (Nat.le_of_ble_eq_true rfl) rfl rfl))) ?_
  refine OW_nil ?_
  refine FN66_CF6 rfl ?_
  refine OWF_op rfl ?_
  refine OW_mv rfl rfl ?_
  refine OW_nil ?_
  refine OWF_op rfl ?_
  refine OW_bd rfl rfl (v := .agg [_, _, _, _]) rfl ?_
  refine OW_nil ?_
  refine OWF_op rfl ?_
  refine OW_boxR hS4 (le_lit (ν := ν) (a := [6, 0, 1]) (b := [11, 0, 1]) (by decide)) (under_app [11, 0, 1] under_me) rfl rfl rfl ⟨rfl, rfl⟩ fun H5 hS5 => ?_
  replace hS5 : Own _ _ _ ([_, _, _, _, _]) := hS5
  refine OW_nil ?_
  refine FN66_CF6 rfl ?_
  refine OWF_op rfl ?_
  refine OW_as rfl rfl ?_
  refine OW_nil ?_
  refine OWF_nilE (e' := [_,_,_,_,_,_,_,_,_,_,_,_,_,_,_,_,_,_,_,_,_,_,_,_,_,_,_,_,_,_,_,_,_,_,_,_,_,_,_,_,_,_,_,_,_,_,_,_,_,_,_,_,_,_,_,_,_,_,_,_,_,_,_,_,_,_]) rfl ?_
  have hSB1 : Own _ _ _ ([_, _, _, _, _]) := (Own.back hS2 (k := 1) rfl (Own.back0 hS5) (k' := 4) rfl)
  refine XW_sr ?_
  refine OW_mv rfl rfl ?_
  refine OW_mfb rfl (by decide) rfl ?_
  refine OW_mv rfl rfl ?_
  refine EN66_CF6 rfl ?_
  refine OW_mfb rfl (by decide) rfl ?_
  refine OW_mv rfl rfl ?_
  refine OW_mfb rfl (by decide) rfl ?_
  refine EN66_CF6 rfl ?_
  refine OW_bd rfl rfl (v := .agg [_, _, _]) rfl ?_
  refine OW_allocR hSB1 (le_lit (ν := ν) (a := [12, 0, 1]) (b := [7, 0, 1, 1]) (by decide)) (under_app [7, 0, 1, 1] under_me) rfl rfl rfl rfl fun H6 hS6 => ?_
  replace hS6 : Own _ _ _ ([_, _, _, _, _, _]) := hS6
  first
  | refine OW_storeR hS6 (k := 0) rfl le_refl rfl rfl rfl rfl ⟨rfl, rfl, Nat.le_of_ble_eq_true rfl⟩ (set_whole rfl rfl) fun H7 hS7 => ?_
  | refine OW_storeR hS6 (k := 0) rfl le_refl rfl rfl rfl rfl ⟨rfl, rfl, Nat.le_of_ble_eq_true rfl⟩ (u2 := .agg [_, _, _]) rfl fun H7 hS7 => ?_
  replace hS7 : Own _ _ _ ([_, _, _, _, _, _]) := hS7
  refine EZ66_CF6 rfl ?_
  refine XW_seq ?_
  refine XW_sr ?_
  refine OW_mv rfl rfl ?_
  refine OW_fn rfl rfl (c_grouped ?_) 
  refine OW_un rfl rfl rfl ?_
  refine EN66_CF6 rfl ?_
  refine OW_mv rfl rfl ?_
  refine OW_split (tt := 39) rfl (fun g3_4 => ?_) (fun g3_4 => ?_)
  ·first
   |(exfalso; (try simp only [bs] at g3_4) <;> (first | omega | contradiction); done)
   |skip
    try simp only [bs] at g3_4
    refine OW_no rfl ?_
    refine EN66_CF6 rfl ?_
    refine OW_no rfl ?_
    refine OW_pick rfl rfl rfl ?_
    refine OW_mv rfl rfl ?_
    refine EN66_CF6 rfl ?_
    refine OW_no rfl ?_
    refine OW_no rfl ?_
    refine OW_pick rfl rfl rfl ?_
    refine EZ66_CF6 rfl ?_
    refine XW_yes rfl rfl ?_
    refine XW_sr ?_
    refine OW_mv rfl rfl ?_
    first
    | refine OW_nc rfl rfl ?_
    | refine OW_nce rfl rfl ?_
    refine OW_fa rfl rfl rfl ?_
    refine EN66_CF6 rfl ?_
    refine OW_loadR hS7 (k := 1) rfl rfl rfl rfl rfl (by first | exact part_whole rfl rfl rfl | rfl) ?_
    first
    | refine OW_storeR hS7 (k := 4) rfl (le_lit (ν := ν) (a := [9, 0, 1, 1]) (b := [4, 0, 1, 0, 1, 1, 1]) (by decide)) rfl rfl rfl rfl ⟨rfl, rfl, Nat.le_of_ble_eq_true rfl⟩ (set_whole rfl rfl) fun H8 hS8 => ?_
    | refine OW_storeR hS7 (k := 4) rfl (le_lit (ν := ν) (a := [9, 0, 1, 1]) (b := [4, 0, 1, 0, 1, 1, 1]) (by decide)) rfl rfl rfl rfl ⟨rfl, rfl, Nat.le_of_ble_eq_true rfl⟩ (u2 := .agg [_, _, _]) rfl fun H8 hS8 => ?_
    replace hS8 : Own _ _ _ ([_, _, _, _, _, _]) := hS8
    refine OW_as rfl rfl ?_
    refine EN66_CF6 rfl ?_
    refine OW_as rfl rfl ?_
    refine EZ66_CF6 rfl ?_
    refine XW_ret ?_
    refine then_ret ?_
    -- outcome 1
    have fz2 := hS8.frz (k := 2) (n := 5) rfl (by first | exact map_plain (fun _ => rfl) | (intro x hx; simp at hx; done))
    have fz3 := hS8.frz (k := 3) (n := 5) rfl (by first | exact map_plain (fun _ => rfl) | (intro x hx; simp at hx; done))
    refine ret_ret (res3 rfl (rv_cellR hS8 (k := 4) rfl rfl rfl rfl (by first | exact part_whole rfl rfl rfl | rfl)) (rv_tmp rfl) (rv_tmp rfl)) (frz3 (Q := Q) (by first | exact freeze_plain rfl | exact Ls.freeze (by assumption) | exact Ls.freeze Ls.of | exact Ls.freeze Ls.emp | exact Ls.freeze Ls.nls | exact frA (frAc (by first | exact freeze_plain rfl | assumption | exact Ls.freeze Ls.of | exact Ls.freeze Ls.emp | exact Ls.freeze Ls.nls | exact Ls.freeze (by assumption)) (frAc (by first | exact freeze_plain rfl | assumption | exact Ls.freeze Ls.of | exact Ls.freeze Ls.emp | exact Ls.freeze Ls.nls | exact Ls.freeze (by assumption)) (frAc (by first | exact freeze_plain rfl | assumption | exact Ls.freeze Ls.of | exact Ls.freeze Ls.emp | exact Ls.freeze Ls.nls | exact Ls.freeze (by assumption)) frAn)))) (by first | exact freeze_plain rfl | exact Ls.freeze (by assumption) | exact Ls.freeze Ls.of | exact Ls.freeze Ls.emp | exact Ls.freeze Ls.nls) (by first | exact freeze_plain rfl | exact Ls.freeze (by assumption) | exact Ls.freeze Ls.of | exact Ls.freeze Ls.emp | exact Ls.freeze Ls.nls) ?_)
    first
    | exact hq
    | (refine qcast hq ?_; rfl)
    | (refine qcast hq ?_; simp; done)
    | (refine qcast hq ?_; simp; omega)
    | (refine qcast hq ?_; simp_all; done)
  ·first
   |(exfalso; (try simp only [bs] at g3_4) <;> (first | omega | contradiction); done)
   |skip
    try simp only [bs] at g3_4
    refine OW_mv rfl rfl ?_
    refine EN66_CF6 rfl ?_
    refine OW_bin rfl rfl rfl rfl rfl ?_
    refine OW_pick rfl rfl rfl ?_
    refine OW_mv rfl rfl ?_
    refine EN66_CF6 rfl ?_
    refine OW_split (tt := 43) rfl (fun g3_8 => ?_) (fun g3_8 => ?_)
    ·first
     |(exfalso; (try simp only [bs] at g3_8) <;> (first | omega | contradiction); done)
     |skip
      try simp only [bs] at g3_8
      refine OW_no rfl ?_
      refine OW_no rfl ?_
      refine EN66_CF6 rfl ?_
      refine OW_pick rfl rfl rfl ?_
      refine EZ66_CF6 rfl ?_
      refine XW_yes rfl rfl ?_
      refine XW_sr ?_
      refine OW_mv rfl rfl ?_
      first
      | refine OW_nc rfl rfl ?_
      | refine OW_nce rfl rfl ?_
      refine OW_fa rfl rfl rfl ?_
      refine EN66_CF6 rfl ?_
      refine OW_loadR hS7 (k := 1) rfl rfl rfl rfl rfl (by first | exact part_whole rfl rfl rfl | rfl) ?_
      first
      | refine OW_storeR hS7 (k := 4) rfl (le_lit (ν := ν) (a := [9, 0, 1, 1]) (b := [4, 0, 1, 0, 1, 1, 1]) (by decide)) rfl rfl rfl rfl ⟨rfl, rfl, Nat.le_of_ble_eq_true rfl⟩ (set_whole rfl rfl) fun H9 hS9 => ?_
      | refine OW_storeR hS7 (k := 4) rfl (le_lit (ν := ν) (a := [9, 0, 1, 1]) (b := [4, 0, 1, 0, 1, 1, 1]) (by decide)) rfl rfl rfl rfl ⟨rfl, rfl, Nat.le_of_ble_eq_true rfl⟩ (u2 := .agg [_, _, _]) rfl fun H9 hS9 => ?_
      replace hS9 : Own _ _ _ ([_, _, _, _, _, _]) := hS9
      refine OW_as rfl rfl ?_
      refine EN66_CF6 rfl ?_
      refine OW_as rfl rfl ?_
      refine EZ66_CF6 rfl ?_
      refine XW_ret ?_
      refine then_ret ?_
      -- outcome 2
      have fz2 := hS9.frz (k := 2) (n := 5) rfl (by first | exact map_plain (fun _ => rfl) | (intro x hx; simp at hx; done))
      have fz3 := hS9.frz (k := 3) (n := 5) rfl (by first | exact map_plain (fun _ => rfl) | (intro x hx; simp at hx; done))
      refine ret_ret (res3 rfl (rv_cellR hS9 (k := 4) rfl rfl rfl rfl (by first | exact part_whole rfl rfl rfl | rfl)) (rv_tmp rfl) (rv_tmp rfl)) (frz3 (Q := Q) (by first | exact freeze_plain rfl | exact Ls.freeze (by assumption) | exact Ls.freeze Ls.of | exact Ls.freeze Ls.emp | exact Ls.freeze Ls.nls | exact frA (frAc (by first | exact freeze_plain rfl | assumption | exact Ls.freeze Ls.of | exact Ls.freeze Ls.emp | exact Ls.freeze Ls.nls | exact Ls.freeze (by assumption)) (frAc (by first | exact freeze_plain rfl | assumption | exact Ls.freeze Ls.of | exact Ls.freeze Ls.emp | exact Ls.freeze Ls.nls | exact Ls.freeze (by assumption)) (frAc (by first | exact freeze_plain rfl | assumption | exact Ls.freeze Ls.of | exact Ls.freeze Ls.emp | exact Ls.freeze Ls.nls | exact Ls.freeze (by assumption)) frAn)))) (by first | exact freeze_plain rfl | exact Ls.freeze (by assumption) | exact Ls.freeze Ls.of | exact Ls.freeze Ls.emp | exact Ls.freeze Ls.nls) (by first | exact freeze_plain rfl | exact Ls.freeze (by assumption) | exact Ls.freeze Ls.of | exact Ls.freeze Ls.emp | exact Ls.freeze Ls.nls) ?_)
      first
      | exact hq
      | (refine qcast hq ?_; rfl)
      | (refine qcast hq ?_; simp; done)
      | (refine qcast hq ?_; simp; omega)
      | (refine qcast hq ?_; simp_all; done)
    ·first
     |(exfalso; (try simp only [bs] at g3_8) <;> (first | omega | contradiction); done)
     |skip
      try simp only [bs] at g3_8
      refine OW_mv rfl rfl ?_
      refine OW_bin rfl rfl rfl rfl rfl ?_
      refine EN66_CF6 rfl ?_
      refine OW_pick rfl rfl rfl ?_
      refine EZ66_CF6 rfl ?_
      refine XW_if rfl (fun h3 => ?_) (fun h3 => ?_)
      · exfalso; (try simp only [bs] at h3) <;> (omega)
      ·first
       |(exfalso; (try simp only [bs] at h3) <;> (first | omega | contradiction); done)
       |skip
        try simp only [bs] at h3
        refine XW_skip ?_
        refine then_norm ?_
        refine XW_sr ?_
        replace hS7 := Own.mk_svc (c := c) (Own.rot (A := [_]) (Own.pick (Own.rot (A := [_, _, _]) hS7) (k := 2) rfl))
        refine OW_mv rfl rfl ?_
        refine OW_ia rfl rfl rfl (by first | rfl | exact ia_arr rfl rfl rfl (by omega) (by omega)) ?_
        refine OW_loadR hS7 (k := 1) rfl rfl rfl rfl rfl (by first | exact part_whole rfl rfl rfl | rfl) ?_
        refine EN66_CF6 rfl ?_
        refine OW_mv rfl rfl ?_
        refine OW_mv rfl rfl ?_
        refine OW_fvb rfl rfl rfl (ten_c hS7 (k := 0) rfl (le_lit (ν := ν) (a := [9, 0, 1, 1]) (b := [5, 0, 1, 1, 1, 1]) (by decide)) (under_app [5, 0, 1, 1, 1, 1] under_me) (before_lit (ν := ν) (a := [5, 0, 1, 1, 1, 1]) (b := [6, 0, 1, 1, 1, 1]) (by decide)) hf _ _ fun H10 hS10 => ?_)
        replace hS10 : Own _ _ _ ([_, _, _, _]) := hS10
        refine EN66_CF6 rfl ?_
        refine OW_mv rfl rfl ?_
        refine OW_ex rfl rfl rfl ?_
        refine OW_ex rfl rfl rfl ?_
        refine EN66_CF6 rfl ?_
        refine OW_as rfl rfl ?_
        refine OW_as rfl rfl ?_
        refine EZ66_CF6 rfl ?_
        refine XW_sr ?_
        obtain ⟨U2, V2, hz⟩ := Own.un_svc hS10
        replace hS10 := hz
        refine OW_mv rfl rfl ?_
        first
        | refine OW_nc rfl rfl ?_
        | refine OW_nce rfl rfl ?_
        refine OW_fa rfl rfl rfl ?_
        refine EN66_CF6 rfl ?_
        refine OW_loadR hS10 (k := 0) rfl rfl rfl rfl rfl (by first | exact part_whole rfl rfl rfl | rfl) ?_
        refine OW_mv rfl rfl ?_
        refine OW_mv rfl rfl ?_
        refine EN66_CF6 rfl ?_
        first
        | refine OW_storeR hS10 (k := 4) rfl (le_lit (ν := ν) (a := [6, 0, 1, 1, 1, 1]) (b := [6, 0, 1, 1, 1, 1, 1]) (by decide)) rfl rfl rfl rfl ⟨rfl, rfl, Nat.le_of_ble_eq_true rfl⟩ (set_whole rfl rfl) fun H11 hS11 => ?_
        | refine OW_storeR hS10 (k := 4) rfl (le_lit (ν := ν) (a := [6, 0, 1, 1, 1, 1]) (b := [6, 0, 1, 1, 1, 1, 1]) (by decide)) rfl rfl rfl rfl ⟨rfl, rfl, Nat.le_of_ble_eq_true rfl⟩ (u2 := .agg [_, _, _]) rfl fun H11 hS11 => ?_
        replace hS11 : Own _ _ _ ([_, _, _, _, _, _]) := hS11
        refine OW_as rfl rfl ?_
        refine OW_as rfl rfl ?_
        refine EZ66_CF6 rfl ?_
        refine XW_ret ?_
        -- outcome 3
        have fz1 := hS11.frz (k := 1) (n := 5) rfl (by first | exact map_plain (fun _ => rfl) | (intro x hx; simp at hx; done))
        have fz2 := hS11.frz (k := 2) (n := 5) rfl (by first | exact map_plain (fun _ => rfl) | (intro x hx; simp at hx; done))
        refine ret_ret (res3 rfl (rv_cellR hS11 (k := 4) rfl rfl rfl rfl (by first | exact part_whole rfl rfl rfl | rfl)) (rv_tmp rfl) (rv_tmp rfl)) (frz3 (Q := Q) (by first | exact freeze_plain rfl | exact Ls.freeze (by assumption) | exact Ls.freeze Ls.of | exact Ls.freeze Ls.emp | exact Ls.freeze Ls.nls | exact frA (frAc (by first | exact freeze_plain rfl | assumption | exact Ls.freeze Ls.of | exact Ls.freeze Ls.emp | exact Ls.freeze Ls.nls | exact Ls.freeze (by assumption)) (frAc (by first | exact freeze_plain rfl | assumption | exact Ls.freeze Ls.of | exact Ls.freeze Ls.emp | exact Ls.freeze Ls.nls | exact Ls.freeze (by assumption)) (frAc (by first | exact freeze_plain rfl | assumption | exact Ls.freeze Ls.of | exact Ls.freeze Ls.emp | exact Ls.freeze Ls.nls | exact Ls.freeze (by assumption)) frAn)))) (by first | exact freeze_plain rfl | exact Ls.freeze (by assumption) | exact Ls.freeze Ls.of | exact Ls.freeze Ls.emp | exact Ls.freeze Ls.nls) (by first | exact freeze_plain rfl | exact Ls.freeze (by assumption) | exact Ls.freeze Ls.of | exact Ls.freeze Ls.emp | exact Ls.freeze Ls.nls) ?_)
        first
        | exact hq
        | (refine qcast hq ?_; rfl)
        | (refine qcast hq ?_; simp; done)
        | (refine qcast hq ?_; simp; omega)
        | (refine qcast hq ?_; simp_all; done)
theorem p_run_1 {U V : AVal} (hU : Ls U (c.qs.map Qu.enc)) (hV : Ls V (c.ps.map Pl.enc)) {a b : Int} (hf : c.fit) (hg : ¬ (gs < 1 ∨ 4 < gs)) (hb : 0 ≤ b) (hq : Q (.tup [(runS c gs 1 a b).1.enc, .int .i64 (runS c gs 1 a b).2.2, .int .u64 (runS c gs 1 a b).2.1]) H) : CW cfg ν 10 [.agg [U, V, .int .u64 c.nx], .int .i64 gs, .int .i64 1, .int .u64 a, .int .u64 b] H Q := by
  have hlp := hf.lp; have hlq := hf.lq
  rw [runS_1 hg] at hq
  obtain ⟨n, rfl⟩ := Int.eq_ofNat_of_zero_le (show 0 ≤ gs by omega)
  refine CW_pure g10 F10 rfl ?_
  have hS0 : Own ν ν (fun _ => none) [] := Own.nil
  refine XW_sr ?_
  refine OW_boxR hS0 (le_app (p := ν) (b := [0, 0])) (under_app [0, 0] under_me) rfl rfl rfl ⟨rfl, rfl⟩ fun H1 hS1 => ?_
  replace hS1 : Own _ _ _ ([_]) := hS1
  refine OW_allocR hS1 le_refl (under_app [1, 0] under_me) rfl rfl rfl rfl fun H2 hS2 => ?_
  replace hS2 : Own _ _ _ ([_, _]) := hS2
  refine OW_as rfl rfl ?_
  refine EN66_CF6 rfl ?_
  refine OW_as rfl rfl ?_
  refine EZ66_CF6 rfl ?_
  refine XW_srF (qs := [0 :: 0 :: ν]) rfl rfl ?_
  have hSF1 : Own _ _ _ ([_, _]) := (Own.hide (Own.hide0 hS2) (k := 1) rfl)
  refine OWF_op rfl ?_
  refine OW_fa rfl rfl rfl ?_
  refine OW_nil ?_
  refine OWF_fl rfl ?_
  refine OW_loadK hS2 (k := 1) rfl (by simp) rfl rfl rfl rfl (by first | exact part_whole rfl rfl rfl | rfl) ?_
  refine OW_nil ?_
  refine OWF_op rfl ?_
  refine OW_fn rfl rfl (Qu.clone hU hSF1 (le_lit (ν := ν) (a := [2, 0]) (b := [2, 0, 1]) (by decide)) (under_app [2, 0, 1] under_me) (before_lit (ν := ν) (a := [2, 0, 1]) (b := [3, 0, 1]) (by decide)) (by omega) fun O1 H3 hS3 => ?_) 
  replace hS3 : Own _ _ _ ([_, _, _]) := hS3
  refine OW_nil ?_
  refine FN66_CF6 rfl ?_
  refine OWF_op rfl ?_
  refine OW_fa rfl rfl rfl ?_
  refine OW_nil ?_
  refine OWF_fl rfl ?_
  refine OW_loadK hS2 (k := 1) rfl (by simp) rfl rfl rfl rfl (by first | exact part_whole rfl rfl rfl | rfl) ?_
  refine OW_nil ?_
  refine OWF_op rfl ?_
  refine OW_fn rfl rfl (Pl.clone hV hS3 (le_lit (ν := ν) (a := [3, 0, 1]) (b := [5, 0, 1]) (by decide)) (under_app [5, 0, 1] under_me) (before_lit (ν := ν) (a := [5, 0, 1]) (b := [6, 0, 1]) (by decide)) (by omega) fun O2 H4 hS4 => ?_) 
  replace hS4 : Own _ _ _ ([_, _, _, _]) := hS4
  refine OW_nil ?_
  refine FN66_CF6 rfl ?_
  refine OWF_op rfl ?_
  refine OW_fa rfl rfl rfl ?_
  refine OW_nil ?_
  refine OWF_fl rfl ?_
  refine OW_loadK hS2 (k := 1) rfl (by simp) rfl rfl rfl rfl (by first | exact part_whole rfl rfl rfl | rfl) ?_
  refine OW_nil ?_
  refine OWF_op rfl ?_
  refine OW_bdP rfl (pcons rfl (hS4.one (k := 1) rfl).1 (pcons rfl (hS4.one (k := 0) rfl).1 (pcons rfl rfl rfl))) rfl rfl rfl (cs := [_, _, _]) (fill1 rfl (hS4.one (k := 1) rfl).2 rfl (Nat.le_of_ble_eq_true rfl) rfl (fill1 rfl (hS4.one (k := 0) rfl).2 rfl (Nat.le_of_ble_eq_true rfl) rfl (fill1 rfl rfl rfl (Nat.le_of_ble_eq_true rfl) rfl rfl))) ?_
  refine OW_nil ?_
  refine FN66_CF6 rfl ?_
  refine OWF_op rfl ?_
  refine OW_mv rfl rfl ?_
  refine OW_nil ?_
  refine OWF_op rfl ?_
  refine OW_bd rfl rfl (v := .agg [_, _, _, _]) rfl ?_
  refine OW_nil ?_
  refine OWF_op rfl ?_
  refine OW_boxR hS4 (le_lit (ν := ν) (a := [6, 0, 1]) (b := [11, 0, 1]) (by decide)) (under_app [11, 0, 1] under_me) rfl rfl rfl ⟨rfl, rfl⟩ fun H5 hS5 => ?_
  replace hS5 : Own _ _ _ ([_, _, _, _, _]) := hS5
  refine OW_nil ?_
  refine FN66_CF6 rfl ?_
  refine OWF_op rfl ?_
  refine OW_as rfl rfl ?_
  refine OW_nil ?_
  refine OWF_nilE (e' := [_,_,_,_,_,_,_,_,_,_,_,_,_,_,_,_,_,_,_,_,_,_,_,_,_,_,_,_,_,_,_,_,_,_,_,_,_,_,_,_,_,_,_,_,_,_,_,_,_,_,_,_,_,_,_,_,_,_,_,_,_,_,_,_,_,_]) rfl ?_
  have hSB1 : Own _ _ _ ([_, _, _, _, _]) := (Own.back hS2 (k := 1) rfl (Own.back0 hS5) (k' := 4) rfl)
  refine XW_sr ?_
  refine OW_mv rfl rfl ?_
  refine OW_mfb rfl (by decide) rfl ?_
  refine OW_mv rfl rfl ?_
  refine EN66_CF6 rfl ?_
  refine OW_mfb rfl (by decide) rfl ?_
  refine OW_mv rfl rfl ?_
  refine OW_mfb rfl (by decide) rfl ?_
  refine EN66_CF6 rfl ?_
  refine OW_bd rfl rfl (v := .agg [_, _, _]) rfl ?_
  refine OW_allocR hSB1 (le_lit (ν := ν) (a := [12, 0, 1]) (b := [7, 0, 1, 1]) (by decide)) (under_app [7, 0, 1, 1] under_me) rfl rfl rfl rfl fun H6 hS6 => ?_
  replace hS6 : Own _ _ _ ([_, _, _, _, _, _]) := hS6
  first
  | refine OW_storeR hS6 (k := 0) rfl le_refl rfl rfl rfl rfl ⟨rfl, rfl, Nat.le_of_ble_eq_true rfl⟩ (set_whole rfl rfl) fun H7 hS7 => ?_
  | refine OW_storeR hS6 (k := 0) rfl le_refl rfl rfl rfl rfl ⟨rfl, rfl, Nat.le_of_ble_eq_true rfl⟩ (u2 := .agg [_, _, _]) rfl fun H7 hS7 => ?_
  replace hS7 : Own _ _ _ ([_, _, _, _, _, _]) := hS7
  refine EZ66_CF6 rfl ?_
  refine XW_seq ?_
  refine XW_sr ?_
  refine OW_mv rfl rfl ?_
  refine OW_fn rfl rfl (c_grouped ?_) 
  refine OW_un rfl rfl rfl ?_
  refine EN66_CF6 rfl ?_
  refine OW_mv rfl rfl ?_
  refine OW_split (tt := 39) rfl (fun g3_4 => ?_) (fun g3_4 => ?_)
  ·first
   |(exfalso; (try simp only [bs] at g3_4) <;> (first | omega | contradiction); done)
   |skip
    try simp only [bs] at g3_4
    refine OW_no rfl ?_
    refine EN66_CF6 rfl ?_
    refine OW_no rfl ?_
    refine OW_pick rfl rfl rfl ?_
    refine OW_mv rfl rfl ?_
    refine EN66_CF6 rfl ?_
    refine OW_no rfl ?_
    refine OW_no rfl ?_
    refine OW_pick rfl rfl rfl ?_
    refine EZ66_CF6 rfl ?_
    refine XW_yes rfl rfl ?_
    refine XW_sr ?_
    refine OW_mv rfl rfl ?_
    first
    | refine OW_nc rfl rfl ?_
    | refine OW_nce rfl rfl ?_
    refine OW_fa rfl rfl rfl ?_
    refine EN66_CF6 rfl ?_
    refine OW_loadR hS7 (k := 1) rfl rfl rfl rfl rfl (by first | exact part_whole rfl rfl rfl | rfl) ?_
    first
    | refine OW_storeR hS7 (k := 4) rfl (le_lit (ν := ν) (a := [9, 0, 1, 1]) (b := [4, 0, 1, 0, 1, 1, 1]) (by decide)) rfl rfl rfl rfl ⟨rfl, rfl, Nat.le_of_ble_eq_true rfl⟩ (set_whole rfl rfl) fun H8 hS8 => ?_
    | refine OW_storeR hS7 (k := 4) rfl (le_lit (ν := ν) (a := [9, 0, 1, 1]) (b := [4, 0, 1, 0, 1, 1, 1]) (by decide)) rfl rfl rfl rfl ⟨rfl, rfl, Nat.le_of_ble_eq_true rfl⟩ (u2 := .agg [_, _, _]) rfl fun H8 hS8 => ?_
    replace hS8 : Own _ _ _ ([_, _, _, _, _, _]) := hS8
    refine OW_as rfl rfl ?_
    refine EN66_CF6 rfl ?_
    refine OW_as rfl rfl ?_
    refine EZ66_CF6 rfl ?_
    refine XW_ret ?_
    refine then_ret ?_
    -- outcome 1
    have fz2 := hS8.frz (k := 2) (n := 5) rfl (by first | exact map_plain (fun _ => rfl) | (intro x hx; simp at hx; done))
    have fz3 := hS8.frz (k := 3) (n := 5) rfl (by first | exact map_plain (fun _ => rfl) | (intro x hx; simp at hx; done))
    refine ret_ret (res3 rfl (rv_cellR hS8 (k := 4) rfl rfl rfl rfl (by first | exact part_whole rfl rfl rfl | rfl)) (rv_tmp rfl) (rv_tmp rfl)) (frz3 (Q := Q) (by first | exact freeze_plain rfl | exact Ls.freeze (by assumption) | exact Ls.freeze Ls.of | exact Ls.freeze Ls.emp | exact Ls.freeze Ls.nls | exact frA (frAc (by first | exact freeze_plain rfl | assumption | exact Ls.freeze Ls.of | exact Ls.freeze Ls.emp | exact Ls.freeze Ls.nls | exact Ls.freeze (by assumption)) (frAc (by first | exact freeze_plain rfl | assumption | exact Ls.freeze Ls.of | exact Ls.freeze Ls.emp | exact Ls.freeze Ls.nls | exact Ls.freeze (by assumption)) (frAc (by first | exact freeze_plain rfl | assumption | exact Ls.freeze Ls.of | exact Ls.freeze Ls.emp | exact Ls.freeze Ls.nls | exact Ls.freeze (by assumption)) frAn)))) (by first | exact freeze_plain rfl | exact Ls.freeze (by assumption) | exact Ls.freeze Ls.of | exact Ls.freeze Ls.emp | exact Ls.freeze Ls.nls) (by first | exact freeze_plain rfl | exact Ls.freeze (by assumption) | exact Ls.freeze Ls.of | exact Ls.freeze Ls.emp | exact Ls.freeze Ls.nls) ?_)
    first
    | exact hq
    | (refine qcast hq ?_; rfl)
    | (refine qcast hq ?_; simp; done)
    | (refine qcast hq ?_; simp; omega)
    | (refine qcast hq ?_; simp_all; done)
  ·first
   |(exfalso; (try simp only [bs] at g3_4) <;> (first | omega | contradiction); done)
   |skip
    try simp only [bs] at g3_4
    refine OW_mv rfl rfl ?_
    refine EN66_CF6 rfl ?_
    refine OW_bin rfl rfl rfl rfl rfl ?_
    refine OW_pick rfl rfl rfl ?_
    refine OW_mv rfl rfl ?_
    refine EN66_CF6 rfl ?_
    refine OW_split (tt := 43) rfl (fun g3_8 => ?_) (fun g3_8 => ?_)
    ·first
     |(exfalso; (try simp only [bs] at g3_8) <;> (first | omega | contradiction); done)
     |skip
      try simp only [bs] at g3_8
      refine OW_no rfl ?_
      refine OW_no rfl ?_
      refine EN66_CF6 rfl ?_
      refine OW_pick rfl rfl rfl ?_
      refine EZ66_CF6 rfl ?_
      refine XW_yes rfl rfl ?_
      refine XW_sr ?_
      refine OW_mv rfl rfl ?_
      first
      | refine OW_nc rfl rfl ?_
      | refine OW_nce rfl rfl ?_
      refine OW_fa rfl rfl rfl ?_
      refine EN66_CF6 rfl ?_
      refine OW_loadR hS7 (k := 1) rfl rfl rfl rfl rfl (by first | exact part_whole rfl rfl rfl | rfl) ?_
      first
      | refine OW_storeR hS7 (k := 4) rfl (le_lit (ν := ν) (a := [9, 0, 1, 1]) (b := [4, 0, 1, 0, 1, 1, 1]) (by decide)) rfl rfl rfl rfl ⟨rfl, rfl, Nat.le_of_ble_eq_true rfl⟩ (set_whole rfl rfl) fun H9 hS9 => ?_
      | refine OW_storeR hS7 (k := 4) rfl (le_lit (ν := ν) (a := [9, 0, 1, 1]) (b := [4, 0, 1, 0, 1, 1, 1]) (by decide)) rfl rfl rfl rfl ⟨rfl, rfl, Nat.le_of_ble_eq_true rfl⟩ (u2 := .agg [_, _, _]) rfl fun H9 hS9 => ?_
      replace hS9 : Own _ _ _ ([_, _, _, _, _, _]) := hS9
      refine OW_as rfl rfl ?_
      refine EN66_CF6 rfl ?_
      refine OW_as rfl rfl ?_
      refine EZ66_CF6 rfl ?_
      refine XW_ret ?_
      refine then_ret ?_
      -- outcome 2
      have fz2 := hS9.frz (k := 2) (n := 5) rfl (by first | exact map_plain (fun _ => rfl) | (intro x hx; simp at hx; done))
      have fz3 := hS9.frz (k := 3) (n := 5) rfl (by first | exact map_plain (fun _ => rfl) | (intro x hx; simp at hx; done))
      refine ret_ret (res3 rfl (rv_cellR hS9 (k := 4) rfl rfl rfl rfl (by first | exact part_whole rfl rfl rfl | rfl)) (rv_tmp rfl) (rv_tmp rfl)) (frz3 (Q := Q) (by first | exact freeze_plain rfl | exact Ls.freeze (by assumption) | exact Ls.freeze Ls.of | exact Ls.freeze Ls.emp | exact Ls.freeze Ls.nls | exact frA (frAc (by first | exact freeze_plain rfl | assumption | exact Ls.freeze Ls.of | exact Ls.freeze Ls.emp | exact Ls.freeze Ls.nls | exact Ls.freeze (by assumption)) (frAc (by first | exact freeze_plain rfl | assumption | exact Ls.freeze Ls.of | exact Ls.freeze Ls.emp | exact Ls.freeze Ls.nls | exact Ls.freeze (by assumption)) (frAc (by first | exact freeze_plain rfl | assumption | exact Ls.freeze Ls.of | exact Ls.freeze Ls.emp | exact Ls.freeze Ls.nls | exact Ls.freeze (by assumption)) frAn)))) (by first | exact freeze_plain rfl | exact Ls.freeze (by assumption) | exact Ls.freeze Ls.of | exact Ls.freeze Ls.emp | exact Ls.freeze Ls.nls) (by first | exact freeze_plain rfl | exact Ls.freeze (by assumption) | exact Ls.freeze Ls.of | exact Ls.freeze Ls.emp | exact Ls.freeze Ls.nls) ?_)
      first
      | exact hq
      | (refine qcast hq ?_; rfl)
      | (refine qcast hq ?_; simp; done)
      | (refine qcast hq ?_; simp; omega)
      | (refine qcast hq ?_; simp_all; done)
    ·first
     |(exfalso; (try simp only [bs] at g3_8) <;> (first | omega | contradiction); done)
     |skip
      try simp only [bs] at g3_8
      refine OW_mv rfl rfl ?_
      refine OW_bin rfl rfl rfl rfl rfl ?_
      refine EN66_CF6 rfl ?_
      refine OW_pick rfl rfl rfl ?_
      refine EZ66_CF6 rfl ?_
      refine XW_if rfl (fun h3 => ?_) (fun h3 => ?_)
      · exfalso; (try simp only [bs] at h3) <;> (omega)
      ·first
       |(exfalso; (try simp only [bs] at h3) <;> (first | omega | contradiction); done)
       |skip
        try simp only [bs] at h3
        refine XW_skip ?_
        refine then_norm ?_
        refine XW_sr ?_
        replace hS7 := Own.mk_svc (c := c) (Own.rot (A := [_]) (Own.pick (Own.rot (A := [_, _, _]) hS7) (k := 2) rfl))
        refine OW_mv rfl rfl ?_
        refine OW_ia rfl rfl rfl (by first | rfl | exact ia_arr rfl rfl rfl (by omega) (by omega)) ?_
        refine OW_loadR hS7 (k := 1) rfl rfl rfl rfl rfl (by first | exact part_whole rfl rfl rfl | rfl) ?_
        refine EN66_CF6 rfl ?_
        refine OW_mv rfl rfl ?_
        refine OW_mv rfl rfl ?_
        refine OW_fvb rfl rfl rfl (vol_c hS7 (k := 0) rfl (le_lit (ν := ν) (a := [9, 0, 1, 1]) (b := [5, 0, 1, 1, 1, 1]) (by decide)) (under_app [5, 0, 1, 1, 1, 1] under_me) (before_lit (ν := ν) (a := [5, 0, 1, 1, 1, 1]) (b := [6, 0, 1, 1, 1, 1]) (by decide)) hf (by omega) _ _ hb fun H10 hS10 => ?_)
        replace hS10 : Own _ _ _ ([_, _, _, _]) := hS10
        refine EN66_CF6 rfl ?_
        refine OW_mv rfl rfl ?_
        refine OW_ex rfl rfl rfl ?_
        refine OW_ex rfl rfl rfl ?_
        refine EN66_CF6 rfl ?_
        refine OW_as rfl rfl ?_
        refine OW_as rfl rfl ?_
        refine EZ66_CF6 rfl ?_
        refine XW_sr ?_
        obtain ⟨U2, V2, hz⟩ := Own.un_svc hS10
        replace hS10 := hz
        refine OW_mv rfl rfl ?_
        first
        | refine OW_nc rfl rfl ?_
        | refine OW_nce rfl rfl ?_
        refine OW_fa rfl rfl rfl ?_
        refine EN66_CF6 rfl ?_
        refine OW_loadR hS10 (k := 0) rfl rfl rfl rfl rfl (by first | exact part_whole rfl rfl rfl | rfl) ?_
        refine OW_mv rfl rfl ?_
        refine OW_mv rfl rfl ?_
        refine EN66_CF6 rfl ?_
        first
        | refine OW_storeR hS10 (k := 4) rfl (le_lit (ν := ν) (a := [6, 0, 1, 1, 1, 1]) (b := [6, 0, 1, 1, 1, 1, 1]) (by decide)) rfl rfl rfl rfl ⟨rfl, rfl, Nat.le_of_ble_eq_true rfl⟩ (set_whole rfl rfl) fun H11 hS11 => ?_
        | refine OW_storeR hS10 (k := 4) rfl (le_lit (ν := ν) (a := [6, 0, 1, 1, 1, 1]) (b := [6, 0, 1, 1, 1, 1, 1]) (by decide)) rfl rfl rfl rfl ⟨rfl, rfl, Nat.le_of_ble_eq_true rfl⟩ (u2 := .agg [_, _, _]) rfl fun H11 hS11 => ?_
        replace hS11 : Own _ _ _ ([_, _, _, _, _, _]) := hS11
        refine OW_as rfl rfl ?_
        refine OW_as rfl rfl ?_
        refine EZ66_CF6 rfl ?_
        refine XW_ret ?_
        -- outcome 3
        have fz1 := hS11.frz (k := 1) (n := 5) rfl (by first | exact map_plain (fun _ => rfl) | (intro x hx; simp at hx; done))
        have fz2 := hS11.frz (k := 2) (n := 5) rfl (by first | exact map_plain (fun _ => rfl) | (intro x hx; simp at hx; done))
        refine ret_ret (res3 rfl (rv_cellR hS11 (k := 4) rfl rfl rfl rfl (by first | exact part_whole rfl rfl rfl | rfl)) (rv_tmp rfl) (rv_tmp rfl)) (frz3 (Q := Q) (by first | exact freeze_plain rfl | exact Ls.freeze (by assumption) | exact Ls.freeze Ls.of | exact Ls.freeze Ls.emp | exact Ls.freeze Ls.nls | exact frA (frAc (by first | exact freeze_plain rfl | assumption | exact Ls.freeze Ls.of | exact Ls.freeze Ls.emp | exact Ls.freeze Ls.nls | exact Ls.freeze (by assumption)) (frAc (by first | exact freeze_plain rfl | assumption | exact Ls.freeze Ls.of | exact Ls.freeze Ls.emp | exact Ls.freeze Ls.nls | exact Ls.freeze (by assumption)) (frAc (by first | exact freeze_plain rfl | assumption | exact Ls.freeze Ls.of | exact Ls.freeze Ls.emp | exact Ls.freeze Ls.nls | exact Ls.freeze (by assumption)) frAn)))) (by first | exact freeze_plain rfl | exact Ls.freeze (by assumption) | exact Ls.freeze Ls.of | exact Ls.freeze Ls.emp | exact Ls.freeze Ls.nls) (by first | exact freeze_plain rfl | exact Ls.freeze (by assumption) | exact Ls.freeze Ls.of | exact Ls.freeze Ls.emp | exact Ls.freeze Ls.nls) ?_)
        first
        | exact hq
        | (refine qcast hq ?_; rfl)
        | (refine qcast hq ?_; simp; done)
        | (refine qcast hq ?_; simp; omega)
        | (refine qcast hq ?_; simp_all; done)
theorem p_run_2 {U V : AVal} (hU : Ls U (c.qs.map Qu.enc)) (hV : Ls V (c.ps.map Pl.enc)) {a b : Int} (hf : c.fit) (hg : ¬ (gs < 1 ∨ 4 < gs)) (hq : Q (.tup [(runS c gs 2 a b).1.enc, .int .i64 (runS c gs 2 a b).2.2, .int .u64 (runS c gs 2 a b).2.1]) H) : CW cfg ν 10 [.agg [U, V, .int .u64 c.nx], .int .i64 gs, .int .i64 2, .int .u64 a, .int .u64 b] H Q := by
  have hlp := hf.lp; have hlq := hf.lq
  rw [runS_2 hg] at hq
  skip
  refine CW_pure g10 F10 rfl ?_
  have hS0 : Own ν ν (fun _ => none) [] := Own.nil
  refine XW_sr ?_
  refine OW_boxR hS0 (le_app (p := ν) (b := [0, 0])) (under_app [0, 0] under_me) rfl rfl rfl ⟨rfl, rfl⟩ fun H1 hS1 => ?_
  replace hS1 : Own _ _ _ ([_]) := hS1
  refine OW_allocR hS1 le_refl (under_app [1, 0] under_me) rfl rfl rfl rfl fun H2 hS2 => ?_
  replace hS2 : Own _ _ _ ([_, _]) := hS2
  refine OW_as rfl rfl ?_
  refine EN66_CF6 rfl ?_
  refine OW_as rfl rfl ?_
  refine EZ66_CF6 rfl ?_
  refine XW_srF (qs := [0 :: 0 :: ν]) rfl rfl ?_
  have hSF1 : Own _ _ _ ([_, _]) := (Own.hide (Own.hide0 hS2) (k := 1) rfl)
  refine OWF_op rfl ?_
  refine OW_fa rfl rfl rfl ?_
  refine OW_nil ?_
  refine OWF_fl rfl ?_
  refine OW_loadK hS2 (k := 1) rfl (by simp) rfl rfl rfl rfl (by first | exact part_whole rfl rfl rfl | rfl) ?_
  refine OW_nil ?_
  refine OWF_op rfl ?_
  refine OW_fn rfl rfl (Qu.clone hU hSF1 (le_lit (ν := ν) (a := [2, 0]) (b := [2, 0, 1]) (by decide)) (under_app [2, 0, 1] under_me) (before_lit (ν := ν) (a := [2, 0, 1]) (b := [3, 0, 1]) (by decide)) (by omega) fun O1 H3 hS3 => ?_) 
  replace hS3 : Own _ _ _ ([_, _, _]) := hS3
  refine OW_nil ?_
  refine FN66_CF6 rfl ?_
  refine OWF_op rfl ?_
  refine OW_fa rfl rfl rfl ?_
  refine OW_nil ?_
  refine OWF_fl rfl ?_
  refine OW_loadK hS2 (k := 1) rfl (by simp) rfl rfl rfl rfl (by first | exact part_whole rfl rfl rfl | rfl) ?_
  refine OW_nil ?_
  refine OWF_op rfl ?_
  refine OW_fn rfl rfl (Pl.clone hV hS3 (le_lit (ν := ν) (a := [3, 0, 1]) (b := [5, 0, 1]) (by decide)) (under_app [5, 0, 1] under_me) (before_lit (ν := ν) (a := [5, 0, 1]) (b := [6, 0, 1]) (by decide)) (by omega) fun O2 H4 hS4 => ?_) 
  replace hS4 : Own _ _ _ ([_, _, _, _]) := hS4
  refine OW_nil ?_
  refine FN66_CF6 rfl ?_
  refine OWF_op rfl ?_
  refine OW_fa rfl rfl rfl ?_
  refine OW_nil ?_
  refine OWF_fl rfl ?_
  refine OW_loadK hS2 (k := 1) rfl (by simp) rfl rfl rfl rfl (by first | exact part_whole rfl rfl rfl | rfl) ?_
  refine OW_nil ?_
  refine OWF_op rfl ?_
  refine OW_bdP rfl (pcons rfl (hS4.one (k := 1) rfl).1 (pcons rfl (hS4.one (k := 0) rfl).1 (pcons rfl rfl rfl))) rfl rfl rfl (cs := [_, _, _]) (fill1 rfl (hS4.one (k := 1) rfl).2 rfl (Nat.le_of_ble_eq_true rfl) rfl (fill1 rfl (hS4.one (k := 0) rfl).2 rfl (Nat.le_of_ble_eq_true rfl) rfl (fill1 rfl rfl rfl (Nat.le_of_ble_eq_true rfl) rfl rfl))) ?_
  refine OW_nil ?_
  refine FN66_CF6 rfl ?_
  refine OWF_op rfl ?_
  refine OW_mv rfl rfl ?_
  refine OW_nil ?_
  refine OWF_op rfl ?_
  refine OW_bd rfl rfl (v := .agg [_, _, _, _]) rfl ?_
  refine OW_nil ?_
  refine OWF_op rfl ?_
  refine OW_boxR hS4 (le_lit (ν := ν) (a := [6, 0, 1]) (b := [11, 0, 1]) (by decide)) (under_app [11, 0, 1] under_me) rfl rfl rfl ⟨rfl, rfl⟩ fun H5 hS5 => ?_
  replace hS5 : Own _ _ _ ([_, _, _, _, _]) := hS5
  refine OW_nil ?_
  refine FN66_CF6 rfl ?_
  refine OWF_op rfl ?_
  refine OW_as rfl rfl ?_
  refine OW_nil ?_
  refine OWF_nilE (e' := [_,_,_,_,_,_,_,_,_,_,_,_,_,_,_,_,_,_,_,_,_,_,_,_,_,_,_,_,_,_,_,_,_,_,_,_,_,_,_,_,_,_,_,_,_,_,_,_,_,_,_,_,_,_,_,_,_,_,_,_,_,_,_,_,_,_]) rfl ?_
  have hSB1 : Own _ _ _ ([_, _, _, _, _]) := (Own.back hS2 (k := 1) rfl (Own.back0 hS5) (k' := 4) rfl)
  refine XW_sr ?_
  refine OW_mv rfl rfl ?_
  refine OW_mfb rfl (by decide) rfl ?_
  refine OW_mv rfl rfl ?_
  refine EN66_CF6 rfl ?_
  refine OW_mfb rfl (by decide) rfl ?_
  refine OW_mv rfl rfl ?_
  refine OW_mfb rfl (by decide) rfl ?_
  refine EN66_CF6 rfl ?_
  refine OW_bd rfl rfl (v := .agg [_, _, _]) rfl ?_
  refine OW_allocR hSB1 (le_lit (ν := ν) (a := [12, 0, 1]) (b := [7, 0, 1, 1]) (by decide)) (under_app [7, 0, 1, 1] under_me) rfl rfl rfl rfl fun H6 hS6 => ?_
  replace hS6 : Own _ _ _ ([_, _, _, _, _, _]) := hS6
  first
  | refine OW_storeR hS6 (k := 0) rfl le_refl rfl rfl rfl rfl ⟨rfl, rfl, Nat.le_of_ble_eq_true rfl⟩ (set_whole rfl rfl) fun H7 hS7 => ?_
  | refine OW_storeR hS6 (k := 0) rfl le_refl rfl rfl rfl rfl ⟨rfl, rfl, Nat.le_of_ble_eq_true rfl⟩ (u2 := .agg [_, _, _]) rfl fun H7 hS7 => ?_
  replace hS7 : Own _ _ _ ([_, _, _, _, _, _]) := hS7
  refine EZ66_CF6 rfl ?_
  refine XW_seq ?_
  refine XW_sr ?_
  refine OW_mv rfl rfl ?_
  refine OW_fn rfl rfl (c_grouped ?_) 
  refine OW_un rfl rfl rfl ?_
  refine EN66_CF6 rfl ?_
  refine OW_mv rfl rfl ?_
  refine OW_split (tt := 39) rfl (fun g3_4 => ?_) (fun g3_4 => ?_)
  ·first
   |(exfalso; (try simp only [bs] at g3_4) <;> (first | omega | contradiction); done)
   |skip
    try simp only [bs] at g3_4
    refine OW_no rfl ?_
    refine EN66_CF6 rfl ?_
    refine OW_no rfl ?_
    refine OW_pick rfl rfl rfl ?_
    refine OW_mv rfl rfl ?_
    refine EN66_CF6 rfl ?_
    refine OW_no rfl ?_
    refine OW_no rfl ?_
    refine OW_pick rfl rfl rfl ?_
    refine EZ66_CF6 rfl ?_
    refine XW_yes rfl rfl ?_
    refine XW_sr ?_
    refine OW_mv rfl rfl ?_
    first
    | refine OW_nc rfl rfl ?_
    | refine OW_nce rfl rfl ?_
    refine OW_fa rfl rfl rfl ?_
    refine EN66_CF6 rfl ?_
    refine OW_loadR hS7 (k := 1) rfl rfl rfl rfl rfl (by first | exact part_whole rfl rfl rfl | rfl) ?_
    first
    | refine OW_storeR hS7 (k := 4) rfl (le_lit (ν := ν) (a := [9, 0, 1, 1]) (b := [4, 0, 1, 0, 1, 1, 1]) (by decide)) rfl rfl rfl rfl ⟨rfl, rfl, Nat.le_of_ble_eq_true rfl⟩ (set_whole rfl rfl) fun H8 hS8 => ?_
    | refine OW_storeR hS7 (k := 4) rfl (le_lit (ν := ν) (a := [9, 0, 1, 1]) (b := [4, 0, 1, 0, 1, 1, 1]) (by decide)) rfl rfl rfl rfl ⟨rfl, rfl, Nat.le_of_ble_eq_true rfl⟩ (u2 := .agg [_, _, _]) rfl fun H8 hS8 => ?_
    replace hS8 : Own _ _ _ ([_, _, _, _, _, _]) := hS8
    refine OW_as rfl rfl ?_
    refine EN66_CF6 rfl ?_
    refine OW_as rfl rfl ?_
    refine EZ66_CF6 rfl ?_
    refine XW_ret ?_
    refine then_ret ?_
    -- outcome 1
    have fz2 := hS8.frz (k := 2) (n := 5) rfl (by first | exact map_plain (fun _ => rfl) | (intro x hx; simp at hx; done))
    have fz3 := hS8.frz (k := 3) (n := 5) rfl (by first | exact map_plain (fun _ => rfl) | (intro x hx; simp at hx; done))
    refine ret_ret (res3 rfl (rv_cellR hS8 (k := 4) rfl rfl rfl rfl (by first | exact part_whole rfl rfl rfl | rfl)) (rv_tmp rfl) (rv_tmp rfl)) (frz3 (Q := Q) (by first | exact freeze_plain rfl | exact Ls.freeze (by assumption) | exact Ls.freeze Ls.of | exact Ls.freeze Ls.emp | exact Ls.freeze Ls.nls | exact frA (frAc (by first | exact freeze_plain rfl | assumption | exact Ls.freeze Ls.of | exact Ls.freeze Ls.emp | exact Ls.freeze Ls.nls | exact Ls.freeze (by assumption)) (frAc (by first | exact freeze_plain rfl | assumption | exact Ls.freeze Ls.of | exact Ls.freeze Ls.emp | exact Ls.freeze Ls.nls | exact Ls.freeze (by assumption)) (frAc (by first | exact freeze_plain rfl | assumption | exact Ls.freeze Ls.of | exact Ls.freeze Ls.emp | exact Ls.freeze Ls.nls | exact Ls.freeze (by assumption)) frAn)))) (by first | exact freeze_plain rfl | exact Ls.freeze (by assumption) | exact Ls.freeze Ls.of | exact Ls.freeze Ls.emp | exact Ls.freeze Ls.nls) (by first | exact freeze_plain rfl | exact Ls.freeze (by assumption) | exact Ls.freeze Ls.of | exact Ls.freeze Ls.emp | exact Ls.freeze Ls.nls) ?_)
    first
    | exact hq
    | (refine qcast hq ?_; rfl)
    | (refine qcast hq ?_; simp; done)
    | (refine qcast hq ?_; simp; omega)
    | (refine qcast hq ?_; simp_all; done)
  ·first
   |(exfalso; (try simp only [bs] at g3_4) <;> (first | omega | contradiction); done)
   |skip
    try simp only [bs] at g3_4
    refine OW_mv rfl rfl ?_
    refine EN66_CF6 rfl ?_
    refine OW_bin rfl rfl rfl rfl rfl ?_
    refine OW_pick rfl rfl rfl ?_
    refine OW_mv rfl rfl ?_
    refine EN66_CF6 rfl ?_
    refine OW_split (tt := 43) rfl (fun g3_8 => ?_) (fun g3_8 => ?_)
    ·first
     |(exfalso; (try simp only [bs] at g3_8) <;> (first | omega | contradiction); done)
     |skip
      try simp only [bs] at g3_8
      refine OW_no rfl ?_
      refine OW_no rfl ?_
      refine EN66_CF6 rfl ?_
      refine OW_pick rfl rfl rfl ?_
      refine EZ66_CF6 rfl ?_
      refine XW_yes rfl rfl ?_
      refine XW_sr ?_
      refine OW_mv rfl rfl ?_
      first
      | refine OW_nc rfl rfl ?_
      | refine OW_nce rfl rfl ?_
      refine OW_fa rfl rfl rfl ?_
      refine EN66_CF6 rfl ?_
      refine OW_loadR hS7 (k := 1) rfl rfl rfl rfl rfl (by first | exact part_whole rfl rfl rfl | rfl) ?_
      first
      | refine OW_storeR hS7 (k := 4) rfl (le_lit (ν := ν) (a := [9, 0, 1, 1]) (b := [4, 0, 1, 0, 1, 1, 1]) (by decide)) rfl rfl rfl rfl ⟨rfl, rfl, Nat.le_of_ble_eq_true rfl⟩ (set_whole rfl rfl) fun H9 hS9 => ?_
      | refine OW_storeR hS7 (k := 4) rfl (le_lit (ν := ν) (a := [9, 0, 1, 1]) (b := [4, 0, 1, 0, 1, 1, 1]) (by decide)) rfl rfl rfl rfl ⟨rfl, rfl, Nat.le_of_ble_eq_true rfl⟩ (u2 := .agg [_, _, _]) rfl fun H9 hS9 => ?_
      replace hS9 : Own _ _ _ ([_, _, _, _, _, _]) := hS9
      refine OW_as rfl rfl ?_
      refine EN66_CF6 rfl ?_
      refine OW_as rfl rfl ?_
      refine EZ66_CF6 rfl ?_
      refine XW_ret ?_
      refine then_ret ?_
      -- outcome 2
      have fz2 := hS9.frz (k := 2) (n := 5) rfl (by first | exact map_plain (fun _ => rfl) | (intro x hx; simp at hx; done))
      have fz3 := hS9.frz (k := 3) (n := 5) rfl (by first | exact map_plain (fun _ => rfl) | (intro x hx; simp at hx; done))
      refine ret_ret (res3 rfl (rv_cellR hS9 (k := 4) rfl rfl rfl rfl (by first | exact part_whole rfl rfl rfl | rfl)) (rv_tmp rfl) (rv_tmp rfl)) (frz3 (Q := Q) (by first | exact freeze_plain rfl | exact Ls.freeze (by assumption) | exact Ls.freeze Ls.of | exact Ls.freeze Ls.emp | exact Ls.freeze Ls.nls | exact frA (frAc (by first | exact freeze_plain rfl | assumption | exact Ls.freeze Ls.of | exact Ls.freeze Ls.emp | exact Ls.freeze Ls.nls | exact Ls.freeze (by assumption)) (frAc (by first | exact freeze_plain rfl | assumption | exact Ls.freeze Ls.of | exact Ls.freeze Ls.emp | exact Ls.freeze Ls.nls | exact Ls.freeze (by assumption)) (frAc (by first | exact freeze_plain rfl | assumption | exact Ls.freeze Ls.of | exact Ls.freeze Ls.emp | exact Ls.freeze Ls.nls | exact Ls.freeze (by assumption)) frAn)))) (by first | exact freeze_plain rfl | exact Ls.freeze (by assumption) | exact Ls.freeze Ls.of | exact Ls.freeze Ls.emp | exact Ls.freeze Ls.nls) (by first | exact freeze_plain rfl | exact Ls.freeze (by assumption) | exact Ls.freeze Ls.of | exact Ls.freeze Ls.emp | exact Ls.freeze Ls.nls) ?_)
      first
      | exact hq
      | (refine qcast hq ?_; rfl)
      | (refine qcast hq ?_; simp; done)
      | (refine qcast hq ?_; simp; omega)
      | (refine qcast hq ?_; simp_all; done)
    ·first
     |(exfalso; (try simp only [bs] at g3_8) <;> (first | omega | contradiction); done)
     |skip
      try simp only [bs] at g3_8
      refine OW_mv rfl rfl ?_
      refine OW_bin rfl rfl rfl rfl rfl ?_
      refine EN66_CF6 rfl ?_
      refine OW_pick rfl rfl rfl ?_
      refine EZ66_CF6 rfl ?_
      refine XW_if rfl (fun h3 => ?_) (fun h3 => ?_)
      · exfalso; (try simp only [bs] at h3) <;> (omega)
      ·first
       |(exfalso; (try simp only [bs] at h3) <;> (first | omega | contradiction); done)
       |skip
        try simp only [bs] at h3
        refine XW_skip ?_
        refine then_norm ?_
        refine XW_sr ?_
        replace hS7 := Own.mk_svc (c := c) (Own.rot (A := [_]) (Own.pick (Own.rot (A := [_, _, _]) hS7) (k := 2) rfl))
        refine OW_mv rfl rfl ?_
        refine OW_ia rfl rfl rfl (by first | rfl | exact ia_arr rfl rfl rfl (by omega) (by omega)) ?_
        refine OW_loadR hS7 (k := 1) rfl rfl rfl rfl rfl (by first | exact part_whole rfl rfl rfl | rfl) ?_
        refine EN66_CF6 rfl ?_
        refine OW_mv rfl rfl ?_
        refine OW_mv rfl rfl ?_
        refine OW_fvb rfl rfl rfl (bmp_c hS7 (k := 0) rfl (le_lit (ν := ν) (a := [9, 0, 1, 1]) (b := [5, 0, 1, 1, 1, 1]) (by decide)) (under_app [5, 0, 1, 1, 1, 1] under_me) (before_lit (ν := ν) (a := [5, 0, 1, 1, 1, 1]) (b := [6, 0, 1, 1, 1, 1]) (by decide)) hf _ _ fun H10 hS10 => ?_)
        replace hS10 : Own _ _ _ ([_, _, _, _]) := hS10
        refine EN66_CF6 rfl ?_
        refine OW_mv rfl rfl ?_
        refine OW_ex rfl rfl rfl ?_
        refine OW_ex rfl rfl rfl ?_
        refine EN66_CF6 rfl ?_
        refine OW_as rfl rfl ?_
        refine OW_as rfl rfl ?_
        refine EZ66_CF6 rfl ?_
        refine XW_sr ?_
        obtain ⟨U2, V2, hz⟩ := Own.un_svc hS10
        replace hS10 := hz
        refine OW_mv rfl rfl ?_
        first
        | refine OW_nc rfl rfl ?_
        | refine OW_nce rfl rfl ?_
        refine OW_fa rfl rfl rfl ?_
        refine EN66_CF6 rfl ?_
        refine OW_loadR hS10 (k := 0) rfl rfl rfl rfl rfl (by first | exact part_whole rfl rfl rfl | rfl) ?_
        refine OW_mv rfl rfl ?_
        refine OW_mv rfl rfl ?_
        refine EN66_CF6 rfl ?_
        first
        | refine OW_storeR hS10 (k := 4) rfl (le_lit (ν := ν) (a := [6, 0, 1, 1, 1, 1]) (b := [6, 0, 1, 1, 1, 1, 1]) (by decide)) rfl rfl rfl rfl ⟨rfl, rfl, Nat.le_of_ble_eq_true rfl⟩ (set_whole rfl rfl) fun H11 hS11 => ?_
        | refine OW_storeR hS10 (k := 4) rfl (le_lit (ν := ν) (a := [6, 0, 1, 1, 1, 1]) (b := [6, 0, 1, 1, 1, 1, 1]) (by decide)) rfl rfl rfl rfl ⟨rfl, rfl, Nat.le_of_ble_eq_true rfl⟩ (u2 := .agg [_, _, _]) rfl fun H11 hS11 => ?_
        replace hS11 : Own _ _ _ ([_, _, _, _, _, _]) := hS11
        refine OW_as rfl rfl ?_
        refine OW_as rfl rfl ?_
        refine EZ66_CF6 rfl ?_
        refine XW_ret ?_
        -- outcome 3
        have fz1 := hS11.frz (k := 1) (n := 5) rfl (by first | exact map_plain (fun _ => rfl) | (intro x hx; simp at hx; done))
        have fz2 := hS11.frz (k := 2) (n := 5) rfl (by first | exact map_plain (fun _ => rfl) | (intro x hx; simp at hx; done))
        refine ret_ret (res3 rfl (rv_cellR hS11 (k := 4) rfl rfl rfl rfl (by first | exact part_whole rfl rfl rfl | rfl)) (rv_tmp rfl) (rv_tmp rfl)) (frz3 (Q := Q) (by first | exact freeze_plain rfl | exact Ls.freeze (by assumption) | exact Ls.freeze Ls.of | exact Ls.freeze Ls.emp | exact Ls.freeze Ls.nls | exact frA (frAc (by first | exact freeze_plain rfl | assumption | exact Ls.freeze Ls.of | exact Ls.freeze Ls.emp | exact Ls.freeze Ls.nls | exact Ls.freeze (by assumption)) (frAc (by first | exact freeze_plain rfl | assumption | exact Ls.freeze Ls.of | exact Ls.freeze Ls.emp | exact Ls.freeze Ls.nls | exact Ls.freeze (by assumption)) (frAc (by first | exact freeze_plain rfl | assumption | exact Ls.freeze Ls.of | exact Ls.freeze Ls.emp | exact Ls.freeze Ls.nls | exact Ls.freeze (by assumption)) frAn)))) (by first | exact freeze_plain rfl | exact Ls.freeze (by assumption) | exact Ls.freeze Ls.of | exact Ls.freeze Ls.emp | exact Ls.freeze Ls.nls) (by first | exact freeze_plain rfl | exact Ls.freeze (by assumption) | exact Ls.freeze Ls.of | exact Ls.freeze Ls.emp | exact Ls.freeze Ls.nls) ?_)
        first
        | exact hq
        | (refine qcast hq ?_; rfl)
        | (refine qcast hq ?_; simp; done)
        | (refine qcast hq ?_; simp; omega)
        | (refine qcast hq ?_; simp_all; done)
end Go.Proofs.Ytealccnfnpkngaa.X
