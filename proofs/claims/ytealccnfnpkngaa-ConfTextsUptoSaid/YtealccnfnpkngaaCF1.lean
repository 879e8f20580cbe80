/- Quotas in own slices: Set, Take, of the program and of the document's answer (layers 13, 14). -/
import Derived.Test.YtealccnfnpkngaaQ6
import Derived.Test.YtealccnfnpkngaaMp
set_option linter.unusedVariables false
set_option linter.unusedSimpArgs false
set_option maxRecDepth 100000
namespace Go.Proofs.Ytealccnfnpkngaa.X
open Go Go.RowKit WM
theorem EN36_CF1 {c : Cfg} {ν : Nm} {e : Env} {H : Heap} {all : Array Oper} {r : List Oper} {i : Nat} {Q : Env → Heap → Prop} {x0 x1 x2 x3 x4 x5 x6 x7 x8 x9 x10 x11 x12 x13 x14 x15 x16 x17 x18 x19 x20 x21 x22 x23 x24 x25 x26 x27 x28 x29 x30 x31 x32 x33 x34 x35 : AVal} (he : e = [x0,x1,x2,x3,x4,x5,x6,x7,x8,x9,x10,x11,x12,x13,x14,x15,x16,x17,x18,x19,x20,x21,x22,x23,x24,x25,x26,x27,x28,x29,x30,x31,x32,x33,x34,x35]) (h : OW c ν all r i [x0,x1,x2,x3,x4,x5,x6,x7,x8,x9,x10,x11,x12,x13,x14,x15,x16,x17,x18,x19,x20,x21,x22,x23,x24,x25,x26,x27,x28,x29,x30,x31,x32,x33,x34,x35] H Q) : OW c ν all r i e H Q := by subst he; exact h
theorem EN43_CF1 {c : Cfg} {ν : Nm} {e : Env} {H : Heap} {all : Array Oper} {r : List Oper} {i : Nat} {Q : Env → Heap → Prop} {x0 x1 x2 x3 x4 x5 x6 x7 x8 x9 x10 x11 x12 x13 x14 x15 x16 x17 x18 x19 x20 x21 x22 x23 x24 x25 x26 x27 x28 x29 x30 x31 x32 x33 x34 x35 x36 x37 x38 x39 x40 x41 x42 : AVal} (he : e = [x0,x1,x2,x3,x4,x5,x6,x7,x8,x9,x10,x11,x12,x13,x14,x15,x16,x17,x18,x19,x20,x21,x22,x23,x24,x25,x26,x27,x28,x29,x30,x31,x32,x33,x34,x35,x36,x37,x38,x39,x40,x41,x42]) (h : OW c ν all r i [x0,x1,x2,x3,x4,x5,x6,x7,x8,x9,x10,x11,x12,x13,x14,x15,x16,x17,x18,x19,x20,x21,x22,x23,x24,x25,x26,x27,x28,x29,x30,x31,x32,x33,x34,x35,x36,x37,x38,x39,x40,x41,x42] H Q) : OW c ν all r i e H Q := by subst he; exact h
theorem EN44_CF1 {c : Cfg} {ν : Nm} {e : Env} {H : Heap} {all : Array Oper} {r : List Oper} {i : Nat} {Q : Env → Heap → Prop} {x0 x1 x2 x3 x4 x5 x6 x7 x8 x9 x10 x11 x12 x13 x14 x15 x16 x17 x18 x19 x20 x21 x22 x23 x24 x25 x26 x27 x28 x29 x30 x31 x32 x33 x34 x35 x36 x37 x38 x39 x40 x41 x42 x43 : AVal} (he : e = [x0,x1,x2,x3,x4,x5,x6,x7,x8,x9,x10,x11,x12,x13,x14,x15,x16,x17,x18,x19,x20,x21,x22,x23,x24,x25,x26,x27,x28,x29,x30,x31,x32,x33,x34,x35,x36,x37,x38,x39,x40,x41,x42,x43]) (h : OW c ν all r i [x0,x1,x2,x3,x4,x5,x6,x7,x8,x9,x10,x11,x12,x13,x14,x15,x16,x17,x18,x19,x20,x21,x22,x23,x24,x25,x26,x27,x28,x29,x30,x31,x32,x33,x34,x35,x36,x37,x38,x39,x40,x41,x42,x43] H Q) : OW c ν all r i e H Q := by subst he; exact h
theorem EZ34_CF1 {c : Cfg} {ν : Nm} {e : Env} {H : Heap} {all : Array Oper} {i : Nat} {Q : Env → Heap → Prop} {x0 x1 x2 x3 x4 x5 x6 x7 x8 x9 x10 x11 x12 x13 x14 x15 x16 x17 x18 x19 x20 x21 x22 x23 x24 x25 x26 x27 x28 x29 x30 x31 x32 x33 : AVal} (he : e = [x0,x1,x2,x3,x4,x5,x6,x7,x8,x9,x10,x11,x12,x13,x14,x15,x16,x17,x18,x19,x20,x21,x22,x23,x24,x25,x26,x27,x28,x29,x30,x31,x32,x33]) (h : Q [x0,x1,x2,x3,x4,x5,x6,x7,x8,x9,x10,x11,x12,x13,x14,x15,x16,x17,x18,x19,x20,x21,x22,x23,x24,x25,x26,x27,x28,x29,x30,x31,x32,x33] H) : OW c ν all [] i e H Q := by subst he; exact OW_nil h
theorem EZ36_CF1 {c : Cfg} {ν : Nm} {e : Env} {H : Heap} {all : Array Oper} {i : Nat} {Q : Env → Heap → Prop} {x0 x1 x2 x3 x4 x5 x6 x7 x8 x9 x10 x11 x12 x13 x14 x15 x16 x17 x18 x19 x20 x21 x22 x23 x24 x25 x26 x27 x28 x29 x30 x31 x32 x33 x34 x35 : AVal} (he : e = [x0,x1,x2,x3,x4,x5,x6,x7,x8,x9,x10,x11,x12,x13,x14,x15,x16,x17,x18,x19,x20,x21,x22,x23,x24,x25,x26,x27,x28,x29,x30,x31,x32,x33,x34,x35]) (h : Q [x0,x1,x2,x3,x4,x5,x6,x7,x8,x9,x10,x11,x12,x13,x14,x15,x16,x17,x18,x19,x20,x21,x22,x23,x24,x25,x26,x27,x28,x29,x30,x31,x32,x33,x34,x35] H) : OW c ν all [] i e H Q := by subst he; exact OW_nil h
theorem EZ43_CF1 {c : Cfg} {ν : Nm} {e : Env} {H : Heap} {all : Array Oper} {i : Nat} {Q : Env → Heap → Prop} {x0 x1 x2 x3 x4 x5 x6 x7 x8 x9 x10 x11 x12 x13 x14 x15 x16 x17 x18 x19 x20 x21 x22 x23 x24 x25 x26 x27 x28 x29 x30 x31 x32 x33 x34 x35 x36 x37 x38 x39 x40 x41 x42 : AVal} (he : e = [x0,x1,x2,x3,x4,x5,x6,x7,x8,x9,x10,x11,x12,x13,x14,x15,x16,x17,x18,x19,x20,x21,x22,x23,x24,x25,x26,x27,x28,x29,x30,x31,x32,x33,x34,x35,x36,x37,x38,x39,x40,x41,x42]) (h : Q [x0,x1,x2,x3,x4,x5,x6,x7,x8,x9,x10,x11,x12,x13,x14,x15,x16,x17,x18,x19,x20,x21,x22,x23,x24,x25,x26,x27,x28,x29,x30,x31,x32,x33,x34,x35,x36,x37,x38,x39,x40,x41,x42] H) : OW c ν all [] i e H Q := by subst he; exact OW_nil h
theorem EZ44_CF1 {c : Cfg} {ν : Nm} {e : Env} {H : Heap} {all : Array Oper} {i : Nat} {Q : Env → Heap → Prop} {x0 x1 x2 x3 x4 x5 x6 x7 x8 x9 x10 x11 x12 x13 x14 x15 x16 x17 x18 x19 x20 x21 x22 x23 x24 x25 x26 x27 x28 x29 x30 x31 x32 x33 x34 x35 x36 x37 x38 x39 x40 x41 x42 x43 : AVal} (he : e = [x0,x1,x2,x3,x4,x5,x6,x7,x8,x9,x10,x11,x12,x13,x14,x15,x16,x17,x18,x19,x20,x21,x22,x23,x24,x25,x26,x27,x28,x29,x30,x31,x32,x33,x34,x35,x36,x37,x38,x39,x40,x41,x42,x43]) (h : Q [x0,x1,x2,x3,x4,x5,x6,x7,x8,x9,x10,x11,x12,x13,x14,x15,x16,x17,x18,x19,x20,x21,x22,x23,x24,x25,x26,x27,x28,x29,x30,x31,x32,x33,x34,x35,x36,x37,x38,x39,x40,x41,x42,x43] H) : OW c ν all [] i e H Q := by subst he; exact OW_nil h
variable {ν β ps pos' : Nm} {H : Heap} {Q : AVal → Heap → Prop} {L : List Asr} {k : Nat} {O : AVal} {t : List Qu}
theorem pSetK (hS : Own β ps H L) (hL : L[k]? = some (sl O 3 (t.map Qu.enc))) (hle : le ps ν) (hβ : under β ν = true) (hp : before ν pos') (hn : t.length ≤ 4294967290) (tn li : Int)
    (hq : ∀ H1 v, Own β pos' H1 (sl v 3 ((setQ t tn li).1.map Qu.enc) :: L) → Q (.tup [v, .bool (setQ t tn li).2]) H1) : CW cfg ν 65 [O, .int .u64 tn, .int .u64 li] H Q := by
  have hc := atQ_cases tn t
  replace hS := hS.pick hL
  refine CW_keep g65 F65 rfl ?_
  replace hS := Own.mono hS hle
  refine XW_sr ?_
  refine OW_as rfl rfl ?_
  refine OW_as rfl rfl ?_
  refine EZ36_CF1 rfl ?_
  refine XW_sr ?_
  refine OW_mv rfl rfl ?_
  refine OW_mv rfl rfl ?_
  refine OW_fn rfl rfl (c_findB (hS.freeze0 (k := 0) rfl (map_plain (fun _ => rfl))) (by omega) _ ?_) 
  refine EN36_CF1 rfl ?_
  refine OW_as rfl rfl ?_
  refine EZ36_CF1 rfl ?_
  refine XW_seq ?_
  refine XW_sr ?_
  have hr : atQ tn t = -1 ∨ 0 ≤ atQ tn t ∧ atQ tn t < t.length := by rcases hc with ⟨h, _⟩ | ⟨i, hi, h, _⟩ <;> omega
  generalize atQ tn t = at0 at *
  refine OW_mv rfl rfl ?_
  refine OW_bin rfl rfl rfl rfl rfl ?_
  refine OW_mv rfl rfl ?_
  refine EN36_CF1 rfl ?_
  refine OW_split (tt := 15) rfl (fun g2_3 => ?_) (fun g2_3 => ?_)
  ·try simp only [bs] at g2_3
   refine OW_mv rfl rfl ?_
   refine OW_lenO hS (k := 0) rfl rfl rfl rfl rfl rfl (by first | exact List.length_map _ | exact len_app1 | exact len_drop | (simp only [ss]; rfl) | rfl) ?_
   refine EN36_CF1 rfl ?_
   refine OW_bin rfl rfl rfl rfl rfl ?_
   refine OW_pick rfl rfl rfl ?_
   refine EZ36_CF1 rfl ?_
   refine XW_if rfl (fun h2 => ?_) (fun h2 => ?_)
   ·try simp only [bs] at h2
    refine XW_sr ?_
    refine OW_as rfl rfl ?_
    refine OW_as rfl rfl ?_
    refine EZ36_CF1 rfl ?_
    refine XW_ret ?_
    refine then_ret ?_
    -- outcome 1
    refine ret_ret (res2 rfl (rv_tmp rfl) (rv_tmp rfl)) ?_
    rcases hc with ⟨h, hg⟩ | ⟨i, hi, h, hg, _, hm⟩ <;> first | (exfalso; omega) | (simp only [setQ, hg, if_pos (show t.length < 16 by omega)] at hq; exact hq _ _ (Own.put2 (Own.mono hS (le_bef hp)) hL)) | (simp only [setQ, hg, if_neg (show ¬ t.length < 16 by omega)] at hq; exact hq _ _ (Own.put2 (Own.addN (Own.mono hS (le_bef hp))) hL)) | (subst h; simp only [setQ, hg, hm, Int.toNat_natCast] at hq ⊢; exact hq _ _ (Own.put2 (Own.mono hS (le_bef hp)) hL))
   ·try simp only [bs] at h2
    refine XW_skip ?_
    refine then_norm ?_
    refine XW_sr ?_
    refine OW_mv rfl rfl ?_
    refine OW_fn rfl rfl (Qu.cloneO hS (k := 0) rfl (le_app (p := ν) (b := [1, 0, 1, 1, 1])) (under_app [1, 0, 1, 1, 1] hβ) (before_lit (ν := ν) (a := [1, 0, 1, 1, 1]) (b := [2, 0, 1, 1, 1]) (by decide)) (by omega) fun O1 H1 hS1 => ?_) 
    replace hS1 : Own _ _ _ (_ :: _ :: L.eraseIdx k) := hS1
    refine OW_as rfl rfl ?_
    refine EZ36_CF1 rfl ?_
    refine XW_seq ?_
    refine XW_sr ?_
    refine OW_mv rfl rfl ?_
    refine OW_bin rfl rfl rfl rfl rfl ?_
    refine EZ36_CF1 rfl ?_
    refine XW_if rfl (fun h5 => ?_) (fun h5 => ?_)
    ·first
     |(exfalso; (try simp only [bs] at h5) <;> (omega); done)
     |skip
      try simp only [bs] at h5
      refine XW_sr ?_
      refine OW_mv rfl rfl ?_
      refine OW_mv rfl rfl ?_
      refine OW_mv rfl rfl ?_
      refine EN36_CF1 rfl ?_
      refine OW_bd rfl rfl (v := .agg [_, _, _]) rfl ?_
      refine OW_bs rfl rfl (v := .lst [_]) rfl ?_
      refine OW_app hS1 (k := 0) rfl (le_lit (ν := ν) (a := [2, 0, 1, 1, 1]) (b := [5, 0, 1, 0, 1, 1, 1, 1]) (by decide)) (under_app [5, 0, 1, 0, 1, 1, 1, 1] hβ) rfl rfl rfl rfl rfl rfl rfl rfl (by first | rfl | exact Ls.elems (by assumption)) (by first | exact one_wide rfl | exact map_wide (fun _ => rfl) | assumption | (intro y hy; simp at hy; done)) (by first | omega | (simp only [ss]; omega) | (simp; omega)) (by decide) fun O2 H2 hS2 => ?_
      replace hS2 : Own _ _ _ (_ :: _ :: L.eraseIdx k) := hS2
      refine EN36_CF1 rfl ?_
      refine OW_as rfl rfl ?_
      replace hS2 := hS2.reS (k := 0) rfl (map_snoc (a := (⟨tn, 0, li⟩ : Qu)))
      refine OW_as rfl rfl ?_
      refine EZ36_CF1 rfl ?_
      refine XW_ret ?_
      refine then_ret ?_
      -- outcome 2
      refine ret_ret (res2 rfl (rv_tmp rfl) (rv_tmp rfl)) ?_
      rcases hc with ⟨h, hg⟩ | ⟨i, hi, h, hg, _, hm⟩ <;> first | (exfalso; omega) | (simp only [setQ, hg, if_pos (show t.length < 16 by omega)] at hq; exact hq _ _ (Own.put2 (Own.mono hS2 (le_bef (bef_app (a := [6, 0, 1, 0, 1, 1, 1, 1]) hp))) hL)) | (simp only [setQ, hg, if_neg (show ¬ t.length < 16 by omega)] at hq; exact hq _ _ (Own.put2 (Own.addN (Own.mono hS2 (le_bef (bef_app (a := [6, 0, 1, 0, 1, 1, 1, 1]) hp)))) hL)) | (subst h; simp only [setQ, hg, hm, Int.toNat_natCast] at hq ⊢; exact hq _ _ (Own.put2 (Own.mono hS2 (le_bef (bef_app (a := [6, 0, 1, 0, 1, 1, 1, 1]) hp))) hL))
    ·first
     |(exfalso; (try simp only [bs] at h5) <;> (omega); done)
     |skip
      try simp only [bs] at h5
      refine XW_skip ?_
      refine then_norm ?_
      refine XW_sr ?_
      refine OW_mv rfl rfl ?_
      refine OW_mv rfl rfl ?_
      refine OW_mv rfl rfl ?_
      refine EN36_CF1 rfl ?_
      refine OW_iaO hS1 (k := 0) rfl rfl rfl rfl rfl rfl rfl rfl (by first | rfl | exact (Int.toNat_of_nonneg (by omega)).symm) (by first | assumption | exact at_map (by first | assumption | omega) | exact at_lst (by omega) | rfl) fun q1 ys1 hO1 hq1 ht1 hy1 hu1 => ?_
      subst hO1
      refine OW_fa rfl rfl rfl ?_
      refine OW_storeO hS1 (k := 0) rfl (le_lit (ν := ν) (a := [2, 0, 1, 1, 1]) (b := [5, 0, 1, 1, 1, 1, 1]) (by decide)) rfl rfl rfl rfl hu1 ⟨rfl, rfl, Nat.le_of_ble_eq_true rfl⟩ (u2 := .agg [_, _, _]) rfl fun H3 hS3 => ?_
      replace hS3 : Own _ _ _ (_ :: _ :: L.eraseIdx k) := hS3
      refine EZ36_CF1 rfl ?_
      refine XW_sr ?_
      replace hS3 := hS3.reS (k := 0) rfl (set_enc (x := { t[at0.toNat] with li := li }) rfl)
      refine OW_mv rfl rfl ?_
      refine OW_as rfl rfl ?_
      refine OW_as rfl rfl ?_
      refine EZ36_CF1 rfl ?_
      refine XW_ret ?_
      -- outcome 3
      refine ret_ret (res2 rfl (rv_tmp rfl) (rv_tmp rfl)) ?_
      rcases hc with ⟨h, hg⟩ | ⟨i, hi, h, hg, _, hm⟩ <;> first | (exfalso; omega) | (simp only [setQ, hg, if_pos (show t.length < 16 by omega)] at hq; exact hq _ _ (Own.put2 (Own.mono hS3 (le_bef (bef_app (a := [6, 0, 1, 1, 1, 1, 1]) hp))) hL)) | (simp only [setQ, hg, if_neg (show ¬ t.length < 16 by omega)] at hq; exact hq _ _ (Own.put2 (Own.addN (Own.mono hS3 (le_bef (bef_app (a := [6, 0, 1, 1, 1, 1, 1]) hp)))) hL)) | (subst h; simp only [setQ, hg, hm, Int.toNat_natCast] at hq ⊢; exact hq _ _ (Own.put2 (Own.mono hS3 (le_bef (bef_app (a := [6, 0, 1, 1, 1, 1, 1]) hp))) hL))
  ·try simp only [bs] at g2_3
   refine OW_no rfl ?_
   refine OW_no rfl ?_
   refine EN36_CF1 rfl ?_
   refine OW_no rfl ?_
   refine OW_pick rfl rfl rfl ?_
   refine EZ36_CF1 rfl ?_
   refine XW_no rfl rfl ?_
   refine XW_skip ?_
   refine then_norm ?_
   refine XW_sr ?_
   refine OW_mv rfl rfl ?_
   refine OW_fn rfl rfl (Qu.cloneO hS (k := 0) rfl (le_app (p := ν) (b := [1, 0, 1, 1, 1])) (under_app [1, 0, 1, 1, 1] hβ) (before_lit (ν := ν) (a := [1, 0, 1, 1, 1]) (b := [2, 0, 1, 1, 1]) (by decide)) (by omega) fun O3 H4 hS4 => ?_) 
   replace hS4 : Own _ _ _ (_ :: _ :: L.eraseIdx k) := hS4
   refine OW_as rfl rfl ?_
   refine EZ36_CF1 rfl ?_
   refine XW_seq ?_
   refine XW_sr ?_
   refine OW_mv rfl rfl ?_
   refine OW_bin rfl rfl rfl rfl rfl ?_
   refine EZ36_CF1 rfl ?_
   refine XW_if rfl (fun h5 => ?_) (fun h5 => ?_)
   ·first
    |(exfalso; (try simp only [bs] at h5) <;> (omega); done)
    |skip
     try simp only [bs] at h5
     refine XW_sr ?_
     refine OW_mv rfl rfl ?_
     refine OW_mv rfl rfl ?_
     refine OW_mv rfl rfl ?_
     refine EN36_CF1 rfl ?_
     refine OW_bd rfl rfl (v := .agg [_, _, _]) rfl ?_
     refine OW_bs rfl rfl (v := .lst [_]) rfl ?_
     refine OW_app hS4 (k := 0) rfl (le_lit (ν := ν) (a := [2, 0, 1, 1, 1]) (b := [5, 0, 1, 0, 1, 1, 1, 1]) (by decide)) (under_app [5, 0, 1, 0, 1, 1, 1, 1] hβ) rfl rfl rfl rfl rfl rfl rfl rfl (by first | rfl | exact Ls.elems (by assumption)) (by first | exact one_wide rfl | exact map_wide (fun _ => rfl) | assumption | (intro y hy; simp at hy; done)) (by first | omega | (simp only [ss]; omega) | (simp; omega)) (by decide) fun O4 H5 hS5 => ?_
     replace hS5 : Own _ _ _ (_ :: _ :: L.eraseIdx k) := hS5
     refine EN36_CF1 rfl ?_
     refine OW_as rfl rfl ?_
     replace hS5 := hS5.reS (k := 0) rfl (map_snoc (a := (⟨tn, 0, li⟩ : Qu)))
     refine OW_as rfl rfl ?_
     refine EZ36_CF1 rfl ?_
     refine XW_ret ?_
     refine then_ret ?_
     -- outcome 4
     refine ret_ret (res2 rfl (rv_tmp rfl) (rv_tmp rfl)) ?_
     rcases hc with ⟨h, hg⟩ | ⟨i, hi, h, hg, _, hm⟩ <;> first | (exfalso; omega) | (simp only [setQ, hg, if_pos (show t.length < 16 by omega)] at hq; exact hq _ _ (Own.put2 (Own.mono hS5 (le_bef (bef_app (a := [6, 0, 1, 0, 1, 1, 1, 1]) hp))) hL)) | (simp only [setQ, hg, if_neg (show ¬ t.length < 16 by omega)] at hq; exact hq _ _ (Own.put2 (Own.addN (Own.mono hS5 (le_bef (bef_app (a := [6, 0, 1, 0, 1, 1, 1, 1]) hp)))) hL)) | (subst h; simp only [setQ, hg, hm, Int.toNat_natCast] at hq ⊢; exact hq _ _ (Own.put2 (Own.mono hS5 (le_bef (bef_app (a := [6, 0, 1, 0, 1, 1, 1, 1]) hp))) hL))
   ·first
    |(exfalso; (try simp only [bs] at h5) <;> (omega); done)
    |skip
     try simp only [bs] at h5
     refine XW_skip ?_
     refine then_norm ?_
     refine XW_sr ?_
     refine OW_mv rfl rfl ?_
     refine OW_mv rfl rfl ?_
     refine OW_mv rfl rfl ?_
     refine EN36_CF1 rfl ?_
     refine OW_iaO hS4 (k := 0) rfl rfl rfl rfl rfl rfl rfl rfl (by first | rfl | exact (Int.toNat_of_nonneg (by omega)).symm) (by first | assumption | exact at_map (by first | assumption | omega) | exact at_lst (by omega) | rfl) fun q2 ys2 hO2 hq2 ht2 hy2 hu2 => ?_
     subst hO2
     refine OW_fa rfl rfl rfl ?_
     refine OW_storeO hS4 (k := 0) rfl (le_lit (ν := ν) (a := [2, 0, 1, 1, 1]) (b := [5, 0, 1, 1, 1, 1, 1]) (by decide)) rfl rfl rfl rfl hu2 ⟨rfl, rfl, Nat.le_of_ble_eq_true rfl⟩ (u2 := .agg [_, _, _]) rfl fun H6 hS6 => ?_
     replace hS6 : Own _ _ _ (_ :: _ :: L.eraseIdx k) := hS6
     refine EZ36_CF1 rfl ?_
     refine XW_sr ?_
     replace hS6 := hS6.reS (k := 0) rfl (set_enc (x := { t[at0.toNat] with li := li }) rfl)
     refine OW_mv rfl rfl ?_
     refine OW_as rfl rfl ?_
     refine OW_as rfl rfl ?_
     refine EZ36_CF1 rfl ?_
     refine XW_ret ?_
     -- outcome 5
     refine ret_ret (res2 rfl (rv_tmp rfl) (rv_tmp rfl)) ?_
     rcases hc with ⟨h, hg⟩ | ⟨i, hi, h, hg, _, hm⟩ <;> first | (exfalso; omega) | (simp only [setQ, hg, if_pos (show t.length < 16 by omega)] at hq; exact hq _ _ (Own.put2 (Own.mono hS6 (le_bef (bef_app (a := [6, 0, 1, 1, 1, 1, 1]) hp))) hL)) | (simp only [setQ, hg, if_neg (show ¬ t.length < 16 by omega)] at hq; exact hq _ _ (Own.put2 (Own.addN (Own.mono hS6 (le_bef (bef_app (a := [6, 0, 1, 1, 1, 1, 1]) hp)))) hL)) | (subst h; simp only [setQ, hg, hm, Int.toNat_natCast] at hq ⊢; exact hq _ _ (Own.put2 (Own.mono hS6 (le_bef (bef_app (a := [6, 0, 1, 1, 1, 1, 1]) hp))) hL))
theorem pChangedK (hS : Own β ps H L) (hL : L[k]? = some (sl O 3 (t.map Qu.enc))) (hle : le ps ν) (hβ : under β ν = true) (hp : before ν pos') (hn : t.length ≤ 4294967290) (i us : Int) (h0 : 0 ≤ i) (hi : i.toNat < t.length)
    (hq : ∀ v H1, Own β pos' H1 (sl v 3 ((t.set i.toNat { t[i.toNat] with us := us }).map Qu.enc) :: L) → Q v H1) : CW cfg ν 84 [O, .int .i64 i, .int .u64 us] H Q := by
  replace hS := hS.pick hL
  refine CW_keep g84 F84 rfl ?_
  replace hS := Own.mono hS hle
  refine XW_sr ?_
  refine OW_as rfl rfl ?_
  refine OW_nilE (e' := [_,_,_,_,_,_,_,_,_,_,_,_,_,_,_,_]) rfl ?_
  refine XW_sr ?_
  refine OW_mv rfl rfl ?_
  refine OW_fn rfl rfl (Qu.cloneO hS (k := 0) rfl (le_app (p := ν) (b := [1, 0, 1])) (under_app [1, 0, 1] hβ) (before_lit (ν := ν) (a := [1, 0, 1]) (b := [2, 0, 1]) (by decide)) (by omega) fun O1 H1 hS1 => ?_) 
  replace hS1 : Own _ _ _ (_ :: _ :: L.eraseIdx k) := hS1
  refine OW_as rfl rfl ?_
  refine OW_nilE (e' := [_,_,_,_,_,_,_,_,_,_,_,_,_,_,_,_]) rfl ?_
  refine XW_sr ?_
  refine OW_mv rfl rfl ?_
  refine OW_mv rfl rfl ?_
  refine OW_mv rfl rfl ?_
  refine OW_env (e' := [_,_,_,_,_,_,_,_,_,_,_,_,_,_,_,_]) rfl ?_
  refine OW_iaO hS1 (k := 0) rfl rfl rfl rfl rfl rfl rfl rfl (by first | rfl | exact (Int.toNat_of_nonneg (by omega)).symm) (by first | assumption | exact at_map (by first | assumption | omega) | exact at_lst (by omega) | rfl) fun q1 ys1 hO1 hq1 ht1 hy1 hu1 => ?_
  subst hO1
  refine OW_fa rfl rfl rfl ?_
  refine OW_storeO hS1 (k := 0) rfl (le_lit (ν := ν) (a := [2, 0, 1]) (b := [5, 0, 1, 1]) (by decide)) rfl rfl rfl rfl hu1 ⟨rfl, rfl, Nat.le_of_ble_eq_true rfl⟩ (u2 := .agg [_, _, _]) rfl fun H2 hS2 => ?_
  replace hS2 : Own _ _ _ (_ :: _ :: L.eraseIdx k) := hS2
  refine OW_nilE (e' := [_,_,_,_,_,_,_,_,_,_,_,_,_,_,_,_]) rfl ?_
  refine XW_sr ?_
  replace hS2 := hS2.reS (k := 0) rfl (set_enc (x := { t[i.toNat] with us := us }) rfl)
  refine OW_mv rfl rfl ?_
  refine OW_as rfl rfl ?_
  refine OW_nilE (e' := [_,_,_,_,_,_,_,_,_,_,_,_,_,_,_,_]) rfl ?_
  refine XW_ret ?_
  -- outcome 1
  refine ret_ret (res1 rfl (rv_tmp rfl)) ?_
  exact hq _ _ (Own.put2 (Own.mono hS2 (le_bef (bef_app (a := [6, 0, 1, 1]) hp))) hL)
theorem pTakeK (hS : Own β ps H L) (hL : L[k]? = some (sl O 3 (t.map Qu.enc))) (hle : le ps ν) (hβ : under β ν = true) (hp : before ν pos') (hn : t.length ≤ 4294967290) (hfit : Fit t) (tn n : Int) (h0 : 0 ≤ n ∧ n ≤ 18446744073709551615)
    (hq : ∀ H1 v, Own β pos' H1 (sl v 3 ((takeQ t tn n).1.map Qu.enc) :: L) → Q (.tup [v, .int .i64 (takeQ t tn n).2]) H1) : CW cfg ν 68 [O, .int .u64 tn, .int .u64 n] H Q := by
  have hc := atQ_cases tn t
  replace hS := hS.pick hL
  refine CW_keep g68 F68 rfl ?_
  replace hS := Own.mono hS hle
  refine XW_sr ?_
  refine OW_as rfl rfl ?_
  refine OW_as rfl rfl ?_
  refine EZ43_CF1 rfl ?_
  refine XW_sr ?_
  refine OW_mv rfl rfl ?_
  refine OW_mv rfl rfl ?_
  refine OW_fn rfl rfl (c_findB (hS.freeze0 (k := 0) rfl (map_plain (fun _ => rfl))) (by omega) _ ?_) 
  refine EN43_CF1 rfl ?_
  refine OW_as rfl rfl ?_
  refine EZ43_CF1 rfl ?_
  refine XW_seq ?_
  refine XW_sr ?_
  have hr : atQ tn t = -1 ∨ 0 ≤ atQ tn t ∧ atQ tn t < t.length := by rcases hc with ⟨h, _⟩ | ⟨i, hi, h, _⟩ <;> omega
  generalize atQ tn t = at0 at *
  refine OW_mv rfl rfl ?_
  refine OW_bin rfl rfl rfl rfl rfl ?_
  refine EZ43_CF1 rfl ?_
  refine XW_if rfl (fun h2 => ?_) (fun h2 => ?_)
  ·try simp only [bs] at h2
   refine XW_sr ?_
   refine OW_as rfl rfl ?_
   refine OW_as rfl rfl ?_
   refine EZ43_CF1 rfl ?_
   refine XW_ret ?_
   refine then_ret ?_
   -- outcome 1
   refine ret_ret (res2 rfl (rv_tmp rfl) (rv_tmp rfl)) ?_
   rcases hc with ⟨h, hg⟩ | ⟨i, hi, h, hg, _, hm⟩ <;> first | (exfalso; omega) | (simp only [takeQ, hg] at hq; exact hq _ _ (Own.put2 (Own.addN (Own.mono hS (le_bef hp))) hL))
  ·try simp only [bs] at h2
   refine XW_skip ?_
   refine then_norm ?_
   refine XW_seq ?_
   refine XW_sr ?_
   have hlt : at0.toNat < t.length := by omega
   obtain ⟨f1, f2, f3⟩ := hfit t[at0.toNat] (List.getElem_mem hlt)
   refine OW_mv rfl rfl ?_
   refine OW_mv rfl rfl ?_
   refine OW_iaO hS (k := 0) rfl rfl rfl rfl rfl rfl rfl rfl (by first | rfl | exact (Int.toNat_of_nonneg (by omega)).symm) (by first | assumption | exact at_map (by first | assumption | omega) | exact at_lst (by omega) | rfl) fun q1 ys1 hO1 hq1 ht1 hy1 hu1 => ?_
   subst hO1
   refine EN43_CF1 rfl ?_
   refine OW_loadP rfl rfl hq1 hy1 rfl (by first | exact part_whole rfl rfl rfl | rfl) ?_
   refine OW_allocR hS (le_app (p := ν) (b := [4, 0, 0, 1, 1, 1])) (under_app [4, 0, 0, 1, 1, 1] hβ) rfl rfl rfl rfl fun H1 hS1 => ?_
   replace hS1 : Own _ _ _ (_ :: _ :: L.eraseIdx k) := hS1
   first
   | refine OW_storeR hS1 (k := 0) rfl le_refl rfl rfl rfl rfl ⟨rfl, rfl, Nat.le_of_ble_eq_true rfl⟩ (set_whole rfl rfl) fun H2 hS2 => ?_
   | refine OW_storeR hS1 (k := 0) rfl le_refl rfl rfl rfl rfl ⟨rfl, rfl, Nat.le_of_ble_eq_true rfl⟩ (u2 := .agg [_, _, _]) rfl fun H2 hS2 => ?_
   replace hS2 : Own _ _ _ (_ :: _ :: L.eraseIdx k) := hS2
   refine EZ43_CF1 rfl ?_
   refine XW_sr ?_
   refine OW_fa rfl rfl rfl ?_
   refine OW_loadR hS2 (k := 0) rfl rfl rfl rfl rfl (by first | exact part_whole rfl rfl rfl | rfl) ?_
   refine OW_fa rfl rfl rfl ?_
   refine EN43_CF1 rfl ?_
   refine OW_loadR hS2 (k := 0) rfl rfl rfl rfl rfl (by first | exact part_whole rfl rfl rfl | rfl) ?_
   refine OW_bin rfl rfl rfl rfl rfl ?_
   refine OW_mv rfl rfl ?_
   refine EN43_CF1 rfl ?_
   refine OW_split (tt := 24) rfl (fun g5_6 => ?_) (fun g5_6 => ?_)
   ·try simp only [bs] at g5_6
    refine OW_no rfl ?_
    refine OW_no rfl ?_
    refine EN43_CF1 rfl ?_
    refine OW_no rfl ?_
    refine OW_no rfl ?_
    refine OW_no rfl ?_
    refine EN43_CF1 rfl ?_
    refine OW_no rfl ?_
    refine OW_no rfl ?_
    refine OW_pick rfl rfl rfl ?_
    refine EZ43_CF1 rfl ?_
    refine XW_yes rfl rfl ?_
    refine XW_sr ?_
    refine OW_as rfl rfl ?_
    refine OW_as rfl rfl ?_
    refine EZ43_CF1 rfl ?_
    refine XW_ret ?_
    refine then_ret ?_
    -- outcome 2
    refine ret_ret (res2 rfl (rv_tmp rfl) (rv_tmp rfl)) ?_
    rcases hc with ⟨h, hg⟩ | ⟨i, hi, h, hg, _, hm⟩ <;> first | (exfalso; omega) | (subst h; simp only [Int.toNat_natCast] at *; rw [takeQ, hg] at hq; simp only at hq; first | (rw [if_pos (by omega), hm] at hq; exact hq _ _ (Own.put2 (Own.drop (Own.mono hS2 (le_bef (bef_app (a := [6, 0, 0, 1, 1, 1]) hp))) (k := 1) rfl) hL)) | (rw [if_neg (by omega)] at hq; exact hq _ _ (Own.put2 (Own.addN (Own.drop0 (Own.mono hS2 (le_bef (bef_app (a := [6, 0, 0, 1, 1, 1]) hp))))) hL)))
   ·try simp only [bs] at g5_6
    refine OW_mv rfl rfl ?_
    refine OW_fa rfl rfl rfl ?_
    refine EN43_CF1 rfl ?_
    refine OW_loadR hS2 (k := 0) rfl rfl rfl rfl rfl (by first | exact part_whole rfl rfl rfl | rfl) ?_
    refine OW_fa rfl rfl rfl ?_
    refine OW_loadR hS2 (k := 0) rfl rfl rfl rfl rfl (by first | exact part_whole rfl rfl rfl | rfl) ?_
    refine EN43_CF1 rfl ?_
    first
    | refine OW_bin rfl rfl rfl rfl (sub_wu64 (by first | omega | assumption | (simp only [ss]; omega))) ?_
    | refine OW_bin rfl rfl rfl rfl rfl ?_
    refine OW_bin rfl rfl rfl rfl rfl ?_
    refine OW_pick rfl rfl rfl ?_
    refine EZ43_CF1 rfl ?_
    refine XW_if rfl (fun h5 => ?_) (fun h5 => ?_)
    ·try simp only [bs] at h5
     refine XW_sr ?_
     refine OW_as rfl rfl ?_
     refine OW_as rfl rfl ?_
     refine EZ43_CF1 rfl ?_
     refine XW_ret ?_
     refine then_ret ?_
     -- outcome 3
     refine ret_ret (res2 rfl (rv_tmp rfl) (rv_tmp rfl)) ?_
     rcases hc with ⟨h, hg⟩ | ⟨i, hi, h, hg, _, hm⟩ <;> first | (exfalso; omega) | (subst h; simp only [Int.toNat_natCast] at *; rw [takeQ, hg] at hq; simp only at hq; first | (rw [if_pos (by omega), hm] at hq; exact hq _ _ (Own.put2 (Own.drop (Own.mono hS2 (le_bef (bef_app (a := [6, 0, 0, 1, 1, 1]) hp))) (k := 1) rfl) hL)) | (rw [if_neg (by omega)] at hq; exact hq _ _ (Own.put2 (Own.addN (Own.drop0 (Own.mono hS2 (le_bef (bef_app (a := [6, 0, 0, 1, 1, 1]) hp))))) hL)))
    ·try simp only [bs] at h5
     refine XW_skip ?_
     refine then_norm ?_
     refine XW_sr ?_
     refine OW_mv rfl rfl ?_
     refine OW_mv rfl rfl ?_
     refine OW_mv rfl rfl ?_
     refine EN43_CF1 rfl ?_
     refine OW_mv rfl rfl ?_
     refine OW_iaO hS2 (k := 1) rfl rfl rfl rfl rfl rfl rfl rfl (by first | rfl | exact (Int.toNat_of_nonneg (by omega)).symm) (by first | assumption | exact at_map (by first | assumption | omega) | exact at_lst (by omega) | rfl) fun q2 ys2 hO2 hq2 ht2 hy2 hu2 => ?_
     obtain rfl : q1 = q2 := (AVal.slc.inj hO2).1
     refine OW_fa rfl rfl rfl ?_
     refine EN43_CF1 rfl ?_
     refine OW_loadP rfl rfl hq2 hy2 rfl (by first | exact part_whole rfl rfl rfl | rfl) ?_
     refine OW_mv rfl rfl ?_
     first
     | refine OW_bin rfl rfl rfl rfl (add_wu64 (by first | omega | assumption | (simp only [ss]; omega))) ?_
     | refine OW_bin rfl rfl rfl rfl rfl ?_
     refine EN43_CF1 rfl ?_
     refine OW_fn rfl rfl (pChangedK hS2 (k := 1) rfl (le_lit (ν := ν) (a := [6, 0, 0, 1, 1, 1]) (b := [9, 0, 1, 1, 1, 1]) (by decide)) (under_app [9, 0, 1, 1, 1, 1] hβ) (before_lit (ν := ν) (a := [9, 0, 1, 1, 1, 1]) (b := [10, 0, 1, 1, 1, 1]) (by decide)) (by omega) _ _ (by omega) (by omega) fun O1 H3 hS3 => ?_) 
     replace hS3 : Own _ _ _ (_ :: _ :: _ :: L.eraseIdx k) := hS3
     refine OW_as rfl rfl ?_
     refine OW_as rfl rfl ?_
     refine EZ43_CF1 rfl ?_
     refine XW_ret ?_
     -- outcome 4
     refine ret_ret (res2 rfl (rv_tmp rfl) (rv_tmp rfl)) ?_
     rcases hc with ⟨h, hg⟩ | ⟨i, hi, h, hg, _, hm⟩ <;> first | (exfalso; omega) | (subst h; simp only [Int.toNat_natCast] at *; rw [takeQ, hg] at hq; simp only at hq; first | (rw [if_pos (by omega), hm] at hq; exact hq _ _ (Own.put2 (Own.drop (Own.mono hS3 (le_bef (bef_app (a := [10, 0, 1, 1, 1, 1]) hp))) (k := 1) rfl) hL)) | (rw [if_neg (by omega)] at hq; exact hq _ _ (Own.put2 (Own.addN (Own.drop0 (Own.mono hS3 (le_bef (bef_app (a := [10, 0, 1, 1, 1, 1]) hp))))) hL)))
theorem rSetK (hS : Own β ps H L) (hL : L[k]? = some (sl O 3 (t.map Qu.enc))) (hle : le ps ν) (hβ : under β ν = true) (hp : before ν pos') (hn : t.length ≤ 4294967290) (tn li : Int)
    (hq : ∀ H1 v, Own β pos' H1 (sl v 3 ((setQ t tn li).1.map Qu.enc) :: L) → Q (.tup [v, .bool (setQ t tn li).2]) H1) : CW cfg ν 39 [O, .int .u64 tn, .int .u64 li] H Q := by
  have hc := atQ_cases tn t
  replace hS := hS.pick hL
  refine CW_keep g39 F39 rfl ?_
  replace hS := Own.mono hS hle
  refine XW_sr ?_
  refine OW_as rfl rfl ?_
  refine OW_as rfl rfl ?_
  refine EZ34_CF1 rfl ?_
  refine XW_sr ?_
  refine OW_bs rfl rfl rfl ?_
  refine OW_mv rfl rfl ?_
  refine OW_appE hS (le_app (p := ν) (b := [2, 0, 1])) (under_app [2, 0, 1] hβ) rfl rfl rfl rfl rfl rfl rfl rfl (by first | rfl | exact Ls.elems (by assumption) | exact hS.elems (k := 0) rfl) (by first | exact one_wide rfl | exact map_wide (fun _ => rfl) | assumption | (intro y hy; simp at hy; done)) (by first | omega | (simp only [ss]; omega) | (simp; omega)) (by decide) fun O1 H1 hS1 => ?_
  replace hS1 : Own _ _ _ (_ :: _ :: L.eraseIdx k) := hS1
  refine OW_env (e' := [_,_,_,_,_,_,_,_,_,_,_,_,_,_,_,_,_,_,_,_,_,_,_,_,_,_,_,_,_,_,_,_,_,_]) rfl ?_
  refine OW_as rfl rfl ?_
  refine EZ34_CF1 rfl ?_
  refine XW_sr ?_
  refine OW_mv rfl rfl ?_
  refine OW_mv rfl rfl ?_
  refine OW_fn rfl rfl (c_Find (hS1.freeze0 (k := 1) rfl (map_plain (fun _ => rfl))) (by omega) _ ?_) 
  refine OW_env (e' := [_,_,_,_,_,_,_,_,_,_,_,_,_,_,_,_,_,_,_,_,_,_,_,_,_,_,_,_,_,_,_,_,_,_]) rfl ?_
  refine OW_as rfl rfl ?_
  refine EZ34_CF1 rfl ?_
  refine XW_seq ?_
  refine XW_sr ?_
  have hr : atQ tn t = -1 ∨ 0 ≤ atQ tn t ∧ atQ tn t < t.length := by rcases hc with ⟨h, _⟩ | ⟨i, hi, h, _⟩ <;> omega
  generalize atQ tn t = at0 at *
  refine OW_mv rfl rfl ?_
  refine OW_bin rfl rfl rfl rfl rfl ?_
  refine EZ34_CF1 rfl ?_
  refine XW_if rfl (fun h3 => ?_) (fun h3 => ?_)
  ·try simp only [bs] at h3
   refine XW_sr ?_
   refine OW_mv rfl rfl ?_
   refine OW_mv rfl rfl ?_
   refine OW_mv rfl rfl ?_
   refine OW_env (e' := [_,_,_,_,_,_,_,_,_,_,_,_,_,_,_,_,_,_,_,_,_,_,_,_,_,_,_,_,_,_,_,_,_,_]) rfl ?_
   refine OW_iaO hS1 (k := 0) rfl rfl rfl rfl rfl rfl rfl rfl (by first | rfl | exact (Int.toNat_of_nonneg (by omega)).symm) (by first | assumption | exact at_map (by first | assumption | omega) | exact at_lst (by omega) | rfl) fun q1 ys1 hO1 hq1 ht1 hy1 hu1 => ?_
   subst hO1
   refine OW_fa rfl rfl rfl ?_
   refine OW_storeO hS1 (k := 0) rfl (le_lit (ν := ν) (a := [3, 0, 1]) (b := [5, 0, 1, 0, 1, 1, 1]) (by decide)) rfl rfl rfl rfl hu1 ⟨rfl, rfl, Nat.le_of_ble_eq_true rfl⟩ (u2 := .agg [_, _, _]) rfl fun H2 hS2 => ?_
   replace hS2 : Own _ _ _ (_ :: _ :: L.eraseIdx k) := hS2
   refine EZ34_CF1 rfl ?_
   refine XW_sr ?_
   replace hS2 := hS2.reS (k := 0) rfl (set_enc (x := { t[at0.toNat] with li := li }) rfl)
   refine OW_mv rfl rfl ?_
   refine OW_as rfl rfl ?_
   refine OW_as rfl rfl ?_
   refine EZ34_CF1 rfl ?_
   refine XW_ret ?_
   refine then_ret ?_
   -- outcome 1
   refine ret_ret (res2 rfl (rv_tmp rfl) (rv_tmp rfl)) ?_
   rcases hc with ⟨h, hg⟩ | ⟨i, hi, h, hg, _, hm⟩ <;> first | (exfalso; omega) | (simp only [setQ, hg, if_pos (show t.length < 16 by omega)] at hq; exact hq _ _ (Own.put2 (Own.mono hS2 (le_bef (bef_app (a := [6, 0, 1, 0, 1, 1, 1]) hp))) hL)) | (simp only [setQ, hg, if_neg (show ¬ t.length < 16 by omega)] at hq; exact hq _ _ (Own.put2 (Own.addN (Own.drop0 (Own.mono hS2 (le_bef (bef_app (a := [6, 0, 1, 0, 1, 1, 1]) hp))))) hL)) | (subst h; simp only [setQ, hg, hm, Int.toNat_natCast] at hq ⊢; exact hq _ _ (Own.put2 (Own.mono hS2 (le_bef (bef_app (a := [6, 0, 1, 0, 1, 1, 1]) hp))) hL))
  ·try simp only [bs] at h3
   refine XW_skip ?_
   refine then_norm ?_
   refine XW_seq ?_
   refine XW_sr ?_
   refine OW_mv rfl rfl ?_
   refine OW_lenO hS1 (k := 1) rfl rfl rfl rfl rfl rfl (by first | exact List.length_map _ | exact len_app1 | exact len_drop | (simp only [ss]; rfl) | rfl) ?_
   refine OW_bin rfl rfl rfl rfl rfl ?_
   refine EZ34_CF1 rfl ?_
   refine XW_if rfl (fun h6 => ?_) (fun h6 => ?_)
   ·try simp only [bs] at h6
    refine XW_sr ?_
    refine OW_as rfl rfl ?_
    refine OW_as rfl rfl ?_
    refine EZ34_CF1 rfl ?_
    refine XW_ret ?_
    refine then_ret ?_
    -- outcome 2
    refine ret_ret (res2 rfl (rv_tmp rfl) (rv_tmp rfl)) ?_
    rcases hc with ⟨h, hg⟩ | ⟨i, hi, h, hg, _, hm⟩ <;> first | (exfalso; omega) | (simp only [setQ, hg, if_pos (show t.length < 16 by omega)] at hq; exact hq _ _ (Own.put2 (Own.mono hS1 (le_bef (bef_app (a := [3, 0, 1]) hp))) hL)) | (simp only [setQ, hg, if_neg (show ¬ t.length < 16 by omega)] at hq; exact hq _ _ (Own.put2 (Own.addN (Own.drop0 (Own.mono hS1 (le_bef (bef_app (a := [3, 0, 1]) hp))))) hL)) | (subst h; simp only [setQ, hg, hm, Int.toNat_natCast] at hq ⊢; exact hq _ _ (Own.put2 (Own.mono hS1 (le_bef (bef_app (a := [3, 0, 1]) hp))) hL))
   ·try simp only [bs] at h6
    refine XW_skip ?_
    refine then_norm ?_
    refine XW_sr ?_
    refine OW_mv rfl rfl ?_
    refine OW_mv rfl rfl ?_
    refine OW_mv rfl rfl ?_
    refine OW_env (e' := [_,_,_,_,_,_,_,_,_,_,_,_,_,_,_,_,_,_,_,_,_,_,_,_,_,_,_,_,_,_,_,_,_,_]) rfl ?_
    refine OW_bd rfl rfl (v := .agg [_, _, _]) rfl ?_
    refine OW_bs rfl rfl (v := .lst [_]) rfl ?_
    refine OW_app hS1 (k := 0) rfl (le_lit (ν := ν) (a := [3, 0, 1]) (b := [5, 0, 1, 1, 1, 1, 1]) (by decide)) (under_app [5, 0, 1, 1, 1, 1, 1] hβ) rfl rfl rfl rfl rfl rfl rfl rfl (by first | rfl | exact Ls.elems (by assumption)) (by first | exact one_wide rfl | exact map_wide (fun _ => rfl) | assumption | (intro y hy; simp at hy; done)) (by first | omega | (simp only [ss]; omega) | (simp; omega)) (by decide) fun O2 H3 hS3 => ?_
    replace hS3 : Own _ _ _ (_ :: _ :: L.eraseIdx k) := hS3
    refine OW_env (e' := [_,_,_,_,_,_,_,_,_,_,_,_,_,_,_,_,_,_,_,_,_,_,_,_,_,_,_,_,_,_,_,_,_,_]) rfl ?_
    refine OW_as rfl rfl ?_
    refine EZ34_CF1 rfl ?_
    refine XW_sr ?_
    replace hS3 := hS3.reS (k := 0) rfl (map_snoc (a := (⟨tn, 0, li⟩ : Qu)))
    refine OW_mv rfl rfl ?_
    refine OW_as rfl rfl ?_
    refine OW_as rfl rfl ?_
    refine EZ34_CF1 rfl ?_
    refine XW_ret ?_
    -- outcome 3
    refine ret_ret (res2 rfl (rv_tmp rfl) (rv_tmp rfl)) ?_
    rcases hc with ⟨h, hg⟩ | ⟨i, hi, h, hg, _, hm⟩ <;> first | (exfalso; omega) | (simp only [setQ, hg, if_pos (show t.length < 16 by omega)] at hq; exact hq _ _ (Own.put2 (Own.mono hS3 (le_bef (bef_app (a := [6, 0, 1, 1, 1, 1, 1]) hp))) hL)) | (simp only [setQ, hg, if_neg (show ¬ t.length < 16 by omega)] at hq; exact hq _ _ (Own.put2 (Own.addN (Own.drop0 (Own.mono hS3 (le_bef (bef_app (a := [6, 0, 1, 1, 1, 1, 1]) hp))))) hL)) | (subst h; simp only [setQ, hg, hm, Int.toNat_natCast] at hq ⊢; exact hq _ _ (Own.put2 (Own.mono hS3 (le_bef (bef_app (a := [6, 0, 1, 1, 1, 1, 1]) hp))) hL))
theorem rTakeK (hS : Own β ps H L) (hL : L[k]? = some (sl O 3 (t.map Qu.enc))) (hle : le ps ν) (hβ : under β ν = true) (hp : before ν pos') (hn : t.length ≤ 4294967290) (hfit : Fit t) (tn n : Int) (h0 : 0 ≤ n ∧ n ≤ 18446744073709551615)
    (hq : ∀ H1 v, Own β pos' H1 (sl v 3 ((takeQ t tn n).1.map Qu.enc) :: L) → Q (.tup [v, .int .i64 (takeQ t tn n).2]) H1) : CW cfg ν 70 [O, .int .u64 tn, .int .u64 n] H Q := by
  have hc := atQ_cases tn t
  replace hS := hS.pick hL
  refine CW_keep g70 F70 rfl ?_
  replace hS := Own.mono hS hle
  refine XW_sr ?_
  refine OW_as rfl rfl ?_
  refine OW_as rfl rfl ?_
  refine EZ44_CF1 rfl ?_
  refine XW_sr ?_
  refine OW_mv rfl rfl ?_
  refine OW_mv rfl rfl ?_
  refine OW_fn rfl rfl (c_Find (hS.freeze0 (k := 0) rfl (map_plain (fun _ => rfl))) (by omega) _ ?_) 
  refine EN44_CF1 rfl ?_
  refine OW_as rfl rfl ?_
  refine EZ44_CF1 rfl ?_
  refine XW_seq ?_
  refine XW_sr ?_
  have hr : atQ tn t = -1 ∨ 0 ≤ atQ tn t ∧ atQ tn t < t.length := by rcases hc with ⟨h, _⟩ | ⟨i, hi, h, _⟩ <;> omega
  generalize atQ tn t = at0 at *
  refine OW_mv rfl rfl ?_
  refine OW_bin rfl rfl rfl rfl rfl ?_
  refine EZ44_CF1 rfl ?_
  refine XW_if rfl (fun h2 => ?_) (fun h2 => ?_)
  ·try simp only [bs] at h2
   refine XW_sr ?_
   refine OW_as rfl rfl ?_
   refine OW_as rfl rfl ?_
   refine EZ44_CF1 rfl ?_
   refine XW_ret ?_
   refine then_ret ?_
   -- outcome 1
   refine ret_ret (res2 rfl (rv_tmp rfl) (rv_tmp rfl)) ?_
   rcases hc with ⟨h, hg⟩ | ⟨i, hi, h, hg, _, hm⟩ <;> first | (exfalso; omega) | (simp only [takeQ, hg] at hq; exact hq _ _ (Own.put2 (Own.addN (Own.mono hS (le_bef hp))) hL)) | (subst h; simp only [Int.toNat_natCast] at *; rw [takeQ, hg] at hq; simp only at hq; first | (rw [if_pos (by omega), hm] at hq; have e : sm = t[i].us + n := (by omega); subst e; exact hq _ _ (Own.put2 (Own.mono hS (le_bef hp)) hL)) | (rw [if_neg (by omega)] at hq; exact hq _ _ (Own.put2 (Own.addN (Own.mono hS (le_bef hp))) hL)))
  ·try simp only [bs] at h2
   refine XW_skip ?_
   refine then_norm ?_
   refine XW_sr ?_
   have hlt : at0.toNat < t.length := by omega
   obtain ⟨f1, f2, f3⟩ := hfit t[at0.toNat] (List.getElem_mem hlt)
   refine OW_mv rfl rfl ?_
   refine OW_mv rfl rfl ?_
   refine OW_iaO hS (k := 0) rfl rfl rfl rfl rfl rfl rfl rfl (by first | rfl | exact (Int.toNat_of_nonneg (by omega)).symm) (by first | assumption | exact at_map (by first | assumption | omega) | exact at_lst (by omega) | rfl) fun q1 ys1 hO1 hq1 ht1 hy1 hu1 => ?_
   subst hO1
   refine EN44_CF1 rfl ?_
   refine OW_fa rfl rfl rfl ?_
   refine OW_loadP rfl rfl hq1 hy1 rfl (by first | exact part_whole rfl rfl rfl | rfl) ?_
   refine OW_mv rfl rfl ?_
   refine EN44_CF1 rfl ?_
   first
   | refine OW_bin rfl rfl rfl rfl (add_wu64 (by first | omega | assumption | (simp only [ss]; omega))) ?_
   | refine OW_bin rfl rfl rfl rfl rfl ?_
   refine OW_as rfl rfl ?_
   refine EZ44_CF1 rfl ?_
   refine XW_seq ?_
   refine XW_sr ?_
   have hw := wrapu_add f2 h0
   generalize IntKind.u64.wrap (t[at0.toNat].us + n) = sm at hw ⊢
   refine OW_mv rfl rfl ?_
   refine OW_mv rfl rfl ?_
   refine OW_bin rfl rfl rfl rfl rfl ?_
   refine EN44_CF1 rfl ?_
   refine OW_mv rfl rfl ?_
   refine OW_split (tt := 26) rfl (fun g5_4 => ?_) (fun g5_4 => ?_)
   ·try simp only [bs] at g5_4
    refine OW_no rfl ?_
    refine EN44_CF1 rfl ?_
    refine OW_no rfl ?_
    refine OW_no rfl ?_
    refine OW_no rfl ?_
    refine EN44_CF1 rfl ?_
    refine OW_no rfl ?_
    refine OW_no rfl ?_
    refine OW_no rfl ?_
    refine EN44_CF1 rfl ?_
    refine OW_pick rfl rfl rfl ?_
    refine EZ44_CF1 rfl ?_
    refine XW_yes rfl rfl ?_
    refine XW_sr ?_
    refine OW_as rfl rfl ?_
    refine OW_as rfl rfl ?_
    refine EZ44_CF1 rfl ?_
    refine XW_ret ?_
    refine then_ret ?_
    -- outcome 2
    refine ret_ret (res2 rfl (rv_tmp rfl) (rv_tmp rfl)) ?_
    rcases hc with ⟨h, hg⟩ | ⟨i, hi, h, hg, _, hm⟩ <;> first | (exfalso; omega) | (simp only [takeQ, hg] at hq; exact hq _ _ (Own.put2 (Own.addN (Own.mono hS (le_bef hp))) hL)) | (subst h; simp only [Int.toNat_natCast] at *; rw [takeQ, hg] at hq; simp only at hq; first | (rw [if_pos (by omega), hm] at hq; have e : sm = t[i].us + n := (by omega); subst e; exact hq _ _ (Own.put2 (Own.mono hS (le_bef hp)) hL)) | (rw [if_neg (by omega)] at hq; exact hq _ _ (Own.put2 (Own.addN (Own.mono hS (le_bef hp))) hL)))
   ·try simp only [bs] at g5_4
    refine OW_mv rfl rfl ?_
    refine EN44_CF1 rfl ?_
    refine OW_mv rfl rfl ?_
    refine OW_mv rfl rfl ?_
    refine OW_iaO hS (k := 0) rfl rfl rfl rfl rfl rfl rfl rfl (by first | rfl | exact (Int.toNat_of_nonneg (by omega)).symm) (by first | assumption | exact at_map (by first | assumption | omega) | exact at_lst (by omega) | rfl) fun q2 ys2 hO2 hq2 ht2 hy2 hu2 => ?_
    obtain rfl : q1 = q2 := (AVal.slc.inj hO2).1
    refine EN44_CF1 rfl ?_
    refine OW_fa rfl rfl rfl ?_
    refine OW_loadP rfl rfl hq2 hy2 rfl (by first | exact part_whole rfl rfl rfl | rfl) ?_
    refine OW_bin rfl rfl rfl rfl rfl ?_
    refine EN44_CF1 rfl ?_
    refine OW_pick rfl rfl rfl ?_
    refine EZ44_CF1 rfl ?_
    refine XW_if rfl (fun h5 => ?_) (fun h5 => ?_)
    ·try simp only [bs] at h5
     refine XW_sr ?_
     refine OW_as rfl rfl ?_
     refine OW_as rfl rfl ?_
     refine EZ44_CF1 rfl ?_
     refine XW_ret ?_
     refine then_ret ?_
     -- outcome 3
     refine ret_ret (res2 rfl (rv_tmp rfl) (rv_tmp rfl)) ?_
     rcases hc with ⟨h, hg⟩ | ⟨i, hi, h, hg, _, hm⟩ <;> first | (exfalso; omega) | (simp only [takeQ, hg] at hq; exact hq _ _ (Own.put2 (Own.addN (Own.mono hS (le_bef hp))) hL)) | (subst h; simp only [Int.toNat_natCast] at *; rw [takeQ, hg] at hq; simp only at hq; first | (rw [if_pos (by omega), hm] at hq; have e : sm = t[i].us + n := (by omega); subst e; exact hq _ _ (Own.put2 (Own.mono hS (le_bef hp)) hL)) | (rw [if_neg (by omega)] at hq; exact hq _ _ (Own.put2 (Own.addN (Own.mono hS (le_bef hp))) hL)))
    ·try simp only [bs] at h5
     refine XW_skip ?_
     refine then_norm ?_
     refine XW_sr ?_
     refine OW_bs rfl rfl rfl ?_
     refine OW_mv rfl rfl ?_
     refine OW_appE hS (le_app (p := ν) (b := [2, 0, 1, 1, 1, 1, 1])) (under_app [2, 0, 1, 1, 1, 1, 1] hβ) rfl rfl rfl rfl rfl rfl rfl rfl (by first | rfl | exact Ls.elems (by assumption) | exact hS.elems (k := 0) rfl) (by first | exact one_wide rfl | exact map_wide (fun _ => rfl) | assumption | (intro y hy; simp at hy; done)) (by first | omega | (simp only [ss]; omega) | (simp; omega)) (by decide) fun O1 H1 hS1 => ?_
     replace hS1 : Own _ _ _ (_ :: _ :: L.eraseIdx k) := hS1
     refine EN44_CF1 rfl ?_
     refine OW_as rfl rfl ?_
     refine EZ44_CF1 rfl ?_
     refine XW_sr ?_
     refine OW_mv rfl rfl ?_
     refine OW_mv rfl rfl ?_
     refine OW_mv rfl rfl ?_
     refine EN44_CF1 rfl ?_
     refine OW_iaO hS1 (k := 0) rfl rfl rfl rfl rfl rfl rfl rfl (by first | rfl | exact (Int.toNat_of_nonneg (by omega)).symm) (by first | assumption | exact at_map (by first | assumption | omega) | exact at_lst (by omega) | rfl) fun q3 ys3 hO3 hq3 ht3 hy3 hu3 => ?_
     subst hO3
     refine OW_fa rfl rfl rfl ?_
     refine OW_storeO hS1 (k := 0) rfl (le_lit (ν := ν) (a := [3, 0, 1, 1, 1, 1, 1]) (b := [5, 0, 1, 1, 1, 1, 1, 1]) (by decide)) rfl rfl rfl rfl hu3 ⟨rfl, rfl, Nat.le_of_ble_eq_true rfl⟩ (u2 := .agg [_, _, _]) rfl fun H2 hS2 => ?_
     replace hS2 : Own _ _ _ (_ :: _ :: L.eraseIdx k) := hS2
     refine EZ44_CF1 rfl ?_
     refine XW_sr ?_
     replace hS2 := hS2.reS (k := 0) rfl (set_enc (x := { t[at0.toNat] with us := sm }) rfl)
     refine OW_mv rfl rfl ?_
     refine OW_as rfl rfl ?_
     refine OW_as rfl rfl ?_
     refine EZ44_CF1 rfl ?_
     refine XW_ret ?_
     -- outcome 4
     refine ret_ret (res2 rfl (rv_tmp rfl) (rv_tmp rfl)) ?_
     rcases hc with ⟨h, hg⟩ | ⟨i, hi, h, hg, _, hm⟩ <;> first | (exfalso; omega) | (simp only [takeQ, hg] at hq; exact hq _ _ (Own.put2 (Own.addN (Own.mono hS2 (le_bef (bef_app (a := [6, 0, 1, 1, 1, 1, 1, 1]) hp)))) hL)) | (subst h; simp only [Int.toNat_natCast] at *; rw [takeQ, hg] at hq; simp only at hq; first | (rw [if_pos (by omega), hm] at hq; have e : sm = t[i].us + n := (by omega); subst e; exact hq _ _ (Own.put2 (Own.mono hS2 (le_bef (bef_app (a := [6, 0, 1, 1, 1, 1, 1, 1]) hp))) hL)) | (rw [if_neg (by omega)] at hq; exact hq _ _ (Own.put2 (Own.addN (Own.mono hS2 (le_bef (bef_app (a := [6, 0, 1, 1, 1, 1, 1, 1]) hp)))) hL)))
end Go.Proofs.Ytealccnfnpkngaa.X
