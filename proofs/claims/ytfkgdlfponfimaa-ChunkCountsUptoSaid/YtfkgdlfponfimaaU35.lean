import Derived.Test.YtfkgdlfponfimaaU34
import Derived.Test.YtfkgdlfponfimaaU29
import Derived.Test.YtfkgdlfponfimaaU27
import Derived.Test.YtfkgdlfponfimaaU32
/- Layer 12: Check of the reference, Text, Parse; the law QuotaTexts. -/
set_option linter.unusedVariables false
set_option linter.unusedSimpArgs false
set_option maxRecDepth 100000
namespace Go.Proofs.Ytfkgdlfponfimaa.X
open Go Go.RowKit WM
variable {ν : Nm} {H : Heap} {Q : AVal → Heap → Prop}
def cQu : Cod Qu := (cI.pair (cI.pair cI)).iso (fun p => ⟨p.1, p.2.1, p.2.2⟩) (fun x => (x.tn, x.us, x.li)) (fun _ => rfl) (fun _ => rfl)
def textS (t : List Qu) : ByteArray := ba (encU t.length ++ (t.map cQu.enc).flatten)
def parS (s : ByteArray) : Option (List Qu) := match (cQu.list 16 (by decide)).all s.data.toList with
  | some l => if chkQ l then some l else none
  | none => none
def resP (s : ByteArray) : List Qu × Bool := match parS s with
  | some l => (l, true)
  | none => ([], false)
end Go.Proofs.Ytfkgdlfponfimaa.X
/- Quotas in own slices: Set, Take, of the program and of the document's answer (layers 13, 14). -/
set_option linter.unusedVariables false
set_option linter.unusedSimpArgs false
set_option maxRecDepth 100000
namespace Go.Proofs.Ytfkgdlfponfimaa.X
open Go Go.RowKit WM
theorem EN36_CF1 {c : Cfg} {ν : Nm} {e : Env} {H : Heap} {all : Array Oper} {r : List Oper} {i : Nat} {Q : Env → Heap → Prop} {x0 x1 x2 x3 x4 x5 x6 x7 x8 x9 x10 x11 x12 x13 x14 x15 x16 x17 x18 x19 x20 x21 x22 x23 x24 x25 x26 x27 x28 x29 x30 x31 x32 x33 x34 x35 : AVal} (he : e = [x0,x1,x2,x3,x4,x5,x6,x7,x8,x9,x10,x11,x12,x13,x14,x15,x16,x17,x18,x19,x20,x21,x22,x23,x24,x25,x26,x27,x28,x29,x30,x31,x32,x33,x34,x35]) (h : OW c ν all r i [x0,x1,x2,x3,x4,x5,x6,x7,x8,x9,x10,x11,x12,x13,x14,x15,x16,x17,x18,x19,x20,x21,x22,x23,x24,x25,x26,x27,x28,x29,x30,x31,x32,x33,x34,x35] H Q) : OW c ν all r i e H Q := by subst he; exact h
theorem EN43_CF1 {c : Cfg} {ν : Nm} {e : Env} {H : Heap} {all : Array Oper} {r : List Oper} {i : Nat} {Q : Env → Heap → Prop} {x0 x1 x2 x3 x4 x5 x6 x7 x8 x9 x10 x11 x12 x13 x14 x15 x16 x17 x18 x19 x20 x21 x22 x23 x24 x25 x26 x27 x28 x29 x30 x31 x32 x33 x34 x35 x36 x37 x38 x39 x40 x41 x42 : AVal} (he : e = [x0,x1,x2,x3,x4,x5,x6,x7,x8,x9,x10,x11,x12,x13,x14,x15,x16,x17,x18,x19,x20,x21,x22,x23,x24,x25,x26,x27,x28,x29,x30,x31,x32,x33,x34,x35,x36,x37,x38,x39,x40,x41,x42]) (h : OW c ν all r i [x0,x1,x2,x3,x4,x5,x6,x7,x8,x9,x10,x11,x12,x13,x14,x15,x16,x17,x18,x19,x20,x21,x22,x23,x24,x25,x26,x27,x28,x29,x30,x31,x32,x33,x34,x35,x36,x37,x38,x39,x40,x41,x42] H Q) : OW c ν all r i e H Q := by subst he; exact h
theorem EZ36_CF1 {c : Cfg} {ν : Nm} {e : Env} {H : Heap} {all : Array Oper} {i : Nat} {Q : Env → Heap → Prop} {x0 x1 x2 x3 x4 x5 x6 x7 x8 x9 x10 x11 x12 x13 x14 x15 x16 x17 x18 x19 x20 x21 x22 x23 x24 x25 x26 x27 x28 x29 x30 x31 x32 x33 x34 x35 : AVal} (he : e = [x0,x1,x2,x3,x4,x5,x6,x7,x8,x9,x10,x11,x12,x13,x14,x15,x16,x17,x18,x19,x20,x21,x22,x23,x24,x25,x26,x27,x28,x29,x30,x31,x32,x33,x34,x35]) (h : Q [x0,x1,x2,x3,x4,x5,x6,x7,x8,x9,x10,x11,x12,x13,x14,x15,x16,x17,x18,x19,x20,x21,x22,x23,x24,x25,x26,x27,x28,x29,x30,x31,x32,x33,x34,x35] H) : OW c ν all [] i e H Q := by subst he; exact OW_nil h
theorem EZ43_CF1 {c : Cfg} {ν : Nm} {e : Env} {H : Heap} {all : Array Oper} {i : Nat} {Q : Env → Heap → Prop} {x0 x1 x2 x3 x4 x5 x6 x7 x8 x9 x10 x11 x12 x13 x14 x15 x16 x17 x18 x19 x20 x21 x22 x23 x24 x25 x26 x27 x28 x29 x30 x31 x32 x33 x34 x35 x36 x37 x38 x39 x40 x41 x42 : AVal} (he : e = [x0,x1,x2,x3,x4,x5,x6,x7,x8,x9,x10,x11,x12,x13,x14,x15,x16,x17,x18,x19,x20,x21,x22,x23,x24,x25,x26,x27,x28,x29,x30,x31,x32,x33,x34,x35,x36,x37,x38,x39,x40,x41,x42]) (h : Q [x0,x1,x2,x3,x4,x5,x6,x7,x8,x9,x10,x11,x12,x13,x14,x15,x16,x17,x18,x19,x20,x21,x22,x23,x24,x25,x26,x27,x28,x29,x30,x31,x32,x33,x34,x35,x36,x37,x38,x39,x40,x41,x42] H) : OW c ν all [] i e H Q := by subst he; exact OW_nil h
variable {ν β ps pos' : Nm} {H : Heap} {Q : AVal → Heap → Prop} {L : List Asr} {k : Nat} {O : AVal} {t : List Qu}
theorem pSetK (hS : Own β ps H L) (hL : L[k]? = some (sl O 3 (t.map Qu.enc))) (hle : le ps ν) (hβ : under β ν = true) (hp : before ν pos') (hn : t.length ≤ 4294967290) (tn li : Int)
    (hq : ∀ H1 v, Own β pos' H1 (sl v 3 ((setQ t tn li).1.map Qu.enc) :: L) → Q (.tup [v, .bool (setQ t tn li).2]) H1) : CW cfg ν 65 [O, .int .u64 tn, .int .u64 li] H Q := by
  have hc := atQ_cases tn t
  replace hS := hS.pick hL
  refine CW_keep g65 F65 rfl ?_
  replace hS := Own.mono hS hle
  refine XW_sr ?_
  refine OW_as rfl rfl ?_
  refine OW_as rfl rfl ?_
  refine EZ36_CF1 rfl ?_
  refine XW_sr ?_
  refine OW_mv rfl rfl ?_
  refine OW_mv rfl rfl ?_
  refine OW_fn rfl rfl (c_findB (hS.freeze0 (k := 0) rfl (map_plain (fun _ => rfl))) (by omega) _ ?_) 
  refine EN36_CF1 rfl ?_
  refine OW_as rfl rfl ?_
  refine EZ36_CF1 rfl ?_
  refine XW_seq ?_
  refine XW_sr ?_
  have hr : atQ tn t = -1 ∨ 0 ≤ atQ tn t ∧ atQ tn t < t.length := by rcases hc with ⟨h, _⟩ | ⟨i, hi, h, _⟩ <;> omega
  generalize atQ tn t = at0 at *
  refine OW_mv rfl rfl ?_
  refine OW_bin rfl rfl rfl rfl rfl ?_
  refine OW_mv rfl rfl ?_
  refine EN36_CF1 rfl ?_
  refine OW_split (tt := 15) rfl (fun g2_3 => ?_) (fun g2_3 => ?_)
  ·try simp only [bs] at g2_3
   refine OW_mv rfl rfl ?_
   refine OW_lenO hS (k := 0) rfl rfl rfl rfl rfl rfl (by first | exact List.length_map _ | exact len_app1 | exact len_drop | (simp only [ss]; rfl) | rfl) ?_
   refine EN36_CF1 rfl ?_
   refine OW_bin rfl rfl rfl rfl rfl ?_
   refine OW_pick rfl rfl rfl ?_
   refine EZ36_CF1 rfl ?_
   refine XW_if rfl (fun h2 => ?_) (fun h2 => ?_)
   ·try simp only [bs] at h2
    refine XW_sr ?_
    refine OW_as rfl rfl ?_
    refine OW_as rfl rfl ?_
    refine EZ36_CF1 rfl ?_
    refine XW_ret ?_
    refine then_ret ?_
    refine ret_ret (res2 rfl (rv_tmp rfl) (rv_tmp rfl)) ?_
    rcases hc with ⟨h, hg⟩ | ⟨i, hi, h, hg, _, hm⟩ <;> first | (exfalso; omega) | (simp only [setQ, hg, if_pos (show t.length < 16 by omega)] at hq; exact hq _ _ (Own.put2 (Own.mono hS (le_bef hp)) hL)) | (simp only [setQ, hg, if_neg (show ¬ t.length < 16 by omega)] at hq; exact hq _ _ (Own.put2 (Own.addN (Own.mono hS (le_bef hp))) hL)) | (subst h; simp only [setQ, hg, hm, Int.toNat_natCast] at hq ⊢; exact hq _ _ (Own.put2 (Own.mono hS (le_bef hp)) hL))
   ·try simp only [bs] at h2
    refine XW_skip ?_
    refine then_norm ?_
    refine XW_sr ?_
    refine OW_mv rfl rfl ?_
    refine OW_fn rfl rfl (Qu.cloneO hS (k := 0) rfl (le_app (p := ν) (b := [1, 0, 1, 1, 1])) (under_app [1, 0, 1, 1, 1] hβ) (before_lit (ν := ν) (a := [1, 0, 1, 1, 1]) (b := [2, 0, 1, 1, 1]) (by decide)) (by omega) fun O1 H1 hS1 => ?_) 
    replace hS1 : Own _ _ _ (_ :: _ :: L.eraseIdx k) := hS1
    refine OW_as rfl rfl ?_
    refine EZ36_CF1 rfl ?_
    refine XW_seq ?_
    refine XW_sr ?_
    refine OW_mv rfl rfl ?_
    refine OW_bin rfl rfl rfl rfl rfl ?_
    refine EZ36_CF1 rfl ?_
    refine XW_if rfl (fun h5 => ?_) (fun h5 => ?_)
    ·first
     |(exfalso; (try simp only [bs] at h5) <;> (omega); done)
     |skip
      try simp only [bs] at h5
      refine XW_sr ?_
      refine OW_mv rfl rfl ?_
      refine OW_mv rfl rfl ?_
      refine OW_mv rfl rfl ?_
      refine EN36_CF1 rfl ?_
      refine OW_bd rfl rfl (v := .agg [_, _, _]) rfl ?_
      refine OW_bs rfl rfl (v := .lst [_]) rfl ?_
      refine OW_app hS1 (k := 0) rfl (le_lit (ν := ν) (a := [2, 0, 1, 1, 1]) (b := [5, 0, 1, 0, 1, 1, 1, 1]) (by decide)) (under_app [5, 0, 1, 0, 1, 1, 1, 1] hβ) rfl rfl rfl rfl rfl rfl rfl rfl (by first | rfl | exact Ls.elems (by assumption)) (by first | exact one_wide rfl | exact map_wide (fun _ => rfl) | assumption | (intro y hy; simp at hy; done)) (by first | omega | (simp only [ss]; omega) | (simp; omega)) (by decide) fun O2 H2 hS2 => ?_
      replace hS2 : Own _ _ _ (_ :: _ :: L.eraseIdx k) := hS2
      refine EN36_CF1 rfl ?_
      refine OW_as rfl rfl ?_
      replace hS2 := hS2.reS (k := 0) rfl (map_snoc (a := (⟨tn, 0, li⟩ : Qu)))
      refine OW_as rfl rfl ?_
      refine EZ36_CF1 rfl ?_
      refine XW_ret ?_
      refine then_ret ?_
      refine ret_ret (res2 rfl (rv_tmp rfl) (rv_tmp rfl)) ?_
      rcases hc with ⟨h, hg⟩ | ⟨i, hi, h, hg, _, hm⟩ <;> first | (exfalso; omega) | (simp only [setQ, hg, if_pos (show t.length < 16 by omega)] at hq; exact hq _ _ (Own.put2 (Own.mono hS2 (le_bef (bef_app (a := [6, 0, 1, 0, 1, 1, 1, 1]) hp))) hL)) | (simp only [setQ, hg, if_neg (show ¬ t.length < 16 by omega)] at hq; exact hq _ _ (Own.put2 (Own.addN (Own.mono hS2 (le_bef (bef_app (a := [6, 0, 1, 0, 1, 1, 1, 1]) hp)))) hL)) | (subst h; simp only [setQ, hg, hm, Int.toNat_natCast] at hq ⊢; exact hq _ _ (Own.put2 (Own.mono hS2 (le_bef (bef_app (a := [6, 0, 1, 0, 1, 1, 1, 1]) hp))) hL))
    ·first
     |(exfalso; (try simp only [bs] at h5) <;> (omega); done)
     |skip
      try simp only [bs] at h5
      refine XW_skip ?_
      refine then_norm ?_
      refine XW_sr ?_
      refine OW_mv rfl rfl ?_
      refine OW_mv rfl rfl ?_
      refine OW_mv rfl rfl ?_
      refine EN36_CF1 rfl ?_
      refine OW_iaO hS1 (k := 0) rfl rfl rfl rfl rfl rfl rfl rfl (by first | rfl | exact (Int.toNat_of_nonneg (by omega)).symm) (by first | assumption | exact at_map (by first | assumption | omega) | exact at_lst (by omega) | rfl) fun q1 ys1 hO1 hq1 ht1 hy1 hu1 => ?_
      subst hO1
      refine OW_fa rfl rfl rfl ?_
      refine OW_storeO hS1 (k := 0) rfl (le_lit (ν := ν) (a := [2, 0, 1, 1, 1]) (b := [5, 0, 1, 1, 1, 1, 1]) (by decide)) rfl rfl rfl rfl hu1 ⟨rfl, rfl, Nat.le_of_ble_eq_true rfl⟩ (u2 := .agg [_, _, _]) rfl fun H3 hS3 => ?_
      replace hS3 : Own _ _ _ (_ :: _ :: L.eraseIdx k) := hS3
      refine EZ36_CF1 rfl ?_
      refine XW_sr ?_
      replace hS3 := hS3.reS (k := 0) rfl (set_enc (x := { t[at0.toNat] with li := li }) rfl)
      refine OW_mv rfl rfl ?_
      refine OW_as rfl rfl ?_
      refine OW_as rfl rfl ?_
      refine EZ36_CF1 rfl ?_
      refine XW_ret ?_
      refine ret_ret (res2 rfl (rv_tmp rfl) (rv_tmp rfl)) ?_
      rcases hc with ⟨h, hg⟩ | ⟨i, hi, h, hg, _, hm⟩ <;> first | (exfalso; omega) | (simp only [setQ, hg, if_pos (show t.length < 16 by omega)] at hq; exact hq _ _ (Own.put2 (Own.mono hS3 (le_bef (bef_app (a := [6, 0, 1, 1, 1, 1, 1]) hp))) hL)) | (simp only [setQ, hg, if_neg (show ¬ t.length < 16 by omega)] at hq; exact hq _ _ (Own.put2 (Own.addN (Own.mono hS3 (le_bef (bef_app (a := [6, 0, 1, 1, 1, 1, 1]) hp)))) hL)) | (subst h; simp only [setQ, hg, hm, Int.toNat_natCast] at hq ⊢; exact hq _ _ (Own.put2 (Own.mono hS3 (le_bef (bef_app (a := [6, 0, 1, 1, 1, 1, 1]) hp))) hL))
  ·try simp only [bs] at g2_3
   refine OW_no rfl ?_
   refine OW_no rfl ?_
   refine EN36_CF1 rfl ?_
   refine OW_no rfl ?_
   refine OW_pick rfl rfl rfl ?_
   refine EZ36_CF1 rfl ?_
   refine XW_no rfl rfl ?_
   refine XW_skip ?_
   refine then_norm ?_
   refine XW_sr ?_
   refine OW_mv rfl rfl ?_
   refine OW_fn rfl rfl (Qu.cloneO hS (k := 0) rfl (le_app (p := ν) (b := [1, 0, 1, 1, 1])) (under_app [1, 0, 1, 1, 1] hβ) (before_lit (ν := ν) (a := [1, 0, 1, 1, 1]) (b := [2, 0, 1, 1, 1]) (by decide)) (by omega) fun O3 H4 hS4 => ?_) 
   replace hS4 : Own _ _ _ (_ :: _ :: L.eraseIdx k) := hS4
   refine OW_as rfl rfl ?_
   refine EZ36_CF1 rfl ?_
   refine XW_seq ?_
   refine XW_sr ?_
   refine OW_mv rfl rfl ?_
   refine OW_bin rfl rfl rfl rfl rfl ?_
   refine EZ36_CF1 rfl ?_
   refine XW_if rfl (fun h5 => ?_) (fun h5 => ?_)
   ·first
    |(exfalso; (try simp only [bs] at h5) <;> (omega); done)
    |skip
     try simp only [bs] at h5
     refine XW_sr ?_
     refine OW_mv rfl rfl ?_
     refine OW_mv rfl rfl ?_
     refine OW_mv rfl rfl ?_
     refine EN36_CF1 rfl ?_
     refine OW_bd rfl rfl (v := .agg [_, _, _]) rfl ?_
     refine OW_bs rfl rfl (v := .lst [_]) rfl ?_
     refine OW_app hS4 (k := 0) rfl (le_lit (ν := ν) (a := [2, 0, 1, 1, 1]) (b := [5, 0, 1, 0, 1, 1, 1, 1]) (by decide)) (under_app [5, 0, 1, 0, 1, 1, 1, 1] hβ) rfl rfl rfl rfl rfl rfl rfl rfl (by first | rfl | exact Ls.elems (by assumption)) (by first | exact one_wide rfl | exact map_wide (fun _ => rfl) | assumption | (intro y hy; simp at hy; done)) (by first | omega | (simp only [ss]; omega) | (simp; omega)) (by decide) fun O4 H5 hS5 => ?_
     replace hS5 : Own _ _ _ (_ :: _ :: L.eraseIdx k) := hS5
     refine EN36_CF1 rfl ?_
     refine OW_as rfl rfl ?_
     replace hS5 := hS5.reS (k := 0) rfl (map_snoc (a := (⟨tn, 0, li⟩ : Qu)))
     refine OW_as rfl rfl ?_
     refine EZ36_CF1 rfl ?_
     refine XW_ret ?_
     refine then_ret ?_
     refine ret_ret (res2 rfl (rv_tmp rfl) (rv_tmp rfl)) ?_
     rcases hc with ⟨h, hg⟩ | ⟨i, hi, h, hg, _, hm⟩ <;> first | (exfalso; omega) | (simp only [setQ, hg, if_pos (show t.length < 16 by omega)] at hq; exact hq _ _ (Own.put2 (Own.mono hS5 (le_bef (bef_app (a := [6, 0, 1, 0, 1, 1, 1, 1]) hp))) hL)) | (simp only [setQ, hg, if_neg (show ¬ t.length < 16 by omega)] at hq; exact hq _ _ (Own.put2 (Own.addN (Own.mono hS5 (le_bef (bef_app (a := [6, 0, 1, 0, 1, 1, 1, 1]) hp)))) hL)) | (subst h; simp only [setQ, hg, hm, Int.toNat_natCast] at hq ⊢; exact hq _ _ (Own.put2 (Own.mono hS5 (le_bef (bef_app (a := [6, 0, 1, 0, 1, 1, 1, 1]) hp))) hL))
   ·first
    |(exfalso; (try simp only [bs] at h5) <;> (omega); done)
    |skip
     try simp only [bs] at h5
     refine XW_skip ?_
     refine then_norm ?_
     refine XW_sr ?_
     refine OW_mv rfl rfl ?_
     refine OW_mv rfl rfl ?_
     refine OW_mv rfl rfl ?_
     refine EN36_CF1 rfl ?_
     refine OW_iaO hS4 (k := 0) rfl rfl rfl rfl rfl rfl rfl rfl (by first | rfl | exact (Int.toNat_of_nonneg (by omega)).symm) (by first | assumption | exact at_map (by first | assumption | omega) | exact at_lst (by omega) | rfl) fun q2 ys2 hO2 hq2 ht2 hy2 hu2 => ?_
     subst hO2
     refine OW_fa rfl rfl rfl ?_
     refine OW_storeO hS4 (k := 0) rfl (le_lit (ν := ν) (a := [2, 0, 1, 1, 1]) (b := [5, 0, 1, 1, 1, 1, 1]) (by decide)) rfl rfl rfl rfl hu2 ⟨rfl, rfl, Nat.le_of_ble_eq_true rfl⟩ (u2 := .agg [_, _, _]) rfl fun H6 hS6 => ?_
     replace hS6 : Own _ _ _ (_ :: _ :: L.eraseIdx k) := hS6
     refine EZ36_CF1 rfl ?_
     refine XW_sr ?_
     replace hS6 := hS6.reS (k := 0) rfl (set_enc (x := { t[at0.toNat] with li := li }) rfl)
     refine OW_mv rfl rfl ?_
     refine OW_as rfl rfl ?_
     refine OW_as rfl rfl ?_
     refine EZ36_CF1 rfl ?_
     refine XW_ret ?_
     refine ret_ret (res2 rfl (rv_tmp rfl) (rv_tmp rfl)) ?_
     rcases hc with ⟨h, hg⟩ | ⟨i, hi, h, hg, _, hm⟩ <;> first | (exfalso; omega) | (simp only [setQ, hg, if_pos (show t.length < 16 by omega)] at hq; exact hq _ _ (Own.put2 (Own.mono hS6 (le_bef (bef_app (a := [6, 0, 1, 1, 1, 1, 1]) hp))) hL)) | (simp only [setQ, hg, if_neg (show ¬ t.length < 16 by omega)] at hq; exact hq _ _ (Own.put2 (Own.addN (Own.mono hS6 (le_bef (bef_app (a := [6, 0, 1, 1, 1, 1, 1]) hp)))) hL)) | (subst h; simp only [setQ, hg, hm, Int.toNat_natCast] at hq ⊢; exact hq _ _ (Own.put2 (Own.mono hS6 (le_bef (bef_app (a := [6, 0, 1, 1, 1, 1, 1]) hp))) hL))
theorem pChangedK (hS : Own β ps H L) (hL : L[k]? = some (sl O 3 (t.map Qu.enc))) (hle : le ps ν) (hβ : under β ν = true) (hp : before ν pos') (hn : t.length ≤ 4294967290) (i us : Int) (h0 : 0 ≤ i) (hi : i.toNat < t.length)
    (hq : ∀ v H1, Own β pos' H1 (sl v 3 ((t.set i.toNat { t[i.toNat] with us := us }).map Qu.enc) :: L) → Q v H1) : CW cfg ν 87 [O, .int .i64 i, .int .u64 us] H Q := by
  replace hS := hS.pick hL
  refine CW_keep g87 F87 rfl ?_
  replace hS := Own.mono hS hle
  refine XW_sr ?_
  refine OW_as rfl rfl ?_
  refine OW_nilE (e' := [_,_,_,_,_,_,_,_,_,_,_,_,_,_,_,_]) rfl ?_
  refine XW_sr ?_
  refine OW_mv rfl rfl ?_
  refine OW_fn rfl rfl (Qu.cloneO hS (k := 0) rfl (le_app (p := ν) (b := [1, 0, 1])) (under_app [1, 0, 1] hβ) (before_lit (ν := ν) (a := [1, 0, 1]) (b := [2, 0, 1]) (by decide)) (by omega) fun O1 H1 hS1 => ?_) 
  replace hS1 : Own _ _ _ (_ :: _ :: L.eraseIdx k) := hS1
  refine OW_as rfl rfl ?_
  refine OW_nilE (e' := [_,_,_,_,_,_,_,_,_,_,_,_,_,_,_,_]) rfl ?_
  refine XW_sr ?_
  refine OW_mv rfl rfl ?_
  refine OW_mv rfl rfl ?_
  refine OW_mv rfl rfl ?_
  refine OW_env (e' := [_,_,_,_,_,_,_,_,_,_,_,_,_,_,_,_]) rfl ?_
  refine OW_iaO hS1 (k := 0) rfl rfl rfl rfl rfl rfl rfl rfl (by first | rfl | exact (Int.toNat_of_nonneg (by omega)).symm) (by first | assumption | exact at_map (by first | assumption | omega) | exact at_lst (by omega) | rfl) fun q1 ys1 hO1 hq1 ht1 hy1 hu1 => ?_
  subst hO1
  refine OW_fa rfl rfl rfl ?_
  refine OW_storeO hS1 (k := 0) rfl (le_lit (ν := ν) (a := [2, 0, 1]) (b := [5, 0, 1, 1]) (by decide)) rfl rfl rfl rfl hu1 ⟨rfl, rfl, Nat.le_of_ble_eq_true rfl⟩ (u2 := .agg [_, _, _]) rfl fun H2 hS2 => ?_
  replace hS2 : Own _ _ _ (_ :: _ :: L.eraseIdx k) := hS2
  refine OW_nilE (e' := [_,_,_,_,_,_,_,_,_,_,_,_,_,_,_,_]) rfl ?_
  refine XW_sr ?_
  replace hS2 := hS2.reS (k := 0) rfl (set_enc (x := { t[i.toNat] with us := us }) rfl)
  refine OW_mv rfl rfl ?_
  refine OW_as rfl rfl ?_
  refine OW_nilE (e' := [_,_,_,_,_,_,_,_,_,_,_,_,_,_,_,_]) rfl ?_
  refine XW_ret ?_
  refine ret_ret (res1 rfl (rv_tmp rfl)) ?_
  exact hq _ _ (Own.put2 (Own.mono hS2 (le_bef (bef_app (a := [6, 0, 1, 1]) hp))) hL)
theorem pTakeK (hS : Own β ps H L) (hL : L[k]? = some (sl O 3 (t.map Qu.enc))) (hle : le ps ν) (hβ : under β ν = true) (hp : before ν pos') (hn : t.length ≤ 4294967290) (hfit : Fit t) (tn n : Int) (h0 : 0 ≤ n ∧ n ≤ 18446744073709551615)
    (hq : ∀ H1 v, Own β pos' H1 (sl v 3 ((takeQ t tn n).1.map Qu.enc) :: L) → Q (.tup [v, .int .i64 (takeQ t tn n).2]) H1) : CW cfg ν 67 [O, .int .u64 tn, .int .u64 n] H Q := by
  have hc := atQ_cases tn t
  replace hS := hS.pick hL
  refine CW_keep g67 F67 rfl ?_
  replace hS := Own.mono hS hle
  refine XW_sr ?_
  refine OW_as rfl rfl ?_
  refine OW_as rfl rfl ?_
  refine EZ43_CF1 rfl ?_
  refine XW_sr ?_
  refine OW_mv rfl rfl ?_
  refine OW_mv rfl rfl ?_
  refine OW_fn rfl rfl (c_findB (hS.freeze0 (k := 0) rfl (map_plain (fun _ => rfl))) (by omega) _ ?_) 
  refine EN43_CF1 rfl ?_
  refine OW_as rfl rfl ?_
  refine EZ43_CF1 rfl ?_
  refine XW_seq ?_
  refine XW_sr ?_
  have hr : atQ tn t = -1 ∨ 0 ≤ atQ tn t ∧ atQ tn t < t.length := by rcases hc with ⟨h, _⟩ | ⟨i, hi, h, _⟩ <;> omega
  generalize atQ tn t = at0 at *
  refine OW_mv rfl rfl ?_
  refine OW_bin rfl rfl rfl rfl rfl ?_
  refine EZ43_CF1 rfl ?_
  refine XW_if rfl (fun h2 => ?_) (fun h2 => ?_)
  ·try simp only [bs] at h2
   refine XW_sr ?_
   refine OW_as rfl rfl ?_
   refine OW_as rfl rfl ?_
   refine EZ43_CF1 rfl ?_
   refine XW_ret ?_
   refine then_ret ?_
   refine ret_ret (res2 rfl (rv_tmp rfl) (rv_tmp rfl)) ?_
   rcases hc with ⟨h, hg⟩ | ⟨i, hi, h, hg, _, hm⟩ <;> first | (exfalso; omega) | (simp only [takeQ, hg] at hq; exact hq _ _ (Own.put2 (Own.addN (Own.mono hS (le_bef hp))) hL))
  ·try simp only [bs] at h2
   refine XW_skip ?_
   refine then_norm ?_
   refine XW_seq ?_
   refine XW_sr ?_
   have hlt : at0.toNat < t.length := by omega
   obtain ⟨f1, f2, f3⟩ := hfit t[at0.toNat] (List.getElem_mem hlt)
   refine OW_mv rfl rfl ?_
   refine OW_mv rfl rfl ?_
   refine OW_iaO hS (k := 0) rfl rfl rfl rfl rfl rfl rfl rfl (by first | rfl | exact (Int.toNat_of_nonneg (by omega)).symm) (by first | assumption | exact at_map (by first | assumption | omega) | exact at_lst (by omega) | rfl) fun q1 ys1 hO1 hq1 ht1 hy1 hu1 => ?_
   subst hO1
   refine EN43_CF1 rfl ?_
   refine OW_loadP rfl rfl hq1 hy1 rfl (by first | exact part_whole rfl rfl rfl | rfl) ?_
   refine OW_allocR hS (le_app (p := ν) (b := [4, 0, 0, 1, 1, 1])) (under_app [4, 0, 0, 1, 1, 1] hβ) rfl rfl rfl rfl fun H1 hS1 => ?_
   replace hS1 : Own _ _ _ (_ :: _ :: L.eraseIdx k) := hS1
   first
   | refine OW_storeR hS1 (k := 0) rfl le_refl rfl rfl rfl rfl ⟨rfl, rfl, Nat.le_of_ble_eq_true rfl⟩ (set_whole rfl rfl) fun H2 hS2 => ?_
   | refine OW_storeR hS1 (k := 0) rfl le_refl rfl rfl rfl rfl ⟨rfl, rfl, Nat.le_of_ble_eq_true rfl⟩ (u2 := .agg [_, _, _]) rfl fun H2 hS2 => ?_
   replace hS2 : Own _ _ _ (_ :: _ :: L.eraseIdx k) := hS2
   refine EZ43_CF1 rfl ?_
   refine XW_sr ?_
   refine OW_fa rfl rfl rfl ?_
   refine OW_loadR hS2 (k := 0) rfl rfl rfl rfl rfl (by first | exact part_whole rfl rfl rfl | rfl) ?_
   refine OW_fa rfl rfl rfl ?_
   refine EN43_CF1 rfl ?_
   refine OW_loadR hS2 (k := 0) rfl rfl rfl rfl rfl (by first | exact part_whole rfl rfl rfl | rfl) ?_
   refine OW_bin rfl rfl rfl rfl rfl ?_
   refine OW_mv rfl rfl ?_
   refine EN43_CF1 rfl ?_
   refine OW_split (tt := 24) rfl (fun g5_6 => ?_) (fun g5_6 => ?_)
   ·try simp only [bs] at g5_6
    refine OW_no rfl ?_
    refine OW_no rfl ?_
    refine EN43_CF1 rfl ?_
    refine OW_no rfl ?_
    refine OW_no rfl ?_
    refine OW_no rfl ?_
    refine EN43_CF1 rfl ?_
    refine OW_no rfl ?_
    refine OW_no rfl ?_
    refine OW_pick rfl rfl rfl ?_
    refine EZ43_CF1 rfl ?_
    refine XW_yes rfl rfl ?_
    refine XW_sr ?_
    refine OW_as rfl rfl ?_
    refine OW_as rfl rfl ?_
    refine EZ43_CF1 rfl ?_
    refine XW_ret ?_
    refine then_ret ?_
    refine ret_ret (res2 rfl (rv_tmp rfl) (rv_tmp rfl)) ?_
    rcases hc with ⟨h, hg⟩ | ⟨i, hi, h, hg, _, hm⟩ <;> first | (exfalso; omega) | (subst h; simp only [Int.toNat_natCast] at *; rw [takeQ, hg] at hq; simp only at hq; first | (rw [if_pos (by omega), hm] at hq; exact hq _ _ (Own.put2 (Own.drop (Own.mono hS2 (le_bef (bef_app (a := [6, 0, 0, 1, 1, 1]) hp))) (k := 1) rfl) hL)) | (rw [if_neg (by omega)] at hq; exact hq _ _ (Own.put2 (Own.addN (Own.drop0 (Own.mono hS2 (le_bef (bef_app (a := [6, 0, 0, 1, 1, 1]) hp))))) hL)))
   ·try simp only [bs] at g5_6
    refine OW_mv rfl rfl ?_
    refine OW_fa rfl rfl rfl ?_
    refine EN43_CF1 rfl ?_
    refine OW_loadR hS2 (k := 0) rfl rfl rfl rfl rfl (by first | exact part_whole rfl rfl rfl | rfl) ?_
    refine OW_fa rfl rfl rfl ?_
    refine OW_loadR hS2 (k := 0) rfl rfl rfl rfl rfl (by first | exact part_whole rfl rfl rfl | rfl) ?_
    refine EN43_CF1 rfl ?_
    first
    | refine OW_bin rfl rfl rfl rfl (sub_wu64 (by first | omega | assumption | (simp only [ss]; omega))) ?_
    | refine OW_bin rfl rfl rfl rfl rfl ?_
    refine OW_bin rfl rfl rfl rfl rfl ?_
    refine OW_pick rfl rfl rfl ?_
    refine EZ43_CF1 rfl ?_
    refine XW_if rfl (fun h5 => ?_) (fun h5 => ?_)
    ·try simp only [bs] at h5
     refine XW_sr ?_
     refine OW_as rfl rfl ?_
     refine OW_as rfl rfl ?_
     refine EZ43_CF1 rfl ?_
     refine XW_ret ?_
     refine then_ret ?_
     refine ret_ret (res2 rfl (rv_tmp rfl) (rv_tmp rfl)) ?_
     rcases hc with ⟨h, hg⟩ | ⟨i, hi, h, hg, _, hm⟩ <;> first | (exfalso; omega) | (subst h; simp only [Int.toNat_natCast] at *; rw [takeQ, hg] at hq; simp only at hq; first | (rw [if_pos (by omega), hm] at hq; exact hq _ _ (Own.put2 (Own.drop (Own.mono hS2 (le_bef (bef_app (a := [6, 0, 0, 1, 1, 1]) hp))) (k := 1) rfl) hL)) | (rw [if_neg (by omega)] at hq; exact hq _ _ (Own.put2 (Own.addN (Own.drop0 (Own.mono hS2 (le_bef (bef_app (a := [6, 0, 0, 1, 1, 1]) hp))))) hL)))
    ·try simp only [bs] at h5
     refine XW_skip ?_
     refine then_norm ?_
     refine XW_sr ?_
     refine OW_mv rfl rfl ?_
     refine OW_mv rfl rfl ?_
     refine OW_mv rfl rfl ?_
     refine EN43_CF1 rfl ?_
     refine OW_mv rfl rfl ?_
     refine OW_iaO hS2 (k := 1) rfl rfl rfl rfl rfl rfl rfl rfl (by first | rfl | exact (Int.toNat_of_nonneg (by omega)).symm) (by first | assumption | exact at_map (by first | assumption | omega) | exact at_lst (by omega) | rfl) fun q2 ys2 hO2 hq2 ht2 hy2 hu2 => ?_
     obtain rfl : q1 = q2 := (AVal.slc.inj hO2).1
     refine OW_fa rfl rfl rfl ?_
     refine EN43_CF1 rfl ?_
     refine OW_loadP rfl rfl hq2 hy2 rfl (by first | exact part_whole rfl rfl rfl | rfl) ?_
     refine OW_mv rfl rfl ?_
     first
     | refine OW_bin rfl rfl rfl rfl (add_wu64 (by first | omega | assumption | (simp only [ss]; omega))) ?_
     | refine OW_bin rfl rfl rfl rfl rfl ?_
     refine EN43_CF1 rfl ?_
     refine OW_fn rfl rfl (pChangedK hS2 (k := 1) rfl (le_lit (ν := ν) (a := [6, 0, 0, 1, 1, 1]) (b := [9, 0, 1, 1, 1, 1]) (by decide)) (under_app [9, 0, 1, 1, 1, 1] hβ) (before_lit (ν := ν) (a := [9, 0, 1, 1, 1, 1]) (b := [10, 0, 1, 1, 1, 1]) (by decide)) (by omega) _ _ (by omega) (by omega) fun O1 H3 hS3 => ?_) 
     replace hS3 : Own _ _ _ (_ :: _ :: _ :: L.eraseIdx k) := hS3
     refine OW_as rfl rfl ?_
     refine OW_as rfl rfl ?_
     refine EZ43_CF1 rfl ?_
     refine XW_ret ?_
     refine ret_ret (res2 rfl (rv_tmp rfl) (rv_tmp rfl)) ?_
     rcases hc with ⟨h, hg⟩ | ⟨i, hi, h, hg, _, hm⟩ <;> first | (exfalso; omega) | (subst h; simp only [Int.toNat_natCast] at *; rw [takeQ, hg] at hq; simp only at hq; first | (rw [if_pos (by omega), hm] at hq; exact hq _ _ (Own.put2 (Own.drop (Own.mono hS3 (le_bef (bef_app (a := [10, 0, 1, 1, 1, 1]) hp))) (k := 1) rfl) hL)) | (rw [if_neg (by omega)] at hq; exact hq _ _ (Own.put2 (Own.addN (Own.drop0 (Own.mono hS3 (le_bef (bef_app (a := [10, 0, 1, 1, 1, 1]) hp))))) hL)))
end Go.Proofs.Ytfkgdlfponfimaa.X
/- Layer 13: quota.Give in own slices (Set and Take stand in CF1). -/
set_option linter.unusedVariables false
set_option linter.unusedSimpArgs false
set_option maxRecDepth 100000
namespace Go.Proofs.Ytfkgdlfponfimaa.X
open Go Go.RowKit WM
variable {ν β ps pos' : Nm} {H : Heap} {Q : AVal → Heap → Prop} {L : List Asr} {k : Nat} {O : AVal} {t : List Qu}
theorem pGiveK (hS : Own β ps H L) (hL : L[k]? = some (sl O 3 (t.map Qu.enc))) (hle : le ps ν) (hβ : under β ν = true) (hp : before ν pos') (hn : t.length ≤ 4294967290) (hfit : Fit t) (tn n : Int) (h0 : 0 ≤ n ∧ n ≤ 18446744073709551615)
    (hq : ∀ H1 v, Own β pos' H1 (sl v 3 ((giveQ t tn n).1.map Qu.enc) :: L) → Q (.tup [v, .int .i64 (giveQ t tn n).2]) H1) : CW cfg ν 68 [O, .int .u64 tn, .int .u64 n] H Q := by
  have hc := atQ_cases tn t
  replace hS := hS.pick hL
  refine CW_keep g68 F68 rfl ?_
  replace hS := Own.mono hS hle
  refine XW_sr ?_
  refine OW_as rfl rfl ?_
  refine OW_as rfl rfl ?_
  refine OW_nilE (e' := [_,_,_,_,_,_,_,_,_,_,_,_,_,_,_,_,_,_,_,_,_,_,_,_,_,_,_,_,_,_]) rfl ?_
  refine XW_sr ?_
  refine OW_mv rfl rfl ?_
  refine OW_mv rfl rfl ?_
  refine OW_fn rfl rfl (c_findB (hS.freeze0 (k := 0) rfl (map_plain (fun _ => rfl))) (by omega) _ ?_) 
  refine OW_env (e' := [_,_,_,_,_,_,_,_,_,_,_,_,_,_,_,_,_,_,_,_,_,_,_,_,_,_,_,_,_,_]) rfl ?_
  refine OW_as rfl rfl ?_
  refine OW_nilE (e' := [_,_,_,_,_,_,_,_,_,_,_,_,_,_,_,_,_,_,_,_,_,_,_,_,_,_,_,_,_,_]) rfl ?_
  refine XW_seq ?_
  refine XW_sr ?_
  have hr : atQ tn t = -1 ∨ 0 ≤ atQ tn t ∧ atQ tn t < t.length := by rcases hc with ⟨h, _⟩ | ⟨i, hi, h, _⟩ <;> omega
  generalize atQ tn t = at0 at *
  refine OW_mv rfl rfl ?_
  refine OW_bin rfl rfl rfl rfl rfl ?_
  refine OW_nilE (e' := [_,_,_,_,_,_,_,_,_,_,_,_,_,_,_,_,_,_,_,_,_,_,_,_,_,_,_,_,_,_]) rfl ?_
  refine XW_if rfl (fun h2 => ?_) (fun h2 => ?_)
  ·try simp only [bs] at h2
   refine XW_sr ?_
   refine OW_as rfl rfl ?_
   refine OW_as rfl rfl ?_
   refine OW_nilE (e' := [_,_,_,_,_,_,_,_,_,_,_,_,_,_,_,_,_,_,_,_,_,_,_,_,_,_,_,_,_,_]) rfl ?_
   refine XW_ret ?_
   refine then_ret ?_
   refine ret_ret (res2 rfl (rv_tmp rfl) (rv_tmp rfl)) ?_
   rcases hc with ⟨h, hg⟩ | ⟨i, hi, h, hg, _, hm⟩ <;> first | (exfalso; omega) | (simp only [giveQ, hg] at hq; exact hq _ _ (Own.put2 (Own.addN (Own.mono hS (le_bef hp))) hL))
  ·try simp only [bs] at h2
   refine XW_skip ?_
   refine then_norm ?_
   refine XW_sr ?_
   have hlt : at0.toNat < t.length := by omega
   obtain ⟨f1, f2, f3⟩ := hfit t[at0.toNat] (List.getElem_mem hlt)
   refine OW_mv rfl rfl ?_
   refine OW_mv rfl rfl ?_
   refine OW_mv rfl rfl ?_
   refine OW_env (e' := [_,_,_,_,_,_,_,_,_,_,_,_,_,_,_,_,_,_,_,_,_,_,_,_,_,_,_,_,_,_]) rfl ?_
   refine OW_mv rfl rfl ?_
   refine OW_iaO hS (k := 0) rfl rfl rfl rfl rfl rfl rfl rfl (by first | rfl | exact (Int.toNat_of_nonneg (by omega)).symm) (by first | assumption | exact at_map (by first | assumption | omega) | exact at_lst (by omega) | rfl) fun q1 ys1 hO1 hq1 ht1 hy1 hu1 => ?_
   subst hO1
   refine OW_fa rfl rfl rfl ?_
   refine OW_env (e' := [_,_,_,_,_,_,_,_,_,_,_,_,_,_,_,_,_,_,_,_,_,_,_,_,_,_,_,_,_,_]) rfl ?_
   refine OW_loadP rfl rfl hq1 hy1 rfl (by first | exact part_whole rfl rfl rfl | rfl) ?_
   refine OW_mv rfl rfl ?_
   refine OW_mv rfl rfl ?_
   refine OW_env (e' := [_,_,_,_,_,_,_,_,_,_,_,_,_,_,_,_,_,_,_,_,_,_,_,_,_,_,_,_,_,_]) rfl ?_
   refine OW_mv rfl rfl ?_
   refine OW_iaO hS (k := 0) rfl rfl rfl rfl rfl rfl rfl rfl (by first | rfl | exact (Int.toNat_of_nonneg (by omega)).symm) (by first | assumption | exact at_map (by first | assumption | omega) | exact at_lst (by omega) | rfl) fun q2 ys2 hO2 hq2 ht2 hy2 hu2 => ?_
   obtain rfl : q1 = q2 := (AVal.slc.inj hO2).1
   refine OW_fa rfl rfl rfl ?_
   refine OW_env (e' := [_,_,_,_,_,_,_,_,_,_,_,_,_,_,_,_,_,_,_,_,_,_,_,_,_,_,_,_,_,_]) rfl ?_
   refine OW_loadP rfl rfl hq2 hy2 rfl (by first | exact part_whole rfl rfl rfl | rfl) ?_
   refine OW_bi rfl rfl mnu64 ?_
   first
   | refine OW_bin rfl rfl rfl rfl (sub_wu64 (by first | omega | assumption | (simp only [ss]; omega))) ?_
   | refine OW_bin rfl rfl rfl rfl rfl ?_
   refine OW_env (e' := [_,_,_,_,_,_,_,_,_,_,_,_,_,_,_,_,_,_,_,_,_,_,_,_,_,_,_,_,_,_]) rfl ?_
   refine OW_fn rfl rfl (pChangedK hS (k := 0) rfl (le_app (p := ν) (b := [15, 0, 1, 1, 1])) (under_app [15, 0, 1, 1, 1] hβ) (before_lit (ν := ν) (a := [15, 0, 1, 1, 1]) (b := [16, 0, 1, 1, 1]) (by decide)) (by omega) _ _ (by omega) (by omega) fun O1 H1 hS1 => ?_) 
   replace hS1 : Own _ _ _ (_ :: _ :: L.eraseIdx k) := hS1
   refine OW_as rfl rfl ?_
   refine OW_as rfl rfl ?_
   refine OW_nilE (e' := [_,_,_,_,_,_,_,_,_,_,_,_,_,_,_,_,_,_,_,_,_,_,_,_,_,_,_,_,_,_]) rfl ?_
   refine XW_ret ?_
   refine ret_ret (res2 rfl (rv_tmp rfl) (rv_tmp rfl)) ?_
   rcases hc with ⟨h, hg⟩ | ⟨i, hi, h, hg, _, hm⟩ <;> first | (exfalso; omega) | (subst h; simp only [Int.toNat_natCast] at *; rw [giveQ, hg] at hq; simp only [hm] at hq; exact hq _ _ (Own.put2 (Own.mono hS1 (le_bef (bef_app (a := [16, 0, 1, 1, 1]) hp))) hL))
end Go.Proofs.Ytfkgdlfponfimaa.X

/- The oracle: plain words for what it keeps, and its map-wise state. -/
set_option linter.unusedVariables false
set_option linter.unusedSimpArgs false
set_option maxRecDepth 100000
namespace Go.Proofs.Ytfkgdlfponfimaa.X
open Go Go.RowKit
variable {ν β ps pos' : Nm} {H : Heap} {Q : AVal → Heap → Prop} {L : List Asr}
abbrev eU (n : Int) : AVal := .int .u64 n
abbrev eI (n : Int) : AVal := .int .i64 n
abbrev eS (s : ByteArray) : AVal := .str s
abbrev eTag (p : Int × ByteArray) : AVal := .agg [.int .u64 p.1, .str p.2]
abbrev eSeal (p : Int × Int × ByteArray × ByteArray) : AVal := .agg [.int .u64 p.1, .int .u64 p.2.1, .str p.2.2.1, .str p.2.2.2]
abbrev eTold (p : Int × Int × Int × ByteArray) : AVal := .agg [.int .u64 p.1, .int .u64 p.2.1, .int .u64 p.2.2.1, .str p.2.2.2]
theorem kU64 : KeyOk cfg.T 28 eU := ⟨fun a b => rfl, fun a => by simp [kSame, kSame1]⟩
theorem kTag : KeyOk cfg.T 157 eTag := by
  refine ⟨fun a b => ?_, fun a => by simp [kSame, kSames, kSame1]⟩
  have e : aEq cfg.T 4 157 (eTag a) (eTag b) = some (decide (a.1 = b.1) && (decide (a.2 = b.2) && true)) := rfl
  rw [e]
  obtain ⟨a1, a2⟩ := a; obtain ⟨b1, b2⟩ := b
  by_cases h1 : a1 = b1 <;> by_cases h2 : a2 = b2 <;> simp [h1, h2]
structure Orf where
  draws : List Int
  n : Nat
  bad : Bool
  iss : Int → Option Int
  met : Int → Option Int
  hs : ByteArray → Option Int
  tg : Int × ByteArray → Option Int
  se : Int × Int × ByteArray × ByteArray → Option Int
  op : Int × Int × Int × ByteArray → Option Int
  pl : List ByteArray
namespace Orf
structure ok (F : Orf) : Prop where
  iss : ∀ h, 0 ≤ (F.iss h).getD 0 ∧ (F.iss h).getD 0 ≤ F.n
  op : ∀ k, 0 ≤ (F.op k).getD 0 ∧ (F.op k).getD 0 ≤ F.pl.length
  pl : F.pl.length ≤ F.n
def next (F : Orf) : Int := match F.draws[F.n]? with
  | some h => h
  | none => 9223372036854775808 + (F.n : Int)
def isBad (F : Orf) (h : Int) : Bool := F.bad || (decide (h = 0) || decide ((F.iss h).getD 0 > 0) || decide ((F.met h).getD 0 > 0))
def fresh (F : Orf) : Orf := ⟨F.draws, F.n + 1, F.isBad F.next, fun x => if x = F.next then some ((F.iss F.next).getD 0 + 1) else F.iss x, F.met, F.hs, F.tg, F.se, F.op, F.pl⟩
def hash (F : Orf) (a : ByteArray) : Int × Orf := if (F.hs a).isSome then ((F.hs a).getD 0, F) else (F.next, { F.fresh with hs := fun x => if x = a then some F.next else F.fresh.hs x })
def mac (F : Orf) (k : Int) (a : ByteArray) : Int × Orf := if (F.tg (k, a)).isSome then ((F.tg (k, a)).getD 0, F) else (F.next, { F.fresh with tg := fun x => if x = (k, a) then some F.next else F.fresh.tg x })
def sealv (F : Orf) (k n : Int) (a b : ByteArray) : Int × Orf := if (F.se (k, n, a, b)).isSome then ((F.se (k, n, a, b)).getD 0, F) else (F.next, ⟨F.fresh.draws, F.fresh.n, F.fresh.bad, F.fresh.iss, F.fresh.met, F.fresh.hs, F.fresh.tg, (fun x => if x = (k, n, a, b) then some F.next else F.fresh.se x),
  (if (F.op (k, n, F.next, a)).getD 0 = 0 then (fun x => if x = (k, n, F.next, a) then some ((F.pl.length : Int) + 1) else F.op x) else F.op), F.pl ++ [b]⟩)
def meet (F : Orf) (h : Int) : Orf := if (F.iss h).getD 0 = 0 then ⟨F.draws, F.n, F.bad, F.iss, fun x => if x = h then some 1 else F.met x, F.hs, F.tg, F.se, F.op, F.pl⟩ else F
def verify (F : Orf) (k : Int) (a : ByteArray) (t : Int) : Bool × Orf := if (F.tg (k, a)).isSome ∧ (F.tg (k, a)).getD 0 = t then (true, F) else (false, F.meet t)
def opens (F : Orf) (k n : Int) (ad : ByteArray) (v : Int) : (ByteArray × Bool) × Orf := if (F.op (k, n, v, ad)).getD 0 > 0 then ((F.pl.getD (((F.op (k, n, v, ad)).getD 0).toNat - 1) ⟨#[]⟩, true), F) else ((⟨#[]⟩, false), F.meet v)
def new (d : List Int) : Orf := ⟨d, 0, false, fun _ => none, fun _ => none, fun _ => none, fun _ => none, fun _ => none, fun _ => none, []⟩
end Orf
def orc (q : Nm) (F : Orf) : Asr := Asr.ex fun v : AVal × AVal × Nm × Nm × Nm × Nm × Nm × Nm =>
  Asr.all [row q 10 [.agg [v.1, .int .i64 F.n, .bool F.bad, .map v.2.2.1, .map v.2.2.2.1, .map v.2.2.2.2.1, .map v.2.2.2.2.2.1, .map v.2.2.2.2.2.2.1, .map v.2.2.2.2.2.2.2, v.2.1]],
    sl v.1 1 (F.draws.map eU), sl v.2.1 1 (F.pl.map eS), mpF v.2.2.1 eU eI F.iss, mpF v.2.2.2.1 eU eI F.met, mpF v.2.2.2.2.1 eS eU F.hs, mpF v.2.2.2.2.2.1 eTag eU F.tg, mpF v.2.2.2.2.2.2.1 eSeal eU F.se, mpF v.2.2.2.2.2.2.2 eTold eI F.op]
theorem Own.un_orc {q : Nm} {F : Orf} (h : Own β ps H (orc q F :: L)) : ∃ D P m0 m1 m2 m3 m4 m5, Own β ps H (row q 10 [.agg [D, .int .i64 F.n, .bool F.bad, .map m0, .map m1, .map m2, .map m3, .map m4, .map m5, P]] :: sl D 1 (F.draws.map eU) :: sl P 1 (F.pl.map eS) :: mpF m0 eU eI F.iss :: mpF m1 eU eI F.met :: mpF m2 eS eU F.hs :: mpF m3 eTag eU F.tg :: mpF m4 eSeal eU F.se :: mpF m5 eTold eI F.op :: L) := by
  obtain ⟨⟨D, P, m0, m1, m2, m3, m4, m5⟩, h⟩ := h.un_ex
  exact ⟨D, P, m0, m1, m2, m3, m4, m5, h.un_all⟩
theorem Own.mk_orc {q : Nm} {D P : AVal} {m0 m1 m2 m3 m4 m5 : Nm} {n : Int} {m : Nat} {bad : Bool} {d : List Int} {pl : List ByteArray} {xs : List AVal} {f0 f1 : Int → Option Int} {f2 : ByteArray → Option Int} {f3 : Int × ByteArray → Option Int} {f4 : Int × Int × ByteArray × ByteArray → Option Int} {f5 : Int × Int × Int × ByteArray → Option Int}
    (h : Own β ps H (row q 10 [.agg [D, .int .i64 n, .bool bad, .map m0, .map m1, .map m2, .map m3, .map m4, .map m5, P]] :: sl D 1 (d.map eU) :: sl P 1 xs :: mpF m0 eU eI f0 :: mpF m1 eU eI f1 :: mpF m2 eS eU f2 :: mpF m3 eTag eU f3 :: mpF m4 eSeal eU f4 :: mpF m5 eTold eI f5 :: L)) (hm : n = (m : Int)) (hx : xs = pl.map eS := by first | rfl | assumption) :
    Own β ps H (orc q ⟨d, m, bad, f0, f1, f2, f3, f4, f5, pl⟩ :: L) := by
  subst hm
  subst hx
  exact Own.mk_ex (D, P, m0, m1, m2, m3, m4, m5) h.mk_all
end Go.Proofs.Ytfkgdlfponfimaa.X
/- What the program's oracle does. -/
set_option linter.unusedVariables false
set_option linter.unusedSimpArgs false
set_option maxRecDepth 100000
namespace Go.Proofs.Ytfkgdlfponfimaa.X
open Go Go.RowKit
theorem EN68_J2 {c : Cfg} {ν : Nm} {e : Env} {H : Heap} {all : Array Oper} {r : List Oper} {i : Nat} {Q : Env → Heap → Prop} {x0 x1 x2 x3 x4 x5 x6 x7 x8 x9 x10 x11 x12 x13 x14 x15 x16 x17 x18 x19 x20 x21 x22 x23 x24 x25 x26 x27 x28 x29 x30 x31 x32 x33 x34 x35 x36 x37 x38 x39 x40 x41 x42 x43 x44 x45 x46 x47 x48 x49 x50 x51 x52 x53 x54 x55 x56 x57 x58 x59 x60 x61 x62 x63 x64 x65 x66 x67 : AVal} (he : e = [x0,x1,x2,x3,x4,x5,x6,x7,x8,x9,x10,x11,x12,x13,x14,x15,x16,x17,x18,x19,x20,x21,x22,x23,x24,x25,x26,x27,x28,x29,x30,x31,x32,x33,x34,x35,x36,x37,x38,x39,x40,x41,x42,x43,x44,x45,x46,x47,x48,x49,x50,x51,x52,x53,x54,x55,x56,x57,x58,x59,x60,x61,x62,x63,x64,x65,x66,x67]) (h : OW c ν all r i [x0,x1,x2,x3,x4,x5,x6,x7,x8,x9,x10,x11,x12,x13,x14,x15,x16,x17,x18,x19,x20,x21,x22,x23,x24,x25,x26,x27,x28,x29,x30,x31,x32,x33,x34,x35,x36,x37,x38,x39,x40,x41,x42,x43,x44,x45,x46,x47,x48,x49,x50,x51,x52,x53,x54,x55,x56,x57,x58,x59,x60,x61,x62,x63,x64,x65,x66,x67] H Q) : OW c ν all r i e H Q := by subst he; exact h
theorem EZ68_J2 {c : Cfg} {ν : Nm} {e : Env} {H : Heap} {all : Array Oper} {i : Nat} {Q : Env → Heap → Prop} {x0 x1 x2 x3 x4 x5 x6 x7 x8 x9 x10 x11 x12 x13 x14 x15 x16 x17 x18 x19 x20 x21 x22 x23 x24 x25 x26 x27 x28 x29 x30 x31 x32 x33 x34 x35 x36 x37 x38 x39 x40 x41 x42 x43 x44 x45 x46 x47 x48 x49 x50 x51 x52 x53 x54 x55 x56 x57 x58 x59 x60 x61 x62 x63 x64 x65 x66 x67 : AVal} (he : e = [x0,x1,x2,x3,x4,x5,x6,x7,x8,x9,x10,x11,x12,x13,x14,x15,x16,x17,x18,x19,x20,x21,x22,x23,x24,x25,x26,x27,x28,x29,x30,x31,x32,x33,x34,x35,x36,x37,x38,x39,x40,x41,x42,x43,x44,x45,x46,x47,x48,x49,x50,x51,x52,x53,x54,x55,x56,x57,x58,x59,x60,x61,x62,x63,x64,x65,x66,x67]) (h : Q [x0,x1,x2,x3,x4,x5,x6,x7,x8,x9,x10,x11,x12,x13,x14,x15,x16,x17,x18,x19,x20,x21,x22,x23,x24,x25,x26,x27,x28,x29,x30,x31,x32,x33,x34,x35,x36,x37,x38,x39,x40,x41,x42,x43,x44,x45,x46,x47,x48,x49,x50,x51,x52,x53,x54,x55,x56,x57,x58,x59,x60,x61,x62,x63,x64,x65,x66,x67] H) : OW c ν all [] i e H Q := by subst he; exact OW_nil h
variable {ν β ps pos' : Nm} {H : Heap} {Q : AVal → Heap → Prop} {L : List Asr} {q : Nm} {F : Orf} {k : Nat}
theorem iFresh (hS : Own β ps H L) (hL : L[k]? = some (orc q F)) (hle : le ps ν) (hβ : under β ν = true) (hp : before ν pos') (hok : F.ok) (hn : F.n ≤ 4294967000)
    (hq : ∀ H1, Own β pos' H1 (L.set k (orc q F.fresh)) → Q (.int .u64 F.next) H1) : CW cfg ν 83 [.ptr q 0 0] H Q := by
  obtain ⟨D, P, m0, m1, m2, m3, m4, m5, hS⟩ := (hS.pick hL).un_orc
  obtain ⟨d, n, bad, f0, f1, f2, f3, f4, f5, pl⟩ := F
  dsimp only at hS hn
  have ho := hok.iss
  dsimp only at ho
  refine CW_keep g83 F83 rfl ?_
  replace hS := Own.mono hS hle
  refine XW_sr ?_
  refine OW_as rfl rfl ?_
  refine EZ68_J2 rfl ?_
  refine XW_sr ?_
  refine OW_mv rfl rfl ?_
  first
  | refine OW_nc rfl rfl ?_
  | refine OW_nce rfl rfl ?_
  refine OW_fa rfl rfl rfl ?_
  refine EN68_J2 rfl ?_
  refine OW_loadR hS (k := 0) rfl rfl rfl rfl rfl (by first | exact part_whole rfl rfl rfl | rfl) ?_
  first
  | refine OW_conv rfl rfl (conv_in rfl rfl rfl (IntWalk.u64_in _ (by omega))) ?_
  | refine OW_conv rfl rfl rfl ?_
  first
  | refine OW_bin rfl rfl rfl rfl (add_wu64 (by first | omega | assumption | (simp only [ss]; omega))) ?_
  | refine OW_bin rfl rfl rfl rfl rfl ?_
  refine EN68_J2 rfl ?_
  refine OW_as rfl rfl ?_
  refine EZ68_J2 rfl ?_
  refine XW_mid (M := fun ee H' => ∃ (h : Int) (D : AVal), Own β (1 :: 1 :: 1 :: ν) H' (row q 10 [.agg [D, .int .i64 n, .bool bad, .map m0, .map m1, .map m2, .map m3, .map m4, .map m5, P]] :: sl D 1 (d.map eU) :: sl P 1 (pl.map eS) :: mpF m0 eU eI f0 :: mpF m1 eU eI f1 :: mpF m2 eS eU f2 :: mpF m3 eTag eU f3 :: mpF m4 eSeal eU f4 :: mpF m5 eTold eI f5 :: L.eraseIdx k) ∧ (h = Orf.next ⟨d, n, bad, f0, f1, f2, f3, f4, f5, pl⟩) ∧ ∃ g : Nat → AVal, ee = [.ptr q 0 0, g 1, g 2, .int .u64 h, g 4, g 5, g 6, g 7, g 8, g 9, g 10, g 11, g 12, g 13, g 14, g 15, g 16, g 17, g 18, g 19, g 20, g 21, g 22, g 23, g 24, g 25, g 26, g 27, g 28, g 29, g 30, g 31, g 32, g 33, g 34, g 35, g 36, g 37, g 38, g 39, g 40, g 41, g 42, g 43, g 44, g 45, g 46, g 47, g 48, g 49, g 50, g 51, g 52, g 53, g 54, g 55, g 56, g 57, g 58, g 59, g 60, g 61, g 62, g 63, g 64, g 65, g 66, g 67]) ?_ ?_
  ·skip
   refine XW_sr ?_
   refine OW_mv rfl rfl ?_
   first
   | refine OW_nc rfl rfl ?_
   | refine OW_nce rfl rfl ?_
   refine OW_fa rfl rfl rfl ?_
   refine EN68_J2 rfl ?_
   refine OW_loadR hS (k := 0) rfl rfl rfl rfl rfl (by first | exact part_whole rfl rfl rfl | rfl) ?_
   refine OW_mv rfl rfl ?_
   first
   | refine OW_nc rfl rfl ?_
   | refine OW_nce rfl rfl ?_
   refine EN68_J2 rfl ?_
   refine OW_fa rfl rfl rfl ?_
   refine OW_loadR hS (k := 0) rfl rfl rfl rfl rfl (by first | exact part_whole rfl rfl rfl | rfl) ?_
   refine OW_lenO hS (k := 1) rfl rfl rfl rfl rfl rfl (by first | exact List.length_map _ | exact len_app1 | exact len_drop | (simp only [ss]; rfl) | rfl) ?_
   refine EN68_J2 rfl ?_
   refine OW_bin rfl rfl rfl rfl rfl ?_
   refine EZ68_J2 rfl ?_
   refine XW_if rfl (fun h2 => ?_) (fun h2 => ?_)
   ·try simp only [bs] at h2
    refine XW_region ?_
    refine OW_mv rfl rfl ?_
    first
    | refine OW_nc rfl rfl ?_
    | refine OW_nce rfl rfl ?_
    refine OW_fa rfl rfl rfl ?_
    refine EN68_J2 rfl ?_
    refine OW_loadR hS (k := 0) rfl rfl rfl rfl rfl (by first | exact part_whole rfl rfl rfl | rfl) ?_
    refine OW_mv rfl rfl ?_
    first
    | refine OW_nc rfl rfl ?_
    | refine OW_nce rfl rfl ?_
    refine EN68_J2 rfl ?_
    refine OW_fa rfl rfl rfl ?_
    refine OW_loadR hS (k := 0) rfl rfl rfl rfl rfl (by first | exact part_whole rfl rfl rfl | rfl) ?_
    refine OW_iaO hS (k := 1) rfl rfl rfl rfl rfl rfl rfl rfl (by first | rfl | exact (Int.toNat_of_nonneg (by omega)).symm) (by first | assumption | exact at_map (by first | assumption | omega) | exact at_lst (by omega) | rfl) fun q1 ys1 hO1 hq1 ht1 hy1 hu1 => ?_
    subst hO1
    refine EN68_J2 rfl ?_
    refine OW_loadP rfl rfl hq1 hy1 rfl (by first | exact part_whole rfl rfl rfl | rfl) ?_
    refine OW_as rfl rfl ?_
    refine EZ68_J2 rfl ?_
    refine ⟨_, _, Own.cast (Own.mono (hS) (le_app (p := ν) (b := [1, 1, 1]))) (rfl), ?_, env_g rfl⟩
    · simp only [Orf.next]; rw [List.getElem?_eq_getElem (by omega)]
   ·try simp only [bs] at h2
    refine XW_skip ?_
    refine ⟨_, _, Own.cast (Own.mono (hS) (le_app (p := ν) (b := [1, 1, 1]))) (rfl), ?_, env_g rfl⟩
    · simp only [Orf.next]; rw [List.getElem?_eq_none (by omega)]
  ·rintro ee H1 ⟨h, D, hS1, hh, g1, rfl⟩
   have hfr : (Orf.mk d n bad f0 f1 f2 f3 f4 f5 pl).fresh = ⟨d, n + 1, bad || (decide (h = 0) || decide ((f0 h).getD 0 > 0) || decide ((f1 h).getD 0 > 0)), fun x => if x = h then some ((f0 h).getD 0 + 1) else f0 x, f1, f2, f3, f4, f5, pl⟩ := by rw [hh]; rfl
   rw [← hh, hfr] at hq
   refine XW_sr ?_
   refine OW_mv rfl rfl ?_
   first
   | refine OW_nc rfl rfl ?_
   | refine OW_nce rfl rfl ?_
   refine OW_fa rfl rfl rfl ?_
   refine EN68_J2 rfl ?_
   refine OW_loadR hS1 (k := 0) rfl rfl rfl rfl rfl (by first | exact part_whole rfl rfl rfl | rfl) ?_
   first
   | refine OW_bin rfl rfl rfl rfl (add_w64 (by first | omega | assumption | (simp only [ss]; omega))) ?_
   | refine OW_bin rfl rfl rfl rfl rfl ?_
   first
   | refine OW_nc rfl rfl ?_
   | refine OW_nce rfl rfl ?_
   refine EN68_J2 rfl ?_
   refine OW_fa rfl rfl rfl ?_
   refine OW_storeR hS1 (k := 0) rfl (le_app (p := 1 :: 1 :: 1 :: ν) (b := [7, 0])) rfl rfl rfl rfl ⟨rfl, rfl, Nat.le_of_ble_eq_true rfl⟩ (u2 := .agg [_, _, _, _, _, _, _, _, _, _]) rfl fun H2 hS2 => ?_
   replace hS2 : Own _ _ _ (_ :: _ :: _ :: _ :: _ :: _ :: _ :: _ :: _ :: L.eraseIdx k) := hS2
   refine EZ68_J2 rfl ?_
   refine XW_seq ?_
   refine XW_sr ?_
   refine OW_mv rfl rfl ?_
   refine OW_bin rfl rfl rfl rfl rfl ?_
   refine OW_mv rfl rfl ?_
   refine EN68_J2 rfl ?_
   refine OW_split (tt := 39) rfl (fun g5_3 => ?_) (fun g5_3 => ?_)
   ·try simp only [bs] at g5_3
    refine OW_no rfl ?_
    refine OW_no rfl ?_
    refine EN68_J2 rfl ?_
    refine OW_no rfl ?_
    refine OW_no rfl ?_
    refine OW_no rfl ?_
    refine EN68_J2 rfl ?_
    refine OW_no rfl ?_
    refine OW_no rfl ?_
    refine OW_pick rfl rfl rfl ?_
    refine EN68_J2 rfl ?_
    refine OW_mv rfl rfl ?_
    refine OW_no rfl ?_
    refine OW_no rfl ?_
    refine EN68_J2 rfl ?_
    refine OW_no rfl ?_
    refine OW_no rfl ?_
    refine OW_no rfl ?_
    refine EN68_J2 rfl ?_
    refine OW_no rfl ?_
    refine OW_no rfl ?_
    refine OW_pick rfl rfl rfl ?_
    refine EZ68_J2 rfl ?_
    refine XW_yes rfl rfl ?_
    refine XW_region ?_
    refine OW_mv rfl rfl ?_
    first
    | refine OW_nc rfl rfl ?_
    | refine OW_nce rfl rfl ?_
    refine OW_fa rfl rfl rfl ?_
    refine EN68_J2 rfl ?_
    refine OW_storeR hS2 (k := 0) rfl (le_lit (ν := ν) (a := [8, 0, 1, 1, 1]) (b := [3, 1, 0, 1, 1, 1, 1]) (by decide)) rfl rfl rfl rfl ⟨rfl, rfl, Nat.le_of_ble_eq_true rfl⟩ (u2 := .agg [_, _, _, _, _, _, _, _, _, _]) rfl fun H3 hS3 => ?_
    replace hS3 : Own _ _ _ (_ :: _ :: _ :: _ :: _ :: _ :: _ :: _ :: _ :: L.eraseIdx k) := hS3
    refine EZ68_J2 rfl ?_
    refine then_norm ?_
    refine XW_sr ?_
    refine OW_mv rfl rfl ?_
    first
    | refine OW_nc rfl rfl ?_
    | refine OW_nce rfl rfl ?_
    refine OW_fa rfl rfl rfl ?_
    refine EN68_J2 rfl ?_
    refine OW_loadR hS3 (k := 0) rfl rfl rfl rfl rfl (by first | exact part_whole rfl rfl rfl | rfl) ?_
    refine OW_mv rfl rfl ?_
    refine OW_lookV hS3 (k := 3) rfl rfl rfl _ rfl rfl rfl rfl kU64 (z0 := 0) rfl ?_
    refine EN68_J2 rfl ?_
    have ho := ho h
    first
    | refine OW_bin rfl rfl rfl rfl (add_w64 (by first | omega | assumption | (simp only [ss]; omega))) ?_
    | refine OW_bin rfl rfl rfl rfl rfl ?_
    refine OW_setM hS3 (k := 3) rfl (le_lit (ν := ν) (a := [4, 1, 0, 1, 1, 1, 1]) (b := [7, 0, 1, 1, 1, 1, 1]) (by decide)) rfl rfl _ rfl rfl rfl rfl kU64 fun H5 hS5 => ?_
    replace hS5 : Own _ _ _ (_ :: _ :: _ :: _ :: _ :: _ :: _ :: _ :: _ :: L.eraseIdx k) := hS5
    refine EZ68_J2 rfl ?_
    refine XW_sr ?_
    refine OW_mv rfl rfl ?_
    refine OW_as rfl rfl ?_
    refine EZ68_J2 rfl ?_
    refine XW_ret ?_
    refine ret_ret (res1 rfl (rv_tmp rfl)) ?_
    refine hq _ (Own.unpick (Own.re (Own.mk_orc (m := n + 1) (Own.mono hS5 (le_bef (bef_app (a := [8, 0, 1, 1, 1, 1, 1]) hp))) (by simp)) (by congr 2; clear hfr hq hh; first | (simp_all; done) | (simp_all; intro hx; omega))) hL)
   ·try simp only [bs] at g5_3
    refine OW_mv rfl rfl ?_
    first
    | refine OW_nc rfl rfl ?_
    | refine OW_nce rfl rfl ?_
    refine EN68_J2 rfl ?_
    refine OW_fa rfl rfl rfl ?_
    refine OW_loadR hS2 (k := 0) rfl rfl rfl rfl rfl (by first | exact part_whole rfl rfl rfl | rfl) ?_
    refine OW_mv rfl rfl ?_
    refine EN68_J2 rfl ?_
    refine OW_lookV hS2 (k := 3) rfl rfl rfl _ rfl rfl rfl rfl kU64 (z0 := 0) rfl ?_
    refine OW_bin rfl rfl rfl rfl rfl ?_
    refine OW_pick rfl rfl rfl ?_
    refine EN68_J2 rfl ?_
    refine OW_mv rfl rfl ?_
    refine OW_split (tt := 48) rfl (fun g5_12 => ?_) (fun g5_12 => ?_)
    ·try simp only [bs] at g5_12
     refine OW_no rfl ?_
     refine EN68_J2 rfl ?_
     refine OW_no rfl ?_
     refine OW_no rfl ?_
     refine OW_no rfl ?_
     refine EN68_J2 rfl ?_
     refine OW_no rfl ?_
     refine OW_no rfl ?_
     refine OW_no rfl ?_
     refine EN68_J2 rfl ?_
     refine OW_pick rfl rfl rfl ?_
     refine EZ68_J2 rfl ?_
     refine XW_yes rfl rfl ?_
     refine XW_region ?_
     refine OW_mv rfl rfl ?_
     first
     | refine OW_nc rfl rfl ?_
     | refine OW_nce rfl rfl ?_
     refine OW_fa rfl rfl rfl ?_
     refine EN68_J2 rfl ?_
     refine OW_storeR hS2 (k := 0) rfl (le_lit (ν := ν) (a := [8, 0, 1, 1, 1]) (b := [3, 1, 0, 1, 1, 1, 1]) (by decide)) rfl rfl rfl rfl ⟨rfl, rfl, Nat.le_of_ble_eq_true rfl⟩ (u2 := .agg [_, _, _, _, _, _, _, _, _, _]) rfl fun H7 hS7 => ?_
     replace hS7 : Own _ _ _ (_ :: _ :: _ :: _ :: _ :: _ :: _ :: _ :: _ :: L.eraseIdx k) := hS7
     refine EZ68_J2 rfl ?_
     refine then_norm ?_
     refine XW_sr ?_
     refine OW_mv rfl rfl ?_
     first
     | refine OW_nc rfl rfl ?_
     | refine OW_nce rfl rfl ?_
     refine OW_fa rfl rfl rfl ?_
     refine EN68_J2 rfl ?_
     refine OW_loadR hS7 (k := 0) rfl rfl rfl rfl rfl (by first | exact part_whole rfl rfl rfl | rfl) ?_
     refine OW_mv rfl rfl ?_
     refine OW_lookV hS7 (k := 3) rfl rfl rfl _ rfl rfl rfl rfl kU64 (z0 := 0) rfl ?_
     refine EN68_J2 rfl ?_
     have ho := ho h
     first
     | refine OW_bin rfl rfl rfl rfl (add_w64 (by first | omega | assumption | (simp only [ss]; omega))) ?_
     | refine OW_bin rfl rfl rfl rfl rfl ?_
     refine OW_setM hS7 (k := 3) rfl (le_lit (ν := ν) (a := [4, 1, 0, 1, 1, 1, 1]) (b := [7, 0, 1, 1, 1, 1, 1]) (by decide)) rfl rfl _ rfl rfl rfl rfl kU64 fun H9 hS9 => ?_
     replace hS9 : Own _ _ _ (_ :: _ :: _ :: _ :: _ :: _ :: _ :: _ :: _ :: L.eraseIdx k) := hS9
     refine EZ68_J2 rfl ?_
     refine XW_sr ?_
     refine OW_mv rfl rfl ?_
     refine OW_as rfl rfl ?_
     refine EZ68_J2 rfl ?_
     refine XW_ret ?_
     refine ret_ret (res1 rfl (rv_tmp rfl)) ?_
     refine hq _ (Own.unpick (Own.re (Own.mk_orc (m := n + 1) (Own.mono hS9 (le_bef (bef_app (a := [8, 0, 1, 1, 1, 1, 1]) hp))) (by simp)) (by congr 2; clear hfr hq hh; first | (simp_all; done) | (simp_all; intro hx; omega))) hL)
    ·try simp only [bs] at g5_12
     refine OW_mv rfl rfl ?_
     refine EN68_J2 rfl ?_
     first
     | refine OW_nc rfl rfl ?_
     | refine OW_nce rfl rfl ?_
     refine OW_fa rfl rfl rfl ?_
     refine OW_loadR hS2 (k := 0) rfl rfl rfl rfl rfl (by first | exact part_whole rfl rfl rfl | rfl) ?_
     refine EN68_J2 rfl ?_
     refine OW_mv rfl rfl ?_
     refine OW_lookV hS2 (k := 4) rfl rfl rfl _ rfl rfl rfl rfl kU64 (z0 := 0) rfl ?_
     refine OW_bin rfl rfl rfl rfl rfl ?_
     refine EN68_J2 rfl ?_
     refine OW_pick rfl rfl rfl ?_
     refine EZ68_J2 rfl ?_
     refine XW_if rfl (fun h5 => ?_) (fun h5 => ?_)
     ·try simp only [bs] at h5
      refine XW_region ?_
      refine OW_mv rfl rfl ?_
      first
      | refine OW_nc rfl rfl ?_
      | refine OW_nce rfl rfl ?_
      refine OW_fa rfl rfl rfl ?_
      refine EN68_J2 rfl ?_
      refine OW_storeR hS2 (k := 0) rfl (le_lit (ν := ν) (a := [8, 0, 1, 1, 1]) (b := [3, 1, 0, 1, 1, 1, 1]) (by decide)) rfl rfl rfl rfl ⟨rfl, rfl, Nat.le_of_ble_eq_true rfl⟩ (u2 := .agg [_, _, _, _, _, _, _, _, _, _]) rfl fun H11 hS11 => ?_
      replace hS11 : Own _ _ _ (_ :: _ :: _ :: _ :: _ :: _ :: _ :: _ :: _ :: L.eraseIdx k) := hS11
      refine EZ68_J2 rfl ?_
      refine then_norm ?_
      refine XW_sr ?_
      refine OW_mv rfl rfl ?_
      first
      | refine OW_nc rfl rfl ?_
      | refine OW_nce rfl rfl ?_
      refine OW_fa rfl rfl rfl ?_
      refine EN68_J2 rfl ?_
      refine OW_loadR hS11 (k := 0) rfl rfl rfl rfl rfl (by first | exact part_whole rfl rfl rfl | rfl) ?_
      refine OW_mv rfl rfl ?_
      refine OW_lookV hS11 (k := 3) rfl rfl rfl _ rfl rfl rfl rfl kU64 (z0 := 0) rfl ?_
      refine EN68_J2 rfl ?_
      have ho := ho h
      first
      | refine OW_bin rfl rfl rfl rfl (add_w64 (by first | omega | assumption | (simp only [ss]; omega))) ?_
      | refine OW_bin rfl rfl rfl rfl rfl ?_
      refine OW_setM hS11 (k := 3) rfl (le_lit (ν := ν) (a := [4, 1, 0, 1, 1, 1, 1]) (b := [7, 0, 1, 1, 1, 1, 1]) (by decide)) rfl rfl _ rfl rfl rfl rfl kU64 fun H13 hS13 => ?_
      replace hS13 : Own _ _ _ (_ :: _ :: _ :: _ :: _ :: _ :: _ :: _ :: _ :: L.eraseIdx k) := hS13
      refine EZ68_J2 rfl ?_
      refine XW_sr ?_
      refine OW_mv rfl rfl ?_
      refine OW_as rfl rfl ?_
      refine EZ68_J2 rfl ?_
      refine XW_ret ?_
      refine ret_ret (res1 rfl (rv_tmp rfl)) ?_
      refine hq _ (Own.unpick (Own.re (Own.mk_orc (m := n + 1) (Own.mono hS13 (le_bef (bef_app (a := [8, 0, 1, 1, 1, 1, 1]) hp))) (by simp)) (by congr 2; clear hfr hq hh; first | (simp_all; done) | (simp_all; intro hx; omega))) hL)
     ·try simp only [bs] at h5
      refine XW_skip ?_
      refine then_norm ?_
      refine XW_sr ?_
      refine OW_mv rfl rfl ?_
      first
      | refine OW_nc rfl rfl ?_
      | refine OW_nce rfl rfl ?_
      refine OW_fa rfl rfl rfl ?_
      refine EN68_J2 rfl ?_
      refine OW_loadR hS2 (k := 0) rfl rfl rfl rfl rfl (by first | exact part_whole rfl rfl rfl | rfl) ?_
      refine OW_mv rfl rfl ?_
      refine OW_lookV hS2 (k := 3) rfl rfl rfl _ rfl rfl rfl rfl kU64 (z0 := 0) rfl ?_
      refine EN68_J2 rfl ?_
      have ho := ho h
      first
      | refine OW_bin rfl rfl rfl rfl (add_w64 (by first | omega | assumption | (simp only [ss]; omega))) ?_
      | refine OW_bin rfl rfl rfl rfl rfl ?_
      refine OW_setM hS2 (k := 3) rfl (le_lit (ν := ν) (a := [8, 0, 1, 1, 1]) (b := [7, 0, 1, 1, 1, 1, 1]) (by decide)) rfl rfl _ rfl rfl rfl rfl kU64 fun H15 hS15 => ?_
      replace hS15 : Own _ _ _ (_ :: _ :: _ :: _ :: _ :: _ :: _ :: _ :: _ :: L.eraseIdx k) := hS15
      refine EZ68_J2 rfl ?_
      refine XW_sr ?_
      refine OW_mv rfl rfl ?_
      refine OW_as rfl rfl ?_
      refine EZ68_J2 rfl ?_
      refine XW_ret ?_
      refine ret_ret (res1 rfl (rv_tmp rfl)) ?_
      refine hq _ (Own.unpick (Own.re (Own.mk_orc (m := n + 1) (Own.mono hS15 (le_bef (bef_app (a := [8, 0, 1, 1, 1, 1, 1]) hp))) (by simp)) (by congr 2; clear hfr hq hh; first | (simp_all; done) | (simp_all; intro hx; omega))) hL)
theorem iMeet (hS : Own β ps H L) (hL : L[k]? = some (orc q F)) (hle : le ps ν) (hβ : under β ν = true) (hp : before ν pos') (h : Int) (hq : ∀ H1, Own β pos' H1 (L.set k (orc q (F.meet h))) → Q (.tup []) H1) : CW cfg ν 96 [.ptr q 0 0, .int .u64 h] H Q := by
  obtain ⟨D, P, m0, m1, m2, m3, m4, m5, hS⟩ := (hS.pick hL).un_orc
  obtain ⟨d, n, bad, f0, f1, f2, f3, f4, f5, pl⟩ := F
  dsimp only at hS
  refine CW_keep g96 F96 rfl ?_
  replace hS := Own.mono hS hle
  refine XW_sr ?_
  refine OW_mv rfl rfl ?_
  first
  | refine OW_nc rfl rfl ?_
  | refine OW_nce rfl rfl ?_
  refine OW_fa rfl rfl rfl ?_
  refine OW_env (e' := [_,_,_,_,_,_,_,_,_,_,_,_,_,_,_,_]) rfl ?_
  refine OW_loadR hS (k := 0) rfl rfl rfl rfl rfl (by first | exact part_whole rfl rfl rfl | rfl) ?_
  refine OW_mv rfl rfl ?_
  refine OW_lookV hS (k := 3) rfl rfl rfl _ rfl rfl rfl rfl kU64 (z0 := 0) rfl ?_
  refine OW_env (e' := [_,_,_,_,_,_,_,_,_,_,_,_,_,_,_,_]) rfl ?_
  refine OW_bin rfl rfl rfl rfl rfl ?_
  refine OW_nilE (e' := [_,_,_,_,_,_,_,_,_,_,_,_,_,_,_,_]) rfl ?_
  refine XW_if rfl (fun h0 => ?_) (fun h0 => ?_)
  ·try simp only [bs] at h0
   refine XW_region ?_
   refine OW_mv rfl rfl ?_
   first
   | refine OW_nc rfl rfl ?_
   | refine OW_nce rfl rfl ?_
   refine OW_fa rfl rfl rfl ?_
   refine OW_env (e' := [_,_,_,_,_,_,_,_,_,_,_,_,_,_,_,_]) rfl ?_
   refine OW_loadR hS (k := 0) rfl rfl rfl rfl rfl (by first | exact part_whole rfl rfl rfl | rfl) ?_
   refine OW_mv rfl rfl ?_
   refine OW_setM hS (k := 4) rfl (le_app (p := ν) (b := [5, 1])) rfl rfl _ rfl rfl rfl rfl kU64 fun H2 hS2 => ?_
   replace hS2 : Own _ _ _ (_ :: _ :: _ :: _ :: _ :: _ :: _ :: _ :: _ :: L.eraseIdx k) := hS2
   refine OW_nilE (e' := [_,_,_,_,_,_,_,_,_,_,_,_,_,_,_,_]) rfl ?_
   refine ret_norm ((res0 rfl)) ?_
   refine hq _ (Own.unpick (Own.re (Own.mk_orc (m := n) (Own.mono hS2 (le_bef (bef_app (a := [6, 1]) hp))) rfl) (by simp [Orf.meet, h0])) hL)
  ·try simp only [bs] at h0
   refine XW_skip ?_
   refine ret_norm ((res0 rfl)) ?_
   refine hq _ (Own.unpick (Own.re (Own.mk_orc (m := n) (Own.mono hS (le_bef hp)) rfl) (by simp [Orf.meet, h0])) hL)
end Go.Proofs.Ytfkgdlfponfimaa.X
/- What the program's oracle does: the rest. -/
set_option linter.unusedVariables false
set_option linter.unusedSimpArgs false
set_option maxRecDepth 100000
namespace Go.Proofs.Ytfkgdlfponfimaa.X
open Go Go.RowKit
theorem EN31_J3 {c : Cfg} {ν : Nm} {e : Env} {H : Heap} {all : Array Oper} {r : List Oper} {i : Nat} {Q : Env → Heap → Prop} {x0 x1 x2 x3 x4 x5 x6 x7 x8 x9 x10 x11 x12 x13 x14 x15 x16 x17 x18 x19 x20 x21 x22 x23 x24 x25 x26 x27 x28 x29 x30 : AVal} (he : e = [x0,x1,x2,x3,x4,x5,x6,x7,x8,x9,x10,x11,x12,x13,x14,x15,x16,x17,x18,x19,x20,x21,x22,x23,x24,x25,x26,x27,x28,x29,x30]) (h : OW c ν all r i [x0,x1,x2,x3,x4,x5,x6,x7,x8,x9,x10,x11,x12,x13,x14,x15,x16,x17,x18,x19,x20,x21,x22,x23,x24,x25,x26,x27,x28,x29,x30] H Q) : OW c ν all r i e H Q := by subst he; exact h
theorem EZ31_J3 {c : Cfg} {ν : Nm} {e : Env} {H : Heap} {all : Array Oper} {i : Nat} {Q : Env → Heap → Prop} {x0 x1 x2 x3 x4 x5 x6 x7 x8 x9 x10 x11 x12 x13 x14 x15 x16 x17 x18 x19 x20 x21 x22 x23 x24 x25 x26 x27 x28 x29 x30 : AVal} (he : e = [x0,x1,x2,x3,x4,x5,x6,x7,x8,x9,x10,x11,x12,x13,x14,x15,x16,x17,x18,x19,x20,x21,x22,x23,x24,x25,x26,x27,x28,x29,x30]) (h : Q [x0,x1,x2,x3,x4,x5,x6,x7,x8,x9,x10,x11,x12,x13,x14,x15,x16,x17,x18,x19,x20,x21,x22,x23,x24,x25,x26,x27,x28,x29,x30] H) : OW c ν all [] i e H Q := by subst he; exact OW_nil h
theorem EZ33_J3 {c : Cfg} {ν : Nm} {e : Env} {H : Heap} {all : Array Oper} {i : Nat} {Q : Env → Heap → Prop} {x0 x1 x2 x3 x4 x5 x6 x7 x8 x9 x10 x11 x12 x13 x14 x15 x16 x17 x18 x19 x20 x21 x22 x23 x24 x25 x26 x27 x28 x29 x30 x31 x32 : AVal} (he : e = [x0,x1,x2,x3,x4,x5,x6,x7,x8,x9,x10,x11,x12,x13,x14,x15,x16,x17,x18,x19,x20,x21,x22,x23,x24,x25,x26,x27,x28,x29,x30,x31,x32]) (h : Q [x0,x1,x2,x3,x4,x5,x6,x7,x8,x9,x10,x11,x12,x13,x14,x15,x16,x17,x18,x19,x20,x21,x22,x23,x24,x25,x26,x27,x28,x29,x30,x31,x32] H) : OW c ν all [] i e H Q := by subst he; exact OW_nil h
variable {ν β ps pos' : Nm} {H : Heap} {Q : AVal → Heap → Prop} {L : List Asr} {q : Nm} {F : Orf} {k : Nat}
theorem iFreshO {D P : AVal} {m0 m1 m2 m3 m4 m5 : Nm} (hS : Own β ps H (row q 10 [.agg [D, .int .i64 F.n, .bool F.bad, .map m0, .map m1, .map m2, .map m3, .map m4, .map m5, P]] :: sl D 1 (F.draws.map eU) :: sl P 1 (F.pl.map eS) :: mpF m0 eU eI F.iss :: mpF m1 eU eI F.met :: mpF m2 eS eU F.hs :: mpF m3 eTag eU F.tg :: mpF m4 eSeal eU F.se :: mpF m5 eTold eI F.op :: L)) (hle : le ps ν) (hβ : under β ν = true) (hp : before ν pos') (hok : F.ok) (hn : F.n ≤ 4294967000)
    (hq : ∀ H1 D P m0 m1 m2 m3 m4 m5, Own β pos' H1 (row q 10 [.agg [D, .int .i64 F.fresh.n, .bool F.fresh.bad, .map m0, .map m1, .map m2, .map m3, .map m4, .map m5, P]] :: sl D 1 (F.fresh.draws.map eU) :: sl P 1 (F.fresh.pl.map eS) :: mpF m0 eU eI F.fresh.iss :: mpF m1 eU eI F.fresh.met :: mpF m2 eS eU F.fresh.hs :: mpF m3 eTag eU F.fresh.tg :: mpF m4 eSeal eU F.fresh.se :: mpF m5 eTold eI F.fresh.op :: L) → Q (.int .u64 F.next) H1) : CW cfg ν 83 [.ptr q 0 0] H Q :=
  iFresh (L := orc q F :: L) (k := 0) (Own.mk_orc hS rfl) rfl hle hβ hp hok hn fun H1 h1 => by
    obtain ⟨D, P, m0, m1, m2, m3, m4, m5, h1⟩ := Own.un_orc h1
    exact hq _ _ _ _ _ _ _ _ _ h1
theorem iMeetO {D P : AVal} {m0 m1 m2 m3 m4 m5 : Nm} (hS : Own β ps H (row q 10 [.agg [D, .int .i64 F.n, .bool F.bad, .map m0, .map m1, .map m2, .map m3, .map m4, .map m5, P]] :: sl D 1 (F.draws.map eU) :: sl P 1 (F.pl.map eS) :: mpF m0 eU eI F.iss :: mpF m1 eU eI F.met :: mpF m2 eS eU F.hs :: mpF m3 eTag eU F.tg :: mpF m4 eSeal eU F.se :: mpF m5 eTold eI F.op :: L)) (hle : le ps ν) (hβ : under β ν = true) (hp : before ν pos') (h : Int)
    (hq : ∀ H1 D P m0 m1 m2 m3 m4 m5, Own β pos' H1 (row q 10 [.agg [D, .int .i64 (F.meet h).n, .bool (F.meet h).bad, .map m0, .map m1, .map m2, .map m3, .map m4, .map m5, P]] :: sl D 1 ((F.meet h).draws.map eU) :: sl P 1 ((F.meet h).pl.map eS) :: mpF m0 eU eI (F.meet h).iss :: mpF m1 eU eI (F.meet h).met :: mpF m2 eS eU (F.meet h).hs :: mpF m3 eTag eU (F.meet h).tg :: mpF m4 eSeal eU (F.meet h).se :: mpF m5 eTold eI (F.meet h).op :: L) → Q (.tup []) H1) : CW cfg ν 96 [.ptr q 0 0, .int .u64 h] H Q :=
  iMeet (L := orc q F :: L) (k := 0) (Own.mk_orc hS rfl) rfl hle hβ hp h fun H1 h1 => by
    obtain ⟨D, P, m0, m1, m2, m3, m4, m5, h1⟩ := Own.un_orc h1
    exact hq _ _ _ _ _ _ _ _ _ h1
theorem iFreshX {X : Asr} {D P : AVal} {m0 m1 m2 m3 m4 m5 : Nm} (hS : Own β ps H (X :: row q 10 [.agg [D, .int .i64 F.n, .bool F.bad, .map m0, .map m1, .map m2, .map m3, .map m4, .map m5, P]] :: sl D 1 (F.draws.map eU) :: sl P 1 (F.pl.map eS) :: mpF m0 eU eI F.iss :: mpF m1 eU eI F.met :: mpF m2 eS eU F.hs :: mpF m3 eTag eU F.tg :: mpF m4 eSeal eU F.se :: mpF m5 eTold eI F.op :: L)) (hle : le ps ν) (hβ : under β ν = true) (hp : before ν pos') (hok : F.ok) (hn : F.n ≤ 4294967000)
    (hq : ∀ H1 D P m0 m1 m2 m3 m4 m5, Own β pos' H1 (X :: row q 10 [.agg [D, .int .i64 F.fresh.n, .bool F.fresh.bad, .map m0, .map m1, .map m2, .map m3, .map m4, .map m5, P]] :: sl D 1 (F.fresh.draws.map eU) :: sl P 1 (F.fresh.pl.map eS) :: mpF m0 eU eI F.fresh.iss :: mpF m1 eU eI F.fresh.met :: mpF m2 eS eU F.fresh.hs :: mpF m3 eTag eU F.fresh.tg :: mpF m4 eSeal eU F.fresh.se :: mpF m5 eTold eI F.fresh.op :: L) → Q (.int .u64 F.next) H1) : CW cfg ν 83 [.ptr q 0 0] H Q :=
  iFreshO (L := X :: L) (Own.rot (A := [_, _, _, _, _, _, _, _, _]) hS) hle hβ hp hok hn fun H1 D P m0 m1 m2 m3 m4 m5 h1 => hq _ _ _ _ _ _ _ _ _ (Own.tor (A := [_, _, _, _, _, _, _, _, _]) h1)
theorem iMac (hS : Own β ps H L) (hL : L[k]? = some (orc q F)) (hle : le ps ν) (hβ : under β ν = true) (hp : before ν pos') (hok : F.ok) (hn : F.n ≤ 4294967000) (kk : Int) (a : ByteArray) (hq : ∀ H1, Own β pos' H1 (L.set k (orc q (F.mac kk a).2)) → Q (.int .u64 (F.mac kk a).1) H1) : CW cfg ν 59 [.ptr q 0 0, .int .u64 kk, .str a] H Q := by
  obtain ⟨D, P, m0, m1, m2, m3, m4, m5, hS⟩ := (hS.pick hL).un_orc
  refine CW_keep g59 F59 rfl ?_
  replace hS := Own.mono hS hle
  refine XW_sr ?_
  refine OW_as rfl rfl ?_
  refine EZ33_J3 rfl ?_
  refine XW_sr ?_
  refine OW_mv rfl rfl ?_
  refine OW_mv rfl rfl ?_
  refine OW_bd rfl rfl (v := .agg [_, _]) rfl ?_
  refine OW_env (e' := [_,_,_,_,_,_,_,_,_,_,_,_,_,_,_,_,_,_,_,_,_,_,_,_,_,_,_,_,_,_,_,_,_]) rfl ?_
  refine OW_allocR hS (le_app (p := ν) (b := [3, 0, 1])) (under_app [3, 0, 1] hβ) rfl rfl rfl rfl fun H1 hS1 => ?_
  replace hS1 : Own _ _ _ (_ :: _ :: _ :: _ :: _ :: _ :: _ :: _ :: _ :: _ :: L.eraseIdx k) := hS1
  first
  | refine OW_storeR hS1 (k := 0) rfl le_refl rfl rfl rfl rfl ⟨rfl, rfl, Nat.le_of_ble_eq_true rfl⟩ (set_whole rfl rfl) fun H2 hS2 => ?_
  | refine OW_storeR hS1 (k := 0) rfl le_refl rfl rfl rfl rfl ⟨rfl, rfl, Nat.le_of_ble_eq_true rfl⟩ (u2 := .agg [_, _]) rfl fun H2 hS2 => ?_
  replace hS2 : Own _ _ _ (_ :: _ :: _ :: _ :: _ :: _ :: _ :: _ :: _ :: _ :: L.eraseIdx k) := hS2
  refine EZ33_J3 rfl ?_
  refine XW_sr ?_
  refine OW_mv rfl rfl ?_
  first
  | refine OW_nc rfl rfl ?_
  | refine OW_nce rfl rfl ?_
  refine OW_fa rfl rfl rfl ?_
  refine OW_env (e' := [_,_,_,_,_,_,_,_,_,_,_,_,_,_,_,_,_,_,_,_,_,_,_,_,_,_,_,_,_,_,_,_,_]) rfl ?_
  refine OW_loadR hS2 (k := 1) rfl rfl rfl rfl rfl (by first | exact part_whole rfl rfl rfl | rfl) ?_
  refine OW_loadR hS2 (k := 0) rfl rfl rfl rfl rfl (by first | exact part_whole rfl rfl rfl | rfl) ?_
  refine OW_lookT hS2 (k := 7) rfl rfl rfl (kk, a) rfl rfl rfl rfl kTag (z0 := 0) rfl ?_
  refine OW_env (e' := [_,_,_,_,_,_,_,_,_,_,_,_,_,_,_,_,_,_,_,_,_,_,_,_,_,_,_,_,_,_,_,_,_]) rfl ?_
  refine OW_mv rfl rfl ?_
  refine OW_ex rfl rfl rfl ?_
  refine OW_ex rfl rfl rfl ?_
  refine OW_env (e' := [_,_,_,_,_,_,_,_,_,_,_,_,_,_,_,_,_,_,_,_,_,_,_,_,_,_,_,_,_,_,_,_,_]) rfl ?_
  refine OW_as rfl rfl ?_
  refine OW_as rfl rfl ?_
  refine EZ33_J3 rfl ?_
  refine XW_seq ?_
  refine XW_sr ?_
  refine OW_mv rfl rfl ?_
  refine OW_un rfl rfl rfl ?_
  refine EZ33_J3 rfl ?_
  refine XW_if rfl (fun h3 => ?_) (fun h3 => ?_)
  ·try simp only [bs] at h3
   refine XW_sr ?_
   refine OW_mv rfl rfl ?_
   refine OW_fn rfl rfl (iFreshX hS2 (le_lit (ν := ν) (a := [5, 0, 1]) (b := [1, 0, 1, 0, 1, 1, 1]) (by decide)) (under_app [1, 0, 1, 0, 1, 1, 1] hβ) (before_lit (ν := ν) (a := [1, 0, 1, 0, 1, 1, 1]) (b := [2, 0, 1, 0, 1, 1, 1]) (by decide)) hok hn fun H4 D1 P1 a1 a2 a3 a4 a5 a6 hS4 => ?_) 
   replace hS4 : Own _ _ _ (_ :: _ :: _ :: _ :: _ :: _ :: _ :: _ :: _ :: _ :: L.eraseIdx k) := hS4
   refine OW_as rfl rfl ?_
   refine EZ33_J3 rfl ?_
   refine XW_region ?_
   refine OW_mv rfl rfl ?_
   first
   | refine OW_nc rfl rfl ?_
   | refine OW_nce rfl rfl ?_
   refine OW_fa rfl rfl rfl ?_
   refine OW_env (e' := [_,_,_,_,_,_,_,_,_,_,_,_,_,_,_,_,_,_,_,_,_,_,_,_,_,_,_,_,_,_,_,_,_]) rfl ?_
   refine OW_loadR hS4 (k := 1) rfl rfl rfl rfl rfl (by first | exact part_whole rfl rfl rfl | rfl) ?_
   refine OW_loadR hS4 (k := 0) rfl rfl rfl rfl rfl (by first | exact part_whole rfl rfl rfl | rfl) ?_
   refine OW_mv rfl rfl ?_
   refine OW_env (e' := [_,_,_,_,_,_,_,_,_,_,_,_,_,_,_,_,_,_,_,_,_,_,_,_,_,_,_,_,_,_,_,_,_]) rfl ?_
   refine OW_setM hS4 (k := 7) rfl (le_lit (ν := ν) (a := [2, 0, 1, 0, 1, 1, 1]) (b := [6, 1, 1, 0, 1, 1, 1]) (by decide)) rfl rfl (kk, a) rfl rfl rfl rfl kTag fun H5 hS5 => ?_
   replace hS5 : Own _ _ _ (_ :: _ :: _ :: _ :: _ :: _ :: _ :: _ :: _ :: _ :: L.eraseIdx k) := hS5
   refine EZ33_J3 rfl ?_
   refine then_norm ?_
   refine XW_sr ?_
   refine OW_mv rfl rfl ?_
   refine OW_as rfl rfl ?_
   refine EZ33_J3 rfl ?_
   refine XW_ret ?_
   refine ret_ret (res1 rfl (rv_tmp rfl)) ?_
   simp only [Orf.mac, h3] at hq; exact hq _ (Own.unpick (Own.re (Own.mk_orc (m := F.n + 1) (Own.drop0 (Own.mono hS5 (le_bef (bef_app (a := [7, 1, 1, 0, 1, 1, 1]) hp)))) rfl) rfl) hL)
  ·try simp only [bs] at h3
   refine XW_skip ?_
   refine then_norm ?_
   refine XW_sr ?_
   refine OW_mv rfl rfl ?_
   refine OW_as rfl rfl ?_
   refine EZ33_J3 rfl ?_
   refine XW_ret ?_
   refine ret_ret (res1 rfl (rv_tmp rfl)) ?_
   simp only [Orf.mac, h3] at hq; exact hq _ (Own.unpick (Own.mk_orc (m := F.n) (Own.drop0 (Own.mono hS2 (le_bef (bef_app (a := [5, 0, 1]) hp)))) rfl) hL)
theorem iVerify (hS : Own β ps H L) (hL : L[k]? = some (orc q F)) (hle : le ps ν) (hβ : under β ν = true) (hp : before ν pos') (kk : Int) (a : ByteArray) (t : Int) (hq : ∀ H1, Own β pos' H1 (L.set k (orc q (F.verify kk a t).2)) → Q (.bool (F.verify kk a t).1) H1) : CW cfg ν 95 [.ptr q 0 0, .int .u64 kk, .str a, .int .u64 t] H Q := by
  obtain ⟨D, P, m0, m1, m2, m3, m4, m5, hS⟩ := (hS.pick hL).un_orc
  refine CW_keep g95 F95 rfl ?_
  replace hS := Own.mono hS hle
  refine XW_sr ?_
  refine OW_as rfl rfl ?_
  refine EZ31_J3 rfl ?_
  refine XW_sr ?_
  refine OW_mv rfl rfl ?_
  first
  | refine OW_nc rfl rfl ?_
  | refine OW_nce rfl rfl ?_
  refine OW_fa rfl rfl rfl ?_
  refine EN31_J3 rfl ?_
  refine OW_loadR hS (k := 0) rfl rfl rfl rfl rfl (by first | exact part_whole rfl rfl rfl | rfl) ?_
  refine OW_mv rfl rfl ?_
  refine OW_mv rfl rfl ?_
  refine EN31_J3 rfl ?_
  refine OW_bd rfl rfl (v := .agg [_, _]) rfl ?_
  refine OW_lookT hS (k := 6) rfl rfl rfl (kk, a) rfl rfl rfl rfl kTag (z0 := 0) rfl ?_
  refine OW_mv rfl rfl ?_
  refine EN31_J3 rfl ?_
  refine OW_ex rfl rfl rfl ?_
  refine OW_ex rfl rfl rfl ?_
  refine OW_as rfl rfl ?_
  refine EN31_J3 rfl ?_
  refine OW_as rfl rfl ?_
  refine EZ31_J3 rfl ?_
  refine XW_seq ?_
  refine XW_sr ?_
  refine OW_mv rfl rfl ?_
  refine OW_mv rfl rfl ?_
  refine OW_split (tt := 23) rfl (fun g2_2 => ?_) (fun g2_2 => ?_)
  ·try simp only [bs] at g2_2
   refine EN31_J3 rfl ?_
   refine OW_mv rfl rfl ?_
   refine OW_mv rfl rfl ?_
   refine OW_bin rfl rfl rfl rfl rfl ?_
   refine EN31_J3 rfl ?_
   refine OW_pick rfl rfl rfl ?_
   refine EZ31_J3 rfl ?_
   refine XW_if rfl (fun h2 => ?_) (fun h2 => ?_)
   ·try simp only [bs] at h2
    refine XW_sr ?_
    refine OW_as rfl rfl ?_
    refine EZ31_J3 rfl ?_
    refine XW_ret ?_
    refine then_ret ?_
    refine ret_ret (res1 rfl (rv_tmp rfl)) ?_
    simp only [Orf.verify, g2_2, h2, and_self, if_true] at hq; exact hq _ (Own.unpick (Own.mk_orc (m := F.n) (Own.mono hS (le_bef hp)) rfl) hL)
   ·try simp only [bs] at h2
    refine XW_skip ?_
    refine then_norm ?_
    refine XW_sr ?_
    refine OW_mv rfl rfl ?_
    refine OW_mv rfl rfl ?_
    refine OW_fn rfl rfl (iMeetO hS (le_app (p := ν) (b := [2, 0, 1, 1, 1])) (under_app [2, 0, 1, 1, 1] hβ) (before_lit (ν := ν) (a := [2, 0, 1, 1, 1]) (b := [3, 0, 1, 1, 1]) (by decide)) _ fun H2 D1 P1 a1 a2 a3 a4 a5 a6 hS2 => ?_) 
    replace hS2 : Own _ _ _ (_ :: _ :: _ :: _ :: _ :: _ :: _ :: _ :: _ :: L.eraseIdx k) := hS2
    refine EZ31_J3 rfl ?_
    refine XW_sr ?_
    refine OW_as rfl rfl ?_
    refine EZ31_J3 rfl ?_
    refine XW_ret ?_
    refine ret_ret (res1 rfl (rv_tmp rfl)) ?_
    simp only [Orf.verify, h2, and_false, if_false] at hq; exact hq _ (Own.unpick (Own.mk_orc (m := (F.meet t).n) (Own.mono hS2 (le_bef (bef_app (a := [3, 0, 1, 1, 1]) hp))) rfl) hL)
  ·try simp only [bs] at g2_2
   refine EN31_J3 rfl ?_
   refine OW_no rfl ?_
   refine OW_no rfl ?_
   refine OW_no rfl ?_
   refine EN31_J3 rfl ?_
   refine OW_pick rfl rfl rfl ?_
   refine EZ31_J3 rfl ?_
   refine XW_no rfl rfl ?_
   refine XW_skip ?_
   refine then_norm ?_
   refine XW_sr ?_
   refine OW_mv rfl rfl ?_
   refine OW_mv rfl rfl ?_
   refine OW_fn rfl rfl (iMeetO hS (le_app (p := ν) (b := [2, 0, 1, 1, 1])) (under_app [2, 0, 1, 1, 1] hβ) (before_lit (ν := ν) (a := [2, 0, 1, 1, 1]) (b := [3, 0, 1, 1, 1]) (by decide)) _ fun H3 D2 P2 a7 a8 a9 a10 a11 a12 hS3 => ?_) 
   replace hS3 : Own _ _ _ (_ :: _ :: _ :: _ :: _ :: _ :: _ :: _ :: _ :: L.eraseIdx k) := hS3
   refine EZ31_J3 rfl ?_
   refine XW_sr ?_
   refine OW_as rfl rfl ?_
   refine EZ31_J3 rfl ?_
   refine XW_ret ?_
   refine ret_ret (res1 rfl (rv_tmp rfl)) ?_
   simp only [Orf.verify, g2_2, false_and, if_false] at hq; exact hq _ (Own.unpick (Own.mk_orc (m := (F.meet t).n) (Own.mono hS3 (le_bef (bef_app (a := [3, 0, 1, 1, 1]) hp))) rfl) hL)
end Go.Proofs.Ytfkgdlfponfimaa.X
/- What the program's oracle does: any call, a new one. -/
set_option linter.unusedVariables false
set_option linter.unusedSimpArgs false
set_option maxRecDepth 100000
namespace Go.Proofs.Ytfkgdlfponfimaa.X
open Go Go.RowKit
variable {ν β ps pos' : Nm} {H : Heap} {Q : AVal → Heap → Prop} {L : List Asr} {q : Nm} {F : Orf} {k : Nat}
structure Ca where
  d : Int
  k : Int
  n : Int
  h : Int
  a : ByteArray
  b : ByteArray
def Ca.enc (c : Ca) : AVal := .agg [.int .i64 c.d, .int .u64 c.k, .int .u64 c.n, .int .u64 c.h, .str c.a, .str c.b]
def Orf.act (F : Orf) (c : Ca) : Int × ByteArray × Bool × Orf :=
  if c.d = 0 then (F.next, ⟨#[]⟩, true, F.fresh)
  else if c.d = 1 then ((F.hash c.a).1, ⟨#[]⟩, true, (F.hash c.a).2)
  else if c.d = 2 then ((F.mac c.k c.a).1, ⟨#[]⟩, true, (F.mac c.k c.a).2)
  else if c.d = 3 then (0, ⟨#[]⟩, (F.verify c.k c.a c.h).1, (F.verify c.k c.a c.h).2)
  else if c.d = 4 then ((F.sealv c.k c.n c.a c.b).1, ⟨#[]⟩, true, (F.sealv c.k c.n c.a c.b).2)
  else if c.d = 5 then (0, (F.opens c.k c.n c.a c.h).1.1, (F.opens c.k c.n c.a c.h).1.2, (F.opens c.k c.n c.a c.h).2)
  else if c.d = 6 then (0, ⟨#[]⟩, false, F.meet c.h)
  else (0, ⟨#[]⟩, false, F)
abbrev Int.enc (n : Int) : AVal := .int .u64 n
theorem Int.clone {ν β ps pos' : Nm} {H : Heap} {Q : AVal → Heap → Prop} {L : List Asr} {ls : List Int} {S : AVal} (hv : Ls S (ls.map Int.enc)) (hS : Own β ps H L) (hle : le ps ν) (hβ : under β ν = true) (hp : before ν pos') (hn : ls.length ≤ 4294967296)
    (hq : ∀ v H', Own β pos' H' (sl v 1 (ls.map Int.enc) :: L) → Q v H') : CW cfg ν 58 [S] H Q := by
  have body : ∀ S, (S = .nls ∨ S = .nne) → XW cfg ν fi58.body (start fi58 [S]) (fun _ => none) (retW cfg.T fi58 fun v _ => isEmp v = true) := by
    rintro S (rfl | rfl)
    · refine XW_sr ?_
      refine OW_as rfl rfl ?_
      refine OW_nilE (e' := [_, _, _, _, _, _, _, _]) rfl ?_
      refine XW_seq ?_
      refine XW_sr ?_
      refine OW_mv rfl rfl ?_
      first
        | refine OW_bin rfl rfl rfl rfl (eq_yes (by omega)) ?_
        | refine OW_bin rfl rfl rfl rfl (eq_no (by omega)) ?_
        | refine OW_bin rfl rfl rfl rfl rfl ?_
      refine OW_nilE (e' := [_, _, _, _, _, _, _, _]) rfl ?_
      refine XW_yes rfl rfl ?_
      refine XW_sr ?_
      refine OW_as rfl rfl ?_
      refine OW_nilE (e' := [_, _, _, _, _, _, _, _]) rfl ?_
      refine XW_ret ?_
      refine then_ret ?_
      exact ret_ret rfl rfl
    · refine XW_sr ?_
      refine OW_as rfl rfl ?_
      refine OW_nilE (e' := [_, _, _, _, _, _, _, _]) rfl ?_
      refine XW_seq ?_
      refine XW_sr ?_
      refine OW_mv rfl rfl ?_
      first
        | refine OW_bin rfl rfl rfl rfl (eq_yes (by omega)) ?_
        | refine OW_bin rfl rfl rfl rfl (eq_no (by omega)) ?_
        | refine OW_bin rfl rfl rfl rfl rfl ?_
      refine OW_nilE (e' := [_, _, _, _, _, _, _, _]) rfl ?_
      refine XW_no rfl rfl ?_
      refine XW_skip ?_
      refine then_norm ?_
      refine XW_sr ?_
      refine OW_bs rfl rfl rfl ?_
      refine OW_mv rfl rfl ?_
      refine OW_bi rfl rfl rfl ?_
      refine OW_env (e' := [_, _, _, _, _, _, _, _]) rfl ?_
      refine OW_as rfl rfl ?_
      refine OW_nilE (e' := [_, _, _, _, _, _, _, _]) rfl ?_
      refine XW_ret ?_
      exact ret_ret rfl rfl
  by_cases h0 : noneIn [S] = true
  · refine CW_clone0 g58 F58 rfl h0 (body _ (.inl rfl)) (body _ (.inr rfl)) (hq _ _ ?_)
    obtain rfl : ls = [] := by
      rcases hv with rfl | ⟨h, _⟩
      · cases ls with
        | nil => rfl
        | cons x r => simp [noneIn] at h0
      · simpa using h
    exact (hS.mono (hle.trans (le_bef hp))).addE
  · have h0 : noneIn [S] = false := by simpa using h0
    rcases hv with rfl | ⟨h, rfl | rfl⟩
    · obtain ⟨x, r, rfl⟩ : ∃ x r, ls = x :: r := by
        cases ls with
        | nil => simp [noneIn] at h0
        | cons x r => exact ⟨x, r, rfl⟩
      refine CW_clone g58 F58 rfl h0 ?_
      refine XW_sr ?_
      refine OW_as rfl rfl ?_
      refine OW_nilE (e' := [_, _, _, _, _, _, _, _]) rfl ?_
      refine XW_seq ?_
      refine XW_sr ?_
      refine OW_mv rfl rfl ?_
      first
        | refine OW_bin rfl rfl rfl rfl (eq_yes (by omega)) ?_
        | refine OW_bin rfl rfl rfl rfl (eq_no (by omega)) ?_
        | refine OW_bin rfl rfl rfl rfl rfl ?_
      refine OW_nilE (e' := [_, _, _, _, _, _, _, _]) rfl ?_
      refine XW_no rfl rfl ?_
      refine XW_skip ?_
      refine then_norm ?_
      refine XW_sr ?_
      refine OW_bs rfl rfl rfl ?_
      refine OW_mv rfl rfl ?_
      refine OW_appE (hS.mono hle) (le_app (b := [2, 0, 1, 1])) (under_app [2, 0, 1, 1] hβ) rfl rfl rfl rfl rfl rfl rfl rfl (Ls.elems Ls.of) (map_wide (fun _ => rfl)) (by simpa using hn) (by decide) fun O2 H2 hS2 => ?_
      refine OW_env (e' := [_, _, _, _, _, _, _, _]) rfl ?_
      refine OW_as rfl rfl ?_
      refine OW_nilE (e' := [_, _, _, _, _, _, _, _]) rfl ?_
      refine XW_ret ?_
      exact ret_ret rfl (hq _ _ (hS2.mono (le_bef (bef_app (a := [3, 0, 1, 1]) hp))))
    · simp [noneIn] at h0
    · obtain rfl : ls = [] := by simpa using h
      refine CW_clone g58 F58 rfl rfl ?_
      refine XW_sr ?_
      refine OW_as rfl rfl ?_
      refine OW_nilE (e' := [_, _, _, _, _, _, _, _]) rfl ?_
      refine XW_seq ?_
      refine XW_sr ?_
      refine OW_mv rfl rfl ?_
      first
        | refine OW_bin rfl rfl rfl rfl (eq_yes (by omega)) ?_
        | refine OW_bin rfl rfl rfl rfl (eq_no (by omega)) ?_
        | refine OW_bin rfl rfl rfl rfl rfl ?_
      refine OW_nilE (e' := [_, _, _, _, _, _, _, _]) rfl ?_
      refine XW_yes rfl rfl ?_
      refine XW_sr ?_
      refine OW_as rfl rfl ?_
      refine OW_nilE (e' := [_, _, _, _, _, _, _, _]) rfl ?_
      refine XW_ret ?_
      refine then_ret ?_
      exact ret_ret rfl (hq _ _ (hS.mono (hle.trans (le_bef hp))).addN)
theorem Int.cloneO {ν β ps pos' : Nm} {H : Heap} {Q : AVal → Heap → Prop} {L : List Asr} {ls : List Int} {S : AVal} {k : Nat} (hS : Own β ps H L) (hL : L[k]? = some (sl S 1 (ls.map Int.enc))) (hle : le ps ν) (hβ : under β ν = true) (hp : before ν pos') (hn : ls.length ≤ 4294967296)
    (hq : ∀ v H', Own β pos' H' (sl v 1 (ls.map Int.enc) :: L) → Q v H') : CW cfg ν 58 [S] H Q := by
  obtain ⟨f, hf, _⟩ := hS.get hL
  have hf : Sl H 1 (ls.map Int.enc) S f := hf
  cases hf with
  | emp h => exact Int.clone (.inr ⟨h, .inl rfl⟩) hS hle hβ hp hn hq
  | nls h => exact Int.clone (.inr ⟨h, .inr rfl⟩) hS hle hβ hp hn hq
  | row h1 h2 h3 =>
    refine CW_clone g58 F58 rfl rfl ?_
    refine XW_sr ?_
    refine OW_as rfl rfl ?_
    refine OW_nilE (e' := [_, _, _, _, _, _, _, _]) rfl ?_
    refine XW_seq ?_
    refine XW_sr ?_
    refine OW_mv rfl rfl ?_
    first
      | refine OW_bin rfl rfl rfl rfl (eq_yes (by omega)) ?_
      | refine OW_bin rfl rfl rfl rfl (eq_no (by omega)) ?_
      | refine OW_bin rfl rfl rfl rfl rfl ?_
    refine OW_nilE (e' := [_, _, _, _, _, _, _, _]) rfl ?_
    refine XW_no rfl rfl ?_
    refine XW_skip ?_
    refine then_norm ?_
    refine XW_sr ?_
    refine OW_bs rfl rfl rfl ?_
    refine OW_mv rfl rfl ?_
    refine OW_appE (hS.mono hle) (le_app (b := [2, 0, 1, 1])) (under_app [2, 0, 1, 1] hβ) rfl rfl rfl rfl rfl rfl rfl rfl (hS.elems hL) (map_wide (fun _ => rfl)) (by simpa using hn) (by decide) fun O2 H2 hS2 => ?_
    refine OW_env (e' := [_, _, _, _, _, _, _, _]) rfl ?_
    refine OW_as rfl rfl ?_
    refine OW_nilE (e' := [_, _, _, _, _, _, _, _]) rfl ?_
    refine XW_ret ?_
    exact ret_ret rfl (hq _ _ (hS2.mono (le_bef (bef_app (a := [3, 0, 1, 1]) hp))))
theorem iNew (hS : Own β ps H L) (hle : le ps ν) (hβ : under β ν = true) (hp : before ν pos') {v : AVal} {d : List Int} (hv : Ls v (d.map Int.enc)) (hd : d.length ≤ 4294967000)
    (hq : ∀ q H1, Own β pos' H1 (orc q (Orf.new d) :: L) → Q (.ptr q 0 0) H1) : CW cfg ν 20 [v] H Q := by
  refine CW_keep g20 F20 rfl ?_
  replace hS := Own.mono hS hle
  refine XW_sr ?_
  refine OW_as rfl rfl ?_
  refine OW_nilE (e' := [_,_,_,_,_,_,_,_,_,_,_,_,_]) rfl ?_
  refine XW_sr ?_
  refine OW_mv rfl rfl ?_
  refine OW_fn rfl rfl (Int.clone (by assumption) hS (le_app (p := ν) (b := [1, 0, 1])) (under_app [1, 0, 1] hβ) (before_lit (ν := ν) (a := [1, 0, 1]) (b := [2, 0, 1]) (by decide)) (by omega) fun O1 H1 hS1 => ?_) 
  replace hS1 : Own _ _ _ (_ :: L) := hS1
  refine OW_makeM eU eI hS1 le_refl (under_app [2, 0, 1] hβ) rfl fun H2 hS2 => ?_
  replace hS2 : Own _ _ _ (_ :: _ :: L) := hS2
  refine OW_env (e' := [_,_,_,_,_,_,_,_,_,_,_,_,_]) rfl ?_
  refine OW_makeM eU eI hS2 le_refl (under_app [3, 0, 1] hβ) rfl fun H3 hS3 => ?_
  replace hS3 : Own _ _ _ (_ :: _ :: _ :: L) := hS3
  refine OW_makeM eS eU hS3 le_refl (under_app [4, 0, 1] hβ) rfl fun H4 hS4 => ?_
  replace hS4 : Own _ _ _ (_ :: _ :: _ :: _ :: L) := hS4
  refine OW_makeM eTag eU hS4 le_refl (under_app [5, 0, 1] hβ) rfl fun H5 hS5 => ?_
  replace hS5 : Own _ _ _ (_ :: _ :: _ :: _ :: _ :: L) := hS5
  refine OW_env (e' := [_,_,_,_,_,_,_,_,_,_,_,_,_]) rfl ?_
  refine OW_makeM eSeal eU hS5 le_refl (under_app [6, 0, 1] hβ) rfl fun H6 hS6 => ?_
  replace hS6 : Own _ _ _ (_ :: _ :: _ :: _ :: _ :: _ :: L) := hS6
  refine OW_makeM eTold eI hS6 le_refl (under_app [7, 0, 1] hβ) rfl fun H7 hS7 => ?_
  replace hS7 : Own _ _ _ (_ :: _ :: _ :: _ :: _ :: _ :: _ :: L) := hS7
  refine OW_bdP rfl (pcons rfl (hS7.one (k := 6) rfl).1 (pcons rfl rfl (pcons rfl rfl (pcons rfl rfl (pcons rfl rfl (pcons rfl rfl (pcons rfl rfl rfl))))))) rfl rfl rfl (cs := [_, _, _, _, _, _, _, _, _, _]) (fill1 rfl (hS7.one (k := 6) rfl).2 rfl (Nat.le_of_ble_eq_true rfl) rfl (fill1 rfl rfl rfl (Nat.le_of_ble_eq_true rfl) rfl (fill1 rfl rfl rfl (Nat.le_of_ble_eq_true rfl) rfl (fill1 rfl rfl rfl (Nat.le_of_ble_eq_true rfl) rfl (fill1 rfl rfl rfl (Nat.le_of_ble_eq_true rfl) rfl (fill1 rfl rfl rfl (Nat.le_of_ble_eq_true rfl) rfl (fill1 rfl rfl rfl (Nat.le_of_ble_eq_true rfl) rfl rfl))))))) ?_
  refine OW_env (e' := [_,_,_,_,_,_,_,_,_,_,_,_,_]) rfl ?_
  refine OW_boxR hS7 (le_lit (ν := ν) (a := [8, 0, 1]) (b := [9, 0, 1]) (by decide)) (under_app [9, 0, 1] hβ) rfl rfl rfl ⟨rfl, rfl⟩ fun H8 hS8 => ?_
  replace hS8 : Own _ _ _ (_ :: _ :: _ :: _ :: _ :: _ :: _ :: _ :: L) := hS8
  refine OW_as rfl rfl ?_
  refine OW_nilE (e' := [_,_,_,_,_,_,_,_,_,_,_,_,_]) rfl ?_
  refine XW_ret ?_
  refine ret_ret (res1 rfl (rv_tmp rfl)) ?_
  exact hq _ _ (Own.mk_orc (m := 0) (d := d) (pl := []) (Own.tor (A := [_, _, _, _, _, _, _, _]) (Own.tor (A := [_, _, _, _, _, _, _, _]) (Own.addE (w := 1) (Own.tor (A := [_, _, _, _, _, _]) (Own.tor (A := [_, _, _, _, _]) (Own.tor (A := [_, _, _, _]) (Own.tor (A := [_, _, _]) (Own.tor (A := [_, _]) (Own.tor (A := [_]) (Own.mono hS8 (le_bef (bef_app (a := [10, 0, 1]) hp)))))))))))) rfl rfl)
end Go.Proofs.Ytfkgdlfponfimaa.X

/- What the reference's oracle does. -/
set_option linter.unusedVariables false
set_option linter.unusedSimpArgs false
set_option maxRecDepth 100000
namespace Go.Proofs.Ytfkgdlfponfimaa.X
open Go Go.RowKit
variable {ν β ps pos' : Nm} {H : Heap} {Q : AVal → Heap → Prop} {L : List Asr} {q : Nm} {k : Nat}
structure Rw where
  t : Int
  k : Int
  n : Int
  a : ByteArray
  b : ByteArray
  h : Int
def Rw.enc (x : Rw) : AVal := .agg [.int .i64 x.t, .int .u64 x.k, .int .u64 x.n, .str x.a, .str x.b, .int .u64 x.h]
structure Rf where
  draws : List Int
  rows : List Rw
  met : List Int
  bads : Nat
def Rw.same (x y : Rw) : Bool := decide (x.t ≠ 0) && decide (y.t = x.t) && decide (y.k = x.k) && decide (y.n = x.n) && decide (y.a = x.a) && decide (y.b = x.b)
namespace Rf
structure le (S : Rf) (N : Nat) : Prop where
  rows : S.rows.length ≤ N
  met : S.met.length ≤ N
  bads : S.bads ≤ N
def issued (S : Rf) (h : Int) : Bool := S.rows.any fun x => decide (x.h = h)
def shown (S : Rf) (h : Int) : Bool := S.met.any fun x => decide (x = h)
def next (S : Rf) : Int := match S.draws[S.rows.length]? with
  | some h => h
  | none => 9223372036854775808 + (S.rows.length : Int)
def isBad (S : Rf) (h : Int) : Bool := decide (h = 0) || S.issued h || S.shown h
def draw (S : Rf) (x : Rw) : Rf := ⟨S.draws, S.rows ++ [⟨x.t, x.k, x.n, x.a, x.b, S.next⟩], S.met, S.bads + if S.isBad S.next then 1 else 0⟩
def at_ (S : Rf) (x : Rw) : Int := firstI (fun y => x.same y) S.rows 0
def value (S : Rf) (x : Rw) : Int × Rf := match S.rows.find? (fun y => x.same y) with
  | some y => (y.h, S)
  | none => (S.next, S.draw x)
def meet (S : Rf) (h : Int) : Rf := if S.issued h then S else ⟨S.draws, S.rows, S.met ++ [h], S.bads⟩
def verify (S : Rf) (k : Int) (a : ByteArray) (t : Int) : Bool × Rf := match S.rows.find? (fun y => (Rw.mk 2 k 0 a ⟨#[]⟩ 0).same y) with
  | some y => if y.h = t then (true, S) else (false, S.meet t)
  | none => (false, S.meet t)
def isOpen (k n : Int) (a : ByteArray) (c : Int) (y : Rw) : Bool := decide (y.t = 3) && decide (y.k = k) && decide (y.n = n) && decide (y.a = a) && decide (y.h = c)
def opens (S : Rf) (k n : Int) (a : ByteArray) (c : Int) : (ByteArray × Bool) × Rf := match S.rows.find? (isOpen k n a c) with
  | some y => ((y.b, true), S)
  | none => ((⟨#[]⟩, false), S.meet c)
def fresh (S : Rf) : Rf := S.draw ⟨0, 0, 0, ⟨#[]⟩, ⟨#[]⟩, 0⟩
def hash (S : Rf) (a : ByteArray) := S.value ⟨1, 0, 0, a, ⟨#[]⟩, 0⟩
def mac (S : Rf) (k : Int) (a : ByteArray) := S.value ⟨2, k, 0, a, ⟨#[]⟩, 0⟩
def sealv (S : Rf) (k n : Int) (a b : ByteArray) := S.value ⟨3, k, n, a, b, 0⟩
end Rf
def rorc (q : Nm) (S : Rf) : Asr := Asr.ex fun v : AVal × AVal × AVal => Asr.all [row q 4 [.agg [v.1, v.2.1, v.2.2, .int .i64 S.bads]], sl v.1 1 (S.draws.map eU), sl v.2.1 6 (S.rows.map Rw.enc), sl v.2.2 1 (S.met.map eU)]
variable {S : Rf}
section
variable {D R M B : AVal} {k0 k1 : Nat}
end
end Go.Proofs.Ytfkgdlfponfimaa.X
/- What the reference's oracle does: the writers. -/
set_option linter.unusedVariables false
set_option linter.unusedSimpArgs false
set_option maxRecDepth 100000
namespace Go.Proofs.Ytfkgdlfponfimaa.X
open Go Go.RowKit
variable {ν β ps pos' : Nm} {H : Heap} {Q : AVal → Heap → Prop} {L : List Asr} {q : Nm} {k : Nat} {S : Rf}
end Go.Proofs.Ytfkgdlfponfimaa.X
/- What the reference's oracle does: any call, a new one. -/
set_option linter.unusedVariables false
set_option linter.unusedSimpArgs false
set_option maxRecDepth 100000
namespace Go.Proofs.Ytfkgdlfponfimaa.X
open Go Go.RowKit
variable {ν β ps pos' : Nm} {H : Heap} {Q : AVal → Heap → Prop} {L : List Asr} {q : Nm} {k : Nat} {S : Rf}
def Rf.act (S : Rf) (c : Ca) : Int × ByteArray × Bool × Rf :=
  if c.d = 0 then (S.next, ⟨#[]⟩, true, S.fresh)
  else if c.d = 1 then ((S.hash c.a).1, ⟨#[]⟩, true, (S.hash c.a).2)
  else if c.d = 2 then ((S.mac c.k c.a).1, ⟨#[]⟩, true, (S.mac c.k c.a).2)
  else if c.d = 3 then (0, ⟨#[]⟩, (S.verify c.k c.a c.h).1, (S.verify c.k c.a c.h).2)
  else if c.d = 4 then ((S.sealv c.k c.n c.a c.b).1, ⟨#[]⟩, true, (S.sealv c.k c.n c.a c.b).2)
  else if c.d = 5 then (0, (S.opens c.k c.n c.a c.h).1.1, (S.opens c.k c.n c.a c.h).1.2, (S.opens c.k c.n c.a c.h).2)
  else if c.d = 6 then (0, ⟨#[]⟩, false, S.meet c.h)
  else (0, ⟨#[]⟩, false, S)
def Rf.new (d : List Int) : Rf := ⟨d, [], [], 0⟩
end Go.Proofs.Ytfkgdlfponfimaa.X
/- The program's oracle and the reference's: the same, call by call. -/
set_option linter.unusedVariables false
set_option linter.unusedSimpArgs false
namespace Go.Proofs.Ytfkgdlfponfimaa.X
open Go Go.RowKit
namespace Rf
variable {S : Rf}
def t3 (y : Rw) : Bool := decide (y.t = 3)
def hsF (S : Rf) (a : ByteArray) : Option Int := (S.rows.find? fun y => (Rw.mk 1 0 0 a ⟨#[]⟩ 0).same y).map (·.h)
def tgF (S : Rf) (p : Int × ByteArray) : Option Int := (S.rows.find? fun y => (Rw.mk 2 p.1 0 p.2 ⟨#[]⟩ 0).same y).map (·.h)
def seF (S : Rf) (p : Int × Int × ByteArray × ByteArray) : Option Int := (S.rows.find? fun y => (Rw.mk 3 p.1 p.2.1 p.2.2.1 p.2.2.2 0).same y).map (·.h)
def opI (S : Rf) (p : Int × Int × Int × ByteArray) : Int := firstI (isOpen p.1 p.2.1 p.2.2.2 p.2.2.1) (S.rows.filter t3) 0
def opF (S : Rf) (p : Int × Int × Int × ByteArray) : Option Int := if S.opI p < 0 then none else some (S.opI p + 1)
def issF (S : Rf) (h : Int) : Option Int := if S.rows.countP (fun x => decide (x.h = h)) = 0 then none else some (S.rows.countP (fun x => decide (x.h = h)) : Nat)
def metF (S : Rf) (h : Int) : Option Int := if h ∈ S.met then some 1 else none
def of (S : Rf) : Orf := ⟨S.draws, S.rows.length, decide (S.bads > 0), S.issF, S.metF, S.hsF, S.tgF, S.seF, S.opF, (S.rows.filter t3).map (·.b)⟩
theorem iss_pos (h : Int) : ((S.issF h).getD 0 > 0) ↔ S.issued h = true := by
  unfold issF issued
  rw [List.any_eq_true]
  split
  · rename_i h0
    rw [List.countP_eq_zero] at h0
    simp only [Option.getD_none, gt_iff_lt, Int.lt_irrefl, false_iff, not_exists, not_and]
    exact fun x hx => h0 x hx
  · rename_i h0
    have h1 : 0 < S.rows.countP (fun x => decide (x.h = h)) := by omega
    have h2 := List.countP_pos_iff.1 h1
    simp only [Option.getD_some]
    exact ⟨fun _ => h2, fun _ => by omega⟩
theorem met_pos (h : Int) : ((S.metF h).getD 0 > 0) ↔ S.shown h = true := by
  unfold metF shown
  rw [List.any_eq_true]
  split
  · rename_i h0; simp; exact h0
  · rename_i h0; simp; exact h0
theorem iss_zero (h : Int) : ((S.issF h).getD 0 = 0) ↔ S.issued h = false := by
  have := S.iss_pos h
  have h0 : 0 ≤ (S.issF h).getD 0 := by unfold issF; split <;> simp
  cases hb : S.issued h with
  | true => rw [hb] at this; simp at this ⊢; omega
  | false => rw [hb] at this; simp at this ⊢; omega
theorem of_next : S.of.next = S.next := rfl
theorem of_isBad (h : Int) : S.of.isBad h = decide (S.bads + (if S.isBad h then 1 else 0) > 0) := by
  unfold Orf.isBad isBad
  show (decide (S.bads > 0) || (decide (h = 0) || decide ((S.issF h).getD 0 > 0) || decide ((S.metF h).getD 0 > 0))) = _
  rw [show decide ((S.issF h).getD 0 > 0) = S.issued h by rw [Bool.eq_iff_iff, decide_eq_true_eq]; exact S.iss_pos h, show decide ((S.metF h).getD 0 > 0) = S.shown h by rw [Bool.eq_iff_iff, decide_eq_true_eq]; exact S.met_pos h]
  cases (decide (h = 0) || S.issued h || S.shown h) <;> simp
theorem iss_draw (x : Rw) (h : Int) : (S.draw x).issF h = if h = S.next then some ((S.issF S.next).getD 0 + 1) else S.issF h := by
  unfold issF draw
  simp only [List.countP_append, List.countP_singleton]
  by_cases e : h = S.next
  · subst e
    simp only [decide_true, if_true]
    rw [if_neg (by omega)]
    split
    · rename_i h0; simp [h0]
    · simp
  · have e' : ¬ S.next = h := fun e2 => e e2.symm
    simp [e, e']
theorem find_draw (x : Rw) (p : Rw → Bool) : ((S.draw x).rows.find? p) = (S.rows.find? p).or (if p ⟨x.t, x.k, x.n, x.a, x.b, S.next⟩ then some ⟨x.t, x.k, x.n, x.a, x.b, S.next⟩ else none) := by
  unfold draw
  rw [List.find?_append]
  congr 1
  simp only [List.find?_cons, List.find?_nil]
  split <;> simp_all
theorem of_draw (x : Rw) : (S.draw x).of = ⟨S.draws, S.rows.length + 1, S.of.isBad S.next, fun h => if h = S.next then some ((S.issF S.next).getD 0 + 1) else S.issF h, S.metF,
    fun a => (S.hsF a).or (if (Rw.mk 1 0 0 a ⟨#[]⟩ 0).same ⟨x.t, x.k, x.n, x.a, x.b, S.next⟩ then some S.next else none),
    fun p => (S.tgF p).or (if (Rw.mk 2 p.1 0 p.2 ⟨#[]⟩ 0).same ⟨x.t, x.k, x.n, x.a, x.b, S.next⟩ then some S.next else none),
    fun p => (S.seF p).or (if (Rw.mk 3 p.1 p.2.1 p.2.2.1 p.2.2.2 0).same ⟨x.t, x.k, x.n, x.a, x.b, S.next⟩ then some S.next else none),
    (S.draw x).opF, ((S.draw x).rows.filter t3).map (·.b)⟩ := by
  have h1 : ∀ (p : Rw → Bool), ((S.draw x).rows.find? p).map (·.h) = ((S.rows.find? p).map (·.h)).or (if p ⟨x.t, x.k, x.n, x.a, x.b, S.next⟩ then some S.next else none) := by
    intro p
    rw [find_draw]
    cases S.rows.find? p
    · simp only [Option.none_or, Option.map_none]; split <;> rfl
    · rfl
  unfold of
  congr 1
  · simp [draw]
  · exact (of_isBad (S := S) S.next).symm
  · funext h; exact S.iss_draw x h
  · funext a; exact h1 _
  · funext a; exact h1 _
  · funext a; exact h1 _
theorem filt_draw (x : Rw) : (S.draw x).rows.filter t3 = S.rows.filter t3 ++ (if x.t = 3 then [⟨x.t, x.k, x.n, x.a, x.b, S.next⟩] else []) := by
  unfold draw
  rw [List.filter_append]
  congr 1
  simp only [List.filter_cons, List.filter_nil, t3]
  by_cases h : x.t = 3 <;> simp [h]
theorem op_draw (x : Rw) (h : ¬ x.t = 3) : (S.draw x).opF = S.opF := by
  funext p
  have : (S.draw x).rows.filter t3 = S.rows.filter t3 := by rw [filt_draw, if_neg h, List.append_nil]
  unfold opF opI
  rw [this]
theorem same1 {t : Int} {k n : Int} {a b : ByteArray} {h : Int} {x : Rw} (ht : ¬ x.t = t) (h' : Int) : (Rw.mk t k n a b h).same ⟨x.t, x.k, x.n, x.a, x.b, h'⟩ = false := by simp [Rw.same, ht]
theorem fresh_of : S.of.fresh = S.fresh.of := by
  unfold fresh
  rw [of_draw, op_draw _ (by decide)]
  simp only [filt_draw]
  unfold Orf.fresh
  rw [of_next]
  simp only [same1 (x := ⟨0, 0, 0, ⟨#[]⟩, ⟨#[]⟩, 0⟩) (t := 1) (by decide), same1 (x := ⟨0, 0, 0, ⟨#[]⟩, ⟨#[]⟩, 0⟩) (t := 2) (by decide), same1 (x := ⟨0, 0, 0, ⟨#[]⟩, ⟨#[]⟩, 0⟩) (t := 3) (by decide)]
  simp [of]
theorem upd_or {α : Type} [DecidableEq α] {f : α → Option Int} {a : α} {v : Int} {c : α → Bool} (hc : ∀ x, c x = decide (x = a)) (h : f a = none) : (fun x => if x = a then some v else f x) = fun x => (f x).or (if c x = true then some v else none) := by
  funext x
  by_cases e : x = a
  · subst e; simp [hc, h]
  · simp [hc, e]
theorem draw_flds (x : Rw) (h : ¬ x.t = 3) : ((S.draw x).rows.filter t3).map (·.b) = (S.rows.filter t3).map (·.b) := by rw [filt_draw, if_neg h, List.append_nil]
theorem mac_of (k : Int) (a : ByteArray) : S.of.mac k a = ((S.mac k a).1, (S.mac k a).2.of) := by
  unfold mac value Orf.mac
  show (if (S.tgF (k, a)).isSome = true then _ else _) = _
  cases hf : S.rows.find? (fun y => (Rw.mk 2 k 0 a ⟨#[]⟩ 0).same y) with
  | some y =>
    have : S.tgF (k, a) = some y.h := by unfold tgF; rw [hf]; rfl
    rw [this]
    simp only [Option.isSome_some, if_true]
    show ((S.tgF (k, a)).getD 0, S.of) = _
    rw [this]; rfl
  | none =>
    have h0 : S.tgF (k, a) = none := by unfold tgF; rw [hf]; rfl
    rw [h0]
    simp only [Option.isSome_none, Bool.false_eq_true, if_false]
    rw [fresh_of, of_next]
    congr 1
    rw [of_draw (x := ⟨2, k, 0, a, ⟨#[]⟩, 0⟩), op_draw _ (by show ¬ (2 : Int) = 3; decide), draw_flds _ (by show ¬ (2 : Int) = 3; decide)]
    unfold fresh
    rw [of_draw, op_draw _ (by decide), draw_flds _ (by decide)]
    simp only [same1 (x := ⟨0, 0, 0, ⟨#[]⟩, ⟨#[]⟩, 0⟩) (t := 1) (by decide), same1 (x := ⟨0, 0, 0, ⟨#[]⟩, ⟨#[]⟩, 0⟩) (t := 2) (by decide), same1 (x := ⟨0, 0, 0, ⟨#[]⟩, ⟨#[]⟩, 0⟩) (t := 3) (by decide), same1 (x := ⟨2, k, 0, a, ⟨#[]⟩, 0⟩) (t := 1) (by show ¬ (2 : Int) = 1; decide), same1 (x := ⟨2, k, 0, a, ⟨#[]⟩, 0⟩) (t := 3) (by show ¬ (2 : Int) = 3; decide), Bool.false_eq_true, if_false, Option.or_none]
    congr 1
    exact upd_or (c := fun x : Int × ByteArray => (Rw.mk 2 x.1 0 x.2 ⟨#[]⟩ 0).same ⟨2, k, 0, a, ⟨#[]⟩, S.next⟩) (fun x => by obtain ⟨x1, x2⟩ := x; by_cases e : x1 = k <;> by_cases e2 : x2 = a <;> simp [Rw.same, e, e2, eq_comm]) h0
theorem meet_of (h : Int) : S.of.meet h = (S.meet h).of := by
  unfold Orf.meet meet
  show (if (S.issF h).getD 0 = 0 then _ else _) = _
  cases hb : S.issued h with
  | true =>
    rw [if_neg (by rw [iss_zero, hb]; decide)]; rfl
  | false =>
    rw [if_pos (by rw [iss_zero, hb])]
    simp only [Bool.false_eq_true, if_false]
    unfold of
    congr 1
    funext x
    show (if x = h then some 1 else S.metF x) = if x ∈ S.met ++ [h] then some 1 else none
    unfold metF
    by_cases e : x = h <;> simp [e]
theorem verify_of (k : Int) (a : ByteArray) (t : Int) : S.of.verify k a t = ((S.verify k a t).1, (S.verify k a t).2.of) := by
  unfold Orf.verify verify
  show (if (S.tgF (k, a)).isSome = true ∧ (S.tgF (k, a)).getD 0 = t then _ else _) = _
  cases hf : S.rows.find? (fun y => (Rw.mk 2 k 0 a ⟨#[]⟩ 0).same y) with
  | some y =>
    have : S.tgF (k, a) = some y.h := by unfold tgF; rw [hf]; rfl
    rw [this]
    by_cases e : y.h = t
    · simp [e]
    · simp [e, meet_of]
  | none =>
    have h0 : S.tgF (k, a) = none := by unfold tgF; rw [hf]; rfl
    rw [h0]; simp [meet_of]
end Rf
theorem of_new (d : List Int) : (Rf.new d).of = Orf.new d := by
  unfold Rf.new Rf.of Orf.new
  congr 1
end Go.Proofs.Ytfkgdlfponfimaa.X

/- The reference's oracle: bounds. -/
set_option linter.unusedVariables false
set_option linter.unusedSimpArgs false
set_option maxRecDepth 100000
namespace Go.Proofs.Ytfkgdlfponfimaa.X
open Go Go.RowKit
variable {ν β ps pos' : Nm} {H : Heap} {Q : AVal → Heap → Prop} {L : List Asr} {q : Nm} {k : Nat} {S : Rf}
theorem of_ok (S : Rf) : S.of.ok := by
  refine ⟨fun h => ?_, fun p => ?_, ?_⟩
  · show 0 ≤ (S.issF h).getD 0 ∧ (S.issF h).getD 0 ≤ ((S.rows.length : Nat) : Int)
    unfold Rf.issF
    split
    · simp
    · simp only [Option.getD_some]
      have := List.countP_le_length (p := fun x : Rw => decide (x.h = h)) (l := S.rows)
      omega
  · show 0 ≤ (S.opF p).getD 0 ∧ (S.opF p).getD 0 ≤ (((S.rows.filter Rf.t3).map (·.b)).length : Int)
    unfold Rf.opF
    have := firstI_range (Rf.isOpen p.1 p.2.1 p.2.2.2 p.2.2.1) (S.rows.filter Rf.t3)
    rw [show firstI (Rf.isOpen p.1 p.2.1 p.2.2.2 p.2.2.1) (S.rows.filter Rf.t3) 0 = S.opI p from rfl] at this
    rw [List.length_map]
    split
    · simp
    · simp only [Option.getD_some]; omega
  · show ((S.rows.filter Rf.t3).map (·.b)).length ≤ S.rows.length
    rw [List.length_map]; exact List.length_filter_le _ _
theorem Rf.le.mono {N M : Nat} (h : S.le N) (hm : N ≤ M) : S.le M := ⟨Nat.le_trans h.rows hm, Nat.le_trans h.met hm, Nat.le_trans h.bads hm⟩
end Go.Proofs.Ytfkgdlfponfimaa.X
/- The reference's oracle: what holds where nothing bad happened. -/
set_option linter.unusedVariables false
set_option linter.unusedSimpArgs false
namespace Go.Proofs.Ytfkgdlfponfimaa.X
open Go Go.RowKit
namespace Rf
variable {S : Rf}
structure Good (S : Rf) : Prop where
  nd : S.rows.Pairwise fun x y => x.h ≠ y.h
  nz : ∀ x ∈ S.rows, x.h ≠ 0
  mt : ∀ h ∈ S.met, S.issued h = false
structure Inv (S : Rf) : Prop where
  good : S.bads = 0 → S.Good
  uniq : S.rows.Pairwise fun x y => x.same y = false
def run (S : Rf) : List Ca → Rf
  | [] => S
  | c :: l => (S.act c).2.2.2.run l
end Rf
end Go.Proofs.Ytfkgdlfponfimaa.X
/- The program's oracle, told by the reference's state. -/
set_option linter.unusedVariables false
set_option linter.unusedSimpArgs false
set_option maxRecDepth 100000
namespace Go.Proofs.Ytfkgdlfponfimaa.X
open Go Go.RowKit
variable {ν β ps pos' : Nm} {H : Heap} {Q : AVal → Heap → Prop} {L : List Asr} {q : Nm} {k : Nat} {S : Rf}
section
variable (hS : Own β ps H L) (hL : L[k]? = some (orc q S.of)) (hle : le ps ν) (hβ : under β ν = true) (hp : before ν pos')
include hS hL hle hβ hp
theorem oMac (hn : S.rows.length ≤ 4294967000) (kk : Int) (a : ByteArray) (hq : ∀ H1, Own β pos' H1 (L.set k (orc q (S.mac kk a).2.of)) → Q (.int .u64 (S.mac kk a).1) H1) : CW cfg ν 59 [.ptr q 0 0, .int .u64 kk, .str a] H Q :=
  iMac hS hL hle hβ hp (of_ok S) hn kk a fun H1 h1 => by rw [Rf.mac_of] at h1 ⊢; exact hq H1 h1
theorem oVerify (kk : Int) (a : ByteArray) (t : Int) (hq : ∀ H1, Own β pos' H1 (L.set k (orc q (S.verify kk a t).2.of)) → Q (.bool (S.verify kk a t).1) H1) : CW cfg ν 95 [.ptr q 0 0, .int .u64 kk, .str a, .int .u64 t] H Q :=
  iVerify hS hL hle hβ hp kk a t fun H1 h1 => by rw [Rf.verify_of] at h1 ⊢; exact hq H1 h1
end
theorem oNew (hS : Own β ps H L) (hle : le ps ν) (hβ : under β ν = true) (hp : before ν pos') {v : AVal} {d : List Int} (hv : Ls v (d.map Int.enc)) (hd : d.length ≤ 4294967000)
    (hq : ∀ q H1, Own β pos' H1 (orc q (Rf.new d).of :: L) → Q (.ptr q 0 0) H1) : CW cfg ν 20 [v] H Q :=
  iNew hS hle hβ hp hv hd fun q H1 h1 => hq q H1 (by rw [of_new]; exact h1)
namespace Rf
end Rf
end Go.Proofs.Ytfkgdlfponfimaa.X
/- What values an oracle gives, where nothing bad happened; contracts with the states named. -/
set_option linter.unusedVariables false
set_option linter.unusedSimpArgs false
set_option maxRecDepth 100000
namespace Go.Proofs.Ytfkgdlfponfimaa.X
open Go Go.RowKit
variable {ν β ps pos' : Nm} {H : Heap} {Q : AVal → Heap → Prop} {L : List Asr} {q : Nm} {k : Nat} {S T : Rf}
namespace Rf
theorem pair_once {α : Type} {r : α → α → Prop} : ∀ {l : List α} {x y : α}, l.Pairwise r → x ∈ l → y ∈ l → ¬ r x y → ¬ r y x → x = y
  | [], _, _, _, h, _, _, _ => by simp at h
  | a :: l, x, y, hp, hx, hy, h1, h2 => by
    rw [List.pairwise_cons] at hp
    rcases List.mem_cons.1 hx with ex | hx'
    · rcases List.mem_cons.1 hy with ey | hy'
      · rw [ex, ey]
      · subst ex; exact absurd (hp.1 y hy') h1
    · rcases List.mem_cons.1 hy with ey | hy'
      · subst ey; exact absurd (hp.1 x hx') h2
      · exact pair_once hp.2 hx' hy' h1 h2
theorem Good.one (hg : S.Good) {x y : Rw} (hx : x ∈ S.rows) (hy : y ∈ S.rows) (h : x.h = y.h) : x = y := pair_once hg.nd hx hy (fun e => e h) (fun e => e h.symm)
theorem same_iff {x y : Rw} : x.same y = true ↔ x.t ≠ 0 ∧ y.t = x.t ∧ y.k = x.k ∧ y.n = x.n ∧ y.a = x.a ∧ y.b = x.b := by
  simp only [Rw.same, Bool.and_eq_true, decide_eq_true_eq]
  constructor
  · rintro ⟨⟨⟨⟨⟨a, b⟩, c⟩, d⟩, e⟩, f⟩; exact ⟨a, b, c, d, e, f⟩
  · rintro ⟨a, b, c, d, e, f⟩; exact ⟨⟨⟨⟨⟨a, b⟩, c⟩, d⟩, e⟩, f⟩
theorem Inv.key (hi : S.Inv) {x y z : Rw} (hy : y ∈ S.rows) (hz : z ∈ S.rows) (h1 : x.same y = true) (h2 : x.same z = true) : y = z := by
  rw [same_iff] at h1 h2
  have e1 : y.same z = true := same_iff.2 ⟨by rw [h1.2.1]; exact h1.1, by rw [h2.2.1, h1.2.1], by rw [h2.2.2.1, h1.2.2.1], by rw [h2.2.2.2.1, h1.2.2.2.1], by rw [h2.2.2.2.2.1, h1.2.2.2.2.1], by rw [h2.2.2.2.2.2, h1.2.2.2.2.2]⟩
  have e2 : z.same y = true := same_iff.2 ⟨by rw [h2.2.1]; exact h2.1, by rw [h2.2.1, h1.2.1], by rw [h2.2.2.1, h1.2.2.1], by rw [h2.2.2.2.1, h1.2.2.2.1], by rw [h2.2.2.2.2.1, h1.2.2.2.2.1], by rw [h2.2.2.2.2.2, h1.2.2.2.2.2]⟩
  exact pair_once hi.uniq hy hz (fun e => by rw [e1] at e; cases e) (fun e => by rw [e2] at e; cases e)
theorem Inv.find (hi : S.Inv) {x y : Rw} (hy : y ∈ S.rows) (h : x.same y = true) : S.rows.find? (fun z => x.same z) = some y := by
  cases hf : S.rows.find? (fun z => x.same z) with
  | none => rw [List.find?_eq_none] at hf; exact absurd h (hf y hy)
  | some z => rw [hi.key (List.mem_of_find?_eq_some hf) hy (List.find?_some hf) h]
structure Up (S T : Rf) : Prop where
  inv : S.Inv → T.Inv
  sub : ∀ x ∈ S.rows, x ∈ T.rows
  bads : S.bads ≤ T.bads
  len : S.rows.length ≤ T.rows.length
  draws : T.draws = S.draws
theorem Up.trans {U : Rf} (h : S.Up T) (h2 : T.Up U) : S.Up U := ⟨fun i => h2.inv (h.inv i), fun x hx => h2.sub x (h.sub x hx), Nat.le_trans h.bads h2.bads, Nat.le_trans h.len h2.len, h2.draws.trans h.draws⟩
theorem Up.refl : S.Up S := ⟨id, fun _ h => h, Nat.le_refl _, Nat.le_refl _, rfl⟩
theorem value_rows (x : Rw) : (S.value x).2.rows.length ≤ S.rows.length + 1 := by unfold value; split <;> simp [draw]
end Rf
section
variable (hS : Own β ps H L) (hL : L[k]? = some (orc q S.of)) (hle : le ps ν) (hβ : under β ν = true) (hp : before ν pos')
include hS hL hle hβ hp
end
end Go.Proofs.Ytfkgdlfponfimaa.X

/- Layer 07: tokens: their texts, issuing and checking; what the functions of token and of the reference do. -/
set_option linter.unusedVariables false
set_option linter.unusedSimpArgs false
set_option maxRecDepth 100000
namespace Go.Proofs.Ytfkgdlfponfimaa.X
open Go Go.RowKit WM
variable {ν β ps pos' : Nm} {H : Heap} {Q : AVal → Heap → Prop} {L : List Asr} {q : Nm} {k : Nat} {S T : Rf}
abbrev U64 (n : Int) : Prop := 0 ≤ n ∧ n ≤ 18446744073709551615
structure Tk where
  tn : Int
  vo : Int
  ep : Int
  ri : Int
  tag : Int
  deriving DecidableEq
def Tk.enc (x : Tk) : AVal := .agg [.int .u64 x.tn, .int .u64 x.vo, .int .u64 x.ep, .int .u64 x.ri, .int .u64 x.tag]
def Tk.fit (x : Tk) : Prop := U64 x.tn ∧ U64 x.vo ∧ U64 x.ep ∧ U64 x.ri ∧ U64 x.tag
def Tk.z : Tk := ⟨0, 0, 0, 0, 0⟩
def cFd : Cod (Int × Int × Int × Int) := cI.pair (cI.pair (cI.pair cI))
def cTk : Cod Tk := (cI.pair (cI.pair (cI.pair (cI.pair cI)))).iso (fun p => ⟨p.1, p.2.1, p.2.2.1, p.2.2.2.1, p.2.2.2.2⟩) (fun x => (x.tn, x.vo, x.ep, x.ri, x.tag)) (fun _ => rfl) (fun _ => rfl)
def fdB (t : Tk) : ByteArray := ba (cFd.enc (t.tn, t.vo, t.ep, t.ri))
def tkB (t : Tk) : ByteArray := (⟨#[116, 111, 107, 101, 110]⟩ : ByteArray) ++ fdB t
def pkB (t : Tk) : ByteArray := ba (cTk.enc t)
theorem fdB_eq (t : Tk) : ba (encU t.tn.toNat) ++ ba (encU t.vo.toNat) ++ ba (encU t.ep.toNat) ++ ba (encU t.ri.toNat) = fdB t := by
  rw [ba_append, ba_append, ba_append, List.append_assoc, List.append_assoc]; rfl
theorem pkB_eq (t : Tk) : fdB t ++ ba (encU t.tag.toNat) = pkB t := by
  rw [← fdB_eq, ba_append, ba_append, ba_append, ba_append, List.append_assoc, List.append_assoc, List.append_assoc]; rfl
theorem fdB_size {t : Tk} (h : t.fit) : (fdB t).size ≤ 40 := by
  have h1 := encU_i h.1; have h2 := encU_i h.2.1; have h3 := encU_i h.2.2.1; have h4 := encU_i h.2.2.2.1
  rw [← fdB_eq]; simp only [ByteArray.size_append]; omega
theorem pkB_size {t : Tk} (h : t.fit) : (pkB t).size ≤ 50 := by
  have h1 := encU_i h.2.2.2.2; have h2 := fdB_size h
  rw [← pkB_eq]; simp only [ByteArray.size_append]; omega
def resK (s : ByteArray) : Tk × Bool := match cTk.all s.data.toList with
  | some l => (l, true)
  | none => (Tk.z, false)
abbrev r1 (s : ByteArray) := resU s
abbrev r2 (s : ByteArray) := resU (r1 s).2.1
abbrev r3 (s : ByteArray) := resU (r2 s).2.1
abbrev r4 (s : ByteArray) := resU (r3 s).2.1
abbrev r5 (s : ByteArray) := resU (r4 s).2.1
theorem fieldsW {t : Tk} (h : t.fit) (hq : Q (.str (fdB t)) H) : CW cfg ν 84 [t.enc] H Q := by
  obtain ⟨ha, hb, hc, hd, he⟩ := h
  have h1 := encU_i ha; have h2 := encU_i hb; have h3 := encU_i hc; have h4 := encU_i hd
  rw [← fdB_eq] at hq
  refine CW_pure g84 F84 rfl ?_
  have hS0 : Own ν ν (fun _ => none) [] := Own.nil
  refine XW_sr ?_
  refine OW_boxR hS0 (le_app (p := ν) (b := [0, 0])) (under_app [0, 0] under_me) rfl rfl rfl ⟨rfl, rfl⟩ fun H1 hS1 => ?_
  replace hS1 : Own _ _ _ ([_]) := hS1
  refine OW_as rfl rfl ?_
  refine OW_nilE (e' := [_,_,_,_,_,_,_,_,_,_,_,_,_,_,_,_,_,_]) rfl ?_
  refine XW_sr ?_
  refine OW_fa rfl rfl rfl ?_
  refine OW_loadR hS1 (k := 0) rfl rfl rfl rfl rfl (by first | exact part_whole rfl rfl rfl | rfl) ?_
  refine OW_fn rfl rfl (putUi (by assumption) ?_) 
  refine OW_env (e' := [_,_,_,_,_,_,_,_,_,_,_,_,_,_,_,_,_,_]) rfl ?_
  refine OW_fa rfl rfl rfl ?_
  refine OW_loadR hS1 (k := 0) rfl rfl rfl rfl rfl (by first | exact part_whole rfl rfl rfl | rfl) ?_
  refine OW_fn rfl rfl (putUi (by assumption) ?_) 
  refine OW_env (e' := [_,_,_,_,_,_,_,_,_,_,_,_,_,_,_,_,_,_]) rfl ?_
  refine OW_bin rfl rfl rfl rfl (cat (by first | omega | assumption | (simp only [ss]; omega) | (refine Nat.le_trans (Nat.add_le_add_left (show _ ≤ 256 by decide) _) (by first | omega | (simp only [ss]; omega))) | (refine Nat.le_trans (Nat.add_le_add_right (show _ ≤ 256 by decide) _) (by first | omega | (simp only [ss]; omega))))) ?_
  refine OW_fa rfl rfl rfl ?_
  refine OW_loadR hS1 (k := 0) rfl rfl rfl rfl rfl (by first | exact part_whole rfl rfl rfl | rfl) ?_
  refine OW_env (e' := [_,_,_,_,_,_,_,_,_,_,_,_,_,_,_,_,_,_]) rfl ?_
  refine OW_fn rfl rfl (putUi (by assumption) ?_) 
  refine OW_bin rfl rfl rfl rfl (cat (by first | omega | assumption | (simp only [ss]; omega) | (refine Nat.le_trans (Nat.add_le_add_left (show _ ≤ 256 by decide) _) (by first | omega | (simp only [ss]; omega))) | (refine Nat.le_trans (Nat.add_le_add_right (show _ ≤ 256 by decide) _) (by first | omega | (simp only [ss]; omega))))) ?_
  refine OW_fa rfl rfl rfl ?_
  refine OW_env (e' := [_,_,_,_,_,_,_,_,_,_,_,_,_,_,_,_,_,_]) rfl ?_
  refine OW_loadR hS1 (k := 0) rfl rfl rfl rfl rfl (by first | exact part_whole rfl rfl rfl | rfl) ?_
  refine OW_fn rfl rfl (putUi (by assumption) ?_) 
  refine OW_bin rfl rfl rfl rfl (cat (by first | omega | assumption | (simp only [ss]; omega) | (refine Nat.le_trans (Nat.add_le_add_left (show _ ≤ 256 by decide) _) (by first | omega | (simp only [ss]; omega))) | (refine Nat.le_trans (Nat.add_le_add_right (show _ ≤ 256 by decide) _) (by first | omega | (simp only [ss]; omega))))) ?_
  refine OW_env (e' := [_,_,_,_,_,_,_,_,_,_,_,_,_,_,_,_,_,_]) rfl ?_
  refine OW_as rfl rfl ?_
  refine OW_nilE (e' := [_,_,_,_,_,_,_,_,_,_,_,_,_,_,_,_,_,_]) rfl ?_
  refine XW_ret ?_
  refine ret_ret (res1 rfl (rv_tmp rfl)) (frz1 (Q := Q) (by first | exact freeze_plain rfl | exact Ls.freeze (by assumption) | exact Ls.freeze Ls.of | exact Ls.freeze Ls.emp | exact Ls.freeze Ls.nls) ?_)
  exact hq
theorem textW {t : Tk} (h : t.fit) (hq : Q (.str (tkB t)) H) : CW cfg ν 60 [t.enc] H Q := by
  have hz := fdB_size h
  refine CW_pure g60 F60 rfl ?_
  have hS0 : Own ν ν (fun _ => none) [] := Own.nil
  refine XW_sr ?_
  refine OW_boxR hS0 (le_app (p := ν) (b := [0, 0])) (under_app [0, 0] under_me) rfl rfl rfl ⟨rfl, rfl⟩ fun H1 hS1 => ?_
  replace hS1 : Own _ _ _ ([_]) := hS1
  refine OW_as rfl rfl ?_
  refine OW_nilE (e' := [_,_,_,_,_,_]) rfl ?_
  refine XW_sr ?_
  refine OW_loadR hS1 (k := 0) rfl rfl rfl rfl rfl (by first | exact part_whole rfl rfl rfl | rfl) ?_
  refine OW_fn rfl rfl (fieldsW (by assumption) ?_) 
  refine OW_bin rfl rfl rfl rfl (cat (by show 5 + _ ≤ 9223372036854775807; omega)) ?_
  refine OW_env (e' := [_,_,_,_,_,_]) rfl ?_
  refine OW_as rfl rfl ?_
  refine OW_nilE (e' := [_,_,_,_,_,_]) rfl ?_
  refine XW_ret ?_
  refine ret_ret (res1 rfl (rv_tmp rfl)) (frz1 (Q := Q) (by first | exact freeze_plain rfl | exact Ls.freeze (by assumption) | exact Ls.freeze Ls.of | exact Ls.freeze Ls.emp | exact Ls.freeze Ls.nls) ?_)
  exact hq
theorem packW {t : Tk} (h : t.fit) (hq : Q (.str (pkB t)) H) : CW cfg ν 82 [t.enc] H Q := by
  have hz := fdB_size h
  have hh := h
  obtain ⟨ha, hb, hc, hd, he⟩ := h
  have h1 := encU_i he
  rw [← pkB_eq] at hq
  refine CW_pure g82 F82 rfl ?_
  have hS0 : Own ν ν (fun _ => none) [] := Own.nil
  refine XW_sr ?_
  refine OW_boxR hS0 (le_app (p := ν) (b := [0, 0])) (under_app [0, 0] under_me) rfl rfl rfl ⟨rfl, rfl⟩ fun H1 hS1 => ?_
  replace hS1 : Own _ _ _ ([_]) := hS1
  refine OW_as rfl rfl ?_
  refine OW_nilE (e' := [_,_,_,_,_,_,_,_,_]) rfl ?_
  refine XW_sr ?_
  refine OW_loadR hS1 (k := 0) rfl rfl rfl rfl rfl (by first | exact part_whole rfl rfl rfl | rfl) ?_
  refine OW_fn rfl rfl (fieldsW (by assumption) ?_) 
  refine OW_fa rfl rfl rfl ?_
  refine OW_env (e' := [_,_,_,_,_,_,_,_,_]) rfl ?_
  refine OW_loadR hS1 (k := 0) rfl rfl rfl rfl rfl (by first | exact part_whole rfl rfl rfl | rfl) ?_
  refine OW_fn rfl rfl (putUi (by assumption) ?_) 
  refine OW_bin rfl rfl rfl rfl (cat (by first | omega | assumption | (simp only [ss]; omega) | (refine Nat.le_trans (Nat.add_le_add_left (show _ ≤ 256 by decide) _) (by first | omega | (simp only [ss]; omega))) | (refine Nat.le_trans (Nat.add_le_add_right (show _ ≤ 256 by decide) _) (by first | omega | (simp only [ss]; omega))))) ?_
  refine OW_env (e' := [_,_,_,_,_,_,_,_,_]) rfl ?_
  refine OW_as rfl rfl ?_
  refine OW_nilE (e' := [_,_,_,_,_,_,_,_,_]) rfl ?_
  refine XW_ret ?_
  refine ret_ret (res1 rfl (rv_tmp rfl)) (frz1 (Q := Q) (by first | exact freeze_plain rfl | exact Ls.freeze (by assumption) | exact Ls.freeze Ls.of | exact Ls.freeze Ls.emp | exact Ls.freeze Ls.nls) ?_)
  exact hq
end Go.Proofs.Ytfkgdlfponfimaa.X
/- Layer 07: issuing and checking, walked. -/
set_option linter.unusedVariables false
set_option linter.unusedSimpArgs false
set_option maxRecDepth 100000
namespace Go.Proofs.Ytfkgdlfponfimaa.X
open Go Go.RowKit WM
theorem EZ38_TK2 {c : Cfg} {ν : Nm} {e : Env} {H : Heap} {all : Array Oper} {i : Nat} {Q : Env → Heap → Prop} {x0 x1 x2 x3 x4 x5 x6 x7 x8 x9 x10 x11 x12 x13 x14 x15 x16 x17 x18 x19 x20 x21 x22 x23 x24 x25 x26 x27 x28 x29 x30 x31 x32 x33 x34 x35 x36 x37 : AVal} (he : e = [x0,x1,x2,x3,x4,x5,x6,x7,x8,x9,x10,x11,x12,x13,x14,x15,x16,x17,x18,x19,x20,x21,x22,x23,x24,x25,x26,x27,x28,x29,x30,x31,x32,x33,x34,x35,x36,x37]) (h : Q [x0,x1,x2,x3,x4,x5,x6,x7,x8,x9,x10,x11,x12,x13,x14,x15,x16,x17,x18,x19,x20,x21,x22,x23,x24,x25,x26,x27,x28,x29,x30,x31,x32,x33,x34,x35,x36,x37] H) : OW c ν all [] i e H Q := by subst he; exact OW_nil h
variable {ν β ps pos' : Nm} {H : Heap} {Q : AVal → Heap → Prop} {L : List Asr} {q : Nm} {k : Nat} {S T : Rf}
def andN (w r : Int) : Int := IntKind.u64.wrap (((BitVec.ofInt 64 w &&& ~~~ BitVec.ofInt 64 r).toNat : Nat) : Int)
namespace Rf
def issue (S : Rf) (key : Int) (t : Tk) : Tk × Rf := (⟨t.tn, t.vo, t.ep, t.ri, (S.mac key (tkB t)).1⟩, (S.mac key (tkB t)).2)
def ans (b : Bool) (t : Tk) (vol ep want : Int) : Int := if b = false then 70 else if t.vo ≠ vol then 71 else if t.ep < ep then 72 else if andN want t.ri ≠ 0 then 73 else 0
def check (S : Rf) (key : Int) (t : Tk) (vol ep want : Int) : Int × Rf := (ans (S.verify key (tkB t) t.tag).1 t vol ep want, (S.verify key (tkB t) t.tag).2)
def issues (S : Rf) (key : Int) : List Tk → List Tk × Rf
  | [] => ([], S)
  | t :: l => ((S.issue key t).1 :: ((S.issue key t).2.issues key l).1, ((S.issue key t).2.issues key l).2)
theorem issues_snoc {key : Int} : ∀ (l : List Tk) (t : Tk) {S : Rf}, S.issues key (l ++ [t]) = ((S.issues key l).1 ++ [((S.issues key l).2.issue key t).1], ((S.issues key l).2.issue key t).2)
  | [], t, _ => rfl
  | a :: l, t, _ => by simp only [List.cons_append, issues]; rw [issues_snoc l t]
theorem issues_step {key : Int} {l : List Tk} {i : Nat} (h : i < l.length) : S.issues key (l.take (i + 1)) = ((S.issues key (l.take i)).1 ++ [((S.issues key (l.take i)).2.issue key l[i]).1], ((S.issues key (l.take i)).2.issue key l[i]).2) := by
  rw [← List.take_append_getElem h, issues_snoc]
theorem issues_rows {key : Int} : ∀ (l : List Tk) {S : Rf}, (S.issues key l).2.rows.length ≤ S.rows.length + l.length
  | [], _ => Nat.le_refl _
  | t :: l, S => by
    have h1 : (S.issue key t).2.rows.length ≤ S.rows.length + 1 := value_rows _
    have h2 := issues_rows (key := key) l (S := (S.issue key t).2)
    simp only [issues, List.length_cons]; omega
end Rf
theorem issueW (hS : Own β ps H L) (hL : L[k]? = some (orc q S.of)) (hle : le ps ν) (hβ : under β ν = true) (hp : before ν pos') (hn : S.rows.length ≤ 4294960000) (key : Int) (t : Tk) (ht : t.fit)
    (hq : ∀ H1, Own β pos' H1 (L.set k (orc q (S.issue key t).2.of)) → Q (S.issue key t).1.enc H1) : CW cfg ν 21 [.ptr q 0 0, .int .u64 key, .int .u64 t.tn, .int .u64 t.vo, .int .u64 t.ep, .int .u64 t.ri] H Q := by
  replace hS := hS.pick hL
  have ht0 : (⟨t.tn, t.vo, t.ep, t.ri, 0⟩ : Tk).fit := ⟨ht.1, ht.2.1, ht.2.2.1, ht.2.2.2.1, (by decide : U64 0)⟩
  refine CW_keep g21 F21 rfl ?_
  replace hS := Own.mono hS hle
  refine XW_sr ?_
  refine OW_allocR hS (le_app (p := ν) (b := [0, 0])) (under_app [0, 0] hβ) rfl rfl rfl rfl fun H1 hS1 => ?_
  replace hS1 : Own _ _ _ (_ :: _ :: L.eraseIdx k) := hS1
  refine OW_nilE (e' := [_,_,_,_,_,_,_,_,_,_,_,_,_,_,_,_,_,_,_,_,_,_,_,_,_,_]) rfl ?_
  refine XW_sr ?_
  refine OW_mv rfl rfl ?_
  refine OW_mv rfl rfl ?_
  refine OW_mv rfl rfl ?_
  refine OW_env (e' := [_,_,_,_,_,_,_,_,_,_,_,_,_,_,_,_,_,_,_,_,_,_,_,_,_,_]) rfl ?_
  refine OW_mv rfl rfl ?_
  refine OW_bd rfl rfl (v := .agg [_, _, _, _, _]) rfl ?_
  refine OW_allocR hS1 (le_lit (ν := ν) (a := [1, 0]) (b := [5, 0, 1]) (by decide)) (under_app [5, 0, 1] hβ) rfl rfl rfl rfl fun H2 hS2 => ?_
  replace hS2 : Own _ _ _ (_ :: _ :: _ :: L.eraseIdx k) := hS2
  refine OW_env (e' := [_,_,_,_,_,_,_,_,_,_,_,_,_,_,_,_,_,_,_,_,_,_,_,_,_,_]) rfl ?_
  first
  | refine OW_storeR hS2 (k := 0) rfl le_refl rfl rfl rfl rfl ⟨rfl, rfl, Nat.le_of_ble_eq_true rfl⟩ (set_whole rfl rfl) fun H3 hS3 => ?_
  | refine OW_storeR hS2 (k := 0) rfl le_refl rfl rfl rfl rfl ⟨rfl, rfl, Nat.le_of_ble_eq_true rfl⟩ (u2 := .agg [_, _, _, _, _]) rfl fun H3 hS3 => ?_
  replace hS3 : Own _ _ _ (_ :: _ :: _ :: L.eraseIdx k) := hS3
  refine OW_nilE (e' := [_,_,_,_,_,_,_,_,_,_,_,_,_,_,_,_,_,_,_,_,_,_,_,_,_,_]) rfl ?_
  refine XW_sr ?_
  refine OW_mv rfl rfl ?_
  refine OW_mv rfl rfl ?_
  refine OW_loadR hS3 (k := 0) rfl rfl rfl rfl rfl (by first | exact part_whole rfl rfl rfl | rfl) ?_
  refine OW_env (e' := [_,_,_,_,_,_,_,_,_,_,_,_,_,_,_,_,_,_,_,_,_,_,_,_,_,_]) rfl ?_
  refine OW_fn rfl rfl (textW ht0 ?_) 
  refine OW_fn rfl rfl (oMac hS3 (k := 2) rfl (le_lit (ν := ν) (a := [7, 0, 1]) (b := [4, 0, 1, 1]) (by decide)) (under_app [4, 0, 1, 1] hβ) (before_lit (ν := ν) (a := [4, 0, 1, 1]) (b := [5, 0, 1, 1]) (by decide)) (by omega) _ _ fun H4 hS4 => ?_) 
  replace hS4 : Own _ _ _ (_ :: _ :: _ :: L.eraseIdx k) := hS4
  refine OW_fa rfl rfl rfl ?_
  refine OW_env (e' := [_,_,_,_,_,_,_,_,_,_,_,_,_,_,_,_,_,_,_,_,_,_,_,_,_,_]) rfl ?_
  refine OW_storeR hS4 (k := 0) rfl (le_lit (ν := ν) (a := [5, 0, 1, 1]) (b := [6, 0, 1, 1]) (by decide)) rfl rfl rfl rfl ⟨rfl, rfl, Nat.le_of_ble_eq_true rfl⟩ (u2 := .agg [_, _, _, _, _]) rfl fun H5 hS5 => ?_
  replace hS5 : Own _ _ _ (_ :: _ :: _ :: L.eraseIdx k) := hS5
  refine OW_nilE (e' := [_,_,_,_,_,_,_,_,_,_,_,_,_,_,_,_,_,_,_,_,_,_,_,_,_,_]) rfl ?_
  refine XW_sr ?_
  refine OW_loadR hS5 (k := 0) rfl rfl rfl rfl rfl (by first | exact part_whole rfl rfl rfl | rfl) ?_
  first
  | refine OW_storeR hS5 (k := 1) rfl (le_lit (ν := ν) (a := [7, 0, 1, 1]) (b := [1, 0, 1, 1, 1]) (by decide)) rfl rfl rfl rfl ⟨rfl, rfl, Nat.le_of_ble_eq_true rfl⟩ (set_whole rfl rfl) fun H6 hS6 => ?_
  | refine OW_storeR hS5 (k := 1) rfl (le_lit (ν := ν) (a := [7, 0, 1, 1]) (b := [1, 0, 1, 1, 1]) (by decide)) rfl rfl rfl rfl ⟨rfl, rfl, Nat.le_of_ble_eq_true rfl⟩ (u2 := .agg [_, _, _, _, _]) rfl fun H6 hS6 => ?_
  replace hS6 : Own _ _ _ (_ :: _ :: _ :: L.eraseIdx k) := hS6
  refine OW_nilE (e' := [_,_,_,_,_,_,_,_,_,_,_,_,_,_,_,_,_,_,_,_,_,_,_,_,_,_]) rfl ?_
  refine XW_ret ?_
  refine ret_ret (res1 rfl (rv_cellR hS6 (k := 1) rfl rfl rfl rfl (by first | exact part_whole rfl rfl rfl | rfl))) ?_
  exact hq _ (Own.unpick (Own.drop0 (Own.drop0 (Own.mono hS6 (le_bef (bef_app (a := [2, 0, 1, 1, 1]) hp))))) hL)
theorem checkW (hS : Own β ps H L) (hL : L[k]? = some (orc q S.of)) (hle : le ps ν) (hβ : under β ν = true) (hp : before ν pos') (key : Int) (t : Tk) (ht : t.fit) (vol ep want : Int)
    (hq : ∀ H1, Own β pos' H1 (L.set k (orc q (S.check key t vol ep want).2.of)) → Q (.int .i64 (S.check key t vol ep want).1) H1) : CW cfg ν 86 [.ptr q 0 0, .int .u64 key, t.enc, .int .u64 vol, .int .u64 ep, .int .u64 want] H Q := by
  replace hS := hS.pick hL
  refine CW_keep g86 F86 rfl ?_
  replace hS := Own.mono hS hle
  refine XW_sr ?_
  refine OW_boxR hS (le_app (p := ν) (b := [0, 0])) (under_app [0, 0] hβ) rfl rfl rfl ⟨rfl, rfl⟩ fun H1 hS1 => ?_
  replace hS1 : Own _ _ _ (_ :: _ :: L.eraseIdx k) := hS1
  refine OW_as rfl rfl ?_
  refine EZ38_TK2 rfl ?_
  refine XW_seq ?_
  refine XW_block ?_
  refine XW_sr ?_
  refine OW_mv rfl rfl ?_
  refine OW_mv rfl rfl ?_
  refine OW_loadR hS1 (k := 0) rfl rfl rfl rfl rfl (by first | exact part_whole rfl rfl rfl | rfl) ?_
  refine OW_env (e' := [_,_,_,_,_,_,_,_,_,_,_,_,_,_,_,_,_,_,_,_,_,_,_,_,_,_,_,_,_,_,_,_,_,_,_,_,_,_]) rfl ?_
  refine OW_fn rfl rfl (textW (by assumption) ?_) 
  refine OW_fa rfl rfl rfl ?_
  refine OW_loadR hS1 (k := 0) rfl rfl rfl rfl rfl (by first | exact part_whole rfl rfl rfl | rfl) ?_
  refine OW_env (e' := [_,_,_,_,_,_,_,_,_,_,_,_,_,_,_,_,_,_,_,_,_,_,_,_,_,_,_,_,_,_,_,_,_,_,_,_,_,_]) rfl ?_
  refine OW_fn rfl rfl (oVerify hS1 (k := 1) rfl (le_lit (ν := ν) (a := [1, 0]) (b := [6, 0, 0, 1]) (by decide)) (under_app [6, 0, 0, 1] hβ) (before_lit (ν := ν) (a := [6, 0, 0, 1]) (b := [7, 0, 0, 1]) (by decide)) _ _ _ fun H2 hS2 => ?_) 
  replace hS2 : Own _ _ _ (_ :: _ :: L.eraseIdx k) := hS2
  refine OW_un rfl rfl rfl ?_
  refine OW_as rfl rfl ?_
  refine EZ38_TK2 rfl ?_
  refine XW_if rfl (fun h1 => ?_) (fun h1 => ?_)
  ·try simp only [bs] at h1
   refine XW_sr ?_
   refine OW_as rfl rfl ?_
   refine EZ38_TK2 rfl ?_
   refine XW_ret ?_
   refine block_ret ?_
   refine then_ret ?_
   refine ret_ret (res1 rfl (rv_tmp rfl)) ?_
   refine qcast (hq _ (Own.unpick (Own.drop0 (Own.mono hS2 (le_bef (bef_app (a := [7, 0, 0, 1]) hp)))) hL)) ?_; simp [Rf.check, Rf.ans, h1]
  ·try simp only [bs] at h1
   refine XW_sr ?_
   refine OW_fa rfl rfl rfl ?_
   refine OW_loadR hS2 (k := 0) rfl rfl rfl rfl rfl (by first | exact part_whole rfl rfl rfl | rfl) ?_
   refine OW_mv rfl rfl ?_
   refine OW_env (e' := [_,_,_,_,_,_,_,_,_,_,_,_,_,_,_,_,_,_,_,_,_,_,_,_,_,_,_,_,_,_,_,_,_,_,_,_,_,_]) rfl ?_
   refine OW_bin rfl rfl rfl rfl rfl ?_
   refine OW_as rfl rfl ?_
   refine EZ38_TK2 rfl ?_
   refine XW_if rfl (fun h3 => ?_) (fun h3 => ?_)
   ·try simp only [bs] at h3
    refine XW_sr ?_
    refine OW_as rfl rfl ?_
    refine EZ38_TK2 rfl ?_
    refine XW_ret ?_
    refine block_ret ?_
    refine then_ret ?_
    refine ret_ret (res1 rfl (rv_tmp rfl)) ?_
    refine qcast (hq _ (Own.unpick (Own.drop0 (Own.mono hS2 (le_bef (bef_app (a := [7, 0, 0, 1]) hp)))) hL)) ?_; simp [Rf.check, Rf.ans, h1, h3]
   ·try simp only [bs] at h3
    refine XW_sr ?_
    refine OW_fa rfl rfl rfl ?_
    refine OW_loadR hS2 (k := 0) rfl rfl rfl rfl rfl (by first | exact part_whole rfl rfl rfl | rfl) ?_
    refine OW_mv rfl rfl ?_
    refine OW_env (e' := [_,_,_,_,_,_,_,_,_,_,_,_,_,_,_,_,_,_,_,_,_,_,_,_,_,_,_,_,_,_,_,_,_,_,_,_,_,_]) rfl ?_
    refine OW_bin rfl rfl rfl rfl rfl ?_
    refine OW_as rfl rfl ?_
    refine EZ38_TK2 rfl ?_
    refine XW_if rfl (fun h5 => ?_) (fun h5 => ?_)
    ·try simp only [bs] at h5
     refine XW_sr ?_
     refine OW_as rfl rfl ?_
     refine EZ38_TK2 rfl ?_
     refine XW_ret ?_
     refine block_ret ?_
     refine then_ret ?_
     refine ret_ret (res1 rfl (rv_tmp rfl)) ?_
     refine qcast (hq _ (Own.unpick (Own.drop0 (Own.mono hS2 (le_bef (bef_app (a := [7, 0, 0, 1]) hp)))) hL)) ?_; simp [Rf.check, Rf.ans, h1, h3, h5]
    ·try simp only [bs] at h5
     refine XW_sr ?_
     refine OW_mv rfl rfl ?_
     refine OW_fa rfl rfl rfl ?_
     refine OW_loadR hS2 (k := 0) rfl rfl rfl rfl rfl (by first | exact part_whole rfl rfl rfl | rfl) ?_
     refine OW_env (e' := [_,_,_,_,_,_,_,_,_,_,_,_,_,_,_,_,_,_,_,_,_,_,_,_,_,_,_,_,_,_,_,_,_,_,_,_,_,_]) rfl ?_
     refine OW_bin rfl rfl rfl rfl rfl ?_
     refine OW_bin rfl rfl rfl rfl rfl ?_
     refine OW_as rfl rfl ?_
     refine EZ38_TK2 rfl ?_
     refine XW_if rfl (fun h7 => ?_) (fun h7 => ?_)
     ·try simp only [bs] at h7
      refine XW_sr ?_
      refine OW_as rfl rfl ?_
      refine EZ38_TK2 rfl ?_
      refine XW_ret ?_
      refine block_ret ?_
      refine then_ret ?_
      refine ret_ret (res1 rfl (rv_tmp rfl)) ?_
      refine qcast (hq _ (Own.unpick (Own.drop0 (Own.mono hS2 (le_bef (bef_app (a := [7, 0, 0, 1]) hp)))) hL)) ?_; replace h7 : andN want t.ri ≠ 0 := h7; simp [Rf.check, Rf.ans, h1, h3, h5, h7]
     ·try simp only [bs] at h7
      refine XW_skip ?_
      refine block_norm ?_
      refine then_norm ?_
      refine XW_sr ?_
      refine OW_as rfl rfl ?_
      refine EZ38_TK2 rfl ?_
      refine XW_ret ?_
      refine ret_ret (res1 rfl (rv_tmp rfl)) ?_
      refine qcast (hq _ (Own.unpick (Own.drop0 (Own.mono hS2 (le_bef (bef_app (a := [7, 0, 0, 1]) hp)))) hL)) ?_; replace h7 : andN want t.ri = 0 := h7; simp [Rf.check, Rf.ans, h1, h3, h5, h7]
structure Us where
  d : List Int
  key : Int
  iss : List Tk
def Us.enc (x : Us) : AVal := .agg [.lst (x.d.map (fun a : Int => AVal.int .u64 a)), .int .u64 x.key, .lst (x.iss.map Tk.enc)]
structure Us.good (x : Us) : Prop where
  d : x.d.length ≤ 1048576
  iss : x.iss.length ≤ 1048576
  fit : ∀ t ∈ x.iss, t.fit
def Us.ts (x : Us) : List Tk × Rf := (Rf.new x.d).issues x.key (x.iss.take 100)
theorem Us.stop {x : Us} {i : Nat} (hi : i ≤ 100) (h : x.iss.length ≤ i ∨ 100 ≤ i) : (Rf.new x.d).issues x.key (x.iss.take i) = x.ts := by
  unfold Us.ts
  rcases h with h | h
  · rw [List.take_of_length_le h, List.take_of_length_le (by omega)]
  · obtain rfl : i = 100 := by omega
    rfl
end Go.Proofs.Ytfkgdlfponfimaa.X
