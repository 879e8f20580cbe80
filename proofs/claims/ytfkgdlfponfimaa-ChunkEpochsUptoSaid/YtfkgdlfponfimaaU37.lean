import Derived.Test.YtfkgdlfponfimaaU36
import Derived.Test.YtfkgdlfponfimaaU34
import Derived.Test.YtfkgdlfponfimaaU33
import Derived.KernelRfl
/- Layer 13: Check, Is, IsVol. -/
set_option linter.unusedVariables false
set_option linter.unusedSimpArgs false
set_option maxRecDepth 100000
namespace Go.Proofs.Ytfkgdlfponfimaa.X
open Go Go.RowKit WM
theorem EN38_CK17 {c : Cfg} {ν : Nm} {e : Env} {H : Heap} {all : Array Oper} {r : List Oper} {i : Nat} {Q : Env → Heap → Prop} {x0 x1 x2 x3 x4 x5 x6 x7 x8 x9 x10 x11 x12 x13 x14 x15 x16 x17 x18 x19 x20 x21 x22 x23 x24 x25 x26 x27 x28 x29 x30 x31 x32 x33 x34 x35 x36 x37 : AVal} (he : e = [x0,x1,x2,x3,x4,x5,x6,x7,x8,x9,x10,x11,x12,x13,x14,x15,x16,x17,x18,x19,x20,x21,x22,x23,x24,x25,x26,x27,x28,x29,x30,x31,x32,x33,x34,x35,x36,x37]) (h : OW c ν all r i [x0,x1,x2,x3,x4,x5,x6,x7,x8,x9,x10,x11,x12,x13,x14,x15,x16,x17,x18,x19,x20,x21,x22,x23,x24,x25,x26,x27,x28,x29,x30,x31,x32,x33,x34,x35,x36,x37] H Q) : OW c ν all r i e H Q := by subst he; exact h
theorem EN48_CK17 {c : Cfg} {ν : Nm} {e : Env} {H : Heap} {all : Array Oper} {r : List Oper} {i : Nat} {Q : Env → Heap → Prop} {x0 x1 x2 x3 x4 x5 x6 x7 x8 x9 x10 x11 x12 x13 x14 x15 x16 x17 x18 x19 x20 x21 x22 x23 x24 x25 x26 x27 x28 x29 x30 x31 x32 x33 x34 x35 x36 x37 x38 x39 x40 x41 x42 x43 x44 x45 x46 x47 : AVal} (he : e = [x0,x1,x2,x3,x4,x5,x6,x7,x8,x9,x10,x11,x12,x13,x14,x15,x16,x17,x18,x19,x20,x21,x22,x23,x24,x25,x26,x27,x28,x29,x30,x31,x32,x33,x34,x35,x36,x37,x38,x39,x40,x41,x42,x43,x44,x45,x46,x47]) (h : OW c ν all r i [x0,x1,x2,x3,x4,x5,x6,x7,x8,x9,x10,x11,x12,x13,x14,x15,x16,x17,x18,x19,x20,x21,x22,x23,x24,x25,x26,x27,x28,x29,x30,x31,x32,x33,x34,x35,x36,x37,x38,x39,x40,x41,x42,x43,x44,x45,x46,x47] H Q) : OW c ν all r i e H Q := by subst he; exact h
theorem EN71_CK17 {c : Cfg} {ν : Nm} {e : Env} {H : Heap} {all : Array Oper} {r : List Oper} {i : Nat} {Q : Env → Heap → Prop} {x0 x1 x2 x3 x4 x5 x6 x7 x8 x9 x10 x11 x12 x13 x14 x15 x16 x17 x18 x19 x20 x21 x22 x23 x24 x25 x26 x27 x28 x29 x30 x31 x32 x33 x34 x35 x36 x37 x38 x39 x40 x41 x42 x43 x44 x45 x46 x47 x48 x49 x50 x51 x52 x53 x54 x55 x56 x57 x58 x59 x60 x61 x62 x63 x64 x65 x66 x67 x68 x69 x70 : AVal} (he : e = [x0,x1,x2,x3,x4,x5,x6,x7,x8,x9,x10,x11,x12,x13,x14,x15,x16,x17,x18,x19,x20,x21,x22,x23,x24,x25,x26,x27,x28,x29,x30,x31,x32,x33,x34,x35,x36,x37,x38,x39,x40,x41,x42,x43,x44,x45,x46,x47,x48,x49,x50,x51,x52,x53,x54,x55,x56,x57,x58,x59,x60,x61,x62,x63,x64,x65,x66,x67,x68,x69,x70]) (h : OW c ν all r i [x0,x1,x2,x3,x4,x5,x6,x7,x8,x9,x10,x11,x12,x13,x14,x15,x16,x17,x18,x19,x20,x21,x22,x23,x24,x25,x26,x27,x28,x29,x30,x31,x32,x33,x34,x35,x36,x37,x38,x39,x40,x41,x42,x43,x44,x45,x46,x47,x48,x49,x50,x51,x52,x53,x54,x55,x56,x57,x58,x59,x60,x61,x62,x63,x64,x65,x66,x67,x68,x69,x70] H Q) : OW c ν all r i e H Q := by subst he; exact h
theorem EZ48_CK17 {c : Cfg} {ν : Nm} {e : Env} {H : Heap} {all : Array Oper} {i : Nat} {Q : Env → Heap → Prop} {x0 x1 x2 x3 x4 x5 x6 x7 x8 x9 x10 x11 x12 x13 x14 x15 x16 x17 x18 x19 x20 x21 x22 x23 x24 x25 x26 x27 x28 x29 x30 x31 x32 x33 x34 x35 x36 x37 x38 x39 x40 x41 x42 x43 x44 x45 x46 x47 : AVal} (he : e = [x0,x1,x2,x3,x4,x5,x6,x7,x8,x9,x10,x11,x12,x13,x14,x15,x16,x17,x18,x19,x20,x21,x22,x23,x24,x25,x26,x27,x28,x29,x30,x31,x32,x33,x34,x35,x36,x37,x38,x39,x40,x41,x42,x43,x44,x45,x46,x47]) (h : Q [x0,x1,x2,x3,x4,x5,x6,x7,x8,x9,x10,x11,x12,x13,x14,x15,x16,x17,x18,x19,x20,x21,x22,x23,x24,x25,x26,x27,x28,x29,x30,x31,x32,x33,x34,x35,x36,x37,x38,x39,x40,x41,x42,x43,x44,x45,x46,x47] H) : OW c ν all [] i e H Q := by subst he; exact OW_nil h
theorem EZ71_CK17 {c : Cfg} {ν : Nm} {e : Env} {H : Heap} {all : Array Oper} {i : Nat} {Q : Env → Heap → Prop} {x0 x1 x2 x3 x4 x5 x6 x7 x8 x9 x10 x11 x12 x13 x14 x15 x16 x17 x18 x19 x20 x21 x22 x23 x24 x25 x26 x27 x28 x29 x30 x31 x32 x33 x34 x35 x36 x37 x38 x39 x40 x41 x42 x43 x44 x45 x46 x47 x48 x49 x50 x51 x52 x53 x54 x55 x56 x57 x58 x59 x60 x61 x62 x63 x64 x65 x66 x67 x68 x69 x70 : AVal} (he : e = [x0,x1,x2,x3,x4,x5,x6,x7,x8,x9,x10,x11,x12,x13,x14,x15,x16,x17,x18,x19,x20,x21,x22,x23,x24,x25,x26,x27,x28,x29,x30,x31,x32,x33,x34,x35,x36,x37,x38,x39,x40,x41,x42,x43,x44,x45,x46,x47,x48,x49,x50,x51,x52,x53,x54,x55,x56,x57,x58,x59,x60,x61,x62,x63,x64,x65,x66,x67,x68,x69,x70]) (h : Q [x0,x1,x2,x3,x4,x5,x6,x7,x8,x9,x10,x11,x12,x13,x14,x15,x16,x17,x18,x19,x20,x21,x22,x23,x24,x25,x26,x27,x28,x29,x30,x31,x32,x33,x34,x35,x36,x37,x38,x39,x40,x41,x42,x43,x44,x45,x46,x47,x48,x49,x50,x51,x52,x53,x54,x55,x56,x57,x58,x59,x60,x61,x62,x63,x64,x65,x66,x67,x68,x69,x70] H) : OW c ν all [] i e H Q := by subst he; exact OW_nil h
variable {ν : Nm} {H : Heap} {Q : AVal → Heap → Prop} {c d : Ck}
def okV (x : Vo) : Prop := 0 ≤ x.de ∧ x.de ≤ 4 ∧ x.lv.length = 2 ^ x.de.toNat ∧ ∀ s ∈ x.lv, s.size ≤ 64
instance : DecidablePred okV := fun x => by unfold okV; infer_instance
def chkC (c : Ck) : Bool := decide (c.vs.length ≤ 8 ∧ (∀ x ∈ c.vs, okV x) ∧ (c.vs.map Vo.vo).Nodup) && SE.chkL c.ss && chkQ c.qs
theorem nodup_atP {t : List Vo} (h : (t.map Vo.vo).Nodup) {i : Nat} (hi : i < t.length) : atP t[i].vo t = i := by
  rcases atP_cases t[i].vo t with ⟨_, h2⟩ | ⟨k, hk, h1, h3⟩
  · exact absurd rfl (h2 t[i] (List.getElem_mem hi))
  · rw [h1]
    have := (List.getElem_inj (i := k) (j := i) (h₀ := by simpa using hk) (h₁ := by simpa using hi) h).1 (by simpa using h3)
    rw [this]
theorem atP_nodup {t : List Vo} (h : ∀ i (hi : i < t.length), atP t[i].vo t = i) : (t.map Vo.vo).Nodup := by
  rw [List.Nodup, List.pairwise_iff_getElem]
  intro i j hi hj hij he
  simp only [List.length_map] at hi hj
  simp only [List.getElem_map] at he
  have h1 := h i hi
  have h2 := h j hj
  rw [he] at h1
  omega
theorem chk_vs {t : List Vo} (hl : t.length ≤ 8) (h : ∀ i (hi : i < t.length), atP t[i].vo t = i ∧ okV t[i]) : decide (t.length ≤ 8 ∧ (∀ x ∈ t, okV x) ∧ (t.map Vo.vo).Nodup) = true :=
  decide_eq_true ⟨hl, fun x hx => by obtain ⟨i, hi, rfl⟩ := List.getElem_of_mem hx; exact (h i hi).2, atP_nodup fun i hi => (h i hi).1⟩
theorem chk_vsF {t : List Vo} {i : Nat} (hi : i < t.length) (h : atP t[i].vo t ≠ i ∨ ¬ okV t[i]) : decide (t.length ≤ 8 ∧ (∀ x ∈ t, okV x) ∧ (t.map Vo.vo).Nodup) = false :=
  decide_eq_false fun ⟨_, h1, h2⟩ => h.elim (fun h => h (nodup_atP h2 hi)) (fun h => h (h1 _ (List.getElem_mem hi)))
theorem chkF {i : Nat} (hi : i < c.vs.length) (h : atP c.vs[i].vo c.vs ≠ i ∨ ¬ okV c.vs[i]) : chkC c = false := by unfold chkC; rw [chk_vsF hi h]; rfl
structure Ck.sz (c : Ck) : Prop where
  v : c.vs.length ≤ 1048577
  s : c.ss.length ≤ 1048577
  q : c.qs.length ≤ 1048577
  l : ∀ x ∈ c.vs, x.lv.length ≤ 1048577
theorem power_c {n : Int} (h : 0 ≤ n ∧ n ≤ 4) (hq : Q (.int .i64 ((2 ^ n.toNat : Nat) : Int)) H) : CW cfg ν 23 [.int .i64 n] H Q := by
  obtain ⟨k, rfl⟩ := Int.eq_ofNat_of_zero_le h.1
  rcases (by omega : k = 0 ∨ k = 1 ∨ k = 2 ∨ k = 3 ∨ k = 4) with rfl | rfl | rfl | rfl | rfl <;> exact ⟨60, _, _, by kernel_rfl, hq⟩
theorem rk_check (hz : c.sz) (hq : Q (.bool (chkC c)) H) : CW cfg ν 7 [c.enc] H Q := by
  obtain ⟨hz1, hz2, hz3, hz4⟩ := hz
  refine CW_pure g7 F7 rfl ?_
  have hS0 : Own ν ν (fun _ => none) [] := Own.nil
  refine XW_sr ?_
  refine OW_boxR hS0 (le_app (p := ν) (b := [0, 0])) (under_app [0, 0] under_me) rfl rfl rfl ⟨rfl, rfl⟩ fun H1 hS1 => ?_
  replace hS1 : Own _ _ _ ([_]) := hS1
  refine OW_as rfl rfl ?_
  refine EZ71_CK17 rfl ?_
  refine XW_seq ?_
  refine XW_sr ?_
  refine OW_as rfl rfl ?_
  refine EZ71_CK17 rfl ?_
  refine XW_block ?_
  refine XW_whileN (I := fun ν' mm ee H' => ∃ (i : Nat), mm = c.vs.length - i ∧ under (1 :: 0 :: 1 :: ν) ν' = true ∧ Own ν ν' H' ([row (0 :: 0 :: ν) 3 [.agg [.lst (c.vs.map Vo.enc), .lst (c.ss.map SE.Se.enc), .lst (c.qs.map Qu.enc)]]]) ∧ (i ≤ c.vs.length ∧ ∀ j (hj : j < c.vs.length), j < i → atP c.vs[j].vo c.vs = j ∧ okV c.vs[j]) ∧ ∃ g : Nat → AVal, ee = [g 0, .ptr (0 :: 0 :: ν) 0 0, g 2, .int .i64 i, g 4, g 5, g 6, g 7, g 8, g 9, g 10, g 11, g 12, g 13, g 14, g 15, g 16, g 17, g 18, g 19, g 20, g 21, g 22, g 23, g 24, g 25, g 26, g 27, g 28, g 29, g 30, g 31, g 32, g 33, g 34, g 35, g 36, g 37, g 38, g 39, g 40, g 41, g 42, g 43, g 44, g 45, g 46, g 47, g 48, g 49, g 50, g 51, g 52, g 53, g 54, g 55, g 56, g 57, g 58, g 59, g 60, g 61, g 62, g 63, g 64, g 65, g 66, g 67, g 68, g 69, g 70]) ?_ _ _ _ _ ⟨0, rfl, under_me, Own.cast (Own.mono (hS1) (le_lit (ν := ν) (a := [1, 0]) (b := [1, 0, 1]) (by decide))) (rfl), (⟨by omega, fun j hj h => by omega⟩), env_g rfl⟩
  rintro ν1 mm ee H2 ⟨i, rfl, hU1, hS2, ⟨hi, hI⟩, g1, rfl⟩
  refine XW_seq ?_
  refine XW_sr ?_
  refine OW_mv rfl rfl ?_
  refine OW_fa rfl rfl rfl ?_
  refine OW_loadR hS2 (k := 0) rfl rfl rfl rfl rfl (by first | exact part_whole rfl rfl rfl | rfl) ?_
  refine EN71_CK17 rfl ?_
  first
  | refine OW_lenL rfl rfl (by first | assumption | exact Ls.of | exact Ls.emp | exact Ls.nls) rfl rfl rfl (by first | exact List.length_map _ | rfl) ?_
  | refine OW_bi rfl rfl rfl ?_
  refine OW_bin rfl rfl rfl rfl rfl ?_
  refine EZ71_CK17 rfl ?_
  refine XW_if rfl (fun h2 => ?_) (fun h2 => ?_)
  ·try simp only [bs] at h2
   refine XW_skip ?_
   refine then_norm ?_
   refine XW_seq ?_
   refine XW_block ?_
   refine XW_sr ?_
   have hlz := hz4 c.vs[i] (List.getElem_mem (by omega))
   refine OW_fa rfl rfl rfl ?_
   refine OW_loadR hS2 (k := 0) rfl rfl rfl rfl rfl (by first | exact part_whole rfl rfl rfl | rfl) ?_
   refine OW_mv rfl rfl ?_
   refine EN71_CK17 rfl ?_
   first
   | refine OW_iaL rfl rfl rfl Ls.of rfl rfl rfl (by first | rfl | exact (Int.toNat_of_nonneg (by omega)).symm) (by first | assumption | exact at_map (by first | assumption | omega) | exact at_lst (by omega) | rfl) rfl ?_
   | refine OW_iaL rfl rfl rfl (by assumption) rfl rfl rfl (by first | rfl | exact (Int.toNat_of_nonneg (by omega)).symm) (by first | assumption | exact at_map (by first | assumption | omega) | exact at_lst (by omega) | rfl) rfl ?_
   refine OW_loadE rfl rfl rfl (by first | exact part_whole rfl rfl rfl | rfl) ?_
   refine OW_allocR hS2 (le_app (p := ν1) (b := [5, 0, 0, 1, 0])) (under_app [5, 0, 0, 1, 0] (under_trans (under_app [1, 0, 1] under_me) hU1)) rfl rfl rfl rfl fun H3 hS3 => ?_
   replace hS3 : Own _ _ _ ([_, _]) := hS3
   refine EN71_CK17 rfl ?_
   first
   | refine OW_storeR hS3 (k := 0) rfl le_refl rfl rfl rfl rfl ⟨rfl, rfl, Nat.le_of_ble_eq_true rfl⟩ (set_whole rfl rfl) fun H4 hS4 => ?_
   | refine OW_storeR hS3 (k := 0) rfl le_refl rfl rfl rfl rfl ⟨rfl, rfl, Nat.le_of_ble_eq_true rfl⟩ (u2 := .agg [_, _, _, _, _]) rfl fun H4 hS4 => ?_
   replace hS4 : Own _ _ _ ([_, _]) := hS4
   refine EZ71_CK17 rfl ?_
   refine XW_seq ?_
   refine XW_sr ?_
   refine OW_loadR hS4 (k := 1) rfl rfl rfl rfl rfl (by first | exact part_whole rfl rfl rfl | rfl) ?_
   refine OW_fa rfl rfl rfl ?_
   refine OW_loadR hS4 (k := 0) rfl rfl rfl rfl rfl (by first | exact part_whole rfl rfl rfl | rfl) ?_
   refine EN71_CK17 rfl ?_
   refine OW_fn rfl rfl (rk_find (by omega) _ ?_) 
   refine OW_mv rfl rfl ?_
   refine OW_bin rfl rfl rfl rfl rfl ?_
   refine EN71_CK17 rfl ?_
   refine OW_mv rfl rfl ?_
   refine OW_split (tt := 24) rfl (fun g5_7 => ?_) (fun g5_7 => ?_)
   ·try simp only [bs] at g5_7
    refine OW_no rfl ?_
    refine EN71_CK17 rfl ?_
    refine OW_no rfl ?_
    refine OW_no rfl ?_
    refine OW_pick rfl rfl rfl ?_
    refine EN71_CK17 rfl ?_
    refine OW_mv rfl rfl ?_
    refine OW_no rfl ?_
    refine OW_no rfl ?_
    refine EN71_CK17 rfl ?_
    refine OW_no rfl ?_
    refine OW_pick rfl rfl rfl ?_
    refine OW_mv rfl rfl ?_
    refine EN71_CK17 rfl ?_
    refine OW_no rfl ?_
    refine OW_no rfl ?_
    refine OW_no rfl ?_
    refine EN71_CK17 rfl ?_
    refine OW_no rfl ?_
    refine OW_no rfl ?_
    refine OW_no rfl ?_
    refine EN71_CK17 rfl ?_
    refine OW_no rfl ?_
    refine OW_pick rfl rfl rfl ?_
    refine EZ71_CK17 rfl ?_
    refine XW_yes rfl rfl ?_
    refine XW_sr ?_
    refine OW_as rfl rfl ?_
    refine EZ71_CK17 rfl ?_
    refine XW_ret ?_
    refine then_ret ?_
    refine block_ret ?_
    refine then_ret ?_
    refine block_ret ?_
    refine then_ret ?_
    refine ret_ret (res1 rfl (rv_tmp rfl)) (frz1 (Q := Q) (by first | exact freeze_plain rfl | exact Ls.freeze (by assumption) | exact Ls.freeze Ls.of | exact Ls.freeze Ls.emp | exact Ls.freeze Ls.nls) ?_)
    refine qcast hq ?_
    congr 1
    first | exact (chkF (i := i) (by omega) (.inl (by omega))).symm | exact (chkF (i := i) (by omega) (.inr (fun ⟨a1, a2, a3, _⟩ => by omega))).symm | exact (chkF (i := i) (by omega) (.inr (fun h => by have := h.2.2.2 _ (List.getElem_mem (l := c.vs[i].lv) (n := k) (by omega)); omega))).symm | (unfold chkC; rw [decide_eq_false (fun e => by have := e.1; omega)]; rfl) | (unfold chkC; rw [chk_vs (by omega) (fun j hj => hI j hj (by omega))]; simp [*])
   ·try simp only [bs] at g5_7
    refine OW_fa rfl rfl rfl ?_
    refine EN71_CK17 rfl ?_
    refine OW_loadR hS4 (k := 0) rfl rfl rfl rfl rfl (by first | exact part_whole rfl rfl rfl | rfl) ?_
    refine OW_bin rfl rfl rfl rfl rfl ?_
    refine OW_pick rfl rfl rfl ?_
    refine EN71_CK17 rfl ?_
    refine OW_mv rfl rfl ?_
    refine OW_split (tt := 29) rfl (fun g5_12 => ?_) (fun g5_12 => ?_)
    ·try simp only [bs] at g5_12
     refine OW_no rfl ?_
     refine EN71_CK17 rfl ?_
     refine OW_no rfl ?_
     refine OW_no rfl ?_
     refine OW_pick rfl rfl rfl ?_
     refine EN71_CK17 rfl ?_
     refine OW_mv rfl rfl ?_
     refine OW_no rfl ?_
     refine OW_no rfl ?_
     refine EN71_CK17 rfl ?_
     refine OW_no rfl ?_
     refine OW_no rfl ?_
     refine OW_no rfl ?_
     refine EN71_CK17 rfl ?_
     refine OW_no rfl ?_
     refine OW_no rfl ?_
     refine OW_pick rfl rfl rfl ?_
     refine EZ71_CK17 rfl ?_
     refine XW_yes rfl rfl ?_
     refine XW_sr ?_
     refine OW_as rfl rfl ?_
     refine EZ71_CK17 rfl ?_
     refine XW_ret ?_
     refine then_ret ?_
     refine block_ret ?_
     refine then_ret ?_
     refine block_ret ?_
     refine then_ret ?_
     refine ret_ret (res1 rfl (rv_tmp rfl)) (frz1 (Q := Q) (by first | exact freeze_plain rfl | exact Ls.freeze (by assumption) | exact Ls.freeze Ls.of | exact Ls.freeze Ls.emp | exact Ls.freeze Ls.nls) ?_)
     refine qcast hq ?_
     congr 1
     first | exact (chkF (i := i) (by omega) (.inl (by omega))).symm | exact (chkF (i := i) (by omega) (.inr (fun ⟨a1, a2, a3, _⟩ => by omega))).symm | exact (chkF (i := i) (by omega) (.inr (fun h => by have := h.2.2.2 _ (List.getElem_mem (l := c.vs[i].lv) (n := k) (by omega)); omega))).symm | (unfold chkC; rw [decide_eq_false (fun e => by have := e.1; omega)]; rfl) | (unfold chkC; rw [chk_vs (by omega) (fun j hj => hI j hj (by omega))]; simp [*])
    ·try simp only [bs] at g5_12
     refine OW_fa rfl rfl rfl ?_
     refine EN71_CK17 rfl ?_
     refine OW_loadR hS4 (k := 0) rfl rfl rfl rfl rfl (by first | exact part_whole rfl rfl rfl | rfl) ?_
     refine OW_bin rfl rfl rfl rfl rfl ?_
     refine OW_pick rfl rfl rfl ?_
     refine EN71_CK17 rfl ?_
     refine OW_mv rfl rfl ?_
     refine OW_split (tt := 34) rfl (fun g5_17 => ?_) (fun g5_17 => ?_)
     ·try simp only [bs] at g5_17
      refine OW_no rfl ?_
      refine EN71_CK17 rfl ?_
      refine OW_no rfl ?_
      refine OW_no rfl ?_
      refine OW_no rfl ?_
      refine EN71_CK17 rfl ?_
      refine OW_no rfl ?_
      refine OW_no rfl ?_
      refine OW_no rfl ?_
      refine EN71_CK17 rfl ?_
      refine OW_pick rfl rfl rfl ?_
      refine EZ71_CK17 rfl ?_
      refine XW_yes rfl rfl ?_
      refine XW_sr ?_
      refine OW_as rfl rfl ?_
      refine EZ71_CK17 rfl ?_
      refine XW_ret ?_
      refine then_ret ?_
      refine block_ret ?_
      refine then_ret ?_
      refine block_ret ?_
      refine then_ret ?_
      refine ret_ret (res1 rfl (rv_tmp rfl)) (frz1 (Q := Q) (by first | exact freeze_plain rfl | exact Ls.freeze (by assumption) | exact Ls.freeze Ls.of | exact Ls.freeze Ls.emp | exact Ls.freeze Ls.nls) ?_)
      refine qcast hq ?_
      congr 1
      first | exact (chkF (i := i) (by omega) (.inl (by omega))).symm | exact (chkF (i := i) (by omega) (.inr (fun ⟨a1, a2, a3, _⟩ => by omega))).symm | exact (chkF (i := i) (by omega) (.inr (fun h => by have := h.2.2.2 _ (List.getElem_mem (l := c.vs[i].lv) (n := k) (by omega)); omega))).symm | (unfold chkC; rw [decide_eq_false (fun e => by have := e.1; omega)]; rfl) | (unfold chkC; rw [chk_vs (by omega) (fun j hj => hI j hj (by omega))]; simp [*])
     ·try simp only [bs] at g5_17
      refine OW_fa rfl rfl rfl ?_
      refine EN71_CK17 rfl ?_
      refine OW_loadR hS4 (k := 0) rfl rfl rfl rfl rfl (by first | exact part_whole rfl rfl rfl | rfl) ?_
      first
      | refine OW_lenL rfl rfl (by first | assumption | exact Ls.of | exact Ls.emp | exact Ls.nls) rfl rfl rfl (by first | exact List.length_map _ | rfl) ?_
      | refine OW_bi rfl rfl rfl ?_
      refine OW_fa rfl rfl rfl ?_
      refine EN71_CK17 rfl ?_
      refine OW_loadR hS4 (k := 0) rfl rfl rfl rfl rfl (by first | exact part_whole rfl rfl rfl | rfl) ?_
      refine OW_fn rfl rfl (power_c (by omega) ?_) 
      refine OW_bin rfl rfl rfl rfl rfl ?_
      refine EN71_CK17 rfl ?_
      refine OW_pick rfl rfl rfl ?_
      refine EZ71_CK17 rfl ?_
      refine XW_if rfl (fun h5 => ?_) (fun h5 => ?_)
      ·try simp only [bs] at h5
       refine XW_sr ?_
       refine OW_as rfl rfl ?_
       refine EZ71_CK17 rfl ?_
       refine XW_ret ?_
       refine then_ret ?_
       refine block_ret ?_
       refine then_ret ?_
       refine block_ret ?_
       refine then_ret ?_
       refine ret_ret (res1 rfl (rv_tmp rfl)) (frz1 (Q := Q) (by first | exact freeze_plain rfl | exact Ls.freeze (by assumption) | exact Ls.freeze Ls.of | exact Ls.freeze Ls.emp | exact Ls.freeze Ls.nls) ?_)
       refine qcast hq ?_
       congr 1
       first | exact (chkF (i := i) (by omega) (.inl (by omega))).symm | exact (chkF (i := i) (by omega) (.inr (fun ⟨a1, a2, a3, _⟩ => by omega))).symm | exact (chkF (i := i) (by omega) (.inr (fun h => by have := h.2.2.2 _ (List.getElem_mem (l := c.vs[i].lv) (n := k) (by omega)); omega))).symm | (unfold chkC; rw [decide_eq_false (fun e => by have := e.1; omega)]; rfl) | (unfold chkC; rw [chk_vs (by omega) (fun j hj => hI j hj (by omega))]; simp [*])
      ·try simp only [bs] at h5
       refine XW_skip ?_
       refine then_norm ?_
       refine XW_sr ?_
       refine OW_as rfl rfl ?_
       refine EZ71_CK17 rfl ?_
       refine XW_block ?_
       refine XW_whileN (I := fun ν' mm ee H' => ∃ (k : Nat), mm = c.vs[i].lv.length - k ∧ under (1 :: 1 :: 1 :: 0 :: 1 :: 0 :: ν1) ν' = true ∧ Own ν ν' H' ([row (5 :: 0 :: 0 :: 1 :: 0 :: ν1) 5 [c.vs[i].enc], row (0 :: 0 :: ν) 3 [.agg [.lst (c.vs.map Vo.enc), .lst (c.ss.map SE.Se.enc), .lst (c.qs.map Qu.enc)]]]) ∧ (k ≤ c.vs[i].lv.length ∧ ∀ j (hj : j < c.vs[i].lv.length), j < k → c.vs[i].lv[j].size ≤ 64) ∧ ∃ g : Nat → AVal, ee = [g 0, .ptr (0 :: 0 :: ν) 0 0, g 2, .int .i64 i, .ptr (5 :: 0 :: 0 :: 1 :: 0 :: ν1) 0 0, .int .i64 k, g 6, g 7, g 8, g 9, g 10, g 11, g 12, g 13, g 14, g 15, g 16, g 17, g 18, g 19, g 20, g 21, g 22, g 23, g 24, g 25, g 26, g 27, g 28, g 29, g 30, g 31, g 32, g 33, g 34, g 35, g 36, g 37, g 38, g 39, g 40, g 41, g 42, g 43, g 44, g 45, g 46, g 47, g 48, g 49, g 50, g 51, g 52, g 53, g 54, g 55, g 56, g 57, g 58, g 59, g 60, g 61, g 62, g 63, g 64, g 65, g 66, g 67, g 68, g 69, g 70]) ?_ _ _ _ _ ⟨0, rfl, under_me, Own.cast (Own.mono (hS4) (le_lit (ν := ν1) (a := [7, 0, 0, 1, 0]) (b := [1, 1, 1, 0, 1, 0]) (by decide))) (rfl), (⟨by omega, fun j hj h => by omega⟩), env_g rfl⟩
       rintro ν2 mm ee H5 ⟨k, rfl, hU2, hS5, ⟨hk, hK⟩, g2, rfl⟩
       refine XW_seq ?_
       refine XW_sr ?_
       refine OW_mv rfl rfl ?_
       refine OW_fa rfl rfl rfl ?_
       refine OW_loadR hS5 (k := 0) rfl rfl rfl rfl rfl (by first | exact part_whole rfl rfl rfl | rfl) ?_
       refine EN71_CK17 rfl ?_
       first
       | refine OW_lenL rfl rfl (by first | assumption | exact Ls.of | exact Ls.emp | exact Ls.nls) rfl rfl rfl (by first | exact List.length_map _ | rfl) ?_
       | refine OW_bi rfl rfl rfl ?_
       refine OW_bin rfl rfl rfl rfl rfl ?_
       refine EZ71_CK17 rfl ?_
       refine XW_if rfl (fun h8 => ?_) (fun h8 => ?_)
       ·try simp only [bs] at h8
        refine XW_skip ?_
        refine then_norm ?_
        refine XW_seq ?_
        refine XW_block ?_
        refine XW_sr ?_
        refine OW_fa rfl rfl rfl ?_
        refine OW_loadR hS5 (k := 0) rfl rfl rfl rfl rfl (by first | exact part_whole rfl rfl rfl | rfl) ?_
        refine OW_mv rfl rfl ?_
        refine EN71_CK17 rfl ?_
        first
        | refine OW_iaL rfl rfl rfl Ls.of rfl rfl rfl (by first | rfl | exact (Int.toNat_of_nonneg (by omega)).symm) (by first | assumption | exact at_map (by first | assumption | omega) | exact at_lst (by omega) | rfl) rfl ?_
        | refine OW_iaL rfl rfl rfl (by assumption) rfl rfl rfl (by first | rfl | exact (Int.toNat_of_nonneg (by omega)).symm) (by first | assumption | exact at_map (by first | assumption | omega) | exact at_lst (by omega) | rfl) rfl ?_
        refine OW_loadE rfl rfl rfl (by first | exact part_whole rfl rfl rfl | rfl) ?_
        refine OW_lenS rfl rfl rfl ?_
        refine EN71_CK17 rfl ?_
        refine OW_bin rfl rfl rfl rfl rfl ?_
        refine EZ71_CK17 rfl ?_
        refine XW_if rfl (fun h10 => ?_) (fun h10 => ?_)
        ·try simp only [bs] at h10
         refine XW_sr ?_
         refine OW_as rfl rfl ?_
         refine EZ71_CK17 rfl ?_
         refine XW_ret ?_
         refine block_ret ?_
         refine then_ret ?_
         refine block_ret ?_
         refine block_ret ?_
         refine then_ret ?_
         refine block_ret ?_
         refine then_ret ?_
         refine ret_ret (res1 rfl (rv_tmp rfl)) (frz1 (Q := Q) (by first | exact freeze_plain rfl | exact Ls.freeze (by assumption) | exact Ls.freeze Ls.of | exact Ls.freeze Ls.emp | exact Ls.freeze Ls.nls) ?_)
         refine qcast hq ?_
         congr 1
         first | exact (chkF (i := i) (by omega) (.inl (by omega))).symm | exact (chkF (i := i) (by omega) (.inr (fun ⟨a1, a2, a3, _⟩ => by omega))).symm | exact (chkF (i := i) (by omega) (.inr (fun h => by have := h.2.2.2 _ (List.getElem_mem (l := c.vs[i].lv) (n := k) (by omega)); omega))).symm | (unfold chkC; rw [decide_eq_false (fun e => by have := e.1; omega)]; rfl) | (unfold chkC; rw [chk_vs (by omega) (fun j hj => hI j hj (by omega))]; simp [*])
        ·try simp only [bs] at h10
         refine XW_skip ?_
         refine block_norm ?_
         refine then_norm ?_
         refine XW_region ?_
         refine OW_mv rfl rfl ?_
         first
         | refine OW_bin rfl rfl rfl rfl (add_w64 (by first | omega | assumption | (simp only [ss]; omega))) ?_
         | refine OW_bin rfl rfl rfl rfl rfl ?_
         refine OW_as rfl rfl ?_
         refine EZ71_CK17 rfl ?_
         refine ⟨_, ?_, k + 1, rfl, under_in hU2, Own.cast (Own.mono (hS5) (le_app (p := ν2) (b := [1]))) (rfl), ?_, env_g rfl⟩
         · first | omega | (simp; omega)
         · exact ⟨by omega, fun j hj h => by by_cases e : j = k; (subst e; omega); exact hK j hj (by omega)⟩
       ·try simp only [bs] at h8
        refine XW_exit ?_
        refine then_exit ?_
        refine block_exit ?_
        refine block_norm ?_
        refine then_norm ?_
        refine XW_region ?_
        refine OW_mv rfl rfl ?_
        first
        | refine OW_bin rfl rfl rfl rfl (add_w64 (by first | omega | assumption | (simp only [ss]; omega))) ?_
        | refine OW_bin rfl rfl rfl rfl rfl ?_
        refine OW_as rfl rfl ?_
        refine EZ71_CK17 rfl ?_
        have hSd1 : Own _ _ _ ([_]) := (Own.drop hS5 (k := 0) rfl)
        refine ⟨_, ?_, i + 1, rfl, under_in hU1, Own.cast (Own.mono (hSd1) (le_bef (bef_under (a := []) hU2 (before_lit (ν := ν1) (a := [1, 1, 1, 0, 1, 0]) (b := [1]) (by decide))))) (rfl), ?_, env_g rfl⟩
        · first | omega | (simp; omega)
        · exact ⟨by omega, fun j hj h => by by_cases e : j = i; (subst e; exact ⟨by omega, by omega, by omega, by omega, fun s hs => by obtain ⟨n, hn, rfl⟩ := List.getElem_of_mem hs; exact hK n hn (by omega)⟩); exact hI j hj (by omega)⟩
  ·try simp only [bs] at h2
   refine XW_exit ?_
   refine then_exit ?_
   refine block_exit ?_
   refine then_norm ?_
   refine XW_sr ?_
   refine OW_fa rfl rfl rfl ?_
   refine OW_loadR hS2 (k := 0) rfl rfl rfl rfl rfl (by first | exact part_whole rfl rfl rfl | rfl) ?_
   first
   | refine OW_lenL rfl rfl (by first | assumption | exact Ls.of | exact Ls.emp | exact Ls.nls) rfl rfl rfl (by first | exact List.length_map _ | rfl) ?_
   | refine OW_bi rfl rfl rfl ?_
   refine EN71_CK17 rfl ?_
   refine OW_bin rfl rfl rfl rfl rfl ?_
   refine OW_mv rfl rfl ?_
   refine OW_split (tt := 61) rfl (fun g12_5 => ?_) (fun g12_5 => ?_)
   ·try simp only [bs] at g12_5
    refine EN71_CK17 rfl ?_
    refine OW_fa rfl rfl rfl ?_
    refine OW_loadR hS2 (k := 0) rfl rfl rfl rfl rfl (by first | exact part_whole rfl rfl rfl | rfl) ?_
    refine OW_fn rfl rfl (SE.r_check (Ls.freeze Ls.of) (by omega) ?_) 
    refine EN71_CK17 rfl ?_
    refine OW_pick rfl rfl rfl ?_
    refine OW_mv rfl rfl ?_
    refine OW_split (tt := 66) rfl (fun g12_10 => ?_) (fun g12_10 => ?_)
    ·try simp only [bs] at g12_10
     refine EN71_CK17 rfl ?_
     refine OW_fa rfl rfl rfl ?_
     refine OW_loadR hS2 (k := 0) rfl rfl rfl rfl rfl (by first | exact part_whole rfl rfl rfl | rfl) ?_
     refine OW_fn rfl rfl (r_check (Ls.freeze Ls.of) (by omega) ?_) 
     refine EN71_CK17 rfl ?_
     refine OW_pick rfl rfl rfl ?_
     refine OW_as rfl rfl ?_
     refine EZ71_CK17 rfl ?_
     refine XW_ret ?_
     refine ret_ret (res1 rfl (rv_tmp rfl)) (frz1 (Q := Q) (by first | exact freeze_plain rfl | exact Ls.freeze (by assumption) | exact Ls.freeze Ls.of | exact Ls.freeze Ls.emp | exact Ls.freeze Ls.nls) ?_)
     refine qcast hq ?_
     congr 1
     first | exact (chkF (i := i) (by omega) (.inl (by omega))).symm | exact (chkF (i := i) (by omega) (.inr (fun ⟨a1, a2, a3, _⟩ => by omega))).symm | exact (chkF (i := i) (by omega) (.inr (fun h => by have := h.2.2.2 _ (List.getElem_mem (l := c.vs[i].lv) (n := k) (by omega)); omega))).symm | (unfold chkC; rw [decide_eq_false (fun e => by have := e.1; omega)]; rfl) | (unfold chkC; rw [chk_vs (by omega) (fun j hj => hI j hj (by omega))]; simp [*])
    ·try simp only [bs] at g12_10
     refine EN71_CK17 rfl ?_
     refine OW_no rfl ?_
     refine OW_no rfl ?_
     refine OW_no rfl ?_
     refine EN71_CK17 rfl ?_
     refine OW_pick rfl rfl rfl ?_
     refine OW_as rfl rfl ?_
     refine EZ71_CK17 rfl ?_
     refine XW_ret ?_
     refine ret_ret (res1 rfl (rv_tmp rfl)) (frz1 (Q := Q) (by first | exact freeze_plain rfl | exact Ls.freeze (by assumption) | exact Ls.freeze Ls.of | exact Ls.freeze Ls.emp | exact Ls.freeze Ls.nls) ?_)
     refine qcast hq ?_
     congr 1
     first | exact (chkF (i := i) (by omega) (.inl (by omega))).symm | exact (chkF (i := i) (by omega) (.inr (fun ⟨a1, a2, a3, _⟩ => by omega))).symm | exact (chkF (i := i) (by omega) (.inr (fun h => by have := h.2.2.2 _ (List.getElem_mem (l := c.vs[i].lv) (n := k) (by omega)); omega))).symm | (unfold chkC; rw [decide_eq_false (fun e => by have := e.1; omega)]; rfl) | (unfold chkC; rw [chk_vs (by omega) (fun j hj => hI j hj (by omega))]; simp [*])
   ·try simp only [bs] at g12_5
    refine EN71_CK17 rfl ?_
    refine OW_no rfl ?_
    refine OW_no rfl ?_
    refine OW_no rfl ?_
    refine EN71_CK17 rfl ?_
    refine OW_pick rfl rfl rfl ?_
    refine OW_mv rfl rfl ?_
    refine OW_no rfl ?_
    refine EN71_CK17 rfl ?_
    refine OW_no rfl ?_
    refine OW_no rfl ?_
    refine OW_pick rfl rfl rfl ?_
    refine EN71_CK17 rfl ?_
    refine OW_as rfl rfl ?_
    refine EZ71_CK17 rfl ?_
    refine XW_ret ?_
    refine ret_ret (res1 rfl (rv_tmp rfl)) (frz1 (Q := Q) (by first | exact freeze_plain rfl | exact Ls.freeze (by assumption) | exact Ls.freeze Ls.of | exact Ls.freeze Ls.emp | exact Ls.freeze Ls.nls) ?_)
    refine qcast hq ?_
    congr 1
    first | exact (chkF (i := i) (by omega) (.inl (by omega))).symm | exact (chkF (i := i) (by omega) (.inr (fun ⟨a1, a2, a3, _⟩ => by omega))).symm | exact (chkF (i := i) (by omega) (.inr (fun h => by have := h.2.2.2 _ (List.getElem_mem (l := c.vs[i].lv) (n := k) (by omega)); omega))).symm | (unfold chkC; rw [decide_eq_false (fun e => by have := e.1; omega)]; rfl) | (unfold chkC; rw [chk_vs (by omega) (fun j hj => hI j hj (by omega))]; simp [*])
theorem ckvol_c {a b : Vo} (ha : a.lv.length ≤ 1048577) (hb : b.lv.length ≤ 1048577) (hq : Q (.bool (decide (a = b))) H) : CW cfg ν 19 [a.enc, b.enc] H Q := by
  have e : decide (a = b) = (decide (a.vo = b.vo) && (decide (a.tn = b.tn) && (decide (a.ep = b.ep) && (decide (a.de = b.de) && decide (a.lv = b.lv))))) := by
    obtain ⟨a1, a2, a3, a4, a5⟩ := a; obtain ⟨b1, b2, b3, b4, b5⟩ := b
    by_cases h1 : a1 = b1 <;> by_cases h2 : a2 = b2 <;> by_cases h3 : a3 = b3 <;> by_cases h4 : a4 = b4 <;> by_cases h5 : a5 = b5 <;> simp [h1, h2, h3, h4, h5]
  rw [e] at hq
  refine CW_pure g19 F19 rfl ?_
  have hS0 : Own ν ν (fun _ => none) [] := Own.nil
  refine XW_sr ?_
  refine OW_boxR hS0 (le_app (p := ν) (b := [0, 0])) (under_app [0, 0] under_me) rfl rfl rfl ⟨rfl, rfl⟩ fun H1 hS1 => ?_
  replace hS1 : Own _ _ _ ([_]) := hS1
  refine OW_boxR hS1 le_refl (under_app [1, 0] under_me) rfl rfl rfl ⟨rfl, rfl⟩ fun H2 hS2 => ?_
  replace hS2 : Own _ _ _ ([_, _]) := hS2
  refine OW_as rfl rfl ?_
  refine OW_nilE (e' := [_,_,_,_,_,_,_,_,_,_,_,_,_,_,_,_,_,_,_,_,_,_,_,_,_,_,_,_,_,_,_,_,_,_,_,_,_,_]) rfl ?_
  refine XW_sr ?_
  refine OW_fa rfl rfl rfl ?_
  refine OW_loadR hS2 (k := 1) rfl rfl rfl rfl rfl (by first | exact part_whole rfl rfl rfl | rfl) ?_
  refine OW_fa rfl rfl rfl ?_
  refine EN38_CK17 rfl ?_
  refine OW_loadR hS2 (k := 0) rfl rfl rfl rfl rfl (by first | exact part_whole rfl rfl rfl | rfl) ?_
  refine OW_bin rfl rfl rfl rfl rfl ?_
  refine OW_mv rfl rfl ?_
  refine EN38_CK17 rfl ?_
  refine OW_split (tt := 10) rfl (fun g1_6 => ?_) (fun g1_6 => ?_)
  ·try simp only [bs] at g1_6
   refine OW_fa rfl rfl rfl ?_
   refine OW_loadR hS2 (k := 1) rfl rfl rfl rfl rfl (by first | exact part_whole rfl rfl rfl | rfl) ?_
   refine EN38_CK17 rfl ?_
   refine OW_fa rfl rfl rfl ?_
   refine OW_loadR hS2 (k := 0) rfl rfl rfl rfl rfl (by first | exact part_whole rfl rfl rfl | rfl) ?_
   refine OW_bin rfl rfl rfl rfl rfl ?_
   refine EN38_CK17 rfl ?_
   refine OW_pick rfl rfl rfl ?_
   refine OW_mv rfl rfl ?_
   refine OW_split (tt := 17) rfl (fun g1_13 => ?_) (fun g1_13 => ?_)
   ·try simp only [bs] at g1_13
    refine EN38_CK17 rfl ?_
    refine OW_fa rfl rfl rfl ?_
    refine OW_loadR hS2 (k := 1) rfl rfl rfl rfl rfl (by first | exact part_whole rfl rfl rfl | rfl) ?_
    refine OW_fa rfl rfl rfl ?_
    refine EN38_CK17 rfl ?_
    refine OW_loadR hS2 (k := 0) rfl rfl rfl rfl rfl (by first | exact part_whole rfl rfl rfl | rfl) ?_
    refine OW_bin rfl rfl rfl rfl rfl ?_
    refine OW_pick rfl rfl rfl ?_
    refine EN38_CK17 rfl ?_
    refine OW_mv rfl rfl ?_
    refine OW_split (tt := 24) rfl (fun g1_20 => ?_) (fun g1_20 => ?_)
    ·try simp only [bs] at g1_20
     refine OW_fa rfl rfl rfl ?_
     refine EN38_CK17 rfl ?_
     refine OW_loadR hS2 (k := 1) rfl rfl rfl rfl rfl (by first | exact part_whole rfl rfl rfl | rfl) ?_
     refine OW_fa rfl rfl rfl ?_
     refine OW_loadR hS2 (k := 0) rfl rfl rfl rfl rfl (by first | exact part_whole rfl rfl rfl | rfl) ?_
     refine EN38_CK17 rfl ?_
     refine OW_bin rfl rfl rfl rfl rfl ?_
     refine OW_pick rfl rfl rfl ?_
     refine OW_mv rfl rfl ?_
     refine EN38_CK17 rfl ?_
     refine OW_split (tt := 31) rfl (fun g1_27 => ?_) (fun g1_27 => ?_)
     ·try simp only [bs] at g1_27
      refine OW_fa rfl rfl rfl ?_
      refine OW_loadR hS2 (k := 1) rfl rfl rfl rfl rfl (by first | exact part_whole rfl rfl rfl | rfl) ?_
      refine EN38_CK17 rfl ?_
      refine OW_fa rfl rfl rfl ?_
      refine OW_loadR hS2 (k := 0) rfl rfl rfl rfl rfl (by first | exact part_whole rfl rfl rfl | rfl) ?_
      refine OW_fn rfl rfl (texts_c Ls.of Ls.of (by omega) (by omega) ?_) 
      refine EN38_CK17 rfl ?_
      refine OW_pick rfl rfl rfl ?_
      refine OW_as rfl rfl ?_
      refine OW_nilE (e' := [_,_,_,_,_,_,_,_,_,_,_,_,_,_,_,_,_,_,_,_,_,_,_,_,_,_,_,_,_,_,_,_,_,_,_,_,_,_]) rfl ?_
      refine XW_ret ?_
      refine ret_ret (res1 rfl (rv_tmp rfl)) (frz1 (Q := Q) (by first | exact freeze_plain rfl | exact Ls.freeze (by assumption) | exact Ls.freeze Ls.of | exact Ls.freeze Ls.emp | exact Ls.freeze Ls.nls) ?_)
      refine qcast hq ?_
      simp [*]
     ·try simp only [bs] at g1_27
      refine OW_no rfl ?_
      refine OW_no rfl ?_
      refine EN38_CK17 rfl ?_
      refine OW_no rfl ?_
      refine OW_no rfl ?_
      refine OW_no rfl ?_
      refine EN38_CK17 rfl ?_
      refine OW_pick rfl rfl rfl ?_
      refine OW_as rfl rfl ?_
      refine OW_nilE (e' := [_,_,_,_,_,_,_,_,_,_,_,_,_,_,_,_,_,_,_,_,_,_,_,_,_,_,_,_,_,_,_,_,_,_,_,_,_,_]) rfl ?_
      refine XW_ret ?_
      refine ret_ret (res1 rfl (rv_tmp rfl)) (frz1 (Q := Q) (by first | exact freeze_plain rfl | exact Ls.freeze (by assumption) | exact Ls.freeze Ls.of | exact Ls.freeze Ls.emp | exact Ls.freeze Ls.nls) ?_)
      refine qcast hq ?_
      simp [*]
    ·try simp only [bs] at g1_20
     refine OW_no rfl ?_
     refine EN38_CK17 rfl ?_
     refine OW_no rfl ?_
     refine OW_no rfl ?_
     refine OW_no rfl ?_
     refine EN38_CK17 rfl ?_
     refine OW_no rfl ?_
     refine OW_pick rfl rfl rfl ?_
     refine OW_mv rfl rfl ?_
     refine EN38_CK17 rfl ?_
     refine OW_no rfl ?_
     refine OW_no rfl ?_
     refine OW_no rfl ?_
     refine EN38_CK17 rfl ?_
     refine OW_no rfl ?_
     refine OW_no rfl ?_
     refine OW_pick rfl rfl rfl ?_
     refine EN38_CK17 rfl ?_
     refine OW_as rfl rfl ?_
     refine OW_nilE (e' := [_,_,_,_,_,_,_,_,_,_,_,_,_,_,_,_,_,_,_,_,_,_,_,_,_,_,_,_,_,_,_,_,_,_,_,_,_,_]) rfl ?_
     refine XW_ret ?_
     refine ret_ret (res1 rfl (rv_tmp rfl)) (frz1 (Q := Q) (by first | exact freeze_plain rfl | exact Ls.freeze (by assumption) | exact Ls.freeze Ls.of | exact Ls.freeze Ls.emp | exact Ls.freeze Ls.nls) ?_)
     refine qcast hq ?_
     simp [*]
   ·try simp only [bs] at g1_13
    refine EN38_CK17 rfl ?_
    refine OW_no rfl ?_
    refine OW_no rfl ?_
    refine OW_no rfl ?_
    refine EN38_CK17 rfl ?_
    refine OW_no rfl ?_
    refine OW_no rfl ?_
    refine OW_pick rfl rfl rfl ?_
    refine EN38_CK17 rfl ?_
    refine OW_mv rfl rfl ?_
    refine OW_no rfl ?_
    refine OW_no rfl ?_
    refine EN38_CK17 rfl ?_
    refine OW_no rfl ?_
    refine OW_no rfl ?_
    refine OW_no rfl ?_
    refine EN38_CK17 rfl ?_
    refine OW_pick rfl rfl rfl ?_
    refine OW_mv rfl rfl ?_
    refine OW_no rfl ?_
    refine EN38_CK17 rfl ?_
    refine OW_no rfl ?_
    refine OW_no rfl ?_
    refine OW_no rfl ?_
    refine EN38_CK17 rfl ?_
    refine OW_no rfl ?_
    refine OW_pick rfl rfl rfl ?_
    refine OW_as rfl rfl ?_
    refine OW_nilE (e' := [_,_,_,_,_,_,_,_,_,_,_,_,_,_,_,_,_,_,_,_,_,_,_,_,_,_,_,_,_,_,_,_,_,_,_,_,_,_]) rfl ?_
    refine XW_ret ?_
    refine ret_ret (res1 rfl (rv_tmp rfl)) (frz1 (Q := Q) (by first | exact freeze_plain rfl | exact Ls.freeze (by assumption) | exact Ls.freeze Ls.of | exact Ls.freeze Ls.emp | exact Ls.freeze Ls.nls) ?_)
    refine qcast hq ?_
    simp [*]
  ·try simp only [bs] at g1_6
   refine OW_no rfl ?_
   refine OW_no rfl ?_
   refine EN38_CK17 rfl ?_
   refine OW_no rfl ?_
   refine OW_no rfl ?_
   refine OW_no rfl ?_
   refine EN38_CK17 rfl ?_
   refine OW_pick rfl rfl rfl ?_
   refine OW_mv rfl rfl ?_
   refine OW_no rfl ?_
   refine EN38_CK17 rfl ?_
   refine OW_no rfl ?_
   refine OW_no rfl ?_
   refine OW_no rfl ?_
   refine EN38_CK17 rfl ?_
   refine OW_no rfl ?_
   refine OW_pick rfl rfl rfl ?_
   refine OW_mv rfl rfl ?_
   refine EN38_CK17 rfl ?_
   refine OW_no rfl ?_
   refine OW_no rfl ?_
   refine OW_no rfl ?_
   refine EN38_CK17 rfl ?_
   refine OW_no rfl ?_
   refine OW_no rfl ?_
   refine OW_pick rfl rfl rfl ?_
   refine EN38_CK17 rfl ?_
   refine OW_mv rfl rfl ?_
   refine OW_no rfl ?_
   refine OW_no rfl ?_
   refine EN38_CK17 rfl ?_
   refine OW_no rfl ?_
   refine OW_no rfl ?_
   refine OW_no rfl ?_
   refine EN38_CK17 rfl ?_
   refine OW_pick rfl rfl rfl ?_
   refine OW_as rfl rfl ?_
   refine OW_nilE (e' := [_,_,_,_,_,_,_,_,_,_,_,_,_,_,_,_,_,_,_,_,_,_,_,_,_,_,_,_,_,_,_,_,_,_,_,_,_,_]) rfl ?_
   refine XW_ret ?_
   refine ret_ret (res1 rfl (rv_tmp rfl)) (frz1 (Q := Q) (by first | exact freeze_plain rfl | exact Ls.freeze (by assumption) | exact Ls.freeze Ls.of | exact Ls.freeze Ls.emp | exact Ls.freeze Ls.nls) ?_)
   refine qcast hq ?_
   simp [*]
theorem ckis_c (hz : c.sz) (hd : d.sz) (hq : Q (.bool (decide (c = d))) H) : CW cfg ν 12 [c.enc, d.enc] H Q := by
  obtain ⟨hz1, hz2, hz3, hz4⟩ := hz
  obtain ⟨hd1, hd2, hd3, hd4⟩ := hd
  have ne : ∀ h : ¬ (c.vs = d.vs ∧ c.ss = d.ss ∧ c.qs = d.qs), (false = decide (c = d)) := fun h => (decide_eq_false (fun e => h (by subst e; exact ⟨rfl, rfl, rfl⟩))).symm
  refine CW_pure g12 F12 rfl ?_
  have hS0 : Own ν ν (fun _ => none) [] := Own.nil
  refine XW_sr ?_
  refine OW_boxR hS0 (le_app (p := ν) (b := [0, 0])) (under_app [0, 0] under_me) rfl rfl rfl ⟨rfl, rfl⟩ fun H1 hS1 => ?_
  replace hS1 : Own _ _ _ ([_]) := hS1
  refine OW_boxR hS1 le_refl (under_app [1, 0] under_me) rfl rfl rfl ⟨rfl, rfl⟩ fun H2 hS2 => ?_
  replace hS2 : Own _ _ _ ([_, _]) := hS2
  refine OW_as rfl rfl ?_
  refine EZ48_CK17 rfl ?_
  refine XW_seq ?_
  refine XW_sr ?_
  refine OW_fa rfl rfl rfl ?_
  refine OW_loadR hS2 (k := 1) rfl rfl rfl rfl rfl (by first | exact part_whole rfl rfl rfl | rfl) ?_
  first
  | refine OW_lenL rfl rfl (by first | assumption | exact Ls.of | exact Ls.emp | exact Ls.nls) rfl rfl rfl (by first | exact List.length_map _ | rfl) ?_
  | refine OW_bi rfl rfl rfl ?_
  refine EN48_CK17 rfl ?_
  refine OW_fa rfl rfl rfl ?_
  refine OW_loadR hS2 (k := 0) rfl rfl rfl rfl rfl (by first | exact part_whole rfl rfl rfl | rfl) ?_
  first
  | refine OW_lenL rfl rfl (by first | assumption | exact Ls.of | exact Ls.emp | exact Ls.nls) rfl rfl rfl (by first | exact List.length_map _ | rfl) ?_
  | refine OW_bi rfl rfl rfl ?_
  refine EN48_CK17 rfl ?_
  refine OW_bin rfl rfl rfl rfl rfl ?_
  refine OW_mv rfl rfl ?_
  refine OW_split (tt := 13) rfl (fun g1_8 => ?_) (fun g1_8 => ?_)
  ·try simp only [bs] at g1_8
   refine EN48_CK17 rfl ?_
   refine OW_no rfl ?_
   refine OW_no rfl ?_
   refine OW_no rfl ?_
   refine EN48_CK17 rfl ?_
   refine OW_no rfl ?_
   refine OW_no rfl ?_
   refine OW_no rfl ?_
   refine EN48_CK17 rfl ?_
   refine OW_pick rfl rfl rfl ?_
   refine OW_mv rfl rfl ?_
   refine OW_no rfl ?_
   refine EN48_CK17 rfl ?_
   refine OW_no rfl ?_
   refine OW_no rfl ?_
   refine OW_no rfl ?_
   refine EN48_CK17 rfl ?_
   refine OW_no rfl ?_
   refine OW_no rfl ?_
   refine OW_pick rfl rfl rfl ?_
   refine EZ48_CK17 rfl ?_
   refine XW_yes rfl rfl ?_
   refine XW_sr ?_
   refine OW_as rfl rfl ?_
   refine EZ48_CK17 rfl ?_
   refine XW_ret ?_
   refine then_ret ?_
   refine ret_ret (res1 rfl (rv_tmp rfl)) (frz1 (Q := Q) (by first | exact freeze_plain rfl | exact Ls.freeze (by assumption) | exact Ls.freeze Ls.of | exact Ls.freeze Ls.emp | exact Ls.freeze Ls.nls) ?_)
   refine qcast hq ?_
   congr 1
   first | exact ne (fun e => by have := congrArg List.length e.1; omega) | exact ne (fun e => by simp_all) | exact (decide_eq_true (by rw [List.take_of_length_le (by omega), List.take_of_length_le (by omega)] at hI; obtain ⟨a1, a2, a3⟩ := c; obtain ⟨b1, b2, b3⟩ := d; simp only at hI hI1 hI2; rw [hI, hI1, hI2])).symm
  ·try simp only [bs] at g1_8
   refine EN48_CK17 rfl ?_
   refine OW_fa rfl rfl rfl ?_
   refine OW_loadR hS2 (k := 1) rfl rfl rfl rfl rfl (by first | exact part_whole rfl rfl rfl | rfl) ?_
   refine OW_fa rfl rfl rfl ?_
   refine EN48_CK17 rfl ?_
   refine OW_loadR hS2 (k := 0) rfl rfl rfl rfl rfl (by first | exact part_whole rfl rfl rfl | rfl) ?_
   refine OW_fn rfl rfl (SE.c_Is Ls.of Ls.of (by omega) (by omega) ?_) 
   refine OW_un rfl rfl rfl ?_
   refine EN48_CK17 rfl ?_
   refine OW_pick rfl rfl rfl ?_
   refine OW_mv rfl rfl ?_
   refine OW_split (tt := 21) rfl (fun g1_16 => ?_) (fun g1_16 => ?_)
   ·try simp only [bs] at g1_16
    refine EN48_CK17 rfl ?_
    refine OW_no rfl ?_
    refine OW_no rfl ?_
    refine OW_no rfl ?_
    refine EN48_CK17 rfl ?_
    refine OW_no rfl ?_
    refine OW_no rfl ?_
    refine OW_no rfl ?_
    refine EN48_CK17 rfl ?_
    refine OW_pick rfl rfl rfl ?_
    refine EZ48_CK17 rfl ?_
    refine XW_yes rfl rfl ?_
    refine XW_sr ?_
    refine OW_as rfl rfl ?_
    refine EZ48_CK17 rfl ?_
    refine XW_ret ?_
    refine then_ret ?_
    refine ret_ret (res1 rfl (rv_tmp rfl)) (frz1 (Q := Q) (by first | exact freeze_plain rfl | exact Ls.freeze (by assumption) | exact Ls.freeze Ls.of | exact Ls.freeze Ls.emp | exact Ls.freeze Ls.nls) ?_)
    refine qcast hq ?_
    congr 1
    first | exact ne (fun e => by have := congrArg List.length e.1; omega) | exact ne (fun e => by simp_all) | exact (decide_eq_true (by rw [List.take_of_length_le (by omega), List.take_of_length_le (by omega)] at hI; obtain ⟨a1, a2, a3⟩ := c; obtain ⟨b1, b2, b3⟩ := d; simp only at hI hI1 hI2; rw [hI, hI1, hI2])).symm
   ·try simp only [bs] at g1_16
    refine EN48_CK17 rfl ?_
    refine OW_fa rfl rfl rfl ?_
    refine OW_loadR hS2 (k := 1) rfl rfl rfl rfl rfl (by first | exact part_whole rfl rfl rfl | rfl) ?_
    refine OW_fa rfl rfl rfl ?_
    refine EN48_CK17 rfl ?_
    refine OW_loadR hS2 (k := 0) rfl rfl rfl rfl rfl (by first | exact part_whole rfl rfl rfl | rfl) ?_
    refine OW_fn rfl rfl (Qu.is Ls.of Ls.of (by omega) (by omega) ?_) 
    refine OW_un rfl rfl rfl ?_
    refine EN48_CK17 rfl ?_
    refine OW_pick rfl rfl rfl ?_
    refine EZ48_CK17 rfl ?_
    refine XW_if rfl (fun h1 => ?_) (fun h1 => ?_)
    ·try simp only [bs] at h1
     refine XW_sr ?_
     refine OW_as rfl rfl ?_
     refine EZ48_CK17 rfl ?_
     refine XW_ret ?_
     refine then_ret ?_
     refine ret_ret (res1 rfl (rv_tmp rfl)) (frz1 (Q := Q) (by first | exact freeze_plain rfl | exact Ls.freeze (by assumption) | exact Ls.freeze Ls.of | exact Ls.freeze Ls.emp | exact Ls.freeze Ls.nls) ?_)
     refine qcast hq ?_
     congr 1
     first | exact ne (fun e => by have := congrArg List.length e.1; omega) | exact ne (fun e => by simp_all) | exact (decide_eq_true (by rw [List.take_of_length_le (by omega), List.take_of_length_le (by omega)] at hI; obtain ⟨a1, a2, a3⟩ := c; obtain ⟨b1, b2, b3⟩ := d; simp only at hI hI1 hI2; rw [hI, hI1, hI2])).symm
    ·try simp only [bs] at h1
     refine XW_skip ?_
     refine then_norm ?_
     refine XW_seq ?_
     refine XW_sr ?_
     refine OW_as rfl rfl ?_
     refine EZ48_CK17 rfl ?_
     refine XW_block ?_
     refine XW_whileN (I := fun ν' mm ee H' => ∃ (i : Nat), mm = c.vs.length - i ∧ under (1 :: 0 :: 1 :: 1 :: ν) ν' = true ∧ Own ν ν' H' ([row (1 :: 0 :: ν) 3 [d.enc], row (0 :: 0 :: ν) 3 [c.enc]]) ∧ (i ≤ c.vs.length ∧ c.vs.length = d.vs.length ∧ c.ss = d.ss ∧ c.qs = d.qs ∧ c.vs.take i = d.vs.take i) ∧ ∃ g : Nat → AVal, ee = [g 0, g 1, .ptr (0 :: 0 :: ν) 0 0, .ptr (1 :: 0 :: ν) 0 0, g 4, .int .i64 i, g 6, g 7, g 8, g 9, g 10, g 11, g 12, g 13, g 14, g 15, g 16, g 17, g 18, g 19, g 20, g 21, g 22, g 23, g 24, g 25, g 26, g 27, g 28, g 29, g 30, g 31, g 32, g 33, g 34, g 35, g 36, g 37, g 38, g 39, g 40, g 41, g 42, g 43, g 44, g 45, g 46, g 47]) ?_ _ _ _ _ ⟨0, rfl, under_me, Own.cast (Own.mono (hS2) (le_lit (ν := ν) (a := [2, 0]) (b := [1, 0, 1, 1]) (by decide))) (rfl), (⟨by omega, by omega, by simp_all, by simp_all, rfl⟩), env_g rfl⟩
     rintro ν1 mm ee H3 ⟨i, rfl, hU1, hS3, ⟨hi, hl, hI1, hI2, hI⟩, g1, rfl⟩
     refine XW_seq ?_
     refine XW_sr ?_
     refine OW_mv rfl rfl ?_
     refine OW_fa rfl rfl rfl ?_
     refine OW_loadR hS3 (k := 1) rfl rfl rfl rfl rfl (by first | exact part_whole rfl rfl rfl | rfl) ?_
     refine EN48_CK17 rfl ?_
     first
     | refine OW_lenL rfl rfl (by first | assumption | exact Ls.of | exact Ls.emp | exact Ls.nls) rfl rfl rfl (by first | exact List.length_map _ | rfl) ?_
     | refine OW_bi rfl rfl rfl ?_
     refine OW_bin rfl rfl rfl rfl rfl ?_
     refine EZ48_CK17 rfl ?_
     refine XW_if rfl (fun h4 => ?_) (fun h4 => ?_)
     ·try simp only [bs] at h4
      refine XW_skip ?_
      refine then_norm ?_
      refine XW_seq ?_
      refine XW_block ?_
      refine XW_sr ?_
      have hlz := hz4 c.vs[i] (List.getElem_mem (by omega))
      have hld := hd4 d.vs[i] (List.getElem_mem (by omega))
      refine OW_fa rfl rfl rfl ?_
      refine OW_loadR hS3 (k := 1) rfl rfl rfl rfl rfl (by first | exact part_whole rfl rfl rfl | rfl) ?_
      refine OW_mv rfl rfl ?_
      refine EN48_CK17 rfl ?_
      first
      | refine OW_iaL rfl rfl rfl Ls.of rfl rfl rfl (by first | rfl | exact (Int.toNat_of_nonneg (by omega)).symm) (by first | assumption | exact at_map (by first | assumption | omega) | exact at_lst (by omega) | rfl) rfl ?_
      | refine OW_iaL rfl rfl rfl (by assumption) rfl rfl rfl (by first | rfl | exact (Int.toNat_of_nonneg (by omega)).symm) (by first | assumption | exact at_map (by first | assumption | omega) | exact at_lst (by omega) | rfl) rfl ?_
      refine OW_loadE rfl rfl rfl (by first | exact part_whole rfl rfl rfl | rfl) ?_
      refine OW_fa rfl rfl rfl ?_
      refine EN48_CK17 rfl ?_
      refine OW_loadR hS3 (k := 0) rfl rfl rfl rfl rfl (by first | exact part_whole rfl rfl rfl | rfl) ?_
      refine OW_mv rfl rfl ?_
      first
      | refine OW_iaL rfl rfl rfl Ls.of rfl rfl rfl (by first | rfl | exact (Int.toNat_of_nonneg (by omega)).symm) (by first | assumption | exact at_map (by first | assumption | omega) | exact at_lst (by omega) | rfl) rfl ?_
      | refine OW_iaL rfl rfl rfl (by assumption) rfl rfl rfl (by first | rfl | exact (Int.toNat_of_nonneg (by omega)).symm) (by first | assumption | exact at_map (by first | assumption | omega) | exact at_lst (by omega) | rfl) rfl ?_
      refine EN48_CK17 rfl ?_
      refine OW_loadE rfl rfl rfl (by first | exact part_whole rfl rfl rfl | rfl) ?_
      refine OW_fn rfl rfl (ckvol_c (by omega) (by omega) ?_) 
      refine OW_un rfl rfl rfl ?_
      refine EZ48_CK17 rfl ?_
      refine XW_if rfl (fun h6 => ?_) (fun h6 => ?_)
      ·try simp only [bs] at h6
       refine XW_sr ?_
       refine OW_as rfl rfl ?_
       refine EZ48_CK17 rfl ?_
       refine XW_ret ?_
       refine block_ret ?_
       refine then_ret ?_
       refine block_ret ?_
       refine then_ret ?_
       refine ret_ret (res1 rfl (rv_tmp rfl)) (frz1 (Q := Q) (by first | exact freeze_plain rfl | exact Ls.freeze (by assumption) | exact Ls.freeze Ls.of | exact Ls.freeze Ls.emp | exact Ls.freeze Ls.nls) ?_)
       refine qcast hq ?_
       congr 1
       first | exact ne (fun e => by have := congrArg List.length e.1; omega) | exact ne (fun e => by simp_all) | exact (decide_eq_true (by rw [List.take_of_length_le (by omega), List.take_of_length_le (by omega)] at hI; obtain ⟨a1, a2, a3⟩ := c; obtain ⟨b1, b2, b3⟩ := d; simp only at hI hI1 hI2; rw [hI, hI1, hI2])).symm
      ·try simp only [bs] at h6
       refine XW_skip ?_
       refine block_norm ?_
       refine then_norm ?_
       refine XW_region ?_
       refine OW_mv rfl rfl ?_
       first
       | refine OW_bin rfl rfl rfl rfl (add_w64 (by first | omega | assumption | (simp only [ss]; omega))) ?_
       | refine OW_bin rfl rfl rfl rfl rfl ?_
       refine OW_as rfl rfl ?_
       refine EZ48_CK17 rfl ?_
       refine ⟨_, ?_, i + 1, rfl, under_in hU1, Own.cast (Own.mono (hS3) (le_app (p := ν1) (b := [1]))) (rfl), ?_, env_g rfl⟩
       · first | omega | (simp; omega)
       · exact ⟨by omega, hl, hI1, hI2, by rw [List.take_succ_eq_append_getElem (by omega), List.take_succ_eq_append_getElem (by omega), hI, h6]⟩
     ·try simp only [bs] at h4
      refine XW_exit ?_
      refine then_exit ?_
      refine block_exit ?_
      refine then_norm ?_
      refine XW_sr ?_
      refine OW_as rfl rfl ?_
      refine EZ48_CK17 rfl ?_
      refine XW_ret ?_
      refine ret_ret (res1 rfl (rv_tmp rfl)) (frz1 (Q := Q) (by first | exact freeze_plain rfl | exact Ls.freeze (by assumption) | exact Ls.freeze Ls.of | exact Ls.freeze Ls.emp | exact Ls.freeze Ls.nls) ?_)
      refine qcast hq ?_
      congr 1
      first | exact ne (fun e => by have := congrArg List.length e.1; omega) | exact ne (fun e => by simp_all) | exact (decide_eq_true (by rw [List.take_of_length_le (by omega), List.take_of_length_le (by omega)] at hI; obtain ⟨a1, a2, a3⟩ := c; obtain ⟨b1, b2, b3⟩ := d; simp only at hI hI1 hI2; rw [hI, hI1, hI2])).symm
def isLong : ByteArray → Bool := fun s => decide (64 < s.size)
end Go.Proofs.Ytfkgdlfponfimaa.X
/- Layer 13: the law's plays: oracle, bytes, after. -/
set_option linter.unusedVariables false
set_option linter.unusedSimpArgs false
set_option maxRecDepth 100000
namespace Go.Proofs.Ytfkgdlfponfimaa.X
open Go Go.RowKit WM
theorem EN38_CK18 {c : Cfg} {ν : Nm} {e : Env} {H : Heap} {all : Array Oper} {r : List Oper} {i : Nat} {Q : Env → Heap → Prop} {x0 x1 x2 x3 x4 x5 x6 x7 x8 x9 x10 x11 x12 x13 x14 x15 x16 x17 x18 x19 x20 x21 x22 x23 x24 x25 x26 x27 x28 x29 x30 x31 x32 x33 x34 x35 x36 x37 : AVal} (he : e = [x0,x1,x2,x3,x4,x5,x6,x7,x8,x9,x10,x11,x12,x13,x14,x15,x16,x17,x18,x19,x20,x21,x22,x23,x24,x25,x26,x27,x28,x29,x30,x31,x32,x33,x34,x35,x36,x37]) (h : OW c ν all r i [x0,x1,x2,x3,x4,x5,x6,x7,x8,x9,x10,x11,x12,x13,x14,x15,x16,x17,x18,x19,x20,x21,x22,x23,x24,x25,x26,x27,x28,x29,x30,x31,x32,x33,x34,x35,x36,x37] H Q) : OW c ν all r i e H Q := by subst he; exact h
theorem EN47_CK18 {c : Cfg} {ν : Nm} {e : Env} {H : Heap} {all : Array Oper} {r : List Oper} {i : Nat} {Q : Env → Heap → Prop} {x0 x1 x2 x3 x4 x5 x6 x7 x8 x9 x10 x11 x12 x13 x14 x15 x16 x17 x18 x19 x20 x21 x22 x23 x24 x25 x26 x27 x28 x29 x30 x31 x32 x33 x34 x35 x36 x37 x38 x39 x40 x41 x42 x43 x44 x45 x46 : AVal} (he : e = [x0,x1,x2,x3,x4,x5,x6,x7,x8,x9,x10,x11,x12,x13,x14,x15,x16,x17,x18,x19,x20,x21,x22,x23,x24,x25,x26,x27,x28,x29,x30,x31,x32,x33,x34,x35,x36,x37,x38,x39,x40,x41,x42,x43,x44,x45,x46]) (h : OW c ν all r i [x0,x1,x2,x3,x4,x5,x6,x7,x8,x9,x10,x11,x12,x13,x14,x15,x16,x17,x18,x19,x20,x21,x22,x23,x24,x25,x26,x27,x28,x29,x30,x31,x32,x33,x34,x35,x36,x37,x38,x39,x40,x41,x42,x43,x44,x45,x46] H Q) : OW c ν all r i e H Q := by subst he; exact h
theorem EZ38_CK18 {c : Cfg} {ν : Nm} {e : Env} {H : Heap} {all : Array Oper} {i : Nat} {Q : Env → Heap → Prop} {x0 x1 x2 x3 x4 x5 x6 x7 x8 x9 x10 x11 x12 x13 x14 x15 x16 x17 x18 x19 x20 x21 x22 x23 x24 x25 x26 x27 x28 x29 x30 x31 x32 x33 x34 x35 x36 x37 : AVal} (he : e = [x0,x1,x2,x3,x4,x5,x6,x7,x8,x9,x10,x11,x12,x13,x14,x15,x16,x17,x18,x19,x20,x21,x22,x23,x24,x25,x26,x27,x28,x29,x30,x31,x32,x33,x34,x35,x36,x37]) (h : Q [x0,x1,x2,x3,x4,x5,x6,x7,x8,x9,x10,x11,x12,x13,x14,x15,x16,x17,x18,x19,x20,x21,x22,x23,x24,x25,x26,x27,x28,x29,x30,x31,x32,x33,x34,x35,x36,x37] H) : OW c ν all [] i e H Q := by subst he; exact OW_nil h
theorem EZ47_CK18 {c : Cfg} {ν : Nm} {e : Env} {H : Heap} {all : Array Oper} {i : Nat} {Q : Env → Heap → Prop} {x0 x1 x2 x3 x4 x5 x6 x7 x8 x9 x10 x11 x12 x13 x14 x15 x16 x17 x18 x19 x20 x21 x22 x23 x24 x25 x26 x27 x28 x29 x30 x31 x32 x33 x34 x35 x36 x37 x38 x39 x40 x41 x42 x43 x44 x45 x46 : AVal} (he : e = [x0,x1,x2,x3,x4,x5,x6,x7,x8,x9,x10,x11,x12,x13,x14,x15,x16,x17,x18,x19,x20,x21,x22,x23,x24,x25,x26,x27,x28,x29,x30,x31,x32,x33,x34,x35,x36,x37,x38,x39,x40,x41,x42,x43,x44,x45,x46]) (h : Q [x0,x1,x2,x3,x4,x5,x6,x7,x8,x9,x10,x11,x12,x13,x14,x15,x16,x17,x18,x19,x20,x21,x22,x23,x24,x25,x26,x27,x28,x29,x30,x31,x32,x33,x34,x35,x36,x37,x38,x39,x40,x41,x42,x43,x44,x45,x46] H) : OW c ν all [] i e H Q := by subst he; exact OW_nil h
variable {ν β ps pos pos' : Nm} {H H1 : Heap} {Q : AVal → Heap → Prop} {L : List Asr} {k : Nat} {S : Rf} {c : Ck} {q qo : Nm} {key : Int}
structure Stp where
  id : Int
  nr : Int
  m : Cm
  raw : ByteArray
def Stp.enc (s : Stp) : AVal := .agg [.int .u64 s.id, .int .u64 s.nr, .int .i64 s.m.d, .int .u64 s.m.t.tn, .int .u64 s.m.t.vo, .int .u64 s.m.t.ep, .int .u64 s.m.t.ri, .int .u64 s.m.t.tag, .int .u64 s.m.vo, .int .u64 s.m.se, .int .u64 s.m.a, .int .u64 s.m.b, .str s.m.lf, .str s.raw]
structure Stp.fit (s : Stp) : Prop where
  id : U64 s.id
  nr : U64 s.nr
  m : s.m.fit
  lf : s.m.lf.size ≤ 1048576
  raw : s.raw.size ≤ 1048576
structure Py where
  c : Ck
  d : List Int
  key : Int
  iss : List Tk
  l : List Stp
def Py.enc (x : Py) : AVal := .agg [.lst (x.c.vs.map Vo.enc), .lst (x.c.ss.map SE.Se.enc), .lst (x.c.qs.map Qu.enc), .lst (x.d.map (fun a : Int => AVal.int .u64 a)), .int .u64 x.key, .lst (x.iss.map Tk.enc), .lst (x.l.map Stp.enc)]
structure Py.good (x : Py) : Prop where
  sz : x.c.sz
  d : x.d.length ≤ 1048576
  iss : x.iss.length ≤ 1048576
  ifit : ∀ t ∈ x.iss, t.fit
  l : x.l.length ≤ 1048576
  lfit : ∀ s ∈ x.l, s.fit
def Stp.bytes (s : Stp) : ByteArray := if s.raw ≠ ⟨#[]⟩ then s.raw else packC s.m
theorem Stp.fit.bytes {s : Stp} (h : s.fit) : s.bytes.size ≤ 1099511627776 := by
  have h1 := packC_size h.m; have h2 := h.lf; have h3 := h.raw
  unfold Stp.bytes; split <;> omega
theorem bytes_c {s : Stp} (h : s.fit) (hq : Q (.str s.bytes) H) : CW cfg ν 18 [s.enc] H Q := by
  refine CW_pure g18 F18 rfl ?_
  have hS0 : Own ν ν (fun _ => none) [] := Own.nil
  refine XW_sr ?_
  refine OW_boxR hS0 (le_app (p := ν) (b := [0, 0])) (under_app [0, 0] under_me) rfl rfl rfl ⟨rfl, rfl⟩ fun H1 hS1 => ?_
  replace hS1 : Own _ _ _ ([_]) := hS1
  refine OW_as rfl rfl ?_
  refine OW_nilE (e' := [_,_,_,_,_,_,_,_,_,_,_]) rfl ?_
  refine XW_seq ?_
  refine XW_sr ?_
  refine OW_fa rfl rfl rfl ?_
  refine OW_loadR hS1 (k := 0) rfl rfl rfl rfl rfl (by first | exact part_whole rfl rfl rfl | rfl) ?_
  refine OW_bin rfl rfl rfl rfl rfl ?_
  refine OW_nilE (e' := [_,_,_,_,_,_,_,_,_,_,_]) rfl ?_
  refine XW_if rfl (fun h1 => ?_) (fun h1 => ?_)
  ·try simp only [bs] at h1
   refine XW_sr ?_
   refine OW_fa rfl rfl rfl ?_
   refine OW_loadR hS1 (k := 0) rfl rfl rfl rfl rfl (by first | exact part_whole rfl rfl rfl | rfl) ?_
   refine OW_as rfl rfl ?_
   refine OW_nilE (e' := [_,_,_,_,_,_,_,_,_,_,_]) rfl ?_
   refine XW_ret ?_
   refine then_ret ?_
   refine ret_ret (res1 rfl (rv_tmp rfl)) (frz1 (Q := Q) (by first | exact freeze_plain rfl | exact Ls.freeze (by assumption) | exact Ls.freeze Ls.of | exact Ls.freeze Ls.emp | exact Ls.freeze Ls.nls) ?_)
   unfold Stp.bytes at hq; simp only [*, ne_eq, not_true_eq_false, not_false_eq_true, if_true, if_false] at hq; exact hq
  ·try simp only [bs] at h1
   refine XW_skip ?_
   refine then_norm ?_
   refine XW_sr ?_
   refine OW_fa rfl rfl rfl ?_
   refine OW_loadR hS1 (k := 0) rfl rfl rfl rfl rfl (by first | exact part_whole rfl rfl rfl | rfl) ?_
   refine OW_fn rfl rfl (p_packC h.m ?_) 
   refine OW_env (e' := [_,_,_,_,_,_,_,_,_,_,_]) rfl ?_
   refine OW_as rfl rfl ?_
   refine OW_nilE (e' := [_,_,_,_,_,_,_,_,_,_,_]) rfl ?_
   refine XW_ret ?_
   refine ret_ret (res1 rfl (rv_tmp rfl)) (frz1 (Q := Q) (by first | exact freeze_plain rfl | exact Ls.freeze (by assumption) | exact Ls.freeze Ls.of | exact Ls.freeze Ls.emp | exact Ls.freeze Ls.nls) ?_)
   unfold Stp.bytes at hq; simp only [*, ne_eq, not_true_eq_false, not_false_eq_true, if_true, if_false] at hq; exact hq
def Py.os (x : Py) : Rf := ((Rf.new x.d).issues x.key (x.iss.take 20)).2
theorem Py.stop {x : Py} {i : Nat} (hi : i ≤ 20) (h : x.iss.length ≤ i ∨ 20 ≤ i) : ((Rf.new x.d).issues x.key (x.iss.take i)).2 = x.os := by
  unfold Py.os
  rcases h with h | h
  · rw [List.take_of_length_le h, List.take_of_length_le (by omega)]
  · obtain rfl : i = 20 := by omega
    rfl
theorem oracle_c {x : Py} (hx : x.good) (hS : Own β ps H L) (hle : le ps ν) (hβ : under β ν = true) (hp : before ν pos')
    (hq : ∀ q H1, Own β pos' H1 (orc q x.os.of :: L) → Q (.ptr q 0 0) H1) : CW cfg ν 8 [x.enc] H Q := by
  have hil := hx.iss
  have hdl := hx.d
  refine CW_keep g8 F8 rfl ?_
  replace hS := Own.mono hS hle
  refine XW_sr ?_
  refine OW_boxR hS (le_app (p := ν) (b := [0, 0])) (under_app [0, 0] hβ) rfl rfl rfl ⟨rfl, rfl⟩ fun H1 hS1 => ?_
  replace hS1 : Own _ _ _ (_ :: L) := hS1
  refine OW_as rfl rfl ?_
  refine EZ38_CK18 rfl ?_
  refine XW_sr ?_
  refine OW_fa rfl rfl rfl ?_
  refine OW_loadR hS1 (k := 0) rfl rfl rfl rfl rfl (by first | exact part_whole rfl rfl rfl | rfl) ?_
  refine OW_fn rfl rfl (oNew hS1 (le_lit (ν := ν) (a := [1, 0]) (b := [2, 0, 1]) (by decide)) (under_app [2, 0, 1] hβ) (before_lit (ν := ν) (a := [2, 0, 1]) (b := [3, 0, 1]) (by decide)) Ls.of (by omega) fun q1 H2 hS2 => ?_) 
  replace hS2 : Own _ _ _ (_ :: _ :: L) := hS2
  refine EN38_CK18 rfl ?_
  refine OW_as rfl rfl ?_
  refine EZ38_CK18 rfl ?_
  refine XW_seq ?_
  refine XW_sr ?_
  refine OW_as rfl rfl ?_
  refine EZ38_CK18 rfl ?_
  refine XW_block ?_
  refine XW_whileN (I := fun ν' mm ee H' => ∃ (i : Nat), mm = x.iss.length - i ∧ under (1 :: 0 :: 1 :: 1 :: ν) ν' = true ∧ Own β ν' H' (orc q1 ((Rf.new x.d).issues x.key (x.iss.take i)).2.of :: row (0 :: 0 :: ν) 7 [x.enc] :: L) ∧ (i ≤ x.iss.length ∧ i ≤ 20) ∧ ∃ g : Nat → AVal, ee = [g 0, .ptr (0 :: 0 :: ν) 0 0, g 2, .ptr q1 0 0, .int .i64 i, g 5, g 6, g 7, g 8, g 9, g 10, g 11, g 12, g 13, g 14, g 15, g 16, g 17, g 18, g 19, g 20, g 21, g 22, g 23, g 24, g 25, g 26, g 27, g 28, g 29, g 30, g 31, g 32, g 33, g 34, g 35, g 36, g 37]) ?_ _ _ _ _ ⟨0, rfl, under_me, Own.cast (Own.mono (hS2) (le_lit (ν := ν) (a := [3, 0, 1]) (b := [1, 0, 1, 1]) (by decide))) (rfl), (⟨Nat.zero_le _, by omega⟩), env_g rfl⟩
  rintro ν1 mm ee H3 ⟨i, rfl, hU1, hS3, ⟨hi, hi2⟩, g1, rfl⟩
  have hr := Rf.issues_rows (x.iss.take i) (S := Rf.new x.d) (key := x.key)
  rw [List.length_take] at hr
  refine XW_seq ?_
  refine XW_sr ?_
  refine OW_mv rfl rfl ?_
  refine OW_fa rfl rfl rfl ?_
  refine OW_loadR hS3 (k := 1) rfl rfl rfl rfl rfl (by first | exact part_whole rfl rfl rfl | rfl) ?_
  refine EN38_CK18 rfl ?_
  first
  | refine OW_lenL rfl rfl (by first | assumption | exact Ls.of | exact Ls.emp | exact Ls.nls) rfl rfl rfl (by first | exact List.length_map _ | rfl) ?_
  | refine OW_bi rfl rfl rfl ?_
  refine OW_bin rfl rfl rfl rfl rfl ?_
  refine OW_mv rfl rfl ?_
  refine EN38_CK18 rfl ?_
  refine OW_split (tt := 14) rfl (fun g3_6 => ?_) (fun g3_6 => ?_)
  ·try simp only [bs] at g3_6
   refine OW_mv rfl rfl ?_
   refine OW_bin rfl rfl rfl rfl rfl ?_
   refine EN38_CK18 rfl ?_
   refine OW_pick rfl rfl rfl ?_
   refine EZ38_CK18 rfl ?_
   refine XW_if rfl (fun h3 => ?_) (fun h3 => ?_)
   ·try simp only [bs] at h3
    refine XW_skip ?_
    refine then_norm ?_
    refine XW_seq ?_
    refine XW_block ?_
    refine XW_sr ?_
    refine OW_fa rfl rfl rfl ?_
    refine OW_loadR hS3 (k := 1) rfl rfl rfl rfl rfl (by first | exact part_whole rfl rfl rfl | rfl) ?_
    refine OW_mv rfl rfl ?_
    refine EN38_CK18 rfl ?_
    first
    | refine OW_iaL rfl rfl rfl Ls.of rfl rfl rfl (by first | rfl | exact (Int.toNat_of_nonneg (by omega)).symm) (by first | assumption | exact at_map (by first | assumption | omega) | exact at_lst (by omega) | rfl) rfl ?_
    | refine OW_iaL rfl rfl rfl (by assumption) rfl rfl rfl (by first | rfl | exact (Int.toNat_of_nonneg (by omega)).symm) (by first | assumption | exact at_map (by first | assumption | omega) | exact at_lst (by omega) | rfl) rfl ?_
    refine OW_loadE rfl rfl rfl (by first | exact part_whole rfl rfl rfl | rfl) ?_
    refine OW_allocR hS3 (le_app (p := ν1) (b := [5, 0, 0, 1, 0])) (under_app [5, 0, 0, 1, 0] (under_trans (under_app [1, 0, 1, 1] hβ) hU1)) rfl rfl rfl rfl fun H4 hS4 => ?_
    replace hS4 : Own _ _ _ (_ :: _ :: _ :: L) := hS4
    refine EN38_CK18 rfl ?_
    first
    | refine OW_storeR hS4 (k := 0) rfl le_refl rfl rfl rfl rfl ⟨rfl, rfl, Nat.le_of_ble_eq_true rfl⟩ (set_whole rfl rfl) fun H5 hS5 => ?_
    | refine OW_storeR hS4 (k := 0) rfl le_refl rfl rfl rfl rfl ⟨rfl, rfl, Nat.le_of_ble_eq_true rfl⟩ (u2 := .agg [_, _, _, _, _]) rfl fun H5 hS5 => ?_
    replace hS5 : Own _ _ _ (_ :: _ :: _ :: L) := hS5
    refine EZ38_CK18 rfl ?_
    refine XW_region ?_
    refine OW_mv rfl rfl ?_
    refine OW_fa rfl rfl rfl ?_
    refine OW_loadR hS5 (k := 2) rfl rfl rfl rfl rfl (by first | exact part_whole rfl rfl rfl | rfl) ?_
    refine EN38_CK18 rfl ?_
    refine OW_fa rfl rfl rfl ?_
    refine OW_loadR hS5 (k := 0) rfl rfl rfl rfl rfl (by first | exact part_whole rfl rfl rfl | rfl) ?_
    refine OW_fa rfl rfl rfl ?_
    refine EN38_CK18 rfl ?_
    refine OW_loadR hS5 (k := 0) rfl rfl rfl rfl rfl (by first | exact part_whole rfl rfl rfl | rfl) ?_
    refine OW_fa rfl rfl rfl ?_
    refine OW_loadR hS5 (k := 0) rfl rfl rfl rfl rfl (by first | exact part_whole rfl rfl rfl | rfl) ?_
    refine EN38_CK18 rfl ?_
    refine OW_fa rfl rfl rfl ?_
    refine OW_loadR hS5 (k := 0) rfl rfl rfl rfl rfl (by first | exact part_whole rfl rfl rfl | rfl) ?_
    refine OW_fn rfl rfl (issueW hS5 (k := 1) rfl (le_lit (ν := ν1) (a := [7, 0, 0, 1, 0]) (b := [11, 1, 0, 1, 0]) (by decide)) (under_app [11, 1, 0, 1, 0] (under_trans (under_app [1, 0, 1, 1] hβ) hU1)) (before_lit (ν := ν1) (a := [11, 1, 0, 1, 0]) (b := [12, 1, 0, 1, 0]) (by decide)) (by show _ ≤ _; have : (Rf.new x.d).rows.length = 0 := rfl; omega) x.key x.iss[i] (hx.ifit _ (List.getElem_mem (by omega))) fun H6 hS6 => ?_) 
    replace hS6 : Own _ _ _ (_ :: _ :: _ :: L) := hS6
    refine EZ38_CK18 rfl ?_
    refine block_norm ?_
    refine then_norm ?_
    refine XW_region ?_
    refine OW_mv rfl rfl ?_
    first
    | refine OW_bin rfl rfl rfl rfl (add_w64 (by first | omega | assumption | (simp only [ss]; omega))) ?_
    | refine OW_bin rfl rfl rfl rfl rfl ?_
    refine OW_as rfl rfl ?_
    refine EZ38_CK18 rfl ?_
    have hSd1 : Own _ _ _ (_ :: _ :: L) := (Own.drop hS6 (k := 0) rfl)
    refine ⟨_, ?_, i + 1, rfl, under_in hU1, Own.cast (Own.mono (hSd1) (le_lit (ν := ν1) (a := [12, 1, 0, 1, 0]) (b := [1]) (by decide))) (by rw [Rf.issues_step (by omega)]), ?_, env_g rfl⟩
    · first | omega | (simp; omega)
    · exact ⟨by omega, by omega⟩
   ·try simp only [bs] at h3
    refine XW_exit ?_
    refine then_exit ?_
    refine block_exit ?_
    refine then_norm ?_
    refine XW_sr ?_
    refine OW_mv rfl rfl ?_
    refine OW_as rfl rfl ?_
    refine EZ38_CK18 rfl ?_
    refine XW_ret ?_
    refine ret_ret (res1 rfl (rv_tmp rfl)) ?_
    have he := Py.stop (x := x) hi2 (by omega)
    refine hq _ _ (Own.cast (Own.drop (Own.mono hS3 (le_bef (bef_under (a := []) hU1 (bef_app (a := [1, 0, 1, 1]) hp)))) (k := 1) rfl) (by rw [he]; rfl))
  ·try simp only [bs] at g3_6
   refine OW_no rfl ?_
   refine OW_no rfl ?_
   refine EN38_CK18 rfl ?_
   refine OW_pick rfl rfl rfl ?_
   refine EZ38_CK18 rfl ?_
   refine XW_no rfl rfl ?_
   refine XW_exit ?_
   refine then_exit ?_
   refine block_exit ?_
   refine then_norm ?_
   refine XW_sr ?_
   refine OW_mv rfl rfl ?_
   refine OW_as rfl rfl ?_
   refine EZ38_CK18 rfl ?_
   refine XW_ret ?_
   refine ret_ret (res1 rfl (rv_tmp rfl)) ?_
   have he := Py.stop (x := x) hi2 (by omega)
   refine hq _ _ (Own.cast (Own.drop (Own.mono hS3 (le_bef (bef_under (a := []) hU1 (bef_app (a := [1, 0, 1, 1]) hp)))) (k := 1) rfl) (by rw [he]; rfl))
def stepS (key : Int) (p : Ck × Rf) (y : Stp) : Ck × Rf := ((applyR p.2 key p.1 y.id y.nr y.bytes).1.c, (applyR p.2 key p.1 y.id y.nr y.bytes).2)
def afterS (S : Rf) (key : Int) (c : Ck) (l : List Stp) : Ck × Rf := l.foldl (stepS key) (c, S)
theorem afterS_step {l : List Stp} {i : Nat} (h : i < l.length) : afterS S key c (l.take (i + 1)) = stepS key (afterS S key c (l.take i)) l[i] := by
  unfold afterS
  rw [List.take_succ_eq_append_getElem h, List.foldl_append]; rfl
theorem stepS_good {p : Ck × Rf} {y : Stp} (hg : p.1.good) (hy : y.fit) : (stepS key p y).1.good := applyR_good hg hy.id hy.nr hy.bytes
theorem afterS_good : ∀ {l : List Stp} {c : Ck} {S : Rf}, c.good → (∀ y ∈ l, y.fit) → (afterS S key c l).1.good
  | [], _, _, h, _ => h
  | y :: l, c, S, h, hl => afterS_good (l := l) (stepS_good (p := (c, S)) h (hl y (by simp))) fun z hz => hl z (by simp [hz])
theorem afterS_stop {l : List Stp} {i : Nat} (hi : i ≤ 60) (h : l.length ≤ i ∨ 60 ≤ i) : l.take i = l.take 60 := by
  rcases h with h | h
  · rw [List.take_of_length_le h, List.take_of_length_le (by omega)]
  · obtain rfl : i = 60 := by omega
    rfl
theorem after_c {x : Py} (hx : x.good) (hg : x.c.good) (hS : Own β ps H L) (hL : L[k]? = some (orc qo S.of)) (hle : le ps ν) (hβ : under β ν = true) (hp : before ν pos')
    (hq : ∀ H1, Own β pos' H1 (L.set k (orc qo (afterS S x.key x.c (x.l.take 60)).2.of)) → Q (afterS S x.key x.c (x.l.take 60)).1.enc H1) : CW cfg ν 11 [.ptr qo 0 0, x.enc] H Q := by
  have hll := hx.l
  replace hS := hS.pick hL
  refine CW_keep g11 F11 rfl ?_
  replace hS := Own.mono hS hle
  refine XW_sr ?_
  refine OW_boxR hS (le_app (p := ν) (b := [0, 0])) (under_app [0, 0] hβ) rfl rfl rfl ⟨rfl, rfl⟩ fun H1 hS1 => ?_
  replace hS1 : Own _ _ _ (_ :: _ :: L.eraseIdx k) := hS1
  refine OW_allocR hS1 le_refl (under_app [1, 0] hβ) rfl rfl rfl rfl fun H2 hS2 => ?_
  replace hS2 : Own _ _ _ (_ :: _ :: _ :: L.eraseIdx k) := hS2
  refine EZ47_CK18 rfl ?_
  refine XW_sr ?_
  refine OW_fa rfl rfl rfl ?_
  refine OW_loadR hS2 (k := 1) rfl rfl rfl rfl rfl (by first | exact part_whole rfl rfl rfl | rfl) ?_
  refine OW_fn rfl rfl (copy_c Ls.of Ls.of Ls.of hS2 (le_lit (ν := ν) (a := [2, 0]) (b := [2, 0, 1]) (by decide)) (under_app [2, 0, 1] hβ) (before_lit (ν := ν) (a := [2, 0, 1]) (b := [3, 0, 1]) (by decide)) hg.sm fun H3 hS3 => ?_) 
  replace hS3 : Own _ _ _ (_ :: _ :: _ :: L.eraseIdx k) := hS3
  refine EN47_CK18 rfl ?_
  refine OW_allocR hS3 le_refl (under_app [3, 0, 1] hβ) rfl rfl rfl rfl fun H4 hS4 => ?_
  replace hS4 : Own _ _ _ (_ :: _ :: _ :: _ :: L.eraseIdx k) := hS4
  first
  | refine OW_storeR hS4 (k := 0) rfl le_refl rfl rfl rfl rfl ⟨rfl, rfl, Nat.le_of_ble_eq_true rfl⟩ (set_whole rfl rfl) fun H5 hS5 => ?_
  | refine OW_storeR hS4 (k := 0) rfl le_refl rfl rfl rfl rfl ⟨rfl, rfl, Nat.le_of_ble_eq_true rfl⟩ (u2 := .agg [_, _, _]) rfl fun H5 hS5 => ?_
  replace hS5 : Own _ _ _ (_ :: _ :: _ :: _ :: L.eraseIdx k) := hS5
  refine EZ47_CK18 rfl ?_
  refine XW_seq ?_
  refine XW_sr ?_
  refine OW_as rfl rfl ?_
  refine EZ47_CK18 rfl ?_
  refine XW_block ?_
  refine XW_whileN (I := fun ν' mm ee H' => ∃ (i : Nat), mm = x.l.length - i ∧ under (1 :: 0 :: 1 :: 1 :: ν) ν' = true ∧ Own β ν' H' (row (3 :: 0 :: 1 :: ν) 3 [(afterS S x.key x.c (x.l.take i)).1.enc] :: row (1 :: 0 :: ν) 3 [.agg [.emp, .emp, .emp]] :: row (0 :: 0 :: ν) 7 [x.enc] :: orc qo (afterS S x.key x.c (x.l.take i)).2.of :: L.eraseIdx k) ∧ (i ≤ x.l.length ∧ i ≤ 60) ∧ ∃ g : Nat → AVal, ee = [.ptr qo 0 0, g 1, g 2, .ptr (0 :: 0 :: ν) 0 0, .ptr (1 :: 0 :: ν) 0 0, .ptr (3 :: 0 :: 1 :: ν) 0 0, .int .i64 i, g 7, g 8, g 9, g 10, g 11, g 12, g 13, g 14, g 15, g 16, g 17, g 18, g 19, g 20, g 21, g 22, g 23, g 24, g 25, g 26, g 27, g 28, g 29, g 30, g 31, g 32, g 33, g 34, g 35, g 36, g 37, g 38, g 39, g 40, g 41, g 42, g 43, g 44, g 45, g 46]) ?_ _ _ _ _ ⟨0, rfl, under_me, Own.cast (Own.mono (hS5) (le_lit (ν := ν) (a := [5, 0, 1]) (b := [1, 0, 1, 1]) (by decide))) (rfl), (⟨by omega, by omega⟩), env_g rfl⟩
  rintro ν1 mm ee H6 ⟨i, rfl, hU1, hS6, ⟨hi, hi2⟩, g1, rfl⟩
  have hgi := afterS_good (S := S) (key := x.key) (l := x.l.take i) hg fun y hy => hx.lfit y (List.mem_of_mem_take hy)
  refine XW_seq ?_
  refine XW_sr ?_
  refine OW_mv rfl rfl ?_
  refine OW_fa rfl rfl rfl ?_
  refine OW_loadR hS6 (k := 2) rfl rfl rfl rfl rfl (by first | exact part_whole rfl rfl rfl | rfl) ?_
  refine EN47_CK18 rfl ?_
  first
  | refine OW_lenL rfl rfl (by first | assumption | exact Ls.of | exact Ls.emp | exact Ls.nls) rfl rfl rfl (by first | exact List.length_map _ | rfl) ?_
  | refine OW_bi rfl rfl rfl ?_
  refine OW_bin rfl rfl rfl rfl rfl ?_
  refine OW_mv rfl rfl ?_
  refine EN47_CK18 rfl ?_
  refine OW_split (tt := 19) rfl (fun g3_6 => ?_) (fun g3_6 => ?_)
  ·try simp only [bs] at g3_6
   refine OW_mv rfl rfl ?_
   refine OW_bin rfl rfl rfl rfl rfl ?_
   refine EN47_CK18 rfl ?_
   refine OW_pick rfl rfl rfl ?_
   refine EZ47_CK18 rfl ?_
   refine XW_if rfl (fun h3 => ?_) (fun h3 => ?_)
   ·try simp only [bs] at h3
    refine XW_skip ?_
    refine then_norm ?_
    refine XW_seq ?_
    refine XW_block ?_
    refine XW_sr ?_
    have hyf := hx.lfit x.l[i] (List.getElem_mem (by omega))
    refine OW_fa rfl rfl rfl ?_
    refine OW_loadR hS6 (k := 2) rfl rfl rfl rfl rfl (by first | exact part_whole rfl rfl rfl | rfl) ?_
    refine OW_mv rfl rfl ?_
    refine EN47_CK18 rfl ?_
    first
    | refine OW_iaL rfl rfl rfl Ls.of rfl rfl rfl (by first | rfl | exact (Int.toNat_of_nonneg (by omega)).symm) (by first | assumption | exact at_map (by first | assumption | omega) | exact at_lst (by omega) | rfl) rfl ?_
    | refine OW_iaL rfl rfl rfl (by assumption) rfl rfl rfl (by first | rfl | exact (Int.toNat_of_nonneg (by omega)).symm) (by first | assumption | exact at_map (by first | assumption | omega) | exact at_lst (by omega) | rfl) rfl ?_
    refine OW_loadE rfl rfl rfl (by first | exact part_whole rfl rfl rfl | rfl) ?_
    refine OW_allocR hS6 (le_app (p := ν1) (b := [5, 0, 0, 1, 0])) (under_app [5, 0, 0, 1, 0] (under_trans (under_app [1, 0, 1, 1] hβ) hU1)) rfl rfl rfl rfl fun H7 hS7 => ?_
    replace hS7 : Own _ _ _ (_ :: _ :: _ :: _ :: _ :: L.eraseIdx k) := hS7
    refine EN47_CK18 rfl ?_
    first
    | refine OW_storeR hS7 (k := 0) rfl le_refl rfl rfl rfl rfl ⟨rfl, rfl, Nat.le_of_ble_eq_true rfl⟩ (set_whole rfl rfl) fun H8 hS8 => ?_
    | refine OW_storeR hS7 (k := 0) rfl le_refl rfl rfl rfl rfl ⟨rfl, rfl, Nat.le_of_ble_eq_true rfl⟩ (u2 := .agg [_, _, _, _, _, _, _, _, _, _, _, _, _, _]) rfl fun H8 hS8 => ?_
    replace hS8 : Own _ _ _ (_ :: _ :: _ :: _ :: _ :: L.eraseIdx k) := hS8
    refine EZ47_CK18 rfl ?_
    refine XW_sr ?_
    refine OW_mv rfl rfl ?_
    refine OW_fa rfl rfl rfl ?_
    refine OW_loadR hS8 (k := 3) rfl rfl rfl rfl rfl (by first | exact part_whole rfl rfl rfl | rfl) ?_
    refine EN47_CK18 rfl ?_
    refine OW_loadR hS8 (k := 1) rfl rfl rfl rfl rfl (by first | exact part_whole rfl rfl rfl | rfl) ?_
    refine OW_fa rfl rfl rfl ?_
    refine OW_loadR hS8 (k := 0) rfl rfl rfl rfl rfl (by first | exact part_whole rfl rfl rfl | rfl) ?_
    refine EN47_CK18 rfl ?_
    refine OW_fa rfl rfl rfl ?_
    refine OW_loadR hS8 (k := 0) rfl rfl rfl rfl rfl (by first | exact part_whole rfl rfl rfl | rfl) ?_
    refine OW_loadR hS8 (k := 0) rfl rfl rfl rfl rfl (by first | exact part_whole rfl rfl rfl | rfl) ?_
    refine EN47_CK18 rfl ?_
    refine OW_fn rfl rfl (bytes_c hyf ?_) 
    refine OW_fn rfl rfl (apply_c hgi hyf.bytes Ls.of Ls.of Ls.of hS8 (k := 4) rfl (le_lit (ν := ν1) (a := [7, 0, 0, 1, 0]) (b := [10, 0, 1, 0, 1, 0]) (by decide)) (under_app [10, 0, 1, 0, 1, 0] (under_trans (under_app [1, 0, 1, 1] hβ) hU1)) (before_lit (ν := ν1) (a := [10, 0, 1, 0, 1, 0]) (b := [11, 0, 1, 0, 1, 0]) (by decide)) fun H9 hS9 => ?_) 
    replace hS9 : Own _ _ _ (_ :: _ :: _ :: _ :: _ :: L.eraseIdx k) := hS9
    refine OW_mv rfl rfl ?_
    refine EN47_CK18 rfl ?_
    refine OW_ex rfl rfl rfl ?_
    refine OW_ex rfl rfl rfl ?_
    refine OW_ex rfl rfl rfl ?_
    refine EN47_CK18 rfl ?_
    refine OW_allocR hS9 (le_lit (ν := ν1) (a := [11, 0, 1, 0, 1, 0]) (b := [15, 0, 1, 0, 1, 0]) (by decide)) (under_app [15, 0, 1, 0, 1, 0] (under_trans (under_app [1, 0, 1, 1] hβ) hU1)) rfl rfl rfl rfl fun H10 hS10 => ?_
    replace hS10 : Own _ _ _ (_ :: _ :: _ :: _ :: _ :: _ :: L.eraseIdx k) := hS10
    first
    | refine OW_storeR hS10 (k := 0) rfl le_refl rfl rfl rfl rfl ⟨rfl, rfl, Nat.le_of_ble_eq_true rfl⟩ (set_whole rfl rfl) fun H11 hS11 => ?_
    | refine OW_storeR hS10 (k := 0) rfl le_refl rfl rfl rfl rfl ⟨rfl, rfl, Nat.le_of_ble_eq_true rfl⟩ (u2 := .agg [_, _, _]) rfl fun H11 hS11 => ?_
    replace hS11 : Own _ _ _ (_ :: _ :: _ :: _ :: _ :: _ :: L.eraseIdx k) := hS11
    refine OW_as rfl rfl ?_
    refine EN47_CK18 rfl ?_
    refine OW_as rfl rfl ?_
    refine EZ47_CK18 rfl ?_
    refine XW_region ?_
    refine OW_loadR hS11 (k := 0) rfl rfl rfl rfl rfl (by first | exact part_whole rfl rfl rfl | rfl) ?_
    first
    | refine OW_storeR hS11 (k := 2) rfl (le_lit (ν := ν1) (a := [17, 0, 1, 0, 1, 0]) (b := [1, 1, 1, 0, 1, 0]) (by decide)) rfl rfl rfl rfl ⟨rfl, rfl, Nat.le_of_ble_eq_true rfl⟩ (set_whole rfl rfl) fun H12 hS12 => ?_
    | refine OW_storeR hS11 (k := 2) rfl (le_lit (ν := ν1) (a := [17, 0, 1, 0, 1, 0]) (b := [1, 1, 1, 0, 1, 0]) (by decide)) rfl rfl rfl rfl ⟨rfl, rfl, Nat.le_of_ble_eq_true rfl⟩ (u2 := .agg [_, _, _]) rfl fun H12 hS12 => ?_
    replace hS12 : Own _ _ _ (_ :: _ :: _ :: _ :: _ :: _ :: L.eraseIdx k) := hS12
    refine EZ47_CK18 rfl ?_
    refine block_norm ?_
    refine then_norm ?_
    refine XW_region ?_
    refine OW_mv rfl rfl ?_
    first
    | refine OW_bin rfl rfl rfl rfl (add_w64 (by first | omega | assumption | (simp only [ss]; omega))) ?_
    | refine OW_bin rfl rfl rfl rfl rfl ?_
    refine OW_as rfl rfl ?_
    refine EZ47_CK18 rfl ?_
    have hSd1 : Own _ _ _ (_ :: _ :: _ :: _ :: L.eraseIdx k) := (Own.drop (Own.drop hS12 (k := 0) rfl) (k := 0) rfl)
    refine ⟨_, ?_, i + 1, rfl, under_in hU1, Own.cast (Own.mono (hSd1) (le_lit (ν := ν1) (a := [2, 1, 1, 0, 1, 0]) (b := [1]) (by decide))) (by rw [afterS_step (by omega)]; rfl), ?_, env_g rfl⟩
    · first | omega | (simp; omega)
    · exact ⟨by omega, by omega⟩
   ·try simp only [bs] at h3
    refine XW_exit ?_
    refine then_exit ?_
    refine block_exit ?_
    refine then_norm ?_
    refine XW_sr ?_
    refine OW_loadR hS6 (k := 0) rfl rfl rfl rfl rfl (by first | exact part_whole rfl rfl rfl | rfl) ?_
    first
    | refine OW_storeR hS6 (k := 1) rfl (le_bef (bef_under (a := []) hU1 (before_lit (ν := ν) (a := [1, 0, 1, 1]) (b := [1, 0, 1, 1, 1]) (by decide)))) rfl rfl rfl rfl ⟨rfl, rfl, Nat.le_of_ble_eq_true rfl⟩ (set_whole rfl rfl) fun H13 hS13 => ?_
    | refine OW_storeR hS6 (k := 1) rfl (le_bef (bef_under (a := []) hU1 (before_lit (ν := ν) (a := [1, 0, 1, 1]) (b := [1, 0, 1, 1, 1]) (by decide)))) rfl rfl rfl rfl ⟨rfl, rfl, Nat.le_of_ble_eq_true rfl⟩ (u2 := .agg [_, _, _]) rfl fun H13 hS13 => ?_
    replace hS13 : Own _ _ _ (_ :: _ :: _ :: _ :: L.eraseIdx k) := hS13
    refine EZ47_CK18 rfl ?_
    refine XW_ret ?_
    refine ret_ret (res1 rfl (rv_cellR hS13 (k := 1) rfl rfl rfl rfl (by first | exact part_whole rfl rfl rfl | rfl))) ?_
    have he := afterS_stop (l := x.l) hi2 (by omega)
    have hz := Own.unpick (Own.drop0 (Own.drop0 (Own.drop0 (Own.mono hS13 (le_bef (bef_app (a := [2, 0, 1, 1, 1]) hp)))))) hL
    rw [he] at hz ⊢; exact hq _ hz
  ·try simp only [bs] at g3_6
   refine OW_no rfl ?_
   refine OW_no rfl ?_
   refine EN47_CK18 rfl ?_
   refine OW_pick rfl rfl rfl ?_
   refine EZ47_CK18 rfl ?_
   refine XW_no rfl rfl ?_
   refine XW_exit ?_
   refine then_exit ?_
   refine block_exit ?_
   refine then_norm ?_
   refine XW_sr ?_
   refine OW_loadR hS6 (k := 0) rfl rfl rfl rfl rfl (by first | exact part_whole rfl rfl rfl | rfl) ?_
   first
   | refine OW_storeR hS6 (k := 1) rfl (le_bef (bef_under (a := []) hU1 (before_lit (ν := ν) (a := [1, 0, 1, 1]) (b := [1, 0, 1, 1, 1]) (by decide)))) rfl rfl rfl rfl ⟨rfl, rfl, Nat.le_of_ble_eq_true rfl⟩ (set_whole rfl rfl) fun H14 hS14 => ?_
   | refine OW_storeR hS6 (k := 1) rfl (le_bef (bef_under (a := []) hU1 (before_lit (ν := ν) (a := [1, 0, 1, 1]) (b := [1, 0, 1, 1, 1]) (by decide)))) rfl rfl rfl rfl ⟨rfl, rfl, Nat.le_of_ble_eq_true rfl⟩ (u2 := .agg [_, _, _]) rfl fun H14 hS14 => ?_
   replace hS14 : Own _ _ _ (_ :: _ :: _ :: _ :: L.eraseIdx k) := hS14
   refine EZ47_CK18 rfl ?_
   refine XW_ret ?_
   refine ret_ret (res1 rfl (rv_cellR hS14 (k := 1) rfl rfl rfl rfl (by first | exact part_whole rfl rfl rfl | rfl))) ?_
   have he := afterS_stop (l := x.l) hi2 (by omega)
   have hz := Own.unpick (Own.drop0 (Own.drop0 (Own.drop0 (Own.mono hS14 (le_bef (bef_app (a := [2, 0, 1, 1, 1]) hp)))))) hL
   rw [he] at hz ⊢; exact hq _ hz
end Go.Proofs.Ytfkgdlfponfimaa.X
/- Layer 13: what a command leaves of the volumes. -/
set_option linter.unusedVariables false
set_option linter.unusedSimpArgs false
set_option maxRecDepth 100000
namespace Go.Proofs.Ytfkgdlfponfimaa.X
open Go Go.RowKit WM
variable {S : Rf} {c : Ck} {key want id nr vo ep : Int} {m : Cm} {cmd : ByteArray}
structure Ext (vo : Int) (c d : Ck) : Prop where
  len : c.vs.length ≤ d.vs.length
  each : ∀ i (h : i < c.vs.length) (h' : i < d.vs.length), d.vs[i].vo = c.vs[i].vo ∧ c.vs[i].ep ≤ d.vs[i].ep ∧ d.vs[i].tn = c.vs[i].tn ∧ (c.vs[i].vo ≠ vo → d.vs[i] = c.vs[i])
theorem ext_of {d : Ck} (h : d.vs = c.vs) : Ext vo c d := by
  obtain ⟨a, b, e⟩ := d
  subst h
  exact ⟨Nat.le_refl _, fun i h h' => ⟨rfl, Int.le_refl _, rfl, fun _ => rfl⟩⟩
theorem ext_app {x : Vo} {ss : List SE.Se} {qs : List Qu} : Ext vo c ⟨c.vs ++ [x], ss, qs⟩ := by
  refine ⟨by simp, fun i h h' => ?_⟩
  have : (c.vs ++ [x])[i]'h' = c.vs[i] := List.getElem_append_left h
  show (c.vs ++ [x])[i].vo = _ ∧ _
  rw [this]
  exact ⟨rfl, Int.le_refl _, rfl, fun _ => rfl⟩
theorem ext_set {i : Nat} {y : Vo} {ss : List SE.Se} {qs : List Qu} (hi : i < c.vs.length) (hv : c.vs[i].vo = vo) (h1 : y.vo = c.vs[i].vo) (h2 : c.vs[i].ep ≤ y.ep) (h3 : y.tn = c.vs[i].tn) : Ext vo c ⟨c.vs.set i y, ss, qs⟩ := by
  refine ⟨by simp, fun j h h' => ?_⟩
  show (c.vs.set i y)[j].vo = _ ∧ _ ≤ (c.vs.set i y)[j].ep ∧ (c.vs.set i y)[j].tn = _ ∧ (_ → (c.vs.set i y)[j] = _)
  rw [List.getElem_set]
  split
  · rename_i e; subst e; exact ⟨h1, h2, h3, fun h => absurd hv h⟩
  · exact ⟨rfl, Int.le_refl _, rfl, fun _ => rfl⟩
theorem ext_setL {i : Nat} {s : ByteArray} (h1 : atP m.vo c.vs = i) (hi : i < c.vs.length) (hv : c.vs[i].vo = m.vo) (qs : List Qu) : Ext m.vo c { c.setL m s with qs := qs } := by
  rw [setL_at h1 hi]
  exact ext_set (y := { c.vs[i] with lv := c.vs[i].lv.set m.se.toNat s }) hi hv rfl (Int.le_refl _) rfl
theorem leafR_ext {f : Ck → Cm → Rs} (hg : c.good) (hf : ∀ i, atP m.vo c.vs = (i : Nat) → (hi : i < c.vs.length) → c.vs[i].vo = m.vo → Ext m.vo c (f c m).c) : Ext m.vo c (leafR S key c m want f).1.c := by
  by_cases he : (leafE S key c m want).1 = 0
  · rw [leafR_ok he]
    obtain ⟨i, hi, h1, h2, _⟩ := leaf_at hg he
    exact hf i h1 hi h2
  · rw [leafR_err he]; exact ext_of rfl
theorem runR_ext (hg : c.good) : Ext m.vo c (runR S key c m).1.c := by
  unfold runR
  split
  · unfold makeR
    split
    · exact ext_of rfl
    · split
      · exact ext_of rfl
      · split
        · exact ext_of rfl
        · exact ext_app
  · split
    · unfold epochR
      split
      · exact ext_of rfl
      · rename_i h
        obtain ⟨i, hi, h1, h2, h3⟩ := atP_good hg h
        rw [at_eq h1 hi, setV_eq h1]
        exact ext_set (y := { c.vs[i] with ep := max c.vs[i].ep m.a }) hi h2 rfl (Int.le_max_left _ _) rfl
    · split
      · unfold limitR; split <;> exact ext_of rfl
      · split
        · refine leafR_ext hg fun i h1 hi hv => ?_
          unfold putR
          split
          · exact ext_of rfl
          · split
            · split
              · exact ext_of rfl
              · exact ext_setL h1 hi hv _
            · exact ext_setL h1 hi hv c.qs
        · split
          · exact leafR_ext hg fun i h1 hi hv => ext_of rfl
          · split
            · refine leafR_ext hg fun i h1 hi hv => ?_
              unfold trimR
              split
              · exact ext_of rfl
              · split
                · exact ext_setL h1 hi hv _
                · exact ext_setL h1 hi hv c.qs
            · exact ext_of rfl
def Ge (vo ep : Int) (c : Ck) : Prop := ∃ (i : Nat) (hi : i < c.vs.length), c.vs[i].vo = vo ∧ ep ≤ c.vs[i].ep
theorem Ge.ext {d : Ck} {w : Int} (h : Ge vo ep c) (he : Ext w c d) : Ge vo ep d := by
  obtain ⟨i, hi, h1, h2⟩ := h
  have hi' : i < d.vs.length := Nat.lt_of_lt_of_le hi he.len
  obtain ⟨e1, e2, _⟩ := he.each i hi hi'
  exact ⟨i, hi', by rw [e1]; exact h1, Int.le_trans h2 e2⟩
theorem applyR_ext (hg : c.good) : ∃ w, Ext w c (applyR S key c id nr cmd).1.c := by
  unfold applyR
  split
  · exact ⟨0, ext_of rfl⟩
  · split
    · exact ⟨0, ext_of rfl⟩
    · split
      · obtain ⟨h1, h2⟩ := runR_ext (S := S) (key := key) (m := (unpC cmd).1) hg
        exact ⟨(unpC cmd).1.vo, h1, h2⟩
      · exact ⟨0, ext_of rfl⟩
theorem Ge.after : ∀ {l : List Stp} {c : Ck} {S : Rf}, Ge vo ep c → c.good → (∀ y ∈ l, y.fit) → Ge vo ep (afterS S key c l).1
  | [], _, _, h, _, _ => h
  | y :: l, c, S, h, hg, hl => by
    obtain ⟨w, hw⟩ := applyR_ext (S := S) (key := key) (id := y.id) (nr := y.nr) (cmd := y.bytes) hg
    exact Ge.after (l := l) (c := (stepS key (c, S) y).1) (S := (stepS key (c, S) y).2) (h.ext hw) (stepS_good (p := (c, S)) hg (hl y (by simp))) fun z hz => hl z (by simp [hz])
theorem Ge.at (h : Ge vo ep c) (hg : c.good) : ∃ (i : Nat) (hi : i < c.vs.length), atP vo c.vs = i ∧ ep ≤ c.vs[i].ep := by
  obtain ⟨i, hi, h1, h2⟩ := h
  exact ⟨i, hi, by rw [← h1]; exact nodup_atP hg.nd hi, h2⟩
theorem epoch_ge (hg : c.good) (hm : m.d = 1) (he : (runR S key c m).1.e = 0) : Ge m.vo m.a (runR S key c m).1.c := by
  rw [runR_1 hm] at he ⊢
  show Ge m.vo m.a (epochR c m).c
  have he : (epochR c m).e = 0 := he
  unfold epochR at he ⊢
  split at he
  · exact absurd he (show ¬ (132 : Int) = 0 by decide)
  · rename_i h
    rw [if_neg h]
    obtain ⟨i, hi, h1, h2, h3⟩ := atP_good hg h
    rw [at_eq h1 hi, setV_eq h1]
    exact ⟨i, by simpa [err] using hi, by simp [err, h2], by simp [err]; omega⟩
theorem epoch_no (hm : m.d = 1) (he : (runR S key c m).1.e ≠ 0) : (runR S key c m).1.e = 132 ∧ atP m.vo c.vs < 0 := by
  rw [runR_1 hm] at he ⊢
  have he : (epochR c m).e ≠ 0 := he
  show (epochR c m).e = 132 ∧ _
  unfold epochR at he ⊢
  split at he
  · rename_i h; rw [if_pos h]; exact ⟨rfl, h⟩
  · exact absurd rfl he
theorem old_no (hg : c.good) (h : Ge m.vo ep c) (ht : m.t.ep < ep) (hd : 3 ≤ m.d ∧ m.d ≤ 5) : (runR S key c m).1.e ≠ 0 ∧ (runR S key c m).1.an = ⟨#[]⟩ ∧ (runR S key c m).1.c = c := by
  obtain ⟨i, hi, h1, h2⟩ := h.at hg
  have hck : ∀ w, (leafE S key c m w).1 ≠ 0 := fun w => by
    rw [leafE_at h1 hi]
    have : (S.check key m.t m.vo c.vs[i].ep w).1 ≠ 0 := by
      show Rf.ans _ m.t m.vo c.vs[i].ep w ≠ 0
      unfold Rf.ans
      split
      · decide
      · split
        · decide
        · rw [if_pos (by omega)]; decide
    rw [if_pos this]; exact this
  have fin : ∀ w f, runR S key c m = leafR S key c m w f → (runR S key c m).1.e ≠ 0 ∧ (runR S key c m).1.an = ⟨#[]⟩ ∧ (runR S key c m).1.c = c := fun w f e => by
    rw [e, leafR_err (hck w)]; exact ⟨hck w, rfl, rfl⟩
  rcases (by omega : m.d = 3 ∨ m.d = 4 ∨ m.d = 5) with h | h | h
  · exact fin _ _ (runR_3 h)
  · exact fin _ _ (runR_4 h)
  · exact fin _ _ (runR_5 h)
end Go.Proofs.Ytfkgdlfponfimaa.X
/- Layer 13: what the statements' sizes say of their arguments. -/
set_option linter.unusedVariables false
set_option linter.unusedSimpArgs false
set_option maxRecDepth 100000
namespace Go.Proofs.Ytfkgdlfponfimaa.X
open Go Go.RowKit WM
structure A2 where
  a : Int
  b : Int
def A2.enc (x : A2) : AVal := .agg [.int .u64 x.a, .int .u64 x.b]
def A2.Q (x : A2) (n : Nat) : Prop := Open.QSt (Open.QPair (Open.QInt .u64) (Open.QInt .u64)) (x.a, x.b) n
theorem A2.ok {a : A2} {n : Nat} (h : A2.Q a n) : (0 ≤ a.a ∧ a.a ≤ 18446744073709551615) ∧ (0 ≤ a.b ∧ a.b ≤ 18446744073709551615) := by
  obtain ⟨mm, hm, ⟨m0, k0, e0, h0, h1⟩⟩ := h
  exact ⟨(in_u64 h0), (in_u64 h1)⟩
theorem A2.Q_mono {a : A2} {n m : Nat} (h : A2.Q a n) (hm : n ≤ m) : A2.Q a m := let ⟨k, h1, h2⟩ := h; ⟨k, Nat.le_trans h1 hm, h2⟩
theorem A2.Q.pos {a : A2} {n : Nat} (h : A2.Q a n) : 1 ≤ n := let ⟨k, h1, _⟩ := h; by omega
def Tk.Q (x : Tk) (n : Nat) : Prop := Open.QSt (Open.QPair (Open.QInt .u64) (Open.QPair (Open.QInt .u64) (Open.QPair (Open.QInt .u64) (Open.QPair (Open.QInt .u64) (Open.QInt .u64))))) (x.tn, x.vo, x.ep, x.ri, x.tag) n
theorem Tk.ok {a : Tk} {n : Nat} (h : Tk.Q a n) : (0 ≤ a.tn ∧ a.tn ≤ 18446744073709551615) ∧ (0 ≤ a.vo ∧ a.vo ≤ 18446744073709551615) ∧ (0 ≤ a.ep ∧ a.ep ≤ 18446744073709551615) ∧ (0 ≤ a.ri ∧ a.ri ≤ 18446744073709551615) ∧ (0 ≤ a.tag ∧ a.tag ≤ 18446744073709551615) := by
  obtain ⟨mm, hm, ⟨m0, k0, e0, h0, ⟨m1, k1, e1, h1, ⟨m2, k2, e2, h2, ⟨m3, k3, e3, h3, h4⟩⟩⟩⟩⟩ := h
  exact ⟨(in_u64 h0), (in_u64 h1), (in_u64 h2), (in_u64 h3), (in_u64 h4)⟩
theorem Tk.Q_mono {a : Tk} {n m : Nat} (h : Tk.Q a n) (hm : n ≤ m) : Tk.Q a m := let ⟨k, h1, h2⟩ := h; ⟨k, Nat.le_trans h1 hm, h2⟩
theorem Tk.Q.pos {a : Tk} {n : Nat} (h : Tk.Q a n) : 1 ≤ n := let ⟨k, h1, _⟩ := h; by omega
def Cm.Q (x : Cm) (n : Nat) : Prop := Open.QSt (Open.QPair (Open.QInt .i64) (Open.QPair Tk.Q (Open.QPair (Open.QInt .u64) (Open.QPair (Open.QInt .u64) (Open.QPair (Open.QInt .u64) (Open.QPair (Open.QInt .u64) Open.QStr)))))) (x.d, x.t, x.vo, x.se, x.a, x.b, x.lf) n
theorem Cm.ok {a : Cm} {n : Nat} (h : Cm.Q a n) : (-9223372036854775808 ≤ a.d ∧ a.d ≤ 9223372036854775807) ∧ Tk.Q a.t n ∧ (0 ≤ a.vo ∧ a.vo ≤ 18446744073709551615) ∧ (0 ≤ a.se ∧ a.se ≤ 18446744073709551615) ∧ (0 ≤ a.a ∧ a.a ≤ 18446744073709551615) ∧ (0 ≤ a.b ∧ a.b ≤ 18446744073709551615) ∧ a.lf.size + 1 ≤ n := by
  obtain ⟨mm, hm, ⟨m0, k0, e0, h0, ⟨m1, k1, e1, h1, ⟨m2, k2, e2, h2, ⟨m3, k3, e3, h3, ⟨m4, k4, e4, h4, ⟨m5, k5, e5, h5, h6⟩⟩⟩⟩⟩⟩⟩ := h
  exact ⟨(in_i64 h0), (Tk.Q_mono h1 (by omega)), (in_u64 h2), (in_u64 h3), (in_u64 h4), (in_u64 h5), (Nat.le_trans h6.2 (by omega))⟩
theorem Cm.Q_mono {a : Cm} {n m : Nat} (h : Cm.Q a n) (hm : n ≤ m) : Cm.Q a m := let ⟨k, h1, h2⟩ := h; ⟨k, Nat.le_trans h1 hm, h2⟩
theorem Cm.Q.pos {a : Cm} {n : Nat} (h : Cm.Q a n) : 1 ≤ n := let ⟨k, h1, _⟩ := h; by omega
def Vo.Q (x : Vo) (n : Nat) : Prop := Open.QSt (Open.QPair (Open.QInt .u64) (Open.QPair (Open.QInt .u64) (Open.QPair (Open.QInt .u64) (Open.QPair (Open.QInt .i64) (Open.QSl Open.QStr))))) (x.vo, x.tn, x.ep, x.de, x.lv) n
theorem Vo.ok {a : Vo} {n : Nat} (h : Vo.Q a n) : (0 ≤ a.vo ∧ a.vo ≤ 18446744073709551615) ∧ (0 ≤ a.tn ∧ a.tn ≤ 18446744073709551615) ∧ (0 ≤ a.ep ∧ a.ep ≤ 18446744073709551615) ∧ (-9223372036854775808 ≤ a.de ∧ a.de ≤ 9223372036854775807) ∧ (a.lv.length + 1 ≤ n ∧ (a.lv.map ByteArray.size).sum + 1 ≤ n ∧ ∀ x ∈ a.lv, x.size + 1 ≤ n) := by
  obtain ⟨mm, hm, ⟨m0, k0, e0, h0, ⟨m1, k1, e1, h1, ⟨m2, k2, e2, h2, ⟨m3, k3, e3, h3, h4⟩⟩⟩⟩⟩ := h
  exact ⟨(in_u64 h0), (in_u64 h1), (in_u64 h2), (in_i64 h3), (⟨Nat.le_trans (qsl_len h4 (fun _ _ h => Nat.le_trans (by omega) h.2)) (by omega), Nat.le_trans (qsl_sum (f := ByteArray.size) (fun _ _ h => Nat.le_trans (by omega) h.2) h4) (by omega), fun x hx => let ⟨_, h⟩ := qsl_mem h4 x hx; Nat.le_trans h.2.2 (by omega)⟩)⟩
theorem Vo.Q_mono {a : Vo} {n m : Nat} (h : Vo.Q a n) (hm : n ≤ m) : Vo.Q a m := let ⟨k, h1, h2⟩ := h; ⟨k, Nat.le_trans h1 hm, h2⟩
theorem Vo.Q.pos {a : Vo} {n : Nat} (h : Vo.Q a n) : 1 ≤ n := let ⟨k, h1, _⟩ := h; by omega
def SE.Se.Q (x : SE.Se) (n : Nat) : Prop := Open.QSt (Open.QPair (Open.QInt .u64) (Open.QPair (Open.QInt .u64) Open.QStr)) (x.id, x.nr, x.an) n
theorem SE.Se.ok {a : SE.Se} {n : Nat} (h : SE.Se.Q a n) : (0 ≤ a.id ∧ a.id ≤ 18446744073709551615) ∧ (0 ≤ a.nr ∧ a.nr ≤ 18446744073709551615) ∧ a.an.size + 1 ≤ n := by
  obtain ⟨mm, hm, ⟨m0, k0, e0, h0, ⟨m1, k1, e1, h1, h2⟩⟩⟩ := h
  exact ⟨(in_u64 h0), (in_u64 h1), (Nat.le_trans h2.2 (by omega))⟩
theorem SE.Se.Q_mono {a : SE.Se} {n m : Nat} (h : SE.Se.Q a n) (hm : n ≤ m) : SE.Se.Q a m := let ⟨k, h1, h2⟩ := h; ⟨k, Nat.le_trans h1 hm, h2⟩
theorem SE.Se.Q.pos {a : SE.Se} {n : Nat} (h : SE.Se.Q a n) : 1 ≤ n := let ⟨k, h1, _⟩ := h; by omega
def Qu.Q (x : Qu) (n : Nat) : Prop := Open.QSt (Open.QPair (Open.QInt .u64) (Open.QPair (Open.QInt .u64) (Open.QInt .u64))) (x.tn, x.us, x.li) n
theorem Qu.ok {a : Qu} {n : Nat} (h : Qu.Q a n) : (0 ≤ a.tn ∧ a.tn ≤ 18446744073709551615) ∧ (0 ≤ a.us ∧ a.us ≤ 18446744073709551615) ∧ (0 ≤ a.li ∧ a.li ≤ 18446744073709551615) := by
  obtain ⟨mm, hm, ⟨m0, k0, e0, h0, ⟨m1, k1, e1, h1, h2⟩⟩⟩ := h
  exact ⟨(in_u64 h0), (in_u64 h1), (in_u64 h2)⟩
theorem Qu.Q_mono {a : Qu} {n m : Nat} (h : Qu.Q a n) (hm : n ≤ m) : Qu.Q a m := let ⟨k, h1, h2⟩ := h; ⟨k, Nat.le_trans h1 hm, h2⟩
theorem Qu.Q.pos {a : Qu} {n : Nat} (h : Qu.Q a n) : 1 ≤ n := let ⟨k, h1, _⟩ := h; by omega
def Ck.Q (x : Ck) (n : Nat) : Prop := Open.QSt (Open.QPair (Open.QSl Vo.Q) (Open.QPair (Open.QSl SE.Se.Q) (Open.QSl Qu.Q))) (x.vs, x.ss, x.qs) n
theorem Ck.ok {a : Ck} {n : Nat} (h : Ck.Q a n) : (a.vs.length + 1 ≤ n ∧ ∀ x ∈ a.vs, Vo.Q x n) ∧ (a.ss.length + 1 ≤ n ∧ ∀ x ∈ a.ss, SE.Se.Q x n) ∧ (a.qs.length + 1 ≤ n ∧ ∀ x ∈ a.qs, Qu.Q x n) := by
  obtain ⟨mm, hm, ⟨m0, k0, e0, h0, ⟨m1, k1, e1, h1, h2⟩⟩⟩ := h
  exact ⟨(⟨Nat.le_trans (qsl_len h0 (fun _ _ h => h.pos)) (by omega), fun x hx => let ⟨_, h⟩ := qsl_mem h0 x hx; Vo.Q_mono h.2 (by omega)⟩), (⟨Nat.le_trans (qsl_len h1 (fun _ _ h => h.pos)) (by omega), fun x hx => let ⟨_, h⟩ := qsl_mem h1 x hx; SE.Se.Q_mono h.2 (by omega)⟩), (⟨Nat.le_trans (qsl_len h2 (fun _ _ h => h.pos)) (by omega), fun x hx => let ⟨_, h⟩ := qsl_mem h2 x hx; Qu.Q_mono h.2 (by omega)⟩)⟩
theorem Ck.Q_mono {a : Ck} {n m : Nat} (h : Ck.Q a n) (hm : n ≤ m) : Ck.Q a m := let ⟨k, h1, h2⟩ := h; ⟨k, Nat.le_trans h1 hm, h2⟩
theorem Ck.Q.pos {a : Ck} {n : Nat} (h : Ck.Q a n) : 1 ≤ n := let ⟨k, h1, _⟩ := h; by omega
def Stp.Q (x : Stp) (n : Nat) : Prop := Open.QSt (Open.QPair (Open.QInt .u64) (Open.QPair (Open.QInt .u64) (Open.QPair Cm.Q Open.QStr))) (x.id, x.nr, x.m, x.raw) n
theorem Stp.ok {a : Stp} {n : Nat} (h : Stp.Q a n) : (0 ≤ a.id ∧ a.id ≤ 18446744073709551615) ∧ (0 ≤ a.nr ∧ a.nr ≤ 18446744073709551615) ∧ Cm.Q a.m n ∧ a.raw.size + 1 ≤ n := by
  obtain ⟨mm, hm, ⟨m0, k0, e0, h0, ⟨m1, k1, e1, h1, ⟨m2, k2, e2, h2, h3⟩⟩⟩⟩ := h
  exact ⟨(in_u64 h0), (in_u64 h1), (Cm.Q_mono h2 (by omega)), (Nat.le_trans h3.2 (by omega))⟩
theorem Stp.Q_mono {a : Stp} {n m : Nat} (h : Stp.Q a n) (hm : n ≤ m) : Stp.Q a m := let ⟨k, h1, h2⟩ := h; ⟨k, Nat.le_trans h1 hm, h2⟩
theorem Stp.Q.pos {a : Stp} {n : Nat} (h : Stp.Q a n) : 1 ≤ n := let ⟨k, h1, _⟩ := h; by omega
def Py.Q (x : Py) (n : Nat) : Prop := Open.QSt (Open.QPair Ck.Q (Open.QPair (Open.QSl (Open.QInt .u64)) (Open.QPair (Open.QInt .u64) (Open.QPair (Open.QSl Tk.Q) (Open.QSl Stp.Q))))) (x.c, x.d, x.key, x.iss, x.l) n
theorem Py.ok {a : Py} {n : Nat} (h : Py.Q a n) : Ck.Q a.c n ∧ (a.d.length + 1 ≤ n ∧ ∀ x ∈ a.d, 0 ≤ x ∧ x ≤ 18446744073709551615) ∧ (0 ≤ a.key ∧ a.key ≤ 18446744073709551615) ∧ (a.iss.length + 1 ≤ n ∧ ∀ x ∈ a.iss, Tk.Q x n) ∧ (a.l.length + 1 ≤ n ∧ ∀ x ∈ a.l, Stp.Q x n) := by
  obtain ⟨mm, hm, ⟨m0, k0, e0, h0, ⟨m1, k1, e1, h1, ⟨m2, k2, e2, h2, ⟨m3, k3, e3, h3, h4⟩⟩⟩⟩⟩ := h
  exact ⟨(Ck.Q_mono h0 (by omega)), (⟨Nat.le_trans (qsl_len h1 (fun _ _ h => h.2)) (by omega), fun x hx => let ⟨_, h⟩ := qsl_mem h1 x hx; in_u64 h.2⟩), (in_u64 h2), (⟨Nat.le_trans (qsl_len h3 (fun _ _ h => h.pos)) (by omega), fun x hx => let ⟨_, h⟩ := qsl_mem h3 x hx; Tk.Q_mono h.2 (by omega)⟩), (⟨Nat.le_trans (qsl_len h4 (fun _ _ h => h.pos)) (by omega), fun x hx => let ⟨_, h⟩ := qsl_mem h4 x hx; Stp.Q_mono h.2 (by omega)⟩)⟩
theorem Py.Q_mono {a : Py} {n m : Nat} (h : Py.Q a n) (hm : n ≤ m) : Py.Q a m := let ⟨k, h1, h2⟩ := h; ⟨k, Nat.le_trans h1 hm, h2⟩
theorem Py.Q.pos {a : Py} {n : Nat} (h : Py.Q a n) : 1 ≤ n := let ⟨k, h1, _⟩ := h; by omega
structure Ck.fits (c : Ck) : Prop where
  v : ∀ y ∈ c.vs, U64 y.vo ∧ U64 y.tn ∧ U64 y.ep
  s : ∀ y ∈ c.ss, y.fit
  q : Fit c.qs
  b : ∀ y ∈ c.ss, y.an.size ≤ 1048576
  l : ∀ y ∈ c.vs, sumB y.lv ≤ 1048576
  d : ∀ y ∈ c.vs, -9223372036854775808 ≤ y.de ∧ y.de ≤ 9223372036854775807
theorem ck_of {c : Ck} {n : Nat} (h : Ck.Q c n) (hn : n ≤ 1048576) : c.sz ∧ c.fits := by
  obtain ⟨⟨h1, h2⟩, ⟨h3, h4⟩, h5, h6⟩ := Ck.ok h
  refine ⟨⟨by omega, by omega, by omega, fun x hx => ?_⟩, fun x hx => ?_, fun x hx => ?_, fun x hx => ?_, fun x hx => ?_, fun x hx => ?_, fun x hx => ?_⟩
  · have := (Vo.ok (h2 x hx)).2.2.2.2.1; omega
  · have := Vo.ok (h2 x hx); exact ⟨this.1, this.2.1, this.2.2.1⟩
  · have := SE.Se.ok (h4 x hx); exact ⟨this.1, this.2.1⟩
  · exact Qu.ok (h6 x hx)
  · have := (SE.Se.ok (h4 x hx)).2.2; omega
  · have := (Vo.ok (h2 x hx)).2.2.2.2.2.1; unfold sumB; omega
  · exact (Vo.ok (h2 x hx)).2.2.2.1
theorem cm_of {m : Cm} {n : Nat} (h : Cm.Q m n) (hn : n ≤ 1048576) : m.fit ∧ m.lf.size ≤ 1048576 := by
  obtain ⟨h1, h2, h3, h4, h5, h6, h7⟩ := Cm.ok h
  exact ⟨⟨h1, Tk.ok h2, h3, h4, h5, h6, by omega⟩, by omega⟩
theorem stp_of {s : Stp} {n : Nat} (h : Stp.Q s n) (hn : n ≤ 1048576) : s.fit := by
  obtain ⟨h1, h2, h3, h4⟩ := Stp.ok h
  obtain ⟨h5, h6⟩ := cm_of h3 hn
  exact ⟨h1, h2, h5, h6, by omega⟩
theorem py_of {x : Py} {n : Nat} (h : Py.Q x n) (hn : n ≤ 1048576) : x.good ∧ x.c.fits := by
  obtain ⟨h1, ⟨h2, h3⟩, h4, ⟨h5, h6⟩, h7, h8⟩ := Py.ok h
  obtain ⟨k1, k2⟩ := ck_of h1 hn
  exact ⟨⟨k1, by omega, by omega, fun t ht => Tk.ok (h6 t ht), by omega, fun s hs => stp_of (h8 s hs) hn⟩, k2⟩
end Go.Proofs.Ytfkgdlfponfimaa.X

/- Layer 13: ChunkEpochs. -/
set_option linter.unusedVariables false
set_option linter.unusedSimpArgs false
set_option maxRecDepth 100000
namespace Go.Proofs.Ytfkgdlfponfimaa.X
open Go Go.RowKit WM
theorem EN126_CK20 {c : Cfg} {ν : Nm} {e : Env} {H : Heap} {all : Array Oper} {r : List Oper} {i : Nat} {Q : Env → Heap → Prop} {x0 x1 x2 x3 x4 x5 x6 x7 x8 x9 x10 x11 x12 x13 x14 x15 x16 x17 x18 x19 x20 x21 x22 x23 x24 x25 x26 x27 x28 x29 x30 x31 x32 x33 x34 x35 x36 x37 x38 x39 x40 x41 x42 x43 x44 x45 x46 x47 x48 x49 x50 x51 x52 x53 x54 x55 x56 x57 x58 x59 x60 x61 x62 x63 x64 x65 x66 x67 x68 x69 x70 x71 x72 x73 x74 x75 x76 x77 x78 x79 x80 x81 x82 x83 x84 x85 x86 x87 x88 x89 x90 x91 x92 x93 x94 x95 x96 x97 x98 x99 x100 x101 x102 x103 x104 x105 x106 x107 x108 x109 x110 x111 x112 x113 x114 x115 x116 x117 x118 x119 x120 x121 x122 x123 x124 x125 : AVal} (he : e = [x0,x1,x2,x3,x4,x5,x6,x7,x8,x9,x10,x11,x12,x13,x14,x15,x16,x17,x18,x19,x20,x21,x22,x23,x24,x25,x26,x27,x28,x29,x30,x31,x32,x33,x34,x35,x36,x37,x38,x39,x40,x41,x42,x43,x44,x45,x46,x47,x48,x49,x50,x51,x52,x53,x54,x55,x56,x57,x58,x59,x60,x61,x62,x63,x64,x65,x66,x67,x68,x69,x70,x71,x72,x73,x74,x75,x76,x77,x78,x79,x80,x81,x82,x83,x84,x85,x86,x87,x88,x89,x90,x91,x92,x93,x94,x95,x96,x97,x98,x99,x100,x101,x102,x103,x104,x105,x106,x107,x108,x109,x110,x111,x112,x113,x114,x115,x116,x117,x118,x119,x120,x121,x122,x123,x124,x125]) (h : OW c ν all r i [x0,x1,x2,x3,x4,x5,x6,x7,x8,x9,x10,x11,x12,x13,x14,x15,x16,x17,x18,x19,x20,x21,x22,x23,x24,x25,x26,x27,x28,x29,x30,x31,x32,x33,x34,x35,x36,x37,x38,x39,x40,x41,x42,x43,x44,x45,x46,x47,x48,x49,x50,x51,x52,x53,x54,x55,x56,x57,x58,x59,x60,x61,x62,x63,x64,x65,x66,x67,x68,x69,x70,x71,x72,x73,x74,x75,x76,x77,x78,x79,x80,x81,x82,x83,x84,x85,x86,x87,x88,x89,x90,x91,x92,x93,x94,x95,x96,x97,x98,x99,x100,x101,x102,x103,x104,x105,x106,x107,x108,x109,x110,x111,x112,x113,x114,x115,x116,x117,x118,x119,x120,x121,x122,x123,x124,x125] H Q) : OW c ν all r i e H Q := by subst he; exact h
theorem EZ126_CK20 {c : Cfg} {ν : Nm} {e : Env} {H : Heap} {all : Array Oper} {i : Nat} {Q : Env → Heap → Prop} {x0 x1 x2 x3 x4 x5 x6 x7 x8 x9 x10 x11 x12 x13 x14 x15 x16 x17 x18 x19 x20 x21 x22 x23 x24 x25 x26 x27 x28 x29 x30 x31 x32 x33 x34 x35 x36 x37 x38 x39 x40 x41 x42 x43 x44 x45 x46 x47 x48 x49 x50 x51 x52 x53 x54 x55 x56 x57 x58 x59 x60 x61 x62 x63 x64 x65 x66 x67 x68 x69 x70 x71 x72 x73 x74 x75 x76 x77 x78 x79 x80 x81 x82 x83 x84 x85 x86 x87 x88 x89 x90 x91 x92 x93 x94 x95 x96 x97 x98 x99 x100 x101 x102 x103 x104 x105 x106 x107 x108 x109 x110 x111 x112 x113 x114 x115 x116 x117 x118 x119 x120 x121 x122 x123 x124 x125 : AVal} (he : e = [x0,x1,x2,x3,x4,x5,x6,x7,x8,x9,x10,x11,x12,x13,x14,x15,x16,x17,x18,x19,x20,x21,x22,x23,x24,x25,x26,x27,x28,x29,x30,x31,x32,x33,x34,x35,x36,x37,x38,x39,x40,x41,x42,x43,x44,x45,x46,x47,x48,x49,x50,x51,x52,x53,x54,x55,x56,x57,x58,x59,x60,x61,x62,x63,x64,x65,x66,x67,x68,x69,x70,x71,x72,x73,x74,x75,x76,x77,x78,x79,x80,x81,x82,x83,x84,x85,x86,x87,x88,x89,x90,x91,x92,x93,x94,x95,x96,x97,x98,x99,x100,x101,x102,x103,x104,x105,x106,x107,x108,x109,x110,x111,x112,x113,x114,x115,x116,x117,x118,x119,x120,x121,x122,x123,x124,x125]) (h : Q [x0,x1,x2,x3,x4,x5,x6,x7,x8,x9,x10,x11,x12,x13,x14,x15,x16,x17,x18,x19,x20,x21,x22,x23,x24,x25,x26,x27,x28,x29,x30,x31,x32,x33,x34,x35,x36,x37,x38,x39,x40,x41,x42,x43,x44,x45,x46,x47,x48,x49,x50,x51,x52,x53,x54,x55,x56,x57,x58,x59,x60,x61,x62,x63,x64,x65,x66,x67,x68,x69,x70,x71,x72,x73,x74,x75,x76,x77,x78,x79,x80,x81,x82,x83,x84,x85,x86,x87,x88,x89,x90,x91,x92,x93,x94,x95,x96,x97,x98,x99,x100,x101,x102,x103,x104,x105,x106,x107,x108,x109,x110,x111,x112,x113,x114,x115,x116,x117,x118,x119,x120,x121,x122,x123,x124,x125] H) : OW c ν all [] i e H Q := by subst he; exact OW_nil h
variable {ν β ps pos pos' : Nm} {H H1 : Heap} {Q : AVal → Heap → Prop} {L : List Asr} {k : Nat} {S : Rf} {c : Ck} {q qo : Nm} {key : Int}
theorem fixedW (h : acall cfg (aexec cfg 100) ν 6 [] H = some (.bool true, H)) (hq : Q (.bool true) H) : CW cfg ν 6 [] H Q := ⟨100, _, _, h, hq⟩
theorem good_chk (hz : c.sz) (hv : ∀ x ∈ c.vs, U64 x.vo ∧ U64 x.tn ∧ U64 x.ep) (hs : ∀ x ∈ c.ss, x.fit) (hq : Fit c.qs) (h : chkC c = true) : c.good := by
  unfold chkC at h
  simp only [Bool.and_eq_true, decide_eq_true_eq] at h
  obtain ⟨⟨⟨h1, h2, h3⟩, h4⟩, h5⟩ := h
  refine ⟨h1, fun x hx => ?_, h3, h4, hs, h5, hq⟩
  obtain ⟨a1, a2, a3, a4⟩ := h2 x hx
  obtain ⟨b1, b2, b3⟩ := hv x hx
  exact ⟨b1, b2, b3, ⟨a1, a2⟩, a3, a4⟩
theorem good_sz (h : c.good) : c.sz := ⟨h.sm.1, h.sm.2, h.sm.3, h.sm.4⟩
theorem ltFu {T : TT} {t : TypeId} {a b : Int} (h : b ≤ a) : aBin T .lss t (.int .u64 a) (.int .u64 b) = some (.bool false) := by
  simp only [aBin, aIntB, aInt]; simp; omega
theorem rk_check_e {b : Bool} (hz : c.sz) (he : chkC c = b) (hq : Q (.bool b) H) : CW cfg ν 7 [c.enc] H Q := rk_check hz (by rw [he]; exact hq)
theorem lawEpochs0 (x : Py) (vo ep : Int) (y : Stp) (hx : x.good) (hno : chkC x.c = false) (hq : Q (.bool true) H) : CW cfg [] 3 [x.enc, .agg [.int .u64 vo, .int .u64 ep], y.enc] H Q := by
  refine CW_pure g3 F3 rfl ?_
  have hS0 : Own [] [] (fun _ => none) [] := Own.nil
  refine XW_sr ?_
  refine OW_boxR hS0 (le_app (p := []) (b := [0, 0])) under_nil rfl rfl rfl ⟨rfl, rfl⟩ fun H1 hS1 => ?_
  replace hS1 : Own _ _ _ ([_]) := hS1
  refine OW_boxR hS1 le_refl under_nil rfl rfl rfl ⟨rfl, rfl⟩ fun H2 hS2 => ?_
  replace hS2 : Own _ _ _ ([_, _]) := hS2
  refine OW_boxR hS2 le_refl under_nil rfl rfl rfl ⟨rfl, rfl⟩ fun H3 hS3 => ?_
  replace hS3 : Own _ _ _ ([_, _, _]) := hS3
  refine EN126_CK20 rfl ?_
  refine OW_as rfl rfl ?_
  refine EZ126_CK20 rfl ?_
  refine XW_sr ?_
  refine OW_ia rfl rfl rfl (by first | rfl | exact ia_arr rfl rfl rfl (by omega) (by omega)) ?_
  refine OW_loadR hS3 (k := 1) rfl rfl rfl rfl rfl (by first | exact part_whole rfl rfl rfl | rfl) ?_
  refine OW_ia rfl rfl rfl (by first | rfl | exact ia_arr rfl rfl rfl (by omega) (by omega)) ?_
  refine EN126_CK20 rfl ?_
  refine OW_loadR hS3 (k := 1) rfl rfl rfl rfl rfl (by first | exact part_whole rfl rfl rfl | rfl) ?_
  refine OW_as rfl rfl ?_
  refine OW_as rfl rfl ?_
  refine EZ126_CK20 rfl ?_
  refine XW_seq ?_
  refine XW_sr ?_
  refine OW_fn rfl rfl (fixedW (by kernel_rfl) ?_) 
  refine OW_un rfl rfl rfl ?_
  refine OW_mv rfl rfl ?_
  refine EN126_CK20 rfl ?_
  refine OW_fa rfl rfl rfl ?_
  refine OW_loadR hS3 (k := 2) rfl rfl rfl rfl rfl (by first | exact part_whole rfl rfl rfl | rfl) ?_
  refine OW_fn rfl rfl (rk_check_e (c := x.c) hx.sz hno ?_) 
  refine EN126_CK20 rfl ?_
  refine OW_un rfl rfl rfl ?_
  refine OW_pick rfl rfl rfl ?_
  refine EZ126_CK20 rfl ?_
  refine XW_yes rfl rfl ?_
  refine XW_sr ?_
  refine OW_fn rfl rfl (fixedW (by kernel_rfl) ?_) 
  refine OW_as rfl rfl ?_
  refine EZ126_CK20 rfl ?_
  refine XW_ret ?_
  refine then_ret ?_
  refine ret_ret (res1 rfl (rv_tmp rfl)) (frz1 (Q := Q) (by first | exact freeze_plain rfl | exact Ls.freeze (by assumption) | exact Ls.freeze Ls.of | exact Ls.freeze Ls.emp | exact Ls.freeze Ls.nls) ?_)
  first
  | exact hq
  | (refine qcast hq ?_; rfl)
  | (refine qcast hq ?_; simp; done)
  | (refine qcast hq ?_; simp; omega)
  | (refine qcast hq ?_; simp_all; done)
def epM (vo ep : Int) : Cm := ⟨1, ⟨0, 0, 0, 0, 0⟩, vo, 0, ep, 0, ⟨#[]⟩⟩
theorem epM_fit {vo ep : Int} (h1 : U64 vo) (h2 : U64 ep) : (epM vo ep).fit := by
  have u0 : U64 0 := by decide
  exact ⟨by show -9223372036854775808 ≤ (1 : Int) ∧ (1 : Int) ≤ 9223372036854775807; decide, ⟨u0, u0, u0, u0, u0⟩, h1, u0, h2, u0, by show (⟨#[]⟩ : ByteArray).size ≤ _; decide⟩
theorem run_e {V0 S0 T0 : AVal} {m : Cm} (hg : c.good) (hm : m.fit) (hV0 : Ls V0 (c.vs.map Vo.enc)) (hS0' : Ls S0 (c.ss.map SE.Se.enc)) (hT0 : Ls T0 (c.qs.map Qu.enc)) (hS : Own β ps H L) (hL : L[k]? = some (orc qo S.of)) (hle : le ps ν) (hβ : under β ν = true) (hp : before ν pos')
    (hq : ∀ H1 d e an T, runR S key c m = (⟨d, e, an⟩, T) → Own β pos' H1 (L.set k (orc qo T.of)) → Q (.tup [d.enc, .int .i64 e, .str an]) H1) : CW cfg ν 9 [.ptr qo 0 0, .int .u64 key, .agg [V0, S0, T0], m.enc] H Q :=
  run_c hg hm hV0 hS0' hT0 hS hL hle hβ hp fun H1 h => hq H1 _ _ _ _ rfl h
theorem after_e {x : Py} (hx : x.good) (hg : x.c.good) (hS : Own β ps H L) (hL : L[k]? = some (orc qo S.of)) (hle : le ps ν) (hβ : under β ν = true) (hp : before ν pos')
    (hq : ∀ H1 d T, afterS S x.key x.c (x.l.take 60) = (d, T) → Own β pos' H1 (L.set k (orc qo T.of)) → Q d.enc H1) : CW cfg ν 11 [.ptr qo 0 0, x.enc] H Q :=
  after_c hx hg hS hL hle hβ hp fun H1 h => hq H1 _ _ rfl h
theorem lawEpochs1 (x : Py) (vo ep : Int) (y : Stp) (hx : x.good) (hf : x.c.fits) (hvo : U64 vo) (hep : U64 ep) (hy : y.fit) (hyes : chkC x.c = true) (hq : Q (.bool true) H) : CW cfg [] 3 [x.enc, .agg [.int .u64 vo, .int .u64 ep], y.enc] H Q := by
  have hg := good_chk hx.sz hf.v hf.s hf.q hyes
  have hvl := hg.vl
  refine CW_pure g3 F3 rfl ?_
  have hS0 : Own [] [] (fun _ => none) [] := Own.nil
  refine XW_sr ?_
  refine OW_boxR hS0 (le_app (p := []) (b := [0, 0])) under_nil rfl rfl rfl ⟨rfl, rfl⟩ fun H1 hS1 => ?_
  replace hS1 : Own _ _ _ ([_]) := hS1
  refine OW_boxR hS1 le_refl under_nil rfl rfl rfl ⟨rfl, rfl⟩ fun H2 hS2 => ?_
  replace hS2 : Own _ _ _ ([_, _]) := hS2
  refine OW_boxR hS2 le_refl under_nil rfl rfl rfl ⟨rfl, rfl⟩ fun H3 hS3 => ?_
  replace hS3 : Own _ _ _ ([_, _, _]) := hS3
  refine EN126_CK20 rfl ?_
  refine OW_as rfl rfl ?_
  refine EZ126_CK20 rfl ?_
  refine XW_sr ?_
  refine OW_ia rfl rfl rfl (by first | rfl | exact ia_arr rfl rfl rfl (by omega) (by omega)) ?_
  refine OW_loadR hS3 (k := 1) rfl rfl rfl rfl rfl (by first | exact part_whole rfl rfl rfl | rfl) ?_
  refine OW_ia rfl rfl rfl (by first | rfl | exact ia_arr rfl rfl rfl (by omega) (by omega)) ?_
  refine EN126_CK20 rfl ?_
  refine OW_loadR hS3 (k := 1) rfl rfl rfl rfl rfl (by first | exact part_whole rfl rfl rfl | rfl) ?_
  refine OW_as rfl rfl ?_
  refine OW_as rfl rfl ?_
  refine EZ126_CK20 rfl ?_
  refine XW_seq ?_
  refine XW_sr ?_
  refine OW_fn rfl rfl (fixedW (by kernel_rfl) ?_) 
  refine OW_un rfl rfl rfl ?_
  refine OW_mv rfl rfl ?_
  refine EN126_CK20 rfl ?_
  refine OW_fa rfl rfl rfl ?_
  refine OW_loadR hS3 (k := 2) rfl rfl rfl rfl rfl (by first | exact part_whole rfl rfl rfl | rfl) ?_
  refine OW_fn rfl rfl (rk_check_e (c := x.c) hx.sz hyes ?_) 
  refine EN126_CK20 rfl ?_
  refine OW_un rfl rfl rfl ?_
  refine OW_pick rfl rfl rfl ?_
  refine EZ126_CK20 rfl ?_
  refine XW_no rfl rfl ?_
  refine XW_skip ?_
  refine then_norm ?_
  refine XW_sr ?_
  refine OW_loadR hS3 (k := 2) rfl rfl rfl rfl rfl (by first | exact part_whole rfl rfl rfl | rfl) ?_
  refine OW_fn rfl rfl (oracle_c hx hS3 (le_lit (ν := []) (a := [3, 0]) (b := [1, 0, 1, 1, 1]) (by decide)) under_nil (before_lit (ν := []) (a := [1, 0, 1, 1, 1]) (b := [2, 0, 1, 1, 1]) (by decide)) fun q1 H4 hS4 => ?_) 
  replace hS4 : Own _ _ _ ([_, _, _, _]) := hS4
  refine OW_as rfl rfl ?_
  refine EZ126_CK20 rfl ?_
  refine XW_sr ?_
  refine OW_mv rfl rfl ?_
  refine OW_fa rfl rfl rfl ?_
  refine OW_loadR hS4 (k := 3) rfl rfl rfl rfl rfl (by first | exact part_whole rfl rfl rfl | rfl) ?_
  refine EN126_CK20 rfl ?_
  refine OW_fa rfl rfl rfl ?_
  refine OW_loadR hS4 (k := 3) rfl rfl rfl rfl rfl (by first | exact part_whole rfl rfl rfl | rfl) ?_
  refine OW_mv rfl rfl ?_
  refine EN126_CK20 rfl ?_
  refine OW_mv rfl rfl ?_
  refine OW_bd rfl rfl (v := .agg [_, _, _, _, _, _, _, _, _, _, _]) rfl ?_
  refine OW_fn rfl rfl (run_e (c := x.c) (m := epM vo ep) hg (epM_fit hvo hep) Ls.of Ls.of Ls.of hS4 (k := 0) rfl (le_lit (ν := []) (a := [2, 0, 1, 1, 1]) (b := [8, 0, 1, 1, 1, 1]) (by decide)) under_nil (before_lit (ν := []) (a := [8, 0, 1, 1, 1, 1]) (b := [9, 0, 1, 1, 1, 1]) (by decide)) fun H5 c1 e1 an1 T1 hr1 hS5 => ?_) 
  replace hS5 : Own _ _ _ ([_, _, _, _]) := hS5
  refine EN126_CK20 rfl ?_
  refine OW_mv rfl rfl ?_
  refine OW_ex rfl rfl rfl ?_
  refine OW_ex rfl rfl rfl ?_
  refine EN126_CK20 rfl ?_
  refine OW_ex rfl rfl rfl ?_
  refine OW_allocR hS5 (le_lit (ν := []) (a := [9, 0, 1, 1, 1, 1]) (b := [13, 0, 1, 1, 1, 1]) (by decide)) under_nil rfl rfl rfl rfl fun H6 hS6 => ?_
  replace hS6 : Own _ _ _ ([_, _, _, _, _]) := hS6
  first
  | refine OW_storeR hS6 (k := 0) rfl le_refl rfl rfl rfl rfl ⟨rfl, rfl, Nat.le_of_ble_eq_true rfl⟩ (set_whole rfl rfl) fun H7 hS7 => ?_
  | refine OW_storeR hS6 (k := 0) rfl le_refl rfl rfl rfl rfl ⟨rfl, rfl, Nat.le_of_ble_eq_true rfl⟩ (u2 := .agg [_, _, _]) rfl fun H7 hS7 => ?_
  replace hS7 : Own _ _ _ ([_, _, _, _, _]) := hS7
  refine EN126_CK20 rfl ?_
  refine OW_as rfl rfl ?_
  refine OW_as rfl rfl ?_
  refine EZ126_CK20 rfl ?_
  refine XW_seq ?_
  refine XW_sr ?_
  refine OW_mv rfl rfl ?_
  refine OW_bin rfl rfl rfl rfl rfl ?_
  refine EZ126_CK20 rfl ?_
  refine XW_if rfl (fun h6 => ?_) (fun h6 => ?_)
  ·try simp only [bs] at h6
   have hno := epoch_no (S := x.os) (key := x.key) (c := x.c) (m := epM vo ep) rfl (by rw [hr1]; exact h6)
   rw [hr1] at hno
   refine XW_sr ?_
   refine OW_mv rfl rfl ?_
   refine OW_bin rfl rfl rfl rfl rfl ?_
   refine OW_mv rfl rfl ?_
   refine EN126_CK20 rfl ?_
   refine OW_split (tt := 51) rfl (fun g7_3 => ?_) (fun g7_3 => ?_)
   ·try simp only [bs] at g7_3
    refine OW_fa rfl rfl rfl ?_
    refine OW_loadR hS7 (k := 4) rfl rfl rfl rfl rfl (by first | exact part_whole rfl rfl rfl | rfl) ?_
    refine EN126_CK20 rfl ?_
    refine OW_mv rfl rfl ?_
    refine OW_fn rfl rfl (rk_find (c := x.c) (by omega) _ ?_) 
    refine OW_bin rfl rfl rfl rfl rfl ?_
    refine EN126_CK20 rfl ?_
    refine OW_pick rfl rfl rfl ?_
    refine OW_as rfl rfl ?_
    refine EZ126_CK20 rfl ?_
    refine XW_ret ?_
    refine then_ret ?_
    refine ret_ret (res1 rfl (rv_tmp rfl)) (frz1 (Q := Q) (by first | exact freeze_plain rfl | exact Ls.freeze (by assumption) | exact Ls.freeze Ls.of | exact Ls.freeze Ls.emp | exact Ls.freeze Ls.nls) ?_)
    first
    | ((first | exact absurd trivial g17_7 | exact absurd g17_3 he3 | exact absurd hno.1 g7_3 | (refine qcast hq ?_; rw [decide_eq_true (show atP vo x.c.vs < 0 from hno.2)]; done) | (refine qcast hq ?_; simp; done)))
    | exact hq
    | (refine qcast hq ?_; rfl)
    | (refine qcast hq ?_; simp; done)
    | (refine qcast hq ?_; simp; omega)
    | (refine qcast hq ?_; simp_all; done)
   ·try simp only [bs] at g7_3
    refine OW_no rfl ?_
    refine OW_no rfl ?_
    refine EN126_CK20 rfl ?_
    refine OW_no rfl ?_
    refine OW_no rfl ?_
    refine OW_no rfl ?_
    refine EN126_CK20 rfl ?_
    refine OW_pick rfl rfl rfl ?_
    refine OW_as rfl rfl ?_
    refine EZ126_CK20 rfl ?_
    refine XW_ret ?_
    refine then_ret ?_
    refine ret_ret (res1 rfl (rv_tmp rfl)) (frz1 (Q := Q) (by first | exact freeze_plain rfl | exact Ls.freeze (by assumption) | exact Ls.freeze Ls.of | exact Ls.freeze Ls.emp | exact Ls.freeze Ls.nls) ?_)
    first
    | ((first | exact absurd trivial g17_7 | exact absurd g17_3 he3 | exact absurd hno.1 g7_3 | (refine qcast hq ?_; rw [decide_eq_true (show atP vo x.c.vs < 0 from hno.2)]; done) | (refine qcast hq ?_; simp; done)))
    | exact hq
    | (refine qcast hq ?_; rfl)
    | (refine qcast hq ?_; simp; done)
    | (refine qcast hq ?_; simp; omega)
    | (refine qcast hq ?_; simp_all; done)
  ·try simp only [bs] at h6
   refine XW_skip ?_
   refine then_norm ?_
   refine XW_sr ?_
   have hg1 : c1.good := by have := runR_good (S := x.os) (key := x.key) hg (epM_fit hvo hep); rw [hr1] at this; exact this
   have hge : Ge vo ep c1 := by have := epoch_ge (S := x.os) (key := x.key) (m := epM vo ep) hg rfl (by rw [hr1]; exact h6); rw [hr1] at this; exact this
   have hx1 : (⟨c1, x.d, x.key, x.iss, x.l⟩ : Py).good := ⟨good_sz hg1, hx.d, hx.iss, hx.ifit, hx.l, hx.lfit⟩
   refine OW_loadR hS7 (k := 4) rfl rfl rfl rfl rfl (by first | exact part_whole rfl rfl rfl | rfl) ?_
   refine OW_allocR hS7 (le_lit (ν := []) (a := [15, 0, 1, 1, 1, 1]) (b := [1, 0, 1, 1, 1, 1, 1, 1]) (by decide)) under_nil rfl rfl rfl rfl fun H8 hS8 => ?_
   replace hS8 : Own _ _ _ ([_, _, _, _, _, _]) := hS8
   first
   | refine OW_storeR hS8 (k := 0) rfl le_refl rfl rfl rfl rfl ⟨rfl, rfl, Nat.le_of_ble_eq_true rfl⟩ (set_whole rfl rfl) fun H9 hS9 => ?_
   | refine OW_storeR hS8 (k := 0) rfl le_refl rfl rfl rfl rfl ⟨rfl, rfl, Nat.le_of_ble_eq_true rfl⟩ (u2 := .agg [_, _, _, _, _, _, _]) rfl fun H9 hS9 => ?_
   replace hS9 : Own _ _ _ ([_, _, _, _, _, _]) := hS9
   refine EZ126_CK20 rfl ?_
   refine XW_sr ?_
   refine OW_loadR hS9 (k := 1) rfl rfl rfl rfl rfl (by first | exact part_whole rfl rfl rfl | rfl) ?_
   refine OW_fa rfl rfl rfl ?_
   refine OW_storeR hS9 (k := 0) rfl (le_lit (ν := []) (a := [3, 0, 1, 1, 1, 1, 1, 1]) (b := [2, 0, 1, 1, 1, 1, 1, 1, 1]) (by decide)) rfl rfl rfl rfl ⟨rfl, rfl, Nat.le_of_ble_eq_true rfl⟩ (u2 := .agg [_, _, _, _, _, _, _]) rfl fun H10 hS10 => ?_
   replace hS10 : Own _ _ _ ([_, _, _, _, _, _]) := hS10
   refine EZ126_CK20 rfl ?_
   refine XW_sr ?_
   refine OW_mv rfl rfl ?_
   refine OW_loadR hS10 (k := 0) rfl rfl rfl rfl rfl (by first | exact part_whole rfl rfl rfl | rfl) ?_
   refine OW_fn rfl rfl (after_e (x := ⟨c1, x.d, x.key, x.iss, x.l⟩) hx1 hg1 hS10 (k := 2) rfl (le_lit (ν := []) (a := [3, 0, 1, 1, 1, 1, 1, 1, 1]) (b := [2, 0, 1, 1, 1, 1, 1, 1, 1, 1]) (by decide)) under_nil (before_lit (ν := []) (a := [2, 0, 1, 1, 1, 1, 1, 1, 1, 1]) (b := [3, 0, 1, 1, 1, 1, 1, 1, 1, 1]) (by decide)) fun H11 c2 T2 hr2 hS11 => ?_) 
   replace hS11 : Own _ _ _ ([_, _, _, _, _, _]) := hS11
   refine EN126_CK20 rfl ?_
   refine OW_allocR hS11 le_refl under_nil rfl rfl rfl rfl fun H12 hS12 => ?_
   replace hS12 : Own _ _ _ ([_, _, _, _, _, _, _]) := hS12
   first
   | refine OW_storeR hS12 (k := 0) rfl le_refl rfl rfl rfl rfl ⟨rfl, rfl, Nat.le_of_ble_eq_true rfl⟩ (set_whole rfl rfl) fun H13 hS13 => ?_
   | refine OW_storeR hS12 (k := 0) rfl le_refl rfl rfl rfl rfl ⟨rfl, rfl, Nat.le_of_ble_eq_true rfl⟩ (u2 := .agg [_, _, _]) rfl fun H13 hS13 => ?_
   replace hS13 : Own _ _ _ ([_, _, _, _, _, _, _]) := hS13
   refine EZ126_CK20 rfl ?_
   refine XW_sr ?_
   have hg2 : c2.good := by have := afterS_good (S := T1) (key := x.key) (l := x.l.take 60) hg1 (fun y hy => hx.lfit y (List.mem_of_mem_take hy)); rw [hr2] at this; exact this
   have hge2 : Ge vo ep c2 := by have := Ge.after (S := T1) (key := x.key) (l := x.l.take 60) hge hg1 (fun y hy => hx.lfit y (List.mem_of_mem_take hy)); rw [hr2] at this; exact this
   have hvl2 := hg2.vl
   obtain ⟨i, hi, hat, hepi⟩ := hge2.at hg2
   refine OW_loadR hS13 (k := 0) rfl rfl rfl rfl rfl (by first | exact part_whole rfl rfl rfl | rfl) ?_
   refine OW_mv rfl rfl ?_
   refine OW_fn rfl rfl (rk_find (c := c2) (by omega) _ ?_) 
   refine EN126_CK20 rfl ?_
   rw [hat]
   refine OW_as rfl rfl ?_
   refine EZ126_CK20 rfl ?_
   refine XW_seq ?_
   refine XW_sr ?_
   refine OW_mv rfl rfl ?_
   refine OW_bin rfl rfl rfl rfl (ltFi (by omega)) ?_
   refine OW_mv rfl rfl ?_
   refine EN126_CK20 rfl ?_
   refine OW_fa rfl rfl rfl ?_
   refine OW_loadR hS13 (k := 0) rfl rfl rfl rfl rfl (by first | exact part_whole rfl rfl rfl | rfl) ?_
   refine OW_mv rfl rfl ?_
   refine EN126_CK20 rfl ?_
   first
   | refine OW_iaL rfl rfl rfl Ls.of rfl rfl rfl (by first | rfl | exact (Int.toNat_of_nonneg (by omega)).symm) (by first | assumption | exact at_map (by first | assumption | omega) | exact at_lst (by omega) | rfl) rfl ?_
   | refine OW_iaL rfl rfl rfl (by assumption) rfl rfl rfl (by first | rfl | exact (Int.toNat_of_nonneg (by omega)).symm) (by first | assumption | exact at_map (by first | assumption | omega) | exact at_lst (by omega) | rfl) rfl ?_
   refine OW_fa rfl rfl rfl ?_
   refine OW_loadE rfl rfl rfl (by first | exact part_whole rfl rfl rfl | rfl) ?_
   refine EN126_CK20 rfl ?_
   refine OW_mv rfl rfl ?_
   refine OW_bin rfl rfl rfl rfl (ltFu (by omega)) ?_
   refine OW_pick rfl rfl rfl ?_
   refine EZ126_CK20 rfl ?_
   refine XW_no rfl rfl ?_
   refine XW_skip ?_
   refine then_norm ?_
   refine XW_seq ?_
   refine XW_sr ?_
   refine OW_fa rfl rfl rfl ?_
   refine OW_fa rfl rfl rfl ?_
   refine OW_loadR hS13 (k := 4) rfl rfl rfl rfl rfl (by first | exact part_whole rfl rfl rfl | rfl) ?_
   refine EN126_CK20 rfl ?_
   refine OW_mv rfl rfl ?_
   refine OW_bin rfl rfl rfl rfl rfl ?_
   refine OW_mv rfl rfl ?_
   refine EN126_CK20 rfl ?_
   refine OW_split (tt := 84) rfl (fun g14_6 => ?_) (fun g14_6 => ?_)
   ·try simp only [bs] at g14_6
    refine OW_no rfl ?_
    refine OW_no rfl ?_
    refine EN126_CK20 rfl ?_
    refine OW_no rfl ?_
    refine OW_no rfl ?_
    refine OW_no rfl ?_
    refine EN126_CK20 rfl ?_
    refine OW_no rfl ?_
    refine OW_pick rfl rfl rfl ?_
    refine OW_mv rfl rfl ?_
    refine EN126_CK20 rfl ?_
    refine OW_no rfl ?_
    refine OW_no rfl ?_
    refine OW_no rfl ?_
    refine EN126_CK20 rfl ?_
    refine OW_no rfl ?_
    refine OW_pick rfl rfl rfl ?_
    refine OW_mv rfl rfl ?_
    refine EN126_CK20 rfl ?_
    refine OW_no rfl ?_
    refine OW_no rfl ?_
    refine OW_no rfl ?_
    refine EN126_CK20 rfl ?_
    refine OW_no rfl ?_
    refine OW_pick rfl rfl rfl ?_
    refine EZ126_CK20 rfl ?_
    refine XW_yes rfl rfl ?_
    refine XW_sr ?_
    refine OW_as rfl rfl ?_
    refine EZ126_CK20 rfl ?_
    refine XW_ret ?_
    refine then_ret ?_
    refine ret_ret (res1 rfl (rv_tmp rfl)) (frz1 (Q := Q) (by first | exact freeze_plain rfl | exact Ls.freeze (by assumption) | exact Ls.freeze Ls.of | exact Ls.freeze Ls.emp | exact Ls.freeze Ls.nls) ?_)
    first
    | ((first | exact absurd trivial g17_7 | exact absurd g17_3 he3 | exact absurd hno.1 g7_3 | (refine qcast hq ?_; rw [decide_eq_true (show atP vo x.c.vs < 0 from hno.2)]; done) | (refine qcast hq ?_; simp; done)))
    | exact hq
    | (refine qcast hq ?_; rfl)
    | (refine qcast hq ?_; simp; done)
    | (refine qcast hq ?_; simp; omega)
    | (refine qcast hq ?_; simp_all; done)
   ·try simp only [bs] at g14_6
    refine OW_fa rfl rfl rfl ?_
    refine OW_fa rfl rfl rfl ?_
    refine EN126_CK20 rfl ?_
    refine OW_fa rfl rfl rfl ?_
    refine OW_loadR hS13 (k := 4) rfl rfl rfl rfl rfl (by first | exact part_whole rfl rfl rfl | rfl) ?_
    refine OW_mv rfl rfl ?_
    refine EN126_CK20 rfl ?_
    refine OW_bin rfl rfl rfl rfl rfl ?_
    refine OW_pick rfl rfl rfl ?_
    refine OW_mv rfl rfl ?_
    refine EN126_CK20 rfl ?_
    refine OW_split (tt := 92) rfl (fun g14_14 => ?_) (fun g14_14 => ?_)
    ·try simp only [bs] at g14_14
     refine OW_no rfl ?_
     refine OW_no rfl ?_
     refine EN126_CK20 rfl ?_
     refine OW_no rfl ?_
     refine OW_no rfl ?_
     refine OW_pick rfl rfl rfl ?_
     refine EN126_CK20 rfl ?_
     refine OW_mv rfl rfl ?_
     refine OW_no rfl ?_
     refine OW_no rfl ?_
     refine EN126_CK20 rfl ?_
     refine OW_no rfl ?_
     refine OW_no rfl ?_
     refine OW_pick rfl rfl rfl ?_
     refine EZ126_CK20 rfl ?_
     refine XW_yes rfl rfl ?_
     refine XW_sr ?_
     refine OW_as rfl rfl ?_
     refine EZ126_CK20 rfl ?_
     refine XW_ret ?_
     refine then_ret ?_
     refine ret_ret (res1 rfl (rv_tmp rfl)) (frz1 (Q := Q) (by first | exact freeze_plain rfl | exact Ls.freeze (by assumption) | exact Ls.freeze Ls.of | exact Ls.freeze Ls.emp | exact Ls.freeze Ls.nls) ?_)
     first
     | ((first | exact absurd trivial g17_7 | exact absurd g17_3 he3 | exact absurd hno.1 g7_3 | (refine qcast hq ?_; rw [decide_eq_true (show atP vo x.c.vs < 0 from hno.2)]; done) | (refine qcast hq ?_; simp; done)))
     | exact hq
     | (refine qcast hq ?_; rfl)
     | (refine qcast hq ?_; simp; done)
     | (refine qcast hq ?_; simp; omega)
     | (refine qcast hq ?_; simp_all; done)
    ·try simp only [bs] at g14_14
     refine OW_fa rfl rfl rfl ?_
     refine OW_fa rfl rfl rfl ?_
     refine EN126_CK20 rfl ?_
     refine OW_loadR hS13 (k := 4) rfl rfl rfl rfl rfl (by first | exact part_whole rfl rfl rfl | rfl) ?_
     refine OW_bin rfl rfl rfl rfl rfl ?_
     refine OW_pick rfl rfl rfl ?_
     refine EN126_CK20 rfl ?_
     refine OW_mv rfl rfl ?_
     refine OW_split (tt := 98) rfl (fun g14_20 => ?_) (fun g14_20 => ?_)
     ·try simp only [bs] at g14_20
      refine OW_no rfl ?_
      refine EN126_CK20 rfl ?_
      refine OW_no rfl ?_
      refine OW_no rfl ?_
      refine OW_no rfl ?_
      refine EN126_CK20 rfl ?_
      refine OW_pick rfl rfl rfl ?_
      refine EZ126_CK20 rfl ?_
      refine XW_yes rfl rfl ?_
      refine XW_sr ?_
      refine OW_as rfl rfl ?_
      refine EZ126_CK20 rfl ?_
      refine XW_ret ?_
      refine then_ret ?_
      refine ret_ret (res1 rfl (rv_tmp rfl)) (frz1 (Q := Q) (by first | exact freeze_plain rfl | exact Ls.freeze (by assumption) | exact Ls.freeze Ls.of | exact Ls.freeze Ls.emp | exact Ls.freeze Ls.nls) ?_)
      first
      | ((first | exact absurd trivial g17_7 | exact absurd g17_3 he3 | exact absurd hno.1 g7_3 | (refine qcast hq ?_; rw [decide_eq_true (show atP vo x.c.vs < 0 from hno.2)]; done) | (refine qcast hq ?_; simp; done)))
      | exact hq
      | (refine qcast hq ?_; rfl)
      | (refine qcast hq ?_; simp; done)
      | (refine qcast hq ?_; simp; omega)
      | (refine qcast hq ?_; simp_all; done)
     ·try simp only [bs] at g14_20
      refine OW_fa rfl rfl rfl ?_
      refine EN126_CK20 rfl ?_
      refine OW_fa rfl rfl rfl ?_
      refine OW_loadR hS13 (k := 4) rfl rfl rfl rfl rfl (by first | exact part_whole rfl rfl rfl | rfl) ?_
      refine OW_bin rfl rfl rfl rfl rfl ?_
      refine EN126_CK20 rfl ?_
      refine OW_pick rfl rfl rfl ?_
      refine EZ126_CK20 rfl ?_
      refine XW_if rfl (fun h14 => ?_) (fun h14 => ?_)
      ·try simp only [bs] at h14
       refine XW_sr ?_
       refine OW_as rfl rfl ?_
       refine EZ126_CK20 rfl ?_
       refine XW_ret ?_
       refine then_ret ?_
       refine ret_ret (res1 rfl (rv_tmp rfl)) (frz1 (Q := Q) (by first | exact freeze_plain rfl | exact Ls.freeze (by assumption) | exact Ls.freeze Ls.of | exact Ls.freeze Ls.emp | exact Ls.freeze Ls.nls) ?_)
       first
       | ((first | exact absurd trivial g17_7 | exact absurd g17_3 he3 | exact absurd hno.1 g7_3 | (refine qcast hq ?_; rw [decide_eq_true (show atP vo x.c.vs < 0 from hno.2)]; done) | (refine qcast hq ?_; simp; done)))
       | exact hq
       | (refine qcast hq ?_; rfl)
       | (refine qcast hq ?_; simp; done)
       | (refine qcast hq ?_; simp; omega)
       | (refine qcast hq ?_; simp_all; done)
      ·try simp only [bs] at h14
       refine XW_skip ?_
       refine then_norm ?_
       refine XW_sr ?_
       refine OW_mv rfl rfl ?_
       refine OW_fa rfl rfl rfl ?_
       refine OW_loadR hS13 (k := 6) rfl rfl rfl rfl rfl (by first | exact part_whole rfl rfl rfl | rfl) ?_
       refine EN126_CK20 rfl ?_
       refine OW_loadR hS13 (k := 0) rfl rfl rfl rfl rfl (by first | exact part_whole rfl rfl rfl | rfl) ?_
       refine OW_fa rfl rfl rfl ?_
       refine OW_loadR hS13 (k := 4) rfl rfl rfl rfl rfl (by first | exact part_whole rfl rfl rfl | rfl) ?_
       refine EN126_CK20 rfl ?_
       refine OW_fn rfl rfl (run_e (c := c2) (m := y.m) hg2 hy.m Ls.of Ls.of Ls.of hS13 (k := 3) rfl (le_lit (ν := []) (a := [5, 0, 1, 1, 1, 1, 1, 1, 1, 1]) (b := [6, 0, 1, 1, 1, 1, 1, 1, 1, 1, 1, 1, 1, 1]) (by decide)) under_nil (before_lit (ν := []) (a := [6, 0, 1, 1, 1, 1, 1, 1, 1, 1, 1, 1, 1, 1]) (b := [7, 0, 1, 1, 1, 1, 1, 1, 1, 1, 1, 1, 1, 1]) (by decide)) fun H14 c3 e3 an3 T3 hr3 hS14 => ?_) 
       replace hS14 : Own _ _ _ ([_, _, _, _, _, _, _]) := hS14
       refine OW_mv rfl rfl ?_
       refine OW_ex rfl rfl rfl ?_
       refine EN126_CK20 rfl ?_
       refine OW_ex rfl rfl rfl ?_
       refine OW_ex rfl rfl rfl ?_
       refine OW_allocR hS14 (le_lit (ν := []) (a := [7, 0, 1, 1, 1, 1, 1, 1, 1, 1, 1, 1, 1, 1]) (b := [11, 0, 1, 1, 1, 1, 1, 1, 1, 1, 1, 1, 1, 1]) (by decide)) under_nil rfl rfl rfl rfl fun H15 hS15 => ?_
       replace hS15 : Own _ _ _ ([_, _, _, _, _, _, _, _]) := hS15
       refine EN126_CK20 rfl ?_
       first
       | refine OW_storeR hS15 (k := 0) rfl le_refl rfl rfl rfl rfl ⟨rfl, rfl, Nat.le_of_ble_eq_true rfl⟩ (set_whole rfl rfl) fun H16 hS16 => ?_
       | refine OW_storeR hS15 (k := 0) rfl le_refl rfl rfl rfl rfl ⟨rfl, rfl, Nat.le_of_ble_eq_true rfl⟩ (u2 := .agg [_, _, _]) rfl fun H16 hS16 => ?_
       replace hS16 : Own _ _ _ ([_, _, _, _, _, _, _, _]) := hS16
       refine OW_as rfl rfl ?_
       refine OW_as rfl rfl ?_
       refine EZ126_CK20 rfl ?_
       refine XW_sr ?_
       have hold := old_no (S := T2) (key := x.key) (m := y.m) (ep := ep) hg2 (by rw [g14_6]; exact hge2) (by omega) ⟨by omega, by omega⟩
       rw [hr3] at hold
       obtain ⟨he3, han3, hc3⟩ : e3 ≠ 0 ∧ an3 = ⟨#[]⟩ ∧ c3 = c2 := hold
       subst han3; subst hc3
       refine OW_mv rfl rfl ?_
       refine OW_bin rfl rfl rfl rfl rfl ?_
       refine OW_mv rfl rfl ?_
       refine EN126_CK20 rfl ?_
       refine OW_split (tt := 117) rfl (fun g17_3 => ?_) (fun g17_3 => ?_)
       ·try simp only [bs] at g17_3
        refine OW_mv rfl rfl ?_
        refine OW_bin rfl rfl rfl rfl rfl ?_
        refine EN126_CK20 rfl ?_
        refine OW_pick rfl rfl rfl ?_
        refine OW_mv rfl rfl ?_
        refine OW_split (tt := 121) rfl (fun g17_7 => ?_) (fun g17_7 => ?_)
        ·try simp only [bs] at g17_7
         refine EN126_CK20 rfl ?_
         refine OW_loadR hS16 (k := 0) rfl rfl rfl rfl rfl (by first | exact part_whole rfl rfl rfl | rfl) ?_
         refine OW_loadR hS16 (k := 1) rfl rfl rfl rfl rfl (by first | exact part_whole rfl rfl rfl | rfl) ?_
         refine OW_fn rfl rfl (ckis_c (c := c3) (d := c3) (good_sz hg2) (good_sz hg2) ?_) 
         refine EN126_CK20 rfl ?_
         refine OW_pick rfl rfl rfl ?_
         refine OW_as rfl rfl ?_
         refine EZ126_CK20 rfl ?_
         refine XW_ret ?_
         refine ret_ret (res1 rfl (rv_tmp rfl)) (frz1 (Q := Q) (by first | exact freeze_plain rfl | exact Ls.freeze (by assumption) | exact Ls.freeze Ls.of | exact Ls.freeze Ls.emp | exact Ls.freeze Ls.nls) ?_)
         first
         | ((first | exact absurd trivial g17_7 | exact absurd g17_3 he3 | exact absurd hno.1 g7_3 | (refine qcast hq ?_; rw [decide_eq_true (show atP vo x.c.vs < 0 from hno.2)]; done) | (refine qcast hq ?_; simp; done)))
         | exact hq
         | (refine qcast hq ?_; rfl)
         | (refine qcast hq ?_; simp; done)
         | (refine qcast hq ?_; simp; omega)
         | (refine qcast hq ?_; simp_all; done)
        ·try simp only [bs] at g17_7
         refine EN126_CK20 rfl ?_
         refine OW_no rfl ?_
         refine OW_no rfl ?_
         refine OW_no rfl ?_
         refine EN126_CK20 rfl ?_
         refine OW_pick rfl rfl rfl ?_
         refine OW_as rfl rfl ?_
         refine EZ126_CK20 rfl ?_
         refine XW_ret ?_
         refine ret_ret (res1 rfl (rv_tmp rfl)) (frz1 (Q := Q) (by first | exact freeze_plain rfl | exact Ls.freeze (by assumption) | exact Ls.freeze Ls.of | exact Ls.freeze Ls.emp | exact Ls.freeze Ls.nls) ?_)
         first
         | ((first | exact absurd trivial g17_7 | exact absurd g17_3 he3 | exact absurd hno.1 g7_3 | (refine qcast hq ?_; rw [decide_eq_true (show atP vo x.c.vs < 0 from hno.2)]; done) | (refine qcast hq ?_; simp; done)))
         | exact hq
         | (refine qcast hq ?_; rfl)
         | (refine qcast hq ?_; simp; done)
         | (refine qcast hq ?_; simp; omega)
         | (refine qcast hq ?_; simp_all; done)
       ·try simp only [bs] at g17_3
        refine OW_no rfl ?_
        refine OW_no rfl ?_
        refine EN126_CK20 rfl ?_
        refine OW_pick rfl rfl rfl ?_
        refine OW_mv rfl rfl ?_
        refine OW_no rfl ?_
        refine EN126_CK20 rfl ?_
        refine OW_no rfl ?_
        refine OW_no rfl ?_
        refine OW_pick rfl rfl rfl ?_
        refine EN126_CK20 rfl ?_
        refine OW_as rfl rfl ?_
        refine EZ126_CK20 rfl ?_
        refine XW_ret ?_
        refine ret_ret (res1 rfl (rv_tmp rfl)) (frz1 (Q := Q) (by first | exact freeze_plain rfl | exact Ls.freeze (by assumption) | exact Ls.freeze Ls.of | exact Ls.freeze Ls.emp | exact Ls.freeze Ls.nls) ?_)
        first
        | ((first | exact absurd trivial g17_7 | exact absurd g17_3 he3 | exact absurd hno.1 g7_3 | (refine qcast hq ?_; rw [decide_eq_true (show atP vo x.c.vs < 0 from hno.2)]; done) | (refine qcast hq ?_; simp; done)))
        | exact hq
        | (refine qcast hq ?_; rfl)
        | (refine qcast hq ?_; simp; done)
        | (refine qcast hq ?_; simp; omega)
        | (refine qcast hq ?_; simp_all; done)
theorem lawEpochs (x : Py) (vo ep : Int) (y : Stp) (hx : x.good) (hf : x.c.fits) (hvo : U64 vo) (hep : U64 ep) (hy : y.fit) (hq : Q (.bool true) H) : CW cfg [] 3 [x.enc, .agg [.int .u64 vo, .int .u64 ep], y.enc] H Q := by
  cases h : chkC x.c with
  | true => exact lawEpochs1 x vo ep y hx hf hvo hep hy h hq
  | false => exact lawEpochs0 x vo ep y hx h hq
theorem ChunkEpochs_true (a0 : Py) (n0 : Nat) (q0 : Py.Q a0 n0) (a1 : A2) (n1 : Nat) (q1 : A2.Q a1 n1) (a2 : Stp) (n2 : Nat) (q2 : Stp.Q a2 n2) (hb : n0 + (n1 + (n2 + (0))) ≤ 1048576) :
    CW cfg [] 3 [Py.enc a0, A2.enc a1, Stp.enc a2] (fun _ => none) (fun v _ => v = .bool true) :=
  have h := py_of q0 (by omega)
  lawEpochs a0 a1.a a1.b a2 h.1 h.2 (A2.ok q1).1 (A2.ok q1).2 (stp_of q2 (by omega)) rfl
end Go.Proofs.Ytfkgdlfponfimaa.X
