/- Layer 14: the document's Check, Load, Least, Is; the program's group. -/
import Derived.Test.YtealccnfnpkngaaCF2
set_option linter.unusedVariables false
set_option linter.unusedSimpArgs false
set_option maxRecDepth 100000
namespace Go.Proofs.Ytealccnfnpkngaa.X
open Go Go.RowKit WM
theorem EN46_CF3 {c : Cfg} {ν : Nm} {e : Env} {H : Heap} {all : Array Oper} {r : List Oper} {i : Nat} {Q : Env → Heap → Prop} {x0 x1 x2 x3 x4 x5 x6 x7 x8 x9 x10 x11 x12 x13 x14 x15 x16 x17 x18 x19 x20 x21 x22 x23 x24 x25 x26 x27 x28 x29 x30 x31 x32 x33 x34 x35 x36 x37 x38 x39 x40 x41 x42 x43 x44 x45 : AVal} (he : e = [x0,x1,x2,x3,x4,x5,x6,x7,x8,x9,x10,x11,x12,x13,x14,x15,x16,x17,x18,x19,x20,x21,x22,x23,x24,x25,x26,x27,x28,x29,x30,x31,x32,x33,x34,x35,x36,x37,x38,x39,x40,x41,x42,x43,x44,x45]) (h : OW c ν all r i [x0,x1,x2,x3,x4,x5,x6,x7,x8,x9,x10,x11,x12,x13,x14,x15,x16,x17,x18,x19,x20,x21,x22,x23,x24,x25,x26,x27,x28,x29,x30,x31,x32,x33,x34,x35,x36,x37,x38,x39,x40,x41,x42,x43,x44,x45] H Q) : OW c ν all r i e H Q := by subst he; exact h
theorem EN62_CF3 {c : Cfg} {ν : Nm} {e : Env} {H : Heap} {all : Array Oper} {r : List Oper} {i : Nat} {Q : Env → Heap → Prop} {x0 x1 x2 x3 x4 x5 x6 x7 x8 x9 x10 x11 x12 x13 x14 x15 x16 x17 x18 x19 x20 x21 x22 x23 x24 x25 x26 x27 x28 x29 x30 x31 x32 x33 x34 x35 x36 x37 x38 x39 x40 x41 x42 x43 x44 x45 x46 x47 x48 x49 x50 x51 x52 x53 x54 x55 x56 x57 x58 x59 x60 x61 : AVal} (he : e = [x0,x1,x2,x3,x4,x5,x6,x7,x8,x9,x10,x11,x12,x13,x14,x15,x16,x17,x18,x19,x20,x21,x22,x23,x24,x25,x26,x27,x28,x29,x30,x31,x32,x33,x34,x35,x36,x37,x38,x39,x40,x41,x42,x43,x44,x45,x46,x47,x48,x49,x50,x51,x52,x53,x54,x55,x56,x57,x58,x59,x60,x61]) (h : OW c ν all r i [x0,x1,x2,x3,x4,x5,x6,x7,x8,x9,x10,x11,x12,x13,x14,x15,x16,x17,x18,x19,x20,x21,x22,x23,x24,x25,x26,x27,x28,x29,x30,x31,x32,x33,x34,x35,x36,x37,x38,x39,x40,x41,x42,x43,x44,x45,x46,x47,x48,x49,x50,x51,x52,x53,x54,x55,x56,x57,x58,x59,x60,x61] H Q) : OW c ν all r i e H Q := by subst he; exact h
theorem EZ21_CF3 {c : Cfg} {ν : Nm} {e : Env} {H : Heap} {all : Array Oper} {i : Nat} {Q : Env → Heap → Prop} {x0 x1 x2 x3 x4 x5 x6 x7 x8 x9 x10 x11 x12 x13 x14 x15 x16 x17 x18 x19 x20 : AVal} (he : e = [x0,x1,x2,x3,x4,x5,x6,x7,x8,x9,x10,x11,x12,x13,x14,x15,x16,x17,x18,x19,x20]) (h : Q [x0,x1,x2,x3,x4,x5,x6,x7,x8,x9,x10,x11,x12,x13,x14,x15,x16,x17,x18,x19,x20] H) : OW c ν all [] i e H Q := by subst he; exact OW_nil h
theorem EZ26_CF3 {c : Cfg} {ν : Nm} {e : Env} {H : Heap} {all : Array Oper} {i : Nat} {Q : Env → Heap → Prop} {x0 x1 x2 x3 x4 x5 x6 x7 x8 x9 x10 x11 x12 x13 x14 x15 x16 x17 x18 x19 x20 x21 x22 x23 x24 x25 : AVal} (he : e = [x0,x1,x2,x3,x4,x5,x6,x7,x8,x9,x10,x11,x12,x13,x14,x15,x16,x17,x18,x19,x20,x21,x22,x23,x24,x25]) (h : Q [x0,x1,x2,x3,x4,x5,x6,x7,x8,x9,x10,x11,x12,x13,x14,x15,x16,x17,x18,x19,x20,x21,x22,x23,x24,x25] H) : OW c ν all [] i e H Q := by subst he; exact OW_nil h
theorem EZ46_CF3 {c : Cfg} {ν : Nm} {e : Env} {H : Heap} {all : Array Oper} {i : Nat} {Q : Env → Heap → Prop} {x0 x1 x2 x3 x4 x5 x6 x7 x8 x9 x10 x11 x12 x13 x14 x15 x16 x17 x18 x19 x20 x21 x22 x23 x24 x25 x26 x27 x28 x29 x30 x31 x32 x33 x34 x35 x36 x37 x38 x39 x40 x41 x42 x43 x44 x45 : AVal} (he : e = [x0,x1,x2,x3,x4,x5,x6,x7,x8,x9,x10,x11,x12,x13,x14,x15,x16,x17,x18,x19,x20,x21,x22,x23,x24,x25,x26,x27,x28,x29,x30,x31,x32,x33,x34,x35,x36,x37,x38,x39,x40,x41,x42,x43,x44,x45]) (h : Q [x0,x1,x2,x3,x4,x5,x6,x7,x8,x9,x10,x11,x12,x13,x14,x15,x16,x17,x18,x19,x20,x21,x22,x23,x24,x25,x26,x27,x28,x29,x30,x31,x32,x33,x34,x35,x36,x37,x38,x39,x40,x41,x42,x43,x44,x45] H) : OW c ν all [] i e H Q := by subst he; exact OW_nil h
theorem EZ62_CF3 {c : Cfg} {ν : Nm} {e : Env} {H : Heap} {all : Array Oper} {i : Nat} {Q : Env → Heap → Prop} {x0 x1 x2 x3 x4 x5 x6 x7 x8 x9 x10 x11 x12 x13 x14 x15 x16 x17 x18 x19 x20 x21 x22 x23 x24 x25 x26 x27 x28 x29 x30 x31 x32 x33 x34 x35 x36 x37 x38 x39 x40 x41 x42 x43 x44 x45 x46 x47 x48 x49 x50 x51 x52 x53 x54 x55 x56 x57 x58 x59 x60 x61 : AVal} (he : e = [x0,x1,x2,x3,x4,x5,x6,x7,x8,x9,x10,x11,x12,x13,x14,x15,x16,x17,x18,x19,x20,x21,x22,x23,x24,x25,x26,x27,x28,x29,x30,x31,x32,x33,x34,x35,x36,x37,x38,x39,x40,x41,x42,x43,x44,x45,x46,x47,x48,x49,x50,x51,x52,x53,x54,x55,x56,x57,x58,x59,x60,x61]) (h : Q [x0,x1,x2,x3,x4,x5,x6,x7,x8,x9,x10,x11,x12,x13,x14,x15,x16,x17,x18,x19,x20,x21,x22,x23,x24,x25,x26,x27,x28,x29,x30,x31,x32,x33,x34,x35,x36,x37,x38,x39,x40,x41,x42,x43,x44,x45,x46,x47,x48,x49,x50,x51,x52,x53,x54,x55,x56,x57,x58,x59,x60,x61] H) : OW c ν all [] i e H Q := by subst he; exact OW_nil h
variable {ν β ps pos' : Nm} {H : Heap} {Q : AVal → Heap → Prop} {L : List Asr} {k : Nat}
theorem rf_check {v : AVal} {c : Cf} {gs : Int} (hv : freeze [] H 8 v = c.enc) (hf : c.fit) (hq : Q (.bool (chkC c gs)) H) : CW cfg ν 9 [v, .int .i64 gs] H Q := by
  have hn := hf.lp; have hm := hf.lq
  refine CW_borrowL (args' := [.agg [.lst (c.qs.map Qu.enc), .lst (c.ps.map Pl.enc), .int .u64 c.nx], .int .i64 gs]) g9 F9 rfl (fz_cons (by first | assumption | exact freeze_plain rfl | exact Ls.freeze (by assumption) | rfl) (fz_cons (by first | assumption | exact freeze_plain rfl | exact Ls.freeze (by assumption) | rfl) fz_nil)) ?_
  have hS0 : Own ν ν (fun _ => none) [] := Own.nil
  refine XW_sr ?_
  refine OW_boxR hS0 (le_app (p := ν) (b := [0, 0])) (under_app [0, 0] under_me) rfl rfl rfl ⟨rfl, rfl⟩ fun H1 hS1 => ?_
  replace hS1 : Own _ _ _ ([_]) := hS1
  refine OW_as rfl rfl ?_
  refine EZ62_CF3 rfl ?_
  refine XW_seq ?_
  refine XW_sr ?_
  refine OW_mv rfl rfl ?_
  refine OW_bin rfl rfl rfl rfl rfl ?_
  refine OW_mv rfl rfl ?_
  refine EN62_CF3 rfl ?_
  refine OW_split (tt := 9) rfl (fun g1_3 => ?_) (fun g1_3 => ?_)
  ·try simp only [bs] at g1_3
   refine OW_no rfl ?_
   refine OW_no rfl ?_
   refine EN62_CF3 rfl ?_
   refine OW_pick rfl rfl rfl ?_
   refine OW_mv rfl rfl ?_
   refine OW_no rfl ?_
   refine EN62_CF3 rfl ?_
   refine OW_no rfl ?_
   refine OW_no rfl ?_
   refine OW_no rfl ?_
   refine EN62_CF3 rfl ?_
   refine OW_pick rfl rfl rfl ?_
   refine OW_mv rfl rfl ?_
   refine OW_no rfl ?_
   refine EN62_CF3 rfl ?_
   refine OW_no rfl ?_
   refine OW_no rfl ?_
   refine OW_no rfl ?_
   refine EN62_CF3 rfl ?_
   refine OW_pick rfl rfl rfl ?_
   refine EZ62_CF3 rfl ?_
   refine XW_yes rfl rfl ?_
   refine XW_sr ?_
   refine OW_as rfl rfl ?_
   refine EZ62_CF3 rfl ?_
   refine XW_ret ?_
   refine then_ret ?_
   -- outcome 1
   refine ret_ret (res1 rfl (rv_tmp rfl)) ⟨rfl, ?_⟩
   refine qcast hq ?_
   congr 1
   first | exact (chkC_yes ⟨hg, hcq, hcl, fun j h => hI j h (by omega)⟩).symm | exact (chkC_no (fun h => by have := h.p i (by omega); omega)).symm | exact (chkC_no (fun h => by have := h.hg; omega)).symm | exact (chkC_no (fun h => by have := h.l; omega)).symm | exact (chkC_no (fun h => by have := h.q; simp_all)).symm
  ·try simp only [bs] at g1_3
   refine OW_mv rfl rfl ?_
   refine OW_bin rfl rfl rfl rfl rfl ?_
   refine EN62_CF3 rfl ?_
   refine OW_pick rfl rfl rfl ?_
   refine OW_mv rfl rfl ?_
   refine OW_split (tt := 13) rfl (fun g1_7 => ?_) (fun g1_7 => ?_)
   ·try simp only [bs] at g1_7
    refine EN62_CF3 rfl ?_
    refine OW_no rfl ?_
    refine OW_no rfl ?_
    refine OW_no rfl ?_
    refine EN62_CF3 rfl ?_
    refine OW_no rfl ?_
    refine OW_pick rfl rfl rfl ?_
    refine OW_mv rfl rfl ?_
    refine EN62_CF3 rfl ?_
    refine OW_no rfl ?_
    refine OW_no rfl ?_
    refine OW_no rfl ?_
    refine EN62_CF3 rfl ?_
    refine OW_no rfl ?_
    refine OW_pick rfl rfl rfl ?_
    refine EZ62_CF3 rfl ?_
    refine XW_yes rfl rfl ?_
    refine XW_sr ?_
    refine OW_as rfl rfl ?_
    refine EZ62_CF3 rfl ?_
    refine XW_ret ?_
    refine then_ret ?_
    -- outcome 2
    refine ret_ret (res1 rfl (rv_tmp rfl)) ⟨rfl, ?_⟩
    refine qcast hq ?_
    congr 1
    first | exact (chkC_yes ⟨hg, hcq, hcl, fun j h => hI j h (by omega)⟩).symm | exact (chkC_no (fun h => by have := h.p i (by omega); omega)).symm | exact (chkC_no (fun h => by have := h.hg; omega)).symm | exact (chkC_no (fun h => by have := h.l; omega)).symm | exact (chkC_no (fun h => by have := h.q; simp_all)).symm
   ·try simp only [bs] at g1_7
    refine EN62_CF3 rfl ?_
    refine OW_fa rfl rfl rfl ?_
    refine OW_loadR hS1 (k := 0) rfl rfl rfl rfl rfl (by first | exact part_whole rfl rfl rfl | rfl) ?_
    refine OW_fn rfl rfl (r_check (Ls.freeze Ls.of) (by omega) ?_) 
    refine EN62_CF3 rfl ?_
    refine OW_un rfl rfl rfl ?_
    refine OW_pick rfl rfl rfl ?_
    refine OW_mv rfl rfl ?_
    refine EN62_CF3 rfl ?_
    refine OW_split (tt := 19) rfl (fun g1_13 => ?_) (fun g1_13 => ?_)
    ·try simp only [bs] at g1_13
     refine OW_no rfl ?_
     refine OW_no rfl ?_
     refine EN62_CF3 rfl ?_
     refine OW_no rfl ?_
     refine OW_no rfl ?_
     refine OW_pick rfl rfl rfl ?_
     refine EZ62_CF3 rfl ?_
     refine XW_yes rfl rfl ?_
     refine XW_sr ?_
     refine OW_as rfl rfl ?_
     refine EZ62_CF3 rfl ?_
     refine XW_ret ?_
     refine then_ret ?_
     -- outcome 3
     refine ret_ret (res1 rfl (rv_tmp rfl)) ⟨rfl, ?_⟩
     refine qcast hq ?_
     congr 1
     first | exact (chkC_yes ⟨hg, hcq, hcl, fun j h => hI j h (by omega)⟩).symm | exact (chkC_no (fun h => by have := h.p i (by omega); omega)).symm | exact (chkC_no (fun h => by have := h.hg; omega)).symm | exact (chkC_no (fun h => by have := h.l; omega)).symm | exact (chkC_no (fun h => by have := h.q; simp_all)).symm
    ·try simp only [bs] at g1_13
     refine OW_fa rfl rfl rfl ?_
     refine OW_loadR hS1 (k := 0) rfl rfl rfl rfl rfl (by first | exact part_whole rfl rfl rfl | rfl) ?_
     refine EN62_CF3 rfl ?_
     first
     | refine OW_lenL rfl rfl (by first | assumption | exact Ls.of | exact Ls.emp | exact Ls.nls) rfl rfl rfl (by first | exact List.length_map _ | rfl) ?_
     | refine OW_bi rfl rfl rfl ?_
     refine OW_bin rfl rfl rfl rfl rfl ?_
     refine OW_pick rfl rfl rfl ?_
     refine EZ62_CF3 rfl ?_
     refine XW_if rfl (fun h1 => ?_) (fun h1 => ?_)
     ·try simp only [bs] at h1
      refine XW_sr ?_
      refine OW_as rfl rfl ?_
      refine EZ62_CF3 rfl ?_
      refine XW_ret ?_
      refine then_ret ?_
      -- outcome 4
      refine ret_ret (res1 rfl (rv_tmp rfl)) ⟨rfl, ?_⟩
      refine qcast hq ?_
      congr 1
      first | exact (chkC_yes ⟨hg, hcq, hcl, fun j h => hI j h (by omega)⟩).symm | exact (chkC_no (fun h => by have := h.p i (by omega); omega)).symm | exact (chkC_no (fun h => by have := h.hg; omega)).symm | exact (chkC_no (fun h => by have := h.l; omega)).symm | exact (chkC_no (fun h => by have := h.q; simp_all)).symm
     ·try simp only [bs] at h1
      refine XW_skip ?_
      refine then_norm ?_
      refine XW_seq ?_
      refine XW_sr ?_
      refine OW_as rfl rfl ?_
      refine EZ62_CF3 rfl ?_
      refine XW_block ?_
      refine XW_whileN (I := fun ν' mm ee H' => ∃ (i : Nat), mm = c.ps.length - i ∧ under (1 :: 0 :: 1 :: 1 :: ν) ν' = true ∧ Own ν ν' H' ([row (0 :: 0 :: ν) 3 [.agg [.lst (c.qs.map Qu.enc), .lst (c.ps.map Pl.enc), .int .u64 c.nx]]]) ∧ (i ≤ c.ps.length ∧ (1 ≤ gs ∧ gs ≤ 4) ∧ chkQ c.qs = true ∧ c.ps.length ≤ 32 ∧ ∀ j (h : j < c.ps.length), j < i → atP c.ps[j].vo c.ps = j ∧ c.ps[j].vo < c.nx ∧ c.ps[j].de ≤ 4 ∧ c.ps[j].gr < gs) ∧ ∃ g : Nat → AVal, ee = [g 0, .int .i64 gs, .ptr (0 :: 0 :: ν) 0 0, g 3, g 4, .int .i64 i, g 6, g 7, g 8, g 9, g 10, g 11, g 12, g 13, g 14, g 15, g 16, g 17, g 18, g 19, g 20, g 21, g 22, g 23, g 24, g 25, g 26, g 27, g 28, g 29, g 30, g 31, g 32, g 33, g 34, g 35, g 36, g 37, g 38, g 39, g 40, g 41, g 42, g 43, g 44, g 45, g 46, g 47, g 48, g 49, g 50, g 51, g 52, g 53, g 54, g 55, g 56, g 57, g 58, g 59, g 60, g 61]) ?_ _ _ _ _ ⟨0, rfl, under_me, Own.cast (Own.mono (hS1) (le_lit (ν := ν) (a := [1, 0]) (b := [1, 0, 1, 1]) (by decide))) (rfl), (⟨by omega, by omega, by assumption, by omega, fun j h hj => by omega⟩), env_g rfl⟩
      rintro ν1 mm ee H2 ⟨i, rfl, hU1, hS2, ⟨hi, hg, hcq, hcl, hI⟩, g1, rfl⟩
      refine XW_seq ?_
      refine XW_sr ?_
      refine OW_mv rfl rfl ?_
      refine OW_fa rfl rfl rfl ?_
      refine OW_loadR hS2 (k := 0) rfl rfl rfl rfl rfl (by first | exact part_whole rfl rfl rfl | rfl) ?_
      refine EN62_CF3 rfl ?_
      first
      | refine OW_lenL rfl rfl (by first | assumption | exact Ls.of | exact Ls.emp | exact Ls.nls) rfl rfl rfl (by first | exact List.length_map _ | rfl) ?_
      | refine OW_bi rfl rfl rfl ?_
      refine OW_bin rfl rfl rfl rfl rfl ?_
      refine EZ62_CF3 rfl ?_
      refine XW_if rfl (fun h4 => ?_) (fun h4 => ?_)
      ·try simp only [bs] at h4
       refine XW_skip ?_
       refine then_norm ?_
       refine XW_seq ?_
       refine XW_block ?_
       refine XW_sr ?_
       have hgw := u64_small hg
       refine OW_fa rfl rfl rfl ?_
       refine OW_loadR hS2 (k := 0) rfl rfl rfl rfl rfl (by first | exact part_whole rfl rfl rfl | rfl) ?_
       refine OW_mv rfl rfl ?_
       refine EN62_CF3 rfl ?_
       first
       | refine OW_iaL rfl rfl rfl Ls.of rfl rfl rfl (by first | rfl | exact (Int.toNat_of_nonneg (by omega)).symm) (by first | assumption | exact at_map (by first | assumption | omega) | exact at_lst (by omega) | rfl) rfl ?_
       | refine OW_iaL rfl rfl rfl (by assumption) rfl rfl rfl (by first | rfl | exact (Int.toNat_of_nonneg (by omega)).symm) (by first | assumption | exact at_map (by first | assumption | omega) | exact at_lst (by omega) | rfl) rfl ?_
       refine OW_loadE rfl rfl rfl (by first | exact part_whole rfl rfl rfl | rfl) ?_
       refine OW_allocR hS2 (le_app (p := ν1) (b := [5, 0, 0, 1, 0])) (under_app [5, 0, 0, 1, 0] (under_trans (under_app [1, 0, 1, 1] under_me) hU1)) rfl rfl rfl rfl fun H3 hS3 => ?_
       replace hS3 : Own _ _ _ ([_, _]) := hS3
       refine EN62_CF3 rfl ?_
       first
       | refine OW_storeR hS3 (k := 0) rfl le_refl rfl rfl rfl rfl ⟨rfl, rfl, Nat.le_of_ble_eq_true rfl⟩ (set_whole rfl rfl) fun H4 hS4 => ?_
       | refine OW_storeR hS3 (k := 0) rfl le_refl rfl rfl rfl rfl ⟨rfl, rfl, Nat.le_of_ble_eq_true rfl⟩ (u2 := .agg [_, _, _, _, _]) rfl fun H4 hS4 => ?_
       replace hS4 : Own _ _ _ ([_, _]) := hS4
       refine EZ62_CF3 rfl ?_
       refine XW_sr ?_
       refine OW_loadR hS4 (k := 1) rfl rfl rfl rfl rfl (by first | exact part_whole rfl rfl rfl | rfl) ?_
       refine OW_fa rfl rfl rfl ?_
       refine OW_loadR hS4 (k := 0) rfl rfl rfl rfl rfl (by first | exact part_whole rfl rfl rfl | rfl) ?_
       refine EN62_CF3 rfl ?_
       refine OW_fn rfl rfl (rf_find (c := c) (by first | rfl | assumption) (by omega) _ ?_) 
       refine OW_mv rfl rfl ?_
       refine OW_bin rfl rfl rfl rfl rfl ?_
       refine EN62_CF3 rfl ?_
       refine OW_mv rfl rfl ?_
       refine OW_split (tt := 43) rfl (fun g7_7 => ?_) (fun g7_7 => ?_)
       ·try simp only [bs] at g7_7
        refine OW_no rfl ?_
        refine EN62_CF3 rfl ?_
        refine OW_no rfl ?_
        refine OW_no rfl ?_
        refine OW_no rfl ?_
        refine EN62_CF3 rfl ?_
        refine OW_no rfl ?_
        refine OW_pick rfl rfl rfl ?_
        refine OW_mv rfl rfl ?_
        refine EN62_CF3 rfl ?_
        refine OW_no rfl ?_
        refine OW_no rfl ?_
        refine OW_no rfl ?_
        refine EN62_CF3 rfl ?_
        refine OW_pick rfl rfl rfl ?_
        refine OW_mv rfl rfl ?_
        refine OW_no rfl ?_
        refine EN62_CF3 rfl ?_
        refine OW_no rfl ?_
        refine OW_no rfl ?_
        refine OW_no rfl ?_
        refine EN62_CF3 rfl ?_
        refine OW_no rfl ?_
        refine OW_pick rfl rfl rfl ?_
        refine EZ62_CF3 rfl ?_
        refine XW_yes rfl rfl ?_
        refine XW_sr ?_
        refine OW_as rfl rfl ?_
        refine EZ62_CF3 rfl ?_
        refine XW_ret ?_
        refine block_ret ?_
        refine then_ret ?_
        refine block_ret ?_
        refine then_ret ?_
        -- outcome 5
        refine ret_ret (res1 rfl (rv_tmp rfl)) ⟨rfl, ?_⟩
        refine qcast hq ?_
        congr 1
        first | exact (chkC_yes ⟨hg, hcq, hcl, fun j h => hI j h (by omega)⟩).symm | exact (chkC_no (fun h => by have := h.p i (by omega); omega)).symm | exact (chkC_no (fun h => by have := h.hg; omega)).symm | exact (chkC_no (fun h => by have := h.l; omega)).symm | exact (chkC_no (fun h => by have := h.q; simp_all)).symm
       ·try simp only [bs] at g7_7
        refine OW_fa rfl rfl rfl ?_
        refine EN62_CF3 rfl ?_
        refine OW_loadR hS4 (k := 0) rfl rfl rfl rfl rfl (by first | exact part_whole rfl rfl rfl | rfl) ?_
        refine OW_fa rfl rfl rfl ?_
        refine OW_loadR hS4 (k := 1) rfl rfl rfl rfl rfl (by first | exact part_whole rfl rfl rfl | rfl) ?_
        refine EN62_CF3 rfl ?_
        refine OW_bin rfl rfl rfl rfl rfl ?_
        refine OW_pick rfl rfl rfl ?_
        refine OW_mv rfl rfl ?_
        refine EN62_CF3 rfl ?_
        refine OW_split (tt := 50) rfl (fun g7_14 => ?_) (fun g7_14 => ?_)
        ·try simp only [bs] at g7_14
         refine OW_no rfl ?_
         refine OW_no rfl ?_
         refine EN62_CF3 rfl ?_
         refine OW_no rfl ?_
         refine OW_pick rfl rfl rfl ?_
         refine OW_mv rfl rfl ?_
         refine EN62_CF3 rfl ?_
         refine OW_no rfl ?_
         refine OW_no rfl ?_
         refine OW_no rfl ?_
         refine EN62_CF3 rfl ?_
         refine OW_no rfl ?_
         refine OW_no rfl ?_
         refine OW_pick rfl rfl rfl ?_
         refine EZ62_CF3 rfl ?_
         refine XW_yes rfl rfl ?_
         refine XW_sr ?_
         refine OW_as rfl rfl ?_
         refine EZ62_CF3 rfl ?_
         refine XW_ret ?_
         refine block_ret ?_
         refine then_ret ?_
         refine block_ret ?_
         refine then_ret ?_
         -- outcome 6
         refine ret_ret (res1 rfl (rv_tmp rfl)) ⟨rfl, ?_⟩
         refine qcast hq ?_
         congr 1
         first | exact (chkC_yes ⟨hg, hcq, hcl, fun j h => hI j h (by omega)⟩).symm | exact (chkC_no (fun h => by have := h.p i (by omega); omega)).symm | exact (chkC_no (fun h => by have := h.hg; omega)).symm | exact (chkC_no (fun h => by have := h.l; omega)).symm | exact (chkC_no (fun h => by have := h.q; simp_all)).symm
        ·try simp only [bs] at g7_14
         refine OW_fa rfl rfl rfl ?_
         refine OW_loadR hS4 (k := 0) rfl rfl rfl rfl rfl (by first | exact part_whole rfl rfl rfl | rfl) ?_
         refine EN62_CF3 rfl ?_
         refine OW_bin rfl rfl rfl rfl rfl ?_
         refine OW_pick rfl rfl rfl ?_
         refine OW_mv rfl rfl ?_
         refine EN62_CF3 rfl ?_
         refine OW_split (tt := 55) rfl (fun g7_19 => ?_) (fun g7_19 => ?_)
         ·try simp only [bs] at g7_19
          refine OW_no rfl ?_
          refine OW_no rfl ?_
          refine EN62_CF3 rfl ?_
          refine OW_no rfl ?_
          refine OW_no rfl ?_
          refine OW_no rfl ?_
          refine EN62_CF3 rfl ?_
          refine OW_pick rfl rfl rfl ?_
          refine EZ62_CF3 rfl ?_
          refine XW_yes rfl rfl ?_
          refine XW_sr ?_
          refine OW_as rfl rfl ?_
          refine EZ62_CF3 rfl ?_
          refine XW_ret ?_
          refine block_ret ?_
          refine then_ret ?_
          refine block_ret ?_
          refine then_ret ?_
          -- outcome 7
          refine ret_ret (res1 rfl (rv_tmp rfl)) ⟨rfl, ?_⟩
          refine qcast hq ?_
          congr 1
          first | exact (chkC_yes ⟨hg, hcq, hcl, fun j h => hI j h (by omega)⟩).symm | exact (chkC_no (fun h => by have := h.p i (by omega); omega)).symm | exact (chkC_no (fun h => by have := h.hg; omega)).symm | exact (chkC_no (fun h => by have := h.l; omega)).symm | exact (chkC_no (fun h => by have := h.q; simp_all)).symm
         ·try simp only [bs] at g7_19
          refine OW_fa rfl rfl rfl ?_
          refine OW_loadR hS4 (k := 0) rfl rfl rfl rfl rfl (by first | exact part_whole rfl rfl rfl | rfl) ?_
          refine EN62_CF3 rfl ?_
          refine OW_mv rfl rfl ?_
          first
          | refine OW_conv rfl rfl (conv_in rfl rfl rfl (IntWalk.u64_in _ (by omega))) ?_
          | refine OW_conv rfl rfl rfl ?_
          refine OW_bin rfl rfl rfl rfl rfl ?_
          refine EN62_CF3 rfl ?_
          refine OW_pick rfl rfl rfl ?_
          refine EZ62_CF3 rfl ?_
          refine XW_if rfl (fun h7 => ?_) (fun h7 => ?_)
          ·try simp only [bs] at h7
           refine XW_sr ?_
           refine OW_as rfl rfl ?_
           refine EZ62_CF3 rfl ?_
           refine XW_ret ?_
           refine block_ret ?_
           refine then_ret ?_
           refine block_ret ?_
           refine then_ret ?_
           -- outcome 8
           refine ret_ret (res1 rfl (rv_tmp rfl)) ⟨rfl, ?_⟩
           refine qcast hq ?_
           congr 1
           first | exact (chkC_yes ⟨hg, hcq, hcl, fun j h => hI j h (by omega)⟩).symm | exact (chkC_no (fun h => by have := h.p i (by omega); omega)).symm | exact (chkC_no (fun h => by have := h.hg; omega)).symm | exact (chkC_no (fun h => by have := h.l; omega)).symm | exact (chkC_no (fun h => by have := h.q; simp_all)).symm
          ·try simp only [bs] at h7
           refine XW_skip ?_
           refine block_norm ?_
           refine then_norm ?_
           refine XW_region ?_
           refine OW_mv rfl rfl ?_
           first
           | refine OW_bin rfl rfl rfl rfl (add_w64 (by first | omega | assumption | (simp only [ss]; omega))) ?_
           | refine OW_bin rfl rfl rfl rfl rfl ?_
           refine OW_as rfl rfl ?_
           refine EZ62_CF3 rfl ?_
           have hSd1 : Own _ _ _ ([_]) := (Own.drop hS4 (k := 0) rfl)
           -- round 0.1
           refine ⟨_, ?_, i + 1, rfl, under_in hU1, Own.cast (Own.mono (hSd1) (le_lit (ν := ν1) (a := [7, 0, 0, 1, 0]) (b := [1]) (by decide))) (rfl), ?_, env_g rfl⟩
           · first | omega | (simp; omega)
           · exact ⟨by omega, hg, hcq, hcl, fun j h hj => by by_cases e : j = i; (subst e; exact ⟨by omega, by omega, by omega, by omega⟩); exact hI j h (by omega)⟩
      ·try simp only [bs] at h4
       refine XW_exit ?_
       refine then_exit ?_
       refine block_exit ?_
       refine then_norm ?_
       refine XW_sr ?_
       refine OW_as rfl rfl ?_
       refine EZ62_CF3 rfl ?_
       refine XW_ret ?_
       -- outcome 9
       refine ret_ret (res1 rfl (rv_tmp rfl)) ⟨rfl, ?_⟩
       refine qcast hq ?_
       congr 1
       first | exact (chkC_yes ⟨hg, hcq, hcl, fun j h => hI j h (by omega)⟩).symm | exact (chkC_no (fun h => by have := h.p i (by omega); omega)).symm | exact (chkC_no (fun h => by have := h.hg; omega)).symm | exact (chkC_no (fun h => by have := h.l; omega)).symm | exact (chkC_no (fun h => by have := h.q; simp_all)).symm
theorem cnt_yes {α : Type} {l : List α} {p : α → Bool} {i : Nat} (hi : i < l.length) (h : p l[i] = true) : (l.take (i + 1)).countP p = (l.take i).countP p + 1 := by
  rw [List.take_succ_eq_append_getElem hi, List.countP_append, List.countP_singleton, if_pos h]
theorem cnt_no {α : Type} {l : List α} {p : α → Bool} {i : Nat} (hi : i < l.length) (h : p l[i] = false) : (l.take (i + 1)).countP p = (l.take i).countP p := by
  rw [List.take_succ_eq_append_getElem hi, List.countP_append, List.countP_singleton, if_neg (by rw [h]; decide)]; rfl
/-- How many places a group has. -/
def inG (g : Int) (x : Pl) : Bool := decide (x.gr = g)
def ldG (t : List Pl) (g : Int) : Nat := t.countP (inG g)
theorem ldG_le (t : List Pl) (g : Int) : ldG t g ≤ t.length := List.countP_le_length
theorem rf_load {v : AVal} {c : Cf} {gp : Int} (hv : freeze [] H 8 v = c.enc) (hf : c.ps.length ≤ 1048577) (h0 : 0 ≤ gp ∧ gp ≤ 9223372036854775807) (hq : Q (.int .i64 (ldG c.ps gp : Nat)) H) : CW cfg ν 14 [v, .int .i64 gp] H Q := by
  refine CW_borrowL (args' := [.agg [.lst (c.qs.map Qu.enc), .lst (c.ps.map Pl.enc), .int .u64 c.nx], .int .i64 gp]) g14 F14 rfl (fz_cons (by first | assumption | exact freeze_plain rfl | exact Ls.freeze (by assumption) | rfl) (fz_cons (by first | assumption | exact freeze_plain rfl | exact Ls.freeze (by assumption) | rfl) fz_nil)) ?_
  have hS0 : Own ν ν (fun _ => none) [] := Own.nil
  refine XW_sr ?_
  refine OW_boxR hS0 (le_app (p := ν) (b := [0, 0])) (under_app [0, 0] under_me) rfl rfl rfl ⟨rfl, rfl⟩ fun H1 hS1 => ?_
  replace hS1 : Own _ _ _ ([_]) := hS1
  refine OW_as rfl rfl ?_
  refine EZ26_CF3 rfl ?_
  refine XW_sr ?_
  refine OW_as rfl rfl ?_
  refine EZ26_CF3 rfl ?_
  refine XW_seq ?_
  refine XW_sr ?_
  refine OW_as rfl rfl ?_
  refine EZ26_CF3 rfl ?_
  refine XW_block ?_
  refine XW_whileN (I := fun ν' mm ee H' => ∃ (i : Nat) (n : Nat), mm = c.ps.length - i ∧ under (1 :: 0 :: 1 :: 1 :: ν) ν' = true ∧ Own ν ν' H' ([row (0 :: 0 :: ν) 3 [.agg [.lst (c.qs.map Qu.enc), .lst (c.ps.map Pl.enc), .int .u64 c.nx]]]) ∧ (i ≤ c.ps.length ∧ n = ldG (c.ps.take i) gp ∧ n ≤ i) ∧ ∃ g : Nat → AVal, ee = [g 0, .int .i64 gp, .ptr (0 :: 0 :: ν) 0 0, g 3, g 4, .int .i64 n, .int .i64 i, g 7, g 8, g 9, g 10, g 11, g 12, g 13, g 14, g 15, g 16, g 17, g 18, g 19, g 20, g 21, g 22, g 23, g 24, g 25]) ?_ _ _ _ _ ⟨0, 0, rfl, under_me, Own.cast (Own.mono (hS1) (le_lit (ν := ν) (a := [1, 0]) (b := [1, 0, 1, 1]) (by decide))) (rfl), (⟨by omega, rfl, by omega⟩), env_g rfl⟩
  rintro ν1 mm ee H2 ⟨i, n, rfl, hU1, hS2, ⟨hi, hn, hni⟩, g1, rfl⟩
  refine XW_seq ?_
  refine XW_sr ?_
  refine OW_mv rfl rfl ?_
  refine OW_fa rfl rfl rfl ?_
  refine OW_loadR hS2 (k := 0) rfl rfl rfl rfl rfl (by first | exact part_whole rfl rfl rfl | rfl) ?_
  refine OW_env (e' := [_,_,_,_,_,_,_,_,_,_,_,_,_,_,_,_,_,_,_,_,_,_,_,_,_,_]) rfl ?_
  first
  | refine OW_lenL rfl rfl (by first | assumption | exact Ls.of | exact Ls.emp | exact Ls.nls) rfl rfl rfl (by first | exact List.length_map _ | rfl) ?_
  | refine OW_bi rfl rfl rfl ?_
  refine OW_bin rfl rfl rfl rfl rfl ?_
  refine EZ26_CF3 rfl ?_
  refine XW_if rfl (fun h3 => ?_) (fun h3 => ?_)
  ·try simp only [bs] at h3
   refine XW_skip ?_
   refine then_norm ?_
   refine XW_seq ?_
   refine XW_block ?_
   refine XW_sr ?_
   refine OW_fa rfl rfl rfl ?_
   refine OW_loadR hS2 (k := 0) rfl rfl rfl rfl rfl (by first | exact part_whole rfl rfl rfl | rfl) ?_
   refine OW_mv rfl rfl ?_
   refine OW_env (e' := [_,_,_,_,_,_,_,_,_,_,_,_,_,_,_,_,_,_,_,_,_,_,_,_,_,_]) rfl ?_
   first
   | refine OW_iaL rfl rfl rfl Ls.of rfl rfl rfl (by first | rfl | exact (Int.toNat_of_nonneg (by omega)).symm) (by first | assumption | exact at_map (by first | assumption | omega) | exact at_lst (by omega) | rfl) rfl ?_
   | refine OW_iaL rfl rfl rfl (by assumption) rfl rfl rfl (by first | rfl | exact (Int.toNat_of_nonneg (by omega)).symm) (by first | assumption | exact at_map (by first | assumption | omega) | exact at_lst (by omega) | rfl) rfl ?_
   refine OW_fa rfl rfl rfl ?_
   refine OW_loadE rfl rfl rfl (by first | exact part_whole rfl rfl rfl | rfl) ?_
   refine OW_env (e' := [_,_,_,_,_,_,_,_,_,_,_,_,_,_,_,_,_,_,_,_,_,_,_,_,_,_]) rfl ?_
   refine OW_mv rfl rfl ?_
   first
   | refine OW_conv rfl rfl (conv_in rfl rfl rfl (IntWalk.u64_in _ (by omega))) ?_
   | refine OW_conv rfl rfl rfl ?_
   refine OW_bin rfl rfl rfl rfl rfl ?_
   refine EZ26_CF3 rfl ?_
   refine XW_if rfl (fun h5 => ?_) (fun h5 => ?_)
   ·try simp only [bs] at h5
    refine XW_region ?_
    refine OW_mv rfl rfl ?_
    first
    | refine OW_bin rfl rfl rfl rfl (add_w64 (by first | omega | assumption | (simp only [ss]; omega))) ?_
    | refine OW_bin rfl rfl rfl rfl rfl ?_
    refine OW_as rfl rfl ?_
    refine EZ26_CF3 rfl ?_
    refine block_norm ?_
    refine then_norm ?_
    refine XW_region ?_
    refine OW_mv rfl rfl ?_
    first
    | refine OW_bin rfl rfl rfl rfl (add_w64 (by first | omega | assumption | (simp only [ss]; omega))) ?_
    | refine OW_bin rfl rfl rfl rfl rfl ?_
    refine OW_as rfl rfl ?_
    refine EZ26_CF3 rfl ?_
    -- round 0.1
    refine ⟨_, ?_, i + 1, n + 1, rfl, under_in hU1, Own.cast (Own.mono (hS2) (le_app (p := ν1) (b := [1]))) (rfl), ?_, env_g rfl⟩
    · first | omega | (simp; omega)
    · exact ⟨by omega, by rw [hn, ldG, ldG, cnt_yes (p := inG gp) (by omega) (decide_eq_true (by assumption))], by omega⟩
   ·try simp only [bs] at h5
    refine XW_skip ?_
    refine block_norm ?_
    refine then_norm ?_
    refine XW_region ?_
    refine OW_mv rfl rfl ?_
    first
    | refine OW_bin rfl rfl rfl rfl (add_w64 (by first | omega | assumption | (simp only [ss]; omega))) ?_
    | refine OW_bin rfl rfl rfl rfl rfl ?_
    refine OW_as rfl rfl ?_
    refine EZ26_CF3 rfl ?_
    -- round 0.2
    refine ⟨_, ?_, i + 1, n, rfl, under_in hU1, Own.cast (Own.mono (hS2) (le_app (p := ν1) (b := [1]))) (rfl), ?_, env_g rfl⟩
    · first | omega | (simp; omega)
    · exact ⟨by omega, by rw [hn, ldG, ldG, cnt_no (p := inG gp) (by omega) (decide_eq_false (by assumption))], by omega⟩
  ·try simp only [bs] at h3
   refine XW_exit ?_
   refine then_exit ?_
   refine block_exit ?_
   refine then_norm ?_
   refine XW_sr ?_
   refine OW_mv rfl rfl ?_
   refine OW_as rfl rfl ?_
   refine EZ26_CF3 rfl ?_
   refine XW_ret ?_
   -- outcome 1
   refine ret_ret (res1 rfl (rv_tmp rfl)) ⟨rfl, ?_⟩
   rw [List.take_of_length_le (by omega)] at hn
   rw [hn]; exact hq
/-- The first group with the fewest places, of so many. -/
def lstN (t : List Pl) : Nat → Nat
  | 0 => 0
  | n + 1 => if 0 < n ∧ ldG t n < ldG t (lstN t n) then n else lstN t n
theorem lstN_spec (t : List Pl) : ∀ n, lstN t (n + 1) ≤ n ∧ (∀ j : Nat, j ≤ n → ldG t (lstN t (n + 1)) ≤ ldG t j) ∧ ∀ j : Nat, j < lstN t (n + 1) → ldG t (lstN t (n + 1)) < ldG t j
  | 0 => ⟨by simp [lstN], fun j hj => by rw [show j = 0 by omega]; simp [lstN], fun j hj => by simp [lstN] at hj⟩
  | n + 1 => by
    obtain ⟨h1, h2, h3⟩ := lstN_spec t n
    rw [lstN]
    split
    · rename_i hh
      refine ⟨Nat.le_refl _, fun j hj => ?_, fun j hj => ?_⟩
      · by_cases e : j = n + 1
        · subst e; exact Nat.le_refl _
        · have := h2 j (by omega); omega
      · have := h2 j (by omega); omega
    · rename_i hh
      refine ⟨by omega, fun j hj => ?_, h3⟩
      by_cases e : j = n + 1
      · subst e
        have : ¬ ldG t ((n + 1 : Nat) : Int) < ldG t (lstN t (n + 1)) := fun h => hh ⟨by omega, h⟩
        omega
      · exact h2 j (by omega)
theorem rf_least {v : AVal} {c : Cf} {gs : Nat} (hv : freeze [] H 8 v = c.enc) (hf : c.ps.length ≤ 1048577) (h0 : 1 ≤ gs ∧ gs ≤ 4) (hq : Q (.int .i64 (lstN c.ps gs : Nat)) H) : CW cfg ν 72 [v, .int .i64 gs] H Q := by
  refine CW_borrowL (args' := [.agg [.lst (c.qs.map Qu.enc), .lst (c.ps.map Pl.enc), .int .u64 c.nx], .int .i64 gs]) g72 F72 rfl (fz_cons (by first | assumption | exact freeze_plain rfl | exact Ls.freeze (by assumption) | rfl) (fz_cons (by first | assumption | exact freeze_plain rfl | exact Ls.freeze (by assumption) | rfl) fz_nil)) ?_
  have hS0 : Own ν ν (fun _ => none) [] := Own.nil
  refine XW_sr ?_
  refine OW_boxR hS0 (le_app (p := ν) (b := [0, 0])) (under_app [0, 0] under_me) rfl rfl rfl ⟨rfl, rfl⟩ fun H1 hS1 => ?_
  replace hS1 : Own _ _ _ ([_]) := hS1
  refine OW_as rfl rfl ?_
  refine EZ21_CF3 rfl ?_
  refine XW_sr ?_
  refine OW_as rfl rfl ?_
  refine EZ21_CF3 rfl ?_
  refine XW_seq ?_
  refine XW_sr ?_
  refine OW_as rfl rfl ?_
  refine EZ21_CF3 rfl ?_
  refine XW_block ?_
  refine XW_whileN (I := fun ν' mm ee H' => ∃ (i : Nat) (b : Nat), mm = gs - i ∧ under (1 :: 0 :: 1 :: 1 :: ν) ν' = true ∧ Own ν ν' H' ([row (0 :: 0 :: ν) 3 [.agg [.lst (c.qs.map Qu.enc), .lst (c.ps.map Pl.enc), .int .u64 c.nx]]]) ∧ (1 ≤ i ∧ i ≤ gs ∧ b = lstN c.ps i ∧ b ≤ i) ∧ ∃ g : Nat → AVal, ee = [g 0, .int .i64 gs, .ptr (0 :: 0 :: ν) 0 0, g 3, g 4, .int .i64 b, .int .i64 i, g 7, g 8, g 9, g 10, g 11, g 12, g 13, g 14, g 15, g 16, g 17, g 18, g 19, g 20]) ?_ _ _ _ _ ⟨1, 0, rfl, under_me, Own.cast (Own.mono (hS1) (le_lit (ν := ν) (a := [1, 0]) (b := [1, 0, 1, 1]) (by decide))) (rfl), (⟨by omega, by omega, rfl, by omega⟩), env_g rfl⟩
  rintro ν1 mm ee H2 ⟨i, b, rfl, hU1, hS2, ⟨h1, hi, hb, hbi⟩, g1, rfl⟩
  refine XW_seq ?_
  refine XW_sr ?_
  refine OW_mv rfl rfl ?_
  refine OW_mv rfl rfl ?_
  refine OW_bin rfl rfl rfl rfl rfl ?_
  refine EZ21_CF3 rfl ?_
  refine XW_if rfl (fun h3 => ?_) (fun h3 => ?_)
  ·try simp only [bs] at h3
   refine XW_skip ?_
   refine then_norm ?_
   refine XW_seq ?_
   refine XW_block ?_
   refine XW_sr ?_
   refine OW_loadR hS2 (k := 0) rfl rfl rfl rfl rfl (by first | exact part_whole rfl rfl rfl | rfl) ?_
   refine OW_mv rfl rfl ?_
   refine OW_fn rfl rfl (rf_load (c := c) rfl hf (by omega) ?_) 
   refine OW_env (e' := [_,_,_,_,_,_,_,_,_,_,_,_,_,_,_,_,_,_,_,_,_]) rfl ?_
   refine OW_loadR hS2 (k := 0) rfl rfl rfl rfl rfl (by first | exact part_whole rfl rfl rfl | rfl) ?_
   refine OW_mv rfl rfl ?_
   refine OW_fn rfl rfl (rf_load (c := c) rfl hf (by omega) ?_) 
   refine OW_env (e' := [_,_,_,_,_,_,_,_,_,_,_,_,_,_,_,_,_,_,_,_,_]) rfl ?_
   refine OW_bin rfl rfl rfl rfl rfl ?_
   refine EZ21_CF3 rfl ?_
   refine XW_if rfl (fun h5 => ?_) (fun h5 => ?_)
   ·try simp only [bs] at h5
    refine XW_region ?_
    refine OW_mv rfl rfl ?_
    refine OW_as rfl rfl ?_
    refine EZ21_CF3 rfl ?_
    refine block_norm ?_
    refine then_norm ?_
    refine XW_region ?_
    refine OW_mv rfl rfl ?_
    first
    | refine OW_bin rfl rfl rfl rfl (add_w64 (by first | omega | assumption | (simp only [ss]; omega))) ?_
    | refine OW_bin rfl rfl rfl rfl rfl ?_
    refine OW_as rfl rfl ?_
    refine EZ21_CF3 rfl ?_
    -- round 0.1
    refine ⟨_, ?_, i + 1, i, rfl, under_in hU1, Own.cast (Own.mono (hS2) (le_app (p := ν1) (b := [1]))) (rfl), ?_, env_g rfl⟩
    · first | omega | (simp; omega)
    · exact ⟨by omega, by omega, by rw [lstN, if_pos ⟨by omega, by rw [← hb]; omega⟩], by omega⟩
   ·try simp only [bs] at h5
    refine XW_skip ?_
    refine block_norm ?_
    refine then_norm ?_
    refine XW_region ?_
    refine OW_mv rfl rfl ?_
    first
    | refine OW_bin rfl rfl rfl rfl (add_w64 (by first | omega | assumption | (simp only [ss]; omega))) ?_
    | refine OW_bin rfl rfl rfl rfl rfl ?_
    refine OW_as rfl rfl ?_
    refine EZ21_CF3 rfl ?_
    -- round 0.2
    refine ⟨_, ?_, i + 1, b, rfl, under_in hU1, Own.cast (Own.mono (hS2) (le_app (p := ν1) (b := [1]))) (rfl), ?_, env_g rfl⟩
    · first | omega | (simp; omega)
    · exact ⟨by omega, by omega, by rw [lstN, if_neg (by rw [← hb]; omega)]; exact hb, by omega⟩
  ·try simp only [bs] at h3
   refine XW_exit ?_
   refine then_exit ?_
   refine block_exit ?_
   refine then_norm ?_
   refine XW_sr ?_
   refine OW_mv rfl rfl ?_
   refine OW_as rfl rfl ?_
   refine EZ21_CF3 rfl ?_
   refine XW_ret ?_
   -- outcome 1
   refine ret_ret (res1 rfl (rv_tmp rfl)) ⟨rfl, ?_⟩
   rw [show i = gs by omega] at hb
   rw [hb]; exact hq
theorem rf_is {v w : AVal} {a b : Cf} (hv : freeze [] H 8 v = a.enc) (hw : freeze [] H 8 w = b.enc) (ha : a.fit) (hb : b.fit) (hq : Q (.bool (decide (a = b))) H) : CW cfg ν 12 [v, w] H Q := by
  have a1 := ha.lp; have a2 := ha.lq; have b1 := hb.lp; have b2 := hb.lq
  have key : decide (a = b) = decide (a.qs = b.qs ∧ a.ps = b.ps ∧ a.nx = b.nx) := by
    obtain ⟨x1, x2, x3⟩ := a; obtain ⟨y1, y2, y3⟩ := b
    simp only [Cf.mk.injEq]
  rw [key] at hq
  refine CW_borrowL (args' := [.agg [.lst (a.qs.map Qu.enc), .lst (a.ps.map Pl.enc), .int .u64 a.nx], .agg [.lst (b.qs.map Qu.enc), .lst (b.ps.map Pl.enc), .int .u64 b.nx]]) g12 F12 rfl (fz_cons (by first | assumption | exact freeze_plain rfl | exact Ls.freeze (by assumption) | rfl) (fz_cons (by first | assumption | exact freeze_plain rfl | exact Ls.freeze (by assumption) | rfl) fz_nil)) ?_
  have hS0 : Own ν ν (fun _ => none) [] := Own.nil
  refine XW_sr ?_
  refine OW_boxR hS0 (le_app (p := ν) (b := [0, 0])) (under_app [0, 0] under_me) rfl rfl rfl ⟨rfl, rfl⟩ fun H1 hS1 => ?_
  replace hS1 : Own _ _ _ ([_]) := hS1
  refine OW_boxR hS1 le_refl (under_app [1, 0] under_me) rfl rfl rfl ⟨rfl, rfl⟩ fun H2 hS2 => ?_
  replace hS2 : Own _ _ _ ([_, _]) := hS2
  refine OW_as rfl rfl ?_
  refine EZ46_CF3 rfl ?_
  refine XW_seq ?_
  refine XW_sr ?_
  refine OW_fa rfl rfl rfl ?_
  refine OW_loadR hS2 (k := 1) rfl rfl rfl rfl rfl (by first | exact part_whole rfl rfl rfl | rfl) ?_
  refine OW_fa rfl rfl rfl ?_
  refine EN46_CF3 rfl ?_
  refine OW_loadR hS2 (k := 0) rfl rfl rfl rfl rfl (by first | exact part_whole rfl rfl rfl | rfl) ?_
  refine OW_fn rfl rfl (Qu.is Ls.of Ls.of (by omega) (by omega) ?_) 
  refine OW_un rfl rfl rfl ?_
  refine EN46_CF3 rfl ?_
  refine OW_mv rfl rfl ?_
  refine OW_split (tt := 12) rfl (fun g1_7 => ?_) (fun g1_7 => ?_)
  ·try simp only [bs] at g1_7
   refine OW_no rfl ?_
   refine EN46_CF3 rfl ?_
   refine OW_no rfl ?_
   refine OW_no rfl ?_
   refine OW_no rfl ?_
   refine EN46_CF3 rfl ?_
   refine OW_no rfl ?_
   refine OW_no rfl ?_
   refine OW_no rfl ?_
   refine EN46_CF3 rfl ?_
   refine OW_pick rfl rfl rfl ?_
   refine OW_mv rfl rfl ?_
   refine OW_no rfl ?_
   refine EN46_CF3 rfl ?_
   refine OW_no rfl ?_
   refine OW_no rfl ?_
   refine OW_no rfl ?_
   refine EN46_CF3 rfl ?_
   refine OW_no rfl ?_
   refine OW_pick rfl rfl rfl ?_
   refine EZ46_CF3 rfl ?_
   refine XW_yes rfl rfl ?_
   refine XW_sr ?_
   refine OW_as rfl rfl ?_
   refine EZ46_CF3 rfl ?_
   refine XW_ret ?_
   refine then_ret ?_
   -- outcome 1
   refine ret_ret (res1 rfl (rv_tmp rfl)) ⟨rfl, ?_⟩
   refine qcast hq ?_
   congr 1
   first | exact (decide_eq_true ⟨h1, by rw [List.take_of_length_le (by omega), List.take_of_length_le (by omega)] at hI; exact hI, h2⟩).symm | exact (decide_eq_false (fun e => h6 (by simp only [e.2.1]))).symm | exact (decide_eq_false (fun e => by have := congrArg List.length e.2.1; omega)).symm | exact (decide_eq_false (fun e => by have := e.2.2; omega)).symm | exact (decide_eq_false (fun e => by have := e.1; contradiction)).symm | trace_state
  ·try simp only [bs] at g1_7
   refine OW_fa rfl rfl rfl ?_
   refine EN46_CF3 rfl ?_
   refine OW_loadR hS2 (k := 1) rfl rfl rfl rfl rfl (by first | exact part_whole rfl rfl rfl | rfl) ?_
   first
   | refine OW_lenL rfl rfl (by first | assumption | exact Ls.of | exact Ls.emp | exact Ls.nls) rfl rfl rfl (by first | exact List.length_map _ | rfl) ?_
   | refine OW_bi rfl rfl rfl ?_
   refine OW_fa rfl rfl rfl ?_
   refine EN46_CF3 rfl ?_
   refine OW_loadR hS2 (k := 0) rfl rfl rfl rfl rfl (by first | exact part_whole rfl rfl rfl | rfl) ?_
   first
   | refine OW_lenL rfl rfl (by first | assumption | exact Ls.of | exact Ls.emp | exact Ls.nls) rfl rfl rfl (by first | exact List.length_map _ | rfl) ?_
   | refine OW_bi rfl rfl rfl ?_
   refine OW_bin rfl rfl rfl rfl rfl ?_
   refine EN46_CF3 rfl ?_
   refine OW_pick rfl rfl rfl ?_
   refine OW_mv rfl rfl ?_
   refine OW_split (tt := 21) rfl (fun g1_16 => ?_) (fun g1_16 => ?_)
   ·try simp only [bs] at g1_16
    refine EN46_CF3 rfl ?_
    refine OW_no rfl ?_
    refine OW_no rfl ?_
    refine OW_no rfl ?_
    refine EN46_CF3 rfl ?_
    refine OW_no rfl ?_
    refine OW_no rfl ?_
    refine OW_pick rfl rfl rfl ?_
    refine EZ46_CF3 rfl ?_
    refine XW_yes rfl rfl ?_
    refine XW_sr ?_
    refine OW_as rfl rfl ?_
    refine EZ46_CF3 rfl ?_
    refine XW_ret ?_
    refine then_ret ?_
    -- outcome 2
    refine ret_ret (res1 rfl (rv_tmp rfl)) ⟨rfl, ?_⟩
    refine qcast hq ?_
    congr 1
    first | exact (decide_eq_true ⟨h1, by rw [List.take_of_length_le (by omega), List.take_of_length_le (by omega)] at hI; exact hI, h2⟩).symm | exact (decide_eq_false (fun e => h6 (by simp only [e.2.1]))).symm | exact (decide_eq_false (fun e => by have := congrArg List.length e.2.1; omega)).symm | exact (decide_eq_false (fun e => by have := e.2.2; omega)).symm | exact (decide_eq_false (fun e => by have := e.1; contradiction)).symm | trace_state
   ·try simp only [bs] at g1_16
    refine EN46_CF3 rfl ?_
    refine OW_fa rfl rfl rfl ?_
    refine OW_loadR hS2 (k := 1) rfl rfl rfl rfl rfl (by first | exact part_whole rfl rfl rfl | rfl) ?_
    refine OW_fa rfl rfl rfl ?_
    refine EN46_CF3 rfl ?_
    refine OW_loadR hS2 (k := 0) rfl rfl rfl rfl rfl (by first | exact part_whole rfl rfl rfl | rfl) ?_
    refine OW_bin rfl rfl rfl rfl rfl ?_
    refine OW_pick rfl rfl rfl ?_
    refine EZ46_CF3 rfl ?_
    refine XW_if rfl (fun h1 => ?_) (fun h1 => ?_)
    ·try simp only [bs] at h1
     refine XW_sr ?_
     refine OW_as rfl rfl ?_
     refine EZ46_CF3 rfl ?_
     refine XW_ret ?_
     refine then_ret ?_
     -- outcome 3
     refine ret_ret (res1 rfl (rv_tmp rfl)) ⟨rfl, ?_⟩
     refine qcast hq ?_
     congr 1
     first | exact (decide_eq_true ⟨h1, by rw [List.take_of_length_le (by omega), List.take_of_length_le (by omega)] at hI; exact hI, h2⟩).symm | exact (decide_eq_false (fun e => h6 (by simp only [e.2.1]))).symm | exact (decide_eq_false (fun e => by have := congrArg List.length e.2.1; omega)).symm | exact (decide_eq_false (fun e => by have := e.2.2; omega)).symm | exact (decide_eq_false (fun e => by have := e.1; contradiction)).symm | trace_state
    ·try simp only [bs] at h1
     refine XW_skip ?_
     refine then_norm ?_
     refine XW_seq ?_
     refine XW_sr ?_
     refine OW_as rfl rfl ?_
     refine EZ46_CF3 rfl ?_
     refine XW_block ?_
     refine XW_whileN (I := fun ν' mm ee H' => ∃ (i : Nat), mm = a.ps.length - i ∧ under (1 :: 0 :: 1 :: 1 :: ν) ν' = true ∧ Own ν ν' H' ([row (1 :: 0 :: ν) 3 [.agg [.lst (b.qs.map Qu.enc), .lst (b.ps.map Pl.enc), .int .u64 b.nx]], row (0 :: 0 :: ν) 3 [.agg [.lst (a.qs.map Qu.enc), .lst (a.ps.map Pl.enc), .int .u64 a.nx]]]) ∧ (i ≤ a.ps.length ∧ a.qs = b.qs ∧ a.nx = b.nx ∧ a.ps.length = b.ps.length ∧ a.ps.take i = b.ps.take i) ∧ ∃ g : Nat → AVal, ee = [g 0, g 1, .ptr (0 :: 0 :: ν) 0 0, .ptr (1 :: 0 :: ν) 0 0, g 4, .int .i64 i, g 6, g 7, g 8, g 9, g 10, g 11, g 12, g 13, g 14, g 15, g 16, g 17, g 18, g 19, g 20, g 21, g 22, g 23, g 24, g 25, g 26, g 27, g 28, g 29, g 30, g 31, g 32, g 33, g 34, g 35, g 36, g 37, g 38, g 39, g 40, g 41, g 42, g 43, g 44, g 45]) ?_ _ _ _ _ ⟨0, rfl, under_me, Own.cast (Own.mono (hS2) (le_lit (ν := ν) (a := [2, 0]) (b := [1, 0, 1, 1]) (by decide))) (rfl), (⟨by omega, by assumption, by omega, by omega, rfl⟩), env_g rfl⟩
     rintro ν1 mm ee H3 ⟨i, rfl, hU1, hS3, ⟨hi, h1, h2, h3, hI⟩, g1, rfl⟩
     refine XW_seq ?_
     refine XW_sr ?_
     refine OW_mv rfl rfl ?_
     refine OW_fa rfl rfl rfl ?_
     refine OW_loadR hS3 (k := 1) rfl rfl rfl rfl rfl (by first | exact part_whole rfl rfl rfl | rfl) ?_
     refine EN46_CF3 rfl ?_
     first
     | refine OW_lenL rfl rfl (by first | assumption | exact Ls.of | exact Ls.emp | exact Ls.nls) rfl rfl rfl (by first | exact List.length_map _ | rfl) ?_
     | refine OW_bi rfl rfl rfl ?_
     refine OW_bin rfl rfl rfl rfl rfl ?_
     refine EZ46_CF3 rfl ?_
     refine XW_if rfl (fun h4 => ?_) (fun h4 => ?_)
     ·try simp only [bs] at h4
      refine XW_skip ?_
      refine then_norm ?_
      refine XW_seq ?_
      refine XW_block ?_
      refine XW_sr ?_
      refine OW_fa rfl rfl rfl ?_
      refine OW_loadR hS3 (k := 1) rfl rfl rfl rfl rfl (by first | exact part_whole rfl rfl rfl | rfl) ?_
      refine OW_mv rfl rfl ?_
      refine EN46_CF3 rfl ?_
      first
      | refine OW_iaL rfl rfl rfl Ls.of rfl rfl rfl (by first | rfl | exact (Int.toNat_of_nonneg (by omega)).symm) (by first | assumption | exact at_map (by first | assumption | omega) | exact at_lst (by omega) | rfl) rfl ?_
      | refine OW_iaL rfl rfl rfl (by assumption) rfl rfl rfl (by first | rfl | exact (Int.toNat_of_nonneg (by omega)).symm) (by first | assumption | exact at_map (by first | assumption | omega) | exact at_lst (by omega) | rfl) rfl ?_
      refine OW_loadE rfl rfl rfl (by first | exact part_whole rfl rfl rfl | rfl) ?_
      refine OW_fa rfl rfl rfl ?_
      refine EN46_CF3 rfl ?_
      refine OW_loadR hS3 (k := 0) rfl rfl rfl rfl rfl (by first | exact part_whole rfl rfl rfl | rfl) ?_
      refine OW_mv rfl rfl ?_
      first
      | refine OW_iaL rfl rfl rfl Ls.of rfl rfl rfl (by first | rfl | exact (Int.toNat_of_nonneg (by omega)).symm) (by first | assumption | exact at_map (by first | assumption | omega) | exact at_lst (by omega) | rfl) rfl ?_
      | refine OW_iaL rfl rfl rfl (by assumption) rfl rfl rfl (by first | rfl | exact (Int.toNat_of_nonneg (by omega)).symm) (by first | assumption | exact at_map (by first | assumption | omega) | exact at_lst (by omega) | rfl) rfl ?_
      refine EN46_CF3 rfl ?_
      refine OW_loadE rfl rfl rfl (by first | exact part_whole rfl rfl rfl | rfl) ?_
      first
      | refine OW_bin rfl rfl rfl rfl (Pl.ne _ _) ?_
      | refine OW_bin rfl rfl rfl rfl rfl ?_
      refine EZ46_CF3 rfl ?_
      refine XW_if rfl (fun h6 => ?_) (fun h6 => ?_)
      ·try simp only [bs] at h6
       refine XW_sr ?_
       refine OW_as rfl rfl ?_
       refine EZ46_CF3 rfl ?_
       refine XW_ret ?_
       refine block_ret ?_
       refine then_ret ?_
       refine block_ret ?_
       refine then_ret ?_
       -- outcome 4
       refine ret_ret (res1 rfl (rv_tmp rfl)) ⟨rfl, ?_⟩
       refine qcast hq ?_
       congr 1
       first | exact (decide_eq_true ⟨h1, by rw [List.take_of_length_le (by omega), List.take_of_length_le (by omega)] at hI; exact hI, h2⟩).symm | exact (decide_eq_false (fun e => h6 (by simp only [e.2.1]))).symm | exact (decide_eq_false (fun e => by have := congrArg List.length e.2.1; omega)).symm | exact (decide_eq_false (fun e => by have := e.2.2; omega)).symm | exact (decide_eq_false (fun e => by have := e.1; contradiction)).symm | trace_state
      ·try simp only [bs] at h6
       refine XW_skip ?_
       refine block_norm ?_
       refine then_norm ?_
       refine XW_region ?_
       refine OW_mv rfl rfl ?_
       first
       | refine OW_bin rfl rfl rfl rfl (add_w64 (by first | omega | assumption | (simp only [ss]; omega))) ?_
       | refine OW_bin rfl rfl rfl rfl rfl ?_
       refine OW_as rfl rfl ?_
       refine EZ46_CF3 rfl ?_
       -- round 0.1
       refine ⟨_, ?_, i + 1, rfl, under_in hU1, Own.cast (Own.mono (hS3) (le_app (p := ν1) (b := [1]))) (rfl), ?_, env_g rfl⟩
       · first | omega | (simp; omega)
       · exact ⟨by omega, h1, h2, h3, by rw [List.take_succ_eq_append_getElem (by omega), List.take_succ_eq_append_getElem (by omega), hI, h6]⟩
     ·try simp only [bs] at h4
      refine XW_exit ?_
      refine then_exit ?_
      refine block_exit ?_
      refine then_norm ?_
      refine XW_sr ?_
      refine OW_as rfl rfl ?_
      refine EZ46_CF3 rfl ?_
      refine XW_ret ?_
      -- outcome 5
      refine ret_ret (res1 rfl (rv_tmp rfl)) ⟨rfl, ?_⟩
      refine qcast hq ?_
      congr 1
      first | exact (decide_eq_true ⟨h1, by rw [List.take_of_length_le (by omega), List.take_of_length_le (by omega)] at hI; exact hI, h2⟩).symm | exact (decide_eq_false (fun e => h6 (by simp only [e.2.1]))).symm | exact (decide_eq_false (fun e => by have := congrArg List.length e.2.1; omega)).symm | exact (decide_eq_false (fun e => by have := e.2.2; omega)).symm | exact (decide_eq_false (fun e => by have := e.1; contradiction)).symm | trace_state
theorem frC {c : Cf} {U V : AVal} {n : Nat} (hU : freeze [] H (n + 1) U = .lst (c.qs.map Qu.enc)) (hV : freeze [] H (n + 1) V = .lst (c.ps.map Pl.enc)) : freeze [] H (n + 2) (.agg [U, V, .int .u64 c.nx]) = c.enc :=
  frA (frAc hU (frAc hV (frAc (freeze_plain rfl) frAn)))
theorem frS {c : Cf} {U V : AVal} {g : Int} {n : Nat} (hU : freeze [] H (n + 1) U = .lst (c.qs.map Qu.enc)) (hV : freeze [] H (n + 1) V = .lst (c.ps.map Pl.enc)) : freeze [] H (n + 2) (.agg [U, V, .int .u64 c.nx, .int .i64 g]) = .agg [.lst (c.qs.map Qu.enc), .lst (c.ps.map Pl.enc), .int .u64 c.nx, .int .i64 g] :=
  frA (frAc hU (frAc hV (frAc (freeze_plain rfl) (frAc (freeze_plain rfl) frAn))))
end Go.Proofs.Ytealccnfnpkngaa.X
