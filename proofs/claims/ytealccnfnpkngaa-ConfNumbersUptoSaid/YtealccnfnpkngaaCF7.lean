/- Layer 14: Run of the document's answer. -/
import Derived.Test.YtealccnfnpkngaaCF6
set_option linter.unusedVariables false
set_option linter.unusedSimpArgs false
set_option maxRecDepth 100000
namespace Go.Proofs.Ytealccnfnpkngaa.X
open Go Go.RowKit WM
theorem EN73_CF7 {c : Cfg} {ν : Nm} {e : Env} {H : Heap} {all : Array Oper} {r : List Oper} {i : Nat} {Q : Env → Heap → Prop} {x0 x1 x2 x3 x4 x5 x6 x7 x8 x9 x10 x11 x12 x13 x14 x15 x16 x17 x18 x19 x20 x21 x22 x23 x24 x25 x26 x27 x28 x29 x30 x31 x32 x33 x34 x35 x36 x37 x38 x39 x40 x41 x42 x43 x44 x45 x46 x47 x48 x49 x50 x51 x52 x53 x54 x55 x56 x57 x58 x59 x60 x61 x62 x63 x64 x65 x66 x67 x68 x69 x70 x71 x72 : AVal} (he : e = [x0,x1,x2,x3,x4,x5,x6,x7,x8,x9,x10,x11,x12,x13,x14,x15,x16,x17,x18,x19,x20,x21,x22,x23,x24,x25,x26,x27,x28,x29,x30,x31,x32,x33,x34,x35,x36,x37,x38,x39,x40,x41,x42,x43,x44,x45,x46,x47,x48,x49,x50,x51,x52,x53,x54,x55,x56,x57,x58,x59,x60,x61,x62,x63,x64,x65,x66,x67,x68,x69,x70,x71,x72]) (h : OW c ν all r i [x0,x1,x2,x3,x4,x5,x6,x7,x8,x9,x10,x11,x12,x13,x14,x15,x16,x17,x18,x19,x20,x21,x22,x23,x24,x25,x26,x27,x28,x29,x30,x31,x32,x33,x34,x35,x36,x37,x38,x39,x40,x41,x42,x43,x44,x45,x46,x47,x48,x49,x50,x51,x52,x53,x54,x55,x56,x57,x58,x59,x60,x61,x62,x63,x64,x65,x66,x67,x68,x69,x70,x71,x72] H Q) : OW c ν all r i e H Q := by subst he; exact h
theorem EN100_CF7 {c : Cfg} {ν : Nm} {e : Env} {H : Heap} {all : Array Oper} {r : List Oper} {i : Nat} {Q : Env → Heap → Prop} {x0 x1 x2 x3 x4 x5 x6 x7 x8 x9 x10 x11 x12 x13 x14 x15 x16 x17 x18 x19 x20 x21 x22 x23 x24 x25 x26 x27 x28 x29 x30 x31 x32 x33 x34 x35 x36 x37 x38 x39 x40 x41 x42 x43 x44 x45 x46 x47 x48 x49 x50 x51 x52 x53 x54 x55 x56 x57 x58 x59 x60 x61 x62 x63 x64 x65 x66 x67 x68 x69 x70 x71 x72 x73 x74 x75 x76 x77 x78 x79 x80 x81 x82 x83 x84 x85 x86 x87 x88 x89 x90 x91 x92 x93 x94 x95 x96 x97 x98 x99 : AVal} (he : e = [x0,x1,x2,x3,x4,x5,x6,x7,x8,x9,x10,x11,x12,x13,x14,x15,x16,x17,x18,x19,x20,x21,x22,x23,x24,x25,x26,x27,x28,x29,x30,x31,x32,x33,x34,x35,x36,x37,x38,x39,x40,x41,x42,x43,x44,x45,x46,x47,x48,x49,x50,x51,x52,x53,x54,x55,x56,x57,x58,x59,x60,x61,x62,x63,x64,x65,x66,x67,x68,x69,x70,x71,x72,x73,x74,x75,x76,x77,x78,x79,x80,x81,x82,x83,x84,x85,x86,x87,x88,x89,x90,x91,x92,x93,x94,x95,x96,x97,x98,x99]) (h : OW c ν all r i [x0,x1,x2,x3,x4,x5,x6,x7,x8,x9,x10,x11,x12,x13,x14,x15,x16,x17,x18,x19,x20,x21,x22,x23,x24,x25,x26,x27,x28,x29,x30,x31,x32,x33,x34,x35,x36,x37,x38,x39,x40,x41,x42,x43,x44,x45,x46,x47,x48,x49,x50,x51,x52,x53,x54,x55,x56,x57,x58,x59,x60,x61,x62,x63,x64,x65,x66,x67,x68,x69,x70,x71,x72,x73,x74,x75,x76,x77,x78,x79,x80,x81,x82,x83,x84,x85,x86,x87,x88,x89,x90,x91,x92,x93,x94,x95,x96,x97,x98,x99] H Q) : OW c ν all r i e H Q := by subst he; exact h
theorem EZ73_CF7 {c : Cfg} {ν : Nm} {e : Env} {H : Heap} {all : Array Oper} {i : Nat} {Q : Env → Heap → Prop} {x0 x1 x2 x3 x4 x5 x6 x7 x8 x9 x10 x11 x12 x13 x14 x15 x16 x17 x18 x19 x20 x21 x22 x23 x24 x25 x26 x27 x28 x29 x30 x31 x32 x33 x34 x35 x36 x37 x38 x39 x40 x41 x42 x43 x44 x45 x46 x47 x48 x49 x50 x51 x52 x53 x54 x55 x56 x57 x58 x59 x60 x61 x62 x63 x64 x65 x66 x67 x68 x69 x70 x71 x72 : AVal} (he : e = [x0,x1,x2,x3,x4,x5,x6,x7,x8,x9,x10,x11,x12,x13,x14,x15,x16,x17,x18,x19,x20,x21,x22,x23,x24,x25,x26,x27,x28,x29,x30,x31,x32,x33,x34,x35,x36,x37,x38,x39,x40,x41,x42,x43,x44,x45,x46,x47,x48,x49,x50,x51,x52,x53,x54,x55,x56,x57,x58,x59,x60,x61,x62,x63,x64,x65,x66,x67,x68,x69,x70,x71,x72]) (h : Q [x0,x1,x2,x3,x4,x5,x6,x7,x8,x9,x10,x11,x12,x13,x14,x15,x16,x17,x18,x19,x20,x21,x22,x23,x24,x25,x26,x27,x28,x29,x30,x31,x32,x33,x34,x35,x36,x37,x38,x39,x40,x41,x42,x43,x44,x45,x46,x47,x48,x49,x50,x51,x52,x53,x54,x55,x56,x57,x58,x59,x60,x61,x62,x63,x64,x65,x66,x67,x68,x69,x70,x71,x72] H) : OW c ν all [] i e H Q := by subst he; exact OW_nil h
theorem EZ100_CF7 {c : Cfg} {ν : Nm} {e : Env} {H : Heap} {all : Array Oper} {i : Nat} {Q : Env → Heap → Prop} {x0 x1 x2 x3 x4 x5 x6 x7 x8 x9 x10 x11 x12 x13 x14 x15 x16 x17 x18 x19 x20 x21 x22 x23 x24 x25 x26 x27 x28 x29 x30 x31 x32 x33 x34 x35 x36 x37 x38 x39 x40 x41 x42 x43 x44 x45 x46 x47 x48 x49 x50 x51 x52 x53 x54 x55 x56 x57 x58 x59 x60 x61 x62 x63 x64 x65 x66 x67 x68 x69 x70 x71 x72 x73 x74 x75 x76 x77 x78 x79 x80 x81 x82 x83 x84 x85 x86 x87 x88 x89 x90 x91 x92 x93 x94 x95 x96 x97 x98 x99 : AVal} (he : e = [x0,x1,x2,x3,x4,x5,x6,x7,x8,x9,x10,x11,x12,x13,x14,x15,x16,x17,x18,x19,x20,x21,x22,x23,x24,x25,x26,x27,x28,x29,x30,x31,x32,x33,x34,x35,x36,x37,x38,x39,x40,x41,x42,x43,x44,x45,x46,x47,x48,x49,x50,x51,x52,x53,x54,x55,x56,x57,x58,x59,x60,x61,x62,x63,x64,x65,x66,x67,x68,x69,x70,x71,x72,x73,x74,x75,x76,x77,x78,x79,x80,x81,x82,x83,x84,x85,x86,x87,x88,x89,x90,x91,x92,x93,x94,x95,x96,x97,x98,x99]) (h : Q [x0,x1,x2,x3,x4,x5,x6,x7,x8,x9,x10,x11,x12,x13,x14,x15,x16,x17,x18,x19,x20,x21,x22,x23,x24,x25,x26,x27,x28,x29,x30,x31,x32,x33,x34,x35,x36,x37,x38,x39,x40,x41,x42,x43,x44,x45,x46,x47,x48,x49,x50,x51,x52,x53,x54,x55,x56,x57,x58,x59,x60,x61,x62,x63,x64,x65,x66,x67,x68,x69,x70,x71,x72,x73,x74,x75,x76,x77,x78,x79,x80,x81,x82,x83,x84,x85,x86,x87,x88,x89,x90,x91,x92,x93,x94,x95,x96,x97,x98,x99] H) : OW c ν all [] i e H Q := by subst he; exact OW_nil h
theorem FN100_CF7 {c : Cfg} {ν : Nm} {e : Env} {H : Heap} {all : Array Oper} {rs : List Tmp} {HK : Heap} {r : List Oper} {i : Nat} {Q : Env → Heap → Prop} {x0 x1 x2 x3 x4 x5 x6 x7 x8 x9 x10 x11 x12 x13 x14 x15 x16 x17 x18 x19 x20 x21 x22 x23 x24 x25 x26 x27 x28 x29 x30 x31 x32 x33 x34 x35 x36 x37 x38 x39 x40 x41 x42 x43 x44 x45 x46 x47 x48 x49 x50 x51 x52 x53 x54 x55 x56 x57 x58 x59 x60 x61 x62 x63 x64 x65 x66 x67 x68 x69 x70 x71 x72 x73 x74 x75 x76 x77 x78 x79 x80 x81 x82 x83 x84 x85 x86 x87 x88 x89 x90 x91 x92 x93 x94 x95 x96 x97 x98 x99 : AVal} (he : e = [x0,x1,x2,x3,x4,x5,x6,x7,x8,x9,x10,x11,x12,x13,x14,x15,x16,x17,x18,x19,x20,x21,x22,x23,x24,x25,x26,x27,x28,x29,x30,x31,x32,x33,x34,x35,x36,x37,x38,x39,x40,x41,x42,x43,x44,x45,x46,x47,x48,x49,x50,x51,x52,x53,x54,x55,x56,x57,x58,x59,x60,x61,x62,x63,x64,x65,x66,x67,x68,x69,x70,x71,x72,x73,x74,x75,x76,x77,x78,x79,x80,x81,x82,x83,x84,x85,x86,x87,x88,x89,x90,x91,x92,x93,x94,x95,x96,x97,x98,x99]) (h : OWF c ν all rs HK r i [x0,x1,x2,x3,x4,x5,x6,x7,x8,x9,x10,x11,x12,x13,x14,x15,x16,x17,x18,x19,x20,x21,x22,x23,x24,x25,x26,x27,x28,x29,x30,x31,x32,x33,x34,x35,x36,x37,x38,x39,x40,x41,x42,x43,x44,x45,x46,x47,x48,x49,x50,x51,x52,x53,x54,x55,x56,x57,x58,x59,x60,x61,x62,x63,x64,x65,x66,x67,x68,x69,x70,x71,x72,x73,x74,x75,x76,x77,x78,x79,x80,x81,x82,x83,x84,x85,x86,x87,x88,x89,x90,x91,x92,x93,x94,x95,x96,x97,x98,x99] H Q) : OWF c ν all rs HK r i e H Q := by subst he; exact h
variable {ν β ps pos' : Nm} {H : Heap} {Q : AVal → Heap → Prop} {L : List Asr} {k : Nat} {q : Nm} {c : Cf} {gs : Int}
theorem p_run {U V : AVal} (hU : Ls U (c.qs.map Qu.enc)) (hV : Ls V (c.ps.map Pl.enc)) {d a b : Int} (hf : c.fit) (hb : 0 ≤ b) (hq : Q (.tup [(runS c gs d a b).1.enc, .int .i64 (runS c gs d a b).2.2, .int .u64 (runS c gs d a b).2.1]) H) : CW cfg ν 10 [.agg [U, V, .int .u64 c.nx], .int .i64 gs, .int .i64 d, .int .u64 a, .int .u64 b] H Q := by
  by_cases h : gs < 1 ∨ 4 < gs ∨ d < 0 ∨ 2 < d
  · rw [runS_bad h] at hq; exact p_run_bad hU hV hf h hq
  · have h2 : ¬ (gs < 1 ∨ 4 < gs) := by omega
    obtain rfl | rfl | rfl : d = 0 ∨ d = 1 ∨ d = 2 := by omega
    · exact p_run_0 hU hV hf h2 hq
    · exact p_run_1 hU hV hf h2 hb hq
    · exact p_run_2 hU hV hf h2 hq
theorem pow_c {b : Int} (h : 0 ≤ b ∧ b ≤ 4) (hq : Q (.int .i64 ((2 ^ b.toNat : Nat) : Int)) H) : CW cfg ν 71 [.int .i64 b] H Q := by
  obtain ⟨n, rfl⟩ := Int.eq_ofNat_of_zero_le h.1
  have hn : n ≤ 4 := by omega
  rw [Int.toNat_natCast] at hq
  have hb : ∀ i, i ≤ n → 0 ≤ ((2 ^ i : Nat) : Int) ∧ ((2 ^ i : Nat) : Int) ≤ 16 := fun i hi => ⟨Int.natCast_nonneg _, by have := Nat.pow_le_pow_right (show 0 < 2 by decide) (show i ≤ 4 by omega); omega⟩
  refine CW_pure g71 F71 rfl ?_
  refine XW_sr ?_
  refine OW_as rfl rfl ?_
  refine OW_nilE (e' := [_,_,_,_,_,_,_,_,_,_,_,_,_]) rfl ?_
  refine XW_sr ?_
  refine OW_as rfl rfl ?_
  refine OW_nilE (e' := [_,_,_,_,_,_,_,_,_,_,_,_,_]) rfl ?_
  refine XW_seq ?_
  refine XW_sr ?_
  refine OW_as rfl rfl ?_
  refine OW_nilE (e' := [_,_,_,_,_,_,_,_,_,_,_,_,_]) rfl ?_
  refine XW_block ?_
  refine XW_whileN (I := fun ν' mm ee H' => ∃ (i : Nat), mm = n - i ∧ under (1 :: 0 :: 1 :: 1 :: ν) ν' = true ∧ (i ≤ n) ∧ ∃ g : Nat → AVal, ee = [.int .i64 (n : Int), g 1, g 2, .int .i64 ((2 ^ i : Nat) : Int), .int .i64 i, g 5, g 6, g 7, g 8, g 9, g 10, g 11, g 12]) ?_ _ _ _ _ ⟨0, rfl, under_me, (by omega), env_g rfl⟩
  rintro ν1 mm ee H1 ⟨i, rfl, hU1, hi, g1, rfl⟩
  have hb1 := hb i hi; have hb2 : (2 : Int) * ((2 ^ i : Nat) : Int) = ((2 ^ (i + 1) : Nat) : Int) := by rw [Nat.pow_succ]; omega
  refine XW_seq ?_
  refine XW_sr ?_
  refine OW_mv rfl rfl ?_
  refine OW_mv rfl rfl ?_
  refine OW_bin rfl rfl rfl rfl rfl ?_
  refine OW_nilE (e' := [_,_,_,_,_,_,_,_,_,_,_,_,_]) rfl ?_
  refine XW_if rfl (fun h3 => ?_) (fun h3 => ?_)
  ·try simp only [bs] at h3
   refine XW_skip ?_
   refine then_norm ?_
   refine XW_seq ?_
   refine XW_block ?_
   refine XW_region ?_
   refine OW_mv rfl rfl ?_
   refine OW_bin rfl rfl rfl rfl (mul_w64 (by rw [hb2]; have := hb (i + 1) (by omega); omega)) ?_
   rw [hb2]
   refine OW_as rfl rfl ?_
   refine OW_nilE (e' := [_,_,_,_,_,_,_,_,_,_,_,_,_]) rfl ?_
   refine block_norm ?_
   refine then_norm ?_
   refine XW_region ?_
   refine OW_mv rfl rfl ?_
   first
   | refine OW_bin rfl rfl rfl rfl (add_w64 (by first | omega | assumption | (simp only [ss]; omega))) ?_
   | refine OW_bin rfl rfl rfl rfl rfl ?_
   refine OW_as rfl rfl ?_
   refine OW_nilE (e' := [_,_,_,_,_,_,_,_,_,_,_,_,_]) rfl ?_
   -- round 0.1
   refine ⟨_, ?_, i + 1, rfl, under_in hU1, ?_, env_g rfl⟩
   · first | omega | (simp; omega)
   · omega
  ·try simp only [bs] at h3
   refine XW_exit ?_
   refine then_exit ?_
   refine block_exit ?_
   refine then_norm ?_
   refine XW_sr ?_
   refine OW_mv rfl rfl ?_
   refine OW_as rfl rfl ?_
   refine OW_nilE (e' := [_,_,_,_,_,_,_,_,_,_,_,_,_]) rfl ?_
   refine XW_ret ?_
   -- outcome 1
   refine ret_ret (res1 rfl (rv_tmp rfl)) (frz1 (Q := Q) (by first | exact freeze_plain rfl | exact Ls.freeze (by assumption) | exact Ls.freeze Ls.of | exact Ls.freeze Ls.emp | exact Ls.freeze Ls.nls) ?_)
   rw [show i = n by omega]; exact hq
theorem u64_add1 {n : Int} (h : 0 ≤ n ∧ n ≤ 18446744073709551615) : (n = 18446744073709551615 ∧ IntKind.u64.wrap (n + 1) = 0) ∨ (n ≠ 18446744073709551615 ∧ IntKind.u64.wrap (n + 1) = n + 1) := by
  rw [IntKind.wrap_u64]; omega
theorem rvol_c {U V : AVal} {n : Nat} (hS : Own β ps H (sl U 3 (c.qs.map Qu.enc) :: sl V 5 (c.ps.map Pl.enc) :: L)) (hle : le ps ν) (hβ : under β ν = true) (hp : before ν pos') (hf : c.fit) (hn : 1 ≤ n ∧ n ≤ 4) (a b : Int) (hb : 0 ≤ b)
    (hq : ∀ H1 U' V', Own β pos' H1 (sl U' 3 ((volS c n a b).1.qs.map Qu.enc) :: sl V' 5 ((volS c n a b).1.ps.map Pl.enc) :: L) → Q (.tup [.agg [U', V', .int .u64 (volS c n a b).1.nx], .int .i64 (volS c n a b).2.2, .int .u64 (volS c n a b).2.1]) H1) : CW cfg ν 38 [.agg [U, V, .int .u64 c.nx], .int .i64 n, .int .u64 a, .int .u64 b] H Q := by
  have hlp := hf.lp; have hlq := hf.lq; have hnx := hf.n
  have hw := u64_add1 hnx
  refine CW_keep g38 F38 rfl ?_
  replace hS := Own.mono hS hle
  refine XW_sr ?_
  refine OW_boxR hS (le_app (p := ν) (b := [0, 0])) (under_app [0, 0] hβ) rfl rfl rfl ⟨rfl, rfl⟩ fun H1 hS1 => ?_
  replace hS1 : Own _ _ _ (_ :: _ :: _ :: L) := hS1
  refine OW_allocR hS1 le_refl (under_app [1, 0] hβ) rfl rfl rfl rfl fun H2 hS2 => ?_
  replace hS2 : Own _ _ _ (_ :: _ :: _ :: _ :: L) := hS2
  refine OW_as rfl rfl ?_
  refine EN73_CF7 rfl ?_
  refine OW_as rfl rfl ?_
  refine EZ73_CF7 rfl ?_
  refine XW_seq ?_
  refine XW_sr ?_
  refine OW_fa rfl rfl rfl ?_
  refine OW_loadR hS2 (k := 1) rfl rfl rfl rfl rfl (by first | exact part_whole rfl rfl rfl | rfl) ?_
  refine OW_mv rfl rfl ?_
  refine EN73_CF7 rfl ?_
  refine OW_fn rfl rfl (c_Find (hS2.freeze0 (k := 2) rfl (map_plain (fun _ => rfl))) (by omega) _ ?_) 
  refine OW_bin rfl rfl rfl rfl rfl ?_
  refine EZ73_CF7 rfl ?_
  refine XW_if rfl (fun h1 => ?_) (fun h1 => ?_)
  ·try simp only [bs] at h1
   refine XW_sr ?_
   refine OW_loadR hS2 (k := 1) rfl rfl rfl rfl rfl (by first | exact part_whole rfl rfl rfl | rfl) ?_
   first
   | refine OW_storeR hS2 (k := 0) rfl (le_lit (ν := ν) (a := [2, 0]) (b := [1, 0, 1, 0, 1]) (by decide)) rfl rfl rfl rfl ⟨rfl, rfl, Nat.le_of_ble_eq_true rfl⟩ (set_whole rfl rfl) fun H3 hS3 => ?_
   | refine OW_storeR hS2 (k := 0) rfl (le_lit (ν := ν) (a := [2, 0]) (b := [1, 0, 1, 0, 1]) (by decide)) rfl rfl rfl rfl ⟨rfl, rfl, Nat.le_of_ble_eq_true rfl⟩ (u2 := .agg [_, _, _]) rfl fun H3 hS3 => ?_
   replace hS3 : Own _ _ _ (_ :: _ :: _ :: _ :: L) := hS3
   refine OW_as rfl rfl ?_
   refine EN73_CF7 rfl ?_
   refine OW_as rfl rfl ?_
   refine EZ73_CF7 rfl ?_
   refine XW_ret ?_
   refine then_ret ?_
   -- outcome 1
   refine ret_ret (res3 rfl (rv_cellR hS3 (k := 0) rfl rfl rfl rfl (by first | exact part_whole rfl rfl rfl | rfl)) (rv_tmp rfl) (rv_tmp rfl)) ?_
   first | (rw [volS, if_pos (by omega)] at hq; exact hq _ _ _ (Own.drop0 (Own.drop0 (Own.mono hS3 (le_bef (bef_app (a := [2, 0, 1, 0, 1]) hp)))))) | (rw [volS, if_neg (by omega), if_pos (by omega)] at hq; exact hq _ _ _ (Own.drop0 (Own.drop0 (Own.mono hS3 (le_bef (bef_app (a := [2, 0, 1, 0, 1]) hp)))))) | (rw [volS, if_neg (by omega), if_neg (by omega), if_pos (by omega)] at hq; exact hq _ _ _ (Own.drop0 (Own.drop0 (Own.mono hS3 (le_bef (bef_app (a := [2, 0, 1, 0, 1]) hp)))))) | (rw [volS, if_neg (by omega), if_neg (by omega), if_neg (by omega), if_pos (by omega)] at hq; exact hq _ _ _ (Own.drop0 (Own.drop0 (Own.drop0 (Own.mono hS3 (le_bef (bef_app (a := [2, 0, 1, 0, 1]) hp))))))) | (rw [volS, if_neg (by omega), if_neg (by omega), if_neg (by omega), if_neg (by omega)] at hq; exact hq _ _ _ (Own.drop (k := 1) (Own.drop (k := 1) (Own.drop (k := 1) (Own.drop0 (Own.mono hS3 (le_bef (bef_app (a := [2, 0, 1, 0, 1]) hp)))) rfl) rfl) rfl)) | trace_state
  ·try simp only [bs] at h1
   refine XW_skip ?_
   refine then_norm ?_
   refine XW_seq ?_
   refine XW_sr ?_
   refine OW_mv rfl rfl ?_
   refine OW_bin rfl rfl rfl rfl rfl ?_
   refine EZ73_CF7 rfl ?_
   refine XW_if rfl (fun h3 => ?_) (fun h3 => ?_)
   ·try simp only [bs] at h3
    refine XW_sr ?_
    refine OW_loadR hS2 (k := 1) rfl rfl rfl rfl rfl (by first | exact part_whole rfl rfl rfl | rfl) ?_
    first
    | refine OW_storeR hS2 (k := 0) rfl (le_lit (ν := ν) (a := [2, 0]) (b := [1, 0, 1, 0, 1, 1]) (by decide)) rfl rfl rfl rfl ⟨rfl, rfl, Nat.le_of_ble_eq_true rfl⟩ (set_whole rfl rfl) fun H4 hS4 => ?_
    | refine OW_storeR hS2 (k := 0) rfl (le_lit (ν := ν) (a := [2, 0]) (b := [1, 0, 1, 0, 1, 1]) (by decide)) rfl rfl rfl rfl ⟨rfl, rfl, Nat.le_of_ble_eq_true rfl⟩ (u2 := .agg [_, _, _]) rfl fun H4 hS4 => ?_
    replace hS4 : Own _ _ _ (_ :: _ :: _ :: _ :: L) := hS4
    refine OW_as rfl rfl ?_
    refine EN73_CF7 rfl ?_
    refine OW_as rfl rfl ?_
    refine EZ73_CF7 rfl ?_
    refine XW_ret ?_
    refine then_ret ?_
    -- outcome 2
    refine ret_ret (res3 rfl (rv_cellR hS4 (k := 0) rfl rfl rfl rfl (by first | exact part_whole rfl rfl rfl | rfl)) (rv_tmp rfl) (rv_tmp rfl)) ?_
    first | (rw [volS, if_pos (by omega)] at hq; exact hq _ _ _ (Own.drop0 (Own.drop0 (Own.mono hS4 (le_bef (bef_app (a := [2, 0, 1, 0, 1, 1]) hp)))))) | (rw [volS, if_neg (by omega), if_pos (by omega)] at hq; exact hq _ _ _ (Own.drop0 (Own.drop0 (Own.mono hS4 (le_bef (bef_app (a := [2, 0, 1, 0, 1, 1]) hp)))))) | (rw [volS, if_neg (by omega), if_neg (by omega), if_pos (by omega)] at hq; exact hq _ _ _ (Own.drop0 (Own.drop0 (Own.mono hS4 (le_bef (bef_app (a := [2, 0, 1, 0, 1, 1]) hp)))))) | (rw [volS, if_neg (by omega), if_neg (by omega), if_neg (by omega), if_pos (by omega)] at hq; exact hq _ _ _ (Own.drop0 (Own.drop0 (Own.drop0 (Own.mono hS4 (le_bef (bef_app (a := [2, 0, 1, 0, 1, 1]) hp))))))) | (rw [volS, if_neg (by omega), if_neg (by omega), if_neg (by omega), if_neg (by omega)] at hq; exact hq _ _ _ (Own.drop (k := 1) (Own.drop (k := 1) (Own.drop (k := 1) (Own.drop0 (Own.mono hS4 (le_bef (bef_app (a := [2, 0, 1, 0, 1, 1]) hp)))) rfl) rfl) rfl)) | trace_state
   ·try simp only [bs] at h3
    refine XW_skip ?_
    refine then_norm ?_
    refine XW_seq ?_
    refine XW_sr ?_
    refine OW_fa rfl rfl rfl ?_
    refine OW_loadR hS2 (k := 1) rfl rfl rfl rfl rfl (by first | exact part_whole rfl rfl rfl | rfl) ?_
    refine OW_lenO hS2 (k := 3) rfl rfl rfl rfl rfl rfl (by first | exact List.length_map _ | exact len_app1 | exact len_drop | (simp only [ss]; rfl) | rfl) ?_
    refine EN73_CF7 rfl ?_
    refine OW_bin rfl rfl rfl rfl rfl ?_
    refine OW_mv rfl rfl ?_
    refine OW_split (tt := 27) rfl (fun g5_5 => ?_) (fun g5_5 => ?_)
    ·try simp only [bs] at g5_5
     refine EN73_CF7 rfl ?_
     refine OW_no rfl ?_
     refine OW_no rfl ?_
     refine OW_no rfl ?_
     refine EN73_CF7 rfl ?_
     refine OW_no rfl ?_
     refine OW_pick rfl rfl rfl ?_
     refine EZ73_CF7 rfl ?_
     refine XW_yes rfl rfl ?_
     refine XW_sr ?_
     refine OW_loadR hS2 (k := 1) rfl rfl rfl rfl rfl (by first | exact part_whole rfl rfl rfl | rfl) ?_
     first
     | refine OW_storeR hS2 (k := 0) rfl (le_lit (ν := ν) (a := [2, 0]) (b := [1, 0, 1, 0, 1, 1, 1]) (by decide)) rfl rfl rfl rfl ⟨rfl, rfl, Nat.le_of_ble_eq_true rfl⟩ (set_whole rfl rfl) fun H5 hS5 => ?_
     | refine OW_storeR hS2 (k := 0) rfl (le_lit (ν := ν) (a := [2, 0]) (b := [1, 0, 1, 0, 1, 1, 1]) (by decide)) rfl rfl rfl rfl ⟨rfl, rfl, Nat.le_of_ble_eq_true rfl⟩ (u2 := .agg [_, _, _]) rfl fun H5 hS5 => ?_
     replace hS5 : Own _ _ _ (_ :: _ :: _ :: _ :: L) := hS5
     refine OW_as rfl rfl ?_
     refine EN73_CF7 rfl ?_
     refine OW_as rfl rfl ?_
     refine EZ73_CF7 rfl ?_
     refine XW_ret ?_
     refine then_ret ?_
     -- outcome 3
     refine ret_ret (res3 rfl (rv_cellR hS5 (k := 0) rfl rfl rfl rfl (by first | exact part_whole rfl rfl rfl | rfl)) (rv_tmp rfl) (rv_tmp rfl)) ?_
     first | (rw [volS, if_pos (by omega)] at hq; exact hq _ _ _ (Own.drop0 (Own.drop0 (Own.mono hS5 (le_bef (bef_app (a := [2, 0, 1, 0, 1, 1, 1]) hp)))))) | (rw [volS, if_neg (by omega), if_pos (by omega)] at hq; exact hq _ _ _ (Own.drop0 (Own.drop0 (Own.mono hS5 (le_bef (bef_app (a := [2, 0, 1, 0, 1, 1, 1]) hp)))))) | (rw [volS, if_neg (by omega), if_neg (by omega), if_pos (by omega)] at hq; exact hq _ _ _ (Own.drop0 (Own.drop0 (Own.mono hS5 (le_bef (bef_app (a := [2, 0, 1, 0, 1, 1, 1]) hp)))))) | (rw [volS, if_neg (by omega), if_neg (by omega), if_neg (by omega), if_pos (by omega)] at hq; exact hq _ _ _ (Own.drop0 (Own.drop0 (Own.drop0 (Own.mono hS5 (le_bef (bef_app (a := [2, 0, 1, 0, 1, 1, 1]) hp))))))) | (rw [volS, if_neg (by omega), if_neg (by omega), if_neg (by omega), if_neg (by omega)] at hq; exact hq _ _ _ (Own.drop (k := 1) (Own.drop (k := 1) (Own.drop (k := 1) (Own.drop0 (Own.mono hS5 (le_bef (bef_app (a := [2, 0, 1, 0, 1, 1, 1]) hp)))) rfl) rfl) rfl)) | trace_state
    ·try simp only [bs] at g5_5
     refine EN73_CF7 rfl ?_
     refine OW_fa rfl rfl rfl ?_
     refine OW_loadR hS2 (k := 1) rfl rfl rfl rfl rfl (by first | exact part_whole rfl rfl rfl | rfl) ?_
     first
     | refine OW_bin rfl rfl rfl rfl (add_wu64 (by first | omega | assumption | (simp only [ss]; omega))) ?_
     | refine OW_bin rfl rfl rfl rfl rfl ?_
     refine EN73_CF7 rfl ?_
     generalize IntKind.u64.wrap (c.nx + 1) = w1 at hw ⊢
     refine OW_bin rfl rfl rfl rfl rfl ?_
     refine OW_pick rfl rfl rfl ?_
     refine EZ73_CF7 rfl ?_
     refine XW_if rfl (fun h5 => ?_) (fun h5 => ?_)
     ·try simp only [bs] at h5
      refine XW_sr ?_
      refine OW_loadR hS2 (k := 1) rfl rfl rfl rfl rfl (by first | exact part_whole rfl rfl rfl | rfl) ?_
      first
      | refine OW_storeR hS2 (k := 0) rfl (le_lit (ν := ν) (a := [2, 0]) (b := [1, 0, 1, 0, 1, 1, 1]) (by decide)) rfl rfl rfl rfl ⟨rfl, rfl, Nat.le_of_ble_eq_true rfl⟩ (set_whole rfl rfl) fun H6 hS6 => ?_
      | refine OW_storeR hS2 (k := 0) rfl (le_lit (ν := ν) (a := [2, 0]) (b := [1, 0, 1, 0, 1, 1, 1]) (by decide)) rfl rfl rfl rfl ⟨rfl, rfl, Nat.le_of_ble_eq_true rfl⟩ (u2 := .agg [_, _, _]) rfl fun H6 hS6 => ?_
      replace hS6 : Own _ _ _ (_ :: _ :: _ :: _ :: L) := hS6
      refine OW_as rfl rfl ?_
      refine EN73_CF7 rfl ?_
      refine OW_as rfl rfl ?_
      refine EZ73_CF7 rfl ?_
      refine XW_ret ?_
      refine then_ret ?_
      -- outcome 4
      refine ret_ret (res3 rfl (rv_cellR hS6 (k := 0) rfl rfl rfl rfl (by first | exact part_whole rfl rfl rfl | rfl)) (rv_tmp rfl) (rv_tmp rfl)) ?_
      first | (rw [volS, if_pos (by omega)] at hq; exact hq _ _ _ (Own.drop0 (Own.drop0 (Own.mono hS6 (le_bef (bef_app (a := [2, 0, 1, 0, 1, 1, 1]) hp)))))) | (rw [volS, if_neg (by omega), if_pos (by omega)] at hq; exact hq _ _ _ (Own.drop0 (Own.drop0 (Own.mono hS6 (le_bef (bef_app (a := [2, 0, 1, 0, 1, 1, 1]) hp)))))) | (rw [volS, if_neg (by omega), if_neg (by omega), if_pos (by omega)] at hq; exact hq _ _ _ (Own.drop0 (Own.drop0 (Own.mono hS6 (le_bef (bef_app (a := [2, 0, 1, 0, 1, 1, 1]) hp)))))) | (rw [volS, if_neg (by omega), if_neg (by omega), if_neg (by omega), if_pos (by omega)] at hq; exact hq _ _ _ (Own.drop0 (Own.drop0 (Own.drop0 (Own.mono hS6 (le_bef (bef_app (a := [2, 0, 1, 0, 1, 1, 1]) hp))))))) | (rw [volS, if_neg (by omega), if_neg (by omega), if_neg (by omega), if_neg (by omega)] at hq; exact hq _ _ _ (Own.drop (k := 1) (Own.drop (k := 1) (Own.drop (k := 1) (Own.drop0 (Own.mono hS6 (le_bef (bef_app (a := [2, 0, 1, 0, 1, 1, 1]) hp)))) rfl) rfl) rfl)) | trace_state
     ·try simp only [bs] at h5
      refine XW_skip ?_
      refine then_norm ?_
      refine XW_sr ?_
      refine OW_fa rfl rfl rfl ?_
      refine OW_loadR hS2 (k := 1) rfl rfl rfl rfl rfl (by first | exact part_whole rfl rfl rfl | rfl) ?_
      refine OW_mv rfl rfl ?_
      refine EN73_CF7 rfl ?_
      refine OW_mv rfl rfl ?_
      first
      | refine OW_conv rfl rfl (conv_in rfl rfl rfl (IntWalk.i64_in _ (by omega))) ?_
      | refine OW_conv rfl rfl rfl ?_
      refine OW_fn rfl rfl (pow_c ⟨hb, by omega⟩ ?_) 
      refine EN73_CF7 rfl ?_
      have hpw := pow_le (b := b) ⟨hb, by omega⟩
      first
      | refine OW_conv rfl rfl (conv_in rfl rfl rfl (IntWalk.u64_in _ (by omega))) ?_
      | refine OW_conv rfl rfl rfl ?_
      refine OW_fn rfl rfl (rTakeK hS2 (k := 2) rfl (le_lit (ν := ν) (a := [2, 0]) (b := [7, 0, 1, 1, 1, 1]) (by decide)) (under_app [7, 0, 1, 1, 1, 1] hβ) (before_lit (ν := ν) (a := [7, 0, 1, 1, 1, 1]) (b := [8, 0, 1, 1, 1, 1]) (by decide)) (by omega) hf.q _ _ (by have := pow_le (b := b) ⟨hb, by omega⟩; omega) fun H7 O1 hS7 => ?_) 
      replace hS7 : Own _ _ _ (_ :: _ :: _ :: _ :: _ :: L) := hS7
      refine OW_mv rfl rfl ?_
      refine EN73_CF7 rfl ?_
      refine OW_ex rfl rfl rfl ?_
      refine OW_ex rfl rfl rfl ?_
      refine OW_as rfl rfl ?_
      refine EN73_CF7 rfl ?_
      refine OW_as rfl rfl ?_
      refine EZ73_CF7 rfl ?_
      refine XW_seq ?_
      refine XW_sr ?_
      refine OW_mv rfl rfl ?_
      refine OW_bin rfl rfl rfl rfl rfl ?_
      refine EZ73_CF7 rfl ?_
      refine XW_if rfl (fun h8 => ?_) (fun h8 => ?_)
      ·try simp only [bs] at h8
       refine XW_sr ?_
       refine OW_loadR hS7 (k := 2) rfl rfl rfl rfl rfl (by first | exact part_whole rfl rfl rfl | rfl) ?_
       refine OW_mv rfl rfl ?_
       first
       | refine OW_storeR hS7 (k := 1) rfl (le_lit (ν := ν) (a := [8, 0, 1, 1, 1, 1]) (b := [2, 0, 1, 0, 1, 1, 1, 1, 1]) (by decide)) rfl rfl rfl rfl ⟨rfl, rfl, Nat.le_of_ble_eq_true rfl⟩ (set_whole rfl rfl) fun H8 hS8 => ?_
       | refine OW_storeR hS7 (k := 1) rfl (le_lit (ν := ν) (a := [8, 0, 1, 1, 1, 1]) (b := [2, 0, 1, 0, 1, 1, 1, 1, 1]) (by decide)) rfl rfl rfl rfl ⟨rfl, rfl, Nat.le_of_ble_eq_true rfl⟩ (u2 := .agg [_, _, _]) rfl fun H8 hS8 => ?_
       replace hS8 : Own _ _ _ (_ :: _ :: _ :: _ :: _ :: L) := hS8
       refine EN73_CF7 rfl ?_
       refine OW_as rfl rfl ?_
       refine OW_as rfl rfl ?_
       refine EZ73_CF7 rfl ?_
       refine XW_ret ?_
       refine then_ret ?_
       -- outcome 5
       refine ret_ret (res3 rfl (rv_cellR hS8 (k := 1) rfl rfl rfl rfl (by first | exact part_whole rfl rfl rfl | rfl)) (rv_tmp rfl) (rv_tmp rfl)) ?_
       first | (rw [volS, if_pos (by omega)] at hq; exact hq _ _ _ (Own.drop0 (Own.drop0 (Own.mono hS8 (le_bef (bef_app (a := [3, 0, 1, 0, 1, 1, 1, 1, 1]) hp)))))) | (rw [volS, if_neg (by omega), if_pos (by omega)] at hq; exact hq _ _ _ (Own.drop0 (Own.drop0 (Own.mono hS8 (le_bef (bef_app (a := [3, 0, 1, 0, 1, 1, 1, 1, 1]) hp)))))) | (rw [volS, if_neg (by omega), if_neg (by omega), if_pos (by omega)] at hq; exact hq _ _ _ (Own.drop0 (Own.drop0 (Own.mono hS8 (le_bef (bef_app (a := [3, 0, 1, 0, 1, 1, 1, 1, 1]) hp)))))) | (rw [volS, if_neg (by omega), if_neg (by omega), if_neg (by omega), if_pos (by omega)] at hq; exact hq _ _ _ (Own.drop0 (Own.drop0 (Own.drop0 (Own.mono hS8 (le_bef (bef_app (a := [3, 0, 1, 0, 1, 1, 1, 1, 1]) hp))))))) | (rw [volS, if_neg (by omega), if_neg (by omega), if_neg (by omega), if_neg (by omega)] at hq; exact hq _ _ _ (Own.drop (k := 1) (Own.drop (k := 1) (Own.drop (k := 1) (Own.drop0 (Own.mono hS8 (le_bef (bef_app (a := [3, 0, 1, 0, 1, 1, 1, 1, 1]) hp)))) rfl) rfl) rfl)) | trace_state
      ·try simp only [bs] at h8
       refine XW_skip ?_
       refine then_norm ?_
       refine XW_sr ?_
       refine OW_fa rfl rfl rfl ?_
       refine OW_loadR hS7 (k := 2) rfl rfl rfl rfl rfl (by first | exact part_whole rfl rfl rfl | rfl) ?_
       refine OW_mv rfl rfl ?_
       refine EN73_CF7 rfl ?_
       refine OW_mv rfl rfl ?_
       refine OW_loadR hS7 (k := 2) rfl rfl rfl rfl rfl (by first | exact part_whole rfl rfl rfl | rfl) ?_
       refine OW_mv rfl rfl ?_
       refine EN73_CF7 rfl ?_
       refine OW_fn rfl rfl (rf_least (c := c) (frC (hS7.freeze0 (k := 3) rfl (map_plain (fun _ => rfl))) (hS7.freeze0 (k := 4) rfl (map_plain (fun _ => rfl)))) (by omega) hn ?_) 
       have hlst := (lstN_spec c.ps (n - 1)).1
       rw [show n - 1 + 1 = n by omega] at hlst
       first
       | refine OW_conv rfl rfl (conv_in rfl rfl rfl (IntWalk.u64_in _ (by omega))) ?_
       | refine OW_conv rfl rfl rfl ?_
       refine OW_bd rfl rfl (v := .agg [_, _, _, _, _]) rfl ?_
       refine EN73_CF7 rfl ?_
       refine OW_allocR hS7 (le_lit (ν := ν) (a := [8, 0, 1, 1, 1, 1]) (b := [9, 0, 1, 1, 1, 1, 1, 1]) (by decide)) (under_app [9, 0, 1, 1, 1, 1, 1, 1] hβ) rfl rfl rfl rfl fun H9 hS9 => ?_
       replace hS9 : Own _ _ _ (_ :: _ :: _ :: _ :: _ :: _ :: L) := hS9
       first
       | refine OW_storeR hS9 (k := 0) rfl le_refl rfl rfl rfl rfl ⟨rfl, rfl, Nat.le_of_ble_eq_true rfl⟩ (set_whole rfl rfl) fun H10 hS10 => ?_
       | refine OW_storeR hS9 (k := 0) rfl le_refl rfl rfl rfl rfl ⟨rfl, rfl, Nat.le_of_ble_eq_true rfl⟩ (u2 := .agg [_, _, _, _, _]) rfl fun H10 hS10 => ?_
       replace hS10 : Own _ _ _ (_ :: _ :: _ :: _ :: _ :: _ :: L) := hS10
       refine EZ73_CF7 rfl ?_
       refine XW_sr ?_
       refine OW_mv rfl rfl ?_
       refine OW_fa rfl rfl rfl ?_
       refine OW_storeC hS10 (k := 3) rfl (le_lit (ν := ν) (a := [11, 0, 1, 1, 1, 1, 1, 1]) (b := [2, 0, 1, 1, 1, 1, 1, 1, 1]) (by decide)) rfl rfl rfl (hS10.one (k := 1) rfl) rfl rfl (Nat.le_of_ble_eq_true rfl) (u2 := .agg [_, _, _]) rfl fun H11 hS11 => ?_
       replace hS11 : Own _ _ _ (_ :: _ :: _ :: _ :: _ :: _ :: L) := hS11
       refine EZ73_CF7 rfl ?_
       refine XW_sr ?_
       refine OW_fa rfl rfl rfl ?_
       refine OW_loadR hS11 (k := 3) rfl rfl rfl rfl rfl (by first | exact part_whole rfl rfl rfl | rfl) ?_
       refine OW_loadR hS11 (k := 0) rfl rfl rfl rfl rfl (by first | exact part_whole rfl rfl rfl | rfl) ?_
       refine EN73_CF7 rfl ?_
       refine OW_bs rfl rfl (v := .lst [_]) rfl ?_
       refine OW_app hS11 (k := 5) rfl (le_lit (ν := ν) (a := [3, 0, 1, 1, 1, 1, 1, 1, 1]) (b := [4, 0, 1, 1, 1, 1, 1, 1, 1, 1]) (by decide)) (under_app [4, 0, 1, 1, 1, 1, 1, 1, 1, 1] hβ) rfl rfl rfl rfl rfl rfl rfl rfl (by first | rfl | exact Ls.elems (by assumption)) (by first | exact one_wide rfl | exact map_wide (fun _ => rfl) | assumption | (intro y hy; simp at hy; done)) (by first | omega | (simp only [ss]; omega) | (simp; omega)) (by decide) fun O2 H12 hS12 => ?_
       replace hS12 : Own _ _ _ (_ :: _ :: _ :: _ :: _ :: _ :: L) := hS12
       refine OW_fa rfl rfl rfl ?_
       refine EN73_CF7 rfl ?_
       refine OW_storeC hS12 (k := 3) rfl (le_lit (ν := ν) (a := [5, 0, 1, 1, 1, 1, 1, 1, 1, 1]) (b := [6, 0, 1, 1, 1, 1, 1, 1, 1, 1]) (by decide)) rfl rfl rfl (hS12.one (k := 5) rfl) rfl rfl (Nat.le_of_ble_eq_true rfl) (u2 := .agg [_, _, _]) rfl fun H13 hS13 => ?_
       replace hS13 : Own _ _ _ (_ :: _ :: _ :: _ :: _ :: _ :: L) := hS13
       refine EZ73_CF7 rfl ?_
       refine XW_sr ?_
       replace hS13 := hS13.reS (k := 5) rfl (map_snoc (a := (⟨c.nx, a, b, 0, (lstN c.ps n : Nat)⟩ : Pl)))
       refine OW_fa rfl rfl rfl ?_
       refine OW_loadR hS13 (k := 3) rfl rfl rfl rfl rfl (by first | exact part_whole rfl rfl rfl | rfl) ?_
       first
       | refine OW_bin rfl rfl rfl rfl (add_wu64 (by first | omega | assumption | (simp only [ss]; omega))) ?_
       | refine OW_bin rfl rfl rfl rfl rfl ?_
       refine EN73_CF7 rfl ?_
       refine OW_fa rfl rfl rfl ?_
       refine OW_storeR hS13 (k := 3) rfl (le_lit (ν := ν) (a := [7, 0, 1, 1, 1, 1, 1, 1, 1, 1]) (b := [4, 0, 1, 1, 1, 1, 1, 1, 1, 1, 1]) (by decide)) rfl rfl rfl rfl ⟨rfl, rfl, Nat.le_of_ble_eq_true rfl⟩ (u2 := .agg [_, _, _]) rfl fun H14 hS14 => ?_
       replace hS14 : Own _ _ _ (_ :: _ :: _ :: _ :: _ :: _ :: L) := hS14
       refine EZ73_CF7 rfl ?_
       refine XW_srF (qs := [9 :: 0 :: 1 :: 1 :: 1 :: 1 :: 1 :: 1 :: ν]) rfl rfl ?_
       have hSF1 : Own _ _ _ (_ :: _ :: _ :: _ :: _ :: _ :: L) := (Own.hide (Own.hide0 hS14) (k := 0) rfl)
       refine OWF_op rfl ?_
       refine OW_loadR hSF1 (k := 3) rfl rfl rfl rfl rfl (by first | exact part_whole rfl rfl rfl | rfl) ?_
       refine OW_nil ?_
       refine OWF_op rfl ?_
       refine OW_fa rfl rfl rfl ?_
       refine OW_nil ?_
       refine OWF_fl rfl ?_
       refine OW_loadK hS14 (k := 0) rfl (by simp) rfl rfl rfl rfl (by first | exact part_whole rfl rfl rfl | rfl) ?_
       refine OW_nil ?_
       refine OWF_env (e' := [_,_,_,_,_,_,_,_,_,_,_,_,_,_,_,_,_,_,_,_,_,_,_,_,_,_,_,_,_,_,_,_,_,_,_,_,_,_,_,_,_,_,_,_,_,_,_,_,_,_,_,_,_,_,_,_,_,_,_,_,_,_,_,_,_,_,_,_,_,_,_,_,_]) rfl ?_
       refine OWF_op rfl ?_
       first
       | refine OW_storeR hSF1 (k := 2) rfl (le_lit (ν := ν) (a := [5, 0, 1, 1, 1, 1, 1, 1, 1, 1, 1]) (b := [3, 0, 1, 1, 1, 1, 1, 1, 1, 1, 1, 1]) (by decide)) rfl rfl rfl rfl ⟨rfl, rfl, Nat.le_of_ble_eq_true rfl⟩ (set_whole rfl rfl) fun H15 hS15 => ?_
       | refine OW_storeR hSF1 (k := 2) rfl (le_lit (ν := ν) (a := [5, 0, 1, 1, 1, 1, 1, 1, 1, 1, 1]) (b := [3, 0, 1, 1, 1, 1, 1, 1, 1, 1, 1, 1]) (by decide)) rfl rfl rfl rfl ⟨rfl, rfl, Nat.le_of_ble_eq_true rfl⟩ (u2 := .agg [_, _, _]) rfl fun H15 hS15 => ?_
       replace hS15 : Own _ _ _ (_ :: _ :: _ :: _ :: _ :: _ :: L) := hS15
       refine OW_nil ?_
       refine OWF_op rfl ?_
       refine OW_as rfl rfl ?_
       refine OW_nil ?_
       refine OWF_op rfl ?_
       refine OW_as rfl rfl ?_
       refine OW_nil ?_
       refine OWF_nilE (e' := [_,_,_,_,_,_,_,_,_,_,_,_,_,_,_,_,_,_,_,_,_,_,_,_,_,_,_,_,_,_,_,_,_,_,_,_,_,_,_,_,_,_,_,_,_,_,_,_,_,_,_,_,_,_,_,_,_,_,_,_,_,_,_,_,_,_,_,_,_,_,_,_,_]) rfl ?_
       have hSB1 : Own _ _ _ (_ :: _ :: _ :: _ :: _ :: _ :: L) := (Own.back hS14 (k := 0) rfl (Own.back0 hS15) (k' := 0) rfl)
       refine XW_ret ?_
       -- outcome 6
       refine ret_ret (res3 rfl (rv_cellR hSB1 (k := 2) rfl rfl rfl rfl (by first | exact part_whole rfl rfl rfl | rfl)) (rv_tmp rfl) (rv_tmp rfl)) ?_
       first | (rw [volS, if_pos (by omega)] at hq; exact hq _ _ _ (Own.drop0 (Own.drop0 (Own.mono hSB1 (le_bef (bef_app (a := [4, 0, 1, 1, 1, 1, 1, 1, 1, 1, 1, 1]) hp)))))) | (rw [volS, if_neg (by omega), if_pos (by omega)] at hq; exact hq _ _ _ (Own.drop0 (Own.drop0 (Own.mono hSB1 (le_bef (bef_app (a := [4, 0, 1, 1, 1, 1, 1, 1, 1, 1, 1, 1]) hp)))))) | (rw [volS, if_neg (by omega), if_neg (by omega), if_pos (by omega)] at hq; exact hq _ _ _ (Own.drop0 (Own.drop0 (Own.mono hSB1 (le_bef (bef_app (a := [4, 0, 1, 1, 1, 1, 1, 1, 1, 1, 1, 1]) hp)))))) | (rw [volS, if_neg (by omega), if_neg (by omega), if_neg (by omega), if_pos (by omega)] at hq; exact hq _ _ _ (Own.drop0 (Own.drop0 (Own.drop0 (Own.mono hSB1 (le_bef (bef_app (a := [4, 0, 1, 1, 1, 1, 1, 1, 1, 1, 1, 1]) hp))))))) | (rw [volS, if_neg (by omega), if_neg (by omega), if_neg (by omega), if_neg (by omega)] at hq; exact hq _ _ _ (Own.drop (k := 1) (Own.drop (k := 1) (Own.drop (k := 1) (Own.drop0 (Own.mono hSB1 (le_bef (bef_app (a := [4, 0, 1, 1, 1, 1, 1, 1, 1, 1, 1, 1]) hp)))) rfl) rfl) rfl)) | trace_state
theorem r_run_bad {U V : AVal} (hU : Ls U (c.qs.map Qu.enc)) (hV : Ls V (c.ps.map Pl.enc)) {d a b : Int} (hf : c.fit) (hd : gs < 1 ∨ 4 < gs ∨ d < 0 ∨ 2 < d) (hq : Q (.tup [c.enc, .int .i64 140, .int .u64 0]) H) : CW cfg ν 11 [.agg [U, V, .int .u64 c.nx], .int .i64 gs, .int .i64 d, .int .u64 a, .int .u64 b] H Q := by
  have hlp := hf.lp; have hlq := hf.lq
  refine CW_pure g11 F11 rfl ?_
  have hS0 : Own ν ν (fun _ => none) [] := Own.nil
  refine XW_sr ?_
  refine OW_boxR hS0 (le_app (p := ν) (b := [0, 0])) (under_app [0, 0] under_me) rfl rfl rfl ⟨rfl, rfl⟩ fun H1 hS1 => ?_
  replace hS1 : Own _ _ _ ([_]) := hS1
  refine OW_allocR hS1 le_refl (under_app [1, 0] under_me) rfl rfl rfl rfl fun H2 hS2 => ?_
  replace hS2 : Own _ _ _ ([_, _]) := hS2
  refine OW_as rfl rfl ?_
  refine EN100_CF7 rfl ?_
  refine OW_as rfl rfl ?_
  refine EZ100_CF7 rfl ?_
  refine XW_srF (qs := [0 :: 0 :: ν]) rfl rfl ?_
  have hSF1 : Own _ _ _ ([_, _]) := (Own.hide (Own.hide0 hS2) (k := 1) rfl)
  refine OWF_op rfl ?_
  refine OW_bs rfl rfl rfl ?_
  refine OW_nil ?_
  refine OWF_op rfl ?_
  refine OW_fa rfl rfl rfl ?_
  refine OW_nil ?_
  refine OWF_fl rfl ?_
  refine OW_loadK hS2 (k := 1) rfl (by simp) rfl rfl rfl rfl (by first | exact part_whole rfl rfl rfl | rfl) ?_
  refine OW_nil ?_
  refine FN100_CF7 rfl ?_
  refine OWF_op rfl ?_
  refine OW_appE hSF1 (le_lit (ν := ν) (a := [2, 0]) (b := [3, 0, 1]) (by decide)) (under_app [3, 0, 1] under_me) rfl rfl rfl rfl rfl rfl rfl rfl (by first | rfl | exact Ls.elems (by assumption)) (by first | exact one_wide rfl | exact map_wide (fun _ => rfl) | assumption | (intro y hy; simp at hy; done)) (by first | omega | (simp only [ss]; omega) | (simp; omega)) (by decide) fun O1 H3 hS3 => ?_
  replace hS3 : Own _ _ _ ([_, _, _]) := hS3
  refine OW_nil ?_
  refine OWF_op rfl ?_
  refine OW_bs rfl rfl rfl ?_
  refine OW_nil ?_
  refine OWF_op rfl ?_
  refine OW_fa rfl rfl rfl ?_
  refine OW_nil ?_
  refine FN100_CF7 rfl ?_
  refine OWF_fl rfl ?_
  refine OW_loadK hS2 (k := 1) rfl (by simp) rfl rfl rfl rfl (by first | exact part_whole rfl rfl rfl | rfl) ?_
  refine OW_nil ?_
  refine OWF_op rfl ?_
  refine OW_appE hS3 (le_lit (ν := ν) (a := [4, 0, 1]) (b := [7, 0, 1]) (by decide)) (under_app [7, 0, 1] under_me) rfl rfl rfl rfl rfl rfl rfl rfl (by first | rfl | exact Ls.elems (by assumption)) (by first | exact one_wide rfl | exact map_wide (fun _ => rfl) | assumption | (intro y hy; simp at hy; done)) (by first | omega | (simp only [ss]; omega) | (simp; omega)) (by decide) fun O2 H4 hS4 => ?_
  replace hS4 : Own _ _ _ ([_, _, _, _]) := hS4
  refine OW_nil ?_
  refine OWF_op rfl ?_
  refine OW_fa rfl rfl rfl ?_
  refine OW_nil ?_
  refine FN100_CF7 rfl ?_
  refine OWF_fl rfl ?_
  refine OW_loadK hS2 (k := 1) rfl (by simp) rfl rfl rfl rfl (by first | exact part_whole rfl rfl rfl | rfl) ?_
  refine OW_nil ?_
  refine OWF_op rfl ?_
  refine OW_bdP rfl (pcons rfl (hS4.one (k := 1) rfl).1 (pcons rfl (hS4.one (k := 0) rfl).1 (pcons rfl rfl rfl))) rfl rfl rfl (cs := [_, _, _]) (fill1 rfl (hS4.one (k := 1) rfl).2 rfl (Nat.le_of_ble_eq_true rfl) rfl (fill1 rfl (hS4.one (k := 0) rfl).2 rfl (Nat.le_of_ble_eq_true rfl) rfl (fill1 rfl rfl rfl (Nat.le_of_ble_eq_true rfl) rfl rfl))) ?_
  refine OW_nil ?_
  refine OWF_op rfl ?_
  refine OW_allocR hS4 (le_lit (ν := ν) (a := [8, 0, 1]) (b := [11, 0, 1]) (by decide)) (under_app [11, 0, 1] under_me) rfl rfl rfl rfl fun H5 hS5 => ?_
  replace hS5 : Own _ _ _ ([_, _, _, _, _]) := hS5
  refine OW_nil ?_
  refine FN100_CF7 rfl ?_
  refine OWF_op rfl ?_
  first
  | refine OW_storeR hS5 (k := 0) rfl le_refl rfl rfl rfl rfl ⟨rfl, rfl, Nat.le_of_ble_eq_true rfl⟩ (set_whole rfl rfl) fun H6 hS6 => ?_
  | refine OW_storeR hS5 (k := 0) rfl le_refl rfl rfl rfl rfl ⟨rfl, rfl, Nat.le_of_ble_eq_true rfl⟩ (u2 := .agg [_, _, _]) rfl fun H6 hS6 => ?_
  replace hS6 : Own _ _ _ ([_, _, _, _, _]) := hS6
  refine OW_nil ?_
  refine OWF_nilE (e' := [_,_,_,_,_,_,_,_,_,_,_,_,_,_,_,_,_,_,_,_,_,_,_,_,_,_,_,_,_,_,_,_,_,_,_,_,_,_,_,_,_,_,_,_,_,_,_,_,_,_,_,_,_,_,_,_,_,_,_,_,_,_,_,_,_,_,_,_,_,_,_,_,_,_,_,_,_,_,_,_,_,_,_,_,_,_,_,_,_,_,_,_,_,_,_,_,_,_,_,_]) rfl ?_
  have hSB1 : Own _ _ _ ([_, _, _, _, _]) := (Own.back hS2 (k := 1) rfl (Own.back0 hS6) (k' := 4) rfl)
  refine XW_seq ?_
  refine XW_sr ?_
  refine OW_mv rfl rfl ?_
  refine OW_bin rfl rfl rfl rfl rfl ?_
  refine OW_mv rfl rfl ?_
  refine EN100_CF7 rfl ?_
  refine OW_split (tt := 30) rfl (fun g2_3 => ?_) (fun g2_3 => ?_)
  ·first
   |(exfalso; (try simp only [bs] at g2_3) <;> (first | omega | contradiction); done)
   |skip
    try simp only [bs] at g2_3
    refine OW_no rfl ?_
    refine OW_no rfl ?_
    refine EN100_CF7 rfl ?_
    refine OW_pick rfl rfl rfl ?_
    refine OW_mv rfl rfl ?_
    refine OW_no rfl ?_
    refine EN100_CF7 rfl ?_
    refine OW_no rfl ?_
    refine OW_pick rfl rfl rfl ?_
    refine OW_mv rfl rfl ?_
    refine EN100_CF7 rfl ?_
    refine OW_no rfl ?_
    refine OW_no rfl ?_
    refine OW_pick rfl rfl rfl ?_
    refine EZ100_CF7 rfl ?_
    refine XW_yes rfl rfl ?_
    refine XW_sr ?_
    refine OW_loadR hSB1 (k := 0) rfl rfl rfl rfl rfl (by first | exact part_whole rfl rfl rfl | rfl) ?_
    first
    | refine OW_storeR hSB1 (k := 3) rfl (le_lit (ν := ν) (a := [13, 0, 1]) (b := [1, 0, 1, 0, 1, 1]) (by decide)) rfl rfl rfl rfl ⟨rfl, rfl, Nat.le_of_ble_eq_true rfl⟩ (set_whole rfl rfl) fun H7 hS7 => ?_
    | refine OW_storeR hSB1 (k := 3) rfl (le_lit (ν := ν) (a := [13, 0, 1]) (b := [1, 0, 1, 0, 1, 1]) (by decide)) rfl rfl rfl rfl ⟨rfl, rfl, Nat.le_of_ble_eq_true rfl⟩ (u2 := .agg [_, _, _]) rfl fun H7 hS7 => ?_
    replace hS7 : Own _ _ _ ([_, _, _, _, _]) := hS7
    refine OW_as rfl rfl ?_
    refine EN100_CF7 rfl ?_
    refine OW_as rfl rfl ?_
    refine EZ100_CF7 rfl ?_
    refine XW_ret ?_
    refine then_ret ?_
    -- outcome 1
    have fz1 := hS7.frz (k := 1) (n := 5) rfl (by first | exact map_plain (fun _ => rfl) | (intro x hx; simp at hx; done))
    have fz2 := hS7.frz (k := 2) (n := 5) rfl (by first | exact map_plain (fun _ => rfl) | (intro x hx; simp at hx; done))
    refine ret_ret (res3 rfl (rv_cellR hS7 (k := 3) rfl rfl rfl rfl (by first | exact part_whole rfl rfl rfl | rfl)) (rv_tmp rfl) (rv_tmp rfl)) (frz3 (Q := Q) (by first | exact freeze_plain rfl | exact Ls.freeze (by assumption) | exact Ls.freeze Ls.of | exact Ls.freeze Ls.emp | exact Ls.freeze Ls.nls | exact frA (frAc (by first | exact freeze_plain rfl | assumption | exact Ls.freeze Ls.of | exact Ls.freeze Ls.emp | exact Ls.freeze Ls.nls | exact Ls.freeze (by assumption)) (frAc (by first | exact freeze_plain rfl | assumption | exact Ls.freeze Ls.of | exact Ls.freeze Ls.emp | exact Ls.freeze Ls.nls | exact Ls.freeze (by assumption)) (frAc (by first | exact freeze_plain rfl | assumption | exact Ls.freeze Ls.of | exact Ls.freeze Ls.emp | exact Ls.freeze Ls.nls | exact Ls.freeze (by assumption)) frAn)))) (by first | exact freeze_plain rfl | exact Ls.freeze (by assumption) | exact Ls.freeze Ls.of | exact Ls.freeze Ls.emp | exact Ls.freeze Ls.nls) (by first | exact freeze_plain rfl | exact Ls.freeze (by assumption) | exact Ls.freeze Ls.of | exact Ls.freeze Ls.emp | exact Ls.freeze Ls.nls) ?_)
    first
    | exact hq
    | (refine qcast hq ?_; rfl)
    | (refine qcast hq ?_; simp; done)
    | (refine qcast hq ?_; simp; omega)
    | (refine qcast hq ?_; simp_all; done)
  ·first
   |(exfalso; (try simp only [bs] at g2_3) <;> (first | omega | contradiction); done)
   |skip
    try simp only [bs] at g2_3
    refine OW_mv rfl rfl ?_
    refine OW_bin rfl rfl rfl rfl rfl ?_
    refine EN100_CF7 rfl ?_
    refine OW_pick rfl rfl rfl ?_
    refine OW_mv rfl rfl ?_
    refine OW_split (tt := 34) rfl (fun g2_7 => ?_) (fun g2_7 => ?_)
    ·first
     |(exfalso; (try simp only [bs] at g2_7) <;> (first | omega | contradiction); done)
     |skip
      try simp only [bs] at g2_7
      refine EN100_CF7 rfl ?_
      refine OW_no rfl ?_
      refine OW_no rfl ?_
      refine OW_pick rfl rfl rfl ?_
      refine EN100_CF7 rfl ?_
      refine OW_mv rfl rfl ?_
      refine OW_no rfl ?_
      refine OW_no rfl ?_
      refine EN100_CF7 rfl ?_
      refine OW_pick rfl rfl rfl ?_
      refine EZ100_CF7 rfl ?_
      refine XW_yes rfl rfl ?_
      refine XW_sr ?_
      refine OW_loadR hSB1 (k := 0) rfl rfl rfl rfl rfl (by first | exact part_whole rfl rfl rfl | rfl) ?_
      first
      | refine OW_storeR hSB1 (k := 3) rfl (le_lit (ν := ν) (a := [13, 0, 1]) (b := [1, 0, 1, 0, 1, 1]) (by decide)) rfl rfl rfl rfl ⟨rfl, rfl, Nat.le_of_ble_eq_true rfl⟩ (set_whole rfl rfl) fun H8 hS8 => ?_
      | refine OW_storeR hSB1 (k := 3) rfl (le_lit (ν := ν) (a := [13, 0, 1]) (b := [1, 0, 1, 0, 1, 1]) (by decide)) rfl rfl rfl rfl ⟨rfl, rfl, Nat.le_of_ble_eq_true rfl⟩ (u2 := .agg [_, _, _]) rfl fun H8 hS8 => ?_
      replace hS8 : Own _ _ _ ([_, _, _, _, _]) := hS8
      refine OW_as rfl rfl ?_
      refine EN100_CF7 rfl ?_
      refine OW_as rfl rfl ?_
      refine EZ100_CF7 rfl ?_
      refine XW_ret ?_
      refine then_ret ?_
      -- outcome 2
      have fz1 := hS8.frz (k := 1) (n := 5) rfl (by first | exact map_plain (fun _ => rfl) | (intro x hx; simp at hx; done))
      have fz2 := hS8.frz (k := 2) (n := 5) rfl (by first | exact map_plain (fun _ => rfl) | (intro x hx; simp at hx; done))
      refine ret_ret (res3 rfl (rv_cellR hS8 (k := 3) rfl rfl rfl rfl (by first | exact part_whole rfl rfl rfl | rfl)) (rv_tmp rfl) (rv_tmp rfl)) (frz3 (Q := Q) (by first | exact freeze_plain rfl | exact Ls.freeze (by assumption) | exact Ls.freeze Ls.of | exact Ls.freeze Ls.emp | exact Ls.freeze Ls.nls | exact frA (frAc (by first | exact freeze_plain rfl | assumption | exact Ls.freeze Ls.of | exact Ls.freeze Ls.emp | exact Ls.freeze Ls.nls | exact Ls.freeze (by assumption)) (frAc (by first | exact freeze_plain rfl | assumption | exact Ls.freeze Ls.of | exact Ls.freeze Ls.emp | exact Ls.freeze Ls.nls | exact Ls.freeze (by assumption)) (frAc (by first | exact freeze_plain rfl | assumption | exact Ls.freeze Ls.of | exact Ls.freeze Ls.emp | exact Ls.freeze Ls.nls | exact Ls.freeze (by assumption)) frAn)))) (by first | exact freeze_plain rfl | exact Ls.freeze (by assumption) | exact Ls.freeze Ls.of | exact Ls.freeze Ls.emp | exact Ls.freeze Ls.nls) (by first | exact freeze_plain rfl | exact Ls.freeze (by assumption) | exact Ls.freeze Ls.of | exact Ls.freeze Ls.emp | exact Ls.freeze Ls.nls) ?_)
      first
      | exact hq
      | (refine qcast hq ?_; rfl)
      | (refine qcast hq ?_; simp; done)
      | (refine qcast hq ?_; simp; omega)
      | (refine qcast hq ?_; simp_all; done)
    ·first
     |(exfalso; (try simp only [bs] at g2_7) <;> (first | omega | contradiction); done)
     |skip
      try simp only [bs] at g2_7
      refine EN100_CF7 rfl ?_
      refine OW_mv rfl rfl ?_
      refine OW_bin rfl rfl rfl rfl rfl ?_
      refine OW_pick rfl rfl rfl ?_
      refine EN100_CF7 rfl ?_
      refine OW_mv rfl rfl ?_
      refine OW_split (tt := 38) rfl (fun g2_11 => ?_) (fun g2_11 => ?_)
      ·first
       |(exfalso; (try simp only [bs] at g2_11) <;> (first | omega | contradiction); done)
       |skip
        try simp only [bs] at g2_11
        refine OW_no rfl ?_
        refine EN100_CF7 rfl ?_
        refine OW_no rfl ?_
        refine OW_pick rfl rfl rfl ?_
        refine EZ100_CF7 rfl ?_
        refine XW_yes rfl rfl ?_
        refine XW_sr ?_
        refine OW_loadR hSB1 (k := 0) rfl rfl rfl rfl rfl (by first | exact part_whole rfl rfl rfl | rfl) ?_
        first
        | refine OW_storeR hSB1 (k := 3) rfl (le_lit (ν := ν) (a := [13, 0, 1]) (b := [1, 0, 1, 0, 1, 1]) (by decide)) rfl rfl rfl rfl ⟨rfl, rfl, Nat.le_of_ble_eq_true rfl⟩ (set_whole rfl rfl) fun H9 hS9 => ?_
        | refine OW_storeR hSB1 (k := 3) rfl (le_lit (ν := ν) (a := [13, 0, 1]) (b := [1, 0, 1, 0, 1, 1]) (by decide)) rfl rfl rfl rfl ⟨rfl, rfl, Nat.le_of_ble_eq_true rfl⟩ (u2 := .agg [_, _, _]) rfl fun H9 hS9 => ?_
        replace hS9 : Own _ _ _ ([_, _, _, _, _]) := hS9
        refine OW_as rfl rfl ?_
        refine EN100_CF7 rfl ?_
        refine OW_as rfl rfl ?_
        refine EZ100_CF7 rfl ?_
        refine XW_ret ?_
        refine then_ret ?_
        -- outcome 3
        have fz1 := hS9.frz (k := 1) (n := 5) rfl (by first | exact map_plain (fun _ => rfl) | (intro x hx; simp at hx; done))
        have fz2 := hS9.frz (k := 2) (n := 5) rfl (by first | exact map_plain (fun _ => rfl) | (intro x hx; simp at hx; done))
        refine ret_ret (res3 rfl (rv_cellR hS9 (k := 3) rfl rfl rfl rfl (by first | exact part_whole rfl rfl rfl | rfl)) (rv_tmp rfl) (rv_tmp rfl)) (frz3 (Q := Q) (by first | exact freeze_plain rfl | exact Ls.freeze (by assumption) | exact Ls.freeze Ls.of | exact Ls.freeze Ls.emp | exact Ls.freeze Ls.nls | exact frA (frAc (by first | exact freeze_plain rfl | assumption | exact Ls.freeze Ls.of | exact Ls.freeze Ls.emp | exact Ls.freeze Ls.nls | exact Ls.freeze (by assumption)) (frAc (by first | exact freeze_plain rfl | assumption | exact Ls.freeze Ls.of | exact Ls.freeze Ls.emp | exact Ls.freeze Ls.nls | exact Ls.freeze (by assumption)) (frAc (by first | exact freeze_plain rfl | assumption | exact Ls.freeze Ls.of | exact Ls.freeze Ls.emp | exact Ls.freeze Ls.nls | exact Ls.freeze (by assumption)) frAn)))) (by first | exact freeze_plain rfl | exact Ls.freeze (by assumption) | exact Ls.freeze Ls.of | exact Ls.freeze Ls.emp | exact Ls.freeze Ls.nls) (by first | exact freeze_plain rfl | exact Ls.freeze (by assumption) | exact Ls.freeze Ls.of | exact Ls.freeze Ls.emp | exact Ls.freeze Ls.nls) ?_)
        first
        | exact hq
        | (refine qcast hq ?_; rfl)
        | (refine qcast hq ?_; simp; done)
        | (refine qcast hq ?_; simp; omega)
        | (refine qcast hq ?_; simp_all; done)
      ·first
       |(exfalso; (try simp only [bs] at g2_11) <;> (first | omega | contradiction); done)
       |skip
        try simp only [bs] at g2_11
        refine OW_mv rfl rfl ?_
        refine EN100_CF7 rfl ?_
        refine OW_bin rfl rfl rfl rfl rfl ?_
        refine OW_pick rfl rfl rfl ?_
        refine EZ100_CF7 rfl ?_
        refine XW_if rfl (fun h2 => ?_) (fun h2 => ?_)
        ·first
         |(exfalso; (try simp only [bs] at h2) <;> (first | omega | contradiction); done)
         |skip
          try simp only [bs] at h2
          refine XW_sr ?_
          refine OW_loadR hSB1 (k := 0) rfl rfl rfl rfl rfl (by first | exact part_whole rfl rfl rfl | rfl) ?_
          first
          | refine OW_storeR hSB1 (k := 3) rfl (le_lit (ν := ν) (a := [13, 0, 1]) (b := [1, 0, 1, 0, 1, 1]) (by decide)) rfl rfl rfl rfl ⟨rfl, rfl, Nat.le_of_ble_eq_true rfl⟩ (set_whole rfl rfl) fun H10 hS10 => ?_
          | refine OW_storeR hSB1 (k := 3) rfl (le_lit (ν := ν) (a := [13, 0, 1]) (b := [1, 0, 1, 0, 1, 1]) (by decide)) rfl rfl rfl rfl ⟨rfl, rfl, Nat.le_of_ble_eq_true rfl⟩ (u2 := .agg [_, _, _]) rfl fun H10 hS10 => ?_
          replace hS10 : Own _ _ _ ([_, _, _, _, _]) := hS10
          refine OW_as rfl rfl ?_
          refine EN100_CF7 rfl ?_
          refine OW_as rfl rfl ?_
          refine EZ100_CF7 rfl ?_
          refine XW_ret ?_
          refine then_ret ?_
          -- outcome 4
          have fz1 := hS10.frz (k := 1) (n := 5) rfl (by first | exact map_plain (fun _ => rfl) | (intro x hx; simp at hx; done))
          have fz2 := hS10.frz (k := 2) (n := 5) rfl (by first | exact map_plain (fun _ => rfl) | (intro x hx; simp at hx; done))
          refine ret_ret (res3 rfl (rv_cellR hS10 (k := 3) rfl rfl rfl rfl (by first | exact part_whole rfl rfl rfl | rfl)) (rv_tmp rfl) (rv_tmp rfl)) (frz3 (Q := Q) (by first | exact freeze_plain rfl | exact Ls.freeze (by assumption) | exact Ls.freeze Ls.of | exact Ls.freeze Ls.emp | exact Ls.freeze Ls.nls | exact frA (frAc (by first | exact freeze_plain rfl | assumption | exact Ls.freeze Ls.of | exact Ls.freeze Ls.emp | exact Ls.freeze Ls.nls | exact Ls.freeze (by assumption)) (frAc (by first | exact freeze_plain rfl | assumption | exact Ls.freeze Ls.of | exact Ls.freeze Ls.emp | exact Ls.freeze Ls.nls | exact Ls.freeze (by assumption)) (frAc (by first | exact freeze_plain rfl | assumption | exact Ls.freeze Ls.of | exact Ls.freeze Ls.emp | exact Ls.freeze Ls.nls | exact Ls.freeze (by assumption)) frAn)))) (by first | exact freeze_plain rfl | exact Ls.freeze (by assumption) | exact Ls.freeze Ls.of | exact Ls.freeze Ls.emp | exact Ls.freeze Ls.nls) (by first | exact freeze_plain rfl | exact Ls.freeze (by assumption) | exact Ls.freeze Ls.of | exact Ls.freeze Ls.emp | exact Ls.freeze Ls.nls) ?_)
          first
          | exact hq
          | (refine qcast hq ?_; rfl)
          | (refine qcast hq ?_; simp; done)
          | (refine qcast hq ?_; simp; omega)
          | (refine qcast hq ?_; simp_all; done)
        · exfalso; (try simp only [bs] at h2) <;> (omega)
theorem r_run_go {n : Nat} {U V : AVal} (hU : Ls U (c.qs.map Qu.enc)) (hV : Ls V (c.ps.map Pl.enc)) {d a b : Int} (hf : c.fit) (hb : 0 ≤ b) (hn : 1 ≤ n ∧ n ≤ 4) (hd : 0 ≤ d ∧ d ≤ 2) (hq : Q (.tup [(runS c n d a b).1.enc, .int .i64 (runS c n d a b).2.2, .int .u64 (runS c n d a b).2.1]) H) : CW cfg ν 11 [.agg [U, V, .int .u64 c.nx], .int .i64 n, .int .i64 d, .int .u64 a, .int .u64 b] H Q := by
  have hlp := hf.lp; have hlq := hf.lq
  have hr := bmp_cases hf a
  refine CW_pure g11 F11 rfl ?_
  have hS0 : Own ν ν (fun _ => none) [] := Own.nil
  refine XW_sr ?_
  refine OW_boxR hS0 (le_app (p := ν) (b := [0, 0])) (under_app [0, 0] under_me) rfl rfl rfl ⟨rfl, rfl⟩ fun H1 hS1 => ?_
  replace hS1 : Own _ _ _ ([_]) := hS1
  refine OW_allocR hS1 le_refl (under_app [1, 0] under_me) rfl rfl rfl rfl fun H2 hS2 => ?_
  replace hS2 : Own _ _ _ ([_, _]) := hS2
  refine OW_as rfl rfl ?_
  refine EN100_CF7 rfl ?_
  refine OW_as rfl rfl ?_
  refine EZ100_CF7 rfl ?_
  refine XW_srF (qs := [0 :: 0 :: ν]) rfl rfl ?_
  have hSF1 : Own _ _ _ ([_, _]) := (Own.hide (Own.hide0 hS2) (k := 1) rfl)
  refine OWF_op rfl ?_
  refine OW_bs rfl rfl rfl ?_
  refine OW_nil ?_
  refine OWF_op rfl ?_
  refine OW_fa rfl rfl rfl ?_
  refine OW_nil ?_
  refine OWF_fl rfl ?_
  refine OW_loadK hS2 (k := 1) rfl (by simp) rfl rfl rfl rfl (by first | exact part_whole rfl rfl rfl | rfl) ?_
  refine OW_nil ?_
  refine FN100_CF7 rfl ?_
  refine OWF_op rfl ?_
  refine OW_appE hSF1 (le_lit (ν := ν) (a := [2, 0]) (b := [3, 0, 1]) (by decide)) (under_app [3, 0, 1] under_me) rfl rfl rfl rfl rfl rfl rfl rfl (by first | rfl | exact Ls.elems (by assumption)) (by first | exact one_wide rfl | exact map_wide (fun _ => rfl) | assumption | (intro y hy; simp at hy; done)) (by first | omega | (simp only [ss]; omega) | (simp; omega)) (by decide) fun O1 H3 hS3 => ?_
  replace hS3 : Own _ _ _ ([_, _, _]) := hS3
  refine OW_nil ?_
  refine OWF_op rfl ?_
  refine OW_bs rfl rfl rfl ?_
  refine OW_nil ?_
  refine OWF_op rfl ?_
  refine OW_fa rfl rfl rfl ?_
  refine OW_nil ?_
  refine FN100_CF7 rfl ?_
  refine OWF_fl rfl ?_
  refine OW_loadK hS2 (k := 1) rfl (by simp) rfl rfl rfl rfl (by first | exact part_whole rfl rfl rfl | rfl) ?_
  refine OW_nil ?_
  refine OWF_op rfl ?_
  refine OW_appE hS3 (le_lit (ν := ν) (a := [4, 0, 1]) (b := [7, 0, 1]) (by decide)) (under_app [7, 0, 1] under_me) rfl rfl rfl rfl rfl rfl rfl rfl (by first | rfl | exact Ls.elems (by assumption)) (by first | exact one_wide rfl | exact map_wide (fun _ => rfl) | assumption | (intro y hy; simp at hy; done)) (by first | omega | (simp only [ss]; omega) | (simp; omega)) (by decide) fun O2 H4 hS4 => ?_
  replace hS4 : Own _ _ _ ([_, _, _, _]) := hS4
  refine OW_nil ?_
  refine OWF_op rfl ?_
  refine OW_fa rfl rfl rfl ?_
  refine OW_nil ?_
  refine FN100_CF7 rfl ?_
  refine OWF_fl rfl ?_
  refine OW_loadK hS2 (k := 1) rfl (by simp) rfl rfl rfl rfl (by first | exact part_whole rfl rfl rfl | rfl) ?_
  refine OW_nil ?_
  refine OWF_op rfl ?_
  refine OW_bdP rfl (pcons rfl (hS4.one (k := 1) rfl).1 (pcons rfl (hS4.one (k := 0) rfl).1 (pcons rfl rfl rfl))) rfl rfl rfl (cs := [_, _, _]) (fill1 rfl (hS4.one (k := 1) rfl).2 rfl (Nat.le_of_ble_eq_true rfl) rfl (fill1 rfl (hS4.one (k := 0) rfl).2 rfl (Nat.le_of_ble_eq_true rfl) rfl (fill1 rfl rfl rfl (Nat.le_of_ble_eq_true rfl) rfl rfl))) ?_
  refine OW_nil ?_
  refine OWF_op rfl ?_
  refine OW_allocR hS4 (le_lit (ν := ν) (a := [8, 0, 1]) (b := [11, 0, 1]) (by decide)) (under_app [11, 0, 1] under_me) rfl rfl rfl rfl fun H5 hS5 => ?_
  replace hS5 : Own _ _ _ ([_, _, _, _, _]) := hS5
  refine OW_nil ?_
  refine FN100_CF7 rfl ?_
  refine OWF_op rfl ?_
  first
  | refine OW_storeR hS5 (k := 0) rfl le_refl rfl rfl rfl rfl ⟨rfl, rfl, Nat.le_of_ble_eq_true rfl⟩ (set_whole rfl rfl) fun H6 hS6 => ?_
  | refine OW_storeR hS5 (k := 0) rfl le_refl rfl rfl rfl rfl ⟨rfl, rfl, Nat.le_of_ble_eq_true rfl⟩ (u2 := .agg [_, _, _]) rfl fun H6 hS6 => ?_
  replace hS6 : Own _ _ _ ([_, _, _, _, _]) := hS6
  refine OW_nil ?_
  refine OWF_nilE (e' := [_,_,_,_,_,_,_,_,_,_,_,_,_,_,_,_,_,_,_,_,_,_,_,_,_,_,_,_,_,_,_,_,_,_,_,_,_,_,_,_,_,_,_,_,_,_,_,_,_,_,_,_,_,_,_,_,_,_,_,_,_,_,_,_,_,_,_,_,_,_,_,_,_,_,_,_,_,_,_,_,_,_,_,_,_,_,_,_,_,_,_,_,_,_,_,_,_,_,_,_]) rfl ?_
  have hSB1 : Own _ _ _ ([_, _, _, _, _]) := (Own.back hS2 (k := 1) rfl (Own.back0 hS6) (k' := 4) rfl)
  refine XW_seq ?_
  refine XW_sr ?_
  refine OW_mv rfl rfl ?_
  refine OW_bin rfl rfl rfl rfl rfl ?_
  refine OW_mv rfl rfl ?_
  refine EN100_CF7 rfl ?_
  refine OW_split (tt := 30) rfl (fun g2_3 => ?_) (fun g2_3 => ?_)
  ·first
   |(exfalso; (try simp only [bs] at g2_3) <;> (first | omega | contradiction); done)
   |skip
    try simp only [bs] at g2_3
    refine OW_no rfl ?_
    refine OW_no rfl ?_
    refine EN100_CF7 rfl ?_
    refine OW_pick rfl rfl rfl ?_
    refine OW_mv rfl rfl ?_
    refine OW_no rfl ?_
    refine EN100_CF7 rfl ?_
    refine OW_no rfl ?_
    refine OW_pick rfl rfl rfl ?_
    refine OW_mv rfl rfl ?_
    refine EN100_CF7 rfl ?_
    refine OW_no rfl ?_
    refine OW_no rfl ?_
    refine OW_pick rfl rfl rfl ?_
    refine EZ100_CF7 rfl ?_
    refine XW_yes rfl rfl ?_
    refine XW_sr ?_
    refine OW_loadR hSB1 (k := 0) rfl rfl rfl rfl rfl (by first | exact part_whole rfl rfl rfl | rfl) ?_
    first
    | refine OW_storeR hSB1 (k := 3) rfl (le_lit (ν := ν) (a := [13, 0, 1]) (b := [1, 0, 1, 0, 1, 1]) (by decide)) rfl rfl rfl rfl ⟨rfl, rfl, Nat.le_of_ble_eq_true rfl⟩ (set_whole rfl rfl) fun H7 hS7 => ?_
    | refine OW_storeR hSB1 (k := 3) rfl (le_lit (ν := ν) (a := [13, 0, 1]) (b := [1, 0, 1, 0, 1, 1]) (by decide)) rfl rfl rfl rfl ⟨rfl, rfl, Nat.le_of_ble_eq_true rfl⟩ (u2 := .agg [_, _, _]) rfl fun H7 hS7 => ?_
    replace hS7 : Own _ _ _ ([_, _, _, _, _]) := hS7
    refine OW_as rfl rfl ?_
    refine EN100_CF7 rfl ?_
    refine OW_as rfl rfl ?_
    refine EZ100_CF7 rfl ?_
    refine XW_ret ?_
    refine then_ret ?_
    -- outcome 1
    have fz1 := hS7.frz (k := 1) (n := 5) rfl (by first | exact map_plain (fun _ => rfl) | (intro x hx; simp at hx; done))
    have fz2 := hS7.frz (k := 2) (n := 5) rfl (by first | exact map_plain (fun _ => rfl) | (intro x hx; simp at hx; done))
    refine ret_ret (res3 rfl (rv_cellR hS7 (k := 3) rfl rfl rfl rfl (by first | exact part_whole rfl rfl rfl | rfl)) (rv_tmp rfl) (rv_tmp rfl)) (frz3 (Q := Q) (by first | exact freeze_plain rfl | exact Ls.freeze (by assumption) | exact Ls.freeze Ls.of | exact Ls.freeze Ls.emp | exact Ls.freeze Ls.nls | exact frA (frAc (by first | exact freeze_plain rfl | assumption | exact Ls.freeze Ls.of | exact Ls.freeze Ls.emp | exact Ls.freeze Ls.nls | exact Ls.freeze (by assumption)) (frAc (by first | exact freeze_plain rfl | assumption | exact Ls.freeze Ls.of | exact Ls.freeze Ls.emp | exact Ls.freeze Ls.nls | exact Ls.freeze (by assumption)) (frAc (by first | exact freeze_plain rfl | assumption | exact Ls.freeze Ls.of | exact Ls.freeze Ls.emp | exact Ls.freeze Ls.nls | exact Ls.freeze (by assumption)) frAn)))) (by first | exact freeze_plain rfl | exact Ls.freeze (by assumption) | exact Ls.freeze Ls.of | exact Ls.freeze Ls.emp | exact Ls.freeze Ls.nls) (by first | exact freeze_plain rfl | exact Ls.freeze (by assumption) | exact Ls.freeze Ls.of | exact Ls.freeze Ls.emp | exact Ls.freeze Ls.nls) ?_)
    first | (obtain rfl : d = 1 := (by omega); rw [runS_1 (by omega), Int.toNat_natCast] at hq; exact hq) | (obtain rfl : d = 0 := (by omega); rw [runS_0 (by omega), tenS, if_neg (by simp [h8])] at hq; exact hq) | (obtain rfl : d = 0 := (by omega); rw [runS_0 (by omega), tenS, if_pos (by simp [h8])] at hq; exact hq) | (obtain rfl : d = 2 := (by omega); rw [runS_2 (by omega)] at hq; first | (obtain ⟨_, hrb⟩ | ⟨hlt, hr0, hre, hrb⟩ := hr <;> first | (rw [hrb] at hq; exact hq) | (exfalso; omega)) | (rw [hrb, if_pos (by omega)] at hq; exact hq) | (rw [hrb, if_neg (by omega), ← hm] at hq; rw [hme]; exact hq)) | trace_state
  ·first
   |(exfalso; (try simp only [bs] at g2_3) <;> (first | omega | contradiction); done)
   |skip
    try simp only [bs] at g2_3
    refine OW_mv rfl rfl ?_
    refine OW_bin rfl rfl rfl rfl rfl ?_
    refine EN100_CF7 rfl ?_
    refine OW_pick rfl rfl rfl ?_
    refine OW_mv rfl rfl ?_
    refine OW_split (tt := 34) rfl (fun g2_7 => ?_) (fun g2_7 => ?_)
    ·first
     |(exfalso; (try simp only [bs] at g2_7) <;> (first | omega | contradiction); done)
     |skip
      try simp only [bs] at g2_7
      refine EN100_CF7 rfl ?_
      refine OW_no rfl ?_
      refine OW_no rfl ?_
      refine OW_pick rfl rfl rfl ?_
      refine EN100_CF7 rfl ?_
      refine OW_mv rfl rfl ?_
      refine OW_no rfl ?_
      refine OW_no rfl ?_
      refine EN100_CF7 rfl ?_
      refine OW_pick rfl rfl rfl ?_
      refine EZ100_CF7 rfl ?_
      refine XW_yes rfl rfl ?_
      refine XW_sr ?_
      refine OW_loadR hSB1 (k := 0) rfl rfl rfl rfl rfl (by first | exact part_whole rfl rfl rfl | rfl) ?_
      first
      | refine OW_storeR hSB1 (k := 3) rfl (le_lit (ν := ν) (a := [13, 0, 1]) (b := [1, 0, 1, 0, 1, 1]) (by decide)) rfl rfl rfl rfl ⟨rfl, rfl, Nat.le_of_ble_eq_true rfl⟩ (set_whole rfl rfl) fun H8 hS8 => ?_
      | refine OW_storeR hSB1 (k := 3) rfl (le_lit (ν := ν) (a := [13, 0, 1]) (b := [1, 0, 1, 0, 1, 1]) (by decide)) rfl rfl rfl rfl ⟨rfl, rfl, Nat.le_of_ble_eq_true rfl⟩ (u2 := .agg [_, _, _]) rfl fun H8 hS8 => ?_
      replace hS8 : Own _ _ _ ([_, _, _, _, _]) := hS8
      refine OW_as rfl rfl ?_
      refine EN100_CF7 rfl ?_
      refine OW_as rfl rfl ?_
      refine EZ100_CF7 rfl ?_
      refine XW_ret ?_
      refine then_ret ?_
      -- outcome 2
      have fz1 := hS8.frz (k := 1) (n := 5) rfl (by first | exact map_plain (fun _ => rfl) | (intro x hx; simp at hx; done))
      have fz2 := hS8.frz (k := 2) (n := 5) rfl (by first | exact map_plain (fun _ => rfl) | (intro x hx; simp at hx; done))
      refine ret_ret (res3 rfl (rv_cellR hS8 (k := 3) rfl rfl rfl rfl (by first | exact part_whole rfl rfl rfl | rfl)) (rv_tmp rfl) (rv_tmp rfl)) (frz3 (Q := Q) (by first | exact freeze_plain rfl | exact Ls.freeze (by assumption) | exact Ls.freeze Ls.of | exact Ls.freeze Ls.emp | exact Ls.freeze Ls.nls | exact frA (frAc (by first | exact freeze_plain rfl | assumption | exact Ls.freeze Ls.of | exact Ls.freeze Ls.emp | exact Ls.freeze Ls.nls | exact Ls.freeze (by assumption)) (frAc (by first | exact freeze_plain rfl | assumption | exact Ls.freeze Ls.of | exact Ls.freeze Ls.emp | exact Ls.freeze Ls.nls | exact Ls.freeze (by assumption)) (frAc (by first | exact freeze_plain rfl | assumption | exact Ls.freeze Ls.of | exact Ls.freeze Ls.emp | exact Ls.freeze Ls.nls | exact Ls.freeze (by assumption)) frAn)))) (by first | exact freeze_plain rfl | exact Ls.freeze (by assumption) | exact Ls.freeze Ls.of | exact Ls.freeze Ls.emp | exact Ls.freeze Ls.nls) (by first | exact freeze_plain rfl | exact Ls.freeze (by assumption) | exact Ls.freeze Ls.of | exact Ls.freeze Ls.emp | exact Ls.freeze Ls.nls) ?_)
      first | (obtain rfl : d = 1 := (by omega); rw [runS_1 (by omega), Int.toNat_natCast] at hq; exact hq) | (obtain rfl : d = 0 := (by omega); rw [runS_0 (by omega), tenS, if_neg (by simp [h8])] at hq; exact hq) | (obtain rfl : d = 0 := (by omega); rw [runS_0 (by omega), tenS, if_pos (by simp [h8])] at hq; exact hq) | (obtain rfl : d = 2 := (by omega); rw [runS_2 (by omega)] at hq; first | (obtain ⟨_, hrb⟩ | ⟨hlt, hr0, hre, hrb⟩ := hr <;> first | (rw [hrb] at hq; exact hq) | (exfalso; omega)) | (rw [hrb, if_pos (by omega)] at hq; exact hq) | (rw [hrb, if_neg (by omega), ← hm] at hq; rw [hme]; exact hq)) | trace_state
    ·first
     |(exfalso; (try simp only [bs] at g2_7) <;> (first | omega | contradiction); done)
     |skip
      try simp only [bs] at g2_7
      refine EN100_CF7 rfl ?_
      refine OW_mv rfl rfl ?_
      refine OW_bin rfl rfl rfl rfl rfl ?_
      refine OW_pick rfl rfl rfl ?_
      refine EN100_CF7 rfl ?_
      refine OW_mv rfl rfl ?_
      refine OW_split (tt := 38) rfl (fun g2_11 => ?_) (fun g2_11 => ?_)
      ·first
       |(exfalso; (try simp only [bs] at g2_11) <;> (first | omega | contradiction); done)
       |skip
        try simp only [bs] at g2_11
        refine OW_no rfl ?_
        refine EN100_CF7 rfl ?_
        refine OW_no rfl ?_
        refine OW_pick rfl rfl rfl ?_
        refine EZ100_CF7 rfl ?_
        refine XW_yes rfl rfl ?_
        refine XW_sr ?_
        refine OW_loadR hSB1 (k := 0) rfl rfl rfl rfl rfl (by first | exact part_whole rfl rfl rfl | rfl) ?_
        first
        | refine OW_storeR hSB1 (k := 3) rfl (le_lit (ν := ν) (a := [13, 0, 1]) (b := [1, 0, 1, 0, 1, 1]) (by decide)) rfl rfl rfl rfl ⟨rfl, rfl, Nat.le_of_ble_eq_true rfl⟩ (set_whole rfl rfl) fun H9 hS9 => ?_
        | refine OW_storeR hSB1 (k := 3) rfl (le_lit (ν := ν) (a := [13, 0, 1]) (b := [1, 0, 1, 0, 1, 1]) (by decide)) rfl rfl rfl rfl ⟨rfl, rfl, Nat.le_of_ble_eq_true rfl⟩ (u2 := .agg [_, _, _]) rfl fun H9 hS9 => ?_
        replace hS9 : Own _ _ _ ([_, _, _, _, _]) := hS9
        refine OW_as rfl rfl ?_
        refine EN100_CF7 rfl ?_
        refine OW_as rfl rfl ?_
        refine EZ100_CF7 rfl ?_
        refine XW_ret ?_
        refine then_ret ?_
        -- outcome 3
        have fz1 := hS9.frz (k := 1) (n := 5) rfl (by first | exact map_plain (fun _ => rfl) | (intro x hx; simp at hx; done))
        have fz2 := hS9.frz (k := 2) (n := 5) rfl (by first | exact map_plain (fun _ => rfl) | (intro x hx; simp at hx; done))
        refine ret_ret (res3 rfl (rv_cellR hS9 (k := 3) rfl rfl rfl rfl (by first | exact part_whole rfl rfl rfl | rfl)) (rv_tmp rfl) (rv_tmp rfl)) (frz3 (Q := Q) (by first | exact freeze_plain rfl | exact Ls.freeze (by assumption) | exact Ls.freeze Ls.of | exact Ls.freeze Ls.emp | exact Ls.freeze Ls.nls | exact frA (frAc (by first | exact freeze_plain rfl | assumption | exact Ls.freeze Ls.of | exact Ls.freeze Ls.emp | exact Ls.freeze Ls.nls | exact Ls.freeze (by assumption)) (frAc (by first | exact freeze_plain rfl | assumption | exact Ls.freeze Ls.of | exact Ls.freeze Ls.emp | exact Ls.freeze Ls.nls | exact Ls.freeze (by assumption)) (frAc (by first | exact freeze_plain rfl | assumption | exact Ls.freeze Ls.of | exact Ls.freeze Ls.emp | exact Ls.freeze Ls.nls | exact Ls.freeze (by assumption)) frAn)))) (by first | exact freeze_plain rfl | exact Ls.freeze (by assumption) | exact Ls.freeze Ls.of | exact Ls.freeze Ls.emp | exact Ls.freeze Ls.nls) (by first | exact freeze_plain rfl | exact Ls.freeze (by assumption) | exact Ls.freeze Ls.of | exact Ls.freeze Ls.emp | exact Ls.freeze Ls.nls) ?_)
        first | (obtain rfl : d = 1 := (by omega); rw [runS_1 (by omega), Int.toNat_natCast] at hq; exact hq) | (obtain rfl : d = 0 := (by omega); rw [runS_0 (by omega), tenS, if_neg (by simp [h8])] at hq; exact hq) | (obtain rfl : d = 0 := (by omega); rw [runS_0 (by omega), tenS, if_pos (by simp [h8])] at hq; exact hq) | (obtain rfl : d = 2 := (by omega); rw [runS_2 (by omega)] at hq; first | (obtain ⟨_, hrb⟩ | ⟨hlt, hr0, hre, hrb⟩ := hr <;> first | (rw [hrb] at hq; exact hq) | (exfalso; omega)) | (rw [hrb, if_pos (by omega)] at hq; exact hq) | (rw [hrb, if_neg (by omega), ← hm] at hq; rw [hme]; exact hq)) | trace_state
      ·first
       |(exfalso; (try simp only [bs] at g2_11) <;> (first | omega | contradiction); done)
       |skip
        try simp only [bs] at g2_11
        refine OW_mv rfl rfl ?_
        refine EN100_CF7 rfl ?_
        refine OW_bin rfl rfl rfl rfl rfl ?_
        refine OW_pick rfl rfl rfl ?_
        refine EZ100_CF7 rfl ?_
        refine XW_if rfl (fun h2 => ?_) (fun h2 => ?_)
        · exfalso; (try simp only [bs] at h2) <;> (omega)
        ·first
         |(exfalso; (try simp only [bs] at h2) <;> (first | omega | contradiction); done)
         |skip
          try simp only [bs] at h2
          refine XW_skip ?_
          refine then_norm ?_
          refine XW_seq ?_
          refine XW_sr ?_
          refine OW_mv rfl rfl ?_
          refine OW_bin rfl rfl rfl rfl rfl ?_
          refine EZ100_CF7 rfl ?_
          refine XW_if rfl (fun h4 => ?_) (fun h4 => ?_)
          ·first
           |(exfalso; (try simp only [bs] at h4) <;> (first | omega | contradiction); done)
           |skip
            try simp only [bs] at h4
            refine XW_sr ?_
            replace hSB1 := Own.pick (Own.pick hSB1 (k := 1) rfl) (k := 2) rfl
            refine OW_loadR hSB1 (k := 2) rfl rfl rfl rfl rfl (by first | exact part_whole rfl rfl rfl | rfl) ?_
            refine OW_mv rfl rfl ?_
            refine OW_mv rfl rfl ?_
            refine EN100_CF7 rfl ?_
            refine OW_mv rfl rfl ?_
            refine OW_fn rfl rfl (rvol_c (n := n) (c := c) hSB1 (le_lit (ν := ν) (a := [13, 0, 1]) (b := [4, 0, 1, 0, 1, 1, 1]) (by decide)) (under_app [4, 0, 1, 0, 1, 1, 1] under_me) (before_lit (ν := ν) (a := [4, 0, 1, 0, 1, 1, 1]) (b := [5, 0, 1, 0, 1, 1, 1]) (by decide)) hf (by omega) _ _ hb fun H10 U1 V1 hS10 => ?_) 
            replace hS10 : Own _ _ _ ([_, _, _, _, _]) := hS10
            refine OW_ex rfl rfl rfl ?_
            refine EN100_CF7 rfl ?_
            refine OW_ex rfl rfl rfl ?_
            refine OW_ex rfl rfl rfl ?_
            first
            | refine OW_storeR hS10 (k := 3) rfl (le_lit (ν := ν) (a := [5, 0, 1, 0, 1, 1, 1]) (b := [8, 0, 1, 0, 1, 1, 1]) (by decide)) rfl rfl rfl rfl ⟨rfl, rfl, Nat.le_of_ble_eq_true rfl⟩ (set_whole rfl rfl) fun H11 hS11 => ?_
            | refine OW_storeR hS10 (k := 3) rfl (le_lit (ν := ν) (a := [5, 0, 1, 0, 1, 1, 1]) (b := [8, 0, 1, 0, 1, 1, 1]) (by decide)) rfl rfl rfl rfl ⟨rfl, rfl, Nat.le_of_ble_eq_true rfl⟩ (u2 := .agg [_, _, _]) rfl fun H11 hS11 => ?_
            replace hS11 : Own _ _ _ ([_, _, _, _, _]) := hS11
            refine EN100_CF7 rfl ?_
            refine OW_as rfl rfl ?_
            refine OW_as rfl rfl ?_
            refine EZ100_CF7 rfl ?_
            refine XW_ret ?_
            refine then_ret ?_
            -- outcome 4
            have fz0 := hS11.frz (k := 0) (n := 5) rfl (by first | exact map_plain (fun _ => rfl) | (intro x hx; simp at hx; done))
            have fz1 := hS11.frz (k := 1) (n := 5) rfl (by first | exact map_plain (fun _ => rfl) | (intro x hx; simp at hx; done))
            refine ret_ret (res3 rfl (rv_cellR hS11 (k := 3) rfl rfl rfl rfl (by first | exact part_whole rfl rfl rfl | rfl)) (rv_tmp rfl) (rv_tmp rfl)) (frz3 (Q := Q) (by first | exact freeze_plain rfl | exact Ls.freeze (by assumption) | exact Ls.freeze Ls.of | exact Ls.freeze Ls.emp | exact Ls.freeze Ls.nls | exact frA (frAc (by first | exact freeze_plain rfl | assumption | exact Ls.freeze Ls.of | exact Ls.freeze Ls.emp | exact Ls.freeze Ls.nls | exact Ls.freeze (by assumption)) (frAc (by first | exact freeze_plain rfl | assumption | exact Ls.freeze Ls.of | exact Ls.freeze Ls.emp | exact Ls.freeze Ls.nls | exact Ls.freeze (by assumption)) (frAc (by first | exact freeze_plain rfl | assumption | exact Ls.freeze Ls.of | exact Ls.freeze Ls.emp | exact Ls.freeze Ls.nls | exact Ls.freeze (by assumption)) frAn)))) (by first | exact freeze_plain rfl | exact Ls.freeze (by assumption) | exact Ls.freeze Ls.of | exact Ls.freeze Ls.emp | exact Ls.freeze Ls.nls) (by first | exact freeze_plain rfl | exact Ls.freeze (by assumption) | exact Ls.freeze Ls.of | exact Ls.freeze Ls.emp | exact Ls.freeze Ls.nls) ?_)
            first | (obtain rfl : d = 1 := (by omega); rw [runS_1 (by omega), Int.toNat_natCast] at hq; exact hq) | (obtain rfl : d = 0 := (by omega); rw [runS_0 (by omega), tenS, if_neg (by simp [h8])] at hq; exact hq) | (obtain rfl : d = 0 := (by omega); rw [runS_0 (by omega), tenS, if_pos (by simp [h8])] at hq; exact hq) | (obtain rfl : d = 2 := (by omega); rw [runS_2 (by omega)] at hq; first | (obtain ⟨_, hrb⟩ | ⟨hlt, hr0, hre, hrb⟩ := hr <;> first | (rw [hrb] at hq; exact hq) | (exfalso; omega)) | (rw [hrb, if_pos (by omega)] at hq; exact hq) | (rw [hrb, if_neg (by omega), ← hm] at hq; rw [hme]; exact hq)) | trace_state
          ·first
           |(exfalso; (try simp only [bs] at h4) <;> (first | omega | contradiction); done)
           |skip
            try simp only [bs] at h4
            refine XW_skip ?_
            refine then_norm ?_
            refine XW_seq ?_
            refine XW_sr ?_
            refine OW_mv rfl rfl ?_
            refine OW_bin rfl rfl rfl rfl rfl ?_
            refine EZ100_CF7 rfl ?_
            refine XW_if rfl (fun h6 => ?_) (fun h6 => ?_)
            ·first
             |(exfalso; (try simp only [bs] at h6) <;> (first | omega | contradiction); done)
             |skip
              try simp only [bs] at h6
              refine XW_sr ?_
              refine OW_fa rfl rfl rfl ?_
              refine OW_loadR hSB1 (k := 0) rfl rfl rfl rfl rfl (by first | exact part_whole rfl rfl rfl | rfl) ?_
              refine OW_mv rfl rfl ?_
              refine EN100_CF7 rfl ?_
              refine OW_mv rfl rfl ?_
              refine OW_fn rfl rfl (rSetK hSB1 (k := 2) rfl (le_lit (ν := ν) (a := [13, 0, 1]) (b := [4, 0, 1, 0, 1, 1, 1, 1]) (by decide)) (under_app [4, 0, 1, 0, 1, 1, 1, 1] under_me) (before_lit (ν := ν) (a := [4, 0, 1, 0, 1, 1, 1, 1]) (b := [5, 0, 1, 0, 1, 1, 1, 1]) (by decide)) (by omega) _ _ fun H12 O3 hS12 => ?_) 
              replace hS12 : Own _ _ _ ([_, _, _, _, _, _]) := hS12
              refine OW_mv rfl rfl ?_
              refine EN100_CF7 rfl ?_
              refine OW_ex rfl rfl rfl ?_
              refine OW_ex rfl rfl rfl ?_
              refine OW_as rfl rfl ?_
              refine EN100_CF7 rfl ?_
              refine OW_as rfl rfl ?_
              refine EZ100_CF7 rfl ?_
              refine XW_seq ?_
              refine XW_sr ?_
              refine OW_mv rfl rfl ?_
              refine OW_un rfl rfl rfl ?_
              refine EZ100_CF7 rfl ?_
              refine XW_if rfl (fun h8 => ?_) (fun h8 => ?_)
              ·first
               |(exfalso; (try simp only [bs] at h8) <;> (first | omega | contradiction); done)
               |skip
                try simp only [bs] at h8
                refine XW_sr ?_
                refine OW_loadR hS12 (k := 1) rfl rfl rfl rfl rfl (by first | exact part_whole rfl rfl rfl | rfl) ?_
                first
                | refine OW_storeR hS12 (k := 4) rfl (le_lit (ν := ν) (a := [5, 0, 1, 0, 1, 1, 1, 1]) (b := [1, 0, 1, 0, 1, 1, 0, 1, 1, 1, 1]) (by decide)) rfl rfl rfl rfl ⟨rfl, rfl, Nat.le_of_ble_eq_true rfl⟩ (set_whole rfl rfl) fun H13 hS13 => ?_
                | refine OW_storeR hS12 (k := 4) rfl (le_lit (ν := ν) (a := [5, 0, 1, 0, 1, 1, 1, 1]) (b := [1, 0, 1, 0, 1, 1, 0, 1, 1, 1, 1]) (by decide)) rfl rfl rfl rfl ⟨rfl, rfl, Nat.le_of_ble_eq_true rfl⟩ (u2 := .agg [_, _, _]) rfl fun H13 hS13 => ?_
                replace hS13 : Own _ _ _ ([_, _, _, _, _, _]) := hS13
                refine OW_as rfl rfl ?_
                refine EN100_CF7 rfl ?_
                refine OW_as rfl rfl ?_
                refine EZ100_CF7 rfl ?_
                refine XW_ret ?_
                refine then_ret ?_
                refine then_ret ?_
                -- outcome 5
                have fz0 := hS13.frz (k := 0) (n := 5) rfl (by first | exact map_plain (fun _ => rfl) | (intro x hx; simp at hx; done))
                have fz2 := hS13.frz (k := 2) (n := 5) rfl (by first | exact map_plain (fun _ => rfl) | (intro x hx; simp at hx; done))
                have fz3 := hS13.frz (k := 3) (n := 5) rfl (by first | exact map_plain (fun _ => rfl) | (intro x hx; simp at hx; done))
                refine ret_ret (res3 rfl (rv_cellR hS13 (k := 4) rfl rfl rfl rfl (by first | exact part_whole rfl rfl rfl | rfl)) (rv_tmp rfl) (rv_tmp rfl)) (frz3 (Q := Q) (by first | exact freeze_plain rfl | exact Ls.freeze (by assumption) | exact Ls.freeze Ls.of | exact Ls.freeze Ls.emp | exact Ls.freeze Ls.nls | exact frA (frAc (by first | exact freeze_plain rfl | assumption | exact Ls.freeze Ls.of | exact Ls.freeze Ls.emp | exact Ls.freeze Ls.nls | exact Ls.freeze (by assumption)) (frAc (by first | exact freeze_plain rfl | assumption | exact Ls.freeze Ls.of | exact Ls.freeze Ls.emp | exact Ls.freeze Ls.nls | exact Ls.freeze (by assumption)) (frAc (by first | exact freeze_plain rfl | assumption | exact Ls.freeze Ls.of | exact Ls.freeze Ls.emp | exact Ls.freeze Ls.nls | exact Ls.freeze (by assumption)) frAn)))) (by first | exact freeze_plain rfl | exact Ls.freeze (by assumption) | exact Ls.freeze Ls.of | exact Ls.freeze Ls.emp | exact Ls.freeze Ls.nls) (by first | exact freeze_plain rfl | exact Ls.freeze (by assumption) | exact Ls.freeze Ls.of | exact Ls.freeze Ls.emp | exact Ls.freeze Ls.nls) ?_)
                first | (obtain rfl : d = 1 := (by omega); rw [runS_1 (by omega), Int.toNat_natCast] at hq; exact hq) | (obtain rfl : d = 0 := (by omega); rw [runS_0 (by omega), tenS, if_neg (by simp [h8])] at hq; exact hq) | (obtain rfl : d = 0 := (by omega); rw [runS_0 (by omega), tenS, if_pos (by simp [h8])] at hq; exact hq) | (obtain rfl : d = 2 := (by omega); rw [runS_2 (by omega)] at hq; first | (obtain ⟨_, hrb⟩ | ⟨hlt, hr0, hre, hrb⟩ := hr <;> first | (rw [hrb] at hq; exact hq) | (exfalso; omega)) | (rw [hrb, if_pos (by omega)] at hq; exact hq) | (rw [hrb, if_neg (by omega), ← hm] at hq; rw [hme]; exact hq)) | trace_state
              ·first
               |(exfalso; (try simp only [bs] at h8) <;> (first | omega | contradiction); done)
               |skip
                try simp only [bs] at h8
                refine XW_skip ?_
                refine then_norm ?_
                refine XW_sr ?_
                refine OW_mv rfl rfl ?_
                refine OW_fa rfl rfl rfl ?_
                refine OW_storeC hS12 (k := 1) rfl (le_lit (ν := ν) (a := [5, 0, 1, 0, 1, 1, 1, 1]) (b := [2, 0, 1, 1, 1, 0, 1, 1, 1, 1]) (by decide)) rfl rfl rfl (hS12.one (k := 0) rfl) rfl rfl (Nat.le_of_ble_eq_true rfl) (u2 := .agg [_, _, _]) rfl fun H14 hS14 => ?_
                replace hS14 : Own _ _ _ ([_, _, _, _, _, _]) := hS14
                refine EZ100_CF7 rfl ?_
                refine XW_sr ?_
                refine OW_loadR hS14 (k := 1) rfl rfl rfl rfl rfl (by first | exact part_whole rfl rfl rfl | rfl) ?_
                first
                | refine OW_storeR hS14 (k := 4) rfl (le_lit (ν := ν) (a := [3, 0, 1, 1, 1, 0, 1, 1, 1, 1]) (b := [1, 0, 1, 1, 1, 1, 0, 1, 1, 1, 1]) (by decide)) rfl rfl rfl rfl ⟨rfl, rfl, Nat.le_of_ble_eq_true rfl⟩ (set_whole rfl rfl) fun H15 hS15 => ?_
                | refine OW_storeR hS14 (k := 4) rfl (le_lit (ν := ν) (a := [3, 0, 1, 1, 1, 0, 1, 1, 1, 1]) (b := [1, 0, 1, 1, 1, 1, 0, 1, 1, 1, 1]) (by decide)) rfl rfl rfl rfl ⟨rfl, rfl, Nat.le_of_ble_eq_true rfl⟩ (u2 := .agg [_, _, _]) rfl fun H15 hS15 => ?_
                replace hS15 : Own _ _ _ ([_, _, _, _, _, _]) := hS15
                refine OW_as rfl rfl ?_
                refine EN100_CF7 rfl ?_
                refine OW_as rfl rfl ?_
                refine EZ100_CF7 rfl ?_
                refine XW_ret ?_
                refine then_ret ?_
                -- outcome 6
                have fz0 := hS15.frz (k := 0) (n := 5) rfl (by first | exact map_plain (fun _ => rfl) | (intro x hx; simp at hx; done))
                have fz2 := hS15.frz (k := 2) (n := 5) rfl (by first | exact map_plain (fun _ => rfl) | (intro x hx; simp at hx; done))
                have fz3 := hS15.frz (k := 3) (n := 5) rfl (by first | exact map_plain (fun _ => rfl) | (intro x hx; simp at hx; done))
                refine ret_ret (res3 rfl (rv_cellR hS15 (k := 4) rfl rfl rfl rfl (by first | exact part_whole rfl rfl rfl | rfl)) (rv_tmp rfl) (rv_tmp rfl)) (frz3 (Q := Q) (by first | exact freeze_plain rfl | exact Ls.freeze (by assumption) | exact Ls.freeze Ls.of | exact Ls.freeze Ls.emp | exact Ls.freeze Ls.nls | exact frA (frAc (by first | exact freeze_plain rfl | assumption | exact Ls.freeze Ls.of | exact Ls.freeze Ls.emp | exact Ls.freeze Ls.nls | exact Ls.freeze (by assumption)) (frAc (by first | exact freeze_plain rfl | assumption | exact Ls.freeze Ls.of | exact Ls.freeze Ls.emp | exact Ls.freeze Ls.nls | exact Ls.freeze (by assumption)) (frAc (by first | exact freeze_plain rfl | assumption | exact Ls.freeze Ls.of | exact Ls.freeze Ls.emp | exact Ls.freeze Ls.nls | exact Ls.freeze (by assumption)) frAn)))) (by first | exact freeze_plain rfl | exact Ls.freeze (by assumption) | exact Ls.freeze Ls.of | exact Ls.freeze Ls.emp | exact Ls.freeze Ls.nls) (by first | exact freeze_plain rfl | exact Ls.freeze (by assumption) | exact Ls.freeze Ls.of | exact Ls.freeze Ls.emp | exact Ls.freeze Ls.nls) ?_)
                first | (obtain rfl : d = 1 := (by omega); rw [runS_1 (by omega), Int.toNat_natCast] at hq; exact hq) | (obtain rfl : d = 0 := (by omega); rw [runS_0 (by omega), tenS, if_neg (by simp [h8])] at hq; exact hq) | (obtain rfl : d = 0 := (by omega); rw [runS_0 (by omega), tenS, if_pos (by simp [h8])] at hq; exact hq) | (obtain rfl : d = 2 := (by omega); rw [runS_2 (by omega)] at hq; first | (obtain ⟨_, hrb⟩ | ⟨hlt, hr0, hre, hrb⟩ := hr <;> first | (rw [hrb] at hq; exact hq) | (exfalso; omega)) | (rw [hrb, if_pos (by omega)] at hq; exact hq) | (rw [hrb, if_neg (by omega), ← hm] at hq; rw [hme]; exact hq)) | trace_state
            ·first
             |(exfalso; (try simp only [bs] at h6) <;> (first | omega | contradiction); done)
             |skip
              try simp only [bs] at h6
              refine XW_skip ?_
              refine then_norm ?_
              refine XW_sr ?_
              refine OW_loadR hSB1 (k := 0) rfl rfl rfl rfl rfl (by first | exact part_whole rfl rfl rfl | rfl) ?_
              refine OW_mv rfl rfl ?_
              refine OW_fn rfl rfl (rf_find (c := c) (frC (hSB1.freeze0 (k := 2) rfl (map_plain (fun _ => rfl))) (hSB1.freeze0 (k := 1) rfl (map_plain (fun _ => rfl)))) (by omega) _ ?_) 
              refine EN100_CF7 rfl ?_
              refine OW_as rfl rfl ?_
              refine EZ100_CF7 rfl ?_
              refine XW_seq ?_
              refine XW_sr ?_
              generalize atP a c.ps = at0 at *
              refine OW_mv rfl rfl ?_
              refine OW_bin rfl rfl rfl rfl rfl ?_
              refine EZ100_CF7 rfl ?_
              refine XW_if rfl (fun h13 => ?_) (fun h13 => ?_)
              ·first
               |(exfalso; (try simp only [bs] at h13) <;> (first | omega | contradiction); done)
               |skip
                try simp only [bs] at h13
                refine XW_sr ?_
                refine OW_loadR hSB1 (k := 0) rfl rfl rfl rfl rfl (by first | exact part_whole rfl rfl rfl | rfl) ?_
                first
                | refine OW_storeR hSB1 (k := 3) rfl (le_lit (ν := ν) (a := [13, 0, 1]) (b := [1, 0, 1, 0, 1, 1, 1, 1, 1, 1]) (by decide)) rfl rfl rfl rfl ⟨rfl, rfl, Nat.le_of_ble_eq_true rfl⟩ (set_whole rfl rfl) fun H16 hS16 => ?_
                | refine OW_storeR hSB1 (k := 3) rfl (le_lit (ν := ν) (a := [13, 0, 1]) (b := [1, 0, 1, 0, 1, 1, 1, 1, 1, 1]) (by decide)) rfl rfl rfl rfl ⟨rfl, rfl, Nat.le_of_ble_eq_true rfl⟩ (u2 := .agg [_, _, _]) rfl fun H16 hS16 => ?_
                replace hS16 : Own _ _ _ ([_, _, _, _, _]) := hS16
                refine OW_as rfl rfl ?_
                refine EN100_CF7 rfl ?_
                refine OW_as rfl rfl ?_
                refine EZ100_CF7 rfl ?_
                refine XW_ret ?_
                refine then_ret ?_
                -- outcome 7
                have fz1 := hS16.frz (k := 1) (n := 5) rfl (by first | exact map_plain (fun _ => rfl) | (intro x hx; simp at hx; done))
                have fz2 := hS16.frz (k := 2) (n := 5) rfl (by first | exact map_plain (fun _ => rfl) | (intro x hx; simp at hx; done))
                refine ret_ret (res3 rfl (rv_cellR hS16 (k := 3) rfl rfl rfl rfl (by first | exact part_whole rfl rfl rfl | rfl)) (rv_tmp rfl) (rv_tmp rfl)) (frz3 (Q := Q) (by first | exact freeze_plain rfl | exact Ls.freeze (by assumption) | exact Ls.freeze Ls.of | exact Ls.freeze Ls.emp | exact Ls.freeze Ls.nls | exact frA (frAc (by first | exact freeze_plain rfl | assumption | exact Ls.freeze Ls.of | exact Ls.freeze Ls.emp | exact Ls.freeze Ls.nls | exact Ls.freeze (by assumption)) (frAc (by first | exact freeze_plain rfl | assumption | exact Ls.freeze Ls.of | exact Ls.freeze Ls.emp | exact Ls.freeze Ls.nls | exact Ls.freeze (by assumption)) (frAc (by first | exact freeze_plain rfl | assumption | exact Ls.freeze Ls.of | exact Ls.freeze Ls.emp | exact Ls.freeze Ls.nls | exact Ls.freeze (by assumption)) frAn)))) (by first | exact freeze_plain rfl | exact Ls.freeze (by assumption) | exact Ls.freeze Ls.of | exact Ls.freeze Ls.emp | exact Ls.freeze Ls.nls) (by first | exact freeze_plain rfl | exact Ls.freeze (by assumption) | exact Ls.freeze Ls.of | exact Ls.freeze Ls.emp | exact Ls.freeze Ls.nls) ?_)
                first | (obtain rfl : d = 1 := (by omega); rw [runS_1 (by omega), Int.toNat_natCast] at hq; exact hq) | (obtain rfl : d = 0 := (by omega); rw [runS_0 (by omega), tenS, if_neg (by simp [h8])] at hq; exact hq) | (obtain rfl : d = 0 := (by omega); rw [runS_0 (by omega), tenS, if_pos (by simp [h8])] at hq; exact hq) | (obtain rfl : d = 2 := (by omega); rw [runS_2 (by omega)] at hq; first | (obtain ⟨_, hrb⟩ | ⟨hlt, hr0, hre, hrb⟩ := hr <;> first | (rw [hrb] at hq; exact hq) | (exfalso; omega)) | (rw [hrb, if_pos (by omega)] at hq; exact hq) | (rw [hrb, if_neg (by omega), ← hm] at hq; rw [hme]; exact hq)) | trace_state
              ·first
               |(exfalso; (try simp only [bs] at h13) <;> (first | omega | contradiction); done)
               |skip
                try simp only [bs] at h13
                obtain ⟨hr1, _⟩ | ⟨hlt, hr0, hre, hrb⟩ := hr
                · omega
                refine XW_skip ?_
                refine then_norm ?_
                refine XW_seq ?_
                refine XW_sr ?_
                have hw := u64_add1 hre
                refine OW_fa rfl rfl rfl ?_
                refine OW_loadR hSB1 (k := 0) rfl rfl rfl rfl rfl (by first | exact part_whole rfl rfl rfl | rfl) ?_
                refine OW_mv rfl rfl ?_
                refine EN100_CF7 rfl ?_
                refine OW_iaO hSB1 (k := 1) rfl rfl rfl rfl rfl rfl rfl rfl (by first | rfl | exact (Int.toNat_of_nonneg (by omega)).symm) (by first | assumption | exact at_map (by first | assumption | omega) | exact at_lst (by omega) | rfl) fun q1 ys1 hO1 hq1 ht1 hy1 hu1 => ?_
                subst hO1
                refine OW_fa rfl rfl rfl ?_
                refine OW_loadP rfl rfl hq1 hy1 rfl (by first | exact part_whole rfl rfl rfl | rfl) ?_
                refine EN100_CF7 rfl ?_
                first
                | refine OW_bin rfl rfl rfl rfl (add_wu64 (by first | omega | assumption | (simp only [ss]; omega))) ?_
                | refine OW_bin rfl rfl rfl rfl rfl ?_
                generalize IntKind.u64.wrap (c.ps[at0.toNat].ep + 1) = w1 at hw ⊢
                refine OW_bin rfl rfl rfl rfl rfl ?_
                refine EZ100_CF7 rfl ?_
                refine XW_if rfl (fun h15 => ?_) (fun h15 => ?_)
                ·first
                 |(exfalso; (try simp only [bs] at h15) <;> (first | omega | contradiction); done)
                 |skip
                  try simp only [bs] at h15
                  refine XW_sr ?_
                  refine OW_loadR hSB1 (k := 0) rfl rfl rfl rfl rfl (by first | exact part_whole rfl rfl rfl | rfl) ?_
                  first
                  | refine OW_storeR hSB1 (k := 3) rfl (le_lit (ν := ν) (a := [13, 0, 1]) (b := [1, 0, 1, 0, 1, 1, 1, 1, 1, 1, 1]) (by decide)) rfl rfl rfl rfl ⟨rfl, rfl, Nat.le_of_ble_eq_true rfl⟩ (set_whole rfl rfl) fun H17 hS17 => ?_
                  | refine OW_storeR hSB1 (k := 3) rfl (le_lit (ν := ν) (a := [13, 0, 1]) (b := [1, 0, 1, 0, 1, 1, 1, 1, 1, 1, 1]) (by decide)) rfl rfl rfl rfl ⟨rfl, rfl, Nat.le_of_ble_eq_true rfl⟩ (u2 := .agg [_, _, _]) rfl fun H17 hS17 => ?_
                  replace hS17 : Own _ _ _ ([_, _, _, _, _]) := hS17
                  refine OW_as rfl rfl ?_
                  refine EN100_CF7 rfl ?_
                  refine OW_as rfl rfl ?_
                  refine EZ100_CF7 rfl ?_
                  refine XW_ret ?_
                  refine then_ret ?_
                  -- outcome 8
                  have fz1 := hS17.frz (k := 1) (n := 5) rfl (by first | exact map_plain (fun _ => rfl) | (intro x hx; simp at hx; done))
                  have fz2 := hS17.frz (k := 2) (n := 5) rfl (by first | exact map_plain (fun _ => rfl) | (intro x hx; simp at hx; done))
                  refine ret_ret (res3 rfl (rv_cellR hS17 (k := 3) rfl rfl rfl rfl (by first | exact part_whole rfl rfl rfl | rfl)) (rv_tmp rfl) (rv_tmp rfl)) (frz3 (Q := Q) (by first | exact freeze_plain rfl | exact Ls.freeze (by assumption) | exact Ls.freeze Ls.of | exact Ls.freeze Ls.emp | exact Ls.freeze Ls.nls | exact frA (frAc (by first | exact freeze_plain rfl | assumption | exact Ls.freeze Ls.of | exact Ls.freeze Ls.emp | exact Ls.freeze Ls.nls | exact Ls.freeze (by assumption)) (frAc (by first | exact freeze_plain rfl | assumption | exact Ls.freeze Ls.of | exact Ls.freeze Ls.emp | exact Ls.freeze Ls.nls | exact Ls.freeze (by assumption)) (frAc (by first | exact freeze_plain rfl | assumption | exact Ls.freeze Ls.of | exact Ls.freeze Ls.emp | exact Ls.freeze Ls.nls | exact Ls.freeze (by assumption)) frAn)))) (by first | exact freeze_plain rfl | exact Ls.freeze (by assumption) | exact Ls.freeze Ls.of | exact Ls.freeze Ls.emp | exact Ls.freeze Ls.nls) (by first | exact freeze_plain rfl | exact Ls.freeze (by assumption) | exact Ls.freeze Ls.of | exact Ls.freeze Ls.emp | exact Ls.freeze Ls.nls) ?_)
                  first | (obtain rfl : d = 1 := (by omega); rw [runS_1 (by omega), Int.toNat_natCast] at hq; exact hq) | (obtain rfl : d = 0 := (by omega); rw [runS_0 (by omega), tenS, if_neg (by simp [h8])] at hq; exact hq) | (obtain rfl : d = 0 := (by omega); rw [runS_0 (by omega), tenS, if_pos (by simp [h8])] at hq; exact hq) | (obtain rfl : d = 2 := (by omega); rw [runS_2 (by omega)] at hq; first | (obtain ⟨_, hrb⟩ | ⟨hlt, hr0, hre, hrb⟩ := hr <;> first | (rw [hrb] at hq; exact hq) | (exfalso; omega)) | (rw [hrb, if_pos (by omega)] at hq; exact hq) | (rw [hrb, if_neg (by omega), ← hm] at hq; rw [hme]; exact hq)) | trace_state
                ·first
                 |(exfalso; (try simp only [bs] at h15) <;> (first | omega | contradiction); done)
                 |skip
                  try simp only [bs] at h15
                  refine XW_skip ?_
                  refine then_norm ?_
                  refine XW_sr ?_
                  refine OW_fa rfl rfl rfl ?_
                  refine OW_loadR hSB1 (k := 0) rfl rfl rfl rfl rfl (by first | exact part_whole rfl rfl rfl | rfl) ?_
                  refine OW_mv rfl rfl ?_
                  refine EN100_CF7 rfl ?_
                  refine OW_iaO hSB1 (k := 1) rfl rfl rfl rfl rfl rfl rfl rfl (by first | rfl | exact (Int.toNat_of_nonneg (by omega)).symm) (by first | assumption | exact at_map (by first | assumption | omega) | exact at_lst (by omega) | rfl) fun q2 ys2 hO2 hq2 ht2 hy2 hu2 => ?_
                  obtain rfl : q1 = q2 := (AVal.slc.inj hO2).1
                  refine OW_fa rfl rfl rfl ?_
                  refine OW_loadP rfl rfl hq2 hy2 rfl (by first | exact part_whole rfl rfl rfl | rfl) ?_
                  refine EN100_CF7 rfl ?_
                  first
                  | refine OW_bin rfl rfl rfl rfl (add_wu64 (by first | omega | assumption | (simp only [ss]; omega))) ?_
                  | refine OW_bin rfl rfl rfl rfl rfl ?_
                  refine OW_iaO hSB1 (k := 1) rfl rfl rfl rfl rfl rfl rfl rfl (by first | rfl | exact (Int.toNat_of_nonneg (by omega)).symm) (by first | assumption | exact at_map (by first | assumption | omega) | exact at_lst (by omega) | rfl) fun q3 ys3 hO3 hq3 ht3 hy3 hu3 => ?_
                  obtain rfl : q1 = q3 := (AVal.slc.inj hO3).1
                  refine OW_fa rfl rfl rfl ?_
                  refine EN100_CF7 rfl ?_
                  refine OW_storeO hSB1 (k := 1) rfl (le_lit (ν := ν) (a := [13, 0, 1]) (b := [9, 0, 1, 1, 1, 1, 1, 1, 1, 1]) (by decide)) rfl rfl rfl rfl hu3 ⟨rfl, rfl, Nat.le_of_ble_eq_true rfl⟩ (u2 := .agg [_, _, _, _, _]) rfl fun H18 hS18 => ?_
                  replace hS18 : Own _ _ _ ([_, _, _, _, _]) := hS18
                  refine EZ100_CF7 rfl ?_
                  obtain ⟨m, hm⟩ : ∃ m, m = c.ps.set at0.toNat c.ps[at0.toNat].up := ⟨_, rfl⟩
                  replace hS18 := hS18.reS (k := 1) rfl (show _ = m.map Pl.enc by rw [hm, List.map_set]; rfl)
                  have hml : m.length = c.ps.length := by rw [hm, List.length_set]
                  have hll : (List.map Pl.enc c.ps).length = (List.map Pl.enc m).length := by rw [List.length_map, List.length_map, hml]
                  rw [hll] at hS18 ⊢
                  have hme : (m[at0.toNat]'(by omega)).ep = c.ps[at0.toNat].ep + 1 := by simp [hm, Pl.up]
                  refine XW_srF (qs := [11 :: 0 :: 1 :: ν, q1]) rfl (aside_of rfl (deep_no rfl (deep_yes rfl rfl (by obtain ⟨f, ⟨_, h⟩, _⟩ := hS18.get (k := 0) rfl; exact h) rfl rfl deep_nil))) ?_
                  have hSF2 : Own _ _ _ ([_, _, _, _, _]) := (Own.hide (Own.hideS (Own.hide0 hS18) (k := 1) rfl) (k := 0) rfl)
                  refine OWF_fl rfl ?_
                  refine OW_loadK hS18 (k := 0) rfl (by simp) rfl rfl rfl rfl (by first | exact part_whole rfl rfl rfl | rfl) ?_
                  refine OW_nil ?_
                  refine OWF_op rfl ?_
                  refine OW_fa rfl rfl rfl ?_
                  refine OW_nil ?_
                  refine OWF_fl rfl ?_
                  refine OW_loadK hS18 (k := 0) rfl (by simp) rfl rfl rfl rfl (by first | exact part_whole rfl rfl rfl | rfl) ?_
                  refine OW_nil ?_
                  refine FN100_CF7 rfl ?_
                  refine OWF_op rfl ?_
                  refine OW_mv rfl rfl ?_
                  refine OW_nil ?_
                  refine OWF_op rfl ?_
                  refine OW_iaS rfl rfl rfl rfl rfl rfl rfl (by first | rfl | exact (Int.toNat_of_nonneg (by omega)).symm) (by first | omega | (simp only [List.length_map]; omega)) ?_
                  refine OW_nil ?_
                  refine OWF_op rfl ?_
                  refine OW_fa rfl rfl rfl ?_
                  refine OW_nil ?_
                  refine FN100_CF7 rfl ?_
                  refine OWF_fl rfl ?_
                  refine OW_loadKS hS18 (k := 1) rfl (by simp) rfl rfl rfl (by first | assumption | exact at_map (by first | assumption | omega) | exact at_lst (by omega) | rfl) (by first | exact part_whole rfl rfl rfl | rfl) ?_
                  refine OW_nil ?_
                  refine OWF_op rfl ?_
                  first
                  | refine OW_storeR hSF2 (k := 3) rfl (le_lit (ν := ν) (a := [10, 0, 1, 1, 1, 1, 1, 1, 1, 1]) (b := [7, 0, 1, 1, 1, 1, 1, 1, 1, 1, 1]) (by decide)) rfl rfl rfl rfl ⟨rfl, rfl, Nat.le_of_ble_eq_true rfl⟩ (set_whole rfl rfl) fun H19 hS19 => ?_
                  | refine OW_storeR hSF2 (k := 3) rfl (le_lit (ν := ν) (a := [10, 0, 1, 1, 1, 1, 1, 1, 1, 1]) (b := [7, 0, 1, 1, 1, 1, 1, 1, 1, 1, 1]) (by decide)) rfl rfl rfl rfl ⟨rfl, rfl, Nat.le_of_ble_eq_true rfl⟩ (u2 := .agg [_, _, _]) rfl fun H19 hS19 => ?_
                  replace hS19 : Own _ _ _ ([_, _, _, _, _]) := hS19
                  refine OW_nil ?_
                  refine OWF_op rfl ?_
                  refine OW_as rfl rfl ?_
                  refine OW_nil ?_
                  refine FN100_CF7 rfl ?_
                  refine OWF_op rfl ?_
                  refine OW_as rfl rfl ?_
                  refine OW_nil ?_
                  refine OWF_nilE (e' := [_,_,_,_,_,_,_,_,_,_,_,_,_,_,_,_,_,_,_,_,_,_,_,_,_,_,_,_,_,_,_,_,_,_,_,_,_,_,_,_,_,_,_,_,_,_,_,_,_,_,_,_,_,_,_,_,_,_,_,_,_,_,_,_,_,_,_,_,_,_,_,_,_,_,_,_,_,_,_,_,_,_,_,_,_,_,_,_,_,_,_,_,_,_,_,_,_,_,_,_]) rfl ?_
                  have hSB2 : Own _ _ _ ([_, _, _, _, _]) := (Own.back hS18 (k := 0) rfl (Own.backS hS18 (k := 1) rfl (Own.back0 hS19) (k' := 1) rfl) (k' := 0) rfl)
                  refine XW_ret ?_
                  -- outcome 9
                  have fz1 := hSB2.frz (k := 1) (n := 5) rfl (by first | exact map_plain (fun _ => rfl) | (intro x hx; simp at hx; done))
                  have fz2 := hSB2.frz (k := 2) (n := 5) rfl (by first | exact map_plain (fun _ => rfl) | (intro x hx; simp at hx; done))
                  refine ret_ret (res3 rfl (rv_cellR hSB2 (k := 3) rfl rfl rfl rfl (by first | exact part_whole rfl rfl rfl | rfl)) (rv_tmp rfl) (rv_tmp rfl)) (frz3 (Q := Q) (by first | exact freeze_plain rfl | exact Ls.freeze (by assumption) | exact Ls.freeze Ls.of | exact Ls.freeze Ls.emp | exact Ls.freeze Ls.nls | exact frA (frAc (by first | exact freeze_plain rfl | assumption | exact Ls.freeze Ls.of | exact Ls.freeze Ls.emp | exact Ls.freeze Ls.nls | exact Ls.freeze (by assumption)) (frAc (by first | exact freeze_plain rfl | assumption | exact Ls.freeze Ls.of | exact Ls.freeze Ls.emp | exact Ls.freeze Ls.nls | exact Ls.freeze (by assumption)) (frAc (by first | exact freeze_plain rfl | assumption | exact Ls.freeze Ls.of | exact Ls.freeze Ls.emp | exact Ls.freeze Ls.nls | exact Ls.freeze (by assumption)) frAn)))) (by first | exact freeze_plain rfl | exact Ls.freeze (by assumption) | exact Ls.freeze Ls.of | exact Ls.freeze Ls.emp | exact Ls.freeze Ls.nls) (by first | exact freeze_plain rfl | exact Ls.freeze (by assumption) | exact Ls.freeze Ls.of | exact Ls.freeze Ls.emp | exact Ls.freeze Ls.nls) ?_)
                  first | (obtain rfl : d = 1 := (by omega); rw [runS_1 (by omega), Int.toNat_natCast] at hq; exact hq) | (obtain rfl : d = 0 := (by omega); rw [runS_0 (by omega), tenS, if_neg (by simp [h8])] at hq; exact hq) | (obtain rfl : d = 0 := (by omega); rw [runS_0 (by omega), tenS, if_pos (by simp [h8])] at hq; exact hq) | (obtain rfl : d = 2 := (by omega); rw [runS_2 (by omega)] at hq; first | (obtain ⟨_, hrb⟩ | ⟨hlt, hr0, hre, hrb⟩ := hr <;> first | (rw [hrb] at hq; exact hq) | (exfalso; omega)) | (rw [hrb, if_pos (by omega)] at hq; exact hq) | (rw [hrb, if_neg (by omega), ← hm] at hq; rw [hme]; exact hq)) | trace_state
theorem r_run {U V : AVal} (hU : Ls U (c.qs.map Qu.enc)) (hV : Ls V (c.ps.map Pl.enc)) {d a b : Int} (hf : c.fit) (hb : 0 ≤ b) (hq : Q (.tup [(runS c gs d a b).1.enc, .int .i64 (runS c gs d a b).2.2, .int .u64 (runS c gs d a b).2.1]) H) : CW cfg ν 11 [.agg [U, V, .int .u64 c.nx], .int .i64 gs, .int .i64 d, .int .u64 a, .int .u64 b] H Q := by
  by_cases h : gs < 1 ∨ 4 < gs ∨ d < 0 ∨ 2 < d
  · rw [runS_bad h] at hq; exact r_run_bad hU hV hf h hq
  · obtain ⟨n, rfl⟩ := Int.eq_ofNat_of_zero_le (show 0 ≤ gs by omega)
    exact r_run_go hU hV hf hb (by omega) (by omega) hq
end Go.Proofs.Ytealccnfnpkngaa.X
