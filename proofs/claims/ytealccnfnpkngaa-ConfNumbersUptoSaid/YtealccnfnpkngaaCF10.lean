/- Layer 14: ConfBalanced. -/
import Derived.Test.YtealccnfnpkngaaCF9
set_option linter.unusedVariables false
set_option linter.unusedSimpArgs false
set_option maxRecDepth 100000
set_option maxHeartbeats 2000000
namespace Go.Proofs.Ytealccnfnpkngaa.X
open Go Go.RowKit WM
theorem EN151_CF10 {c : Cfg} {ν : Nm} {e : Env} {H : Heap} {all : Array Oper} {r : List Oper} {i : Nat} {Q : Env → Heap → Prop} {x0 x1 x2 x3 x4 x5 x6 x7 x8 x9 x10 x11 x12 x13 x14 x15 x16 x17 x18 x19 x20 x21 x22 x23 x24 x25 x26 x27 x28 x29 x30 x31 x32 x33 x34 x35 x36 x37 x38 x39 x40 x41 x42 x43 x44 x45 x46 x47 x48 x49 x50 x51 x52 x53 x54 x55 x56 x57 x58 x59 x60 x61 x62 x63 x64 x65 x66 x67 x68 x69 x70 x71 x72 x73 x74 x75 x76 x77 x78 x79 x80 x81 x82 x83 x84 x85 x86 x87 x88 x89 x90 x91 x92 x93 x94 x95 x96 x97 x98 x99 x100 x101 x102 x103 x104 x105 x106 x107 x108 x109 x110 x111 x112 x113 x114 x115 x116 x117 x118 x119 x120 x121 x122 x123 x124 x125 x126 x127 x128 x129 x130 x131 x132 x133 x134 x135 x136 x137 x138 x139 x140 x141 x142 x143 x144 x145 x146 x147 x148 x149 x150 : AVal} (he : e = [x0,x1,x2,x3,x4,x5,x6,x7,x8,x9,x10,x11,x12,x13,x14,x15,x16,x17,x18,x19,x20,x21,x22,x23,x24,x25,x26,x27,x28,x29,x30,x31,x32,x33,x34,x35,x36,x37,x38,x39,x40,x41,x42,x43,x44,x45,x46,x47,x48,x49,x50,x51,x52,x53,x54,x55,x56,x57,x58,x59,x60,x61,x62,x63,x64,x65,x66,x67,x68,x69,x70,x71,x72,x73,x74,x75,x76,x77,x78,x79,x80,x81,x82,x83,x84,x85,x86,x87,x88,x89,x90,x91,x92,x93,x94,x95,x96,x97,x98,x99,x100,x101,x102,x103,x104,x105,x106,x107,x108,x109,x110,x111,x112,x113,x114,x115,x116,x117,x118,x119,x120,x121,x122,x123,x124,x125,x126,x127,x128,x129,x130,x131,x132,x133,x134,x135,x136,x137,x138,x139,x140,x141,x142,x143,x144,x145,x146,x147,x148,x149,x150]) (h : OW c ν all r i [x0,x1,x2,x3,x4,x5,x6,x7,x8,x9,x10,x11,x12,x13,x14,x15,x16,x17,x18,x19,x20,x21,x22,x23,x24,x25,x26,x27,x28,x29,x30,x31,x32,x33,x34,x35,x36,x37,x38,x39,x40,x41,x42,x43,x44,x45,x46,x47,x48,x49,x50,x51,x52,x53,x54,x55,x56,x57,x58,x59,x60,x61,x62,x63,x64,x65,x66,x67,x68,x69,x70,x71,x72,x73,x74,x75,x76,x77,x78,x79,x80,x81,x82,x83,x84,x85,x86,x87,x88,x89,x90,x91,x92,x93,x94,x95,x96,x97,x98,x99,x100,x101,x102,x103,x104,x105,x106,x107,x108,x109,x110,x111,x112,x113,x114,x115,x116,x117,x118,x119,x120,x121,x122,x123,x124,x125,x126,x127,x128,x129,x130,x131,x132,x133,x134,x135,x136,x137,x138,x139,x140,x141,x142,x143,x144,x145,x146,x147,x148,x149,x150] H Q) : OW c ν all r i e H Q := by subst he; exact h
theorem EZ151_CF10 {c : Cfg} {ν : Nm} {e : Env} {H : Heap} {all : Array Oper} {i : Nat} {Q : Env → Heap → Prop} {x0 x1 x2 x3 x4 x5 x6 x7 x8 x9 x10 x11 x12 x13 x14 x15 x16 x17 x18 x19 x20 x21 x22 x23 x24 x25 x26 x27 x28 x29 x30 x31 x32 x33 x34 x35 x36 x37 x38 x39 x40 x41 x42 x43 x44 x45 x46 x47 x48 x49 x50 x51 x52 x53 x54 x55 x56 x57 x58 x59 x60 x61 x62 x63 x64 x65 x66 x67 x68 x69 x70 x71 x72 x73 x74 x75 x76 x77 x78 x79 x80 x81 x82 x83 x84 x85 x86 x87 x88 x89 x90 x91 x92 x93 x94 x95 x96 x97 x98 x99 x100 x101 x102 x103 x104 x105 x106 x107 x108 x109 x110 x111 x112 x113 x114 x115 x116 x117 x118 x119 x120 x121 x122 x123 x124 x125 x126 x127 x128 x129 x130 x131 x132 x133 x134 x135 x136 x137 x138 x139 x140 x141 x142 x143 x144 x145 x146 x147 x148 x149 x150 : AVal} (he : e = [x0,x1,x2,x3,x4,x5,x6,x7,x8,x9,x10,x11,x12,x13,x14,x15,x16,x17,x18,x19,x20,x21,x22,x23,x24,x25,x26,x27,x28,x29,x30,x31,x32,x33,x34,x35,x36,x37,x38,x39,x40,x41,x42,x43,x44,x45,x46,x47,x48,x49,x50,x51,x52,x53,x54,x55,x56,x57,x58,x59,x60,x61,x62,x63,x64,x65,x66,x67,x68,x69,x70,x71,x72,x73,x74,x75,x76,x77,x78,x79,x80,x81,x82,x83,x84,x85,x86,x87,x88,x89,x90,x91,x92,x93,x94,x95,x96,x97,x98,x99,x100,x101,x102,x103,x104,x105,x106,x107,x108,x109,x110,x111,x112,x113,x114,x115,x116,x117,x118,x119,x120,x121,x122,x123,x124,x125,x126,x127,x128,x129,x130,x131,x132,x133,x134,x135,x136,x137,x138,x139,x140,x141,x142,x143,x144,x145,x146,x147,x148,x149,x150]) (h : Q [x0,x1,x2,x3,x4,x5,x6,x7,x8,x9,x10,x11,x12,x13,x14,x15,x16,x17,x18,x19,x20,x21,x22,x23,x24,x25,x26,x27,x28,x29,x30,x31,x32,x33,x34,x35,x36,x37,x38,x39,x40,x41,x42,x43,x44,x45,x46,x47,x48,x49,x50,x51,x52,x53,x54,x55,x56,x57,x58,x59,x60,x61,x62,x63,x64,x65,x66,x67,x68,x69,x70,x71,x72,x73,x74,x75,x76,x77,x78,x79,x80,x81,x82,x83,x84,x85,x86,x87,x88,x89,x90,x91,x92,x93,x94,x95,x96,x97,x98,x99,x100,x101,x102,x103,x104,x105,x106,x107,x108,x109,x110,x111,x112,x113,x114,x115,x116,x117,x118,x119,x120,x121,x122,x123,x124,x125,x126,x127,x128,x129,x130,x131,x132,x133,x134,x135,x136,x137,x138,x139,x140,x141,x142,x143,x144,x145,x146,x147,x148,x149,x150] H) : OW c ν all [] i e H Q := by subst he; exact OW_nil h
variable {ν β ps pos' : Nm} {H : Heap} {Q : AVal → Heap → Prop} {L : List Asr} {k : Nat} {q : Nm}
theorem neUF {T : TT} {t : TypeId} {kk : IntKind} {a b : Int} (h : a = b) : aBin T .neq t (.int kk a) (.int kk b) = some (.bool false) := ne_no h
theorem lawBalanced {gs : Int} {l : List Dc} (hl : l.length ≤ 1048577) (hF : ∀ x ∈ l, x.fit) (hq : Q (.bool true) H) : CW cfg [] 4 [.int .i64 gs, .lst (l.map Dc.enc)] H Q := by
  refine CW_pure g4 F4 rfl ?_
  have hS0 : Own [] [] (fun _ => none) [] := Own.nil
  refine XW_sr ?_
  refine OW_as rfl rfl ?_
  refine EZ151_CF10 rfl ?_
  refine XW_seq ?_
  refine XW_sr ?_
  refine OW_fn rfl rfl (fixedW (by kernel_rfl) ?_) 
  refine OW_un rfl rfl rfl ?_
  refine OW_mv rfl rfl ?_
  refine EN151_CF10 rfl ?_
  refine OW_mv rfl rfl ?_
  refine OW_bin rfl rfl rfl rfl rfl ?_
  refine OW_pick rfl rfl rfl ?_
  refine EN151_CF10 rfl ?_
  refine OW_mv rfl rfl ?_
  refine OW_split (tt := 21) rfl (fun g1_7 => ?_) (fun g1_7 => ?_)
  ·first
   |(exfalso; (try simp only [bs] at g1_7) <;> (first | (exact absurd rfl g1_7) | (exact g1_7 trivial) | omega | (simp at g1_7; done)); done)
   |skip
    try simp only [bs] at g1_7
    refine OW_no rfl ?_
    refine EN151_CF10 rfl ?_
    refine OW_no rfl ?_
    refine OW_pick rfl rfl rfl ?_
    refine EZ151_CF10 rfl ?_
    refine XW_yes rfl rfl ?_
    refine XW_sr ?_
    refine OW_fn rfl rfl (fixedW (by kernel_rfl) ?_) 
    refine OW_as rfl rfl ?_
    refine EZ151_CF10 rfl ?_
    refine XW_ret ?_
    refine then_ret ?_
    -- outcome 1
    refine ret_ret (res1 rfl (rv_tmp rfl)) (frz1 (Q := Q) (by first | exact freeze_plain rfl | exact Ls.freeze (by assumption) | exact Ls.freeze Ls.of | exact Ls.freeze Ls.emp | exact Ls.freeze Ls.nls) ?_)
    first
    | exact hq
    | (refine qcast hq ?_; rfl)
    | (refine qcast hq ?_; simp; done)
    | (refine qcast hq ?_; simp; omega)
    | (refine qcast hq ?_; simp_all; done)
  ·first
   |(exfalso; (try simp only [bs] at g1_7) <;> (first | (exact absurd rfl g1_7) | (exact g1_7 trivial) | omega | (simp at g1_7; done)); done)
   |skip
    try simp only [bs] at g1_7
    refine OW_mv rfl rfl ?_
    refine EN151_CF10 rfl ?_
    refine OW_bin rfl rfl rfl rfl rfl ?_
    refine OW_pick rfl rfl rfl ?_
    refine EZ151_CF10 rfl ?_
    refine XW_if rfl (fun h1 => ?_) (fun h1 => ?_)
    ·first
     |(exfalso; (try simp only [bs] at h1) <;> (first | (exact absurd rfl h1) | (exact h1 trivial) | omega | (simp at h1; done)); done)
     |skip
      try simp only [bs] at h1
      refine XW_sr ?_
      refine OW_fn rfl rfl (fixedW (by kernel_rfl) ?_) 
      refine OW_as rfl rfl ?_
      refine EZ151_CF10 rfl ?_
      refine XW_ret ?_
      refine then_ret ?_
      -- outcome 2
      refine ret_ret (res1 rfl (rv_tmp rfl)) (frz1 (Q := Q) (by first | exact freeze_plain rfl | exact Ls.freeze (by assumption) | exact Ls.freeze Ls.of | exact Ls.freeze Ls.emp | exact Ls.freeze Ls.nls) ?_)
      first
      | exact hq
      | (refine qcast hq ?_; rfl)
      | (refine qcast hq ?_; simp; done)
      | (refine qcast hq ?_; simp; omega)
      | (refine qcast hq ?_; simp_all; done)
    ·first
     |(exfalso; (try simp only [bs] at h1) <;> (first | (exact absurd rfl h1) | (exact h1 trivial) | omega | (simp at h1; done)); done)
     |skip
      try simp only [bs] at h1
      refine XW_skip ?_
      refine then_norm ?_
      refine XW_sr ?_
      obtain ⟨m, rfl⟩ := Int.eq_ofNat_of_zero_le (show 0 ≤ gs by omega)
      refine OW_bd rfl rfl (v := .agg [_, _, _]) rfl ?_
      refine OW_allocR hS0 (le_app (p := []) (b := [1, 0, 1, 1])) under_nil rfl rfl rfl rfl fun H1 hS1 => ?_
      replace hS1 : Own _ _ _ ([_]) := hS1
      first
      | refine OW_storeR hS1 (k := 0) rfl le_refl rfl rfl rfl rfl ⟨rfl, rfl, Nat.le_of_ble_eq_true rfl⟩ (set_whole rfl rfl) fun H2 hS2 => ?_
      | refine OW_storeR hS1 (k := 0) rfl le_refl rfl rfl rfl rfl ⟨rfl, rfl, Nat.le_of_ble_eq_true rfl⟩ (u2 := .agg [_, _, _]) rfl fun H2 hS2 => ?_
      replace hS2 : Own _ _ _ ([_]) := hS2
      refine EZ151_CF10 rfl ?_
      refine XW_seq ?_
      refine XW_sr ?_
      refine OW_as rfl rfl ?_
      refine EZ151_CF10 rfl ?_
      refine XW_block ?_
      refine XW_whileN (I := fun ν' mm ee H' => ∃ (i : Nat) (c : Cf) (U : AVal) (V : AVal), mm = l.length - i ∧ under (1 :: 0 :: 1 :: 1 :: 1 :: []) ν' = true ∧ Own [] ν' H' ([row (1 :: 0 :: 1 :: 1 :: []) 3 [.agg [U, V, .int .u64 c.nx]]]) ∧ (i ≤ l.length ∧ i ≤ 100 ∧ OkC c m ∧ NumC c ∧ BalC c m ∧ Ls U (c.qs.map Qu.enc) ∧ Ls V (c.ps.map Pl.enc)) ∧ ∃ g : Nat → AVal, ee = [.int .i64 m, .lst (l.map Dc.enc), g 2, g 3, g 4, .ptr (1 :: 0 :: 1 :: 1 :: []) 0 0, .int .i64 i, g 7, g 8, g 9, g 10, g 11, g 12, g 13, g 14, g 15, g 16, g 17, g 18, g 19, g 20, g 21, g 22, g 23, g 24, g 25, g 26, g 27, g 28, g 29, g 30, g 31, g 32, g 33, g 34, g 35, g 36, g 37, g 38, g 39, g 40, g 41, g 42, g 43, g 44, g 45, g 46, g 47, g 48, g 49, g 50, g 51, g 52, g 53, g 54, g 55, g 56, g 57, g 58, g 59, g 60, g 61, g 62, g 63, g 64, g 65, g 66, g 67, g 68, g 69, g 70, g 71, g 72, g 73, g 74, g 75, g 76, g 77, g 78, g 79, g 80, g 81, g 82, g 83, g 84, g 85, g 86, g 87, g 88, g 89, g 90, g 91, g 92, g 93, g 94, g 95, g 96, g 97, g 98, g 99, g 100, g 101, g 102, g 103, g 104, g 105, g 106, g 107, g 108, g 109, g 110, g 111, g 112, g 113, g 114, g 115, g 116, g 117, g 118, g 119, g 120, g 121, g 122, g 123, g 124, g 125, g 126, g 127, g 128, g 129, g 130, g 131, g 132, g 133, g 134, g 135, g 136, g 137, g 138, g 139, g 140, g 141, g 142, g 143, g 144, g 145, g 146, g 147, g 148, g 149, g 150]) ?_ _ _ _ _ ⟨0, ⟨[], [], 0⟩, .emp, .emp, rfl, under_me, Own.cast (Own.mono (hS2) (le_lit (ν := []) (a := [3, 0, 1, 1]) (b := [1, 0, 1, 1, 1]) (by decide))) (rfl), (⟨by omega, by omega, ok_empty (by omega), num_empty, fun g h hg hh => by simp [ldG], Ls.emp, Ls.emp⟩), env_g rfl⟩
      rintro ν1 mm ee H3 ⟨i, c, U, V, rfl, hU1, hS3, ⟨hi, hi2, ho, hn, hB, hU, hV⟩, g1, rfl⟩
      refine XW_seq ?_
      refine XW_sr ?_
      refine OW_mv rfl rfl ?_
      refine OW_mv rfl rfl ?_
      first
      | refine OW_lenL rfl rfl (by first | assumption | exact Ls.of | exact Ls.emp | exact Ls.nls) rfl rfl rfl (by first | exact List.length_map _ | rfl) ?_
      | refine OW_bi rfl rfl rfl ?_
      refine EN151_CF10 rfl ?_
      refine OW_bin rfl rfl rfl rfl rfl ?_
      refine OW_mv rfl rfl ?_
      refine OW_split (tt := 31) rfl (fun g5_5 => ?_) (fun g5_5 => ?_)
      ·first
       |(exfalso; (try simp only [bs] at g5_5) <;> (first | (exact absurd rfl g5_5) | (exact g5_5 trivial) | omega | (simp at g5_5; done)); done)
       |skip
        try simp only [bs] at g5_5
        refine EN151_CF10 rfl ?_
        refine OW_mv rfl rfl ?_
        refine OW_bin rfl rfl rfl rfl rfl ?_
        refine OW_pick rfl rfl rfl ?_
        refine EZ151_CF10 rfl ?_
        refine XW_if rfl (fun h5 => ?_) (fun h5 => ?_)
        ·first
         |(exfalso; (try simp only [bs] at h5) <;> (first | (exact absurd rfl h5) | (exact h5 trivial) | omega | (simp at h5; done)); done)
         |skip
          try simp only [bs] at h5
          refine XW_skip ?_
          refine then_norm ?_
          refine XW_seq ?_
          refine XW_block ?_
          refine XW_sr ?_
          have hx := hF l[i] (List.getElem_mem (by omega))
          obtain ⟨c', n, e, hr, hr2, hr3, hr4, hr5⟩ := step_all ho hn hx
          obtain ⟨hk1, hk2⟩ := step_keep hr2 ho
          replace hk1 : c.ps.length ≤ c'.ps.length := hk1
          have hB' : BalC c' m := step_bal hr2 (by omega) hB
          have hcl := ho.l; have hcl' := hr3.l
          refine OW_loadR hS3 (k := 0) rfl rfl rfl rfl rfl (by first | exact part_whole rfl rfl rfl | rfl) ?_
          refine OW_mv rfl rfl ?_
          refine OW_mv rfl rfl ?_
          refine EN151_CF10 rfl ?_
          refine OW_mv rfl rfl ?_
          first
          | refine OW_iaL rfl rfl rfl Ls.of rfl rfl rfl (by first | rfl | exact (Int.toNat_of_nonneg (by omega)).symm) (by first | assumption | exact at_map (by first | assumption | omega) | exact at_lst (by omega) | rfl) rfl ?_
          | refine OW_iaL rfl rfl rfl (by assumption) rfl rfl rfl (by first | rfl | exact (Int.toNat_of_nonneg (by omega)).symm) (by first | assumption | exact at_map (by first | assumption | omega) | exact at_lst (by omega) | rfl) rfl ?_
          refine OW_fa rfl rfl rfl ?_
          refine EN151_CF10 rfl ?_
          refine OW_loadE rfl rfl rfl (by first | exact part_whole rfl rfl rfl | rfl) ?_
          refine OW_mv rfl rfl ?_
          refine OW_mv rfl rfl ?_
          refine EN151_CF10 rfl ?_
          first
          | refine OW_iaL rfl rfl rfl Ls.of rfl rfl rfl (by first | rfl | exact (Int.toNat_of_nonneg (by omega)).symm) (by first | assumption | exact at_map (by first | assumption | omega) | exact at_lst (by omega) | rfl) rfl ?_
          | refine OW_iaL rfl rfl rfl (by assumption) rfl rfl rfl (by first | rfl | exact (Int.toNat_of_nonneg (by omega)).symm) (by first | assumption | exact at_map (by first | assumption | omega) | exact at_lst (by omega) | rfl) rfl ?_
          refine OW_fa rfl rfl rfl ?_
          refine OW_loadE rfl rfl rfl (by first | exact part_whole rfl rfl rfl | rfl) ?_
          refine EN151_CF10 rfl ?_
          refine OW_mv rfl rfl ?_
          refine OW_mv rfl rfl ?_
          first
          | refine OW_iaL rfl rfl rfl Ls.of rfl rfl rfl (by first | rfl | exact (Int.toNat_of_nonneg (by omega)).symm) (by first | assumption | exact at_map (by first | assumption | omega) | exact at_lst (by omega) | rfl) rfl ?_
          | refine OW_iaL rfl rfl rfl (by assumption) rfl rfl rfl (by first | rfl | exact (Int.toNat_of_nonneg (by omega)).symm) (by first | assumption | exact at_map (by first | assumption | omega) | exact at_lst (by omega) | rfl) rfl ?_
          refine EN151_CF10 rfl ?_
          refine OW_fa rfl rfl rfl ?_
          refine OW_loadE rfl rfl rfl (by first | exact part_whole rfl rfl rfl | rfl) ?_
          refine OW_fn rfl rfl (p_runE (by assumption) (by assumption) (ho.fit hn) hx.b.1 hr ?_) 
          refine EN151_CF10 rfl ?_
          refine OW_mv rfl rfl ?_
          refine OW_ex rfl rfl rfl ?_
          refine OW_ex rfl rfl rfl ?_
          refine EN151_CF10 rfl ?_
          refine OW_ex rfl rfl rfl ?_
          refine OW_allocR hS3 (le_app (p := ν1) (b := [22, 0, 0, 1, 0])) under_nil rfl rfl rfl rfl fun H4 hS4 => ?_
          replace hS4 : Own _ _ _ ([_, _]) := hS4
          first
          | refine OW_storeR hS4 (k := 0) rfl le_refl rfl rfl rfl rfl ⟨rfl, rfl, Nat.le_of_ble_eq_true rfl⟩ (set_whole rfl rfl) fun H5 hS5 => ?_
          | refine OW_storeR hS4 (k := 0) rfl le_refl rfl rfl rfl rfl ⟨rfl, rfl, Nat.le_of_ble_eq_true rfl⟩ (u2 := .agg [_, _, _]) rfl fun H5 hS5 => ?_
          replace hS5 : Own _ _ _ ([_, _]) := hS5
          refine EN151_CF10 rfl ?_
          refine OW_as rfl rfl ?_
          refine OW_as rfl rfl ?_
          refine EZ151_CF10 rfl ?_
          refine XW_seq ?_
          refine XW_sr ?_
          refine OW_fa rfl rfl rfl ?_
          refine OW_loadR hS5 (k := 0) rfl rfl rfl rfl rfl (by first | exact part_whole rfl rfl rfl | rfl) ?_
          first
          | refine OW_lenL rfl rfl (by first | assumption | exact Ls.of | exact Ls.emp | exact Ls.nls) rfl rfl rfl (by first | exact List.length_map _ | rfl) ?_
          | refine OW_bi rfl rfl rfl ?_
          refine EN151_CF10 rfl ?_
          refine OW_fa rfl rfl rfl ?_
          refine OW_loadR hS5 (k := 1) rfl rfl rfl rfl rfl (by first | exact part_whole rfl rfl rfl | rfl) ?_
          first
          | refine OW_lenL rfl rfl (by first | assumption | exact Ls.of | exact Ls.emp | exact Ls.nls) rfl rfl rfl (by first | exact List.length_map _ | rfl) ?_
          | refine OW_bi rfl rfl rfl ?_
          refine EN151_CF10 rfl ?_
          refine OW_bin rfl rfl rfl rfl rfl ?_
          refine EZ151_CF10 rfl ?_
          refine XW_if rfl (fun h8 => ?_) (fun h8 => ?_)
          · exfalso; (try simp only [bs] at h8) <;> (omega)
          ·first
           |(exfalso; (try simp only [bs] at h8) <;> (first | (exact absurd rfl h8) | (exact h8 trivial) | omega | (simp at h8; done)); done)
           |skip
            try simp only [bs] at h8
            refine XW_skip ?_
            refine then_norm ?_
            refine XW_seq ?_
            refine XW_sr ?_
            refine OW_as rfl rfl ?_
            refine EZ151_CF10 rfl ?_
            refine XW_block ?_
            refine XW_whileN (I := fun ν' mm ee H' => ∃ (k : Nat), mm = c.ps.length - k ∧ under (1 :: 0 :: 1 :: 1 :: 0 :: 1 :: 0 :: ν1) ν' = true ∧ Own [] ν' H' ([row (22 :: 0 :: 0 :: 1 :: 0 :: ν1) 3 [.agg [.lst (c'.qs.map Qu.enc), .lst (c'.ps.map Pl.enc), .int .u64 c'.nx]], row (1 :: 0 :: 1 :: 1 :: []) 3 [.agg [U, V, .int .u64 c.nx]]]) ∧ (k ≤ c.ps.length) ∧ ∃ g : Nat → AVal, ee = [.int .i64 m, .lst (l.map Dc.enc), g 2, g 3, g 4, .ptr (1 :: 0 :: 1 :: 1 :: []) 0 0, .int .i64 i, .ptr (22 :: 0 :: 0 :: 1 :: 0 :: ν1) 0 0, .int .i64 e, .int .u64 n, .int .i64 k, g 11, g 12, g 13, g 14, g 15, g 16, g 17, g 18, g 19, g 20, g 21, g 22, g 23, g 24, g 25, g 26, g 27, g 28, g 29, g 30, g 31, g 32, g 33, g 34, g 35, g 36, g 37, g 38, g 39, g 40, g 41, g 42, g 43, g 44, g 45, g 46, g 47, g 48, g 49, g 50, g 51, g 52, g 53, g 54, g 55, g 56, g 57, g 58, g 59, g 60, g 61, g 62, g 63, g 64, g 65, g 66, g 67, g 68, g 69, g 70, g 71, g 72, g 73, g 74, g 75, g 76, g 77, g 78, g 79, g 80, g 81, g 82, g 83, g 84, g 85, g 86, g 87, g 88, g 89, g 90, g 91, g 92, g 93, g 94, g 95, g 96, g 97, g 98, g 99, g 100, g 101, g 102, g 103, g 104, g 105, g 106, g 107, g 108, g 109, g 110, g 111, g 112, g 113, g 114, g 115, g 116, g 117, g 118, g 119, g 120, g 121, g 122, g 123, g 124, g 125, g 126, g 127, g 128, g 129, g 130, g 131, g 132, g 133, g 134, g 135, g 136, g 137, g 138, g 139, g 140, g 141, g 142, g 143, g 144, g 145, g 146, g 147, g 148, g 149, g 150]) ?_ _ _ _ _ ⟨0, rfl, under_me, Own.cast (Own.mono (hS5) (le_lit (ν := ν1) (a := [24, 0, 0, 1, 0]) (b := [1, 0, 1, 1, 0, 1, 0]) (by decide))) (rfl), (by omega), env_g rfl⟩
            rintro ν2 mm ee H6 ⟨k, rfl, hU2, hS6, hk, g2, rfl⟩
            refine XW_seq ?_
            refine XW_sr ?_
            refine OW_mv rfl rfl ?_
            refine OW_fa rfl rfl rfl ?_
            refine OW_loadR hS6 (k := 1) rfl rfl rfl rfl rfl (by first | exact part_whole rfl rfl rfl | rfl) ?_
            refine EN151_CF10 rfl ?_
            first
            | refine OW_lenL rfl rfl (by first | assumption | exact Ls.of | exact Ls.emp | exact Ls.nls) rfl rfl rfl (by first | exact List.length_map _ | rfl) ?_
            | refine OW_bi rfl rfl rfl ?_
            refine OW_bin rfl rfl rfl rfl rfl ?_
            refine EZ151_CF10 rfl ?_
            refine XW_if rfl (fun h11 => ?_) (fun h11 => ?_)
            ·first
             |(exfalso; (try simp only [bs] at h11) <;> (first | (exact absurd rfl h11) | (exact h11 trivial) | omega | (simp at h11; done)); done)
             |skip
              try simp only [bs] at h11
              refine XW_skip ?_
              refine then_norm ?_
              refine XW_seq ?_
              refine XW_block ?_
              obtain ⟨e1, e2, e3, e4, e5, e6⟩ := hk2 k (by omega) (by show k < c'.ps.length; omega)
              refine XW_srF (qs := [22 :: 0 :: 0 :: 1 :: 0 :: ν1]) rfl rfl ?_
              have hSF1 : Own _ _ _ ([_, _]) := (Own.hide (Own.hide0 hS6) (k := 0) rfl)
              refine OWF_op rfl ?_
              refine OW_fa rfl rfl rfl ?_
              refine OW_nil ?_
              refine OWF_op rfl ?_
              refine OW_loadR hSF1 (k := 1) rfl rfl rfl rfl rfl (by first | exact part_whole rfl rfl rfl | rfl) ?_
              refine OW_nil ?_
              refine OWF_op rfl ?_
              refine OW_mv rfl rfl ?_
              refine OW_nil ?_
              refine OWF_env (e' := [_,_,_,_,_,_,_,_,_,_,_,_,_,_,_,_,_,_,_,_,_,_,_,_,_,_,_,_,_,_,_,_,_,_,_,_,_,_,_,_,_,_,_,_,_,_,_,_,_,_,_,_,_,_,_,_,_,_,_,_,_,_,_,_,_,_,_,_,_,_,_,_,_,_,_,_,_,_,_,_,_,_,_,_,_,_,_,_,_,_,_,_,_,_,_,_,_,_,_,_,_,_,_,_,_,_,_,_,_,_,_,_,_,_,_,_,_,_,_,_,_,_,_,_,_,_,_,_,_,_,_,_,_,_,_,_,_,_,_,_,_,_,_,_,_,_,_,_,_,_,_]) rfl ?_
              refine OWF_op rfl ?_
              first
              | refine OW_iaL rfl rfl rfl Ls.of rfl rfl rfl (by first | rfl | exact (Int.toNat_of_nonneg (by omega)).symm) (by first | assumption | exact at_map (by first | assumption | omega) | exact at_lst (by omega) | rfl) rfl ?_
              | refine OW_iaL rfl rfl rfl (by assumption) rfl rfl rfl (by first | rfl | exact (Int.toNat_of_nonneg (by omega)).symm) (by first | assumption | exact at_map (by first | assumption | omega) | exact at_lst (by omega) | rfl) rfl ?_
              refine OW_nil ?_
              refine OWF_op rfl ?_
              refine OW_loadE rfl rfl rfl (by first | exact part_whole rfl rfl rfl | rfl) ?_
              refine OW_nil ?_
              refine OWF_op rfl ?_
              refine OW_fa rfl rfl rfl ?_
              refine OW_nil ?_
              refine OWF_env (e' := [_,_,_,_,_,_,_,_,_,_,_,_,_,_,_,_,_,_,_,_,_,_,_,_,_,_,_,_,_,_,_,_,_,_,_,_,_,_,_,_,_,_,_,_,_,_,_,_,_,_,_,_,_,_,_,_,_,_,_,_,_,_,_,_,_,_,_,_,_,_,_,_,_,_,_,_,_,_,_,_,_,_,_,_,_,_,_,_,_,_,_,_,_,_,_,_,_,_,_,_,_,_,_,_,_,_,_,_,_,_,_,_,_,_,_,_,_,_,_,_,_,_,_,_,_,_,_,_,_,_,_,_,_,_,_,_,_,_,_,_,_,_,_,_,_,_,_,_,_,_,_]) rfl ?_
              refine OWF_fl rfl ?_
              refine OW_loadK hS6 (k := 0) rfl (by simp) rfl rfl rfl rfl (by first | exact part_whole rfl rfl rfl | rfl) ?_
              refine OW_nil ?_
              refine OWF_op rfl ?_
              refine OW_mv rfl rfl ?_
              refine OW_nil ?_
              refine OWF_op rfl ?_
              first
              | refine OW_iaL rfl rfl rfl Ls.of rfl rfl rfl (by first | rfl | exact (Int.toNat_of_nonneg (by omega)).symm) (by first | assumption | exact at_map (by first | assumption | omega) | exact at_lst (by omega) | rfl) rfl ?_
              | refine OW_iaL rfl rfl rfl (by assumption) rfl rfl rfl (by first | rfl | exact (Int.toNat_of_nonneg (by omega)).symm) (by first | assumption | exact at_map (by first | assumption | omega) | exact at_lst (by omega) | rfl) rfl ?_
              refine OW_nil ?_
              refine OWF_env (e' := [_,_,_,_,_,_,_,_,_,_,_,_,_,_,_,_,_,_,_,_,_,_,_,_,_,_,_,_,_,_,_,_,_,_,_,_,_,_,_,_,_,_,_,_,_,_,_,_,_,_,_,_,_,_,_,_,_,_,_,_,_,_,_,_,_,_,_,_,_,_,_,_,_,_,_,_,_,_,_,_,_,_,_,_,_,_,_,_,_,_,_,_,_,_,_,_,_,_,_,_,_,_,_,_,_,_,_,_,_,_,_,_,_,_,_,_,_,_,_,_,_,_,_,_,_,_,_,_,_,_,_,_,_,_,_,_,_,_,_,_,_,_,_,_,_,_,_,_,_,_,_]) rfl ?_
              refine OWF_fl rfl ?_
              refine OW_loadE rfl rfl rfl (by first | exact part_whole rfl rfl rfl | rfl) ?_
              refine OW_nil ?_
              refine OWF_op rfl ?_
              refine OW_allocR hSF1 (le_app (p := ν2) (b := [10, 0, 0, 1, 0])) under_nil rfl rfl rfl rfl fun H7 hS7 => ?_
              replace hS7 : Own _ _ _ ([_, _, _]) := hS7
              refine OW_nil ?_
              refine OWF_op rfl ?_
              refine OW_allocR hS7 le_refl under_nil rfl rfl rfl rfl fun H8 hS8 => ?_
              replace hS8 : Own _ _ _ ([_, _, _, _]) := hS8
              refine OW_nil ?_
              refine OWF_env (e' := [_,_,_,_,_,_,_,_,_,_,_,_,_,_,_,_,_,_,_,_,_,_,_,_,_,_,_,_,_,_,_,_,_,_,_,_,_,_,_,_,_,_,_,_,_,_,_,_,_,_,_,_,_,_,_,_,_,_,_,_,_,_,_,_,_,_,_,_,_,_,_,_,_,_,_,_,_,_,_,_,_,_,_,_,_,_,_,_,_,_,_,_,_,_,_,_,_,_,_,_,_,_,_,_,_,_,_,_,_,_,_,_,_,_,_,_,_,_,_,_,_,_,_,_,_,_,_,_,_,_,_,_,_,_,_,_,_,_,_,_,_,_,_,_,_,_,_,_,_,_,_]) rfl ?_
              refine OWF_op rfl ?_
              first
              | refine OW_storeR hS8 (k := 1) rfl le_refl rfl rfl rfl rfl ⟨rfl, rfl, Nat.le_of_ble_eq_true rfl⟩ (set_whole rfl rfl) fun H9 hS9 => ?_
              | refine OW_storeR hS8 (k := 1) rfl le_refl rfl rfl rfl rfl ⟨rfl, rfl, Nat.le_of_ble_eq_true rfl⟩ (u2 := .agg [_, _, _, _, _]) rfl fun H9 hS9 => ?_
              replace hS9 : Own _ _ _ ([_, _, _, _]) := hS9
              refine OW_nil ?_
              refine OWF_op rfl ?_
              first
              | refine OW_storeR hS9 (k := 0) rfl le_refl rfl rfl rfl rfl ⟨rfl, rfl, Nat.le_of_ble_eq_true rfl⟩ (set_whole rfl rfl) fun H10 hS10 => ?_
              | refine OW_storeR hS9 (k := 0) rfl le_refl rfl rfl rfl rfl ⟨rfl, rfl, Nat.le_of_ble_eq_true rfl⟩ (u2 := .agg [_, _, _, _, _]) rfl fun H10 hS10 => ?_
              replace hS10 : Own _ _ _ ([_, _, _, _]) := hS10
              refine OW_nil ?_
              refine OWF_nilE (e' := [_,_,_,_,_,_,_,_,_,_,_,_,_,_,_,_,_,_,_,_,_,_,_,_,_,_,_,_,_,_,_,_,_,_,_,_,_,_,_,_,_,_,_,_,_,_,_,_,_,_,_,_,_,_,_,_,_,_,_,_,_,_,_,_,_,_,_,_,_,_,_,_,_,_,_,_,_,_,_,_,_,_,_,_,_,_,_,_,_,_,_,_,_,_,_,_,_,_,_,_,_,_,_,_,_,_,_,_,_,_,_,_,_,_,_,_,_,_,_,_,_,_,_,_,_,_,_,_,_,_,_,_,_,_,_,_,_,_,_,_,_,_,_,_,_,_,_,_,_,_,_]) rfl ?_
              have hSB1 : Own _ _ _ ([_, _, _, _]) := (Own.back hS6 (k := 0) rfl (Own.back0 hS10) (k' := 2) rfl)
              refine XW_seq ?_
              refine XW_sr ?_
              refine OW_fa rfl rfl rfl ?_
              refine OW_loadR hSB1 (k := 1) rfl rfl rfl rfl rfl (by first | exact part_whole rfl rfl rfl | rfl) ?_
              refine OW_fa rfl rfl rfl ?_
              refine EN151_CF10 rfl ?_
              refine OW_loadR hSB1 (k := 0) rfl rfl rfl rfl rfl (by first | exact part_whole rfl rfl rfl | rfl) ?_
              refine OW_bin rfl rfl rfl rfl (neUF e1.symm) ?_
              refine OW_mv rfl rfl ?_
              refine EN151_CF10 rfl ?_
              refine OW_fa rfl rfl rfl ?_
              refine OW_loadR hSB1 (k := 1) rfl rfl rfl rfl rfl (by first | exact part_whole rfl rfl rfl | rfl) ?_
              refine OW_fa rfl rfl rfl ?_
              refine EN151_CF10 rfl ?_
              refine OW_loadR hSB1 (k := 0) rfl rfl rfl rfl rfl (by first | exact part_whole rfl rfl rfl | rfl) ?_
              refine OW_bin rfl rfl rfl rfl (neUF e2.symm) ?_
              refine OW_pick rfl rfl rfl ?_
              refine EN151_CF10 rfl ?_
              refine OW_mv rfl rfl ?_
              refine OW_fa rfl rfl rfl ?_
              refine OW_loadR hSB1 (k := 1) rfl rfl rfl rfl rfl (by first | exact part_whole rfl rfl rfl | rfl) ?_
              refine EN151_CF10 rfl ?_
              refine OW_fa rfl rfl rfl ?_
              refine OW_loadR hSB1 (k := 0) rfl rfl rfl rfl rfl (by first | exact part_whole rfl rfl rfl | rfl) ?_
              refine OW_bin rfl rfl rfl rfl (neUF e3.symm) ?_
              refine EN151_CF10 rfl ?_
              refine OW_pick rfl rfl rfl ?_
              refine OW_mv rfl rfl ?_
              refine OW_fa rfl rfl rfl ?_
              refine EN151_CF10 rfl ?_
              refine OW_loadR hSB1 (k := 1) rfl rfl rfl rfl rfl (by first | exact part_whole rfl rfl rfl | rfl) ?_
              refine OW_fa rfl rfl rfl ?_
              refine OW_loadR hSB1 (k := 0) rfl rfl rfl rfl rfl (by first | exact part_whole rfl rfl rfl | rfl) ?_
              refine EN151_CF10 rfl ?_
              refine OW_bin rfl rfl rfl rfl (neUF e4.symm) ?_
              refine OW_pick rfl rfl rfl ?_
              refine OW_mv rfl rfl ?_
              refine EN151_CF10 rfl ?_
              refine OW_fa rfl rfl rfl ?_
              refine OW_loadR hSB1 (k := 0) rfl rfl rfl rfl rfl (by first | exact part_whole rfl rfl rfl | rfl) ?_
              refine OW_fa rfl rfl rfl ?_
              refine EN151_CF10 rfl ?_
              refine OW_loadR hSB1 (k := 1) rfl rfl rfl rfl rfl (by first | exact part_whole rfl rfl rfl | rfl) ?_
              refine OW_bin rfl rfl rfl rfl (lss_no e5) ?_
              refine OW_pick rfl rfl rfl ?_
              refine EZ151_CF10 rfl ?_
              refine XW_no rfl rfl ?_
              refine XW_skip ?_
              refine then_norm ?_
              refine XW_sr ?_
              refine OW_mv rfl rfl ?_
              refine OW_mv rfl rfl ?_
              first
              | refine OW_iaL rfl rfl rfl Ls.of rfl rfl rfl (by first | rfl | exact (Int.toNat_of_nonneg (by omega)).symm) (by first | assumption | exact at_map (by first | assumption | omega) | exact at_lst (by omega) | rfl) rfl ?_
              | refine OW_iaL rfl rfl rfl (by assumption) rfl rfl rfl (by first | rfl | exact (Int.toNat_of_nonneg (by omega)).symm) (by first | assumption | exact at_map (by first | assumption | omega) | exact at_lst (by omega) | rfl) rfl ?_
              refine EN151_CF10 rfl ?_
              refine OW_fa rfl rfl rfl ?_
              refine OW_loadE rfl rfl rfl (by first | exact part_whole rfl rfl rfl | rfl) ?_
              refine OW_bin rfl rfl rfl rfl rfl ?_
              refine EN151_CF10 rfl ?_
              refine OW_mv rfl rfl ?_
              refine OW_split (tt := 122) rfl (fun g16_7 => ?_) (fun g16_7 => ?_)
              ·first
               |(exfalso; (try simp only [bs] at g16_7) <;> (first | (exact absurd rfl g16_7) | (exact g16_7 trivial) | omega | (simp at g16_7; done)); done)
               |skip
                try simp only [bs] at g16_7
                refine OW_mv rfl rfl ?_
                refine EN151_CF10 rfl ?_
                refine OW_bin rfl rfl rfl rfl rfl ?_
                refine OW_pick rfl rfl rfl ?_
                refine OW_mv rfl rfl ?_
                refine EN151_CF10 rfl ?_
                refine OW_split (tt := 126) rfl (fun g16_11 => ?_) (fun g16_11 => ?_)
                ·first
                 |(exfalso; (try simp only [bs] at g16_11) <;> (first | (exact absurd rfl g16_11) | (exact g16_11 trivial) | omega | (simp at g16_11; done)); done)
                 |skip
                  try simp only [bs] at g16_11
                  refine OW_fa rfl rfl rfl ?_
                  refine OW_loadR hSB1 (k := 1) rfl rfl rfl rfl rfl (by first | exact part_whole rfl rfl rfl | rfl) ?_
                  refine EN151_CF10 rfl ?_
                  refine OW_mv rfl rfl ?_
                  refine OW_bin rfl rfl rfl rfl (eq_no (e6 (by assumption) (by assumption))) ?_
                  refine OW_pick rfl rfl rfl ?_
                  refine EZ151_CF10 rfl ?_
                  refine XW_no rfl rfl ?_
                  refine XW_skip ?_
                  refine block_norm ?_
                  refine then_norm ?_
                  refine XW_region ?_
                  refine OW_mv rfl rfl ?_
                  first
                  | refine OW_bin rfl rfl rfl rfl (add_w64 (by first | omega | assumption | (simp only [ss]; omega))) ?_
                  | refine OW_bin rfl rfl rfl rfl rfl ?_
                  refine OW_as rfl rfl ?_
                  refine EZ151_CF10 rfl ?_
                  have hSd1 : Own _ _ _ ([_, _]) := (Own.drop (Own.drop hSB1 (k := 0) rfl) (k := 0) rfl)
                  -- round 2.1
                  refine ⟨_, ?_, k + 1, rfl, under_in hU2, Own.cast (Own.mono (hSd1) (le_lit (ν := ν2) (a := [14, 0, 0, 1, 0]) (b := [1]) (by decide))) (rfl), ?_, env_g rfl⟩
                  · first | omega | (simp; omega)
                  · omega
                ·first
                 |(exfalso; (try simp only [bs] at g16_11) <;> (first | (exact absurd rfl g16_11) | (exact g16_11 trivial) | omega | (simp at g16_11; done)); done)
                 |skip
                  try simp only [bs] at g16_11
                  refine OW_no rfl ?_
                  refine OW_no rfl ?_
                  refine EN151_CF10 rfl ?_
                  refine OW_no rfl ?_
                  refine OW_no rfl ?_
                  refine OW_pick rfl rfl rfl ?_
                  refine EZ151_CF10 rfl ?_
                  refine XW_no rfl rfl ?_
                  refine XW_skip ?_
                  refine block_norm ?_
                  refine then_norm ?_
                  refine XW_region ?_
                  refine OW_mv rfl rfl ?_
                  first
                  | refine OW_bin rfl rfl rfl rfl (add_w64 (by first | omega | assumption | (simp only [ss]; omega))) ?_
                  | refine OW_bin rfl rfl rfl rfl rfl ?_
                  refine OW_as rfl rfl ?_
                  refine EZ151_CF10 rfl ?_
                  have hSd2 : Own _ _ _ ([_, _]) := (Own.drop (Own.drop hSB1 (k := 0) rfl) (k := 0) rfl)
                  -- round 2.2
                  refine ⟨_, ?_, k + 1, rfl, under_in hU2, Own.cast (Own.mono (hSd2) (le_lit (ν := ν2) (a := [14, 0, 0, 1, 0]) (b := [1]) (by decide))) (rfl), ?_, env_g rfl⟩
                  · first | omega | (simp; omega)
                  · omega
              ·first
               |(exfalso; (try simp only [bs] at g16_7) <;> (first | (exact absurd rfl g16_7) | (exact g16_7 trivial) | omega | (simp at g16_7; done)); done)
               |skip
                try simp only [bs] at g16_7
                refine OW_no rfl ?_
                refine EN151_CF10 rfl ?_
                refine OW_no rfl ?_
                refine OW_pick rfl rfl rfl ?_
                refine OW_mv rfl rfl ?_
                refine EN151_CF10 rfl ?_
                refine OW_no rfl ?_
                refine OW_no rfl ?_
                refine OW_no rfl ?_
                refine EN151_CF10 rfl ?_
                refine OW_no rfl ?_
                refine OW_pick rfl rfl rfl ?_
                refine EZ151_CF10 rfl ?_
                refine XW_no rfl rfl ?_
                refine XW_skip ?_
                refine block_norm ?_
                refine then_norm ?_
                refine XW_region ?_
                refine OW_mv rfl rfl ?_
                first
                | refine OW_bin rfl rfl rfl rfl (add_w64 (by first | omega | assumption | (simp only [ss]; omega))) ?_
                | refine OW_bin rfl rfl rfl rfl rfl ?_
                refine OW_as rfl rfl ?_
                refine EZ151_CF10 rfl ?_
                have hSd3 : Own _ _ _ ([_, _]) := (Own.drop (Own.drop hSB1 (k := 0) rfl) (k := 0) rfl)
                -- round 2.3
                refine ⟨_, ?_, k + 1, rfl, under_in hU2, Own.cast (Own.mono (hSd3) (le_lit (ν := ν2) (a := [14, 0, 0, 1, 0]) (b := [1]) (by decide))) (rfl), ?_, env_g rfl⟩
                · first | omega | (simp; omega)
                · omega
            ·first
             |(exfalso; (try simp only [bs] at h11) <;> (first | (exact absurd rfl h11) | (exact h11 trivial) | omega | (simp at h11; done)); done)
             |skip
              try simp only [bs] at h11
              refine XW_exit ?_
              refine then_exit ?_
              refine block_exit ?_
              refine then_norm ?_
              refine XW_sr ?_
              refine OW_loadR hS6 (k := 0) rfl rfl rfl rfl rfl (by first | exact part_whole rfl rfl rfl | rfl) ?_
              first
              | refine OW_storeR hS6 (k := 1) rfl (le_bef (bef_under (a := []) hU2 (before_lit (ν := ν1) (a := [1, 0, 1, 1, 0, 1, 0]) (b := [1, 0, 1, 1, 1, 0, 1, 0]) (by decide)))) rfl rfl rfl rfl ⟨rfl, rfl, Nat.le_of_ble_eq_true rfl⟩ (set_whole rfl rfl) fun H11 hS11 => ?_
              | refine OW_storeR hS6 (k := 1) rfl (le_bef (bef_under (a := []) hU2 (before_lit (ν := ν1) (a := [1, 0, 1, 1, 0, 1, 0]) (b := [1, 0, 1, 1, 1, 0, 1, 0]) (by decide)))) rfl rfl rfl rfl ⟨rfl, rfl, Nat.le_of_ble_eq_true rfl⟩ (u2 := .agg [_, _, _]) rfl fun H11 hS11 => ?_
              replace hS11 : Own _ _ _ ([_, _]) := hS11
              refine EZ151_CF10 rfl ?_
              refine XW_sr ?_
              refine OW_as rfl rfl ?_
              refine EZ151_CF10 rfl ?_
              refine XW_block ?_
              refine XW_whileN (I := fun ν' mm ee H' => ∃ (ga : Nat), mm = m - ga ∧ under (1 :: 1 :: 1 :: 1 :: 1 :: 0 :: 1 :: 0 :: ν1) ν' = true ∧ Own [] ν' H' ([row (1 :: 0 :: 1 :: 1 :: []) 3 [.agg [.lst (c'.qs.map Qu.enc), .lst (c'.ps.map Pl.enc), .int .u64 c'.nx]]]) ∧ (ga ≤ m) ∧ ∃ g : Nat → AVal, ee = [.int .i64 m, .lst (l.map Dc.enc), g 2, g 3, g 4, .ptr (1 :: 0 :: 1 :: 1 :: []) 0 0, .int .i64 i, g 7, g 8, g 9, g 10, g 11, g 12, .int .i64 ga, g 14, g 15, g 16, g 17, g 18, g 19, g 20, g 21, g 22, g 23, g 24, g 25, g 26, g 27, g 28, g 29, g 30, g 31, g 32, g 33, g 34, g 35, g 36, g 37, g 38, g 39, g 40, g 41, g 42, g 43, g 44, g 45, g 46, g 47, g 48, g 49, g 50, g 51, g 52, g 53, g 54, g 55, g 56, g 57, g 58, g 59, g 60, g 61, g 62, g 63, g 64, g 65, g 66, g 67, g 68, g 69, g 70, g 71, g 72, g 73, g 74, g 75, g 76, g 77, g 78, g 79, g 80, g 81, g 82, g 83, g 84, g 85, g 86, g 87, g 88, g 89, g 90, g 91, g 92, g 93, g 94, g 95, g 96, g 97, g 98, g 99, g 100, g 101, g 102, g 103, g 104, g 105, g 106, g 107, g 108, g 109, g 110, g 111, g 112, g 113, g 114, g 115, g 116, g 117, g 118, g 119, g 120, g 121, g 122, g 123, g 124, g 125, g 126, g 127, g 128, g 129, g 130, g 131, g 132, g 133, g 134, g 135, g 136, g 137, g 138, g 139, g 140, g 141, g 142, g 143, g 144, g 145, g 146, g 147, g 148, g 149, g 150]) ?_ _ _ _ _ ⟨0, rfl, under_me, Own.cast (Own.mono (Own.drop0 hS11) (le_lit (ν := ν1) (a := [2, 0, 1, 1, 1, 0, 1, 0]) (b := [1, 1, 1, 1, 1, 0, 1, 0]) (by decide))) (rfl), (by omega), env_g rfl⟩
              rintro ν3 mm ee H12 ⟨ga, rfl, hU3, hS12, hg, g3, rfl⟩
              refine XW_seq ?_
              refine XW_sr ?_
              refine OW_mv rfl rfl ?_
              refine OW_mv rfl rfl ?_
              refine OW_bin rfl rfl rfl rfl rfl ?_
              refine EZ151_CF10 rfl ?_
              refine XW_if rfl (fun h20 => ?_) (fun h20 => ?_)
              ·first
               |(exfalso; (try simp only [bs] at h20) <;> (first | (exact absurd rfl h20) | (exact h20 trivial) | omega | (simp at h20; done)); done)
               |skip
                try simp only [bs] at h20
                refine XW_skip ?_
                refine then_norm ?_
                refine XW_seq ?_
                refine XW_block ?_
                refine XW_sr ?_
                refine OW_as rfl rfl ?_
                refine EZ151_CF10 rfl ?_
                refine XW_block ?_
                refine XW_whileN (I := fun ν' mm ee H' => ∃ (gb : Nat), mm = m - gb ∧ under (1 :: 0 :: 1 :: 0 :: ν3) ν' = true ∧ Own [] ν' H' ([row (1 :: 0 :: 1 :: 1 :: []) 3 [.agg [.lst (c'.qs.map Qu.enc), .lst (c'.ps.map Pl.enc), .int .u64 c'.nx]]]) ∧ (gb ≤ m) ∧ ∃ g : Nat → AVal, ee = [.int .i64 m, .lst (l.map Dc.enc), g 2, g 3, g 4, .ptr (1 :: 0 :: 1 :: 1 :: []) 0 0, .int .i64 i, g 7, g 8, g 9, g 10, g 11, g 12, .int .i64 ga, .int .i64 gb, g 15, g 16, g 17, g 18, g 19, g 20, g 21, g 22, g 23, g 24, g 25, g 26, g 27, g 28, g 29, g 30, g 31, g 32, g 33, g 34, g 35, g 36, g 37, g 38, g 39, g 40, g 41, g 42, g 43, g 44, g 45, g 46, g 47, g 48, g 49, g 50, g 51, g 52, g 53, g 54, g 55, g 56, g 57, g 58, g 59, g 60, g 61, g 62, g 63, g 64, g 65, g 66, g 67, g 68, g 69, g 70, g 71, g 72, g 73, g 74, g 75, g 76, g 77, g 78, g 79, g 80, g 81, g 82, g 83, g 84, g 85, g 86, g 87, g 88, g 89, g 90, g 91, g 92, g 93, g 94, g 95, g 96, g 97, g 98, g 99, g 100, g 101, g 102, g 103, g 104, g 105, g 106, g 107, g 108, g 109, g 110, g 111, g 112, g 113, g 114, g 115, g 116, g 117, g 118, g 119, g 120, g 121, g 122, g 123, g 124, g 125, g 126, g 127, g 128, g 129, g 130, g 131, g 132, g 133, g 134, g 135, g 136, g 137, g 138, g 139, g 140, g 141, g 142, g 143, g 144, g 145, g 146, g 147, g 148, g 149, g 150]) ?_ _ _ _ _ ⟨0, rfl, under_me, Own.cast (Own.mono (hS12) (le_app (p := ν3) (b := [1, 0, 1, 0]))) (rfl), (by omega), env_g rfl⟩
                rintro ν4 mm ee H13 ⟨gb, rfl, hU4, hS13, hh, g4, rfl⟩
                refine XW_seq ?_
                refine XW_sr ?_
                refine OW_mv rfl rfl ?_
                refine OW_mv rfl rfl ?_
                refine OW_bin rfl rfl rfl rfl rfl ?_
                refine EZ151_CF10 rfl ?_
                refine XW_if rfl (fun h23 => ?_) (fun h23 => ?_)
                ·first
                 |(exfalso; (try simp only [bs] at h23) <;> (first | (exact absurd rfl h23) | (exact h23 trivial) | omega | (simp at h23; done)); done)
                 |skip
                  try simp only [bs] at h23
                  refine XW_skip ?_
                  refine then_norm ?_
                  refine XW_seq ?_
                  refine XW_block ?_
                  refine XW_sr ?_
                  refine OW_loadR hS13 (k := 0) rfl rfl rfl rfl rfl (by first | exact part_whole rfl rfl rfl | rfl) ?_
                  refine OW_mv rfl rfl ?_
                  refine OW_fn rfl rfl (rf_load (c := c') rfl (by omega) (by omega) ?_) 
                  refine EN151_CF10 rfl ?_
                  refine OW_loadR hS13 (k := 0) rfl rfl rfl rfl rfl (by first | exact part_whole rfl rfl rfl | rfl) ?_
                  refine OW_mv rfl rfl ?_
                  refine OW_fn rfl rfl (rf_load (c := c') rfl (by omega) (by omega) ?_) 
                  refine EN151_CF10 rfl ?_
                  have hl1 := ldG_le c'.ps (ga : Int); have hl2 := ldG_le c'.ps (gb : Int)
                  first
                  | refine OW_bin rfl rfl rfl rfl (add_w64 (by first | omega | assumption | (simp only [ss]; omega))) ?_
                  | refine OW_bin rfl rfl rfl rfl rfl ?_
                  refine OW_bin rfl rfl rfl rfl rfl ?_
                  refine EZ151_CF10 rfl ?_
                  refine XW_if rfl (fun h25 => ?_) (fun h25 => ?_)
                  · exfalso; (try simp only [bs] at h25) <;> (have := hB' ga gb (by omega) (by omega); omega)
                  ·first
                   |(exfalso; (try simp only [bs] at h25) <;> (first | (exact absurd rfl h25) | (exact h25 trivial) | omega | (simp at h25; done)); done)
                   |skip
                    try simp only [bs] at h25
                    refine XW_skip ?_
                    refine block_norm ?_
                    refine then_norm ?_
                    refine XW_region ?_
                    refine OW_mv rfl rfl ?_
                    first
                    | refine OW_bin rfl rfl rfl rfl (add_w64 (by first | omega | assumption | (simp only [ss]; omega))) ?_
                    | refine OW_bin rfl rfl rfl rfl rfl ?_
                    refine OW_as rfl rfl ?_
                    refine EZ151_CF10 rfl ?_
                    -- round 6.1
                    refine ⟨_, ?_, gb + 1, rfl, under_in hU4, Own.cast (Own.mono (hS13) (le_app (p := ν4) (b := [1]))) (rfl), ?_, env_g rfl⟩
                    · first | omega | (simp; omega)
                    · omega
                ·first
                 |(exfalso; (try simp only [bs] at h23) <;> (first | (exact absurd rfl h23) | (exact h23 trivial) | omega | (simp at h23; done)); done)
                 |skip
                  try simp only [bs] at h23
                  refine XW_exit ?_
                  refine then_exit ?_
                  refine block_exit ?_
                  refine block_norm ?_
                  refine then_norm ?_
                  refine XW_region ?_
                  refine OW_mv rfl rfl ?_
                  first
                  | refine OW_bin rfl rfl rfl rfl (add_w64 (by first | omega | assumption | (simp only [ss]; omega))) ?_
                  | refine OW_bin rfl rfl rfl rfl rfl ?_
                  refine OW_as rfl rfl ?_
                  refine EZ151_CF10 rfl ?_
                  -- round 4.1
                  refine ⟨_, ?_, ga + 1, rfl, under_in hU3, Own.cast (Own.mono (hS13) (le_bef (bef_under (a := []) hU4 (before_lit (ν := ν3) (a := [1, 0, 1, 0]) (b := [1]) (by decide))))) (rfl), ?_, env_g rfl⟩
                  · first | omega | (simp; omega)
                  · omega
              ·first
               |(exfalso; (try simp only [bs] at h20) <;> (first | (exact absurd rfl h20) | (exact h20 trivial) | omega | (simp at h20; done)); done)
               |skip
                try simp only [bs] at h20
                refine XW_exit ?_
                refine then_exit ?_
                refine block_exit ?_
                refine block_norm ?_
                refine then_norm ?_
                refine XW_region ?_
                refine OW_mv rfl rfl ?_
                first
                | refine OW_bin rfl rfl rfl rfl (add_w64 (by first | omega | assumption | (simp only [ss]; omega))) ?_
                | refine OW_bin rfl rfl rfl rfl rfl ?_
                refine OW_as rfl rfl ?_
                refine EZ151_CF10 rfl ?_
                -- round 0.1
                refine ⟨_, ?_, i + 1, c', .lst (c'.qs.map Qu.enc), .lst (c'.ps.map Pl.enc), rfl, under_in hU1, Own.cast (Own.mono (hS12) (le_bef (bef_under (a := []) hU3 (before_lit (ν := ν1) (a := [1, 1, 1, 1, 1, 0, 1, 0]) (b := [1]) (by decide))))) (rfl), ?_, env_g rfl⟩
                · first | omega | (simp; omega)
                · exact ⟨by omega, by omega, hr3, hr4, hB', Ls.of, Ls.of⟩
        ·first
         |(exfalso; (try simp only [bs] at h5) <;> (first | (exact absurd rfl h5) | (exact h5 trivial) | omega | (simp at h5; done)); done)
         |skip
          try simp only [bs] at h5
          refine XW_exit ?_
          refine then_exit ?_
          refine block_exit ?_
          refine then_norm ?_
          refine XW_sr ?_
          refine OW_as rfl rfl ?_
          refine EZ151_CF10 rfl ?_
          refine XW_ret ?_
          -- outcome 3
          refine ret_ret (res1 rfl (rv_tmp rfl)) (frz1 (Q := Q) (by first | exact freeze_plain rfl | exact Ls.freeze (by assumption) | exact Ls.freeze Ls.of | exact Ls.freeze Ls.emp | exact Ls.freeze Ls.nls) ?_)
          first
          | exact hq
          | (refine qcast hq ?_; rfl)
          | (refine qcast hq ?_; simp; done)
          | (refine qcast hq ?_; simp; omega)
          | (refine qcast hq ?_; simp_all; done)
      ·first
       |(exfalso; (try simp only [bs] at g5_5) <;> (first | (exact absurd rfl g5_5) | (exact g5_5 trivial) | omega | (simp at g5_5; done)); done)
       |skip
        try simp only [bs] at g5_5
        refine EN151_CF10 rfl ?_
        refine OW_no rfl ?_
        refine OW_no rfl ?_
        refine OW_pick rfl rfl rfl ?_
        refine EZ151_CF10 rfl ?_
        refine XW_no rfl rfl ?_
        refine XW_exit ?_
        refine then_exit ?_
        refine block_exit ?_
        refine then_norm ?_
        refine XW_sr ?_
        refine OW_as rfl rfl ?_
        refine EZ151_CF10 rfl ?_
        refine XW_ret ?_
        -- outcome 4
        refine ret_ret (res1 rfl (rv_tmp rfl)) (frz1 (Q := Q) (by first | exact freeze_plain rfl | exact Ls.freeze (by assumption) | exact Ls.freeze Ls.of | exact Ls.freeze Ls.emp | exact Ls.freeze Ls.nls) ?_)
        first
        | exact hq
        | (refine qcast hq ?_; rfl)
        | (refine qcast hq ?_; simp; done)
        | (refine qcast hq ?_; simp; omega)
        | (refine qcast hq ?_; simp_all; done)
end Go.Proofs.Ytealccnfnpkngaa.X
