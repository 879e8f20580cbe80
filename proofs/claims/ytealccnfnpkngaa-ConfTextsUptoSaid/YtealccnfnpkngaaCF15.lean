/- Layer 14: ConfTexts. -/
import Derived.Test.YtealccnfnpkngaaCF14
import Derived.Test.YtealccnfnpkngaaCF0
import Derived.Test.YtealccnfnpkngaaI
set_option linter.unusedVariables false
set_option linter.unusedSimpArgs false
set_option maxRecDepth 100000
set_option maxHeartbeats 2000000
namespace Go.Proofs.Ytealccnfnpkngaa.X
open Go Go.RowKit WM
theorem EN139_CF15 {c : Cfg} {ν : Nm} {e : Env} {H : Heap} {all : Array Oper} {r : List Oper} {i : Nat} {Q : Env → Heap → Prop} {x0 x1 x2 x3 x4 x5 x6 x7 x8 x9 x10 x11 x12 x13 x14 x15 x16 x17 x18 x19 x20 x21 x22 x23 x24 x25 x26 x27 x28 x29 x30 x31 x32 x33 x34 x35 x36 x37 x38 x39 x40 x41 x42 x43 x44 x45 x46 x47 x48 x49 x50 x51 x52 x53 x54 x55 x56 x57 x58 x59 x60 x61 x62 x63 x64 x65 x66 x67 x68 x69 x70 x71 x72 x73 x74 x75 x76 x77 x78 x79 x80 x81 x82 x83 x84 x85 x86 x87 x88 x89 x90 x91 x92 x93 x94 x95 x96 x97 x98 x99 x100 x101 x102 x103 x104 x105 x106 x107 x108 x109 x110 x111 x112 x113 x114 x115 x116 x117 x118 x119 x120 x121 x122 x123 x124 x125 x126 x127 x128 x129 x130 x131 x132 x133 x134 x135 x136 x137 x138 : AVal} (he : e = [x0,x1,x2,x3,x4,x5,x6,x7,x8,x9,x10,x11,x12,x13,x14,x15,x16,x17,x18,x19,x20,x21,x22,x23,x24,x25,x26,x27,x28,x29,x30,x31,x32,x33,x34,x35,x36,x37,x38,x39,x40,x41,x42,x43,x44,x45,x46,x47,x48,x49,x50,x51,x52,x53,x54,x55,x56,x57,x58,x59,x60,x61,x62,x63,x64,x65,x66,x67,x68,x69,x70,x71,x72,x73,x74,x75,x76,x77,x78,x79,x80,x81,x82,x83,x84,x85,x86,x87,x88,x89,x90,x91,x92,x93,x94,x95,x96,x97,x98,x99,x100,x101,x102,x103,x104,x105,x106,x107,x108,x109,x110,x111,x112,x113,x114,x115,x116,x117,x118,x119,x120,x121,x122,x123,x124,x125,x126,x127,x128,x129,x130,x131,x132,x133,x134,x135,x136,x137,x138]) (h : OW c ν all r i [x0,x1,x2,x3,x4,x5,x6,x7,x8,x9,x10,x11,x12,x13,x14,x15,x16,x17,x18,x19,x20,x21,x22,x23,x24,x25,x26,x27,x28,x29,x30,x31,x32,x33,x34,x35,x36,x37,x38,x39,x40,x41,x42,x43,x44,x45,x46,x47,x48,x49,x50,x51,x52,x53,x54,x55,x56,x57,x58,x59,x60,x61,x62,x63,x64,x65,x66,x67,x68,x69,x70,x71,x72,x73,x74,x75,x76,x77,x78,x79,x80,x81,x82,x83,x84,x85,x86,x87,x88,x89,x90,x91,x92,x93,x94,x95,x96,x97,x98,x99,x100,x101,x102,x103,x104,x105,x106,x107,x108,x109,x110,x111,x112,x113,x114,x115,x116,x117,x118,x119,x120,x121,x122,x123,x124,x125,x126,x127,x128,x129,x130,x131,x132,x133,x134,x135,x136,x137,x138] H Q) : OW c ν all r i e H Q := by subst he; exact h
theorem EZ139_CF15 {c : Cfg} {ν : Nm} {e : Env} {H : Heap} {all : Array Oper} {i : Nat} {Q : Env → Heap → Prop} {x0 x1 x2 x3 x4 x5 x6 x7 x8 x9 x10 x11 x12 x13 x14 x15 x16 x17 x18 x19 x20 x21 x22 x23 x24 x25 x26 x27 x28 x29 x30 x31 x32 x33 x34 x35 x36 x37 x38 x39 x40 x41 x42 x43 x44 x45 x46 x47 x48 x49 x50 x51 x52 x53 x54 x55 x56 x57 x58 x59 x60 x61 x62 x63 x64 x65 x66 x67 x68 x69 x70 x71 x72 x73 x74 x75 x76 x77 x78 x79 x80 x81 x82 x83 x84 x85 x86 x87 x88 x89 x90 x91 x92 x93 x94 x95 x96 x97 x98 x99 x100 x101 x102 x103 x104 x105 x106 x107 x108 x109 x110 x111 x112 x113 x114 x115 x116 x117 x118 x119 x120 x121 x122 x123 x124 x125 x126 x127 x128 x129 x130 x131 x132 x133 x134 x135 x136 x137 x138 : AVal} (he : e = [x0,x1,x2,x3,x4,x5,x6,x7,x8,x9,x10,x11,x12,x13,x14,x15,x16,x17,x18,x19,x20,x21,x22,x23,x24,x25,x26,x27,x28,x29,x30,x31,x32,x33,x34,x35,x36,x37,x38,x39,x40,x41,x42,x43,x44,x45,x46,x47,x48,x49,x50,x51,x52,x53,x54,x55,x56,x57,x58,x59,x60,x61,x62,x63,x64,x65,x66,x67,x68,x69,x70,x71,x72,x73,x74,x75,x76,x77,x78,x79,x80,x81,x82,x83,x84,x85,x86,x87,x88,x89,x90,x91,x92,x93,x94,x95,x96,x97,x98,x99,x100,x101,x102,x103,x104,x105,x106,x107,x108,x109,x110,x111,x112,x113,x114,x115,x116,x117,x118,x119,x120,x121,x122,x123,x124,x125,x126,x127,x128,x129,x130,x131,x132,x133,x134,x135,x136,x137,x138]) (h : Q [x0,x1,x2,x3,x4,x5,x6,x7,x8,x9,x10,x11,x12,x13,x14,x15,x16,x17,x18,x19,x20,x21,x22,x23,x24,x25,x26,x27,x28,x29,x30,x31,x32,x33,x34,x35,x36,x37,x38,x39,x40,x41,x42,x43,x44,x45,x46,x47,x48,x49,x50,x51,x52,x53,x54,x55,x56,x57,x58,x59,x60,x61,x62,x63,x64,x65,x66,x67,x68,x69,x70,x71,x72,x73,x74,x75,x76,x77,x78,x79,x80,x81,x82,x83,x84,x85,x86,x87,x88,x89,x90,x91,x92,x93,x94,x95,x96,x97,x98,x99,x100,x101,x102,x103,x104,x105,x106,x107,x108,x109,x110,x111,x112,x113,x114,x115,x116,x117,x118,x119,x120,x121,x122,x123,x124,x125,x126,x127,x128,x129,x130,x131,x132,x133,x134,x135,x136,x137,x138] H) : OW c ν all [] i e H Q := by subst he; exact OW_nil h
variable {ν : Nm} {H : Heap} {Q : AVal → Heap → Prop} {c : Cf} {gs : Int}
structure Dc where
  d : Int
  a : Int
  b : Int
def Dc.enc (x : Dc) : AVal := .agg [.int .i64 x.d, .int .u64 x.a, .int .u64 x.b]
structure Dc.fit (x : Dc) : Prop where
  a : 0 ≤ x.a ∧ x.a ≤ 18446744073709551615
  b : 0 ≤ x.b ∧ x.b ≤ 18446744073709551615
theorem zC_fit : zC.fit := ⟨fun x hx => by simp [zC] at hx, fun x hx => by simp [zC] at hx, by decide, by decide, by decide⟩
theorem resC_fit {s : ByteArray} : (resC s gs).1.fit := by
  by_cases h : (resT (s.size : Int) s).2.2 = true ∧ (resP (resT (s.size : Int) s).1).2 = true ∧ (resU (resT (s.size : Int) s).2.1).2.2 = true ∧ (resU (resT (s.size : Int) s).2.1).1 ≤ 32
  · cases ho : cPl.manyT (resU (resT (s.size : Int) s).2.1).1.toNat (resU (resT (s.size : Int) s).2.1).2.1.data.toList with
    | none => rw [resC_if h ho]; exact zC_fit
    | some x =>
      obtain ⟨ps, r⟩ := x
      rw [resC_if h ho]
      simp only [finC]
      split
      · obtain ⟨⟨h1, h2⟩, _⟩ := (cPl.manyT_iff _ _ _ _).1 ho
        have h3 := resP_len (resT (s.size : Int) s).1
        have h4 := resU_i (resT (s.size : Int) s).2.1
        exact ⟨resP_fit _, h2, resU_i _, by show (resP _).1.length ≤ _; omega, by show ps.length ≤ _; omega⟩
      · exact zC_fit
  · rw [resC_no h]; exact zC_fit
theorem p_parseE {s : ByteArray} {r : Cf} {b : Bool} (hs : s.size ≤ 4611686018427387904) (he : resC s gs = (r, b)) (hq : Q (.tup [r.enc, .bool b]) H) : CW cfg ν 25 [.str s, .int .i64 gs] H Q := p_parseC hs (by rw [he]; exact hq)
theorem r_parseE {s : ByteArray} {r : Cf} {b : Bool} (hs : s.size ≤ 4611686018427387904) (he : resC s gs = (r, b)) (hq : Q (.tup [r.enc, .bool b]) H) : CW cfg ν 26 [.str s, .int .i64 gs] H Q := r_parseC hs (by rw [he]; exact hq)
theorem lawTexts {c : Cf} {x : Dc} {s : ByteArray} (hf : c.fit) (hx : x.fit) (hs : s.size ≤ 1048576) (hq : Q (.bool true) H) : CW cfg [] 7 [c.enc, x.enc, .str s] H Q := by
  obtain ⟨r, b, hr⟩ : ∃ r b, resC s x.d = (r, b) := ⟨_, _, rfl⟩
  have hrf : r.fit := by have := resC_fit (s := s) (gs := x.d); rw [hr] at this; exact this
  obtain ⟨r2, b2, hr2⟩ : ∃ r b, resC (textC c) x.d = (r, b) := ⟨_, _, rfl⟩
  have hb2 : b2 = chkC c x.d ∧ (b2 = true → r2 = c) := by
    rw [resC_text hf] at hr2
    by_cases h : chkC c x.d = true
    · rw [if_pos h] at hr2; obtain ⟨rfl, rfl⟩ := Prod.mk.inj hr2; exact ⟨h.symm, fun _ => rfl⟩
    · rw [if_neg h] at hr2; obtain ⟨rfl, rfl⟩ := Prod.mk.inj hr2; exact ⟨by simp at h; exact h.symm, fun h => by cases h⟩
  have hts : (textC c).size ≤ 4611686018427387904 := by
    have h1 := partC_size hf c.ps.length
    have h2 := encU_i hf.n
    unfold textC; rw [ByteArray.size_append]; omega
  have hr2f : r2.fit := by have := resC_fit (s := textC c) (gs := x.d); rw [hr2] at this; exact this
  refine CW_pure g7 F7 rfl ?_
  have hS0 : Own [] [] (fun _ => none) [] := Own.nil
  refine XW_sr ?_
  refine OW_boxR hS0 (le_app (p := []) (b := [0, 0])) under_nil rfl rfl rfl ⟨rfl, rfl⟩ fun H1 hS1 => ?_
  replace hS1 : Own _ _ _ ([_]) := hS1
  refine OW_boxR hS1 le_refl under_nil rfl rfl rfl ⟨rfl, rfl⟩ fun H2 hS2 => ?_
  replace hS2 : Own _ _ _ ([_, _]) := hS2
  refine OW_as rfl rfl ?_
  refine EZ139_CF15 rfl ?_
  refine XW_sr ?_
  refine OW_fa rfl rfl rfl ?_
  refine OW_loadR hS2 (k := 0) rfl rfl rfl rfl rfl (by first | exact part_whole rfl rfl rfl | rfl) ?_
  refine OW_as rfl rfl ?_
  refine EZ139_CF15 rfl ?_
  refine XW_sr ?_
  refine OW_mv rfl rfl ?_
  refine OW_fn rfl rfl (p_unpack (by omega) ?_) 
  refine OW_mv rfl rfl ?_
  refine EN139_CF15 rfl ?_
  refine OW_ex rfl rfl rfl ?_
  refine OW_ex rfl rfl rfl ?_
  refine OW_ex rfl rfl rfl ?_
  refine EN139_CF15 rfl ?_
  refine OW_ex rfl rfl rfl ?_
  refine OW_as rfl rfl ?_
  refine OW_as rfl rfl ?_
  refine EN139_CF15 rfl ?_
  refine OW_as rfl rfl ?_
  refine OW_as rfl rfl ?_
  refine EZ139_CF15 rfl ?_
  refine XW_sr ?_
  refine OW_mv rfl rfl ?_
  refine OW_fn rfl rfl (r_unpack (by omega) ?_) 
  refine OW_mv rfl rfl ?_
  refine EN139_CF15 rfl ?_
  refine OW_ex rfl rfl rfl ?_
  refine OW_ex rfl rfl rfl ?_
  refine OW_ex rfl rfl rfl ?_
  refine EN139_CF15 rfl ?_
  refine OW_ex rfl rfl rfl ?_
  refine OW_as rfl rfl ?_
  refine OW_as rfl rfl ?_
  refine EN139_CF15 rfl ?_
  refine OW_as rfl rfl ?_
  refine OW_as rfl rfl ?_
  refine EZ139_CF15 rfl ?_
  refine XW_sr ?_
  refine OW_mv rfl rfl ?_
  refine OW_mv rfl rfl ?_
  refine OW_fn rfl rfl (p_parseE (by omega) hr ?_) 
  refine EN139_CF15 rfl ?_
  refine OW_mv rfl rfl ?_
  refine OW_ex rfl rfl rfl ?_
  refine OW_ex rfl rfl rfl ?_
  refine EN139_CF15 rfl ?_
  refine OW_allocR hS2 (le_lit (ν := []) (a := [2, 0]) (b := [6, 0, 1, 1, 1, 1]) (by decide)) under_nil rfl rfl rfl rfl fun H3 hS3 => ?_
  replace hS3 : Own _ _ _ ([_, _, _]) := hS3
  first
  | refine OW_storeR hS3 (k := 0) rfl le_refl rfl rfl rfl rfl ⟨rfl, rfl, Nat.le_of_ble_eq_true rfl⟩ (set_whole rfl rfl) fun H4 hS4 => ?_
  | refine OW_storeR hS3 (k := 0) rfl le_refl rfl rfl rfl rfl ⟨rfl, rfl, Nat.le_of_ble_eq_true rfl⟩ (u2 := .agg [_, _, _]) rfl fun H4 hS4 => ?_
  replace hS4 : Own _ _ _ ([_, _, _]) := hS4
  refine OW_as rfl rfl ?_
  refine EZ139_CF15 rfl ?_
  refine XW_sr ?_
  refine OW_mv rfl rfl ?_
  refine OW_mv rfl rfl ?_
  refine OW_fn rfl rfl (r_parseE (by omega) hr ?_) 
  refine EN139_CF15 rfl ?_
  refine OW_mv rfl rfl ?_
  refine OW_ex rfl rfl rfl ?_
  refine OW_ex rfl rfl rfl ?_
  refine EN139_CF15 rfl ?_
  refine OW_allocR hS4 (le_lit (ν := []) (a := [8, 0, 1, 1, 1, 1]) (b := [6, 0, 1, 1, 1, 1, 1]) (by decide)) under_nil rfl rfl rfl rfl fun H5 hS5 => ?_
  replace hS5 : Own _ _ _ ([_, _, _, _]) := hS5
  first
  | refine OW_storeR hS5 (k := 0) rfl le_refl rfl rfl rfl rfl ⟨rfl, rfl, Nat.le_of_ble_eq_true rfl⟩ (set_whole rfl rfl) fun H6 hS6 => ?_
  | refine OW_storeR hS5 (k := 0) rfl le_refl rfl rfl rfl rfl ⟨rfl, rfl, Nat.le_of_ble_eq_true rfl⟩ (u2 := .agg [_, _, _]) rfl fun H6 hS6 => ?_
  replace hS6 : Own _ _ _ ([_, _, _, _]) := hS6
  refine OW_as rfl rfl ?_
  refine EZ139_CF15 rfl ?_
  refine XW_sr ?_
  refine OW_loadR hS6 (k := 3) rfl rfl rfl rfl rfl (by first | exact part_whole rfl rfl rfl | rfl) ?_
  refine OW_fn rfl rfl (p_textC hf ?_) 
  refine OW_mv rfl rfl ?_
  refine EN139_CF15 rfl ?_
  refine OW_fn rfl rfl (p_parseE hts hr2 ?_) 
  refine OW_mv rfl rfl ?_
  refine OW_ex rfl rfl rfl ?_
  refine EN139_CF15 rfl ?_
  refine OW_ex rfl rfl rfl ?_
  refine OW_allocR hS6 (le_lit (ν := []) (a := [8, 0, 1, 1, 1, 1, 1]) (b := [7, 0, 1, 1, 1, 1, 1, 1]) (by decide)) under_nil rfl rfl rfl rfl fun H7 hS7 => ?_
  replace hS7 : Own _ _ _ ([_, _, _, _, _]) := hS7
  first
  | refine OW_storeR hS7 (k := 0) rfl le_refl rfl rfl rfl rfl ⟨rfl, rfl, Nat.le_of_ble_eq_true rfl⟩ (set_whole rfl rfl) fun H8 hS8 => ?_
  | refine OW_storeR hS7 (k := 0) rfl le_refl rfl rfl rfl rfl ⟨rfl, rfl, Nat.le_of_ble_eq_true rfl⟩ (u2 := .agg [_, _, _]) rfl fun H8 hS8 => ?_
  replace hS8 : Own _ _ _ ([_, _, _, _, _]) := hS8
  refine EN139_CF15 rfl ?_
  refine OW_as rfl rfl ?_
  refine EZ139_CF15 rfl ?_
  refine XW_sr ?_
  refine OW_fa rfl rfl rfl ?_
  refine OW_loadR hS8 (k := 3) rfl rfl rfl rfl rfl (by first | exact part_whole rfl rfl rfl | rfl) ?_
  refine OW_fa rfl rfl rfl ?_
  refine EN139_CF15 rfl ?_
  refine OW_loadR hS8 (k := 3) rfl rfl rfl rfl rfl (by first | exact part_whole rfl rfl rfl | rfl) ?_
  refine OW_fa rfl rfl rfl ?_
  refine OW_loadR hS8 (k := 3) rfl rfl rfl rfl rfl (by first | exact part_whole rfl rfl rfl | rfl) ?_
  refine EN139_CF15 rfl ?_
  refine OW_fn rfl rfl (p_pack hx.a hx.b ?_) 
  refine OW_fa rfl rfl rfl ?_
  refine OW_loadR hS8 (k := 3) rfl rfl rfl rfl rfl (by first | exact part_whole rfl rfl rfl | rfl) ?_
  refine EN139_CF15 rfl ?_
  refine OW_fa rfl rfl rfl ?_
  refine OW_loadR hS8 (k := 3) rfl rfl rfl rfl rfl (by first | exact part_whole rfl rfl rfl | rfl) ?_
  refine OW_fa rfl rfl rfl ?_
  refine EN139_CF15 rfl ?_
  refine OW_loadR hS8 (k := 3) rfl rfl rfl rfl rfl (by first | exact part_whole rfl rfl rfl | rfl) ?_
  refine OW_fn rfl rfl (r_pack hx.a hx.b ?_) 
  refine OW_bin rfl rfl rfl rfl rfl ?_
  refine EN139_CF15 rfl ?_
  refine OW_mv rfl rfl ?_
  refine OW_split (tt := 73) rfl (fun g7_16 => ?_) (fun g7_16 => ?_)
  ·first
   |(exfalso; (try simp only [bs] at g7_16) <;> (first | (exact absurd rfl g7_16) | (exact g7_16 trivial) | omega | (simp at g7_16; done)); done)
   |skip
    try simp only [bs] at g7_16
    refine OW_loadR hS8 (k := 4) rfl rfl rfl rfl rfl (by first | exact part_whole rfl rfl rfl | rfl) ?_
    refine EN139_CF15 rfl ?_
    refine OW_fn rfl rfl (p_textC hf ?_) 
    refine OW_loadR hS8 (k := 4) rfl rfl rfl rfl rfl (by first | exact part_whole rfl rfl rfl | rfl) ?_
    refine OW_fn rfl rfl (r_textC hf ?_) 
    refine EN139_CF15 rfl ?_
    refine OW_bin rfl rfl rfl rfl rfl ?_
    refine OW_pick rfl rfl rfl ?_
    refine OW_mv rfl rfl ?_
    refine EN139_CF15 rfl ?_
    refine OW_split (tt := 80) rfl (fun g7_23 => ?_) (fun g7_23 => ?_)
    ·first
     |(exfalso; (try simp only [bs] at g7_23) <;> (first | (exact absurd rfl g7_23) | (exact g7_23 trivial) | omega | (simp at g7_23; done)); done)
     |skip
      try simp only [bs] at g7_23
      refine OW_loadR hS8 (k := 4) rfl rfl rfl rfl rfl (by first | exact part_whole rfl rfl rfl | rfl) ?_
      refine OW_mv rfl rfl ?_
      refine EN139_CF15 rfl ?_
      refine OW_fn rfl rfl (cf_check (c := c) rfl hf ?_) 
      refine OW_loadR hS8 (k := 4) rfl rfl rfl rfl rfl (by first | exact part_whole rfl rfl rfl | rfl) ?_
      refine OW_mv rfl rfl ?_
      refine EN139_CF15 rfl ?_
      refine OW_fn rfl rfl (rf_check (c := c) rfl hf ?_) 
      refine OW_bin rfl rfl rfl rfl rfl ?_
      refine OW_pick rfl rfl rfl ?_
      refine EN139_CF15 rfl ?_
      refine OW_as rfl rfl ?_
      refine EZ139_CF15 rfl ?_
      refine XW_sr ?_
      refine OW_fn rfl rfl (fixedW (by kernel_rfl) ?_) 
      refine OW_mv rfl rfl ?_
      refine OW_mv rfl rfl ?_
      refine EN139_CF15 rfl ?_
      refine OW_mv rfl rfl ?_
      refine OW_bin rfl rfl rfl rfl rfl ?_
      refine OW_pick rfl rfl rfl ?_
      refine EN139_CF15 rfl ?_
      refine OW_mv rfl rfl ?_
      refine OW_split (tt := 95) rfl (fun g8_7 => ?_) (fun g8_7 => ?_)
      ·first
       |(exfalso; (try simp only [bs] at g8_7) <;> (first | (exact absurd rfl g8_7) | (exact g8_7 trivial) | omega | (simp at g8_7; done)); done)
       |skip
        try simp only [bs] at g8_7
        refine OW_mv rfl rfl ?_
        refine EN139_CF15 rfl ?_
        refine OW_mv rfl rfl ?_
        refine OW_bin rfl rfl rfl rfl rfl ?_
        refine OW_pick rfl rfl rfl ?_
        refine EN139_CF15 rfl ?_
        refine OW_mv rfl rfl ?_
        refine OW_split (tt := 100) rfl (fun g8_12 => ?_) (fun g8_12 => ?_)
        ·first
         |(exfalso; (try simp only [bs] at g8_12) <;> (first | (exact absurd rfl g8_12) | (exact g8_12 trivial) | omega | (simp at g8_12; done)); done)
         |skip
          try simp only [bs] at g8_12
          refine OW_mv rfl rfl ?_
          refine EN139_CF15 rfl ?_
          refine OW_mv rfl rfl ?_
          refine OW_bin rfl rfl rfl rfl rfl ?_
          refine OW_pick rfl rfl rfl ?_
          refine EN139_CF15 rfl ?_
          refine OW_mv rfl rfl ?_
          refine OW_split (tt := 105) rfl (fun g8_17 => ?_) (fun g8_17 => ?_)
          ·first
           |(exfalso; (try simp only [bs] at g8_17) <;> (first | (exact absurd rfl g8_17) | (exact g8_17 trivial) | omega | (simp at g8_17; done)); done)
           |skip
            try simp only [bs] at g8_17
            refine OW_mv rfl rfl ?_
            refine EN139_CF15 rfl ?_
            refine OW_mv rfl rfl ?_
            refine OW_bin rfl rfl rfl rfl rfl ?_
            refine OW_pick rfl rfl rfl ?_
            refine EN139_CF15 rfl ?_
            refine OW_mv rfl rfl ?_
            refine OW_split (tt := 110) rfl (fun g8_22 => ?_) (fun g8_22 => ?_)
            ·first
             |(exfalso; (try simp only [bs] at g8_22) <;> (first | (exact absurd rfl g8_22) | (exact g8_22 trivial) | omega | (simp at g8_22; done)); done)
             |skip
              try simp only [bs] at g8_22
              refine OW_loadR hS8 (k := 2) rfl rfl rfl rfl rfl (by first | exact part_whole rfl rfl rfl | rfl) ?_
              refine EN139_CF15 rfl ?_
              refine OW_loadR hS8 (k := 1) rfl rfl rfl rfl rfl (by first | exact part_whole rfl rfl rfl | rfl) ?_
              refine OW_fn rfl rfl (rf_is (a := r) (b := r) rfl rfl hrf hrf ?_) 
              refine OW_pick rfl rfl rfl ?_
              refine EN139_CF15 rfl ?_
              refine OW_mv rfl rfl ?_
              refine OW_split (tt := 115) rfl (fun g8_27 => ?_) (fun g8_27 => ?_)
              ·first
               |(exfalso; (try simp only [bs] at g8_27) <;> (first | (exact absurd rfl g8_27) | (exact g8_27 trivial) | omega | (simp at g8_27; done)); done)
               |skip
                try simp only [bs] at g8_27
                refine OW_mv rfl rfl ?_
                refine EN139_CF15 rfl ?_
                refine OW_mv rfl rfl ?_
                refine OW_bin rfl rfl rfl rfl rfl ?_
                refine OW_pick rfl rfl rfl ?_
                refine EN139_CF15 rfl ?_
                refine OW_mv rfl rfl ?_
                refine OW_split (tt := 120) rfl (fun g8_32 => ?_) (fun g8_32 => ?_)
                ·first
                 |(exfalso; (try simp only [bs] at g8_32) <;> (first | (exact absurd rfl g8_32) | (exact g8_32 trivial) | omega | (simp at g8_32; done)); done)
                 |skip
                  try simp only [bs] at g8_32
                  refine OW_mv rfl rfl ?_
                  refine EN139_CF15 rfl ?_
                  refine OW_pick rfl rfl rfl ?_
                  refine OW_mv rfl rfl ?_
                  refine OW_split (tt := 123) rfl (fun g8_35 => ?_) (fun g8_35 => ?_)
                  ·first
                   |(exfalso; (try simp only [bs] at g8_35) <;> (first | (exact absurd rfl g8_35) | (exact g8_35 trivial) | omega | (simp at g8_35; done)); done)
                   |skip
                    try simp only [bs] at g8_35
                    refine EN139_CF15 rfl ?_
                    refine OW_mv rfl rfl ?_
                    refine OW_loadR hS8 (k := 4) rfl rfl rfl rfl rfl (by first | exact part_whole rfl rfl rfl | rfl) ?_
                    refine OW_mv rfl rfl ?_
                    refine EN139_CF15 rfl ?_
                    refine OW_fn rfl rfl (cf_check (c := c) rfl hf ?_) 
                    refine OW_bin rfl rfl rfl rfl rfl ?_
                    refine OW_pick rfl rfl rfl ?_
                    refine EN139_CF15 rfl ?_
                    refine OW_mv rfl rfl ?_
                    refine OW_split (tt := 130) rfl (fun g8_42 => ?_) (fun g8_42 => ?_)
                    ·first
                     |(exfalso; (try simp only [bs] at g8_42) <;> (first | (exact absurd rfl g8_42) | (exact g8_42 trivial) | omega | (simp at g8_42; done)); done)
                     |skip
                      try simp only [bs] at g8_42
                      refine OW_mv rfl rfl ?_
                      refine EN139_CF15 rfl ?_
                      refine OW_un rfl rfl rfl ?_
                      refine OW_mv rfl rfl ?_
                      refine OW_split (tt := 133) rfl (fun g8_45 => ?_) (fun g8_45 => ?_)
                      ·first
                       |(exfalso; (try simp only [bs] at g8_45) <;> (first | (exact absurd rfl g8_45) | (exact g8_45 trivial) | omega | (simp at g8_45; done)); done)
                       |skip
                        try simp only [bs] at g8_45
                        refine EN139_CF15 rfl ?_
                        refine OW_no rfl ?_
                        refine OW_no rfl ?_
                        refine OW_no rfl ?_
                        refine EN139_CF15 rfl ?_
                        refine OW_pick rfl rfl rfl ?_
                        refine OW_pick rfl rfl rfl ?_
                        refine OW_as rfl rfl ?_
                        refine EZ139_CF15 rfl ?_
                        refine XW_ret ?_
                        -- outcome 1
                        refine ret_ret (res1 rfl (rv_tmp rfl)) (frz1 (Q := Q) (by first | exact freeze_plain rfl | exact Ls.freeze (by assumption) | exact Ls.freeze Ls.of | exact Ls.freeze Ls.emp | exact Ls.freeze Ls.nls) ?_)
                        first | exact hq | (rw [decide_eq_true (hb2.2 (by assumption))]; exact hq) | (exfalso; rw [hb2.1] at g8_42; simp at g8_42; done)
                      ·first
                       |(exfalso; (try simp only [bs] at g8_45) <;> (first | (exact absurd rfl g8_45) | (exact g8_45 trivial) | omega | (simp at g8_45; done)); done)
                       |skip
                        try simp only [bs] at g8_45
                        refine EN139_CF15 rfl ?_
                        refine OW_loadR hS8 (k := 0) rfl rfl rfl rfl rfl (by first | exact part_whole rfl rfl rfl | rfl) ?_
                        refine OW_loadR hS8 (k := 4) rfl rfl rfl rfl rfl (by first | exact part_whole rfl rfl rfl | rfl) ?_
                        refine OW_fn rfl rfl (rf_is (a := r2) (b := c) rfl rfl hr2f hf ?_) 
                        refine EN139_CF15 rfl ?_
                        refine OW_pick rfl rfl rfl ?_
                        refine OW_pick rfl rfl rfl ?_
                        refine OW_as rfl rfl ?_
                        refine EZ139_CF15 rfl ?_
                        refine XW_ret ?_
                        -- outcome 2
                        refine ret_ret (res1 rfl (rv_tmp rfl)) (frz1 (Q := Q) (by first | exact freeze_plain rfl | exact Ls.freeze (by assumption) | exact Ls.freeze Ls.of | exact Ls.freeze Ls.emp | exact Ls.freeze Ls.nls) ?_)
                        first | exact hq | (rw [decide_eq_true (hb2.2 (by assumption))]; exact hq) | (exfalso; rw [hb2.1] at g8_42; simp at g8_42; done)
                    ·first
                     |(exfalso; (try simp only [bs] at g8_42) <;> (first | (exact absurd rfl g8_42) | (exact g8_42 trivial) | omega | (simp at g8_42; done)); done)
                     |skip
                      try simp only [bs] at g8_42
                      refine OW_no rfl ?_
                      refine EN139_CF15 rfl ?_
                      refine OW_no rfl ?_
                      refine OW_no rfl ?_
                      refine OW_no rfl ?_
                      refine EN139_CF15 rfl ?_
                      refine OW_no rfl ?_
                      refine OW_no rfl ?_
                      refine OW_no rfl ?_
                      refine EN139_CF15 rfl ?_
                      refine OW_pick rfl rfl rfl ?_
                      refine OW_as rfl rfl ?_
                      refine EZ139_CF15 rfl ?_
                      refine XW_ret ?_
                      -- outcome 3
                      refine ret_ret (res1 rfl (rv_tmp rfl)) (frz1 (Q := Q) (by first | exact freeze_plain rfl | exact Ls.freeze (by assumption) | exact Ls.freeze Ls.of | exact Ls.freeze Ls.emp | exact Ls.freeze Ls.nls) ?_)
                      first | exact hq | (rw [decide_eq_true (hb2.2 (by assumption))]; exact hq) | (exfalso; rw [hb2.1] at g8_42; simp at g8_42; done)
                  ·first
                   |(exfalso; (try simp only [bs] at g8_35) <;> (first | (exact absurd rfl g8_35) | (exact g8_35 trivial) | omega | (simp at g8_35; done)); done)
                   |skip
                    try simp only [bs] at g8_35
                    refine EN139_CF15 rfl ?_
                    refine OW_no rfl ?_
                    refine OW_no rfl ?_
                    refine OW_no rfl ?_
                    refine EN139_CF15 rfl ?_
                    refine OW_no rfl ?_
                    refine OW_no rfl ?_
                    refine OW_pick rfl rfl rfl ?_
                    refine EN139_CF15 rfl ?_
                    refine OW_mv rfl rfl ?_
                    refine OW_no rfl ?_
                    refine OW_no rfl ?_
                    refine EN139_CF15 rfl ?_
                    refine OW_no rfl ?_
                    refine OW_no rfl ?_
                    refine OW_no rfl ?_
                    refine EN139_CF15 rfl ?_
                    refine OW_no rfl ?_
                    refine OW_no rfl ?_
                    refine OW_pick rfl rfl rfl ?_
                    refine EN139_CF15 rfl ?_
                    refine OW_as rfl rfl ?_
                    refine EZ139_CF15 rfl ?_
                    refine XW_ret ?_
                    -- outcome 4
                    refine ret_ret (res1 rfl (rv_tmp rfl)) (frz1 (Q := Q) (by first | exact freeze_plain rfl | exact Ls.freeze (by assumption) | exact Ls.freeze Ls.of | exact Ls.freeze Ls.emp | exact Ls.freeze Ls.nls) ?_)
                    first | exact hq | (rw [decide_eq_true (hb2.2 (by assumption))]; exact hq) | (exfalso; rw [hb2.1] at g8_42; simp at g8_42; done)
                ·first
                 |(exfalso; (try simp only [bs] at g8_32) <;> (first | (exact absurd rfl g8_32) | (exact g8_32 trivial) | omega | (simp at g8_32; done)); done)
                 |skip
                  try simp only [bs] at g8_32
                  refine OW_no rfl ?_
                  refine EN139_CF15 rfl ?_
                  refine OW_pick rfl rfl rfl ?_
                  refine OW_mv rfl rfl ?_
                  refine OW_no rfl ?_
                  refine EN139_CF15 rfl ?_
                  refine OW_no rfl ?_
                  refine OW_no rfl ?_
                  refine OW_no rfl ?_
                  refine EN139_CF15 rfl ?_
                  refine OW_no rfl ?_
                  refine OW_pick rfl rfl rfl ?_
                  refine OW_mv rfl rfl ?_
                  refine EN139_CF15 rfl ?_
                  refine OW_no rfl ?_
                  refine OW_no rfl ?_
                  refine OW_no rfl ?_
                  refine EN139_CF15 rfl ?_
                  refine OW_no rfl ?_
                  refine OW_no rfl ?_
                  refine OW_no rfl ?_
                  refine EN139_CF15 rfl ?_
                  refine OW_no rfl ?_
                  refine OW_pick rfl rfl rfl ?_
                  refine OW_as rfl rfl ?_
                  refine EZ139_CF15 rfl ?_
                  refine XW_ret ?_
                  -- outcome 5
                  refine ret_ret (res1 rfl (rv_tmp rfl)) (frz1 (Q := Q) (by first | exact freeze_plain rfl | exact Ls.freeze (by assumption) | exact Ls.freeze Ls.of | exact Ls.freeze Ls.emp | exact Ls.freeze Ls.nls) ?_)
                  first | exact hq | (rw [decide_eq_true (hb2.2 (by assumption))]; exact hq) | (exfalso; rw [hb2.1] at g8_42; simp at g8_42; done)
              ·first
               |(exfalso; (try simp only [bs] at g8_27) <;> (first | (exact absurd rfl g8_27) | (exact g8_27 trivial) | omega | (simp at g8_27; done)); done)
               |skip
                try simp only [bs] at g8_27
                refine OW_no rfl ?_
                refine EN139_CF15 rfl ?_
                refine OW_no rfl ?_
                refine OW_no rfl ?_
                refine OW_pick rfl rfl rfl ?_
                refine EN139_CF15 rfl ?_
                refine OW_mv rfl rfl ?_
                refine OW_no rfl ?_
                refine OW_pick rfl rfl rfl ?_
                refine EN139_CF15 rfl ?_
                refine OW_mv rfl rfl ?_
                refine OW_no rfl ?_
                refine OW_no rfl ?_
                refine EN139_CF15 rfl ?_
                refine OW_no rfl ?_
                refine OW_no rfl ?_
                refine OW_no rfl ?_
                refine EN139_CF15 rfl ?_
                refine OW_pick rfl rfl rfl ?_
                refine OW_mv rfl rfl ?_
                refine OW_no rfl ?_
                refine EN139_CF15 rfl ?_
                refine OW_no rfl ?_
                refine OW_no rfl ?_
                refine OW_no rfl ?_
                refine EN139_CF15 rfl ?_
                refine OW_no rfl ?_
                refine OW_no rfl ?_
                refine OW_no rfl ?_
                refine EN139_CF15 rfl ?_
                refine OW_pick rfl rfl rfl ?_
                refine OW_as rfl rfl ?_
                refine EZ139_CF15 rfl ?_
                refine XW_ret ?_
                -- outcome 6
                refine ret_ret (res1 rfl (rv_tmp rfl)) (frz1 (Q := Q) (by first | exact freeze_plain rfl | exact Ls.freeze (by assumption) | exact Ls.freeze Ls.of | exact Ls.freeze Ls.emp | exact Ls.freeze Ls.nls) ?_)
                first | exact hq | (rw [decide_eq_true (hb2.2 (by assumption))]; exact hq) | (exfalso; rw [hb2.1] at g8_42; simp at g8_42; done)
            ·first
             |(exfalso; (try simp only [bs] at g8_22) <;> (first | (exact absurd rfl g8_22) | (exact g8_22 trivial) | omega | (simp at g8_22; done)); done)
             |skip
              try simp only [bs] at g8_22
              refine OW_no rfl ?_
              refine EN139_CF15 rfl ?_
              refine OW_no rfl ?_
              refine OW_no rfl ?_
              refine OW_pick rfl rfl rfl ?_
              refine EN139_CF15 rfl ?_
              refine OW_mv rfl rfl ?_
              refine OW_no rfl ?_
              refine OW_no rfl ?_
              refine EN139_CF15 rfl ?_
              refine OW_no rfl ?_
              refine OW_pick rfl rfl rfl ?_
              refine OW_mv rfl rfl ?_
              refine EN139_CF15 rfl ?_
              refine OW_no rfl ?_
              refine OW_pick rfl rfl rfl ?_
              refine OW_mv rfl rfl ?_
              refine EN139_CF15 rfl ?_
              refine OW_no rfl ?_
              refine OW_no rfl ?_
              refine OW_no rfl ?_
              refine EN139_CF15 rfl ?_
              refine OW_no rfl ?_
              refine OW_no rfl ?_
              refine OW_pick rfl rfl rfl ?_
              refine EN139_CF15 rfl ?_
              refine OW_mv rfl rfl ?_
              refine OW_no rfl ?_
              refine OW_no rfl ?_
              refine EN139_CF15 rfl ?_
              refine OW_no rfl ?_
              refine OW_no rfl ?_
              refine OW_no rfl ?_
              refine EN139_CF15 rfl ?_
              refine OW_no rfl ?_
              refine OW_no rfl ?_
              refine OW_pick rfl rfl rfl ?_
              refine EN139_CF15 rfl ?_
              refine OW_as rfl rfl ?_
              refine EZ139_CF15 rfl ?_
              refine XW_ret ?_
              -- outcome 7
              refine ret_ret (res1 rfl (rv_tmp rfl)) (frz1 (Q := Q) (by first | exact freeze_plain rfl | exact Ls.freeze (by assumption) | exact Ls.freeze Ls.of | exact Ls.freeze Ls.emp | exact Ls.freeze Ls.nls) ?_)
              first | exact hq | (rw [decide_eq_true (hb2.2 (by assumption))]; exact hq) | (exfalso; rw [hb2.1] at g8_42; simp at g8_42; done)
          ·first
           |(exfalso; (try simp only [bs] at g8_17) <;> (first | (exact absurd rfl g8_17) | (exact g8_17 trivial) | omega | (simp at g8_17; done)); done)
           |skip
            try simp only [bs] at g8_17
            refine OW_no rfl ?_
            refine EN139_CF15 rfl ?_
            refine OW_no rfl ?_
            refine OW_no rfl ?_
            refine OW_pick rfl rfl rfl ?_
            refine EN139_CF15 rfl ?_
            refine OW_mv rfl rfl ?_
            refine OW_no rfl ?_
            refine OW_no rfl ?_
            refine EN139_CF15 rfl ?_
            refine OW_no rfl ?_
            refine OW_pick rfl rfl rfl ?_
            refine OW_mv rfl rfl ?_
            refine EN139_CF15 rfl ?_
            refine OW_no rfl ?_
            refine OW_no rfl ?_
            refine OW_no rfl ?_
            refine EN139_CF15 rfl ?_
            refine OW_pick rfl rfl rfl ?_
            refine OW_mv rfl rfl ?_
            refine OW_no rfl ?_
            refine EN139_CF15 rfl ?_
            refine OW_pick rfl rfl rfl ?_
            refine OW_mv rfl rfl ?_
            refine OW_no rfl ?_
            refine EN139_CF15 rfl ?_
            refine OW_no rfl ?_
            refine OW_no rfl ?_
            refine OW_no rfl ?_
            refine EN139_CF15 rfl ?_
            refine OW_no rfl ?_
            refine OW_pick rfl rfl rfl ?_
            refine OW_mv rfl rfl ?_
            refine EN139_CF15 rfl ?_
            refine OW_no rfl ?_
            refine OW_no rfl ?_
            refine OW_no rfl ?_
            refine EN139_CF15 rfl ?_
            refine OW_no rfl ?_
            refine OW_no rfl ?_
            refine OW_no rfl ?_
            refine EN139_CF15 rfl ?_
            refine OW_no rfl ?_
            refine OW_pick rfl rfl rfl ?_
            refine OW_as rfl rfl ?_
            refine EZ139_CF15 rfl ?_
            refine XW_ret ?_
            -- outcome 8
            refine ret_ret (res1 rfl (rv_tmp rfl)) (frz1 (Q := Q) (by first | exact freeze_plain rfl | exact Ls.freeze (by assumption) | exact Ls.freeze Ls.of | exact Ls.freeze Ls.emp | exact Ls.freeze Ls.nls) ?_)
            first | exact hq | (rw [decide_eq_true (hb2.2 (by assumption))]; exact hq) | (exfalso; rw [hb2.1] at g8_42; simp at g8_42; done)
        ·first
         |(exfalso; (try simp only [bs] at g8_12) <;> (first | (exact absurd rfl g8_12) | (exact g8_12 trivial) | omega | (simp at g8_12; done)); done)
         |skip
          try simp only [bs] at g8_12
          refine OW_no rfl ?_
          refine EN139_CF15 rfl ?_
          refine OW_no rfl ?_
          refine OW_no rfl ?_
          refine OW_pick rfl rfl rfl ?_
          refine EN139_CF15 rfl ?_
          refine OW_mv rfl rfl ?_
          refine OW_no rfl ?_
          refine OW_no rfl ?_
          refine EN139_CF15 rfl ?_
          refine OW_no rfl ?_
          refine OW_pick rfl rfl rfl ?_
          refine OW_mv rfl rfl ?_
          refine EN139_CF15 rfl ?_
          refine OW_no rfl ?_
          refine OW_no rfl ?_
          refine OW_no rfl ?_
          refine EN139_CF15 rfl ?_
          refine OW_pick rfl rfl rfl ?_
          refine OW_mv rfl rfl ?_
          refine OW_no rfl ?_
          refine EN139_CF15 rfl ?_
          refine OW_no rfl ?_
          refine OW_no rfl ?_
          refine OW_pick rfl rfl rfl ?_
          refine EN139_CF15 rfl ?_
          refine OW_mv rfl rfl ?_
          refine OW_no rfl ?_
          refine OW_pick rfl rfl rfl ?_
          refine EN139_CF15 rfl ?_
          refine OW_mv rfl rfl ?_
          refine OW_no rfl ?_
          refine OW_no rfl ?_
          refine EN139_CF15 rfl ?_
          refine OW_no rfl ?_
          refine OW_no rfl ?_
          refine OW_no rfl ?_
          refine EN139_CF15 rfl ?_
          refine OW_pick rfl rfl rfl ?_
          refine OW_mv rfl rfl ?_
          refine OW_no rfl ?_
          refine EN139_CF15 rfl ?_
          refine OW_no rfl ?_
          refine OW_no rfl ?_
          refine OW_no rfl ?_
          refine EN139_CF15 rfl ?_
          refine OW_no rfl ?_
          refine OW_no rfl ?_
          refine OW_no rfl ?_
          refine EN139_CF15 rfl ?_
          refine OW_pick rfl rfl rfl ?_
          refine OW_as rfl rfl ?_
          refine EZ139_CF15 rfl ?_
          refine XW_ret ?_
          -- outcome 9
          refine ret_ret (res1 rfl (rv_tmp rfl)) (frz1 (Q := Q) (by first | exact freeze_plain rfl | exact Ls.freeze (by assumption) | exact Ls.freeze Ls.of | exact Ls.freeze Ls.emp | exact Ls.freeze Ls.nls) ?_)
          first | exact hq | (rw [decide_eq_true (hb2.2 (by assumption))]; exact hq) | (exfalso; rw [hb2.1] at g8_42; simp at g8_42; done)
      ·first
       |(exfalso; (try simp only [bs] at g8_7) <;> (first | (exact absurd rfl g8_7) | (exact g8_7 trivial) | omega | (simp at g8_7; done)); done)
       |skip
        try simp only [bs] at g8_7
        refine OW_no rfl ?_
        refine EN139_CF15 rfl ?_
        refine OW_no rfl ?_
        refine OW_no rfl ?_
        refine OW_pick rfl rfl rfl ?_
        refine EN139_CF15 rfl ?_
        refine OW_mv rfl rfl ?_
        refine OW_no rfl ?_
        refine OW_no rfl ?_
        refine EN139_CF15 rfl ?_
        refine OW_no rfl ?_
        refine OW_pick rfl rfl rfl ?_
        refine OW_mv rfl rfl ?_
        refine EN139_CF15 rfl ?_
        refine OW_no rfl ?_
        refine OW_no rfl ?_
        refine OW_no rfl ?_
        refine EN139_CF15 rfl ?_
        refine OW_pick rfl rfl rfl ?_
        refine OW_mv rfl rfl ?_
        refine OW_no rfl ?_
        refine EN139_CF15 rfl ?_
        refine OW_no rfl ?_
        refine OW_no rfl ?_
        refine OW_pick rfl rfl rfl ?_
        refine EN139_CF15 rfl ?_
        refine OW_mv rfl rfl ?_
        refine OW_no rfl ?_
        refine OW_no rfl ?_
        refine EN139_CF15 rfl ?_
        refine OW_no rfl ?_
        refine OW_pick rfl rfl rfl ?_
        refine OW_mv rfl rfl ?_
        refine EN139_CF15 rfl ?_
        refine OW_no rfl ?_
        refine OW_pick rfl rfl rfl ?_
        refine OW_mv rfl rfl ?_
        refine EN139_CF15 rfl ?_
        refine OW_no rfl ?_
        refine OW_no rfl ?_
        refine OW_no rfl ?_
        refine EN139_CF15 rfl ?_
        refine OW_no rfl ?_
        refine OW_no rfl ?_
        refine OW_pick rfl rfl rfl ?_
        refine EN139_CF15 rfl ?_
        refine OW_mv rfl rfl ?_
        refine OW_no rfl ?_
        refine OW_no rfl ?_
        refine EN139_CF15 rfl ?_
        refine OW_no rfl ?_
        refine OW_no rfl ?_
        refine OW_no rfl ?_
        refine EN139_CF15 rfl ?_
        refine OW_no rfl ?_
        refine OW_no rfl ?_
        refine OW_pick rfl rfl rfl ?_
        refine EN139_CF15 rfl ?_
        refine OW_as rfl rfl ?_
        refine EZ139_CF15 rfl ?_
        refine XW_ret ?_
        -- outcome 10
        refine ret_ret (res1 rfl (rv_tmp rfl)) (frz1 (Q := Q) (by first | exact freeze_plain rfl | exact Ls.freeze (by assumption) | exact Ls.freeze Ls.of | exact Ls.freeze Ls.emp | exact Ls.freeze Ls.nls) ?_)
        first | exact hq | (rw [decide_eq_true (hb2.2 (by assumption))]; exact hq) | (exfalso; rw [hb2.1] at g8_42; simp at g8_42; done)
    ·first
     |(exfalso; (try simp only [bs] at g7_23) <;> (first | (exact absurd rfl g7_23) | (exact g7_23 trivial) | omega | (simp at g7_23; done)); done)
     |skip
      try simp only [bs] at g7_23
      refine OW_no rfl ?_
      refine OW_no rfl ?_
      refine EN139_CF15 rfl ?_
      refine OW_no rfl ?_
      refine OW_no rfl ?_
      refine OW_no rfl ?_
      refine EN139_CF15 rfl ?_
      refine OW_no rfl ?_
      refine OW_no rfl ?_
      refine OW_pick rfl rfl rfl ?_
      refine EN139_CF15 rfl ?_
      refine OW_as rfl rfl ?_
      refine EZ139_CF15 rfl ?_
      refine XW_sr ?_
      refine OW_fn rfl rfl (fixedW (by kernel_rfl) ?_) 
      refine OW_mv rfl rfl ?_
      refine OW_mv rfl rfl ?_
      refine EN139_CF15 rfl ?_
      refine OW_mv rfl rfl ?_
      refine OW_bin rfl rfl rfl rfl rfl ?_
      refine OW_pick rfl rfl rfl ?_
      refine EN139_CF15 rfl ?_
      refine OW_mv rfl rfl ?_
      refine OW_split (tt := 95) rfl (fun g8_7 => ?_) (fun g8_7 => ?_)
      ·first
       |(exfalso; (try simp only [bs] at g8_7) <;> (first | (exact absurd rfl g8_7) | (exact g8_7 trivial) | omega | (simp at g8_7; done)); done)
       |skip
        try simp only [bs] at g8_7
        refine OW_mv rfl rfl ?_
        refine EN139_CF15 rfl ?_
        refine OW_mv rfl rfl ?_
        refine OW_bin rfl rfl rfl rfl rfl ?_
        refine OW_pick rfl rfl rfl ?_
        refine EN139_CF15 rfl ?_
        refine OW_mv rfl rfl ?_
        refine OW_split (tt := 100) rfl (fun g8_12 => ?_) (fun g8_12 => ?_)
        ·first
         |(exfalso; (try simp only [bs] at g8_12) <;> (first | (exact absurd rfl g8_12) | (exact g8_12 trivial) | omega | (simp at g8_12; done)); done)
         |skip
          try simp only [bs] at g8_12
          refine OW_mv rfl rfl ?_
          refine EN139_CF15 rfl ?_
          refine OW_mv rfl rfl ?_
          refine OW_bin rfl rfl rfl rfl rfl ?_
          refine OW_pick rfl rfl rfl ?_
          refine EN139_CF15 rfl ?_
          refine OW_mv rfl rfl ?_
          refine OW_split (tt := 105) rfl (fun g8_17 => ?_) (fun g8_17 => ?_)
          ·first
           |(exfalso; (try simp only [bs] at g8_17) <;> (first | (exact absurd rfl g8_17) | (exact g8_17 trivial) | omega | (simp at g8_17; done)); done)
           |skip
            try simp only [bs] at g8_17
            refine OW_mv rfl rfl ?_
            refine EN139_CF15 rfl ?_
            refine OW_mv rfl rfl ?_
            refine OW_bin rfl rfl rfl rfl rfl ?_
            refine OW_pick rfl rfl rfl ?_
            refine EN139_CF15 rfl ?_
            refine OW_mv rfl rfl ?_
            refine OW_split (tt := 110) rfl (fun g8_22 => ?_) (fun g8_22 => ?_)
            ·first
             |(exfalso; (try simp only [bs] at g8_22) <;> (first | (exact absurd rfl g8_22) | (exact g8_22 trivial) | omega | (simp at g8_22; done)); done)
             |skip
              try simp only [bs] at g8_22
              refine OW_loadR hS8 (k := 2) rfl rfl rfl rfl rfl (by first | exact part_whole rfl rfl rfl | rfl) ?_
              refine EN139_CF15 rfl ?_
              refine OW_loadR hS8 (k := 1) rfl rfl rfl rfl rfl (by first | exact part_whole rfl rfl rfl | rfl) ?_
              refine OW_fn rfl rfl (rf_is (a := r) (b := r) rfl rfl hrf hrf ?_) 
              refine OW_pick rfl rfl rfl ?_
              refine EN139_CF15 rfl ?_
              refine OW_mv rfl rfl ?_
              refine OW_split (tt := 115) rfl (fun g8_27 => ?_) (fun g8_27 => ?_)
              ·first
               |(exfalso; (try simp only [bs] at g8_27) <;> (first | (exact absurd rfl g8_27) | (exact g8_27 trivial) | omega | (simp at g8_27; done)); done)
               |skip
                try simp only [bs] at g8_27
                refine OW_mv rfl rfl ?_
                refine EN139_CF15 rfl ?_
                refine OW_mv rfl rfl ?_
                refine OW_bin rfl rfl rfl rfl rfl ?_
                refine OW_pick rfl rfl rfl ?_
                refine EN139_CF15 rfl ?_
                refine OW_mv rfl rfl ?_
                refine OW_split (tt := 120) rfl (fun g8_32 => ?_) (fun g8_32 => ?_)
                ·first
                 |(exfalso; (try simp only [bs] at g8_32) <;> (first | (exact absurd rfl g8_32) | (exact g8_32 trivial) | omega | (simp at g8_32; done)); done)
                 |skip
                  try simp only [bs] at g8_32
                  refine OW_mv rfl rfl ?_
                  refine EN139_CF15 rfl ?_
                  refine OW_pick rfl rfl rfl ?_
                  refine OW_mv rfl rfl ?_
                  refine OW_no rfl ?_
                  refine EN139_CF15 rfl ?_
                  refine OW_no rfl ?_
                  refine OW_no rfl ?_
                  refine OW_no rfl ?_
                  refine EN139_CF15 rfl ?_
                  refine OW_no rfl ?_
                  refine OW_pick rfl rfl rfl ?_
                  refine OW_mv rfl rfl ?_
                  refine EN139_CF15 rfl ?_
                  refine OW_no rfl ?_
                  refine OW_no rfl ?_
                  refine OW_no rfl ?_
                  refine EN139_CF15 rfl ?_
                  refine OW_no rfl ?_
                  refine OW_no rfl ?_
                  refine OW_no rfl ?_
                  refine EN139_CF15 rfl ?_
                  refine OW_no rfl ?_
                  refine OW_pick rfl rfl rfl ?_
                  refine OW_as rfl rfl ?_
                  refine EZ139_CF15 rfl ?_
                  refine XW_ret ?_
                  -- outcome 11
                  refine ret_ret (res1 rfl (rv_tmp rfl)) (frz1 (Q := Q) (by first | exact freeze_plain rfl | exact Ls.freeze (by assumption) | exact Ls.freeze Ls.of | exact Ls.freeze Ls.emp | exact Ls.freeze Ls.nls) ?_)
                  first | exact hq | (rw [decide_eq_true (hb2.2 (by assumption))]; exact hq) | (exfalso; rw [hb2.1] at g8_42; simp at g8_42; done)
                ·first
                 |(exfalso; (try simp only [bs] at g8_32) <;> (first | (exact absurd rfl g8_32) | (exact g8_32 trivial) | omega | (simp at g8_32; done)); done)
                 |skip
                  try simp only [bs] at g8_32
                  refine OW_no rfl ?_
                  refine EN139_CF15 rfl ?_
                  refine OW_pick rfl rfl rfl ?_
                  refine OW_mv rfl rfl ?_
                  refine OW_no rfl ?_
                  refine EN139_CF15 rfl ?_
                  refine OW_no rfl ?_
                  refine OW_no rfl ?_
                  refine OW_no rfl ?_
                  refine EN139_CF15 rfl ?_
                  refine OW_no rfl ?_
                  refine OW_pick rfl rfl rfl ?_
                  refine OW_mv rfl rfl ?_
                  refine EN139_CF15 rfl ?_
                  refine OW_no rfl ?_
                  refine OW_no rfl ?_
                  refine OW_no rfl ?_
                  refine EN139_CF15 rfl ?_
                  refine OW_no rfl ?_
                  refine OW_no rfl ?_
                  refine OW_no rfl ?_
                  refine EN139_CF15 rfl ?_
                  refine OW_no rfl ?_
                  refine OW_pick rfl rfl rfl ?_
                  refine OW_as rfl rfl ?_
                  refine EZ139_CF15 rfl ?_
                  refine XW_ret ?_
                  -- outcome 12
                  refine ret_ret (res1 rfl (rv_tmp rfl)) (frz1 (Q := Q) (by first | exact freeze_plain rfl | exact Ls.freeze (by assumption) | exact Ls.freeze Ls.of | exact Ls.freeze Ls.emp | exact Ls.freeze Ls.nls) ?_)
                  first | exact hq | (rw [decide_eq_true (hb2.2 (by assumption))]; exact hq) | (exfalso; rw [hb2.1] at g8_42; simp at g8_42; done)
              ·first
               |(exfalso; (try simp only [bs] at g8_27) <;> (first | (exact absurd rfl g8_27) | (exact g8_27 trivial) | omega | (simp at g8_27; done)); done)
               |skip
                try simp only [bs] at g8_27
                refine OW_no rfl ?_
                refine EN139_CF15 rfl ?_
                refine OW_no rfl ?_
                refine OW_no rfl ?_
                refine OW_pick rfl rfl rfl ?_
                refine EN139_CF15 rfl ?_
                refine OW_mv rfl rfl ?_
                refine OW_no rfl ?_
                refine OW_pick rfl rfl rfl ?_
                refine EN139_CF15 rfl ?_
                refine OW_mv rfl rfl ?_
                refine OW_no rfl ?_
                refine OW_no rfl ?_
                refine EN139_CF15 rfl ?_
                refine OW_no rfl ?_
                refine OW_no rfl ?_
                refine OW_no rfl ?_
                refine EN139_CF15 rfl ?_
                refine OW_pick rfl rfl rfl ?_
                refine OW_mv rfl rfl ?_
                refine OW_no rfl ?_
                refine EN139_CF15 rfl ?_
                refine OW_no rfl ?_
                refine OW_no rfl ?_
                refine OW_no rfl ?_
                refine EN139_CF15 rfl ?_
                refine OW_no rfl ?_
                refine OW_no rfl ?_
                refine OW_no rfl ?_
                refine EN139_CF15 rfl ?_
                refine OW_pick rfl rfl rfl ?_
                refine OW_as rfl rfl ?_
                refine EZ139_CF15 rfl ?_
                refine XW_ret ?_
                -- outcome 13
                refine ret_ret (res1 rfl (rv_tmp rfl)) (frz1 (Q := Q) (by first | exact freeze_plain rfl | exact Ls.freeze (by assumption) | exact Ls.freeze Ls.of | exact Ls.freeze Ls.emp | exact Ls.freeze Ls.nls) ?_)
                first | exact hq | (rw [decide_eq_true (hb2.2 (by assumption))]; exact hq) | (exfalso; rw [hb2.1] at g8_42; simp at g8_42; done)
            ·first
             |(exfalso; (try simp only [bs] at g8_22) <;> (first | (exact absurd rfl g8_22) | (exact g8_22 trivial) | omega | (simp at g8_22; done)); done)
             |skip
              try simp only [bs] at g8_22
              refine OW_no rfl ?_
              refine EN139_CF15 rfl ?_
              refine OW_no rfl ?_
              refine OW_no rfl ?_
              refine OW_pick rfl rfl rfl ?_
              refine EN139_CF15 rfl ?_
              refine OW_mv rfl rfl ?_
              refine OW_no rfl ?_
              refine OW_no rfl ?_
              refine EN139_CF15 rfl ?_
              refine OW_no rfl ?_
              refine OW_pick rfl rfl rfl ?_
              refine OW_mv rfl rfl ?_
              refine EN139_CF15 rfl ?_
              refine OW_no rfl ?_
              refine OW_pick rfl rfl rfl ?_
              refine OW_mv rfl rfl ?_
              refine EN139_CF15 rfl ?_
              refine OW_no rfl ?_
              refine OW_no rfl ?_
              refine OW_no rfl ?_
              refine EN139_CF15 rfl ?_
              refine OW_no rfl ?_
              refine OW_no rfl ?_
              refine OW_pick rfl rfl rfl ?_
              refine EN139_CF15 rfl ?_
              refine OW_mv rfl rfl ?_
              refine OW_no rfl ?_
              refine OW_no rfl ?_
              refine EN139_CF15 rfl ?_
              refine OW_no rfl ?_
              refine OW_no rfl ?_
              refine OW_no rfl ?_
              refine EN139_CF15 rfl ?_
              refine OW_no rfl ?_
              refine OW_no rfl ?_
              refine OW_pick rfl rfl rfl ?_
              refine EN139_CF15 rfl ?_
              refine OW_as rfl rfl ?_
              refine EZ139_CF15 rfl ?_
              refine XW_ret ?_
              -- outcome 14
              refine ret_ret (res1 rfl (rv_tmp rfl)) (frz1 (Q := Q) (by first | exact freeze_plain rfl | exact Ls.freeze (by assumption) | exact Ls.freeze Ls.of | exact Ls.freeze Ls.emp | exact Ls.freeze Ls.nls) ?_)
              first | exact hq | (rw [decide_eq_true (hb2.2 (by assumption))]; exact hq) | (exfalso; rw [hb2.1] at g8_42; simp at g8_42; done)
          ·first
           |(exfalso; (try simp only [bs] at g8_17) <;> (first | (exact absurd rfl g8_17) | (exact g8_17 trivial) | omega | (simp at g8_17; done)); done)
           |skip
            try simp only [bs] at g8_17
            refine OW_no rfl ?_
            refine EN139_CF15 rfl ?_
            refine OW_no rfl ?_
            refine OW_no rfl ?_
            refine OW_pick rfl rfl rfl ?_
            refine EN139_CF15 rfl ?_
            refine OW_mv rfl rfl ?_
            refine OW_no rfl ?_
            refine OW_no rfl ?_
            refine EN139_CF15 rfl ?_
            refine OW_no rfl ?_
            refine OW_pick rfl rfl rfl ?_
            refine OW_mv rfl rfl ?_
            refine EN139_CF15 rfl ?_
            refine OW_no rfl ?_
            refine OW_no rfl ?_
            refine OW_no rfl ?_
            refine EN139_CF15 rfl ?_
            refine OW_pick rfl rfl rfl ?_
            refine OW_mv rfl rfl ?_
            refine OW_no rfl ?_
            refine EN139_CF15 rfl ?_
            refine OW_pick rfl rfl rfl ?_
            refine OW_mv rfl rfl ?_
            refine OW_no rfl ?_
            refine EN139_CF15 rfl ?_
            refine OW_no rfl ?_
            refine OW_no rfl ?_
            refine OW_no rfl ?_
            refine EN139_CF15 rfl ?_
            refine OW_no rfl ?_
            refine OW_pick rfl rfl rfl ?_
            refine OW_mv rfl rfl ?_
            refine EN139_CF15 rfl ?_
            refine OW_no rfl ?_
            refine OW_no rfl ?_
            refine OW_no rfl ?_
            refine EN139_CF15 rfl ?_
            refine OW_no rfl ?_
            refine OW_no rfl ?_
            refine OW_no rfl ?_
            refine EN139_CF15 rfl ?_
            refine OW_no rfl ?_
            refine OW_pick rfl rfl rfl ?_
            refine OW_as rfl rfl ?_
            refine EZ139_CF15 rfl ?_
            refine XW_ret ?_
            -- outcome 15
            refine ret_ret (res1 rfl (rv_tmp rfl)) (frz1 (Q := Q) (by first | exact freeze_plain rfl | exact Ls.freeze (by assumption) | exact Ls.freeze Ls.of | exact Ls.freeze Ls.emp | exact Ls.freeze Ls.nls) ?_)
            first | exact hq | (rw [decide_eq_true (hb2.2 (by assumption))]; exact hq) | (exfalso; rw [hb2.1] at g8_42; simp at g8_42; done)
        ·first
         |(exfalso; (try simp only [bs] at g8_12) <;> (first | (exact absurd rfl g8_12) | (exact g8_12 trivial) | omega | (simp at g8_12; done)); done)
         |skip
          try simp only [bs] at g8_12
          refine OW_no rfl ?_
          refine EN139_CF15 rfl ?_
          refine OW_no rfl ?_
          refine OW_no rfl ?_
          refine OW_pick rfl rfl rfl ?_
          refine EN139_CF15 rfl ?_
          refine OW_mv rfl rfl ?_
          refine OW_no rfl ?_
          refine OW_no rfl ?_
          refine EN139_CF15 rfl ?_
          refine OW_no rfl ?_
          refine OW_pick rfl rfl rfl ?_
          refine OW_mv rfl rfl ?_
          refine EN139_CF15 rfl ?_
          refine OW_no rfl ?_
          refine OW_no rfl ?_
          refine OW_no rfl ?_
          refine EN139_CF15 rfl ?_
          refine OW_pick rfl rfl rfl ?_
          refine OW_mv rfl rfl ?_
          refine OW_no rfl ?_
          refine EN139_CF15 rfl ?_
          refine OW_no rfl ?_
          refine OW_no rfl ?_
          refine OW_pick rfl rfl rfl ?_
          refine EN139_CF15 rfl ?_
          refine OW_mv rfl rfl ?_
          refine OW_no rfl ?_
          refine OW_pick rfl rfl rfl ?_
          refine EN139_CF15 rfl ?_
          refine OW_mv rfl rfl ?_
          refine OW_no rfl ?_
          refine OW_no rfl ?_
          refine EN139_CF15 rfl ?_
          refine OW_no rfl ?_
          refine OW_no rfl ?_
          refine OW_no rfl ?_
          refine EN139_CF15 rfl ?_
          refine OW_pick rfl rfl rfl ?_
          refine OW_mv rfl rfl ?_
          refine OW_no rfl ?_
          refine EN139_CF15 rfl ?_
          refine OW_no rfl ?_
          refine OW_no rfl ?_
          refine OW_no rfl ?_
          refine EN139_CF15 rfl ?_
          refine OW_no rfl ?_
          refine OW_no rfl ?_
          refine OW_no rfl ?_
          refine EN139_CF15 rfl ?_
          refine OW_pick rfl rfl rfl ?_
          refine OW_as rfl rfl ?_
          refine EZ139_CF15 rfl ?_
          refine XW_ret ?_
          -- outcome 16
          refine ret_ret (res1 rfl (rv_tmp rfl)) (frz1 (Q := Q) (by first | exact freeze_plain rfl | exact Ls.freeze (by assumption) | exact Ls.freeze Ls.of | exact Ls.freeze Ls.emp | exact Ls.freeze Ls.nls) ?_)
          first | exact hq | (rw [decide_eq_true (hb2.2 (by assumption))]; exact hq) | (exfalso; rw [hb2.1] at g8_42; simp at g8_42; done)
      ·first
       |(exfalso; (try simp only [bs] at g8_7) <;> (first | (exact absurd rfl g8_7) | (exact g8_7 trivial) | omega | (simp at g8_7; done)); done)
       |skip
        try simp only [bs] at g8_7
        refine OW_no rfl ?_
        refine EN139_CF15 rfl ?_
        refine OW_no rfl ?_
        refine OW_no rfl ?_
        refine OW_pick rfl rfl rfl ?_
        refine EN139_CF15 rfl ?_
        refine OW_mv rfl rfl ?_
        refine OW_no rfl ?_
        refine OW_no rfl ?_
        refine EN139_CF15 rfl ?_
        refine OW_no rfl ?_
        refine OW_pick rfl rfl rfl ?_
        refine OW_mv rfl rfl ?_
        refine EN139_CF15 rfl ?_
        refine OW_no rfl ?_
        refine OW_no rfl ?_
        refine OW_no rfl ?_
        refine EN139_CF15 rfl ?_
        refine OW_pick rfl rfl rfl ?_
        refine OW_mv rfl rfl ?_
        refine OW_no rfl ?_
        refine EN139_CF15 rfl ?_
        refine OW_no rfl ?_
        refine OW_no rfl ?_
        refine OW_pick rfl rfl rfl ?_
        refine EN139_CF15 rfl ?_
        refine OW_mv rfl rfl ?_
        refine OW_no rfl ?_
        refine OW_no rfl ?_
        refine EN139_CF15 rfl ?_
        refine OW_no rfl ?_
        refine OW_pick rfl rfl rfl ?_
        refine OW_mv rfl rfl ?_
        refine EN139_CF15 rfl ?_
        refine OW_no rfl ?_
        refine OW_pick rfl rfl rfl ?_
        refine OW_mv rfl rfl ?_
        refine EN139_CF15 rfl ?_
        refine OW_no rfl ?_
        refine OW_no rfl ?_
        refine OW_no rfl ?_
        refine EN139_CF15 rfl ?_
        refine OW_no rfl ?_
        refine OW_no rfl ?_
        refine OW_pick rfl rfl rfl ?_
        refine EN139_CF15 rfl ?_
        refine OW_mv rfl rfl ?_
        refine OW_no rfl ?_
        refine OW_no rfl ?_
        refine EN139_CF15 rfl ?_
        refine OW_no rfl ?_
        refine OW_no rfl ?_
        refine OW_no rfl ?_
        refine EN139_CF15 rfl ?_
        refine OW_no rfl ?_
        refine OW_no rfl ?_
        refine OW_pick rfl rfl rfl ?_
        refine EN139_CF15 rfl ?_
        refine OW_as rfl rfl ?_
        refine EZ139_CF15 rfl ?_
        refine XW_ret ?_
        -- outcome 17
        refine ret_ret (res1 rfl (rv_tmp rfl)) (frz1 (Q := Q) (by first | exact freeze_plain rfl | exact Ls.freeze (by assumption) | exact Ls.freeze Ls.of | exact Ls.freeze Ls.emp | exact Ls.freeze Ls.nls) ?_)
        first | exact hq | (rw [decide_eq_true (hb2.2 (by assumption))]; exact hq) | (exfalso; rw [hb2.1] at g8_42; simp at g8_42; done)
  ·first
   |(exfalso; (try simp only [bs] at g7_16) <;> (first | (exact absurd rfl g7_16) | (exact g7_16 trivial) | omega | (simp at g7_16; done)); done)
   |skip
    try simp only [bs] at g7_16
    refine OW_no rfl ?_
    refine EN139_CF15 rfl ?_
    refine OW_no rfl ?_
    refine OW_no rfl ?_
    refine OW_no rfl ?_
    refine EN139_CF15 rfl ?_
    refine OW_no rfl ?_
    refine OW_pick rfl rfl rfl ?_
    refine OW_mv rfl rfl ?_
    refine EN139_CF15 rfl ?_
    refine OW_no rfl ?_
    refine OW_no rfl ?_
    refine OW_no rfl ?_
    refine EN139_CF15 rfl ?_
    refine OW_no rfl ?_
    refine OW_no rfl ?_
    refine OW_no rfl ?_
    refine EN139_CF15 rfl ?_
    refine OW_no rfl ?_
    refine OW_pick rfl rfl rfl ?_
    refine OW_as rfl rfl ?_
    refine EZ139_CF15 rfl ?_
    refine XW_sr ?_
    refine OW_fn rfl rfl (fixedW (by kernel_rfl) ?_) 
    refine OW_mv rfl rfl ?_
    refine OW_mv rfl rfl ?_
    refine EN139_CF15 rfl ?_
    refine OW_mv rfl rfl ?_
    refine OW_bin rfl rfl rfl rfl rfl ?_
    refine OW_pick rfl rfl rfl ?_
    refine EN139_CF15 rfl ?_
    refine OW_mv rfl rfl ?_
    refine OW_split (tt := 95) rfl (fun g8_7 => ?_) (fun g8_7 => ?_)
    ·first
     |(exfalso; (try simp only [bs] at g8_7) <;> (first | (exact absurd rfl g8_7) | (exact g8_7 trivial) | omega | (simp at g8_7; done)); done)
     |skip
      try simp only [bs] at g8_7
      refine OW_mv rfl rfl ?_
      refine EN139_CF15 rfl ?_
      refine OW_mv rfl rfl ?_
      refine OW_bin rfl rfl rfl rfl rfl ?_
      refine OW_pick rfl rfl rfl ?_
      refine EN139_CF15 rfl ?_
      refine OW_mv rfl rfl ?_
      refine OW_split (tt := 100) rfl (fun g8_12 => ?_) (fun g8_12 => ?_)
      ·first
       |(exfalso; (try simp only [bs] at g8_12) <;> (first | (exact absurd rfl g8_12) | (exact g8_12 trivial) | omega | (simp at g8_12; done)); done)
       |skip
        try simp only [bs] at g8_12
        refine OW_mv rfl rfl ?_
        refine EN139_CF15 rfl ?_
        refine OW_mv rfl rfl ?_
        refine OW_bin rfl rfl rfl rfl rfl ?_
        refine OW_pick rfl rfl rfl ?_
        refine EN139_CF15 rfl ?_
        refine OW_mv rfl rfl ?_
        refine OW_split (tt := 105) rfl (fun g8_17 => ?_) (fun g8_17 => ?_)
        ·first
         |(exfalso; (try simp only [bs] at g8_17) <;> (first | (exact absurd rfl g8_17) | (exact g8_17 trivial) | omega | (simp at g8_17; done)); done)
         |skip
          try simp only [bs] at g8_17
          refine OW_mv rfl rfl ?_
          refine EN139_CF15 rfl ?_
          refine OW_mv rfl rfl ?_
          refine OW_bin rfl rfl rfl rfl rfl ?_
          refine OW_pick rfl rfl rfl ?_
          refine EN139_CF15 rfl ?_
          refine OW_mv rfl rfl ?_
          refine OW_split (tt := 110) rfl (fun g8_22 => ?_) (fun g8_22 => ?_)
          ·first
           |(exfalso; (try simp only [bs] at g8_22) <;> (first | (exact absurd rfl g8_22) | (exact g8_22 trivial) | omega | (simp at g8_22; done)); done)
           |skip
            try simp only [bs] at g8_22
            refine OW_loadR hS8 (k := 2) rfl rfl rfl rfl rfl (by first | exact part_whole rfl rfl rfl | rfl) ?_
            refine EN139_CF15 rfl ?_
            refine OW_loadR hS8 (k := 1) rfl rfl rfl rfl rfl (by first | exact part_whole rfl rfl rfl | rfl) ?_
            refine OW_fn rfl rfl (rf_is (a := r) (b := r) rfl rfl hrf hrf ?_) 
            refine OW_pick rfl rfl rfl ?_
            refine EN139_CF15 rfl ?_
            refine OW_mv rfl rfl ?_
            refine OW_split (tt := 115) rfl (fun g8_27 => ?_) (fun g8_27 => ?_)
            ·first
             |(exfalso; (try simp only [bs] at g8_27) <;> (first | (exact absurd rfl g8_27) | (exact g8_27 trivial) | omega | (simp at g8_27; done)); done)
             |skip
              try simp only [bs] at g8_27
              refine OW_mv rfl rfl ?_
              refine EN139_CF15 rfl ?_
              refine OW_mv rfl rfl ?_
              refine OW_bin rfl rfl rfl rfl rfl ?_
              refine OW_pick rfl rfl rfl ?_
              refine EN139_CF15 rfl ?_
              refine OW_mv rfl rfl ?_
              refine OW_split (tt := 120) rfl (fun g8_32 => ?_) (fun g8_32 => ?_)
              ·first
               |(exfalso; (try simp only [bs] at g8_32) <;> (first | (exact absurd rfl g8_32) | (exact g8_32 trivial) | omega | (simp at g8_32; done)); done)
               |skip
                try simp only [bs] at g8_32
                refine OW_mv rfl rfl ?_
                refine EN139_CF15 rfl ?_
                refine OW_pick rfl rfl rfl ?_
                refine OW_mv rfl rfl ?_
                refine OW_no rfl ?_
                refine EN139_CF15 rfl ?_
                refine OW_no rfl ?_
                refine OW_no rfl ?_
                refine OW_no rfl ?_
                refine EN139_CF15 rfl ?_
                refine OW_no rfl ?_
                refine OW_pick rfl rfl rfl ?_
                refine OW_mv rfl rfl ?_
                refine EN139_CF15 rfl ?_
                refine OW_no rfl ?_
                refine OW_no rfl ?_
                refine OW_no rfl ?_
                refine EN139_CF15 rfl ?_
                refine OW_no rfl ?_
                refine OW_no rfl ?_
                refine OW_no rfl ?_
                refine EN139_CF15 rfl ?_
                refine OW_no rfl ?_
                refine OW_pick rfl rfl rfl ?_
                refine OW_as rfl rfl ?_
                refine EZ139_CF15 rfl ?_
                refine XW_ret ?_
                -- outcome 18
                refine ret_ret (res1 rfl (rv_tmp rfl)) (frz1 (Q := Q) (by first | exact freeze_plain rfl | exact Ls.freeze (by assumption) | exact Ls.freeze Ls.of | exact Ls.freeze Ls.emp | exact Ls.freeze Ls.nls) ?_)
                first | exact hq | (rw [decide_eq_true (hb2.2 (by assumption))]; exact hq) | (exfalso; rw [hb2.1] at g8_42; simp at g8_42; done)
              ·first
               |(exfalso; (try simp only [bs] at g8_32) <;> (first | (exact absurd rfl g8_32) | (exact g8_32 trivial) | omega | (simp at g8_32; done)); done)
               |skip
                try simp only [bs] at g8_32
                refine OW_no rfl ?_
                refine EN139_CF15 rfl ?_
                refine OW_pick rfl rfl rfl ?_
                refine OW_mv rfl rfl ?_
                refine OW_no rfl ?_
                refine EN139_CF15 rfl ?_
                refine OW_no rfl ?_
                refine OW_no rfl ?_
                refine OW_no rfl ?_
                refine EN139_CF15 rfl ?_
                refine OW_no rfl ?_
                refine OW_pick rfl rfl rfl ?_
                refine OW_mv rfl rfl ?_
                refine EN139_CF15 rfl ?_
                refine OW_no rfl ?_
                refine OW_no rfl ?_
                refine OW_no rfl ?_
                refine EN139_CF15 rfl ?_
                refine OW_no rfl ?_
                refine OW_no rfl ?_
                refine OW_no rfl ?_
                refine EN139_CF15 rfl ?_
                refine OW_no rfl ?_
                refine OW_pick rfl rfl rfl ?_
                refine OW_as rfl rfl ?_
                refine EZ139_CF15 rfl ?_
                refine XW_ret ?_
                -- outcome 19
                refine ret_ret (res1 rfl (rv_tmp rfl)) (frz1 (Q := Q) (by first | exact freeze_plain rfl | exact Ls.freeze (by assumption) | exact Ls.freeze Ls.of | exact Ls.freeze Ls.emp | exact Ls.freeze Ls.nls) ?_)
                first | exact hq | (rw [decide_eq_true (hb2.2 (by assumption))]; exact hq) | (exfalso; rw [hb2.1] at g8_42; simp at g8_42; done)
            ·first
             |(exfalso; (try simp only [bs] at g8_27) <;> (first | (exact absurd rfl g8_27) | (exact g8_27 trivial) | omega | (simp at g8_27; done)); done)
             |skip
              try simp only [bs] at g8_27
              refine OW_no rfl ?_
              refine EN139_CF15 rfl ?_
              refine OW_no rfl ?_
              refine OW_no rfl ?_
              refine OW_pick rfl rfl rfl ?_
              refine EN139_CF15 rfl ?_
              refine OW_mv rfl rfl ?_
              refine OW_no rfl ?_
              refine OW_pick rfl rfl rfl ?_
              refine EN139_CF15 rfl ?_
              refine OW_mv rfl rfl ?_
              refine OW_no rfl ?_
              refine OW_no rfl ?_
              refine EN139_CF15 rfl ?_
              refine OW_no rfl ?_
              refine OW_no rfl ?_
              refine OW_no rfl ?_
              refine EN139_CF15 rfl ?_
              refine OW_pick rfl rfl rfl ?_
              refine OW_mv rfl rfl ?_
              refine OW_no rfl ?_
              refine EN139_CF15 rfl ?_
              refine OW_no rfl ?_
              refine OW_no rfl ?_
              refine OW_no rfl ?_
              refine EN139_CF15 rfl ?_
              refine OW_no rfl ?_
              refine OW_no rfl ?_
              refine OW_no rfl ?_
              refine EN139_CF15 rfl ?_
              refine OW_pick rfl rfl rfl ?_
              refine OW_as rfl rfl ?_
              refine EZ139_CF15 rfl ?_
              refine XW_ret ?_
              -- outcome 20
              refine ret_ret (res1 rfl (rv_tmp rfl)) (frz1 (Q := Q) (by first | exact freeze_plain rfl | exact Ls.freeze (by assumption) | exact Ls.freeze Ls.of | exact Ls.freeze Ls.emp | exact Ls.freeze Ls.nls) ?_)
              first | exact hq | (rw [decide_eq_true (hb2.2 (by assumption))]; exact hq) | (exfalso; rw [hb2.1] at g8_42; simp at g8_42; done)
          ·first
           |(exfalso; (try simp only [bs] at g8_22) <;> (first | (exact absurd rfl g8_22) | (exact g8_22 trivial) | omega | (simp at g8_22; done)); done)
           |skip
            try simp only [bs] at g8_22
            refine OW_no rfl ?_
            refine EN139_CF15 rfl ?_
            refine OW_no rfl ?_
            refine OW_no rfl ?_
            refine OW_pick rfl rfl rfl ?_
            refine EN139_CF15 rfl ?_
            refine OW_mv rfl rfl ?_
            refine OW_no rfl ?_
            refine OW_no rfl ?_
            refine EN139_CF15 rfl ?_
            refine OW_no rfl ?_
            refine OW_pick rfl rfl rfl ?_
            refine OW_mv rfl rfl ?_
            refine EN139_CF15 rfl ?_
            refine OW_no rfl ?_
            refine OW_pick rfl rfl rfl ?_
            refine OW_mv rfl rfl ?_
            refine EN139_CF15 rfl ?_
            refine OW_no rfl ?_
            refine OW_no rfl ?_
            refine OW_no rfl ?_
            refine EN139_CF15 rfl ?_
            refine OW_no rfl ?_
            refine OW_no rfl ?_
            refine OW_pick rfl rfl rfl ?_
            refine EN139_CF15 rfl ?_
            refine OW_mv rfl rfl ?_
            refine OW_no rfl ?_
            refine OW_no rfl ?_
            refine EN139_CF15 rfl ?_
            refine OW_no rfl ?_
            refine OW_no rfl ?_
            refine OW_no rfl ?_
            refine EN139_CF15 rfl ?_
            refine OW_no rfl ?_
            refine OW_no rfl ?_
            refine OW_pick rfl rfl rfl ?_
            refine EN139_CF15 rfl ?_
            refine OW_as rfl rfl ?_
            refine EZ139_CF15 rfl ?_
            refine XW_ret ?_
            -- outcome 21
            refine ret_ret (res1 rfl (rv_tmp rfl)) (frz1 (Q := Q) (by first | exact freeze_plain rfl | exact Ls.freeze (by assumption) | exact Ls.freeze Ls.of | exact Ls.freeze Ls.emp | exact Ls.freeze Ls.nls) ?_)
            first | exact hq | (rw [decide_eq_true (hb2.2 (by assumption))]; exact hq) | (exfalso; rw [hb2.1] at g8_42; simp at g8_42; done)
        ·first
         |(exfalso; (try simp only [bs] at g8_17) <;> (first | (exact absurd rfl g8_17) | (exact g8_17 trivial) | omega | (simp at g8_17; done)); done)
         |skip
          try simp only [bs] at g8_17
          refine OW_no rfl ?_
          refine EN139_CF15 rfl ?_
          refine OW_no rfl ?_
          refine OW_no rfl ?_
          refine OW_pick rfl rfl rfl ?_
          refine EN139_CF15 rfl ?_
          refine OW_mv rfl rfl ?_
          refine OW_no rfl ?_
          refine OW_no rfl ?_
          refine EN139_CF15 rfl ?_
          refine OW_no rfl ?_
          refine OW_pick rfl rfl rfl ?_
          refine OW_mv rfl rfl ?_
          refine EN139_CF15 rfl ?_
          refine OW_no rfl ?_
          refine OW_no rfl ?_
          refine OW_no rfl ?_
          refine EN139_CF15 rfl ?_
          refine OW_pick rfl rfl rfl ?_
          refine OW_mv rfl rfl ?_
          refine OW_no rfl ?_
          refine EN139_CF15 rfl ?_
          refine OW_pick rfl rfl rfl ?_
          refine OW_mv rfl rfl ?_
          refine OW_no rfl ?_
          refine EN139_CF15 rfl ?_
          refine OW_no rfl ?_
          refine OW_no rfl ?_
          refine OW_no rfl ?_
          refine EN139_CF15 rfl ?_
          refine OW_no rfl ?_
          refine OW_pick rfl rfl rfl ?_
          refine OW_mv rfl rfl ?_
          refine EN139_CF15 rfl ?_
          refine OW_no rfl ?_
          refine OW_no rfl ?_
          refine OW_no rfl ?_
          refine EN139_CF15 rfl ?_
          refine OW_no rfl ?_
          refine OW_no rfl ?_
          refine OW_no rfl ?_
          refine EN139_CF15 rfl ?_
          refine OW_no rfl ?_
          refine OW_pick rfl rfl rfl ?_
          refine OW_as rfl rfl ?_
          refine EZ139_CF15 rfl ?_
          refine XW_ret ?_
          -- outcome 22
          refine ret_ret (res1 rfl (rv_tmp rfl)) (frz1 (Q := Q) (by first | exact freeze_plain rfl | exact Ls.freeze (by assumption) | exact Ls.freeze Ls.of | exact Ls.freeze Ls.emp | exact Ls.freeze Ls.nls) ?_)
          first | exact hq | (rw [decide_eq_true (hb2.2 (by assumption))]; exact hq) | (exfalso; rw [hb2.1] at g8_42; simp at g8_42; done)
      ·first
       |(exfalso; (try simp only [bs] at g8_12) <;> (first | (exact absurd rfl g8_12) | (exact g8_12 trivial) | omega | (simp at g8_12; done)); done)
       |skip
        try simp only [bs] at g8_12
        refine OW_no rfl ?_
        refine EN139_CF15 rfl ?_
        refine OW_no rfl ?_
        refine OW_no rfl ?_
        refine OW_pick rfl rfl rfl ?_
        refine EN139_CF15 rfl ?_
        refine OW_mv rfl rfl ?_
        refine OW_no rfl ?_
        refine OW_no rfl ?_
        refine EN139_CF15 rfl ?_
        refine OW_no rfl ?_
        refine OW_pick rfl rfl rfl ?_
        refine OW_mv rfl rfl ?_
        refine EN139_CF15 rfl ?_
        refine OW_no rfl ?_
        refine OW_no rfl ?_
        refine OW_no rfl ?_
        refine EN139_CF15 rfl ?_
        refine OW_pick rfl rfl rfl ?_
        refine OW_mv rfl rfl ?_
        refine OW_no rfl ?_
        refine EN139_CF15 rfl ?_
        refine OW_no rfl ?_
        refine OW_no rfl ?_
        refine OW_pick rfl rfl rfl ?_
        refine EN139_CF15 rfl ?_
        refine OW_mv rfl rfl ?_
        refine OW_no rfl ?_
        refine OW_pick rfl rfl rfl ?_
        refine EN139_CF15 rfl ?_
        refine OW_mv rfl rfl ?_
        refine OW_no rfl ?_
        refine OW_no rfl ?_
        refine EN139_CF15 rfl ?_
        refine OW_no rfl ?_
        refine OW_no rfl ?_
        refine OW_no rfl ?_
        refine EN139_CF15 rfl ?_
        refine OW_pick rfl rfl rfl ?_
        refine OW_mv rfl rfl ?_
        refine OW_no rfl ?_
        refine EN139_CF15 rfl ?_
        refine OW_no rfl ?_
        refine OW_no rfl ?_
        refine OW_no rfl ?_
        refine EN139_CF15 rfl ?_
        refine OW_no rfl ?_
        refine OW_no rfl ?_
        refine OW_no rfl ?_
        refine EN139_CF15 rfl ?_
        refine OW_pick rfl rfl rfl ?_
        refine OW_as rfl rfl ?_
        refine EZ139_CF15 rfl ?_
        refine XW_ret ?_
        -- outcome 23
        refine ret_ret (res1 rfl (rv_tmp rfl)) (frz1 (Q := Q) (by first | exact freeze_plain rfl | exact Ls.freeze (by assumption) | exact Ls.freeze Ls.of | exact Ls.freeze Ls.emp | exact Ls.freeze Ls.nls) ?_)
        first | exact hq | (rw [decide_eq_true (hb2.2 (by assumption))]; exact hq) | (exfalso; rw [hb2.1] at g8_42; simp at g8_42; done)
    ·first
     |(exfalso; (try simp only [bs] at g8_7) <;> (first | (exact absurd rfl g8_7) | (exact g8_7 trivial) | omega | (simp at g8_7; done)); done)
     |skip
      try simp only [bs] at g8_7
      refine OW_no rfl ?_
      refine EN139_CF15 rfl ?_
      refine OW_no rfl ?_
      refine OW_no rfl ?_
      refine OW_pick rfl rfl rfl ?_
      refine EN139_CF15 rfl ?_
      refine OW_mv rfl rfl ?_
      refine OW_no rfl ?_
      refine OW_no rfl ?_
      refine EN139_CF15 rfl ?_
      refine OW_no rfl ?_
      refine OW_pick rfl rfl rfl ?_
      refine OW_mv rfl rfl ?_
      refine EN139_CF15 rfl ?_
      refine OW_no rfl ?_
      refine OW_no rfl ?_
      refine OW_no rfl ?_
      refine EN139_CF15 rfl ?_
      refine OW_pick rfl rfl rfl ?_
      refine OW_mv rfl rfl ?_
      refine OW_no rfl ?_
      refine EN139_CF15 rfl ?_
      refine OW_no rfl ?_
      refine OW_no rfl ?_
      refine OW_pick rfl rfl rfl ?_
      refine EN139_CF15 rfl ?_
      refine OW_mv rfl rfl ?_
      refine OW_no rfl ?_
      refine OW_no rfl ?_
      refine EN139_CF15 rfl ?_
      refine OW_no rfl ?_
      refine OW_pick rfl rfl rfl ?_
      refine OW_mv rfl rfl ?_
      refine EN139_CF15 rfl ?_
      refine OW_no rfl ?_
      refine OW_pick rfl rfl rfl ?_
      refine OW_mv rfl rfl ?_
      refine EN139_CF15 rfl ?_
      refine OW_no rfl ?_
      refine OW_no rfl ?_
      refine OW_no rfl ?_
      refine EN139_CF15 rfl ?_
      refine OW_no rfl ?_
      refine OW_no rfl ?_
      refine OW_pick rfl rfl rfl ?_
      refine EN139_CF15 rfl ?_
      refine OW_mv rfl rfl ?_
      refine OW_no rfl ?_
      refine OW_no rfl ?_
      refine EN139_CF15 rfl ?_
      refine OW_no rfl ?_
      refine OW_no rfl ?_
      refine OW_no rfl ?_
      refine EN139_CF15 rfl ?_
      refine OW_no rfl ?_
      refine OW_no rfl ?_
      refine OW_pick rfl rfl rfl ?_
      refine EN139_CF15 rfl ?_
      refine OW_as rfl rfl ?_
      refine EZ139_CF15 rfl ?_
      refine XW_ret ?_
      -- outcome 24
      refine ret_ret (res1 rfl (rv_tmp rfl)) (frz1 (Q := Q) (by first | exact freeze_plain rfl | exact Ls.freeze (by assumption) | exact Ls.freeze Ls.of | exact Ls.freeze Ls.emp | exact Ls.freeze Ls.nls) ?_)
      first | exact hq | (rw [decide_eq_true (hb2.2 (by assumption))]; exact hq) | (exfalso; rw [hb2.1] at g8_42; simp at g8_42; done)
end Go.Proofs.Ytealccnfnpkngaa.X
namespace Go.Proofs.Ytealccnfnpkngaa.X
open Go Go.RowKit
def Qu.Q (x : Qu) (n : Nat) : Prop := Open.QSt (Open.QPair (Open.QInt .u64) (Open.QPair (Open.QInt .u64) (Open.QInt .u64))) (x.tn, x.us, x.li) n
theorem Qu.ok {a : Qu} {n : Nat} (h : Qu.Q a n) : (0 ≤ a.tn ∧ a.tn ≤ 18446744073709551615) ∧ (0 ≤ a.us ∧ a.us ≤ 18446744073709551615) ∧ (0 ≤ a.li ∧ a.li ≤ 18446744073709551615) := by
  obtain ⟨mm, hm, ⟨m0, k0, e0, h0, ⟨m1, k1, e1, h1, h2⟩⟩⟩ := h
  exact ⟨(in_u64 h0), (in_u64 h1), (in_u64 h2)⟩
theorem Qu.Q_mono {a : Qu} {n m : Nat} (h : Qu.Q a n) (hm : n ≤ m) : Qu.Q a m := let ⟨k, h1, h2⟩ := h; ⟨k, Nat.le_trans h1 hm, h2⟩
theorem Qu.Q.pos {a : Qu} {n : Nat} (h : Qu.Q a n) : 1 ≤ n := let ⟨k, h1, _⟩ := h; by omega
def Pl.Q (x : Pl) (n : Nat) : Prop := Open.QSt (Open.QPair (Open.QInt .u64) (Open.QPair (Open.QInt .u64) (Open.QPair (Open.QInt .u64) (Open.QPair (Open.QInt .u64) (Open.QInt .u64))))) (x.vo, x.te, x.de, x.ep, x.gr) n
theorem Pl.ok {a : Pl} {n : Nat} (h : Pl.Q a n) : (0 ≤ a.vo ∧ a.vo ≤ 18446744073709551615) ∧ (0 ≤ a.te ∧ a.te ≤ 18446744073709551615) ∧ (0 ≤ a.de ∧ a.de ≤ 18446744073709551615) ∧ (0 ≤ a.ep ∧ a.ep ≤ 18446744073709551615) ∧ (0 ≤ a.gr ∧ a.gr ≤ 18446744073709551615) := by
  obtain ⟨mm, hm, ⟨m0, k0, e0, h0, ⟨m1, k1, e1, h1, ⟨m2, k2, e2, h2, ⟨m3, k3, e3, h3, h4⟩⟩⟩⟩⟩ := h
  exact ⟨(in_u64 h0), (in_u64 h1), (in_u64 h2), (in_u64 h3), (in_u64 h4)⟩
theorem Pl.Q_mono {a : Pl} {n m : Nat} (h : Pl.Q a n) (hm : n ≤ m) : Pl.Q a m := let ⟨k, h1, h2⟩ := h; ⟨k, Nat.le_trans h1 hm, h2⟩
theorem Pl.Q.pos {a : Pl} {n : Nat} (h : Pl.Q a n) : 1 ≤ n := let ⟨k, h1, _⟩ := h; by omega
def Cf.Q (x : Cf) (n : Nat) : Prop := Open.QSt (Open.QPair (Open.QSl Qu.Q) (Open.QPair (Open.QSl Pl.Q) (Open.QInt .u64))) (x.qs, x.ps, x.nx) n
theorem Cf.ok {a : Cf} {n : Nat} (h : Cf.Q a n) : (a.qs.length + 1 ≤ n ∧ ∀ x ∈ a.qs, Qu.Q x n) ∧ (a.ps.length + 1 ≤ n ∧ ∀ x ∈ a.ps, Pl.Q x n) ∧ (0 ≤ a.nx ∧ a.nx ≤ 18446744073709551615) := by
  obtain ⟨mm, hm, ⟨m0, k0, e0, h0, ⟨m1, k1, e1, h1, h2⟩⟩⟩ := h
  exact ⟨(⟨Nat.le_trans (qsl_len h0 (fun _ _ h => h.pos)) (by omega), fun x hx => let ⟨_, h⟩ := qsl_mem h0 x hx; Qu.Q_mono h.2 (by omega)⟩), (⟨Nat.le_trans (qsl_len h1 (fun _ _ h => h.pos)) (by omega), fun x hx => let ⟨_, h⟩ := qsl_mem h1 x hx; Pl.Q_mono h.2 (by omega)⟩), (in_u64 h2)⟩
theorem Cf.Q_mono {a : Cf} {n m : Nat} (h : Cf.Q a n) (hm : n ≤ m) : Cf.Q a m := let ⟨k, h1, h2⟩ := h; ⟨k, Nat.le_trans h1 hm, h2⟩
theorem Cf.Q.pos {a : Cf} {n : Nat} (h : Cf.Q a n) : 1 ≤ n := let ⟨k, h1, _⟩ := h; by omega
def Dc.Q (x : Dc) (n : Nat) : Prop := Open.QSt (Open.QPair (Open.QInt .i64) (Open.QPair (Open.QInt .u64) (Open.QInt .u64))) (x.d, x.a, x.b) n
theorem Dc.ok {a : Dc} {n : Nat} (h : Dc.Q a n) : (-9223372036854775808 ≤ a.d ∧ a.d ≤ 9223372036854775807) ∧ (0 ≤ a.a ∧ a.a ≤ 18446744073709551615) ∧ (0 ≤ a.b ∧ a.b ≤ 18446744073709551615) := by
  obtain ⟨mm, hm, ⟨m0, k0, e0, h0, ⟨m1, k1, e1, h1, h2⟩⟩⟩ := h
  exact ⟨(in_i64 h0), (in_u64 h1), (in_u64 h2)⟩
theorem Dc.Q_mono {a : Dc} {n m : Nat} (h : Dc.Q a n) (hm : n ≤ m) : Dc.Q a m := let ⟨k, h1, h2⟩ := h; ⟨k, Nat.le_trans h1 hm, h2⟩
theorem Dc.Q.pos {a : Dc} {n : Nat} (h : Dc.Q a n) : 1 ≤ n := let ⟨k, h1, _⟩ := h; by omega
theorem cf_fits {c : Cf} {n : Nat} (h : Cf.Q c n) (hn : n ≤ 1048576) : c.fit := by
  obtain ⟨⟨h1, h2⟩, ⟨h3, h4⟩, h5⟩ := Cf.ok h
  exact ⟨fun x hx => Qu.ok (h2 x hx), fun x hx => Pl.ok (h4 x hx), h5, by omega, by omega⟩
theorem ConfTexts_true (a0 : Cf) (n0 : Nat) (q0 : Cf.Q a0 n0) (a1 : Dc) (n1 : Nat) (q1 : Dc.Q a1 n1) (a2 : ByteArray) (n2 : Nat) (q2 : Open.QStr a2 n2) (hb : n0 + (n1 + (n2 + (0))) ≤ 1048576) :
    CW cfg [] 7 [Cf.enc a0, Dc.enc a1, AVal.str a2] (fun _ => none) (fun v _ => v = .bool true) := by
  have hd := Dc.ok q1
  have hs : a2.size + 1 ≤ n2 := Nat.le_trans q2.2 (by omega)
  exact lawTexts (cf_fits q0 (by omega)) ⟨hd.2.1, hd.2.2⟩ (by omega) rfl
end Go.Proofs.Ytealccnfnpkngaa.X
