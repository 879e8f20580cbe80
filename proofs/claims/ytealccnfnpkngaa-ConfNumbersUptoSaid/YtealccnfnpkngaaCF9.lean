/- Layer 14: ConfRuns, ConfBalanced, ConfNumbers. -/
import Derived.Test.YtealccnfnpkngaaCF8
import Derived.Test.YtealccnfnpkngaaCF0
set_option linter.unusedVariables false
set_option linter.unusedSimpArgs false
set_option maxRecDepth 100000
set_option maxHeartbeats 2000000
namespace Go.Proofs.Ytealccnfnpkngaa.X
open Go Go.RowKit WM
theorem EN113_CF9 {c : Cfg} {ν : Nm} {e : Env} {H : Heap} {all : Array Oper} {r : List Oper} {i : Nat} {Q : Env → Heap → Prop} {x0 x1 x2 x3 x4 x5 x6 x7 x8 x9 x10 x11 x12 x13 x14 x15 x16 x17 x18 x19 x20 x21 x22 x23 x24 x25 x26 x27 x28 x29 x30 x31 x32 x33 x34 x35 x36 x37 x38 x39 x40 x41 x42 x43 x44 x45 x46 x47 x48 x49 x50 x51 x52 x53 x54 x55 x56 x57 x58 x59 x60 x61 x62 x63 x64 x65 x66 x67 x68 x69 x70 x71 x72 x73 x74 x75 x76 x77 x78 x79 x80 x81 x82 x83 x84 x85 x86 x87 x88 x89 x90 x91 x92 x93 x94 x95 x96 x97 x98 x99 x100 x101 x102 x103 x104 x105 x106 x107 x108 x109 x110 x111 x112 : AVal} (he : e = [x0,x1,x2,x3,x4,x5,x6,x7,x8,x9,x10,x11,x12,x13,x14,x15,x16,x17,x18,x19,x20,x21,x22,x23,x24,x25,x26,x27,x28,x29,x30,x31,x32,x33,x34,x35,x36,x37,x38,x39,x40,x41,x42,x43,x44,x45,x46,x47,x48,x49,x50,x51,x52,x53,x54,x55,x56,x57,x58,x59,x60,x61,x62,x63,x64,x65,x66,x67,x68,x69,x70,x71,x72,x73,x74,x75,x76,x77,x78,x79,x80,x81,x82,x83,x84,x85,x86,x87,x88,x89,x90,x91,x92,x93,x94,x95,x96,x97,x98,x99,x100,x101,x102,x103,x104,x105,x106,x107,x108,x109,x110,x111,x112]) (h : OW c ν all r i [x0,x1,x2,x3,x4,x5,x6,x7,x8,x9,x10,x11,x12,x13,x14,x15,x16,x17,x18,x19,x20,x21,x22,x23,x24,x25,x26,x27,x28,x29,x30,x31,x32,x33,x34,x35,x36,x37,x38,x39,x40,x41,x42,x43,x44,x45,x46,x47,x48,x49,x50,x51,x52,x53,x54,x55,x56,x57,x58,x59,x60,x61,x62,x63,x64,x65,x66,x67,x68,x69,x70,x71,x72,x73,x74,x75,x76,x77,x78,x79,x80,x81,x82,x83,x84,x85,x86,x87,x88,x89,x90,x91,x92,x93,x94,x95,x96,x97,x98,x99,x100,x101,x102,x103,x104,x105,x106,x107,x108,x109,x110,x111,x112] H Q) : OW c ν all r i e H Q := by subst he; exact h
theorem EZ113_CF9 {c : Cfg} {ν : Nm} {e : Env} {H : Heap} {all : Array Oper} {i : Nat} {Q : Env → Heap → Prop} {x0 x1 x2 x3 x4 x5 x6 x7 x8 x9 x10 x11 x12 x13 x14 x15 x16 x17 x18 x19 x20 x21 x22 x23 x24 x25 x26 x27 x28 x29 x30 x31 x32 x33 x34 x35 x36 x37 x38 x39 x40 x41 x42 x43 x44 x45 x46 x47 x48 x49 x50 x51 x52 x53 x54 x55 x56 x57 x58 x59 x60 x61 x62 x63 x64 x65 x66 x67 x68 x69 x70 x71 x72 x73 x74 x75 x76 x77 x78 x79 x80 x81 x82 x83 x84 x85 x86 x87 x88 x89 x90 x91 x92 x93 x94 x95 x96 x97 x98 x99 x100 x101 x102 x103 x104 x105 x106 x107 x108 x109 x110 x111 x112 : AVal} (he : e = [x0,x1,x2,x3,x4,x5,x6,x7,x8,x9,x10,x11,x12,x13,x14,x15,x16,x17,x18,x19,x20,x21,x22,x23,x24,x25,x26,x27,x28,x29,x30,x31,x32,x33,x34,x35,x36,x37,x38,x39,x40,x41,x42,x43,x44,x45,x46,x47,x48,x49,x50,x51,x52,x53,x54,x55,x56,x57,x58,x59,x60,x61,x62,x63,x64,x65,x66,x67,x68,x69,x70,x71,x72,x73,x74,x75,x76,x77,x78,x79,x80,x81,x82,x83,x84,x85,x86,x87,x88,x89,x90,x91,x92,x93,x94,x95,x96,x97,x98,x99,x100,x101,x102,x103,x104,x105,x106,x107,x108,x109,x110,x111,x112]) (h : Q [x0,x1,x2,x3,x4,x5,x6,x7,x8,x9,x10,x11,x12,x13,x14,x15,x16,x17,x18,x19,x20,x21,x22,x23,x24,x25,x26,x27,x28,x29,x30,x31,x32,x33,x34,x35,x36,x37,x38,x39,x40,x41,x42,x43,x44,x45,x46,x47,x48,x49,x50,x51,x52,x53,x54,x55,x56,x57,x58,x59,x60,x61,x62,x63,x64,x65,x66,x67,x68,x69,x70,x71,x72,x73,x74,x75,x76,x77,x78,x79,x80,x81,x82,x83,x84,x85,x86,x87,x88,x89,x90,x91,x92,x93,x94,x95,x96,x97,x98,x99,x100,x101,x102,x103,x104,x105,x106,x107,x108,x109,x110,x111,x112] H) : OW c ν all [] i e H Q := by subst he; exact OW_nil h
variable {ν β ps pos' : Nm} {H : Heap} {Q : AVal → Heap → Prop} {L : List Asr} {k : Nat} {q : Nm}
structure Dc where
  d : Int
  a : Int
  b : Int
def Dc.enc (x : Dc) : AVal := .agg [.int .i64 x.d, .int .u64 x.a, .int .u64 x.b]
structure Dc.fit (x : Dc) : Prop where
  a : 0 ≤ x.a ∧ x.a ≤ 18446744073709551615
  b : 0 ≤ x.b ∧ x.b ≤ 18446744073709551615
theorem ok_empty {gs : Int} (h : 1 ≤ gs ∧ gs ≤ 4) : OkC ⟨[], [], 0⟩ gs := ⟨h, rfl, by simp, fun i hi => by simp at hi⟩
theorem num_empty : NumC ⟨[], [], 0⟩ := ⟨fun x hx => by simp at hx, fun x hx => by simp at hx, by decide⟩
theorem p_runE {c c' : Cf} {U V : AVal} {gs d a b n e : Int} (hU : Ls U (c.qs.map Qu.enc)) (hV : Ls V (c.ps.map Pl.enc)) (hf : c.fit) (hb : 0 ≤ b) (hr : runS c gs d a b = (c', n, e)) (hq : Q (.tup [c'.enc, .int .i64 e, .int .u64 n]) H) : CW cfg ν 10 [.agg [U, V, .int .u64 c.nx], .int .i64 gs, .int .i64 d, .int .u64 a, .int .u64 b] H Q := p_run hU hV hf hb (by rw [hr]; exact hq)
theorem r_runE {c c' : Cf} {U V : AVal} {gs d a b n e : Int} (hU : Ls U (c.qs.map Qu.enc)) (hV : Ls V (c.ps.map Pl.enc)) (hf : c.fit) (hb : 0 ≤ b) (hr : runS c gs d a b = (c', n, e)) (hq : Q (.tup [c'.enc, .int .i64 e, .int .u64 n]) H) : CW cfg ν 11 [.agg [U, V, .int .u64 c.nx], .int .i64 gs, .int .i64 d, .int .u64 a, .int .u64 b] H Q := r_run hU hV hf hb (by rw [hr]; exact hq)
theorem frL {c : Cf} {U V : AVal} (hU : Ls U (c.qs.map Qu.enc)) (hV : Ls V (c.ps.map Pl.enc)) : freeze [] H 8 (.agg [U, V, .int .u64 c.nx]) = c.enc := frC (Ls.freeze hU) (Ls.freeze hV)
/-- What a step is, for a walk. -/
theorem step_all {c : Cf} {gs : Int} {x : Dc} (ho : OkC c gs) (hn : NumC c) (hx : x.fit) : ∃ c' n e, runS c gs x.d x.a x.b = (c', n, e) ∧ Step c gs x.d x.a x.b (c', n, e) ∧ OkC c' gs ∧ NumC c' ∧ (e ≠ 0 → c' = c) := by
  have hs := runS_step (ho.fit hn) x.d x.a x.b (gs := gs)
  obtain ⟨h1, h2, h3⟩ := step_ok hs ho hn hx.a hx.b
  exact ⟨_, _, _, rfl, hs, h1, h2, h3⟩
theorem lawRuns {c0 : Cf} {gs : Int} {l : List Dc} (hf0 : c0.fit) (hl : l.length ≤ 1048577) (hF : ∀ x ∈ l, x.fit) (hq : Q (.bool true) H) : CW cfg [] 3 [c0.enc, .int .i64 gs, .lst (l.map Dc.enc)] H Q := by
  have ho0 := @chkC_of c0 gs
  refine CW_pure g3 F3 rfl ?_
  have hS0 : Own [] [] (fun _ => none) [] := Own.nil
  refine XW_sr ?_
  refine OW_boxR hS0 (le_app (p := []) (b := [0, 0])) under_nil rfl rfl rfl ⟨rfl, rfl⟩ fun H1 hS1 => ?_
  replace hS1 : Own _ _ _ ([_]) := hS1
  refine OW_as rfl rfl ?_
  refine EZ113_CF9 rfl ?_
  refine XW_seq ?_
  refine XW_sr ?_
  refine OW_fn rfl rfl (fixedW (by kernel_rfl) ?_) 
  refine OW_un rfl rfl rfl ?_
  refine OW_mv rfl rfl ?_
  refine EN113_CF9 rfl ?_
  refine OW_loadR hS1 (k := 0) rfl rfl rfl rfl rfl (by first | exact part_whole rfl rfl rfl | rfl) ?_
  refine OW_mv rfl rfl ?_
  refine OW_fn rfl rfl (rf_check (c := c0) rfl hf0 ?_) 
  refine EN113_CF9 rfl ?_
  refine OW_un rfl rfl rfl ?_
  refine OW_pick rfl rfl rfl ?_
  refine EZ113_CF9 rfl ?_
  refine XW_if rfl (fun h1 => ?_) (fun h1 => ?_)
  ·first
   |(exfalso; (try simp only [bs] at h1) <;> (first | (exact absurd rfl h1) | (exact h1 trivial) | omega | (simp at h1; done)); done)
   |skip
    try simp only [bs] at h1
    refine XW_sr ?_
    refine OW_fn rfl rfl (fixedW (by kernel_rfl) ?_) 
    refine OW_as rfl rfl ?_
    refine EZ113_CF9 rfl ?_
    refine XW_ret ?_
    refine then_ret ?_
    -- outcome 1
    refine ret_ret (res1 rfl (rv_tmp rfl)) (frz1 (Q := Q) (by first | exact freeze_plain rfl | exact Ls.freeze (by assumption) | exact Ls.freeze Ls.of | exact Ls.freeze Ls.emp | exact Ls.freeze Ls.nls) ?_)
    first
    | exact hq
    | (refine qcast hq ?_; rfl)
    | (refine qcast hq ?_; simp; done)
    | (refine qcast hq ?_; simp; omega)
    | (refine qcast hq ?_; simp_all; done)
  ·first
   |(exfalso; (try simp only [bs] at h1) <;> (first | (exact absurd rfl h1) | (exact h1 trivial) | omega | (simp at h1; done)); done)
   |skip
    try simp only [bs] at h1
    refine XW_skip ?_
    refine then_norm ?_
    refine XW_srF (qs := [0 :: 0 :: []]) rfl rfl ?_
    have hSF1 : Own _ _ _ ([_]) := (Own.hide (Own.hide0 hS1) (k := 0) rfl)
    refine OWF_fl rfl ?_
    refine OW_loadK hS1 (k := 0) rfl (by simp) rfl rfl rfl rfl (by first | exact part_whole rfl rfl rfl | rfl) ?_
    refine OW_nil ?_
    refine OWF_fl rfl ?_
    refine OW_loadK hS1 (k := 0) rfl (by simp) rfl rfl rfl rfl (by first | exact part_whole rfl rfl rfl | rfl) ?_
    refine OW_nil ?_
    refine OWF_op rfl ?_
    refine OW_allocR hSF1 (le_lit (ν := []) (a := [1, 0]) (b := [2, 0, 1, 1]) (by decide)) under_nil rfl rfl rfl rfl fun H2 hS2 => ?_
    replace hS2 : Own _ _ _ ([_, _]) := hS2
    refine OW_nil ?_
    refine OWF_env (e' := [_,_,_,_,_,_,_,_,_,_,_,_,_,_,_,_,_,_,_,_,_,_,_,_,_,_,_,_,_,_,_,_,_,_,_,_,_,_,_,_,_,_,_,_,_,_,_,_,_,_,_,_,_,_,_,_,_,_,_,_,_,_,_,_,_,_,_,_,_,_,_,_,_,_,_,_,_,_,_,_,_,_,_,_,_,_,_,_,_,_,_,_,_,_,_,_,_,_,_,_,_,_,_,_,_,_,_,_,_,_,_,_,_]) rfl ?_
    refine OWF_op rfl ?_
    refine OW_allocR hS2 le_refl under_nil rfl rfl rfl rfl fun H3 hS3 => ?_
    replace hS3 : Own _ _ _ ([_, _, _]) := hS3
    refine OW_nil ?_
    refine OWF_op rfl ?_
    first
    | refine OW_storeR hS3 (k := 1) rfl le_refl rfl rfl rfl rfl ⟨rfl, rfl, Nat.le_of_ble_eq_true rfl⟩ (set_whole rfl rfl) fun H4 hS4 => ?_
    | refine OW_storeR hS3 (k := 1) rfl le_refl rfl rfl rfl rfl ⟨rfl, rfl, Nat.le_of_ble_eq_true rfl⟩ (u2 := .agg [_, _, _]) rfl fun H4 hS4 => ?_
    replace hS4 : Own _ _ _ ([_, _, _]) := hS4
    refine OW_nil ?_
    refine OWF_op rfl ?_
    first
    | refine OW_storeR hS4 (k := 0) rfl le_refl rfl rfl rfl rfl ⟨rfl, rfl, Nat.le_of_ble_eq_true rfl⟩ (set_whole rfl rfl) fun H5 hS5 => ?_
    | refine OW_storeR hS4 (k := 0) rfl le_refl rfl rfl rfl rfl ⟨rfl, rfl, Nat.le_of_ble_eq_true rfl⟩ (u2 := .agg [_, _, _]) rfl fun H5 hS5 => ?_
    replace hS5 : Own _ _ _ ([_, _, _]) := hS5
    refine OW_nil ?_
    refine OWF_nilE (e' := [_,_,_,_,_,_,_,_,_,_,_,_,_,_,_,_,_,_,_,_,_,_,_,_,_,_,_,_,_,_,_,_,_,_,_,_,_,_,_,_,_,_,_,_,_,_,_,_,_,_,_,_,_,_,_,_,_,_,_,_,_,_,_,_,_,_,_,_,_,_,_,_,_,_,_,_,_,_,_,_,_,_,_,_,_,_,_,_,_,_,_,_,_,_,_,_,_,_,_,_,_,_,_,_,_,_,_,_,_,_,_,_,_]) rfl ?_
    have hSB1 : Own _ _ _ ([_, _, _]) := (Own.back hS1 (k := 0) rfl (Own.back0 hS5) (k' := 2) rfl)
    refine XW_seq ?_
    refine XW_sr ?_
    refine OW_as rfl rfl ?_
    refine EZ113_CF9 rfl ?_
    refine XW_block ?_
    refine XW_whileN (I := fun ν' mm ee H' => ∃ (i : Nat) (c : Cf) (U : AVal) (V : AVal), mm = l.length - i ∧ under (1 :: 0 :: 1 :: 1 :: 1 :: []) ν' = true ∧ Own [] ν' H' ([row (3 :: 0 :: 1 :: 1 :: []) 3 [.agg [U, V, .int .u64 c.nx]], row (2 :: 0 :: 1 :: 1 :: []) 3 [.agg [U, V, .int .u64 c.nx]]]) ∧ (i ≤ l.length ∧ i ≤ 100 ∧ OkC c gs ∧ NumC c ∧ Ls U (c.qs.map Qu.enc) ∧ Ls V (c.ps.map Pl.enc)) ∧ ∃ g : Nat → AVal, ee = [g 0, .int .i64 gs, .lst (l.map Dc.enc), g 3, g 4, g 5, g 6, .ptr (2 :: 0 :: 1 :: 1 :: []) 0 0, .ptr (3 :: 0 :: 1 :: 1 :: []) 0 0, .int .i64 i, g 10, g 11, g 12, g 13, g 14, g 15, g 16, g 17, g 18, g 19, g 20, g 21, g 22, g 23, g 24, g 25, g 26, g 27, g 28, g 29, g 30, g 31, g 32, g 33, g 34, g 35, g 36, g 37, g 38, g 39, g 40, g 41, g 42, g 43, g 44, g 45, g 46, g 47, g 48, g 49, g 50, g 51, g 52, g 53, g 54, g 55, g 56, g 57, g 58, g 59, g 60, g 61, g 62, g 63, g 64, g 65, g 66, g 67, g 68, g 69, g 70, g 71, g 72, g 73, g 74, g 75, g 76, g 77, g 78, g 79, g 80, g 81, g 82, g 83, g 84, g 85, g 86, g 87, g 88, g 89, g 90, g 91, g 92, g 93, g 94, g 95, g 96, g 97, g 98, g 99, g 100, g 101, g 102, g 103, g 104, g 105, g 106, g 107, g 108, g 109, g 110, g 111, g 112]) ?_ _ _ _ _ ⟨0, c0, .lst (c0.qs.map Qu.enc), .lst (c0.ps.map Pl.enc), rfl, under_me, Own.cast (Own.mono (Own.drop hSB1 (k := 2) rfl) (le_lit (ν := []) (a := [6, 0, 1, 1]) (b := [1, 0, 1, 1, 1]) (by decide))) (rfl), (⟨by omega, by omega, ho0 (by assumption), ⟨hf0.q, hf0.p, hf0.n⟩, Ls.of, Ls.of⟩), env_g rfl⟩
    rintro ν1 mm ee H6 ⟨i, c, U, V, rfl, hU1, hS6, ⟨hi, hi2, ho, hn, hU, hV⟩, g1, rfl⟩
    refine XW_seq ?_
    refine XW_sr ?_
    refine OW_mv rfl rfl ?_
    refine OW_mv rfl rfl ?_
    first
    | refine OW_lenL rfl rfl (by first | assumption | exact Ls.of | exact Ls.emp | exact Ls.nls) rfl rfl rfl (by first | exact List.length_map _ | rfl) ?_
    | refine OW_bi rfl rfl rfl ?_
    refine EN113_CF9 rfl ?_
    refine OW_bin rfl rfl rfl rfl rfl ?_
    refine OW_mv rfl rfl ?_
    refine OW_split (tt := 31) rfl (fun g5_5 => ?_) (fun g5_5 => ?_)
    ·first
     |(exfalso; (try simp only [bs] at g5_5) <;> (first | (exact absurd rfl g5_5) | (exact g5_5 trivial) | omega | (simp at g5_5; done)); done)
     |skip
      try simp only [bs] at g5_5
      refine EN113_CF9 rfl ?_
      refine OW_mv rfl rfl ?_
      refine OW_bin rfl rfl rfl rfl rfl ?_
      refine OW_pick rfl rfl rfl ?_
      refine EZ113_CF9 rfl ?_
      refine XW_if rfl (fun h5 => ?_) (fun h5 => ?_)
      ·first
       |(exfalso; (try simp only [bs] at h5) <;> (first | (exact absurd rfl h5) | (exact h5 trivial) | omega | (simp at h5; done)); done)
       |skip
        try simp only [bs] at h5
        refine XW_skip ?_
        refine then_norm ?_
        refine XW_seq ?_
        refine XW_block ?_
        refine XW_sr ?_
        have hx := hF l[i] (List.getElem_mem (by omega))
        obtain ⟨c', n, e, hr, hr2, hr3, hr4, hr5⟩ := step_all ho hn hx
        refine OW_loadR hS6 (k := 1) rfl rfl rfl rfl rfl (by first | exact part_whole rfl rfl rfl | rfl) ?_
        refine OW_mv rfl rfl ?_
        refine OW_mv rfl rfl ?_
        refine EN113_CF9 rfl ?_
        refine OW_mv rfl rfl ?_
        first
        | refine OW_iaL rfl rfl rfl Ls.of rfl rfl rfl (by first | rfl | exact (Int.toNat_of_nonneg (by omega)).symm) (by first | assumption | exact at_map (by first | assumption | omega) | exact at_lst (by omega) | rfl) rfl ?_
        | refine OW_iaL rfl rfl rfl (by assumption) rfl rfl rfl (by first | rfl | exact (Int.toNat_of_nonneg (by omega)).symm) (by first | assumption | exact at_map (by first | assumption | omega) | exact at_lst (by omega) | rfl) rfl ?_
        refine OW_fa rfl rfl rfl ?_
        refine EN113_CF9 rfl ?_
        refine OW_loadE rfl rfl rfl (by first | exact part_whole rfl rfl rfl | rfl) ?_
        refine OW_mv rfl rfl ?_
        refine OW_mv rfl rfl ?_
        refine EN113_CF9 rfl ?_
        first
        | refine OW_iaL rfl rfl rfl Ls.of rfl rfl rfl (by first | rfl | exact (Int.toNat_of_nonneg (by omega)).symm) (by first | assumption | exact at_map (by first | assumption | omega) | exact at_lst (by omega) | rfl) rfl ?_
        | refine OW_iaL rfl rfl rfl (by assumption) rfl rfl rfl (by first | rfl | exact (Int.toNat_of_nonneg (by omega)).symm) (by first | assumption | exact at_map (by first | assumption | omega) | exact at_lst (by omega) | rfl) rfl ?_
        refine OW_fa rfl rfl rfl ?_
        refine OW_loadE rfl rfl rfl (by first | exact part_whole rfl rfl rfl | rfl) ?_
        refine EN113_CF9 rfl ?_
        refine OW_mv rfl rfl ?_
        refine OW_mv rfl rfl ?_
        first
        | refine OW_iaL rfl rfl rfl Ls.of rfl rfl rfl (by first | rfl | exact (Int.toNat_of_nonneg (by omega)).symm) (by first | assumption | exact at_map (by first | assumption | omega) | exact at_lst (by omega) | rfl) rfl ?_
        | refine OW_iaL rfl rfl rfl (by assumption) rfl rfl rfl (by first | rfl | exact (Int.toNat_of_nonneg (by omega)).symm) (by first | assumption | exact at_map (by first | assumption | omega) | exact at_lst (by omega) | rfl) rfl ?_
        refine EN113_CF9 rfl ?_
        refine OW_fa rfl rfl rfl ?_
        refine OW_loadE rfl rfl rfl (by first | exact part_whole rfl rfl rfl | rfl) ?_
        refine OW_fn rfl rfl (p_runE (by assumption) (by assumption) (ho.fit hn) hx.b.1 hr ?_) 
        refine EN113_CF9 rfl ?_
        refine OW_mv rfl rfl ?_
        refine OW_ex rfl rfl rfl ?_
        refine OW_ex rfl rfl rfl ?_
        refine EN113_CF9 rfl ?_
        refine OW_ex rfl rfl rfl ?_
        refine OW_allocR hS6 (le_app (p := ν1) (b := [22, 0, 0, 1, 0])) under_nil rfl rfl rfl rfl fun H7 hS7 => ?_
        replace hS7 : Own _ _ _ ([_, _, _]) := hS7
        first
        | refine OW_storeR hS7 (k := 0) rfl le_refl rfl rfl rfl rfl ⟨rfl, rfl, Nat.le_of_ble_eq_true rfl⟩ (set_whole rfl rfl) fun H8 hS8 => ?_
        | refine OW_storeR hS7 (k := 0) rfl le_refl rfl rfl rfl rfl ⟨rfl, rfl, Nat.le_of_ble_eq_true rfl⟩ (u2 := .agg [_, _, _]) rfl fun H8 hS8 => ?_
        replace hS8 : Own _ _ _ ([_, _, _]) := hS8
        refine EN113_CF9 rfl ?_
        refine OW_as rfl rfl ?_
        refine OW_as rfl rfl ?_
        refine EZ113_CF9 rfl ?_
        refine XW_sr ?_
        refine OW_loadR hS8 (k := 1) rfl rfl rfl rfl rfl (by first | exact part_whole rfl rfl rfl | rfl) ?_
        refine OW_mv rfl rfl ?_
        refine OW_mv rfl rfl ?_
        refine EN113_CF9 rfl ?_
        refine OW_mv rfl rfl ?_
        first
        | refine OW_iaL rfl rfl rfl Ls.of rfl rfl rfl (by first | rfl | exact (Int.toNat_of_nonneg (by omega)).symm) (by first | assumption | exact at_map (by first | assumption | omega) | exact at_lst (by omega) | rfl) rfl ?_
        | refine OW_iaL rfl rfl rfl (by assumption) rfl rfl rfl (by first | rfl | exact (Int.toNat_of_nonneg (by omega)).symm) (by first | assumption | exact at_map (by first | assumption | omega) | exact at_lst (by omega) | rfl) rfl ?_
        refine OW_fa rfl rfl rfl ?_
        refine EN113_CF9 rfl ?_
        refine OW_loadE rfl rfl rfl (by first | exact part_whole rfl rfl rfl | rfl) ?_
        refine OW_mv rfl rfl ?_
        refine OW_mv rfl rfl ?_
        refine EN113_CF9 rfl ?_
        first
        | refine OW_iaL rfl rfl rfl Ls.of rfl rfl rfl (by first | rfl | exact (Int.toNat_of_nonneg (by omega)).symm) (by first | assumption | exact at_map (by first | assumption | omega) | exact at_lst (by omega) | rfl) rfl ?_
        | refine OW_iaL rfl rfl rfl (by assumption) rfl rfl rfl (by first | rfl | exact (Int.toNat_of_nonneg (by omega)).symm) (by first | assumption | exact at_map (by first | assumption | omega) | exact at_lst (by omega) | rfl) rfl ?_
        refine OW_fa rfl rfl rfl ?_
        refine OW_loadE rfl rfl rfl (by first | exact part_whole rfl rfl rfl | rfl) ?_
        refine EN113_CF9 rfl ?_
        refine OW_mv rfl rfl ?_
        refine OW_mv rfl rfl ?_
        first
        | refine OW_iaL rfl rfl rfl Ls.of rfl rfl rfl (by first | rfl | exact (Int.toNat_of_nonneg (by omega)).symm) (by first | assumption | exact at_map (by first | assumption | omega) | exact at_lst (by omega) | rfl) rfl ?_
        | refine OW_iaL rfl rfl rfl (by assumption) rfl rfl rfl (by first | rfl | exact (Int.toNat_of_nonneg (by omega)).symm) (by first | assumption | exact at_map (by first | assumption | omega) | exact at_lst (by omega) | rfl) rfl ?_
        refine EN113_CF9 rfl ?_
        refine OW_fa rfl rfl rfl ?_
        refine OW_loadE rfl rfl rfl (by first | exact part_whole rfl rfl rfl | rfl) ?_
        refine OW_fn rfl rfl (r_runE (by assumption) (by assumption) (ho.fit hn) hx.b.1 hr ?_) 
        refine EN113_CF9 rfl ?_
        refine OW_mv rfl rfl ?_
        refine OW_ex rfl rfl rfl ?_
        refine OW_ex rfl rfl rfl ?_
        refine EN113_CF9 rfl ?_
        refine OW_ex rfl rfl rfl ?_
        refine OW_allocR hS8 (le_lit (ν := ν1) (a := [24, 0, 0, 1, 0]) (b := [22, 0, 1, 0, 1, 0]) (by decide)) under_nil rfl rfl rfl rfl fun H9 hS9 => ?_
        replace hS9 : Own _ _ _ ([_, _, _, _]) := hS9
        first
        | refine OW_storeR hS9 (k := 0) rfl le_refl rfl rfl rfl rfl ⟨rfl, rfl, Nat.le_of_ble_eq_true rfl⟩ (set_whole rfl rfl) fun H10 hS10 => ?_
        | refine OW_storeR hS9 (k := 0) rfl le_refl rfl rfl rfl rfl ⟨rfl, rfl, Nat.le_of_ble_eq_true rfl⟩ (u2 := .agg [_, _, _]) rfl fun H10 hS10 => ?_
        replace hS10 : Own _ _ _ ([_, _, _, _]) := hS10
        refine EN113_CF9 rfl ?_
        refine OW_as rfl rfl ?_
        refine OW_as rfl rfl ?_
        refine EZ113_CF9 rfl ?_
        refine XW_seq ?_
        refine XW_sr ?_
        refine OW_loadR hS10 (k := 1) rfl rfl rfl rfl rfl (by first | exact part_whole rfl rfl rfl | rfl) ?_
        refine OW_loadR hS10 (k := 0) rfl rfl rfl rfl rfl (by first | exact part_whole rfl rfl rfl | rfl) ?_
        refine OW_fn rfl rfl (rf_is (a := c') (b := c') rfl rfl (hr3.fit hr4) (hr3.fit hr4) ?_) 
        refine EN113_CF9 rfl ?_
        rw [decide_eq_true rfl]
        refine OW_un rfl rfl rfl ?_
        refine OW_mv rfl rfl ?_
        refine OW_mv rfl rfl ?_
        refine EN113_CF9 rfl ?_
        refine OW_mv rfl rfl ?_
        refine OW_bin rfl rfl rfl rfl rfl ?_
        refine OW_pick rfl rfl rfl ?_
        refine EN113_CF9 rfl ?_
        refine OW_mv rfl rfl ?_
        refine OW_split (tt := 90) rfl (fun g9_10 => ?_) (fun g9_10 => ?_)
        ·first
         |(exfalso; (try simp only [bs] at g9_10) <;> (first | (exact absurd rfl g9_10) | (exact g9_10 trivial) | omega | (simp at g9_10; done)); done)
         |skip
          try simp only [bs] at g9_10
          refine OW_no rfl ?_
          refine EN113_CF9 rfl ?_
          refine OW_no rfl ?_
          refine OW_no rfl ?_
          refine OW_pick rfl rfl rfl ?_
          refine EN113_CF9 rfl ?_
          refine OW_mv rfl rfl ?_
          refine OW_no rfl ?_
          refine OW_no rfl ?_
          refine EN113_CF9 rfl ?_
          refine OW_no rfl ?_
          refine OW_no rfl ?_
          refine OW_pick rfl rfl rfl ?_
          refine EN113_CF9 rfl ?_
          refine OW_mv rfl rfl ?_
          refine OW_no rfl ?_
          refine OW_no rfl ?_
          refine EN113_CF9 rfl ?_
          refine OW_no rfl ?_
          refine OW_no rfl ?_
          refine OW_no rfl ?_
          refine EN113_CF9 rfl ?_
          refine OW_no rfl ?_
          refine OW_no rfl ?_
          refine OW_no rfl ?_
          refine EN113_CF9 rfl ?_
          refine OW_pick rfl rfl rfl ?_
          refine EZ113_CF9 rfl ?_
          refine XW_yes rfl rfl ?_
          refine XW_sr ?_
          refine OW_as rfl rfl ?_
          refine EZ113_CF9 rfl ?_
          refine XW_ret ?_
          refine then_ret ?_
          refine block_ret ?_
          refine then_ret ?_
          refine block_ret ?_
          refine then_ret ?_
          -- outcome 2
          refine ret_ret (res1 rfl (rv_tmp rfl)) (frz1 (Q := Q) (by first | exact freeze_plain rfl | exact Ls.freeze (by assumption) | exact Ls.freeze Ls.of | exact Ls.freeze Ls.emp | exact Ls.freeze Ls.nls) ?_)
          first
          | exact hq
          | (refine qcast hq ?_; rfl)
          | (refine qcast hq ?_; simp; done)
          | (refine qcast hq ?_; simp; omega)
          | (refine qcast hq ?_; simp_all; done)
        ·first
         |(exfalso; (try simp only [bs] at g9_10) <;> (first | (exact absurd rfl g9_10) | (exact g9_10 trivial) | omega | (simp at g9_10; done)); done)
         |skip
          try simp only [bs] at g9_10
          refine OW_mv rfl rfl ?_
          refine EN113_CF9 rfl ?_
          refine OW_mv rfl rfl ?_
          refine OW_bin rfl rfl rfl rfl rfl ?_
          refine OW_pick rfl rfl rfl ?_
          refine EN113_CF9 rfl ?_
          refine OW_mv rfl rfl ?_
          refine OW_split (tt := 95) rfl (fun g9_15 => ?_) (fun g9_15 => ?_)
          ·first
           |(exfalso; (try simp only [bs] at g9_15) <;> (first | (exact absurd rfl g9_15) | (exact g9_15 trivial) | omega | (simp at g9_15; done)); done)
           |skip
            try simp only [bs] at g9_15
            refine OW_no rfl ?_
            refine EN113_CF9 rfl ?_
            refine OW_no rfl ?_
            refine OW_no rfl ?_
            refine OW_no rfl ?_
            refine EN113_CF9 rfl ?_
            refine OW_pick rfl rfl rfl ?_
            refine OW_mv rfl rfl ?_
            refine OW_no rfl ?_
            refine EN113_CF9 rfl ?_
            refine OW_no rfl ?_
            refine OW_no rfl ?_
            refine OW_no rfl ?_
            refine EN113_CF9 rfl ?_
            refine OW_no rfl ?_
            refine OW_no rfl ?_
            refine OW_no rfl ?_
            refine EN113_CF9 rfl ?_
            refine OW_no rfl ?_
            refine OW_pick rfl rfl rfl ?_
            refine EZ113_CF9 rfl ?_
            refine XW_yes rfl rfl ?_
            refine XW_sr ?_
            refine OW_as rfl rfl ?_
            refine EZ113_CF9 rfl ?_
            refine XW_ret ?_
            refine then_ret ?_
            refine block_ret ?_
            refine then_ret ?_
            refine block_ret ?_
            refine then_ret ?_
            -- outcome 3
            refine ret_ret (res1 rfl (rv_tmp rfl)) (frz1 (Q := Q) (by first | exact freeze_plain rfl | exact Ls.freeze (by assumption) | exact Ls.freeze Ls.of | exact Ls.freeze Ls.emp | exact Ls.freeze Ls.nls) ?_)
            first
            | exact hq
            | (refine qcast hq ?_; rfl)
            | (refine qcast hq ?_; simp; done)
            | (refine qcast hq ?_; simp; omega)
            | (refine qcast hq ?_; simp_all; done)
          ·first
           |(exfalso; (try simp only [bs] at g9_15) <;> (first | (exact absurd rfl g9_15) | (exact g9_15 trivial) | omega | (simp at g9_15; done)); done)
           |skip
            try simp only [bs] at g9_15
            refine OW_loadR hS10 (k := 1) rfl rfl rfl rfl rfl (by first | exact part_whole rfl rfl rfl | rfl) ?_
            refine EN113_CF9 rfl ?_
            refine OW_mv rfl rfl ?_
            refine OW_fn rfl rfl (cf_check (c := c') rfl (hr3.fit hr4) ?_) 
            rw [chkC_yes hr3]
            refine OW_un rfl rfl rfl ?_
            refine EN113_CF9 rfl ?_
            refine OW_pick rfl rfl rfl ?_
            refine OW_mv rfl rfl ?_
            refine OW_mv rfl rfl ?_
            refine EN113_CF9 rfl ?_
            refine OW_bin rfl rfl rfl rfl rfl ?_
            refine OW_mv rfl rfl ?_
            refine OW_split (tt := 104) rfl (fun g9_24 => ?_) (fun g9_24 => ?_)
            ·first
             |(exfalso; (try simp only [bs] at g9_24) <;> (first | (exact absurd rfl g9_24) | (exact g9_24 trivial) | omega | (simp at g9_24; done)); done)
             |skip
              try simp only [bs] at g9_24
              refine EN113_CF9 rfl ?_
              refine OW_loadR hS10 (k := 1) rfl rfl rfl rfl rfl (by first | exact part_whole rfl rfl rfl | rfl) ?_
              refine OW_loadR hS10 (k := 3) rfl rfl rfl rfl rfl (by first | exact part_whole rfl rfl rfl | rfl) ?_
              refine OW_fn rfl rfl (rf_is (a := c') (b := c) rfl (frL hU hV) (hr3.fit hr4) (ho.fit hn) ?_) 
              refine EN113_CF9 rfl ?_
              rw [decide_eq_true (hr5 (by omega))]
              refine OW_un rfl rfl rfl ?_
              refine OW_pick rfl rfl rfl ?_
              refine OW_pick rfl rfl rfl ?_
              refine EZ113_CF9 rfl ?_
              refine XW_no rfl rfl ?_
              refine XW_skip ?_
              refine then_norm ?_
              refine XW_regionF (qs := [22 :: 0 :: 1 :: 0 :: 1 :: 0 :: ν1]) rfl rfl ?_
              have hSF2 : Own _ _ _ ([_, _, _, _]) := (Own.hide (Own.hide0 hS10) (k := 0) rfl)
              refine OWF_op rfl ?_
              refine OW_loadR hSF2 (k := 1) rfl rfl rfl rfl rfl (by first | exact part_whole rfl rfl rfl | rfl) ?_
              refine OW_nil ?_
              refine OWF_fl rfl ?_
              refine OW_loadK hS10 (k := 0) rfl (by simp) rfl rfl rfl rfl (by first | exact part_whole rfl rfl rfl | rfl) ?_
              refine OW_nil ?_
              refine OWF_op rfl ?_
              first
              | refine OW_storeR hSF2 (k := 3) rfl (le_lit (ν := ν1) (a := [24, 0, 1, 0, 1, 0]) (b := [2, 1, 1, 1, 0, 1, 0]) (by decide)) rfl rfl rfl rfl ⟨rfl, rfl, Nat.le_of_ble_eq_true rfl⟩ (set_whole rfl rfl) fun H11 hS11 => ?_
              | refine OW_storeR hSF2 (k := 3) rfl (le_lit (ν := ν1) (a := [24, 0, 1, 0, 1, 0]) (b := [2, 1, 1, 1, 0, 1, 0]) (by decide)) rfl rfl rfl rfl ⟨rfl, rfl, Nat.le_of_ble_eq_true rfl⟩ (u2 := .agg [_, _, _]) rfl fun H11 hS11 => ?_
              replace hS11 : Own _ _ _ ([_, _, _, _]) := hS11
              refine OW_nil ?_
              refine OWF_env (e' := [_,_,_,_,_,_,_,_,_,_,_,_,_,_,_,_,_,_,_,_,_,_,_,_,_,_,_,_,_,_,_,_,_,_,_,_,_,_,_,_,_,_,_,_,_,_,_,_,_,_,_,_,_,_,_,_,_,_,_,_,_,_,_,_,_,_,_,_,_,_,_,_,_,_,_,_,_,_,_,_,_,_,_,_,_,_,_,_,_,_,_,_,_,_,_,_,_,_,_,_,_,_,_,_,_,_,_,_,_,_,_,_,_]) rfl ?_
              refine OWF_op rfl ?_
              first
              | refine OW_storeR hS11 (k := 2) rfl le_refl rfl rfl rfl rfl ⟨rfl, rfl, Nat.le_of_ble_eq_true rfl⟩ (set_whole rfl rfl) fun H12 hS12 => ?_
              | refine OW_storeR hS11 (k := 2) rfl le_refl rfl rfl rfl rfl ⟨rfl, rfl, Nat.le_of_ble_eq_true rfl⟩ (u2 := .agg [_, _, _]) rfl fun H12 hS12 => ?_
              replace hS12 : Own _ _ _ ([_, _, _, _]) := hS12
              refine OW_nil ?_
              refine OWF_nilE (e' := [_,_,_,_,_,_,_,_,_,_,_,_,_,_,_,_,_,_,_,_,_,_,_,_,_,_,_,_,_,_,_,_,_,_,_,_,_,_,_,_,_,_,_,_,_,_,_,_,_,_,_,_,_,_,_,_,_,_,_,_,_,_,_,_,_,_,_,_,_,_,_,_,_,_,_,_,_,_,_,_,_,_,_,_,_,_,_,_,_,_,_,_,_,_,_,_,_,_,_,_,_,_,_,_,_,_,_,_,_,_,_,_,_]) rfl ?_
              have hSB2 : Own _ _ _ ([_, _, _, _]) := (Own.back hS10 (k := 0) rfl (Own.back0 hS12) (k' := 0) rfl)
              refine block_norm ?_
              refine then_norm ?_
              refine XW_region ?_
              refine OW_mv rfl rfl ?_
              first
              | refine OW_bin rfl rfl rfl rfl (add_w64 (by first | omega | assumption | (simp only [ss]; omega))) ?_
              | refine OW_bin rfl rfl rfl rfl rfl ?_
              refine OW_as rfl rfl ?_
              refine EZ113_CF9 rfl ?_
              have hSd1 : Own _ _ _ ([_, _]) := (Own.drop (Own.drop hSB2 (k := 0) rfl) (k := 0) rfl)
              -- round 0.1
              refine ⟨_, ?_, i + 1, c', .lst (c'.qs.map Qu.enc), .lst (c'.ps.map Pl.enc), rfl, under_in hU1, Own.cast (Own.mono (hSd1) (le_lit (ν := ν1) (a := [4, 1, 1, 1, 0, 1, 0]) (b := [1]) (by decide))) (rfl), ?_, env_g rfl⟩
              · first | omega | (simp; omega)
              · exact ⟨by omega, by omega, hr3, hr4, Ls.of, Ls.of⟩
            ·first
             |(exfalso; (try simp only [bs] at g9_24) <;> (first | (exact absurd rfl g9_24) | (exact g9_24 trivial) | omega | (simp at g9_24; done)); done)
             |skip
              try simp only [bs] at g9_24
              refine EN113_CF9 rfl ?_
              refine OW_no rfl ?_
              refine OW_no rfl ?_
              refine OW_no rfl ?_
              refine EN113_CF9 rfl ?_
              refine OW_no rfl ?_
              refine OW_pick rfl rfl rfl ?_
              refine OW_pick rfl rfl rfl ?_
              refine EZ113_CF9 rfl ?_
              refine XW_no rfl rfl ?_
              refine XW_skip ?_
              refine then_norm ?_
              refine XW_regionF (qs := [22 :: 0 :: 1 :: 0 :: 1 :: 0 :: ν1]) rfl rfl ?_
              have hSF3 : Own _ _ _ ([_, _, _, _]) := (Own.hide (Own.hide0 hS10) (k := 0) rfl)
              refine OWF_op rfl ?_
              refine OW_loadR hSF3 (k := 1) rfl rfl rfl rfl rfl (by first | exact part_whole rfl rfl rfl | rfl) ?_
              refine OW_nil ?_
              refine OWF_fl rfl ?_
              refine OW_loadK hS10 (k := 0) rfl (by simp) rfl rfl rfl rfl (by first | exact part_whole rfl rfl rfl | rfl) ?_
              refine OW_nil ?_
              refine OWF_op rfl ?_
              first
              | refine OW_storeR hSF3 (k := 3) rfl (le_lit (ν := ν1) (a := [24, 0, 1, 0, 1, 0]) (b := [2, 1, 1, 1, 0, 1, 0]) (by decide)) rfl rfl rfl rfl ⟨rfl, rfl, Nat.le_of_ble_eq_true rfl⟩ (set_whole rfl rfl) fun H13 hS13 => ?_
              | refine OW_storeR hSF3 (k := 3) rfl (le_lit (ν := ν1) (a := [24, 0, 1, 0, 1, 0]) (b := [2, 1, 1, 1, 0, 1, 0]) (by decide)) rfl rfl rfl rfl ⟨rfl, rfl, Nat.le_of_ble_eq_true rfl⟩ (u2 := .agg [_, _, _]) rfl fun H13 hS13 => ?_
              replace hS13 : Own _ _ _ ([_, _, _, _]) := hS13
              refine OW_nil ?_
              refine OWF_env (e' := [_,_,_,_,_,_,_,_,_,_,_,_,_,_,_,_,_,_,_,_,_,_,_,_,_,_,_,_,_,_,_,_,_,_,_,_,_,_,_,_,_,_,_,_,_,_,_,_,_,_,_,_,_,_,_,_,_,_,_,_,_,_,_,_,_,_,_,_,_,_,_,_,_,_,_,_,_,_,_,_,_,_,_,_,_,_,_,_,_,_,_,_,_,_,_,_,_,_,_,_,_,_,_,_,_,_,_,_,_,_,_,_,_]) rfl ?_
              refine OWF_op rfl ?_
              first
              | refine OW_storeR hS13 (k := 2) rfl le_refl rfl rfl rfl rfl ⟨rfl, rfl, Nat.le_of_ble_eq_true rfl⟩ (set_whole rfl rfl) fun H14 hS14 => ?_
              | refine OW_storeR hS13 (k := 2) rfl le_refl rfl rfl rfl rfl ⟨rfl, rfl, Nat.le_of_ble_eq_true rfl⟩ (u2 := .agg [_, _, _]) rfl fun H14 hS14 => ?_
              replace hS14 : Own _ _ _ ([_, _, _, _]) := hS14
              refine OW_nil ?_
              refine OWF_nilE (e' := [_,_,_,_,_,_,_,_,_,_,_,_,_,_,_,_,_,_,_,_,_,_,_,_,_,_,_,_,_,_,_,_,_,_,_,_,_,_,_,_,_,_,_,_,_,_,_,_,_,_,_,_,_,_,_,_,_,_,_,_,_,_,_,_,_,_,_,_,_,_,_,_,_,_,_,_,_,_,_,_,_,_,_,_,_,_,_,_,_,_,_,_,_,_,_,_,_,_,_,_,_,_,_,_,_,_,_,_,_,_,_,_,_]) rfl ?_
              have hSB3 : Own _ _ _ ([_, _, _, _]) := (Own.back hS10 (k := 0) rfl (Own.back0 hS14) (k' := 0) rfl)
              refine block_norm ?_
              refine then_norm ?_
              refine XW_region ?_
              refine OW_mv rfl rfl ?_
              first
              | refine OW_bin rfl rfl rfl rfl (add_w64 (by first | omega | assumption | (simp only [ss]; omega))) ?_
              | refine OW_bin rfl rfl rfl rfl rfl ?_
              refine OW_as rfl rfl ?_
              refine EZ113_CF9 rfl ?_
              have hSd2 : Own _ _ _ ([_, _]) := (Own.drop (Own.drop hSB3 (k := 0) rfl) (k := 0) rfl)
              -- round 0.2
              refine ⟨_, ?_, i + 1, c', .lst (c'.qs.map Qu.enc), .lst (c'.ps.map Pl.enc), rfl, under_in hU1, Own.cast (Own.mono (hSd2) (le_lit (ν := ν1) (a := [4, 1, 1, 1, 0, 1, 0]) (b := [1]) (by decide))) (rfl), ?_, env_g rfl⟩
              · first | omega | (simp; omega)
              · exact ⟨by omega, by omega, hr3, hr4, Ls.of, Ls.of⟩
      ·first
       |(exfalso; (try simp only [bs] at h5) <;> (first | (exact absurd rfl h5) | (exact h5 trivial) | omega | (simp at h5; done)); done)
       |skip
        try simp only [bs] at h5
        refine XW_exit ?_
        refine then_exit ?_
        refine block_exit ?_
        refine then_norm ?_
        refine XW_sr ?_
        refine OW_as rfl rfl ?_
        refine EZ113_CF9 rfl ?_
        refine XW_ret ?_
        -- outcome 4
        refine ret_ret (res1 rfl (rv_tmp rfl)) (frz1 (Q := Q) (by first | exact freeze_plain rfl | exact Ls.freeze (by assumption) | exact Ls.freeze Ls.of | exact Ls.freeze Ls.emp | exact Ls.freeze Ls.nls) ?_)
        first
        | exact hq
        | (refine qcast hq ?_; rfl)
        | (refine qcast hq ?_; simp; done)
        | (refine qcast hq ?_; simp; omega)
        | (refine qcast hq ?_; simp_all; done)
    ·first
     |(exfalso; (try simp only [bs] at g5_5) <;> (first | (exact absurd rfl g5_5) | (exact g5_5 trivial) | omega | (simp at g5_5; done)); done)
     |skip
      try simp only [bs] at g5_5
      refine EN113_CF9 rfl ?_
      refine OW_no rfl ?_
      refine OW_no rfl ?_
      refine OW_pick rfl rfl rfl ?_
      refine EZ113_CF9 rfl ?_
      refine XW_no rfl rfl ?_
      refine XW_exit ?_
      refine then_exit ?_
      refine block_exit ?_
      refine then_norm ?_
      refine XW_sr ?_
      refine OW_as rfl rfl ?_
      refine EZ113_CF9 rfl ?_
      refine XW_ret ?_
      -- outcome 5
      refine ret_ret (res1 rfl (rv_tmp rfl)) (frz1 (Q := Q) (by first | exact freeze_plain rfl | exact Ls.freeze (by assumption) | exact Ls.freeze Ls.of | exact Ls.freeze Ls.emp | exact Ls.freeze Ls.nls) ?_)
      first
      | exact hq
      | (refine qcast hq ?_; rfl)
      | (refine qcast hq ?_; simp; done)
      | (refine qcast hq ?_; simp; omega)
      | (refine qcast hq ?_; simp_all; done)
end Go.Proofs.Ytealccnfnpkngaa.X
