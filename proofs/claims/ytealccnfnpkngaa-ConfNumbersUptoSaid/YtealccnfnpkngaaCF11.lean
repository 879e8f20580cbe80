/- Layer 14: ConfNumbers. -/
import Derived.Test.YtealccnfnpkngaaCF10
set_option linter.unusedVariables false
set_option linter.unusedSimpArgs false
set_option maxRecDepth 100000
set_option maxHeartbeats 2000000
namespace Go.Proofs.Ytealccnfnpkngaa.X
open Go Go.RowKit WM
theorem EN118_CF11 {c : Cfg} {ν : Nm} {e : Env} {H : Heap} {all : Array Oper} {r : List Oper} {i : Nat} {Q : Env → Heap → Prop} {x0 x1 x2 x3 x4 x5 x6 x7 x8 x9 x10 x11 x12 x13 x14 x15 x16 x17 x18 x19 x20 x21 x22 x23 x24 x25 x26 x27 x28 x29 x30 x31 x32 x33 x34 x35 x36 x37 x38 x39 x40 x41 x42 x43 x44 x45 x46 x47 x48 x49 x50 x51 x52 x53 x54 x55 x56 x57 x58 x59 x60 x61 x62 x63 x64 x65 x66 x67 x68 x69 x70 x71 x72 x73 x74 x75 x76 x77 x78 x79 x80 x81 x82 x83 x84 x85 x86 x87 x88 x89 x90 x91 x92 x93 x94 x95 x96 x97 x98 x99 x100 x101 x102 x103 x104 x105 x106 x107 x108 x109 x110 x111 x112 x113 x114 x115 x116 x117 : AVal} (he : e = [x0,x1,x2,x3,x4,x5,x6,x7,x8,x9,x10,x11,x12,x13,x14,x15,x16,x17,x18,x19,x20,x21,x22,x23,x24,x25,x26,x27,x28,x29,x30,x31,x32,x33,x34,x35,x36,x37,x38,x39,x40,x41,x42,x43,x44,x45,x46,x47,x48,x49,x50,x51,x52,x53,x54,x55,x56,x57,x58,x59,x60,x61,x62,x63,x64,x65,x66,x67,x68,x69,x70,x71,x72,x73,x74,x75,x76,x77,x78,x79,x80,x81,x82,x83,x84,x85,x86,x87,x88,x89,x90,x91,x92,x93,x94,x95,x96,x97,x98,x99,x100,x101,x102,x103,x104,x105,x106,x107,x108,x109,x110,x111,x112,x113,x114,x115,x116,x117]) (h : OW c ν all r i [x0,x1,x2,x3,x4,x5,x6,x7,x8,x9,x10,x11,x12,x13,x14,x15,x16,x17,x18,x19,x20,x21,x22,x23,x24,x25,x26,x27,x28,x29,x30,x31,x32,x33,x34,x35,x36,x37,x38,x39,x40,x41,x42,x43,x44,x45,x46,x47,x48,x49,x50,x51,x52,x53,x54,x55,x56,x57,x58,x59,x60,x61,x62,x63,x64,x65,x66,x67,x68,x69,x70,x71,x72,x73,x74,x75,x76,x77,x78,x79,x80,x81,x82,x83,x84,x85,x86,x87,x88,x89,x90,x91,x92,x93,x94,x95,x96,x97,x98,x99,x100,x101,x102,x103,x104,x105,x106,x107,x108,x109,x110,x111,x112,x113,x114,x115,x116,x117] H Q) : OW c ν all r i e H Q := by subst he; exact h
theorem EZ118_CF11 {c : Cfg} {ν : Nm} {e : Env} {H : Heap} {all : Array Oper} {i : Nat} {Q : Env → Heap → Prop} {x0 x1 x2 x3 x4 x5 x6 x7 x8 x9 x10 x11 x12 x13 x14 x15 x16 x17 x18 x19 x20 x21 x22 x23 x24 x25 x26 x27 x28 x29 x30 x31 x32 x33 x34 x35 x36 x37 x38 x39 x40 x41 x42 x43 x44 x45 x46 x47 x48 x49 x50 x51 x52 x53 x54 x55 x56 x57 x58 x59 x60 x61 x62 x63 x64 x65 x66 x67 x68 x69 x70 x71 x72 x73 x74 x75 x76 x77 x78 x79 x80 x81 x82 x83 x84 x85 x86 x87 x88 x89 x90 x91 x92 x93 x94 x95 x96 x97 x98 x99 x100 x101 x102 x103 x104 x105 x106 x107 x108 x109 x110 x111 x112 x113 x114 x115 x116 x117 : AVal} (he : e = [x0,x1,x2,x3,x4,x5,x6,x7,x8,x9,x10,x11,x12,x13,x14,x15,x16,x17,x18,x19,x20,x21,x22,x23,x24,x25,x26,x27,x28,x29,x30,x31,x32,x33,x34,x35,x36,x37,x38,x39,x40,x41,x42,x43,x44,x45,x46,x47,x48,x49,x50,x51,x52,x53,x54,x55,x56,x57,x58,x59,x60,x61,x62,x63,x64,x65,x66,x67,x68,x69,x70,x71,x72,x73,x74,x75,x76,x77,x78,x79,x80,x81,x82,x83,x84,x85,x86,x87,x88,x89,x90,x91,x92,x93,x94,x95,x96,x97,x98,x99,x100,x101,x102,x103,x104,x105,x106,x107,x108,x109,x110,x111,x112,x113,x114,x115,x116,x117]) (h : Q [x0,x1,x2,x3,x4,x5,x6,x7,x8,x9,x10,x11,x12,x13,x14,x15,x16,x17,x18,x19,x20,x21,x22,x23,x24,x25,x26,x27,x28,x29,x30,x31,x32,x33,x34,x35,x36,x37,x38,x39,x40,x41,x42,x43,x44,x45,x46,x47,x48,x49,x50,x51,x52,x53,x54,x55,x56,x57,x58,x59,x60,x61,x62,x63,x64,x65,x66,x67,x68,x69,x70,x71,x72,x73,x74,x75,x76,x77,x78,x79,x80,x81,x82,x83,x84,x85,x86,x87,x88,x89,x90,x91,x92,x93,x94,x95,x96,x97,x98,x99,x100,x101,x102,x103,x104,x105,x106,x107,x108,x109,x110,x111,x112,x113,x114,x115,x116,x117] H) : OW c ν all [] i e H Q := by subst he; exact OW_nil h
variable {ν β ps pos' : Nm} {H : Heap} {Q : AVal → Heap → Prop} {L : List Asr} {k : Nat} {q : Nm}
theorem sumT_step {t : List Pl} {k : Nat} (hk : k < t.length) (tn : Int) : sumT (t.take (k + 1)) tn = sumT (t.take k) tn + if t[k].te = tn then 2 ^ t[k].de.toNat else 0 := by
  rw [List.take_succ_eq_append_getElem hk, sumT_snoc]
theorem sumT_le {t : List Pl} (h : ∀ x ∈ t, 0 ≤ x.de ∧ x.de ≤ 4) (tn : Int) : sumT t tn ≤ 16 * t.length := by
  induction t with
  | nil => simp [sumT]
  | cons x r ih =>
    have h1 := ih (fun y hy => h y (by simp [hy]))
    have h2 := pow_le (h x (by simp))
    unfold sumT at *
    simp only [List.map_cons, List.sum_cons, List.length_cons]
    split <;> omega
theorem eqU {T : TT} {t : TypeId} {kk : IntKind} {a b : Int} (h : a = b) : aBin T .eql t (.int kk a) (.int kk b) = some (.bool true) := eq_yes h
theorem lawNumbers {l : List Dc} (hl : l.length ≤ 1048577) (hF : ∀ x ∈ l, x.fit) (hq : Q (.bool true) H) : CW cfg [] 5 [.lst (l.map Dc.enc)] H Q := by
  refine CW_pure g5 F5 rfl ?_
  have hS0 : Own [] [] (fun _ => none) [] := Own.nil
  refine XW_sr ?_
  refine OW_as rfl rfl ?_
  refine EZ118_CF11 rfl ?_
  refine XW_seq ?_
  refine XW_sr ?_
  refine OW_fn rfl rfl (fixedW (by kernel_rfl) ?_) 
  refine OW_un rfl rfl rfl ?_
  refine EZ118_CF11 rfl ?_
  refine XW_no rfl rfl ?_
  refine XW_skip ?_
  refine then_norm ?_
  refine XW_sr ?_
  refine OW_bd rfl rfl (v := .agg [_, _, _]) rfl ?_
  refine OW_allocR hS0 (le_app (p := []) (b := [1, 0, 1, 1])) under_nil rfl rfl rfl rfl fun H1 hS1 => ?_
  replace hS1 : Own _ _ _ ([_]) := hS1
  first
  | refine OW_storeR hS1 (k := 0) rfl le_refl rfl rfl rfl rfl ⟨rfl, rfl, Nat.le_of_ble_eq_true rfl⟩ (set_whole rfl rfl) fun H2 hS2 => ?_
  | refine OW_storeR hS1 (k := 0) rfl le_refl rfl rfl rfl rfl ⟨rfl, rfl, Nat.le_of_ble_eq_true rfl⟩ (u2 := .agg [_, _, _]) rfl fun H2 hS2 => ?_
  replace hS2 : Own _ _ _ ([_]) := hS2
  refine EZ118_CF11 rfl ?_
  refine XW_sr ?_
  refine OW_as rfl rfl ?_
  refine EZ118_CF11 rfl ?_
  refine XW_mid (M := fun ee H' => ∃ (c : Cf) (U : AVal) (V : AVal) (m : Int), Own [] (1 :: 1 :: 1 :: 1 :: 1 :: []) H' ([row (1 :: 0 :: 1 :: 1 :: []) 3 [.agg [U, V, .int .u64 c.nx]]]) ∧ (OkC c 2 ∧ NumC c ∧ ResC c m ∧ Ls U (c.qs.map Qu.enc) ∧ Ls V (c.ps.map Pl.enc)) ∧ ∃ g : Nat → AVal, ee = [.lst (l.map Dc.enc), g 1, g 2, .ptr (1 :: 0 :: 1 :: 1 :: []) 0 0, .int .u64 m, g 5, g 6, g 7, g 8, g 9, g 10, g 11, g 12, g 13, g 14, g 15, g 16, g 17, g 18, g 19, g 20, g 21, g 22, g 23, g 24, g 25, g 26, g 27, g 28, g 29, g 30, g 31, g 32, g 33, g 34, g 35, g 36, g 37, g 38, g 39, g 40, g 41, g 42, g 43, g 44, g 45, g 46, g 47, g 48, g 49, g 50, g 51, g 52, g 53, g 54, g 55, g 56, g 57, g 58, g 59, g 60, g 61, g 62, g 63, g 64, g 65, g 66, g 67, g 68, g 69, g 70, g 71, g 72, g 73, g 74, g 75, g 76, g 77, g 78, g 79, g 80, g 81, g 82, g 83, g 84, g 85, g 86, g 87, g 88, g 89, g 90, g 91, g 92, g 93, g 94, g 95, g 96, g 97, g 98, g 99, g 100, g 101, g 102, g 103, g 104, g 105, g 106, g 107, g 108, g 109, g 110, g 111, g 112, g 113, g 114, g 115, g 116, g 117]) ?_ ?_
  ·skip
   refine XW_sr ?_
   refine OW_as rfl rfl ?_
   refine EZ118_CF11 rfl ?_
   refine XW_block ?_
   refine XW_whileN (I := fun ν' mm ee H' => ∃ (i : Nat) (c : Cf) (U : AVal) (V : AVal) (m : Int), mm = l.length - i ∧ under (1 :: 0 :: 1 :: 1 :: 1 :: 1 :: []) ν' = true ∧ Own [] ν' H' ([row (1 :: 0 :: 1 :: 1 :: []) 3 [.agg [U, V, .int .u64 c.nx]]]) ∧ (i ≤ l.length ∧ i ≤ 100 ∧ OkC c 2 ∧ NumC c ∧ ResC c m ∧ Ls U (c.qs.map Qu.enc) ∧ Ls V (c.ps.map Pl.enc)) ∧ ∃ g : Nat → AVal, ee = [.lst (l.map Dc.enc), g 1, g 2, .ptr (1 :: 0 :: 1 :: 1 :: []) 0 0, .int .u64 m, .int .i64 i, g 6, g 7, g 8, g 9, g 10, g 11, g 12, g 13, g 14, g 15, g 16, g 17, g 18, g 19, g 20, g 21, g 22, g 23, g 24, g 25, g 26, g 27, g 28, g 29, g 30, g 31, g 32, g 33, g 34, g 35, g 36, g 37, g 38, g 39, g 40, g 41, g 42, g 43, g 44, g 45, g 46, g 47, g 48, g 49, g 50, g 51, g 52, g 53, g 54, g 55, g 56, g 57, g 58, g 59, g 60, g 61, g 62, g 63, g 64, g 65, g 66, g 67, g 68, g 69, g 70, g 71, g 72, g 73, g 74, g 75, g 76, g 77, g 78, g 79, g 80, g 81, g 82, g 83, g 84, g 85, g 86, g 87, g 88, g 89, g 90, g 91, g 92, g 93, g 94, g 95, g 96, g 97, g 98, g 99, g 100, g 101, g 102, g 103, g 104, g 105, g 106, g 107, g 108, g 109, g 110, g 111, g 112, g 113, g 114, g 115, g 116, g 117]) ?_ _ _ _ _ ⟨0, ⟨[], [], 0⟩, .emp, .emp, 0, rfl, under_me, Own.cast (Own.mono (hS2) (le_lit (ν := []) (a := [3, 0, 1, 1]) (b := [1, 0, 1, 1, 1, 1]) (by decide))) (rfl), (⟨by omega, by omega, ok_empty (by decide), num_empty, ⟨rfl, rfl, fun tn => rfl⟩, Ls.emp, Ls.emp⟩), env_g rfl⟩
   rintro ν1 mm ee H3 ⟨i, c, U, V, m, rfl, hU1, hS3, ⟨hi, hi2, ho, hn, hR, hU, hV⟩, g1, rfl⟩
   refine XW_seq ?_
   refine XW_sr ?_
   refine OW_mv rfl rfl ?_
   refine OW_mv rfl rfl ?_
   first
   | refine OW_lenL rfl rfl (by first | assumption | exact Ls.of | exact Ls.emp | exact Ls.nls) rfl rfl rfl (by first | exact List.length_map _ | rfl) ?_
   | refine OW_bi rfl rfl rfl ?_
   refine EN118_CF11 rfl ?_
   refine OW_bin rfl rfl rfl rfl rfl ?_
   refine OW_mv rfl rfl ?_
   refine OW_split (tt := 19) rfl (fun g6_5 => ?_) (fun g6_5 => ?_)
   ·first
    |(exfalso; (try simp only [bs] at g6_5) <;> (first | (exact absurd rfl g6_5) | (exact g6_5 trivial) | omega | (simp at g6_5; done)); done)
    |skip
     try simp only [bs] at g6_5
     refine EN118_CF11 rfl ?_
     refine OW_mv rfl rfl ?_
     refine OW_bin rfl rfl rfl rfl rfl ?_
     refine OW_pick rfl rfl rfl ?_
     refine EZ118_CF11 rfl ?_
     refine XW_if rfl (fun h6 => ?_) (fun h6 => ?_)
     ·first
      |(exfalso; (try simp only [bs] at h6) <;> (first | (exact absurd rfl h6) | (exact h6 trivial) | omega | (simp at h6; done)); done)
      |skip
       try simp only [bs] at h6
       refine XW_skip ?_
       refine then_norm ?_
       refine XW_seq ?_
       refine XW_block ?_
       refine XW_sr ?_
       have hx := hF l[i] (List.getElem_mem (by omega))
       obtain ⟨c', n, e, hr, hr2, hr3, hr4, hr5⟩ := step_all ho hn hx
       obtain ⟨hm1, hm2⟩ := step_res hr2 hx.b.1 hR
       refine OW_loadR hS3 (k := 0) rfl rfl rfl rfl rfl (by first | exact part_whole rfl rfl rfl | rfl) ?_
       refine OW_mv rfl rfl ?_
       refine OW_mv rfl rfl ?_
       refine EN118_CF11 rfl ?_
       first
       | refine OW_iaL rfl rfl rfl Ls.of rfl rfl rfl (by first | rfl | exact (Int.toNat_of_nonneg (by omega)).symm) (by first | assumption | exact at_map (by first | assumption | omega) | exact at_lst (by omega) | rfl) rfl ?_
       | refine OW_iaL rfl rfl rfl (by assumption) rfl rfl rfl (by first | rfl | exact (Int.toNat_of_nonneg (by omega)).symm) (by first | assumption | exact at_map (by first | assumption | omega) | exact at_lst (by omega) | rfl) rfl ?_
       refine OW_fa rfl rfl rfl ?_
       refine OW_loadE rfl rfl rfl (by first | exact part_whole rfl rfl rfl | rfl) ?_
       refine EN118_CF11 rfl ?_
       refine OW_mv rfl rfl ?_
       refine OW_mv rfl rfl ?_
       first
       | refine OW_iaL rfl rfl rfl Ls.of rfl rfl rfl (by first | rfl | exact (Int.toNat_of_nonneg (by omega)).symm) (by first | assumption | exact at_map (by first | assumption | omega) | exact at_lst (by omega) | rfl) rfl ?_
       | refine OW_iaL rfl rfl rfl (by assumption) rfl rfl rfl (by first | rfl | exact (Int.toNat_of_nonneg (by omega)).symm) (by first | assumption | exact at_map (by first | assumption | omega) | exact at_lst (by omega) | rfl) rfl ?_
       refine EN118_CF11 rfl ?_
       refine OW_fa rfl rfl rfl ?_
       refine OW_loadE rfl rfl rfl (by first | exact part_whole rfl rfl rfl | rfl) ?_
       refine OW_mv rfl rfl ?_
       refine EN118_CF11 rfl ?_
       refine OW_mv rfl rfl ?_
       first
       | refine OW_iaL rfl rfl rfl Ls.of rfl rfl rfl (by first | rfl | exact (Int.toNat_of_nonneg (by omega)).symm) (by first | assumption | exact at_map (by first | assumption | omega) | exact at_lst (by omega) | rfl) rfl ?_
       | refine OW_iaL rfl rfl rfl (by assumption) rfl rfl rfl (by first | rfl | exact (Int.toNat_of_nonneg (by omega)).symm) (by first | assumption | exact at_map (by first | assumption | omega) | exact at_lst (by omega) | rfl) rfl ?_
       refine OW_fa rfl rfl rfl ?_
       refine EN118_CF11 rfl ?_
       refine OW_loadE rfl rfl rfl (by first | exact part_whole rfl rfl rfl | rfl) ?_
       refine OW_fn rfl rfl (p_runE (gs := 2) (by assumption) (by assumption) (ho.fit hn) hx.b.1 hr ?_) 
       refine OW_mv rfl rfl ?_
       refine EN118_CF11 rfl ?_
       refine OW_ex rfl rfl rfl ?_
       refine OW_ex rfl rfl rfl ?_
       refine OW_ex rfl rfl rfl ?_
       refine EN118_CF11 rfl ?_
       refine OW_allocR hS3 (le_app (p := ν1) (b := [21, 0, 0, 1, 0])) under_nil rfl rfl rfl rfl fun H4 hS4 => ?_
       replace hS4 : Own _ _ _ ([_, _]) := hS4
       first
       | refine OW_storeR hS4 (k := 0) rfl le_refl rfl rfl rfl rfl ⟨rfl, rfl, Nat.le_of_ble_eq_true rfl⟩ (set_whole rfl rfl) fun H5 hS5 => ?_
       | refine OW_storeR hS4 (k := 0) rfl le_refl rfl rfl rfl rfl ⟨rfl, rfl, Nat.le_of_ble_eq_true rfl⟩ (u2 := .agg [_, _, _]) rfl fun H5 hS5 => ?_
       replace hS5 : Own _ _ _ ([_, _]) := hS5
       refine OW_as rfl rfl ?_
       refine EN118_CF11 rfl ?_
       refine OW_as rfl rfl ?_
       refine EZ118_CF11 rfl ?_
       refine XW_seq ?_
       refine XW_sr ?_
       refine OW_mv rfl rfl ?_
       refine OW_mv rfl rfl ?_
       first
       | refine OW_iaL rfl rfl rfl Ls.of rfl rfl rfl (by first | rfl | exact (Int.toNat_of_nonneg (by omega)).symm) (by first | assumption | exact at_map (by first | assumption | omega) | exact at_lst (by omega) | rfl) rfl ?_
       | refine OW_iaL rfl rfl rfl (by assumption) rfl rfl rfl (by first | rfl | exact (Int.toNat_of_nonneg (by omega)).symm) (by first | assumption | exact at_map (by first | assumption | omega) | exact at_lst (by omega) | rfl) rfl ?_
       refine EN118_CF11 rfl ?_
       refine OW_fa rfl rfl rfl ?_
       refine OW_loadE rfl rfl rfl (by first | exact part_whole rfl rfl rfl | rfl) ?_
       refine OW_bin rfl rfl rfl rfl rfl ?_
       refine EN118_CF11 rfl ?_
       refine OW_mv rfl rfl ?_
       refine OW_split (tt := 52) rfl (fun g9_7 => ?_) (fun g9_7 => ?_)
       ·first
        |(exfalso; (try simp only [bs] at g9_7) <;> (first | (exact absurd rfl g9_7) | (exact g9_7 trivial) | omega | (simp at g9_7; done)); done)
        |skip
         try simp only [bs] at g9_7
         refine OW_mv rfl rfl ?_
         refine EN118_CF11 rfl ?_
         refine OW_bin rfl rfl rfl rfl rfl ?_
         refine OW_pick rfl rfl rfl ?_
         refine EZ118_CF11 rfl ?_
         refine XW_if rfl (fun h9 => ?_) (fun h9 => ?_)
         ·first
          |(exfalso; (try simp only [bs] at h9) <;> (first | (exact absurd rfl h9) | (exact h9 trivial) | omega | (simp at h9; done)); done)
          |skip
           try simp only [bs] at h9
           refine XW_seq ?_
           refine XW_sr ?_
           refine OW_mv rfl rfl ?_
           refine OW_mv rfl rfl ?_
           refine OW_bin rfl rfl rfl rfl (neUF (hm1 ⟨by assumption, by assumption⟩).1) ?_
           refine EZ118_CF11 rfl ?_
           refine XW_no rfl rfl ?_
           refine XW_skip ?_
           refine then_norm ?_
           refine XW_region ?_
           have hnx : c'.nx = m + 1 := (hm1 ⟨by assumption, by assumption⟩).2.1; have hn4 := hr4.n; have hmm := hR.1; have hn3 := hn.n
           refine OW_mv rfl rfl ?_
           first
           | refine OW_bin rfl rfl rfl rfl (add_wu64 (by first | omega | assumption | (simp only [ss]; omega))) ?_
           | refine OW_bin rfl rfl rfl rfl rfl ?_
           refine OW_as rfl rfl ?_
           refine EZ118_CF11 rfl ?_
           refine then_norm ?_
           refine XW_region ?_
           refine OW_loadR hS5 (k := 0) rfl rfl rfl rfl rfl (by first | exact part_whole rfl rfl rfl | rfl) ?_
           first
           | refine OW_storeR hS5 (k := 1) rfl (le_lit (ν := ν1) (a := [23, 0, 0, 1, 0]) (b := [1, 1, 1, 0, 1, 0]) (by decide)) rfl rfl rfl rfl ⟨rfl, rfl, Nat.le_of_ble_eq_true rfl⟩ (set_whole rfl rfl) fun H6 hS6 => ?_
           | refine OW_storeR hS5 (k := 1) rfl (le_lit (ν := ν1) (a := [23, 0, 0, 1, 0]) (b := [1, 1, 1, 0, 1, 0]) (by decide)) rfl rfl rfl rfl ⟨rfl, rfl, Nat.le_of_ble_eq_true rfl⟩ (u2 := .agg [_, _, _]) rfl fun H6 hS6 => ?_
           replace hS6 : Own _ _ _ ([_, _]) := hS6
           refine EZ118_CF11 rfl ?_
           refine block_norm ?_
           refine then_norm ?_
           refine XW_region ?_
           refine OW_mv rfl rfl ?_
           first
           | refine OW_bin rfl rfl rfl rfl (add_w64 (by first | omega | assumption | (simp only [ss]; omega))) ?_
           | refine OW_bin rfl rfl rfl rfl rfl ?_
           refine OW_as rfl rfl ?_
           refine EZ118_CF11 rfl ?_
           have hSd1 : Own _ _ _ ([_]) := (Own.drop hS6 (k := 0) rfl)
           -- round 0.1
           refine ⟨_, ?_, i + 1, c', .lst (c'.qs.map Qu.enc), .lst (c'.ps.map Pl.enc), m + 1, rfl, under_in hU1, Own.cast (Own.mono (hSd1) (le_lit (ν := ν1) (a := [2, 1, 1, 0, 1, 0]) (b := [1]) (by decide))) (rfl), ?_, env_g rfl⟩
           · first | omega | (simp; omega)
           · exact ⟨by omega, by omega, hr3, hr4, (hm1 ⟨by assumption, by assumption⟩).2, Ls.of, Ls.of⟩
         ·first
          |(exfalso; (try simp only [bs] at h9) <;> (first | (exact absurd rfl h9) | (exact h9 trivial) | omega | (simp at h9; done)); done)
          |skip
           try simp only [bs] at h9
           refine XW_skip ?_
           refine then_norm ?_
           refine XW_region ?_
           refine OW_loadR hS5 (k := 0) rfl rfl rfl rfl rfl (by first | exact part_whole rfl rfl rfl | rfl) ?_
           first
           | refine OW_storeR hS5 (k := 1) rfl (le_lit (ν := ν1) (a := [23, 0, 0, 1, 0]) (b := [1, 1, 1, 0, 1, 0]) (by decide)) rfl rfl rfl rfl ⟨rfl, rfl, Nat.le_of_ble_eq_true rfl⟩ (set_whole rfl rfl) fun H7 hS7 => ?_
           | refine OW_storeR hS5 (k := 1) rfl (le_lit (ν := ν1) (a := [23, 0, 0, 1, 0]) (b := [1, 1, 1, 0, 1, 0]) (by decide)) rfl rfl rfl rfl ⟨rfl, rfl, Nat.le_of_ble_eq_true rfl⟩ (u2 := .agg [_, _, _]) rfl fun H7 hS7 => ?_
           replace hS7 : Own _ _ _ ([_, _]) := hS7
           refine EZ118_CF11 rfl ?_
           refine block_norm ?_
           refine then_norm ?_
           refine XW_region ?_
           refine OW_mv rfl rfl ?_
           first
           | refine OW_bin rfl rfl rfl rfl (add_w64 (by first | omega | assumption | (simp only [ss]; omega))) ?_
           | refine OW_bin rfl rfl rfl rfl rfl ?_
           refine OW_as rfl rfl ?_
           refine EZ118_CF11 rfl ?_
           have hSd2 : Own _ _ _ ([_]) := (Own.drop hS7 (k := 0) rfl)
           -- round 0.2
           refine ⟨_, ?_, i + 1, c', .lst (c'.qs.map Qu.enc), .lst (c'.ps.map Pl.enc), m, rfl, under_in hU1, Own.cast (Own.mono (hSd2) (le_lit (ν := ν1) (a := [2, 1, 1, 0, 1, 0]) (b := [1]) (by decide))) (rfl), ?_, env_g rfl⟩
           · first | omega | (simp; omega)
           · exact ⟨by omega, by omega, hr3, hr4, hm2 (by rintro ⟨z1, z2⟩; first | contradiction | omega), Ls.of, Ls.of⟩
       ·first
        |(exfalso; (try simp only [bs] at g9_7) <;> (first | (exact absurd rfl g9_7) | (exact g9_7 trivial) | omega | (simp at g9_7; done)); done)
        |skip
         try simp only [bs] at g9_7
         refine OW_no rfl ?_
         refine EN118_CF11 rfl ?_
         refine OW_no rfl ?_
         refine OW_pick rfl rfl rfl ?_
         refine EZ118_CF11 rfl ?_
         refine XW_no rfl rfl ?_
         refine XW_skip ?_
         refine then_norm ?_
         refine XW_region ?_
         refine OW_loadR hS5 (k := 0) rfl rfl rfl rfl rfl (by first | exact part_whole rfl rfl rfl | rfl) ?_
         first
         | refine OW_storeR hS5 (k := 1) rfl (le_lit (ν := ν1) (a := [23, 0, 0, 1, 0]) (b := [1, 1, 1, 0, 1, 0]) (by decide)) rfl rfl rfl rfl ⟨rfl, rfl, Nat.le_of_ble_eq_true rfl⟩ (set_whole rfl rfl) fun H8 hS8 => ?_
         | refine OW_storeR hS5 (k := 1) rfl (le_lit (ν := ν1) (a := [23, 0, 0, 1, 0]) (b := [1, 1, 1, 0, 1, 0]) (by decide)) rfl rfl rfl rfl ⟨rfl, rfl, Nat.le_of_ble_eq_true rfl⟩ (u2 := .agg [_, _, _]) rfl fun H8 hS8 => ?_
         replace hS8 : Own _ _ _ ([_, _]) := hS8
         refine EZ118_CF11 rfl ?_
         refine block_norm ?_
         refine then_norm ?_
         refine XW_region ?_
         refine OW_mv rfl rfl ?_
         first
         | refine OW_bin rfl rfl rfl rfl (add_w64 (by first | omega | assumption | (simp only [ss]; omega))) ?_
         | refine OW_bin rfl rfl rfl rfl rfl ?_
         refine OW_as rfl rfl ?_
         refine EZ118_CF11 rfl ?_
         have hSd3 : Own _ _ _ ([_]) := (Own.drop hS8 (k := 0) rfl)
         -- round 0.3
         refine ⟨_, ?_, i + 1, c', .lst (c'.qs.map Qu.enc), .lst (c'.ps.map Pl.enc), m, rfl, under_in hU1, Own.cast (Own.mono (hSd3) (le_lit (ν := ν1) (a := [2, 1, 1, 0, 1, 0]) (b := [1]) (by decide))) (rfl), ?_, env_g rfl⟩
         · first | omega | (simp; omega)
         · exact ⟨by omega, by omega, hr3, hr4, hm2 (by rintro ⟨z1, z2⟩; first | contradiction | omega), Ls.of, Ls.of⟩
     ·first
      |(exfalso; (try simp only [bs] at h6) <;> (first | (exact absurd rfl h6) | (exact h6 trivial) | omega | (simp at h6; done)); done)
      |skip
       try simp only [bs] at h6
       refine XW_exit ?_
       refine then_exit ?_
       refine block_exit ?_
       -- mid 14.1
       refine ⟨c, U, V, m, Own.cast (Own.mono (hS3) (le_bef (bef_under (a := []) hU1 (before_lit (ν := []) (a := [1, 0, 1, 1, 1, 1]) (b := [1, 1, 1, 1, 1]) (by decide))))) (rfl), ?_, env_g rfl⟩
       · exact ⟨ho, hn, hR, hU, hV⟩
   ·first
    |(exfalso; (try simp only [bs] at g6_5) <;> (first | (exact absurd rfl g6_5) | (exact g6_5 trivial) | omega | (simp at g6_5; done)); done)
    |skip
     try simp only [bs] at g6_5
     refine EN118_CF11 rfl ?_
     refine OW_no rfl ?_
     refine OW_no rfl ?_
     refine OW_pick rfl rfl rfl ?_
     refine EZ118_CF11 rfl ?_
     refine XW_no rfl rfl ?_
     refine XW_exit ?_
     refine then_exit ?_
     refine block_exit ?_
     -- mid 14.2
     refine ⟨c, U, V, m, Own.cast (Own.mono (hS3) (le_bef (bef_under (a := []) hU1 (before_lit (ν := []) (a := [1, 0, 1, 1, 1, 1]) (b := [1, 1, 1, 1, 1]) (by decide))))) (rfl), ?_, env_g rfl⟩
     · exact ⟨ho, hn, hR, hU, hV⟩
  ·rintro ee H9 ⟨c, U, V, m, hS9, ⟨ho, hn, hR, hU, hV⟩, g2, rfl⟩
   refine XW_seq ?_
   refine XW_sr ?_
   have hql := (of_decide_eq_true ho.q).1; have hpl := ho.l; have hps := hn.p
   have hpd : ∀ x ∈ c.ps, 0 ≤ x.de ∧ x.de ≤ 4 := fun x hx => by obtain ⟨j, hj, rfl⟩ := List.mem_iff_getElem.1 hx; exact ⟨(hn.p _ hx).2.2.1.1, (ho.p j hj).2.2.1⟩
   refine OW_as rfl rfl ?_
   refine EZ118_CF11 rfl ?_
   refine XW_block ?_
   refine XW_whileN (I := fun ν' mm ee H' => ∃ (j : Nat), mm = c.qs.length - j ∧ under (1 :: 0 :: 1 :: 1 :: 1 :: 1 :: 1 :: []) ν' = true ∧ Own [] ν' H' ([row (1 :: 0 :: 1 :: 1 :: []) 3 [.agg [U, V, .int .u64 c.nx]]]) ∧ (j ≤ c.qs.length) ∧ ∃ g : Nat → AVal, ee = [.lst (l.map Dc.enc), g 1, g 2, .ptr (1 :: 0 :: 1 :: 1 :: []) 0 0, .int .u64 m, g 5, g 6, g 7, g 8, .int .i64 j, g 10, g 11, g 12, g 13, g 14, g 15, g 16, g 17, g 18, g 19, g 20, g 21, g 22, g 23, g 24, g 25, g 26, g 27, g 28, g 29, g 30, g 31, g 32, g 33, g 34, g 35, g 36, g 37, g 38, g 39, g 40, g 41, g 42, g 43, g 44, g 45, g 46, g 47, g 48, g 49, g 50, g 51, g 52, g 53, g 54, g 55, g 56, g 57, g 58, g 59, g 60, g 61, g 62, g 63, g 64, g 65, g 66, g 67, g 68, g 69, g 70, g 71, g 72, g 73, g 74, g 75, g 76, g 77, g 78, g 79, g 80, g 81, g 82, g 83, g 84, g 85, g 86, g 87, g 88, g 89, g 90, g 91, g 92, g 93, g 94, g 95, g 96, g 97, g 98, g 99, g 100, g 101, g 102, g 103, g 104, g 105, g 106, g 107, g 108, g 109, g 110, g 111, g 112, g 113, g 114, g 115, g 116, g 117]) ?_ _ _ _ _ ⟨0, rfl, under_me, Own.cast (Own.mono (hS9) (le_app (p := 1 :: 1 :: 1 :: 1 :: 1 :: []) (b := [1, 0]))) (rfl), (by omega), env_g rfl⟩
   rintro ν2 mm ee H10 ⟨j, rfl, hU2, hS10, hj, g3, rfl⟩
   refine XW_seq ?_
   refine XW_sr ?_
   refine OW_mv rfl rfl ?_
   refine OW_fa rfl rfl rfl ?_
   refine OW_loadR hS10 (k := 0) rfl rfl rfl rfl rfl (by first | exact part_whole rfl rfl rfl | rfl) ?_
   refine EN118_CF11 rfl ?_
   first
   | refine OW_lenL rfl rfl (by first | assumption | exact Ls.of | exact Ls.emp | exact Ls.nls) rfl rfl rfl (by first | exact List.length_map _ | rfl) ?_
   | refine OW_bi rfl rfl rfl ?_
   refine OW_bin rfl rfl rfl rfl rfl ?_
   refine EZ118_CF11 rfl ?_
   refine XW_if rfl (fun h15 => ?_) (fun h15 => ?_)
   ·first
    |(exfalso; (try simp only [bs] at h15) <;> (first | (exact absurd rfl h15) | (exact h15 trivial) | omega | (simp at h15; done)); done)
    |skip
     try simp only [bs] at h15
     refine XW_skip ?_
     refine then_norm ?_
     refine XW_seq ?_
     refine XW_block ?_
     refine XW_sr ?_
     refine OW_as rfl rfl ?_
     refine EZ118_CF11 rfl ?_
     refine XW_seq ?_
     refine XW_sr ?_
     refine OW_as rfl rfl ?_
     refine EZ118_CF11 rfl ?_
     refine XW_block ?_
     refine XW_whileN (I := fun ν' mm ee H' => ∃ (k : Nat) (s : Nat), mm = c.ps.length - k ∧ under (1 :: 0 :: 1 :: 0 :: 1 :: 0 :: ν2) ν' = true ∧ Own [] ν' H' ([row (1 :: 0 :: 1 :: 1 :: []) 3 [.agg [U, V, .int .u64 c.nx]]]) ∧ (k ≤ c.ps.length ∧ ∃ h : j < c.qs.length, s = sumT (c.ps.take k) c.qs[j].tn) ∧ ∃ g : Nat → AVal, ee = [.lst (l.map Dc.enc), g 1, g 2, .ptr (1 :: 0 :: 1 :: 1 :: []) 0 0, .int .u64 m, g 5, g 6, g 7, g 8, .int .i64 j, .int .u64 s, .int .i64 k, g 12, g 13, g 14, g 15, g 16, g 17, g 18, g 19, g 20, g 21, g 22, g 23, g 24, g 25, g 26, g 27, g 28, g 29, g 30, g 31, g 32, g 33, g 34, g 35, g 36, g 37, g 38, g 39, g 40, g 41, g 42, g 43, g 44, g 45, g 46, g 47, g 48, g 49, g 50, g 51, g 52, g 53, g 54, g 55, g 56, g 57, g 58, g 59, g 60, g 61, g 62, g 63, g 64, g 65, g 66, g 67, g 68, g 69, g 70, g 71, g 72, g 73, g 74, g 75, g 76, g 77, g 78, g 79, g 80, g 81, g 82, g 83, g 84, g 85, g 86, g 87, g 88, g 89, g 90, g 91, g 92, g 93, g 94, g 95, g 96, g 97, g 98, g 99, g 100, g 101, g 102, g 103, g 104, g 105, g 106, g 107, g 108, g 109, g 110, g 111, g 112, g 113, g 114, g 115, g 116, g 117]) ?_ _ _ _ _ ⟨0, 0, rfl, under_me, Own.cast (Own.mono (hS10) (le_app (p := ν2) (b := [1, 0, 1, 0, 1, 0]))) (rfl), (⟨by omega, by omega, rfl⟩), env_g rfl⟩
     rintro ν3 mm ee H11 ⟨k, s, rfl, hU3, hS11, ⟨hk, hjl, hs⟩, g4, rfl⟩
     refine XW_seq ?_
     refine XW_sr ?_
     refine OW_mv rfl rfl ?_
     refine OW_fa rfl rfl rfl ?_
     refine OW_loadR hS11 (k := 0) rfl rfl rfl rfl rfl (by first | exact part_whole rfl rfl rfl | rfl) ?_
     refine EN118_CF11 rfl ?_
     first
     | refine OW_lenL rfl rfl (by first | assumption | exact Ls.of | exact Ls.emp | exact Ls.nls) rfl rfl rfl (by first | exact List.length_map _ | rfl) ?_
     | refine OW_bi rfl rfl rfl ?_
     refine OW_bin rfl rfl rfl rfl rfl ?_
     refine EZ118_CF11 rfl ?_
     refine XW_if rfl (fun h19 => ?_) (fun h19 => ?_)
     ·first
      |(exfalso; (try simp only [bs] at h19) <;> (first | (exact absurd rfl h19) | (exact h19 trivial) | omega | (simp at h19; done)); done)
      |skip
       try simp only [bs] at h19
       refine XW_skip ?_
       refine then_norm ?_
       refine XW_seq ?_
       refine XW_block ?_
       refine XW_sr ?_
       refine OW_fa rfl rfl rfl ?_
       refine OW_loadR hS11 (k := 0) rfl rfl rfl rfl rfl (by first | exact part_whole rfl rfl rfl | rfl) ?_
       refine OW_mv rfl rfl ?_
       refine EN118_CF11 rfl ?_
       first
       | refine OW_iaL rfl rfl rfl Ls.of rfl rfl rfl (by first | rfl | exact (Int.toNat_of_nonneg (by omega)).symm) (by first | assumption | exact at_map (by first | assumption | omega) | exact at_lst (by omega) | rfl) rfl ?_
       | refine OW_iaL rfl rfl rfl (by assumption) rfl rfl rfl (by first | rfl | exact (Int.toNat_of_nonneg (by omega)).symm) (by first | assumption | exact at_map (by first | assumption | omega) | exact at_lst (by omega) | rfl) rfl ?_
       refine OW_fa rfl rfl rfl ?_
       refine OW_loadE rfl rfl rfl (by first | exact part_whole rfl rfl rfl | rfl) ?_
       refine EN118_CF11 rfl ?_
       refine OW_fa rfl rfl rfl ?_
       refine OW_loadR hS11 (k := 0) rfl rfl rfl rfl rfl (by first | exact part_whole rfl rfl rfl | rfl) ?_
       refine OW_mv rfl rfl ?_
       refine EN118_CF11 rfl ?_
       first
       | refine OW_iaL rfl rfl rfl Ls.of rfl rfl rfl (by first | rfl | exact (Int.toNat_of_nonneg (by omega)).symm) (by first | assumption | exact at_map (by first | assumption | omega) | exact at_lst (by omega) | rfl) rfl ?_
       | refine OW_iaL rfl rfl rfl (by assumption) rfl rfl rfl (by first | rfl | exact (Int.toNat_of_nonneg (by omega)).symm) (by first | assumption | exact at_map (by first | assumption | omega) | exact at_lst (by omega) | rfl) rfl ?_
       refine OW_fa rfl rfl rfl ?_
       refine OW_loadE rfl rfl rfl (by first | exact part_whole rfl rfl rfl | rfl) ?_
       refine EN118_CF11 rfl ?_
       refine OW_bin rfl rfl rfl rfl rfl ?_
       refine EZ118_CF11 rfl ?_
       refine XW_if rfl (fun h21 => ?_) (fun h21 => ?_)
       ·first
        |(exfalso; (try simp only [bs] at h21) <;> (first | (exact absurd rfl h21) | (exact h21 trivial) | omega | (simp at h21; done)); done)
        |skip
         try simp only [bs] at h21
         refine XW_region ?_
         have hde := hpd c.ps[k] (List.getElem_mem (by omega))
         have hpw := pow_le hde
         have hsl := sumT_le (t := c.ps.take k) (fun x hx => hpd x (List.mem_of_mem_take hx)) c.qs[j].tn
         rw [List.length_take] at hsl
         refine OW_mv rfl rfl ?_
         refine OW_fa rfl rfl rfl ?_
         refine OW_loadR hS11 (k := 0) rfl rfl rfl rfl rfl (by first | exact part_whole rfl rfl rfl | rfl) ?_
         refine EN118_CF11 rfl ?_
         refine OW_mv rfl rfl ?_
         first
         | refine OW_iaL rfl rfl rfl Ls.of rfl rfl rfl (by first | rfl | exact (Int.toNat_of_nonneg (by omega)).symm) (by first | assumption | exact at_map (by first | assumption | omega) | exact at_lst (by omega) | rfl) rfl ?_
         | refine OW_iaL rfl rfl rfl (by assumption) rfl rfl rfl (by first | rfl | exact (Int.toNat_of_nonneg (by omega)).symm) (by first | assumption | exact at_map (by first | assumption | omega) | exact at_lst (by omega) | rfl) rfl ?_
         refine OW_fa rfl rfl rfl ?_
         refine EN118_CF11 rfl ?_
         refine OW_loadE rfl rfl rfl (by first | exact part_whole rfl rfl rfl | rfl) ?_
         refine OW_bin rfl rfl rfl rfl (shl_c hde) ?_
         first
         | refine OW_bin rfl rfl rfl rfl (add_wu64 (by first | omega | assumption | (simp only [ss]; omega))) ?_
         | refine OW_bin rfl rfl rfl rfl rfl ?_
         refine EN118_CF11 rfl ?_
         refine OW_as rfl rfl ?_
         refine EZ118_CF11 rfl ?_
         refine block_norm ?_
         refine then_norm ?_
         refine XW_region ?_
         refine OW_mv rfl rfl ?_
         first
         | refine OW_bin rfl rfl rfl rfl (add_w64 (by first | omega | assumption | (simp only [ss]; omega))) ?_
         | refine OW_bin rfl rfl rfl rfl rfl ?_
         refine OW_as rfl rfl ?_
         refine EZ118_CF11 rfl ?_
         -- round 4.1
         refine ⟨_, ?_, k + 1, s + 2 ^ c.ps[k].de.toNat, rfl, under_in hU3, Own.cast (Own.mono (hS11) (le_app (p := ν3) (b := [1]))) (rfl), ?_, env_g rfl⟩
         · first | omega | (simp; omega)
         · exact ⟨by omega, hjl, by rw [sumT_step (by omega), if_pos (by assumption), hs]⟩
       ·first
        |(exfalso; (try simp only [bs] at h21) <;> (first | (exact absurd rfl h21) | (exact h21 trivial) | omega | (simp at h21; done)); done)
        |skip
         try simp only [bs] at h21
         refine XW_skip ?_
         refine block_norm ?_
         refine then_norm ?_
         refine XW_region ?_
         refine OW_mv rfl rfl ?_
         first
         | refine OW_bin rfl rfl rfl rfl (add_w64 (by first | omega | assumption | (simp only [ss]; omega))) ?_
         | refine OW_bin rfl rfl rfl rfl rfl ?_
         refine OW_as rfl rfl ?_
         refine EZ118_CF11 rfl ?_
         -- round 4.2
         refine ⟨_, ?_, k + 1, s, rfl, under_in hU3, Own.cast (Own.mono (hS11) (le_app (p := ν3) (b := [1]))) (rfl), ?_, env_g rfl⟩
         · first | omega | (simp; omega)
         · exact ⟨by omega, hjl, by rw [sumT_step (by omega), if_neg (by assumption), hs]; rfl⟩
     ·first
      |(exfalso; (try simp only [bs] at h19) <;> (first | (exact absurd rfl h19) | (exact h19 trivial) | omega | (simp at h19; done)); done)
      |skip
       try simp only [bs] at h19
       refine XW_exit ?_
       refine then_exit ?_
       refine block_exit ?_
       refine then_norm ?_
       refine XW_sr ?_
       rw [List.take_of_length_le (by omega)] at hs
       refine OW_mv rfl rfl ?_
       refine OW_fa rfl rfl rfl ?_
       refine OW_loadR hS11 (k := 0) rfl rfl rfl rfl rfl (by first | exact part_whole rfl rfl rfl | rfl) ?_
       refine EN118_CF11 rfl ?_
       refine OW_mv rfl rfl ?_
       first
       | refine OW_iaL rfl rfl rfl Ls.of rfl rfl rfl (by first | rfl | exact (Int.toNat_of_nonneg (by omega)).symm) (by first | assumption | exact at_map (by first | assumption | omega) | exact at_lst (by omega) | rfl) rfl ?_
       | refine OW_iaL rfl rfl rfl (by assumption) rfl rfl rfl (by first | rfl | exact (Int.toNat_of_nonneg (by omega)).symm) (by first | assumption | exact at_map (by first | assumption | omega) | exact at_lst (by omega) | rfl) rfl ?_
       refine OW_fa rfl rfl rfl ?_
       refine EN118_CF11 rfl ?_
       refine OW_loadE rfl rfl rfl (by first | exact part_whole rfl rfl rfl | rfl) ?_
       refine OW_bin rfl rfl rfl rfl (neUF (by rw [hs, hR.2.2, used_at ho.q])) ?_
       refine EZ118_CF11 rfl ?_
       refine XW_no rfl rfl ?_
       refine XW_skip ?_
       refine block_norm ?_
       refine then_norm ?_
       refine XW_region ?_
       refine OW_mv rfl rfl ?_
       first
       | refine OW_bin rfl rfl rfl rfl (add_w64 (by first | omega | assumption | (simp only [ss]; omega))) ?_
       | refine OW_bin rfl rfl rfl rfl rfl ?_
       refine OW_as rfl rfl ?_
       refine EZ118_CF11 rfl ?_
       -- round 2.1
       refine ⟨_, ?_, j + 1, rfl, under_in hU2, Own.cast (Own.mono (hS11) (le_bef (bef_under (a := []) hU3 (before_lit (ν := ν2) (a := [1, 0, 1, 0, 1, 0]) (b := [1]) (by decide))))) (rfl), ?_, env_g rfl⟩
       · first | omega | (simp; omega)
       · omega
   ·first
    |(exfalso; (try simp only [bs] at h15) <;> (first | (exact absurd rfl h15) | (exact h15 trivial) | omega | (simp at h15; done)); done)
    |skip
     try simp only [bs] at h15
     refine XW_exit ?_
     refine then_exit ?_
     refine block_exit ?_
     refine then_norm ?_
     refine XW_sr ?_
     refine OW_fa rfl rfl rfl ?_
     refine OW_loadR hS10 (k := 0) rfl rfl rfl rfl rfl (by first | exact part_whole rfl rfl rfl | rfl) ?_
     refine OW_mv rfl rfl ?_
     refine EN118_CF11 rfl ?_
     refine OW_bin rfl rfl rfl rfl (eqU hR.1) ?_
     refine OW_mv rfl rfl ?_
     refine OW_fa rfl rfl rfl ?_
     refine EN118_CF11 rfl ?_
     refine OW_loadR hS10 (k := 0) rfl rfl rfl rfl rfl (by first | exact part_whole rfl rfl rfl | rfl) ?_
     first
     | refine OW_lenL rfl rfl (by first | assumption | exact Ls.of | exact Ls.emp | exact Ls.nls) rfl rfl rfl (by first | exact List.length_map _ | rfl) ?_
     | refine OW_bi rfl rfl rfl ?_
     first
     | refine OW_conv rfl rfl (conv_in rfl rfl rfl (IntWalk.u64_in _ (by omega))) ?_
     | refine OW_conv rfl rfl rfl ?_
     refine EN118_CF11 rfl ?_
     refine OW_mv rfl rfl ?_
     refine OW_bin rfl rfl rfl rfl (eqU hR.2.1) ?_
     refine OW_pick rfl rfl rfl ?_
     refine EN118_CF11 rfl ?_
     refine OW_as rfl rfl ?_
     refine EZ118_CF11 rfl ?_
     refine XW_ret ?_
     -- outcome 1
     refine ret_ret (res1 rfl (rv_tmp rfl)) (frz1 (Q := Q) (by first | exact freeze_plain rfl | exact Ls.freeze (by assumption) | exact Ls.freeze Ls.of | exact Ls.freeze Ls.emp | exact Ls.freeze Ls.nls) ?_)
     first
     | exact hq
     | (refine qcast hq ?_; rfl)
     | (refine qcast hq ?_; simp; done)
     | (refine qcast hq ?_; simp; omega)
     | (refine qcast hq ?_; simp_all; done)
end Go.Proofs.Ytealccnfnpkngaa.X
