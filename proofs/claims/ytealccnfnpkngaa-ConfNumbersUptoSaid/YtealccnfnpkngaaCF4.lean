/- Layer 14: the program's group. -/
import Derived.Test.YtealccnfnpkngaaCF3
set_option linter.unusedVariables false
set_option linter.unusedSimpArgs false
set_option maxRecDepth 100000
namespace Go.Proofs.Ytealccnfnpkngaa.X
open Go Go.RowKit WM
theorem EN42_CF4 {c : Cfg} {ν : Nm} {e : Env} {H : Heap} {all : Array Oper} {r : List Oper} {i : Nat} {Q : Env → Heap → Prop} {x0 x1 x2 x3 x4 x5 x6 x7 x8 x9 x10 x11 x12 x13 x14 x15 x16 x17 x18 x19 x20 x21 x22 x23 x24 x25 x26 x27 x28 x29 x30 x31 x32 x33 x34 x35 x36 x37 x38 x39 x40 x41 : AVal} (he : e = [x0,x1,x2,x3,x4,x5,x6,x7,x8,x9,x10,x11,x12,x13,x14,x15,x16,x17,x18,x19,x20,x21,x22,x23,x24,x25,x26,x27,x28,x29,x30,x31,x32,x33,x34,x35,x36,x37,x38,x39,x40,x41]) (h : OW c ν all r i [x0,x1,x2,x3,x4,x5,x6,x7,x8,x9,x10,x11,x12,x13,x14,x15,x16,x17,x18,x19,x20,x21,x22,x23,x24,x25,x26,x27,x28,x29,x30,x31,x32,x33,x34,x35,x36,x37,x38,x39,x40,x41] H Q) : OW c ν all r i e H Q := by subst he; exact h
theorem EZ19_CF4 {c : Cfg} {ν : Nm} {e : Env} {H : Heap} {all : Array Oper} {i : Nat} {Q : Env → Heap → Prop} {x0 x1 x2 x3 x4 x5 x6 x7 x8 x9 x10 x11 x12 x13 x14 x15 x16 x17 x18 : AVal} (he : e = [x0,x1,x2,x3,x4,x5,x6,x7,x8,x9,x10,x11,x12,x13,x14,x15,x16,x17,x18]) (h : Q [x0,x1,x2,x3,x4,x5,x6,x7,x8,x9,x10,x11,x12,x13,x14,x15,x16,x17,x18] H) : OW c ν all [] i e H Q := by subst he; exact OW_nil h
theorem EZ25_CF4 {c : Cfg} {ν : Nm} {e : Env} {H : Heap} {all : Array Oper} {i : Nat} {Q : Env → Heap → Prop} {x0 x1 x2 x3 x4 x5 x6 x7 x8 x9 x10 x11 x12 x13 x14 x15 x16 x17 x18 x19 x20 x21 x22 x23 x24 : AVal} (he : e = [x0,x1,x2,x3,x4,x5,x6,x7,x8,x9,x10,x11,x12,x13,x14,x15,x16,x17,x18,x19,x20,x21,x22,x23,x24]) (h : Q [x0,x1,x2,x3,x4,x5,x6,x7,x8,x9,x10,x11,x12,x13,x14,x15,x16,x17,x18,x19,x20,x21,x22,x23,x24] H) : OW c ν all [] i e H Q := by subst he; exact OW_nil h
theorem EZ42_CF4 {c : Cfg} {ν : Nm} {e : Env} {H : Heap} {all : Array Oper} {i : Nat} {Q : Env → Heap → Prop} {x0 x1 x2 x3 x4 x5 x6 x7 x8 x9 x10 x11 x12 x13 x14 x15 x16 x17 x18 x19 x20 x21 x22 x23 x24 x25 x26 x27 x28 x29 x30 x31 x32 x33 x34 x35 x36 x37 x38 x39 x40 x41 : AVal} (he : e = [x0,x1,x2,x3,x4,x5,x6,x7,x8,x9,x10,x11,x12,x13,x14,x15,x16,x17,x18,x19,x20,x21,x22,x23,x24,x25,x26,x27,x28,x29,x30,x31,x32,x33,x34,x35,x36,x37,x38,x39,x40,x41]) (h : Q [x0,x1,x2,x3,x4,x5,x6,x7,x8,x9,x10,x11,x12,x13,x14,x15,x16,x17,x18,x19,x20,x21,x22,x23,x24,x25,x26,x27,x28,x29,x30,x31,x32,x33,x34,x35,x36,x37,x38,x39,x40,x41] H) : OW c ν all [] i e H Q := by subst he; exact OW_nil h
variable {ν β ps pos' : Nm} {H : Heap} {Q : AVal → Heap → Prop} {L : List Asr} {k : Nat}
def encI (n : Int) : AVal := .int .i64 n
theorem min_c {v : AVal} {l : List Int} (hv : freeze [] H 8 v = .lst (l.map encI)) (h0 : 0 < l.length) (hn : l.length ≤ 4294967296) (hq : ∀ m, (∃ j, ∃ h : j < l.length, l[j] = m) → (∀ j (h : j < l.length), m ≤ l[j]) → Q (.int .i64 m) H) : CW cfg ν 86 [v] H Q := by
  refine CW_borrowL (args' := [.lst (l.map encI)]) g86 F86 rfl (fz_cons (by first | assumption | exact freeze_plain rfl | exact Ls.freeze (by assumption) | rfl) fz_nil) ?_
  refine XW_sr ?_
  refine OW_as rfl rfl ?_
  refine EZ25_CF4 rfl ?_
  refine XW_seq ?_
  refine XW_sr ?_
  refine OW_mv rfl rfl ?_
  first
  | refine OW_lenL rfl rfl (by first | assumption | exact Ls.of | exact Ls.emp | exact Ls.nls) rfl rfl rfl (by first | exact List.length_map _ | rfl) ?_
  | refine OW_bi rfl rfl rfl ?_
  refine OW_bin rfl rfl rfl rfl rfl ?_
  refine EZ25_CF4 rfl ?_
  refine XW_if rfl (fun h1 => ?_) (fun h1 => ?_)
  · exfalso; (try simp only [bs] at h1) <;> (omega)
  ·try simp only [bs] at h1
   refine XW_skip ?_
   refine then_norm ?_
   refine XW_sr ?_
   refine OW_mv rfl rfl ?_
   first
   | refine OW_iaL rfl rfl rfl Ls.of rfl rfl rfl (by first | rfl | exact (Int.toNat_of_nonneg (by omega)).symm) (by first | assumption | exact at_map (by first | assumption | omega) | exact at_lst (by omega) | rfl) rfl ?_
   | refine OW_iaL rfl rfl rfl (by assumption) rfl rfl rfl (by first | rfl | exact (Int.toNat_of_nonneg (by omega)).symm) (by first | assumption | exact at_map (by first | assumption | omega) | exact at_lst (by omega) | rfl) rfl ?_
   refine OW_loadE rfl rfl rfl (by first | exact part_whole rfl rfl rfl | rfl) ?_
   refine OW_env (e' := [_,_,_,_,_,_,_,_,_,_,_,_,_,_,_,_,_,_,_,_,_,_,_,_,_]) rfl ?_
   refine OW_as rfl rfl ?_
   refine EZ25_CF4 rfl ?_
   refine XW_seq ?_
   refine XW_sr ?_
   refine OW_as rfl rfl ?_
   refine EZ25_CF4 rfl ?_
   refine XW_block ?_
   refine XW_whileN (I := fun ν' mm ee H' => ∃ (i : Nat) (m : Int), mm = l.length - i ∧ under (1 :: 0 :: 1 :: 1 :: 1 :: ν) ν' = true ∧ (1 ≤ i ∧ i ≤ l.length ∧ (∃ j, ∃ h : j < l.length, l[j] = m) ∧ ∀ j (h : j < l.length), j < i → m ≤ l[j]) ∧ ∃ g : Nat → AVal, ee = [.lst (l.map encI), g 1, g 2, .int .i64 m, .int .i64 i, g 5, g 6, g 7, g 8, g 9, g 10, g 11, g 12, g 13, g 14, g 15, g 16, g 17, g 18, g 19, g 20, g 21, g 22, g 23, g 24]) ?_ _ _ _ _ ⟨1, l[0], rfl, under_me, (⟨by omega, by omega, ⟨0, h0, rfl⟩, fun j h hj => by obtain rfl : j = 0 := (by omega); exact Int.le_refl _⟩), env_g rfl⟩
   rintro ν1 mm ee H1 ⟨i, m, rfl, hU1, ⟨h1, hi, hx, hm⟩, g1, rfl⟩
   refine XW_seq ?_
   refine XW_sr ?_
   refine OW_mv rfl rfl ?_
   refine OW_mv rfl rfl ?_
   first
   | refine OW_lenL rfl rfl (by first | assumption | exact Ls.of | exact Ls.emp | exact Ls.nls) rfl rfl rfl (by first | exact List.length_map _ | rfl) ?_
   | refine OW_bi rfl rfl rfl ?_
   refine OW_env (e' := [_,_,_,_,_,_,_,_,_,_,_,_,_,_,_,_,_,_,_,_,_,_,_,_,_]) rfl ?_
   refine OW_bin rfl rfl rfl rfl rfl ?_
   refine EZ25_CF4 rfl ?_
   refine XW_if rfl (fun h5 => ?_) (fun h5 => ?_)
   ·try simp only [bs] at h5
    refine XW_skip ?_
    refine then_norm ?_
    refine XW_seq ?_
    refine XW_block ?_
    refine XW_region ?_
    refine OW_mv rfl rfl ?_
    refine OW_mv rfl rfl ?_
    refine OW_mv rfl rfl ?_
    refine OW_env (e' := [_,_,_,_,_,_,_,_,_,_,_,_,_,_,_,_,_,_,_,_,_,_,_,_,_]) rfl ?_
    first
    | refine OW_iaL rfl rfl rfl Ls.of rfl rfl rfl (by first | rfl | exact (Int.toNat_of_nonneg (by omega)).symm) (by first | assumption | exact at_map (by first | assumption | omega) | exact at_lst (by omega) | rfl) rfl ?_
    | refine OW_iaL rfl rfl rfl (by assumption) rfl rfl rfl (by first | rfl | exact (Int.toNat_of_nonneg (by omega)).symm) (by first | assumption | exact at_map (by first | assumption | omega) | exact at_lst (by omega) | rfl) rfl ?_
    refine OW_loadE rfl rfl rfl (by first | exact part_whole rfl rfl rfl | rfl) ?_
    refine OW_bi rfl rfl mn64 ?_
    refine OW_env (e' := [_,_,_,_,_,_,_,_,_,_,_,_,_,_,_,_,_,_,_,_,_,_,_,_,_]) rfl ?_
    refine OW_as rfl rfl ?_
    refine EZ25_CF4 rfl ?_
    refine block_norm ?_
    refine then_norm ?_
    refine XW_region ?_
    refine OW_mv rfl rfl ?_
    first
    | refine OW_bin rfl rfl rfl rfl (add_w64 (by first | omega | assumption | (simp only [ss]; omega))) ?_
    | refine OW_bin rfl rfl rfl rfl rfl ?_
    refine OW_as rfl rfl ?_
    refine EZ25_CF4 rfl ?_
    -- round 0.1
    refine ⟨_, ?_, i + 1, min m l[i], rfl, under_in hU1, ?_, env_g rfl⟩
    · first | omega | (simp; omega)
    · exact ⟨by omega, by omega, by rcases Int.le_total m l[i] with h | h; (rw [Int.min_eq_left h]; exact hx); (rw [Int.min_eq_right h]; exact ⟨i, by omega, rfl⟩), fun j h hj => by by_cases e : j = i; (subst e; omega); have := hm j h (by omega); omega⟩
   ·try simp only [bs] at h5
    refine XW_exit ?_
    refine then_exit ?_
    refine block_exit ?_
    refine then_norm ?_
    refine XW_sr ?_
    refine OW_mv rfl rfl ?_
    refine OW_as rfl rfl ?_
    refine EZ25_CF4 rfl ?_
    refine XW_ret ?_
    -- outcome 1
    refine ret_ret (res1 rfl (rv_tmp rfl)) ⟨rfl, ?_⟩
    exact hq m hx (fun j h => hm j h (by omega))
theorem index_c {v : AVal} {l : List Int} {x : Int} (hv : freeze [] H 8 v = .lst (l.map encI)) (hn : l.length ≤ 4294967296) (hq : Q (.int .i64 (firstI (fun y => decide (x = y)) l 0)) H) : CW cfg ν 85 [v, .int .i64 x] H Q := by
  refine CW_borrowL (args' := [.lst (l.map encI), .int .i64 x]) g85 F85 rfl (fz_cons (by first | assumption | exact freeze_plain rfl | exact Ls.freeze (by assumption) | rfl) (fz_cons (by first | assumption | exact freeze_plain rfl | exact Ls.freeze (by assumption) | rfl) fz_nil)) ?_
  refine XW_sr ?_
  refine OW_as rfl rfl ?_
  refine EZ19_CF4 rfl ?_
  refine XW_seq ?_
  refine XW_sr ?_
  refine OW_mv rfl rfl ?_
  first
  | refine OW_lenL rfl rfl (by first | assumption | exact Ls.of | exact Ls.emp | exact Ls.nls) rfl rfl rfl (by first | exact List.length_map _ | rfl) ?_
  | refine OW_bi rfl rfl rfl ?_
  refine OW_mv rfl rfl ?_
  refine EZ19_CF4 rfl ?_
  refine XW_block ?_
  refine XW_whileN (I := fun ν' mm ee H' => ∃ (i : Nat), mm = l.length - i ∧ under (1 :: 0 :: 1 :: ν) ν' = true ∧ (i ≤ l.length ∧ firstI (fun y => decide (x = y)) l 0 = firstI (fun y => decide (x = y)) (l.drop i) i) ∧ ∃ g : Nat → AVal, ee = [.lst (l.map encI), .int .i64 x, g 2, g 3, g 4, g 5, g 6, .int .i64 l.length, .int .i64 i, g 9, g 10, g 11, g 12, g 13, g 14, g 15, g 16, g 17, g 18]) ?_ _ _ _ _ ⟨0, rfl, under_me, (⟨by omega, rfl⟩), env_g rfl⟩
  rintro ν1 mm ee H1 ⟨i, rfl, hU1, ⟨hi, hI⟩, g1, rfl⟩
  refine XW_sr ?_
  refine OW_bin rfl rfl rfl rfl rfl ?_
  refine EZ19_CF4 rfl ?_
  refine XW_seq ?_
  refine XW_if rfl (fun h2 => ?_) (fun h2 => ?_)
  ·try simp only [bs] at h2
   refine XW_skip ?_
   refine then_norm ?_
   refine XW_seq ?_
   refine XW_block ?_
   refine XW_sr ?_
   refine OW_mv rfl rfl ?_
   refine OW_as rfl rfl ?_
   refine EZ19_CF4 rfl ?_
   refine XW_sr ?_
   refine OW_mv rfl rfl ?_
   refine OW_mv rfl rfl ?_
   refine OW_mv rfl rfl ?_
   refine OW_env (e' := [_,_,_,_,_,_,_,_,_,_,_,_,_,_,_,_,_,_,_]) rfl ?_
   first
   | refine OW_iaL rfl rfl rfl Ls.of rfl rfl rfl (by first | rfl | exact (Int.toNat_of_nonneg (by omega)).symm) (by first | assumption | exact at_map (by first | assumption | omega) | exact at_lst (by omega) | rfl) rfl ?_
   | refine OW_iaL rfl rfl rfl (by assumption) rfl rfl rfl (by first | rfl | exact (Int.toNat_of_nonneg (by omega)).symm) (by first | assumption | exact at_map (by first | assumption | omega) | exact at_lst (by omega) | rfl) rfl ?_
   refine OW_loadE rfl rfl rfl (by first | exact part_whole rfl rfl rfl | rfl) ?_
   refine OW_bin rfl rfl rfl rfl rfl ?_
   refine EZ19_CF4 rfl ?_
   refine XW_if rfl (fun h4 => ?_) (fun h4 => ?_)
   ·try simp only [bs] at h4
    refine XW_sr ?_
    refine OW_mv rfl rfl ?_
    refine OW_as rfl rfl ?_
    refine EZ19_CF4 rfl ?_
    refine XW_ret ?_
    refine block_ret ?_
    refine then_ret ?_
    refine block_ret ?_
    refine then_ret ?_
    -- outcome 1
    refine ret_ret (res1 rfl (rv_tmp rfl)) ⟨rfl, ?_⟩
    first | (rw [hI, List.drop_eq_nil_of_le (by omega)] at hq; exact hq) | (rw [hI, List.drop_eq_getElem_cons (by omega), firstI, if_pos (by simpa using h4)] at hq; exact hq)
   ·try simp only [bs] at h4
    refine XW_skip ?_
    refine block_norm ?_
    refine then_norm ?_
    refine XW_region ?_
    first
    | refine OW_bin rfl rfl rfl rfl (add_w64 (by first | omega | assumption | (simp only [ss]; omega))) ?_
    | refine OW_bin rfl rfl rfl rfl rfl ?_
    refine OW_mv rfl rfl ?_
    refine EZ19_CF4 rfl ?_
    -- round 0.1
    refine ⟨_, ?_, i + 1, rfl, under_in hU1, ?_, env_g rfl⟩
    · first | omega | (simp; omega)
    · exact ⟨by omega, by rw [hI, List.drop_eq_getElem_cons (by omega), firstI, if_neg (by simpa using h4)]; rfl⟩
  ·try simp only [bs] at h2
   refine XW_exit ?_
   refine then_exit ?_
   refine block_exit ?_
   refine then_norm ?_
   refine XW_sr ?_
   refine OW_as rfl rfl ?_
   refine EZ19_CF4 rfl ?_
   refine XW_ret ?_
   -- outcome 2
   refine ret_ret (res1 rfl (rv_tmp rfl)) ⟨rfl, ?_⟩
   first | (rw [hI, List.drop_eq_nil_of_le (by omega)] at hq; exact hq) | (rw [hI, List.drop_eq_getElem_cons (by omega), firstI, if_pos (by simpa using h4)] at hq; exact hq)
def lds (t : List Pl) (n : Nat) : List Int := (List.range n).map fun g : Nat => ((ldG t (g : Int) : Nat) : Int)
theorem lds_len (t : List Pl) (n : Nat) : (lds t n).length = n := by simp [lds]
theorem lds_at {t : List Pl} {n j : Nat} (h : j < n) : (lds t n)[j]'(by rw [lds_len]; exact h) = (ldG t (j : Int) : Int) := by simp [lds]
theorem lds_zero (n : Nat) : List.replicate n (AVal.int .i64 0) = (lds [] n).map encI := by
  refine List.ext_getElem (by simp [lds_len]) fun j h1 h2 => ?_
  simp [lds, ldG, encI]
theorem lds_yes {t : List Pl} {i n : Nat} {x : Int} (hi : i < t.length) (h0 : 0 ≤ t[i].gr) (hg : t[i].gr < n) (hx : x = (lds (t.take i) n)[t[i].gr.toNat]'(by rw [lds_len]; omega) + 1) : ((lds (t.take i) n).map encI).set t[i].gr.toNat (.int .i64 x) = (lds (t.take (i + 1)) n).map encI := by
  refine List.ext_getElem (by simp [lds_len]) fun j h1 h2 => ?_
  have hj : j < n := by simpa [lds_len] using h2
  rw [List.getElem_set]
  by_cases e : t[i].gr.toNat = j
  · subst e
    rw [if_pos rfl, List.getElem_map, lds_at hj, hx, lds_at hj]
    show AVal.int .i64 _ = AVal.int .i64 _
    congr 1
    have : ldG (t.take (i + 1)) ((t[i].gr.toNat : Nat) : Int) = ldG (t.take i) ((t[i].gr.toNat : Nat) : Int) + 1 := cnt_yes hi (decide_eq_true (by omega))
    omega
  · rw [if_neg e, List.getElem_map, List.getElem_map, lds_at hj, lds_at hj]
    have : ldG (t.take (i + 1)) (j : Int) = ldG (t.take i) (j : Int) := cnt_no hi (decide_eq_false (by omega))
    rw [this]
theorem lds_no {t : List Pl} {i n : Nat} (hi : i < t.length) (hg : ¬ t[i].gr < n) : lds (t.take (i + 1)) n = lds (t.take i) n := by
  refine List.ext_getElem (by simp [lds_len]) fun j h1 h2 => ?_
  have hj : j < n := by simpa [lds_len] using h2
  rw [lds_at hj, lds_at hj]
  have : ldG (t.take (i + 1)) (j : Int) = ldG (t.take i) (j : Int) := cnt_no hi (decide_eq_false (by omega))
  rw [this]
theorem lds_least {t : List Pl} {n : Nat} {m : Int} (h0 : 0 < n) (hx : ∃ j, ∃ h : j < (lds t n).length, (lds t n)[j] = m) (hm : ∀ j (h : j < (lds t n).length), m ≤ (lds t n)[j]) : firstI (fun y => decide (m = y)) (lds t n) 0 = (lstN t n : Nat) := by
  obtain ⟨n, rfl⟩ : ∃ z, n = z + 1 := ⟨n - 1, by omega⟩
  obtain ⟨k1, k2, k3⟩ := lstN_spec t n
  obtain ⟨j, hj, hjm⟩ := hx
  rw [lds_len] at hj
  rw [lds_at hj] at hjm
  have hk : (ldG t (lstN t (n + 1) : Nat) : Int) = m := by
    have h1 := hm (lstN t (n + 1)) (by rw [lds_len]; omega)
    rw [lds_at (by omega)] at h1
    have h2 := k2 j (by omega)
    omega
  rcases firstI_cases (fun y => decide (m = y)) (lds t (n + 1)) with ⟨_, h2⟩ | ⟨i, hi, h1, h2, h3⟩
  · have := h2 _ (List.getElem_mem (show lstN t (n + 1) < (lds t (n + 1)).length by rw [lds_len]; omega))
    rw [lds_at (by omega), decide_eq_false_iff_not] at this
    exact absurd hk.symm this
  · rw [h1]
    rw [lds_len] at hi
    have hi2 : m = ldG t (i : Int) := by have := of_decide_eq_true h2; rw [lds_at hi] at this; exact this
    rcases Nat.lt_trichotomy i (lstN t (n + 1)) with h | h | h
    · have := k3 i h; omega
    · rw [h]
    · have hmem : (lds t (n + 1))[lstN t (n + 1)]'(by rw [lds_len]; omega) ∈ (lds t (n + 1)).take i := by
        rw [List.mem_take_iff_getElem]
        exact ⟨lstN t (n + 1), by rw [lds_len]; omega, rfl⟩
      have := h3 _ hmem
      rw [lds_at (by omega), decide_eq_false_iff_not] at this
      exact absurd hk.symm this
theorem g_group {v : AVal} {c : Cf} {gs : Nat} (hv : lookA H v = .ept (.agg [.lst (c.qs.map Qu.enc), .lst (c.ps.map Pl.enc), .int .u64 c.nx, .int .i64 gs]) 0) (hlp : c.ps.length ≤ 1048577) (hfp : ∀ x ∈ c.ps, x.fit) (h0 : 1 ≤ gs ∧ gs ≤ 4) (hq : Q (.int .u64 (lstN c.ps gs : Nat)) H) : CW cfg ν 69 [v] H Q := by
  refine CW_lookL (args' := [.ept (.agg [.lst (c.qs.map Qu.enc), .lst (c.ps.map Pl.enc), .int .u64 c.nx, .int .i64 gs]) 0]) g69 F69 rfl (lk_cons (by first | assumption | exact freeze_plain rfl | exact Ls.freeze (by assumption) | rfl) lk_nil) ?_
  have hS0 : Own ν ν (fun _ => none) [] := Own.nil
  refine XW_sr ?_
  refine OW_as rfl rfl ?_
  refine EZ42_CF4 rfl ?_
  refine XW_sr ?_
  refine OW_mv rfl rfl ?_
  first
  | refine OW_nc rfl rfl ?_
  | refine OW_nce rfl rfl ?_
  refine OW_fa rfl rfl rfl ?_
  refine EN42_CF4 rfl ?_
  refine OW_loadE rfl rfl rfl (by first | exact part_whole rfl rfl rfl | rfl) ?_
  refine OW_msO hS0 (le_app (p := ν) (b := [4, 0, 1])) (under_app [4, 0, 1] under_me) rfl rfl rfl rfl rfl rfl rfl rfl (by first | rfl | exact (Int.toNat_of_nonneg (by omega)).symm) (by first | omega | (dsimp only; omega)) fun O1 H1 hS1 => ?_
  replace hS1 : Own _ _ _ ([_]) := hS1
  refine OW_as rfl rfl ?_
  refine EZ42_CF4 rfl ?_
  refine XW_seq ?_
  refine XW_sr ?_
  replace hS1 := hS1.reS (k := 0) rfl (lds_zero gs)
  refine OW_mv rfl rfl ?_
  first
  | refine OW_nc rfl rfl ?_
  | refine OW_nce rfl rfl ?_
  refine OW_fa rfl rfl rfl ?_
  refine EN42_CF4 rfl ?_
  refine OW_fa rfl rfl rfl ?_
  refine OW_loadE rfl rfl rfl (by first | exact part_whole rfl rfl rfl | rfl) ?_
  first
  | refine OW_lenL rfl rfl (by first | assumption | exact Ls.of | exact Ls.emp | exact Ls.nls) rfl rfl rfl (by first | exact List.length_map _ | rfl) ?_
  | refine OW_bi rfl rfl rfl ?_
  | refine OW_lenO hS1 (k := 0) rfl rfl rfl rfl rfl rfl (by first | exact List.length_map _ | exact len_app1 | exact len_drop | (simp only [ss]; rfl) | rfl) ?_
  refine EN42_CF4 rfl ?_
  refine OW_mv rfl rfl ?_
  refine EZ42_CF4 rfl ?_
  refine XW_block ?_
  refine XW_whileN (I := fun ν' mm ee H' => ∃ (i : Nat) (O : AVal), mm = c.ps.length - i ∧ under (1 :: 0 :: 1 :: 1 :: ν) ν' = true ∧ Own ν ν' H' ([sl O 1 ((lds (c.ps.take i) gs).map encI)]) ∧ (i ≤ c.ps.length) ∧ ∃ g : Nat → AVal, ee = [.ept (.agg [.lst (c.qs.map Qu.enc), .lst (c.ps.map Pl.enc), .int .u64 c.nx, .int .i64 gs]) 0, g 1, g 2, O, g 4, g 5, g 6, g 7, g 8, g 9, g 10, g 11, g 12, g 13, g 14, .lst (c.ps.map Pl.enc), .int .i64 c.ps.length, .int .i64 i, g 18, g 19, g 20, g 21, g 22, g 23, g 24, g 25, g 26, g 27, g 28, g 29, g 30, g 31, g 32, g 33, g 34, g 35, g 36, g 37, g 38, g 39, g 40, g 41]) ?_ _ _ _ _ ⟨0, O1, rfl, under_me, Own.cast (Own.mono (hS1) (le_lit (ν := ν) (a := [5, 0, 1]) (b := [1, 0, 1, 1]) (by decide))) (rfl), (by omega), env_g rfl⟩
  rintro ν1 mm ee H2 ⟨i, O, rfl, hU1, hS2, hi, g1, rfl⟩
  refine XW_sr ?_
  refine OW_bin rfl rfl rfl rfl rfl ?_
  refine EZ42_CF4 rfl ?_
  refine XW_seq ?_
  refine XW_if rfl (fun h3 => ?_) (fun h3 => ?_)
  ·try simp only [bs] at h3
   refine XW_skip ?_
   refine then_norm ?_
   refine XW_seq ?_
   refine XW_block ?_
   refine XW_sr ?_
   first
   | refine OW_iaL rfl rfl rfl Ls.of rfl rfl rfl (by first | rfl | exact (Int.toNat_of_nonneg (by omega)).symm) (by first | assumption | exact at_map (by first | assumption | omega) | exact at_lst (by omega) | rfl) rfl ?_
   | refine OW_iaL rfl rfl rfl (by assumption) rfl rfl rfl (by first | rfl | exact (Int.toNat_of_nonneg (by omega)).symm) (by first | assumption | exact at_map (by first | assumption | omega) | exact at_lst (by omega) | rfl) rfl ?_
   refine OW_loadE rfl rfl rfl (by first | exact part_whole rfl rfl rfl | rfl) ?_
   refine OW_allocR hS2 (le_app (p := ν1) (b := [2, 0, 0, 1, 1, 0])) (under_app [2, 0, 0, 1, 1, 0] (under_trans (under_app [1, 0, 1, 1] under_me) hU1)) rfl rfl rfl rfl fun H3 hS3 => ?_
   replace hS3 : Own _ _ _ ([_, _]) := hS3
   refine EN42_CF4 rfl ?_
   first
   | refine OW_storeR hS3 (k := 0) rfl le_refl rfl rfl rfl rfl ⟨rfl, rfl, Nat.le_of_ble_eq_true rfl⟩ (set_whole rfl rfl) fun H4 hS4 => ?_
   | refine OW_storeR hS3 (k := 0) rfl le_refl rfl rfl rfl rfl ⟨rfl, rfl, Nat.le_of_ble_eq_true rfl⟩ (u2 := .agg [_, _, _, _, _]) rfl fun H4 hS4 => ?_
   replace hS4 : Own _ _ _ ([_, _]) := hS4
   refine EZ42_CF4 rfl ?_
   refine XW_sr ?_
   obtain ⟨f1, f2, f3, f4, f5⟩ := hfp c.ps[i] (List.getElem_mem (by omega))
   have hll := lds_len (c.ps.take i) gs
   have hlb : ∀ j (h : j < (lds (c.ps.take i) gs).length), 0 ≤ (lds (c.ps.take i) gs)[j] ∧ (lds (c.ps.take i) gs)[j] ≤ 1048577 := fun j h => by rw [lds_at (by omega)]; have h1 := ldG_le (c.ps.take i) (j : Int); rw [List.length_take] at h1; omega
   refine OW_fa rfl rfl rfl ?_
   refine OW_loadR hS4 (k := 0) rfl rfl rfl rfl rfl (by first | exact part_whole rfl rfl rfl | rfl) ?_
   refine OW_mv rfl rfl ?_
   refine EN42_CF4 rfl ?_
   first
   | refine OW_nc rfl rfl ?_
   | refine OW_nce rfl rfl ?_
   refine OW_fa rfl rfl rfl ?_
   first
   | refine OW_loadE rfl rfl rfl (by first | exact part_whole rfl rfl rfl | rfl) ?_
   | refine OW_loadR hS4 (k := 0) rfl rfl rfl rfl rfl (by first | exact part_whole rfl rfl rfl | rfl) ?_
   | refine OW_loadP rfl rfl (by assumption) (by assumption) rfl (by first | exact part_whole rfl rfl rfl | rfl) ?_
   refine EN42_CF4 rfl ?_
   first
   | refine OW_conv rfl rfl (conv_in rfl rfl rfl (IntWalk.u64_in _ (by omega))) ?_
   | refine OW_conv rfl rfl rfl ?_
   refine OW_bin rfl rfl rfl rfl rfl ?_
   refine EZ42_CF4 rfl ?_
   refine XW_if rfl (fun h5 => ?_) (fun h5 => ?_)
   ·try simp only [bs] at h5
    refine XW_region ?_
    have hlb2 := hlb c.ps[i].gr.toNat (by omega)
    refine OW_mv rfl rfl ?_
    refine OW_fa rfl rfl rfl ?_
    refine OW_loadR hS4 (k := 0) rfl rfl rfl rfl rfl (by first | exact part_whole rfl rfl rfl | rfl) ?_
    refine EN42_CF4 rfl ?_
    refine OW_iaO hS4 (k := 1) rfl rfl rfl rfl rfl rfl rfl rfl (by first | rfl | exact (Int.toNat_of_nonneg (by omega)).symm) (by first | assumption | exact at_map (by first | assumption | omega) | exact at_lst (by omega) | rfl) fun q1 ys1 hO1 hq1 ht1 hy1 hu1 => ?_
    subst hO1
    refine OW_loadP rfl rfl hq1 hy1 rfl (by first | exact part_whole rfl rfl rfl | rfl) ?_
    first
    | refine OW_bin rfl rfl rfl rfl (add_w64 (by first | omega | assumption | (simp only [ss]; omega))) ?_
    | refine OW_bin rfl rfl rfl rfl rfl ?_
    refine EN42_CF4 rfl ?_
    refine OW_iaO hS4 (k := 1) rfl rfl rfl rfl rfl rfl rfl rfl (by first | rfl | exact (Int.toNat_of_nonneg (by omega)).symm) (by first | assumption | exact at_map (by first | assumption | omega) | exact at_lst (by omega) | rfl) fun q2 ys2 hO2 hq2 ht2 hy2 hu2 => ?_
    obtain rfl : q1 = q2 := (AVal.slc.inj hO2).1
    first
    | refine OW_storeO hS4 (k := 1) rfl (le_lit (ν := ν1) (a := [4, 0, 0, 1, 1, 0]) (b := [7, 1, 1, 0, 1, 1, 0]) (by decide)) rfl rfl rfl rfl hu2 ⟨rfl, rfl, Nat.le_of_ble_eq_true rfl⟩ (set_whole rfl rfl) fun H5 hS5 => ?_
    | refine OW_storeO hS4 (k := 1) rfl (le_lit (ν := ν1) (a := [4, 0, 0, 1, 1, 0]) (b := [7, 1, 1, 0, 1, 1, 0]) (by decide)) rfl rfl rfl rfl hu2 ⟨rfl, rfl, Nat.le_of_ble_eq_true rfl⟩ (u2 := _) rfl fun H5 hS5 => ?_
    replace hS5 : Own _ _ _ ([_, _]) := hS5
    refine EZ42_CF4 rfl ?_
    refine block_norm ?_
    refine then_norm ?_
    refine XW_region ?_
    first
    | refine OW_bin rfl rfl rfl rfl (add_w64 (by first | omega | assumption | (simp only [ss]; omega))) ?_
    | refine OW_bin rfl rfl rfl rfl rfl ?_
    refine OW_mv rfl rfl ?_
    refine EZ42_CF4 rfl ?_
    have hSd1 : Own _ _ _ ([_]) := (Own.drop hS5 (k := 0) rfl)
    -- round 0.1
    refine ⟨_, ?_, i + 1, .slc q1 _ 0 _, rfl, under_in hU1, Own.cast (Own.mono (hSd1) (le_lit (ν := ν1) (a := [8, 1, 1, 0, 1, 1, 0]) (b := [1]) (by decide))) (by first | (rw [lds_no (by omega) (by omega)]) | (rw [← lds_yes (by omega) (by omega) (by omega) rfl]; rfl) | (rw [← lds_yes (by omega) (by omega) (by omega) rfl])), ?_, env_g rfl⟩
    · first | omega | (simp; omega)
    · omega
   ·try simp only [bs] at h5
    refine XW_skip ?_
    refine block_norm ?_
    refine then_norm ?_
    refine XW_region ?_
    first
    | refine OW_bin rfl rfl rfl rfl (add_w64 (by first | omega | assumption | (simp only [ss]; omega))) ?_
    | refine OW_bin rfl rfl rfl rfl rfl ?_
    refine OW_mv rfl rfl ?_
    refine EZ42_CF4 rfl ?_
    have hSd2 : Own _ _ _ ([_]) := (Own.drop hS4 (k := 0) rfl)
    -- round 0.2
    refine ⟨_, ?_, i + 1, O, rfl, under_in hU1, Own.cast (Own.mono (hSd2) (le_lit (ν := ν1) (a := [4, 0, 0, 1, 1, 0]) (b := [1]) (by decide))) (by first | (rw [lds_no (by omega) (by omega)]) | (rw [← lds_yes (by omega) (by omega) (by omega) rfl]; rfl) | (rw [← lds_yes (by omega) (by omega) (by omega) rfl])), ?_, env_g rfl⟩
    · first | omega | (simp; omega)
    · omega
  ·try simp only [bs] at h3
   refine XW_exit ?_
   refine then_exit ?_
   refine block_exit ?_
   refine then_norm ?_
   refine XW_sr ?_
   rw [List.take_of_length_le (by omega)] at hS2
   have hll := lds_len c.ps gs
   refine OW_mv rfl rfl ?_
   refine OW_mv rfl rfl ?_
   refine OW_fn rfl rfl (min_c (hS2.freeze0 (k := 0) rfl (map_plain (fun _ => rfl))) (by omega) (by omega) fun mm hm1 hm2 => ?_) 
   refine EN42_CF4 rfl ?_
   refine OW_fn rfl rfl (index_c (hS2.freeze0 (k := 0) rfl (map_plain (fun _ => rfl))) (by omega) ?_) 
   rw [lds_least (by omega) hm1 hm2]
   have hlst := (lstN_spec c.ps (gs - 1)).1
   rw [show gs - 1 + 1 = gs by omega] at hlst
   first
   | refine OW_conv rfl rfl (conv_in rfl rfl rfl (IntWalk.u64_in _ (by omega))) ?_
   | refine OW_conv rfl rfl rfl ?_
   refine OW_as rfl rfl ?_
   refine EZ42_CF4 rfl ?_
   refine XW_ret ?_
   -- outcome 1
   refine ret_ret (res1 rfl (rv_tmp rfl)) ⟨rfl, ?_⟩
   exact hq
end Go.Proofs.Ytealccnfnpkngaa.X
