import Derived.Test.YtfkgdlfponfimaaU36
import Derived.Test.YtfkgdlfponfimaaU34
import Derived.Test.YtfkgdlfponfimaaU33
import Derived.KernelRfl
/- Layer 13: Check, Is, IsVol. -/
set_option linter.unusedVariables false
set_option linter.unusedSimpArgs false
set_option maxRecDepth 100000
namespace Go.Proofs.Ytfkgdlfponfimaa.X
open Go Go.RowKit WM
theorem EN60_CK17 {c : Cfg} {ν : Nm} {e : Env} {H : Heap} {all : Array Oper} {r : List Oper} {i : Nat} {Q : Env → Heap → Prop} {x0 x1 x2 x3 x4 x5 x6 x7 x8 x9 x10 x11 x12 x13 x14 x15 x16 x17 x18 x19 x20 x21 x22 x23 x24 x25 x26 x27 x28 x29 x30 x31 x32 x33 x34 x35 x36 x37 x38 x39 x40 x41 x42 x43 x44 x45 x46 x47 x48 x49 x50 x51 x52 x53 x54 x55 x56 x57 x58 x59 : AVal} (he : e = [x0,x1,x2,x3,x4,x5,x6,x7,x8,x9,x10,x11,x12,x13,x14,x15,x16,x17,x18,x19,x20,x21,x22,x23,x24,x25,x26,x27,x28,x29,x30,x31,x32,x33,x34,x35,x36,x37,x38,x39,x40,x41,x42,x43,x44,x45,x46,x47,x48,x49,x50,x51,x52,x53,x54,x55,x56,x57,x58,x59]) (h : OW c ν all r i [x0,x1,x2,x3,x4,x5,x6,x7,x8,x9,x10,x11,x12,x13,x14,x15,x16,x17,x18,x19,x20,x21,x22,x23,x24,x25,x26,x27,x28,x29,x30,x31,x32,x33,x34,x35,x36,x37,x38,x39,x40,x41,x42,x43,x44,x45,x46,x47,x48,x49,x50,x51,x52,x53,x54,x55,x56,x57,x58,x59] H Q) : OW c ν all r i e H Q := by subst he; exact h
theorem EZ19_CK17 {c : Cfg} {ν : Nm} {e : Env} {H : Heap} {all : Array Oper} {i : Nat} {Q : Env → Heap → Prop} {x0 x1 x2 x3 x4 x5 x6 x7 x8 x9 x10 x11 x12 x13 x14 x15 x16 x17 x18 : AVal} (he : e = [x0,x1,x2,x3,x4,x5,x6,x7,x8,x9,x10,x11,x12,x13,x14,x15,x16,x17,x18]) (h : Q [x0,x1,x2,x3,x4,x5,x6,x7,x8,x9,x10,x11,x12,x13,x14,x15,x16,x17,x18] H) : OW c ν all [] i e H Q := by subst he; exact OW_nil h
theorem EZ60_CK17 {c : Cfg} {ν : Nm} {e : Env} {H : Heap} {all : Array Oper} {i : Nat} {Q : Env → Heap → Prop} {x0 x1 x2 x3 x4 x5 x6 x7 x8 x9 x10 x11 x12 x13 x14 x15 x16 x17 x18 x19 x20 x21 x22 x23 x24 x25 x26 x27 x28 x29 x30 x31 x32 x33 x34 x35 x36 x37 x38 x39 x40 x41 x42 x43 x44 x45 x46 x47 x48 x49 x50 x51 x52 x53 x54 x55 x56 x57 x58 x59 : AVal} (he : e = [x0,x1,x2,x3,x4,x5,x6,x7,x8,x9,x10,x11,x12,x13,x14,x15,x16,x17,x18,x19,x20,x21,x22,x23,x24,x25,x26,x27,x28,x29,x30,x31,x32,x33,x34,x35,x36,x37,x38,x39,x40,x41,x42,x43,x44,x45,x46,x47,x48,x49,x50,x51,x52,x53,x54,x55,x56,x57,x58,x59]) (h : Q [x0,x1,x2,x3,x4,x5,x6,x7,x8,x9,x10,x11,x12,x13,x14,x15,x16,x17,x18,x19,x20,x21,x22,x23,x24,x25,x26,x27,x28,x29,x30,x31,x32,x33,x34,x35,x36,x37,x38,x39,x40,x41,x42,x43,x44,x45,x46,x47,x48,x49,x50,x51,x52,x53,x54,x55,x56,x57,x58,x59] H) : OW c ν all [] i e H Q := by subst he; exact OW_nil h
variable {ν : Nm} {H : Heap} {Q : AVal → Heap → Prop} {c d : Ck}
def okV (x : Vo) : Prop := 0 ≤ x.de ∧ x.de ≤ 4 ∧ x.lv.length = 2 ^ x.de.toNat ∧ ∀ s ∈ x.lv, s.size ≤ 64
instance : DecidablePred okV := fun x => by unfold okV; infer_instance
def chkC (c : Ck) : Bool := decide (c.vs.length ≤ 8 ∧ (∀ x ∈ c.vs, okV x) ∧ (c.vs.map Vo.vo).Nodup) && SE.chkL c.ss && chkQ c.qs
theorem nodup_atP {t : List Vo} (h : (t.map Vo.vo).Nodup) {i : Nat} (hi : i < t.length) : atP t[i].vo t = i := by
  rcases atP_cases t[i].vo t with ⟨_, h2⟩ | ⟨k, hk, h1, h3⟩
  · exact absurd rfl (h2 t[i] (List.getElem_mem hi))
  · rw [h1]
    have := (List.getElem_inj (i := k) (j := i) (h₀ := by simpa using hk) (h₁ := by simpa using hi) h).1 (by simpa using h3)
    rw [this]
theorem atP_nodup {t : List Vo} (h : ∀ i (hi : i < t.length), atP t[i].vo t = i) : (t.map Vo.vo).Nodup := by
  rw [List.Nodup, List.pairwise_iff_getElem]
  intro i j hi hj hij he
  simp only [List.length_map] at hi hj
  simp only [List.getElem_map] at he
  have h1 := h i hi
  have h2 := h j hj
  rw [he] at h1
  omega
theorem chk_vs {t : List Vo} (hl : t.length ≤ 8) (h : ∀ i (hi : i < t.length), atP t[i].vo t = i ∧ okV t[i]) : decide (t.length ≤ 8 ∧ (∀ x ∈ t, okV x) ∧ (t.map Vo.vo).Nodup) = true :=
  decide_eq_true ⟨hl, fun x hx => by obtain ⟨i, hi, rfl⟩ := List.getElem_of_mem hx; exact (h i hi).2, atP_nodup fun i hi => (h i hi).1⟩
theorem chk_vsF {t : List Vo} {i : Nat} (hi : i < t.length) (h : atP t[i].vo t ≠ i ∨ ¬ okV t[i]) : decide (t.length ≤ 8 ∧ (∀ x ∈ t, okV x) ∧ (t.map Vo.vo).Nodup) = false :=
  decide_eq_false fun ⟨_, h1, h2⟩ => h.elim (fun h => h (nodup_atP h2 hi)) (fun h => h (h1 _ (List.getElem_mem hi)))
theorem chkF {i : Nat} (hi : i < c.vs.length) (h : atP c.vs[i].vo c.vs ≠ i ∨ ¬ okV c.vs[i]) : chkC c = false := by unfold chkC; rw [chk_vsF hi h]; rfl
structure Ck.sz (c : Ck) : Prop where
  v : c.vs.length ≤ 1048577
  s : c.ss.length ≤ 1048577
  q : c.qs.length ≤ 1048577
  l : ∀ x ∈ c.vs, x.lv.length ≤ 1048577
def isLong : ByteArray → Bool := fun s => decide (64 < s.size)
theorem idxS_c {l : List ByteArray} (hn : l.length ≤ 4294967296) (hq : Q (.int .i64 (firstI isLong l 0)) H) : CW cfg ν 74 [.lst (l.map AVal.str), .fn 39 []] H Q := by
  refine CW_pure g74 F74 rfl ?_
  refine XW_sr ?_
  refine OW_as rfl rfl ?_
  refine EZ19_CK17 rfl ?_
  refine XW_seq ?_
  refine XW_sr ?_
  refine OW_mv rfl rfl ?_
  first
  | refine OW_lenL rfl rfl (by first | assumption | exact Ls.of | exact Ls.emp | exact Ls.nls) rfl rfl rfl (by first | exact List.length_map _ | rfl) ?_
  | refine OW_bi rfl rfl rfl ?_
  refine OW_mv rfl rfl ?_
  refine EZ19_CK17 rfl ?_
  refine XW_block ?_
  refine XW_whileN (I := fun ν' mm ee H' => ∃ (i : Nat), mm = l.length - i ∧ under (1 :: 0 :: 1 :: ν) ν' = true ∧ (i ≤ l.length ∧ firstI isLong l 0 = firstI isLong (l.drop i) i) ∧ ∃ g : Nat → AVal, ee = [.lst (l.map AVal.str), .fn 39 [], g 2, g 3, g 4, g 5, g 6, .int .i64 l.length, .int .i64 i, g 9, g 10, g 11, g 12, g 13, g 14, g 15, g 16, g 17, g 18]) ?_ _ _ _ _ ⟨0, rfl, under_me, (⟨by omega, rfl⟩), env_g rfl⟩
  rintro ν1 mm ee H1 ⟨i, rfl, hU1, ⟨hi, hI⟩, g1, rfl⟩
  refine XW_sr ?_
  refine OW_bin rfl rfl rfl rfl rfl ?_
  refine EZ19_CK17 rfl ?_
  refine XW_seq ?_
  refine XW_if rfl (fun h2 => ?_) (fun h2 => ?_)
  ·try simp only [bs] at h2
   refine XW_skip ?_
   refine then_norm ?_
   refine XW_seq ?_
   refine XW_block ?_
   refine XW_sr ?_
   refine OW_mv rfl rfl ?_
   refine OW_as rfl rfl ?_
   refine EZ19_CK17 rfl ?_
   refine XW_sr ?_
   refine OW_mv rfl rfl ?_
   refine OW_mv rfl rfl ?_
   refine OW_mv rfl rfl ?_
   refine OW_env (e' := [_,_,_,_,_,_,_,_,_,_,_,_,_,_,_,_,_,_,_]) rfl ?_
   first
   | refine OW_iaL rfl rfl rfl Ls.of rfl rfl rfl (by first | rfl | exact (Int.toNat_of_nonneg (by omega)).symm) (by first | assumption | exact at_map (by first | assumption | omega) | exact at_lst (by omega) | rfl) rfl ?_
   | refine OW_iaL rfl rfl rfl (by assumption) rfl rfl rfl (by first | rfl | exact (Int.toNat_of_nonneg (by omega)).symm) (by first | assumption | exact at_map (by first | assumption | omega) | exact at_lst (by omega) | rfl) rfl ?_
   refine OW_loadE rfl rfl rfl (by first | exact part_whole rfl rfl rfl | rfl) ?_
   refine OW_fv rfl rfl rfl (long_c ?_)
   refine EZ19_CK17 rfl ?_
   refine XW_if rfl (fun h4 => ?_) (fun h4 => ?_)
   ·try simp only [bs] at h4
    refine XW_sr ?_
    refine OW_mv rfl rfl ?_
    refine OW_as rfl rfl ?_
    refine EZ19_CK17 rfl ?_
    refine XW_ret ?_
    refine block_ret ?_
    refine then_ret ?_
    refine block_ret ?_
    refine then_ret ?_
    refine ret_ret (res1 rfl (rv_tmp rfl)) (frz1 (Q := Q) (by first | exact freeze_plain rfl | exact Ls.freeze (by assumption) | exact Ls.freeze Ls.of | exact Ls.freeze Ls.emp | exact Ls.freeze Ls.nls) ?_)
    first | (rw [hI, List.drop_eq_nil_of_le (by omega)] at hq; exact hq) | (rw [hI, List.drop_eq_getElem_cons (by omega), firstI, if_pos (by unfold isLong; simpa using h4)] at hq; exact hq)
   ·try simp only [bs] at h4
    refine XW_skip ?_
    refine block_norm ?_
    refine then_norm ?_
    refine XW_region ?_
    first
    | refine OW_bin rfl rfl rfl rfl (add_w64 (by first | omega | assumption | (simp only [ss]; omega))) ?_
    | refine OW_bin rfl rfl rfl rfl rfl ?_
    refine OW_mv rfl rfl ?_
    refine EZ19_CK17 rfl ?_
    refine ⟨_, ?_, i + 1, rfl, under_in hU1, ?_, env_g rfl⟩
    · first | omega | (simp; omega)
    · exact ⟨by omega, by rw [hI, List.drop_eq_getElem_cons (by omega), firstI, if_neg (by unfold isLong; simpa using h4)]; rfl⟩
  ·try simp only [bs] at h2
   refine XW_exit ?_
   refine then_exit ?_
   refine block_exit ?_
   refine then_norm ?_
   refine XW_sr ?_
   refine OW_as rfl rfl ?_
   refine EZ19_CK17 rfl ?_
   refine XW_ret ?_
   refine ret_ret (res1 rfl (rv_tmp rfl)) (frz1 (Q := Q) (by first | exact freeze_plain rfl | exact Ls.freeze (by assumption) | exact Ls.freeze Ls.of | exact Ls.freeze Ls.emp | exact Ls.freeze Ls.nls) ?_)
   first | (rw [hI, List.drop_eq_nil_of_le (by omega)] at hq; exact hq) | (rw [hI, List.drop_eq_getElem_cons (by omega), firstI, if_pos (by unfold isLong; simpa using h4)] at hq; exact hq)
theorem hasS_c {l : List ByteArray} (hn : l.length ≤ 4294967296) (hq : Q (.bool (l.any isLong)) H) : CW cfg ν 38 [.lst (l.map AVal.str), .fn 39 []] H Q := by
  have e : decide (firstI isLong l 0 ≥ 0) = l.any isLong := firstI_any isLong l 0 (by omega)
  rw [← e] at hq
  refine CW_pure g38 F38 rfl ?_
  refine XW_sr ?_
  refine OW_as rfl rfl ?_
  refine OW_nilE (e' := [_,_,_,_,_,_,_,_,_]) rfl ?_
  refine XW_sr ?_
  refine OW_mv rfl rfl ?_
  refine OW_mv rfl rfl ?_
  refine OW_fn rfl rfl (idxS_c hn ?_) 
  refine OW_env (e' := [_,_,_,_,_,_,_,_,_]) rfl ?_
  refine OW_bin rfl rfl rfl rfl rfl ?_
  refine OW_as rfl rfl ?_
  refine OW_nilE (e' := [_,_,_,_,_,_,_,_,_]) rfl ?_
  refine XW_ret ?_
  refine ret_ret (res1 rfl (rv_tmp rfl)) (frz1 (Q := Q) (by first | exact freeze_plain rfl | exact Ls.freeze (by assumption) | exact Ls.freeze Ls.of | exact Ls.freeze Ls.emp | exact Ls.freeze Ls.nls) ?_)
  exact hq
theorem any_long {l : List ByteArray} : l.any isLong = false ↔ ∀ s ∈ l, s.size ≤ 64 := by
  rw [List.any_eq_false]
  constructor
  · intro h s hs; have := h s hs; simp only [isLong, decide_eq_true_eq] at this; omega
  · intro h s hs; have := h s hs; simp only [isLong, decide_eq_true_eq]; omega
theorem shl_i {b : Int} (h : 0 ≤ b ∧ b ≤ 4) : aBin cfg.T .shl 3 (.int .i64 1) (.int .i64 b) = some (.int .i64 ((2 ^ b.toNat : Nat) : Int)) := by
  obtain ⟨n, rfl⟩ := Int.eq_ofNat_of_zero_le h.1
  rcases (by omega : n = 0 ∨ n = 1 ∨ n = 2 ∨ n = 3 ∨ n = 4) with rfl | rfl | rfl | rfl | rfl <;> rfl
theorem pk_check (hz : c.sz) (hq : Q (.bool (chkC c)) H) : CW cfg ν 13 [c.enc] H Q := by
  obtain ⟨hz1, hz2, hz3, hz4⟩ := hz
  refine CW_pure g13 F13 rfl ?_
  have hS0 : Own ν ν (fun _ => none) [] := Own.nil
  refine XW_sr ?_
  refine OW_boxR hS0 (le_app (p := ν) (b := [0, 0])) (under_app [0, 0] under_me) rfl rfl rfl ⟨rfl, rfl⟩ fun H1 hS1 => ?_
  replace hS1 : Own _ _ _ ([_]) := hS1
  refine OW_as rfl rfl ?_
  refine EZ60_CK17 rfl ?_
  refine XW_seq ?_
  refine XW_sr ?_
  refine OW_fa rfl rfl rfl ?_
  refine OW_loadR hS1 (k := 0) rfl rfl rfl rfl rfl (by first | exact part_whole rfl rfl rfl | rfl) ?_
  first
  | refine OW_lenL rfl rfl (by first | assumption | exact Ls.of | exact Ls.emp | exact Ls.nls) rfl rfl rfl (by first | exact List.length_map _ | rfl) ?_
  | refine OW_bi rfl rfl rfl ?_
  refine EN60_CK17 rfl ?_
  refine OW_bin rfl rfl rfl rfl rfl ?_
  refine OW_mv rfl rfl ?_
  refine OW_split (tt := 9) rfl (fun g1_5 => ?_) (fun g1_5 => ?_)
  ·try simp only [bs] at g1_5
   refine EN60_CK17 rfl ?_
   refine OW_no rfl ?_
   refine OW_no rfl ?_
   refine OW_no rfl ?_
   refine EN60_CK17 rfl ?_
   refine OW_no rfl ?_
   refine OW_pick rfl rfl rfl ?_
   refine OW_mv rfl rfl ?_
   refine EN60_CK17 rfl ?_
   refine OW_no rfl ?_
   refine OW_no rfl ?_
   refine OW_no rfl ?_
   refine EN60_CK17 rfl ?_
   refine OW_no rfl ?_
   refine OW_pick rfl rfl rfl ?_
   refine EZ60_CK17 rfl ?_
   refine XW_yes rfl rfl ?_
   refine XW_sr ?_
   refine OW_as rfl rfl ?_
   refine EZ60_CK17 rfl ?_
   refine XW_ret ?_
   refine then_ret ?_
   refine ret_ret (res1 rfl (rv_tmp rfl)) (frz1 (Q := Q) (by first | exact freeze_plain rfl | exact Ls.freeze (by assumption) | exact Ls.freeze Ls.of | exact Ls.freeze Ls.emp | exact Ls.freeze Ls.nls) ?_)
   refine qcast hq ?_
   congr 1
   first | exact (chkF (i := i) (by omega) (.inl (by omega))).symm | exact (chkF (i := i) (by omega) (.inr (fun ⟨a1, a2, a3, _⟩ => by omega))).symm | exact (chkF (i := i) (by omega) (.inr (fun h => by have := any_long.2 h.2.2.2; simp_all))).symm | (unfold chkC; rw [chk_vs (by omega) (fun j hj => hI j hj (by omega))]; simp [*]; done) | (unfold chkC; rw [decide_eq_false (fun e => by have := e.1; omega)]; rfl) | (unfold chkC; simp [*]; done)
  ·try simp only [bs] at g1_5
   refine EN60_CK17 rfl ?_
   refine OW_fa rfl rfl rfl ?_
   refine OW_loadR hS1 (k := 0) rfl rfl rfl rfl rfl (by first | exact part_whole rfl rfl rfl | rfl) ?_
   refine OW_fn rfl rfl (SE.p_check (Ls.freeze Ls.of) (by omega) ?_) 
   refine EN60_CK17 rfl ?_
   refine OW_un rfl rfl rfl ?_
   refine OW_pick rfl rfl rfl ?_
   refine OW_mv rfl rfl ?_
   refine EN60_CK17 rfl ?_
   refine OW_split (tt := 15) rfl (fun g1_11 => ?_) (fun g1_11 => ?_)
   ·try simp only [bs] at g1_11
    refine OW_no rfl ?_
    refine OW_no rfl ?_
    refine EN60_CK17 rfl ?_
    refine OW_no rfl ?_
    refine OW_no rfl ?_
    refine OW_pick rfl rfl rfl ?_
    refine EZ60_CK17 rfl ?_
    refine XW_yes rfl rfl ?_
    refine XW_sr ?_
    refine OW_as rfl rfl ?_
    refine EZ60_CK17 rfl ?_
    refine XW_ret ?_
    refine then_ret ?_
    refine ret_ret (res1 rfl (rv_tmp rfl)) (frz1 (Q := Q) (by first | exact freeze_plain rfl | exact Ls.freeze (by assumption) | exact Ls.freeze Ls.of | exact Ls.freeze Ls.emp | exact Ls.freeze Ls.nls) ?_)
    refine qcast hq ?_
    congr 1
    first | exact (chkF (i := i) (by omega) (.inl (by omega))).symm | exact (chkF (i := i) (by omega) (.inr (fun ⟨a1, a2, a3, _⟩ => by omega))).symm | exact (chkF (i := i) (by omega) (.inr (fun h => by have := any_long.2 h.2.2.2; simp_all))).symm | (unfold chkC; rw [chk_vs (by omega) (fun j hj => hI j hj (by omega))]; simp [*]; done) | (unfold chkC; rw [decide_eq_false (fun e => by have := e.1; omega)]; rfl) | (unfold chkC; simp [*]; done)
   ·try simp only [bs] at g1_11
    refine OW_fa rfl rfl rfl ?_
    refine OW_loadR hS1 (k := 0) rfl rfl rfl rfl rfl (by first | exact part_whole rfl rfl rfl | rfl) ?_
    refine EN60_CK17 rfl ?_
    refine OW_fn rfl rfl (c_check (Ls.freeze Ls.of) (by omega) ?_) 
    refine OW_un rfl rfl rfl ?_
    refine OW_pick rfl rfl rfl ?_
    refine EZ60_CK17 rfl ?_
    refine XW_if rfl (fun h1 => ?_) (fun h1 => ?_)
    ·try simp only [bs] at h1
     refine XW_sr ?_
     refine OW_as rfl rfl ?_
     refine EZ60_CK17 rfl ?_
     refine XW_ret ?_
     refine then_ret ?_
     refine ret_ret (res1 rfl (rv_tmp rfl)) (frz1 (Q := Q) (by first | exact freeze_plain rfl | exact Ls.freeze (by assumption) | exact Ls.freeze Ls.of | exact Ls.freeze Ls.emp | exact Ls.freeze Ls.nls) ?_)
     refine qcast hq ?_
     congr 1
     first | exact (chkF (i := i) (by omega) (.inl (by omega))).symm | exact (chkF (i := i) (by omega) (.inr (fun ⟨a1, a2, a3, _⟩ => by omega))).symm | exact (chkF (i := i) (by omega) (.inr (fun h => by have := any_long.2 h.2.2.2; simp_all))).symm | (unfold chkC; rw [chk_vs (by omega) (fun j hj => hI j hj (by omega))]; simp [*]; done) | (unfold chkC; rw [decide_eq_false (fun e => by have := e.1; omega)]; rfl) | (unfold chkC; simp [*]; done)
    ·try simp only [bs] at h1
     refine XW_skip ?_
     refine then_norm ?_
     refine XW_seq ?_
     refine XW_sr ?_
     refine OW_fa rfl rfl rfl ?_
     refine OW_loadR hS1 (k := 0) rfl rfl rfl rfl rfl (by first | exact part_whole rfl rfl rfl | rfl) ?_
     first
     | refine OW_lenL rfl rfl (by first | assumption | exact Ls.of | exact Ls.emp | exact Ls.nls) rfl rfl rfl (by first | exact List.length_map _ | rfl) ?_
     | refine OW_bi rfl rfl rfl ?_
     refine EN60_CK17 rfl ?_
     refine OW_mv rfl rfl ?_
     refine EZ60_CK17 rfl ?_
     refine XW_block ?_
     refine XW_whileN (I := fun ν' mm ee H' => ∃ (i : Nat), mm = c.vs.length - i ∧ under (1 :: 0 :: 1 :: 1 :: ν) ν' = true ∧ Own ν ν' H' ([row (0 :: 0 :: ν) 3 [.agg [.lst (c.vs.map Vo.enc), .lst (c.ss.map SE.Se.enc), .lst (c.qs.map Qu.enc)]]]) ∧ (i ≤ c.vs.length ∧ c.vs.length ≤ 8 ∧ SE.chkL c.ss = true ∧ chkQ c.qs = true ∧ ∀ j (hj : j < c.vs.length), j < i → atP c.vs[j].vo c.vs = j ∧ okV c.vs[j]) ∧ ∃ g : Nat → AVal, ee = [g 0, .ptr (0 :: 0 :: ν) 0 0, g 2, g 3, g 4, g 5, g 6, g 7, g 8, g 9, g 10, g 11, g 12, g 13, g 14, g 15, g 16, g 17, g 18, g 19, g 20, g 21, .lst (c.vs.map Vo.enc), .int .i64 c.vs.length, .int .i64 i, g 25, g 26, g 27, g 28, g 29, g 30, g 31, g 32, g 33, g 34, g 35, g 36, g 37, g 38, g 39, g 40, g 41, g 42, g 43, g 44, g 45, g 46, g 47, g 48, g 49, g 50, g 51, g 52, g 53, g 54, g 55, g 56, g 57, g 58, g 59]) ?_ _ _ _ _ ⟨0, rfl, under_me, Own.cast (Own.mono (hS1) (le_lit (ν := ν) (a := [1, 0]) (b := [1, 0, 1, 1]) (by decide))) (rfl), (⟨by omega, by omega, by simp_all, by simp_all, fun j hj h => by omega⟩), env_g rfl⟩
     rintro ν1 mm ee H2 ⟨i, rfl, hU1, hS2, ⟨hi, hl8, hcs, hcq, hI⟩, g1, rfl⟩
     refine XW_sr ?_
     refine OW_bin rfl rfl rfl rfl rfl ?_
     refine EZ60_CK17 rfl ?_
     refine XW_seq ?_
     refine XW_if rfl (fun h4 => ?_) (fun h4 => ?_)
     ·try simp only [bs] at h4
      refine XW_skip ?_
      refine then_norm ?_
      refine XW_seq ?_
      refine XW_block ?_
      refine XW_sr ?_
      have hlz := hz4 c.vs[i] (List.getElem_mem (by omega))
      refine OW_mv rfl rfl ?_
      first
      | refine OW_iaL rfl rfl rfl Ls.of rfl rfl rfl (by first | rfl | exact (Int.toNat_of_nonneg (by omega)).symm) (by first | assumption | exact at_map (by first | assumption | omega) | exact at_lst (by omega) | rfl) rfl ?_
      | refine OW_iaL rfl rfl rfl (by assumption) rfl rfl rfl (by first | rfl | exact (Int.toNat_of_nonneg (by omega)).symm) (by first | assumption | exact at_map (by first | assumption | omega) | exact at_lst (by omega) | rfl) rfl ?_
      refine OW_loadE rfl rfl rfl (by first | exact part_whole rfl rfl rfl | rfl) ?_
      refine EN60_CK17 rfl ?_
      refine OW_allocR hS2 (le_app (p := ν1) (b := [3, 0, 0, 1, 1, 0])) (under_app [3, 0, 0, 1, 1, 0] (under_trans (under_app [1, 0, 1, 1] under_me) hU1)) rfl rfl rfl rfl fun H3 hS3 => ?_
      replace hS3 : Own _ _ _ ([_, _]) := hS3
      refine OW_as rfl rfl ?_
      first
      | refine OW_storeR hS3 (k := 0) rfl (le_lit (ν := ν1) (a := [4, 0, 0, 1, 1, 0]) (b := [5, 0, 0, 1, 1, 0]) (by decide)) rfl rfl rfl rfl ⟨rfl, rfl, Nat.le_of_ble_eq_true rfl⟩ (set_whole rfl rfl) fun H4 hS4 => ?_
      | refine OW_storeR hS3 (k := 0) rfl (le_lit (ν := ν1) (a := [4, 0, 0, 1, 1, 0]) (b := [5, 0, 0, 1, 1, 0]) (by decide)) rfl rfl rfl rfl ⟨rfl, rfl, Nat.le_of_ble_eq_true rfl⟩ (u2 := .agg [_, _, _, _, _]) rfl fun H4 hS4 => ?_
      replace hS4 : Own _ _ _ ([_, _]) := hS4
      refine EZ60_CK17 rfl ?_
      refine XW_sr ?_
      refine OW_loadR hS4 (k := 1) rfl rfl rfl rfl rfl (by first | exact part_whole rfl rfl rfl | rfl) ?_
      refine OW_fa rfl rfl rfl ?_
      refine OW_loadR hS4 (k := 0) rfl rfl rfl rfl rfl (by first | exact part_whole rfl rfl rfl | rfl) ?_
      refine EN60_CK17 rfl ?_
      refine OW_fn rfl rfl (ck_find rfl (by omega) _ ?_) 
      refine OW_mv rfl rfl ?_
      refine OW_bin rfl rfl rfl rfl rfl ?_
      refine EN60_CK17 rfl ?_
      refine OW_mv rfl rfl ?_
      refine OW_split (tt := 35) rfl (fun g6_7 => ?_) (fun g6_7 => ?_)
      ·try simp only [bs] at g6_7
       refine OW_no rfl ?_
       refine EN60_CK17 rfl ?_
       refine OW_no rfl ?_
       refine OW_no rfl ?_
       refine OW_pick rfl rfl rfl ?_
       refine EN60_CK17 rfl ?_
       refine OW_mv rfl rfl ?_
       refine OW_no rfl ?_
       refine OW_no rfl ?_
       refine EN60_CK17 rfl ?_
       refine OW_no rfl ?_
       refine OW_pick rfl rfl rfl ?_
       refine OW_mv rfl rfl ?_
       refine EN60_CK17 rfl ?_
       refine OW_no rfl ?_
       refine OW_no rfl ?_
       refine OW_no rfl ?_
       refine EN60_CK17 rfl ?_
       refine OW_no rfl ?_
       refine OW_no rfl ?_
       refine OW_no rfl ?_
       refine EN60_CK17 rfl ?_
       refine OW_no rfl ?_
       refine OW_pick rfl rfl rfl ?_
       refine OW_mv rfl rfl ?_
       refine EN60_CK17 rfl ?_
       refine OW_no rfl ?_
       refine OW_no rfl ?_
       refine OW_no rfl ?_
       refine EN60_CK17 rfl ?_
       refine OW_pick rfl rfl rfl ?_
       refine EZ60_CK17 rfl ?_
       refine XW_yes rfl rfl ?_
       refine XW_sr ?_
       refine OW_as rfl rfl ?_
       refine EZ60_CK17 rfl ?_
       refine XW_ret ?_
       refine block_ret ?_
       refine then_ret ?_
       refine block_ret ?_
       refine then_ret ?_
       refine ret_ret (res1 rfl (rv_tmp rfl)) (frz1 (Q := Q) (by first | exact freeze_plain rfl | exact Ls.freeze (by assumption) | exact Ls.freeze Ls.of | exact Ls.freeze Ls.emp | exact Ls.freeze Ls.nls) ?_)
       refine qcast hq ?_
       congr 1
       first | exact (chkF (i := i) (by omega) (.inl (by omega))).symm | exact (chkF (i := i) (by omega) (.inr (fun ⟨a1, a2, a3, _⟩ => by omega))).symm | exact (chkF (i := i) (by omega) (.inr (fun h => by have := any_long.2 h.2.2.2; simp_all))).symm | (unfold chkC; rw [chk_vs (by omega) (fun j hj => hI j hj (by omega))]; simp [*]; done) | (unfold chkC; rw [decide_eq_false (fun e => by have := e.1; omega)]; rfl) | (unfold chkC; simp [*]; done)
      ·try simp only [bs] at g6_7
       refine OW_fa rfl rfl rfl ?_
       refine EN60_CK17 rfl ?_
       refine OW_loadR hS4 (k := 0) rfl rfl rfl rfl rfl (by first | exact part_whole rfl rfl rfl | rfl) ?_
       refine OW_bin rfl rfl rfl rfl rfl ?_
       refine OW_pick rfl rfl rfl ?_
       refine EN60_CK17 rfl ?_
       refine OW_mv rfl rfl ?_
       refine OW_split (tt := 40) rfl (fun g6_12 => ?_) (fun g6_12 => ?_)
       ·try simp only [bs] at g6_12
        refine OW_no rfl ?_
        refine EN60_CK17 rfl ?_
        refine OW_no rfl ?_
        refine OW_no rfl ?_
        refine OW_pick rfl rfl rfl ?_
        refine EN60_CK17 rfl ?_
        refine OW_mv rfl rfl ?_
        refine OW_no rfl ?_
        refine OW_no rfl ?_
        refine EN60_CK17 rfl ?_
        refine OW_no rfl ?_
        refine OW_no rfl ?_
        refine OW_no rfl ?_
        refine EN60_CK17 rfl ?_
        refine OW_no rfl ?_
        refine OW_no rfl ?_
        refine OW_pick rfl rfl rfl ?_
        refine EN60_CK17 rfl ?_
        refine OW_mv rfl rfl ?_
        refine OW_no rfl ?_
        refine OW_no rfl ?_
        refine EN60_CK17 rfl ?_
        refine OW_no rfl ?_
        refine OW_pick rfl rfl rfl ?_
        refine EZ60_CK17 rfl ?_
        refine XW_yes rfl rfl ?_
        refine XW_sr ?_
        refine OW_as rfl rfl ?_
        refine EZ60_CK17 rfl ?_
        refine XW_ret ?_
        refine block_ret ?_
        refine then_ret ?_
        refine block_ret ?_
        refine then_ret ?_
        refine ret_ret (res1 rfl (rv_tmp rfl)) (frz1 (Q := Q) (by first | exact freeze_plain rfl | exact Ls.freeze (by assumption) | exact Ls.freeze Ls.of | exact Ls.freeze Ls.emp | exact Ls.freeze Ls.nls) ?_)
        refine qcast hq ?_
        congr 1
        first | exact (chkF (i := i) (by omega) (.inl (by omega))).symm | exact (chkF (i := i) (by omega) (.inr (fun ⟨a1, a2, a3, _⟩ => by omega))).symm | exact (chkF (i := i) (by omega) (.inr (fun h => by have := any_long.2 h.2.2.2; simp_all))).symm | (unfold chkC; rw [chk_vs (by omega) (fun j hj => hI j hj (by omega))]; simp [*]; done) | (unfold chkC; rw [decide_eq_false (fun e => by have := e.1; omega)]; rfl) | (unfold chkC; simp [*]; done)
       ·try simp only [bs] at g6_12
        refine OW_fa rfl rfl rfl ?_
        refine EN60_CK17 rfl ?_
        refine OW_loadR hS4 (k := 0) rfl rfl rfl rfl rfl (by first | exact part_whole rfl rfl rfl | rfl) ?_
        refine OW_bin rfl rfl rfl rfl rfl ?_
        refine OW_pick rfl rfl rfl ?_
        refine EN60_CK17 rfl ?_
        refine OW_mv rfl rfl ?_
        refine OW_split (tt := 45) rfl (fun g6_17 => ?_) (fun g6_17 => ?_)
        ·try simp only [bs] at g6_17
         refine OW_no rfl ?_
         refine EN60_CK17 rfl ?_
         refine OW_no rfl ?_
         refine OW_no rfl ?_
         refine OW_no rfl ?_
         refine EN60_CK17 rfl ?_
         refine OW_no rfl ?_
         refine OW_no rfl ?_
         refine OW_no rfl ?_
         refine EN60_CK17 rfl ?_
         refine OW_pick rfl rfl rfl ?_
         refine OW_mv rfl rfl ?_
         refine OW_no rfl ?_
         refine EN60_CK17 rfl ?_
         refine OW_no rfl ?_
         refine OW_no rfl ?_
         refine OW_pick rfl rfl rfl ?_
         refine EZ60_CK17 rfl ?_
         refine XW_yes rfl rfl ?_
         refine XW_sr ?_
         refine OW_as rfl rfl ?_
         refine EZ60_CK17 rfl ?_
         refine XW_ret ?_
         refine block_ret ?_
         refine then_ret ?_
         refine block_ret ?_
         refine then_ret ?_
         refine ret_ret (res1 rfl (rv_tmp rfl)) (frz1 (Q := Q) (by first | exact freeze_plain rfl | exact Ls.freeze (by assumption) | exact Ls.freeze Ls.of | exact Ls.freeze Ls.emp | exact Ls.freeze Ls.nls) ?_)
         refine qcast hq ?_
         congr 1
         first | exact (chkF (i := i) (by omega) (.inl (by omega))).symm | exact (chkF (i := i) (by omega) (.inr (fun ⟨a1, a2, a3, _⟩ => by omega))).symm | exact (chkF (i := i) (by omega) (.inr (fun h => by have := any_long.2 h.2.2.2; simp_all))).symm | (unfold chkC; rw [chk_vs (by omega) (fun j hj => hI j hj (by omega))]; simp [*]; done) | (unfold chkC; rw [decide_eq_false (fun e => by have := e.1; omega)]; rfl) | (unfold chkC; simp [*]; done)
        ·try simp only [bs] at g6_17
         refine OW_fa rfl rfl rfl ?_
         refine EN60_CK17 rfl ?_
         refine OW_loadR hS4 (k := 0) rfl rfl rfl rfl rfl (by first | exact part_whole rfl rfl rfl | rfl) ?_
         first
         | refine OW_lenL rfl rfl (by first | assumption | exact Ls.of | exact Ls.emp | exact Ls.nls) rfl rfl rfl (by first | exact List.length_map _ | rfl) ?_
         | refine OW_bi rfl rfl rfl ?_
         refine OW_fa rfl rfl rfl ?_
         refine EN60_CK17 rfl ?_
         refine OW_loadR hS4 (k := 0) rfl rfl rfl rfl rfl (by first | exact part_whole rfl rfl rfl | rfl) ?_
         refine OW_bin rfl rfl rfl rfl (shl_i (by omega)) ?_
         refine OW_bin rfl rfl rfl rfl rfl ?_
         refine EN60_CK17 rfl ?_
         refine OW_pick rfl rfl rfl ?_
         refine OW_mv rfl rfl ?_
         refine OW_split (tt := 54) rfl (fun g6_26 => ?_) (fun g6_26 => ?_)
         ·try simp only [bs] at g6_26
          refine EN60_CK17 rfl ?_
          refine OW_no rfl ?_
          refine OW_no rfl ?_
          refine OW_no rfl ?_
          refine EN60_CK17 rfl ?_
          refine OW_pick rfl rfl rfl ?_
          refine EZ60_CK17 rfl ?_
          refine XW_yes rfl rfl ?_
          refine XW_sr ?_
          refine OW_as rfl rfl ?_
          refine EZ60_CK17 rfl ?_
          refine XW_ret ?_
          refine block_ret ?_
          refine then_ret ?_
          refine block_ret ?_
          refine then_ret ?_
          refine ret_ret (res1 rfl (rv_tmp rfl)) (frz1 (Q := Q) (by first | exact freeze_plain rfl | exact Ls.freeze (by assumption) | exact Ls.freeze Ls.of | exact Ls.freeze Ls.emp | exact Ls.freeze Ls.nls) ?_)
          refine qcast hq ?_
          congr 1
          first | exact (chkF (i := i) (by omega) (.inl (by omega))).symm | exact (chkF (i := i) (by omega) (.inr (fun ⟨a1, a2, a3, _⟩ => by omega))).symm | exact (chkF (i := i) (by omega) (.inr (fun h => by have := any_long.2 h.2.2.2; simp_all))).symm | (unfold chkC; rw [chk_vs (by omega) (fun j hj => hI j hj (by omega))]; simp [*]; done) | (unfold chkC; rw [decide_eq_false (fun e => by have := e.1; omega)]; rfl) | (unfold chkC; simp [*]; done)
         ·try simp only [bs] at g6_26
          refine EN60_CK17 rfl ?_
          refine OW_fa rfl rfl rfl ?_
          refine OW_loadR hS4 (k := 0) rfl rfl rfl rfl rfl (by first | exact part_whole rfl rfl rfl | rfl) ?_
          refine OW_fn rfl rfl (hasS_c (by omega) ?_) 
          refine EN60_CK17 rfl ?_
          refine OW_pick rfl rfl rfl ?_
          refine EZ60_CK17 rfl ?_
          refine XW_if rfl (fun h6 => ?_) (fun h6 => ?_)
          ·try simp only [bs] at h6
           refine XW_sr ?_
           refine OW_as rfl rfl ?_
           refine EZ60_CK17 rfl ?_
           refine XW_ret ?_
           refine block_ret ?_
           refine then_ret ?_
           refine block_ret ?_
           refine then_ret ?_
           refine ret_ret (res1 rfl (rv_tmp rfl)) (frz1 (Q := Q) (by first | exact freeze_plain rfl | exact Ls.freeze (by assumption) | exact Ls.freeze Ls.of | exact Ls.freeze Ls.emp | exact Ls.freeze Ls.nls) ?_)
           refine qcast hq ?_
           congr 1
           first | exact (chkF (i := i) (by omega) (.inl (by omega))).symm | exact (chkF (i := i) (by omega) (.inr (fun ⟨a1, a2, a3, _⟩ => by omega))).symm | exact (chkF (i := i) (by omega) (.inr (fun h => by have := any_long.2 h.2.2.2; simp_all))).symm | (unfold chkC; rw [chk_vs (by omega) (fun j hj => hI j hj (by omega))]; simp [*]; done) | (unfold chkC; rw [decide_eq_false (fun e => by have := e.1; omega)]; rfl) | (unfold chkC; simp [*]; done)
          ·try simp only [bs] at h6
           refine XW_skip ?_
           refine block_norm ?_
           refine then_norm ?_
           refine XW_region ?_
           first
           | refine OW_bin rfl rfl rfl rfl (add_w64 (by first | omega | assumption | (simp only [ss]; omega))) ?_
           | refine OW_bin rfl rfl rfl rfl rfl ?_
           refine OW_mv rfl rfl ?_
           refine EZ60_CK17 rfl ?_
           have hSd1 : Own _ _ _ ([_]) := (Own.drop hS4 (k := 0) rfl)
           refine ⟨_, ?_, i + 1, rfl, under_in hU1, Own.cast (Own.mono (hSd1) (le_lit (ν := ν1) (a := [6, 0, 0, 1, 1, 0]) (b := [1]) (by decide))) (rfl), ?_, env_g rfl⟩
           · first | omega | (simp; omega)
           · exact ⟨by omega, hl8, hcs, hcq, fun j hj h => by by_cases e : j = i; (subst e; exact ⟨by omega, by omega, by omega, by omega, any_long.1 (by assumption)⟩); exact hI j hj (by omega)⟩
     ·try simp only [bs] at h4
      refine XW_exit ?_
      refine then_exit ?_
      refine block_exit ?_
      refine then_norm ?_
      refine XW_sr ?_
      refine OW_as rfl rfl ?_
      refine EZ60_CK17 rfl ?_
      refine XW_ret ?_
      refine ret_ret (res1 rfl (rv_tmp rfl)) (frz1 (Q := Q) (by first | exact freeze_plain rfl | exact Ls.freeze (by assumption) | exact Ls.freeze Ls.of | exact Ls.freeze Ls.emp | exact Ls.freeze Ls.nls) ?_)
      refine qcast hq ?_
      congr 1
      first | exact (chkF (i := i) (by omega) (.inl (by omega))).symm | exact (chkF (i := i) (by omega) (.inr (fun ⟨a1, a2, a3, _⟩ => by omega))).symm | exact (chkF (i := i) (by omega) (.inr (fun h => by have := any_long.2 h.2.2.2; simp_all))).symm | (unfold chkC; rw [chk_vs (by omega) (fun j hj => hI j hj (by omega))]; simp [*]; done) | (unfold chkC; rw [decide_eq_false (fun e => by have := e.1; omega)]; rfl) | (unfold chkC; simp [*]; done)
end Go.Proofs.Ytfkgdlfponfimaa.X
/- Layer 13: the law's plays: oracle, bytes, after. -/
set_option linter.unusedVariables false
set_option linter.unusedSimpArgs false
set_option maxRecDepth 100000
namespace Go.Proofs.Ytfkgdlfponfimaa.X
open Go Go.RowKit WM
theorem EN38_CK18 {c : Cfg} {ν : Nm} {e : Env} {H : Heap} {all : Array Oper} {r : List Oper} {i : Nat} {Q : Env → Heap → Prop} {x0 x1 x2 x3 x4 x5 x6 x7 x8 x9 x10 x11 x12 x13 x14 x15 x16 x17 x18 x19 x20 x21 x22 x23 x24 x25 x26 x27 x28 x29 x30 x31 x32 x33 x34 x35 x36 x37 : AVal} (he : e = [x0,x1,x2,x3,x4,x5,x6,x7,x8,x9,x10,x11,x12,x13,x14,x15,x16,x17,x18,x19,x20,x21,x22,x23,x24,x25,x26,x27,x28,x29,x30,x31,x32,x33,x34,x35,x36,x37]) (h : OW c ν all r i [x0,x1,x2,x3,x4,x5,x6,x7,x8,x9,x10,x11,x12,x13,x14,x15,x16,x17,x18,x19,x20,x21,x22,x23,x24,x25,x26,x27,x28,x29,x30,x31,x32,x33,x34,x35,x36,x37] H Q) : OW c ν all r i e H Q := by subst he; exact h
theorem EZ38_CK18 {c : Cfg} {ν : Nm} {e : Env} {H : Heap} {all : Array Oper} {i : Nat} {Q : Env → Heap → Prop} {x0 x1 x2 x3 x4 x5 x6 x7 x8 x9 x10 x11 x12 x13 x14 x15 x16 x17 x18 x19 x20 x21 x22 x23 x24 x25 x26 x27 x28 x29 x30 x31 x32 x33 x34 x35 x36 x37 : AVal} (he : e = [x0,x1,x2,x3,x4,x5,x6,x7,x8,x9,x10,x11,x12,x13,x14,x15,x16,x17,x18,x19,x20,x21,x22,x23,x24,x25,x26,x27,x28,x29,x30,x31,x32,x33,x34,x35,x36,x37]) (h : Q [x0,x1,x2,x3,x4,x5,x6,x7,x8,x9,x10,x11,x12,x13,x14,x15,x16,x17,x18,x19,x20,x21,x22,x23,x24,x25,x26,x27,x28,x29,x30,x31,x32,x33,x34,x35,x36,x37] H) : OW c ν all [] i e H Q := by subst he; exact OW_nil h
variable {ν β ps pos pos' : Nm} {H H1 : Heap} {Q : AVal → Heap → Prop} {L : List Asr} {k : Nat} {S : Rf} {c : Ck} {q qo : Nm} {key : Int}
structure Stp where
  id : Int
  nr : Int
  m : Cm
  raw : ByteArray
def Stp.enc (s : Stp) : AVal := .agg [.int .u64 s.id, .int .u64 s.nr, .int .i64 s.m.d, .int .u64 s.m.t.tn, .int .u64 s.m.t.vo, .int .u64 s.m.t.ep, .int .u64 s.m.t.ri, .int .u64 s.m.t.tag, .int .u64 s.m.vo, .int .u64 s.m.se, .int .u64 s.m.a, .int .u64 s.m.b, .str s.m.lf, .str s.raw]
structure Stp.fit (s : Stp) : Prop where
  id : U64 s.id
  nr : U64 s.nr
  m : s.m.fit
  lf : s.m.lf.size ≤ 1048576
  raw : s.raw.size ≤ 1048576
structure Py where
  c : Ck
  d : List Int
  key : Int
  iss : List Tk
  l : List Stp
def Py.enc (x : Py) : AVal := .agg [.lst (x.c.vs.map Vo.enc), .lst (x.c.ss.map SE.Se.enc), .lst (x.c.qs.map Qu.enc), .lst (x.d.map (fun a : Int => AVal.int .u64 a)), .int .u64 x.key, .lst (x.iss.map Tk.enc), .lst (x.l.map Stp.enc)]
structure Py.good (x : Py) : Prop where
  sz : x.c.sz
  d : x.d.length ≤ 1048576
  iss : x.iss.length ≤ 1048576
  ifit : ∀ t ∈ x.iss, t.fit
  l : x.l.length ≤ 1048576
  lfit : ∀ s ∈ x.l, s.fit
def Stp.bytes (s : Stp) : ByteArray := if s.raw ≠ ⟨#[]⟩ then s.raw else packC s.m
theorem Stp.fit.bytes {s : Stp} (h : s.fit) : s.bytes.size ≤ 1099511627776 := by
  have h1 := packC_size h.m; have h2 := h.lf; have h3 := h.raw
  unfold Stp.bytes; split <;> omega
theorem bytes_c {s : Stp} (h : s.fit) (hq : Q (.str s.bytes) H) : CW cfg ν 18 [s.enc] H Q := by
  refine CW_pure g18 F18 rfl ?_
  have hS0 : Own ν ν (fun _ => none) [] := Own.nil
  refine XW_sr ?_
  refine OW_boxR hS0 (le_app (p := ν) (b := [0, 0])) (under_app [0, 0] under_me) rfl rfl rfl ⟨rfl, rfl⟩ fun H1 hS1 => ?_
  replace hS1 : Own _ _ _ ([_]) := hS1
  refine OW_as rfl rfl ?_
  refine OW_nilE (e' := [_,_,_,_,_,_,_,_,_,_,_]) rfl ?_
  refine XW_seq ?_
  refine XW_sr ?_
  refine OW_fa rfl rfl rfl ?_
  refine OW_loadR hS1 (k := 0) rfl rfl rfl rfl rfl (by first | exact part_whole rfl rfl rfl | rfl) ?_
  refine OW_bin rfl rfl rfl rfl rfl ?_
  refine OW_nilE (e' := [_,_,_,_,_,_,_,_,_,_,_]) rfl ?_
  refine XW_if rfl (fun h1 => ?_) (fun h1 => ?_)
  ·try simp only [bs] at h1
   refine XW_sr ?_
   refine OW_fa rfl rfl rfl ?_
   refine OW_loadR hS1 (k := 0) rfl rfl rfl rfl rfl (by first | exact part_whole rfl rfl rfl | rfl) ?_
   refine OW_as rfl rfl ?_
   refine OW_nilE (e' := [_,_,_,_,_,_,_,_,_,_,_]) rfl ?_
   refine XW_ret ?_
   refine then_ret ?_
   refine ret_ret (res1 rfl (rv_tmp rfl)) (frz1 (Q := Q) (by first | exact freeze_plain rfl | exact Ls.freeze (by assumption) | exact Ls.freeze Ls.of | exact Ls.freeze Ls.emp | exact Ls.freeze Ls.nls) ?_)
   unfold Stp.bytes at hq; simp only [*, ne_eq, not_true_eq_false, not_false_eq_true, if_true, if_false] at hq; exact hq
  ·try simp only [bs] at h1
   refine XW_skip ?_
   refine then_norm ?_
   refine XW_sr ?_
   refine OW_fa rfl rfl rfl ?_
   refine OW_loadR hS1 (k := 0) rfl rfl rfl rfl rfl (by first | exact part_whole rfl rfl rfl | rfl) ?_
   refine OW_fn rfl rfl (p_packC h.m ?_) 
   refine OW_env (e' := [_,_,_,_,_,_,_,_,_,_,_]) rfl ?_
   refine OW_as rfl rfl ?_
   refine OW_nilE (e' := [_,_,_,_,_,_,_,_,_,_,_]) rfl ?_
   refine XW_ret ?_
   refine ret_ret (res1 rfl (rv_tmp rfl)) (frz1 (Q := Q) (by first | exact freeze_plain rfl | exact Ls.freeze (by assumption) | exact Ls.freeze Ls.of | exact Ls.freeze Ls.emp | exact Ls.freeze Ls.nls) ?_)
   unfold Stp.bytes at hq; simp only [*, ne_eq, not_true_eq_false, not_false_eq_true, if_true, if_false] at hq; exact hq
def Py.os (x : Py) : Rf := ((Rf.new x.d).issues x.key (x.iss.take 20)).2
theorem Py.stop {x : Py} {i : Nat} (hi : i ≤ 20) (h : x.iss.length ≤ i ∨ 20 ≤ i) : ((Rf.new x.d).issues x.key (x.iss.take i)).2 = x.os := by
  unfold Py.os
  rcases h with h | h
  · rw [List.take_of_length_le h, List.take_of_length_le (by omega)]
  · obtain rfl : i = 20 := by omega
    rfl
theorem oracle_c {x : Py} (hx : x.good) (hS : Own β ps H L) (hle : le ps ν) (hβ : under β ν = true) (hp : before ν pos')
    (hq : ∀ q H1, Own β pos' H1 (orc q x.os.of :: L) → Q (.ptr q 0 0) H1) : CW cfg ν 8 [x.enc] H Q := by
  have hil := hx.iss
  have hdl := hx.d
  refine CW_keep g8 F8 rfl ?_
  replace hS := Own.mono hS hle
  refine XW_sr ?_
  refine OW_boxR hS (le_app (p := ν) (b := [0, 0])) (under_app [0, 0] hβ) rfl rfl rfl ⟨rfl, rfl⟩ fun H1 hS1 => ?_
  replace hS1 : Own _ _ _ (_ :: L) := hS1
  refine OW_as rfl rfl ?_
  refine EZ38_CK18 rfl ?_
  refine XW_sr ?_
  refine OW_fa rfl rfl rfl ?_
  refine OW_loadR hS1 (k := 0) rfl rfl rfl rfl rfl (by first | exact part_whole rfl rfl rfl | rfl) ?_
  refine OW_fn rfl rfl (oNew hS1 (le_lit (ν := ν) (a := [1, 0]) (b := [2, 0, 1]) (by decide)) (under_app [2, 0, 1] hβ) (before_lit (ν := ν) (a := [2, 0, 1]) (b := [3, 0, 1]) (by decide)) Ls.of (by omega) fun q1 H2 hS2 => ?_) 
  replace hS2 : Own _ _ _ (_ :: _ :: L) := hS2
  refine EN38_CK18 rfl ?_
  refine OW_as rfl rfl ?_
  refine EZ38_CK18 rfl ?_
  refine XW_seq ?_
  refine XW_sr ?_
  refine OW_as rfl rfl ?_
  refine EZ38_CK18 rfl ?_
  refine XW_block ?_
  refine XW_whileN (I := fun ν' mm ee H' => ∃ (i : Nat), mm = x.iss.length - i ∧ under (1 :: 0 :: 1 :: 1 :: ν) ν' = true ∧ Own β ν' H' (orc q1 ((Rf.new x.d).issues x.key (x.iss.take i)).2.of :: row (0 :: 0 :: ν) 7 [x.enc] :: L) ∧ (i ≤ x.iss.length ∧ i ≤ 20) ∧ ∃ g : Nat → AVal, ee = [g 0, .ptr (0 :: 0 :: ν) 0 0, g 2, .ptr q1 0 0, .int .i64 i, g 5, g 6, g 7, g 8, g 9, g 10, g 11, g 12, g 13, g 14, g 15, g 16, g 17, g 18, g 19, g 20, g 21, g 22, g 23, g 24, g 25, g 26, g 27, g 28, g 29, g 30, g 31, g 32, g 33, g 34, g 35, g 36, g 37]) ?_ _ _ _ _ ⟨0, rfl, under_me, Own.cast (Own.mono (hS2) (le_lit (ν := ν) (a := [3, 0, 1]) (b := [1, 0, 1, 1]) (by decide))) (rfl), (⟨Nat.zero_le _, by omega⟩), env_g rfl⟩
  rintro ν1 mm ee H3 ⟨i, rfl, hU1, hS3, ⟨hi, hi2⟩, g1, rfl⟩
  have hr := Rf.issues_rows (x.iss.take i) (S := Rf.new x.d) (key := x.key)
  rw [List.length_take] at hr
  refine XW_seq ?_
  refine XW_sr ?_
  refine OW_mv rfl rfl ?_
  refine OW_fa rfl rfl rfl ?_
  refine OW_loadR hS3 (k := 1) rfl rfl rfl rfl rfl (by first | exact part_whole rfl rfl rfl | rfl) ?_
  refine EN38_CK18 rfl ?_
  first
  | refine OW_lenL rfl rfl (by first | assumption | exact Ls.of | exact Ls.emp | exact Ls.nls) rfl rfl rfl (by first | exact List.length_map _ | rfl) ?_
  | refine OW_bi rfl rfl rfl ?_
  refine OW_bin rfl rfl rfl rfl rfl ?_
  refine OW_mv rfl rfl ?_
  refine EN38_CK18 rfl ?_
  refine OW_split (tt := 14) rfl (fun g3_6 => ?_) (fun g3_6 => ?_)
  ·try simp only [bs] at g3_6
   refine OW_mv rfl rfl ?_
   refine OW_bin rfl rfl rfl rfl rfl ?_
   refine EN38_CK18 rfl ?_
   refine OW_pick rfl rfl rfl ?_
   refine EZ38_CK18 rfl ?_
   refine XW_if rfl (fun h3 => ?_) (fun h3 => ?_)
   ·try simp only [bs] at h3
    refine XW_skip ?_
    refine then_norm ?_
    refine XW_seq ?_
    refine XW_block ?_
    refine XW_sr ?_
    refine OW_fa rfl rfl rfl ?_
    refine OW_loadR hS3 (k := 1) rfl rfl rfl rfl rfl (by first | exact part_whole rfl rfl rfl | rfl) ?_
    refine OW_mv rfl rfl ?_
    refine EN38_CK18 rfl ?_
    first
    | refine OW_iaL rfl rfl rfl Ls.of rfl rfl rfl (by first | rfl | exact (Int.toNat_of_nonneg (by omega)).symm) (by first | assumption | exact at_map (by first | assumption | omega) | exact at_lst (by omega) | rfl) rfl ?_
    | refine OW_iaL rfl rfl rfl (by assumption) rfl rfl rfl (by first | rfl | exact (Int.toNat_of_nonneg (by omega)).symm) (by first | assumption | exact at_map (by first | assumption | omega) | exact at_lst (by omega) | rfl) rfl ?_
    refine OW_loadE rfl rfl rfl (by first | exact part_whole rfl rfl rfl | rfl) ?_
    refine OW_allocR hS3 (le_app (p := ν1) (b := [5, 0, 0, 1, 0])) (under_app [5, 0, 0, 1, 0] (under_trans (under_app [1, 0, 1, 1] hβ) hU1)) rfl rfl rfl rfl fun H4 hS4 => ?_
    replace hS4 : Own _ _ _ (_ :: _ :: _ :: L) := hS4
    refine EN38_CK18 rfl ?_
    first
    | refine OW_storeR hS4 (k := 0) rfl le_refl rfl rfl rfl rfl ⟨rfl, rfl, Nat.le_of_ble_eq_true rfl⟩ (set_whole rfl rfl) fun H5 hS5 => ?_
    | refine OW_storeR hS4 (k := 0) rfl le_refl rfl rfl rfl rfl ⟨rfl, rfl, Nat.le_of_ble_eq_true rfl⟩ (u2 := .agg [_, _, _, _, _]) rfl fun H5 hS5 => ?_
    replace hS5 : Own _ _ _ (_ :: _ :: _ :: L) := hS5
    refine EZ38_CK18 rfl ?_
    refine XW_region ?_
    refine OW_mv rfl rfl ?_
    refine OW_fa rfl rfl rfl ?_
    refine OW_loadR hS5 (k := 2) rfl rfl rfl rfl rfl (by first | exact part_whole rfl rfl rfl | rfl) ?_
    refine EN38_CK18 rfl ?_
    refine OW_fa rfl rfl rfl ?_
    refine OW_loadR hS5 (k := 0) rfl rfl rfl rfl rfl (by first | exact part_whole rfl rfl rfl | rfl) ?_
    refine OW_fa rfl rfl rfl ?_
    refine EN38_CK18 rfl ?_
    refine OW_loadR hS5 (k := 0) rfl rfl rfl rfl rfl (by first | exact part_whole rfl rfl rfl | rfl) ?_
    refine OW_fa rfl rfl rfl ?_
    refine OW_loadR hS5 (k := 0) rfl rfl rfl rfl rfl (by first | exact part_whole rfl rfl rfl | rfl) ?_
    refine EN38_CK18 rfl ?_
    refine OW_fa rfl rfl rfl ?_
    refine OW_loadR hS5 (k := 0) rfl rfl rfl rfl rfl (by first | exact part_whole rfl rfl rfl | rfl) ?_
    refine OW_fn rfl rfl (issueW hS5 (k := 1) rfl (le_lit (ν := ν1) (a := [7, 0, 0, 1, 0]) (b := [11, 1, 0, 1, 0]) (by decide)) (under_app [11, 1, 0, 1, 0] (under_trans (under_app [1, 0, 1, 1] hβ) hU1)) (before_lit (ν := ν1) (a := [11, 1, 0, 1, 0]) (b := [12, 1, 0, 1, 0]) (by decide)) (by show _ ≤ _; have : (Rf.new x.d).rows.length = 0 := rfl; omega) x.key x.iss[i] (hx.ifit _ (List.getElem_mem (by omega))) fun H6 hS6 => ?_) 
    replace hS6 : Own _ _ _ (_ :: _ :: _ :: L) := hS6
    refine EZ38_CK18 rfl ?_
    refine block_norm ?_
    refine then_norm ?_
    refine XW_region ?_
    refine OW_mv rfl rfl ?_
    first
    | refine OW_bin rfl rfl rfl rfl (add_w64 (by first | omega | assumption | (simp only [ss]; omega))) ?_
    | refine OW_bin rfl rfl rfl rfl rfl ?_
    refine OW_as rfl rfl ?_
    refine EZ38_CK18 rfl ?_
    have hSd1 : Own _ _ _ (_ :: _ :: L) := (Own.drop hS6 (k := 0) rfl)
    refine ⟨_, ?_, i + 1, rfl, under_in hU1, Own.cast (Own.mono (hSd1) (le_lit (ν := ν1) (a := [12, 1, 0, 1, 0]) (b := [1]) (by decide))) (by rw [Rf.issues_step (by omega)]), ?_, env_g rfl⟩
    · first | omega | (simp; omega)
    · exact ⟨by omega, by omega⟩
   ·try simp only [bs] at h3
    refine XW_exit ?_
    refine then_exit ?_
    refine block_exit ?_
    refine then_norm ?_
    refine XW_sr ?_
    refine OW_mv rfl rfl ?_
    refine OW_as rfl rfl ?_
    refine EZ38_CK18 rfl ?_
    refine XW_ret ?_
    refine ret_ret (res1 rfl (rv_tmp rfl)) ?_
    have he := Py.stop (x := x) hi2 (by omega)
    refine hq _ _ (Own.cast (Own.drop (Own.mono hS3 (le_bef (bef_under (a := []) hU1 (bef_app (a := [1, 0, 1, 1]) hp)))) (k := 1) rfl) (by rw [he]; rfl))
  ·try simp only [bs] at g3_6
   refine OW_no rfl ?_
   refine OW_no rfl ?_
   refine EN38_CK18 rfl ?_
   refine OW_pick rfl rfl rfl ?_
   refine EZ38_CK18 rfl ?_
   refine XW_no rfl rfl ?_
   refine XW_exit ?_
   refine then_exit ?_
   refine block_exit ?_
   refine then_norm ?_
   refine XW_sr ?_
   refine OW_mv rfl rfl ?_
   refine OW_as rfl rfl ?_
   refine EZ38_CK18 rfl ?_
   refine XW_ret ?_
   refine ret_ret (res1 rfl (rv_tmp rfl)) ?_
   have he := Py.stop (x := x) hi2 (by omega)
   refine hq _ _ (Own.cast (Own.drop (Own.mono hS3 (le_bef (bef_under (a := []) hU1 (bef_app (a := [1, 0, 1, 1]) hp)))) (k := 1) rfl) (by rw [he]; rfl))
def stepS (key : Int) (p : Ck × Rf) (y : Stp) : Ck × Rf := ((applyR p.2 key p.1 y.id y.nr y.bytes).1.c, (applyR p.2 key p.1 y.id y.nr y.bytes).2)
def afterS (S : Rf) (key : Int) (c : Ck) (l : List Stp) : Ck × Rf := l.foldl (stepS key) (c, S)
theorem afterS_step {l : List Stp} {i : Nat} (h : i < l.length) : afterS S key c (l.take (i + 1)) = stepS key (afterS S key c (l.take i)) l[i] := by
  unfold afterS
  rw [List.take_succ_eq_append_getElem h, List.foldl_append]; rfl
theorem stepS_good {p : Ck × Rf} {y : Stp} (hg : p.1.good) (hy : y.fit) : (stepS key p y).1.good := applyR_good hg hy.id hy.nr hy.bytes
theorem afterS_good : ∀ {l : List Stp} {c : Ck} {S : Rf}, c.good → (∀ y ∈ l, y.fit) → (afterS S key c l).1.good
  | [], _, _, h, _ => h
  | y :: l, c, S, h, hl => afterS_good (l := l) (stepS_good (p := (c, S)) h (hl y (by simp))) fun z hz => hl z (by simp [hz])
theorem afterS_stop {l : List Stp} {i : Nat} (hi : i ≤ 60) (h : l.length ≤ i ∨ 60 ≤ i) : l.take i = l.take 60 := by
  rcases h with h | h
  · rw [List.take_of_length_le h, List.take_of_length_le (by omega)]
  · obtain rfl : i = 60 := by omega
    rfl
end Go.Proofs.Ytfkgdlfponfimaa.X
/- Layer 13: what a command leaves of the volumes. -/
set_option linter.unusedVariables false
set_option linter.unusedSimpArgs false
set_option maxRecDepth 100000
namespace Go.Proofs.Ytfkgdlfponfimaa.X
open Go Go.RowKit WM
variable {S : Rf} {c : Ck} {key want id nr vo ep : Int} {m : Cm} {cmd : ByteArray}
structure Ext (vo : Int) (c d : Ck) : Prop where
  len : c.vs.length ≤ d.vs.length
  each : ∀ i (h : i < c.vs.length) (h' : i < d.vs.length), d.vs[i].vo = c.vs[i].vo ∧ c.vs[i].ep ≤ d.vs[i].ep ∧ d.vs[i].tn = c.vs[i].tn ∧ (c.vs[i].vo ≠ vo → d.vs[i] = c.vs[i])
theorem ext_of {d : Ck} (h : d.vs = c.vs) : Ext vo c d := by
  obtain ⟨a, b, e⟩ := d
  subst h
  exact ⟨Nat.le_refl _, fun i h h' => ⟨rfl, Int.le_refl _, rfl, fun _ => rfl⟩⟩
theorem ext_app {x : Vo} {ss : List SE.Se} {qs : List Qu} : Ext vo c ⟨c.vs ++ [x], ss, qs⟩ := by
  refine ⟨by simp, fun i h h' => ?_⟩
  have : (c.vs ++ [x])[i]'h' = c.vs[i] := List.getElem_append_left h
  show (c.vs ++ [x])[i].vo = _ ∧ _
  rw [this]
  exact ⟨rfl, Int.le_refl _, rfl, fun _ => rfl⟩
theorem ext_set {i : Nat} {y : Vo} {ss : List SE.Se} {qs : List Qu} (hi : i < c.vs.length) (hv : c.vs[i].vo = vo) (h1 : y.vo = c.vs[i].vo) (h2 : c.vs[i].ep ≤ y.ep) (h3 : y.tn = c.vs[i].tn) : Ext vo c ⟨c.vs.set i y, ss, qs⟩ := by
  refine ⟨by simp, fun j h h' => ?_⟩
  show (c.vs.set i y)[j].vo = _ ∧ _ ≤ (c.vs.set i y)[j].ep ∧ (c.vs.set i y)[j].tn = _ ∧ (_ → (c.vs.set i y)[j] = _)
  rw [List.getElem_set]
  split
  · rename_i e; subst e; exact ⟨h1, h2, h3, fun h => absurd hv h⟩
  · exact ⟨rfl, Int.le_refl _, rfl, fun _ => rfl⟩
theorem ext_setL {i : Nat} {s : ByteArray} (h1 : atP m.vo c.vs = i) (hi : i < c.vs.length) (hv : c.vs[i].vo = m.vo) (qs : List Qu) : Ext m.vo c { c.setL m s with qs := qs } := by
  rw [setL_at h1 hi]
  exact ext_set (y := { c.vs[i] with lv := c.vs[i].lv.set m.se.toNat s }) hi hv rfl (Int.le_refl _) rfl
theorem leafR_ext {f : Ck → Cm → Rs} (hg : c.good) (hf : ∀ i, atP m.vo c.vs = (i : Nat) → (hi : i < c.vs.length) → c.vs[i].vo = m.vo → Ext m.vo c (f c m).c) : Ext m.vo c (leafR S key c m want f).1.c := by
  by_cases he : (leafE S key c m want).1 = 0
  · rw [leafR_ok he]
    obtain ⟨i, hi, h1, h2, _⟩ := leaf_at hg he
    exact hf i h1 hi h2
  · rw [leafR_err he]; exact ext_of rfl
theorem runR_ext (hg : c.good) : Ext m.vo c (runR S key c m).1.c := by
  unfold runR
  split
  · unfold makeR
    split
    · exact ext_of rfl
    · split
      · exact ext_of rfl
      · split
        · exact ext_of rfl
        · exact ext_app
  · split
    · unfold epochR
      split
      · exact ext_of rfl
      · rename_i h
        obtain ⟨i, hi, h1, h2, h3⟩ := atP_good hg h
        rw [at_eq h1 hi, setV_eq h1]
        exact ext_set (y := { c.vs[i] with ep := max c.vs[i].ep m.a }) hi h2 rfl (Int.le_max_left _ _) rfl
    · split
      · unfold limitR; split <;> exact ext_of rfl
      · split
        · refine leafR_ext hg fun i h1 hi hv => ?_
          unfold putR
          split
          · exact ext_of rfl
          · split
            · split
              · exact ext_of rfl
              · exact ext_setL h1 hi hv _
            · exact ext_setL h1 hi hv c.qs
        · split
          · exact leafR_ext hg fun i h1 hi hv => ext_of rfl
          · split
            · refine leafR_ext hg fun i h1 hi hv => ?_
              unfold trimR
              split
              · exact ext_of rfl
              · split
                · exact ext_setL h1 hi hv _
                · exact ext_setL h1 hi hv c.qs
            · exact ext_of rfl
def Ge (vo ep : Int) (c : Ck) : Prop := ∃ (i : Nat) (hi : i < c.vs.length), c.vs[i].vo = vo ∧ ep ≤ c.vs[i].ep
theorem Ge.ext {d : Ck} {w : Int} (h : Ge vo ep c) (he : Ext w c d) : Ge vo ep d := by
  obtain ⟨i, hi, h1, h2⟩ := h
  have hi' : i < d.vs.length := Nat.lt_of_lt_of_le hi he.len
  obtain ⟨e1, e2, _⟩ := he.each i hi hi'
  exact ⟨i, hi', by rw [e1]; exact h1, Int.le_trans h2 e2⟩
theorem applyR_ext (hg : c.good) : ∃ w, Ext w c (applyR S key c id nr cmd).1.c := by
  unfold applyR
  split
  · exact ⟨0, ext_of rfl⟩
  · split
    · exact ⟨0, ext_of rfl⟩
    · split
      · obtain ⟨h1, h2⟩ := runR_ext (S := S) (key := key) (m := (unpC cmd).1) hg
        exact ⟨(unpC cmd).1.vo, h1, h2⟩
      · exact ⟨0, ext_of rfl⟩
theorem Ge.after : ∀ {l : List Stp} {c : Ck} {S : Rf}, Ge vo ep c → c.good → (∀ y ∈ l, y.fit) → Ge vo ep (afterS S key c l).1
  | [], _, _, h, _, _ => h
  | y :: l, c, S, h, hg, hl => by
    obtain ⟨w, hw⟩ := applyR_ext (S := S) (key := key) (id := y.id) (nr := y.nr) (cmd := y.bytes) hg
    exact Ge.after (l := l) (c := (stepS key (c, S) y).1) (S := (stepS key (c, S) y).2) (h.ext hw) (stepS_good (p := (c, S)) hg (hl y (by simp))) fun z hz => hl z (by simp [hz])
theorem Ge.at (h : Ge vo ep c) (hg : c.good) : ∃ (i : Nat) (hi : i < c.vs.length), atP vo c.vs = i ∧ ep ≤ c.vs[i].ep := by
  obtain ⟨i, hi, h1, h2⟩ := h
  exact ⟨i, hi, by rw [← h1]; exact nodup_atP hg.nd hi, h2⟩
end Go.Proofs.Ytfkgdlfponfimaa.X
/- Layer 13: what the statements' sizes say of their arguments. -/
set_option linter.unusedVariables false
set_option linter.unusedSimpArgs false
set_option maxRecDepth 100000
namespace Go.Proofs.Ytfkgdlfponfimaa.X
open Go Go.RowKit WM
structure A2 where
  a : Int
  b : Int
def A2.enc (x : A2) : AVal := .agg [.int .u64 x.a, .int .u64 x.b]
def A2.Q (x : A2) (n : Nat) : Prop := Open.QSt (Open.QPair (Open.QInt .u64) (Open.QInt .u64)) (x.a, x.b) n
theorem A2.ok {a : A2} {n : Nat} (h : A2.Q a n) : (0 ≤ a.a ∧ a.a ≤ 18446744073709551615) ∧ (0 ≤ a.b ∧ a.b ≤ 18446744073709551615) := by
  obtain ⟨mm, hm, ⟨m0, k0, e0, h0, h1⟩⟩ := h
  exact ⟨(in_u64 h0), (in_u64 h1)⟩
theorem A2.Q_mono {a : A2} {n m : Nat} (h : A2.Q a n) (hm : n ≤ m) : A2.Q a m := let ⟨k, h1, h2⟩ := h; ⟨k, Nat.le_trans h1 hm, h2⟩
theorem A2.Q.pos {a : A2} {n : Nat} (h : A2.Q a n) : 1 ≤ n := let ⟨k, h1, _⟩ := h; by omega
def Tk.Q (x : Tk) (n : Nat) : Prop := Open.QSt (Open.QPair (Open.QInt .u64) (Open.QPair (Open.QInt .u64) (Open.QPair (Open.QInt .u64) (Open.QPair (Open.QInt .u64) (Open.QInt .u64))))) (x.tn, x.vo, x.ep, x.ri, x.tag) n
theorem Tk.ok {a : Tk} {n : Nat} (h : Tk.Q a n) : (0 ≤ a.tn ∧ a.tn ≤ 18446744073709551615) ∧ (0 ≤ a.vo ∧ a.vo ≤ 18446744073709551615) ∧ (0 ≤ a.ep ∧ a.ep ≤ 18446744073709551615) ∧ (0 ≤ a.ri ∧ a.ri ≤ 18446744073709551615) ∧ (0 ≤ a.tag ∧ a.tag ≤ 18446744073709551615) := by
  obtain ⟨mm, hm, ⟨m0, k0, e0, h0, ⟨m1, k1, e1, h1, ⟨m2, k2, e2, h2, ⟨m3, k3, e3, h3, h4⟩⟩⟩⟩⟩ := h
  exact ⟨(in_u64 h0), (in_u64 h1), (in_u64 h2), (in_u64 h3), (in_u64 h4)⟩
theorem Tk.Q_mono {a : Tk} {n m : Nat} (h : Tk.Q a n) (hm : n ≤ m) : Tk.Q a m := let ⟨k, h1, h2⟩ := h; ⟨k, Nat.le_trans h1 hm, h2⟩
theorem Tk.Q.pos {a : Tk} {n : Nat} (h : Tk.Q a n) : 1 ≤ n := let ⟨k, h1, _⟩ := h; by omega
def Cm.Q (x : Cm) (n : Nat) : Prop := Open.QSt (Open.QPair (Open.QInt .i64) (Open.QPair Tk.Q (Open.QPair (Open.QInt .u64) (Open.QPair (Open.QInt .u64) (Open.QPair (Open.QInt .u64) (Open.QPair (Open.QInt .u64) Open.QStr)))))) (x.d, x.t, x.vo, x.se, x.a, x.b, x.lf) n
theorem Cm.ok {a : Cm} {n : Nat} (h : Cm.Q a n) : (-9223372036854775808 ≤ a.d ∧ a.d ≤ 9223372036854775807) ∧ Tk.Q a.t n ∧ (0 ≤ a.vo ∧ a.vo ≤ 18446744073709551615) ∧ (0 ≤ a.se ∧ a.se ≤ 18446744073709551615) ∧ (0 ≤ a.a ∧ a.a ≤ 18446744073709551615) ∧ (0 ≤ a.b ∧ a.b ≤ 18446744073709551615) ∧ a.lf.size + 1 ≤ n := by
  obtain ⟨mm, hm, ⟨m0, k0, e0, h0, ⟨m1, k1, e1, h1, ⟨m2, k2, e2, h2, ⟨m3, k3, e3, h3, ⟨m4, k4, e4, h4, ⟨m5, k5, e5, h5, h6⟩⟩⟩⟩⟩⟩⟩ := h
  exact ⟨(in_i64 h0), (Tk.Q_mono h1 (by omega)), (in_u64 h2), (in_u64 h3), (in_u64 h4), (in_u64 h5), (Nat.le_trans h6.2 (by omega))⟩
theorem Cm.Q_mono {a : Cm} {n m : Nat} (h : Cm.Q a n) (hm : n ≤ m) : Cm.Q a m := let ⟨k, h1, h2⟩ := h; ⟨k, Nat.le_trans h1 hm, h2⟩
theorem Cm.Q.pos {a : Cm} {n : Nat} (h : Cm.Q a n) : 1 ≤ n := let ⟨k, h1, _⟩ := h; by omega
def Vo.Q (x : Vo) (n : Nat) : Prop := Open.QSt (Open.QPair (Open.QInt .u64) (Open.QPair (Open.QInt .u64) (Open.QPair (Open.QInt .u64) (Open.QPair (Open.QInt .i64) (Open.QSl Open.QStr))))) (x.vo, x.tn, x.ep, x.de, x.lv) n
theorem Vo.ok {a : Vo} {n : Nat} (h : Vo.Q a n) : (0 ≤ a.vo ∧ a.vo ≤ 18446744073709551615) ∧ (0 ≤ a.tn ∧ a.tn ≤ 18446744073709551615) ∧ (0 ≤ a.ep ∧ a.ep ≤ 18446744073709551615) ∧ (-9223372036854775808 ≤ a.de ∧ a.de ≤ 9223372036854775807) ∧ (a.lv.length + 1 ≤ n ∧ (a.lv.map ByteArray.size).sum + 1 ≤ n ∧ ∀ x ∈ a.lv, x.size + 1 ≤ n) := by
  obtain ⟨mm, hm, ⟨m0, k0, e0, h0, ⟨m1, k1, e1, h1, ⟨m2, k2, e2, h2, ⟨m3, k3, e3, h3, h4⟩⟩⟩⟩⟩ := h
  exact ⟨(in_u64 h0), (in_u64 h1), (in_u64 h2), (in_i64 h3), (⟨Nat.le_trans (qsl_len h4 (fun _ _ h => Nat.le_trans (by omega) h.2)) (by omega), Nat.le_trans (qsl_sum (f := ByteArray.size) (fun _ _ h => Nat.le_trans (by omega) h.2) h4) (by omega), fun x hx => let ⟨_, h⟩ := qsl_mem h4 x hx; Nat.le_trans h.2.2 (by omega)⟩)⟩
theorem Vo.Q_mono {a : Vo} {n m : Nat} (h : Vo.Q a n) (hm : n ≤ m) : Vo.Q a m := let ⟨k, h1, h2⟩ := h; ⟨k, Nat.le_trans h1 hm, h2⟩
theorem Vo.Q.pos {a : Vo} {n : Nat} (h : Vo.Q a n) : 1 ≤ n := let ⟨k, h1, _⟩ := h; by omega
def SE.Se.Q (x : SE.Se) (n : Nat) : Prop := Open.QSt (Open.QPair (Open.QInt .u64) (Open.QPair (Open.QInt .u64) Open.QStr)) (x.id, x.nr, x.an) n
theorem SE.Se.ok {a : SE.Se} {n : Nat} (h : SE.Se.Q a n) : (0 ≤ a.id ∧ a.id ≤ 18446744073709551615) ∧ (0 ≤ a.nr ∧ a.nr ≤ 18446744073709551615) ∧ a.an.size + 1 ≤ n := by
  obtain ⟨mm, hm, ⟨m0, k0, e0, h0, ⟨m1, k1, e1, h1, h2⟩⟩⟩ := h
  exact ⟨(in_u64 h0), (in_u64 h1), (Nat.le_trans h2.2 (by omega))⟩
theorem SE.Se.Q_mono {a : SE.Se} {n m : Nat} (h : SE.Se.Q a n) (hm : n ≤ m) : SE.Se.Q a m := let ⟨k, h1, h2⟩ := h; ⟨k, Nat.le_trans h1 hm, h2⟩
theorem SE.Se.Q.pos {a : SE.Se} {n : Nat} (h : SE.Se.Q a n) : 1 ≤ n := let ⟨k, h1, _⟩ := h; by omega
def Qu.Q (x : Qu) (n : Nat) : Prop := Open.QSt (Open.QPair (Open.QInt .u64) (Open.QPair (Open.QInt .u64) (Open.QInt .u64))) (x.tn, x.us, x.li) n
theorem Qu.ok {a : Qu} {n : Nat} (h : Qu.Q a n) : (0 ≤ a.tn ∧ a.tn ≤ 18446744073709551615) ∧ (0 ≤ a.us ∧ a.us ≤ 18446744073709551615) ∧ (0 ≤ a.li ∧ a.li ≤ 18446744073709551615) := by
  obtain ⟨mm, hm, ⟨m0, k0, e0, h0, ⟨m1, k1, e1, h1, h2⟩⟩⟩ := h
  exact ⟨(in_u64 h0), (in_u64 h1), (in_u64 h2)⟩
theorem Qu.Q_mono {a : Qu} {n m : Nat} (h : Qu.Q a n) (hm : n ≤ m) : Qu.Q a m := let ⟨k, h1, h2⟩ := h; ⟨k, Nat.le_trans h1 hm, h2⟩
theorem Qu.Q.pos {a : Qu} {n : Nat} (h : Qu.Q a n) : 1 ≤ n := let ⟨k, h1, _⟩ := h; by omega
def Ck.Q (x : Ck) (n : Nat) : Prop := Open.QSt (Open.QPair (Open.QSl Vo.Q) (Open.QPair (Open.QSl SE.Se.Q) (Open.QSl Qu.Q))) (x.vs, x.ss, x.qs) n
theorem Ck.ok {a : Ck} {n : Nat} (h : Ck.Q a n) : (a.vs.length + 1 ≤ n ∧ ∀ x ∈ a.vs, Vo.Q x n) ∧ (a.ss.length + 1 ≤ n ∧ ∀ x ∈ a.ss, SE.Se.Q x n) ∧ (a.qs.length + 1 ≤ n ∧ ∀ x ∈ a.qs, Qu.Q x n) := by
  obtain ⟨mm, hm, ⟨m0, k0, e0, h0, ⟨m1, k1, e1, h1, h2⟩⟩⟩ := h
  exact ⟨(⟨Nat.le_trans (qsl_len h0 (fun _ _ h => h.pos)) (by omega), fun x hx => let ⟨_, h⟩ := qsl_mem h0 x hx; Vo.Q_mono h.2 (by omega)⟩), (⟨Nat.le_trans (qsl_len h1 (fun _ _ h => h.pos)) (by omega), fun x hx => let ⟨_, h⟩ := qsl_mem h1 x hx; SE.Se.Q_mono h.2 (by omega)⟩), (⟨Nat.le_trans (qsl_len h2 (fun _ _ h => h.pos)) (by omega), fun x hx => let ⟨_, h⟩ := qsl_mem h2 x hx; Qu.Q_mono h.2 (by omega)⟩)⟩
theorem Ck.Q_mono {a : Ck} {n m : Nat} (h : Ck.Q a n) (hm : n ≤ m) : Ck.Q a m := let ⟨k, h1, h2⟩ := h; ⟨k, Nat.le_trans h1 hm, h2⟩
theorem Ck.Q.pos {a : Ck} {n : Nat} (h : Ck.Q a n) : 1 ≤ n := let ⟨k, h1, _⟩ := h; by omega
def Stp.Q (x : Stp) (n : Nat) : Prop := Open.QSt (Open.QPair (Open.QInt .u64) (Open.QPair (Open.QInt .u64) (Open.QPair Cm.Q Open.QStr))) (x.id, x.nr, x.m, x.raw) n
theorem Stp.ok {a : Stp} {n : Nat} (h : Stp.Q a n) : (0 ≤ a.id ∧ a.id ≤ 18446744073709551615) ∧ (0 ≤ a.nr ∧ a.nr ≤ 18446744073709551615) ∧ Cm.Q a.m n ∧ a.raw.size + 1 ≤ n := by
  obtain ⟨mm, hm, ⟨m0, k0, e0, h0, ⟨m1, k1, e1, h1, ⟨m2, k2, e2, h2, h3⟩⟩⟩⟩ := h
  exact ⟨(in_u64 h0), (in_u64 h1), (Cm.Q_mono h2 (by omega)), (Nat.le_trans h3.2 (by omega))⟩
theorem Stp.Q_mono {a : Stp} {n m : Nat} (h : Stp.Q a n) (hm : n ≤ m) : Stp.Q a m := let ⟨k, h1, h2⟩ := h; ⟨k, Nat.le_trans h1 hm, h2⟩
theorem Stp.Q.pos {a : Stp} {n : Nat} (h : Stp.Q a n) : 1 ≤ n := let ⟨k, h1, _⟩ := h; by omega
def Py.Q (x : Py) (n : Nat) : Prop := Open.QSt (Open.QPair Ck.Q (Open.QPair (Open.QSl (Open.QInt .u64)) (Open.QPair (Open.QInt .u64) (Open.QPair (Open.QSl Tk.Q) (Open.QSl Stp.Q))))) (x.c, x.d, x.key, x.iss, x.l) n
theorem Py.ok {a : Py} {n : Nat} (h : Py.Q a n) : Ck.Q a.c n ∧ (a.d.length + 1 ≤ n ∧ ∀ x ∈ a.d, 0 ≤ x ∧ x ≤ 18446744073709551615) ∧ (0 ≤ a.key ∧ a.key ≤ 18446744073709551615) ∧ (a.iss.length + 1 ≤ n ∧ ∀ x ∈ a.iss, Tk.Q x n) ∧ (a.l.length + 1 ≤ n ∧ ∀ x ∈ a.l, Stp.Q x n) := by
  obtain ⟨mm, hm, ⟨m0, k0, e0, h0, ⟨m1, k1, e1, h1, ⟨m2, k2, e2, h2, ⟨m3, k3, e3, h3, h4⟩⟩⟩⟩⟩ := h
  exact ⟨(Ck.Q_mono h0 (by omega)), (⟨Nat.le_trans (qsl_len h1 (fun _ _ h => h.2)) (by omega), fun x hx => let ⟨_, h⟩ := qsl_mem h1 x hx; in_u64 h.2⟩), (in_u64 h2), (⟨Nat.le_trans (qsl_len h3 (fun _ _ h => h.pos)) (by omega), fun x hx => let ⟨_, h⟩ := qsl_mem h3 x hx; Tk.Q_mono h.2 (by omega)⟩), (⟨Nat.le_trans (qsl_len h4 (fun _ _ h => h.pos)) (by omega), fun x hx => let ⟨_, h⟩ := qsl_mem h4 x hx; Stp.Q_mono h.2 (by omega)⟩)⟩
theorem Py.Q_mono {a : Py} {n m : Nat} (h : Py.Q a n) (hm : n ≤ m) : Py.Q a m := let ⟨k, h1, h2⟩ := h; ⟨k, Nat.le_trans h1 hm, h2⟩
theorem Py.Q.pos {a : Py} {n : Nat} (h : Py.Q a n) : 1 ≤ n := let ⟨k, h1, _⟩ := h; by omega
structure Ck.fits (c : Ck) : Prop where
  v : ∀ y ∈ c.vs, U64 y.vo ∧ U64 y.tn ∧ U64 y.ep
  s : ∀ y ∈ c.ss, y.fit
  q : Fit c.qs
  b : ∀ y ∈ c.ss, y.an.size ≤ 1048576
  l : ∀ y ∈ c.vs, sumB y.lv ≤ 1048576
  d : ∀ y ∈ c.vs, -9223372036854775808 ≤ y.de ∧ y.de ≤ 9223372036854775807
theorem ck_of {c : Ck} {n : Nat} (h : Ck.Q c n) (hn : n ≤ 1048576) : c.sz ∧ c.fits := by
  obtain ⟨⟨h1, h2⟩, ⟨h3, h4⟩, h5, h6⟩ := Ck.ok h
  refine ⟨⟨by omega, by omega, by omega, fun x hx => ?_⟩, fun x hx => ?_, fun x hx => ?_, fun x hx => ?_, fun x hx => ?_, fun x hx => ?_, fun x hx => ?_⟩
  · have := (Vo.ok (h2 x hx)).2.2.2.2.1; omega
  · have := Vo.ok (h2 x hx); exact ⟨this.1, this.2.1, this.2.2.1⟩
  · have := SE.Se.ok (h4 x hx); exact ⟨this.1, this.2.1⟩
  · exact Qu.ok (h6 x hx)
  · have := (SE.Se.ok (h4 x hx)).2.2; omega
  · have := (Vo.ok (h2 x hx)).2.2.2.2.2.1; unfold sumB; omega
  · exact (Vo.ok (h2 x hx)).2.2.2.1
theorem cm_of {m : Cm} {n : Nat} (h : Cm.Q m n) (hn : n ≤ 1048576) : m.fit ∧ m.lf.size ≤ 1048576 := by
  obtain ⟨h1, h2, h3, h4, h5, h6, h7⟩ := Cm.ok h
  exact ⟨⟨h1, Tk.ok h2, h3, h4, h5, h6, by omega⟩, by omega⟩
theorem stp_of {s : Stp} {n : Nat} (h : Stp.Q s n) (hn : n ≤ 1048576) : s.fit := by
  obtain ⟨h1, h2, h3, h4⟩ := Stp.ok h
  obtain ⟨h5, h6⟩ := cm_of h3 hn
  exact ⟨h1, h2, h5, h6, by omega⟩
theorem py_of {x : Py} {n : Nat} (h : Py.Q x n) (hn : n ≤ 1048576) : x.good ∧ x.c.fits := by
  obtain ⟨h1, ⟨h2, h3⟩, h4, ⟨h5, h6⟩, h7, h8⟩ := Py.ok h
  obtain ⟨k1, k2⟩ := ck_of h1 hn
  exact ⟨⟨k1, by omega, by omega, fun t ht => Tk.ok (h6 t ht), by omega, fun s hs => stp_of (h8 s hs) hn⟩, k2⟩
end Go.Proofs.Ytfkgdlfponfimaa.X

/- Layer 13: what a tenant uses is how many leaves of its volumes are there. -/
set_option linter.unusedVariables false
set_option linter.unusedSimpArgs false
set_option maxRecDepth 100000
namespace Go.Proofs.Ytfkgdlfponfimaa.X
open Go Go.RowKit WM
variable {S : Rf} {c : Ck} {key want id nr tn : Int} {m : Cm} {cmd : ByteArray}
theorem getQ_other {tn tm : Int} {f : Qu → Qu} (hf : ∀ x, (f x).tn = x.tn) (h : tm ≠ tn) (t : List Qu) : getQ tm (modQ tn f t) = getQ tm t := by
  induction t with
  | nil => rfl
  | cons x r ih =>
    by_cases hx : x.tn = tn
    · have h1 : ¬ x.tn = tm := fun e => h (by omega)
      have h2 : ¬ (f x).tn = tm := by rw [hf]; exact h1
      simp [modQ, hx, getQ, List.find?_cons, isT, h2]
      rw [show decide (tn = tm) = false from decide_eq_false (fun e => h e.symm)]
    · simp only [getQ] at ih
      simp only [modQ, if_neg hx, getQ, List.find?_cons]
      split
      · rfl
      · exact ih
def usQ (tn : Int) (t : List Qu) : Int := match getQ tn t with
  | some r => r.us
  | none => 0
def fullB (s : ByteArray) : Bool := decide (s ≠ ⟨#[]⟩)
def cnt1 (tn : Int) (x : Vo) : Nat := if x.tn = tn then x.lv.countP fullB else 0
def cntV (tn : Int) (vs : List Vo) : Nat := (vs.map (cnt1 tn)).sum
theorem cntV_app (vs : List Vo) (x : Vo) : cntV tn (vs ++ [x]) = cntV tn vs + cnt1 tn x := by simp [cntV]
theorem sum_set {l : List Nat} {i : Nat} {a : Nat} (h : i < l.length) : (l.set i a).sum + l[i] = l.sum + a := by
  induction l generalizing i with
  | nil => simp at h
  | cons x r ih =>
    cases i with
    | zero => simp; omega
    | succ i =>
      have := ih (i := i) (by simpa using h)
      simp only [List.set_cons_succ, List.sum_cons, List.getElem_cons_succ]; omega
theorem cntV_set {vs : List Vo} {i : Nat} {y : Vo} (h : i < vs.length) : cntV tn (vs.set i y) + cnt1 tn vs[i] = cntV tn vs + cnt1 tn y := by
  unfold cntV
  rw [List.map_set]
  have := sum_set (l := vs.map (cnt1 tn)) (i := i) (a := cnt1 tn y) (by simpa using h)
  simpa using this
theorem countP_put {l : List ByteArray} {k : Nat} {s : ByteArray} (h : k < l.length) : (l.set k s).countP fullB + (if fullB l[k] = true then 1 else 0) = l.countP fullB + (if fullB s = true then 1 else 0) := by
  induction l generalizing k with
  | nil => simp at h
  | cons x r ih =>
    cases k with
    | zero => simp only [List.set_cons_zero, List.countP_cons, List.getElem_cons_zero]; omega
    | succ k =>
      have := ih (k := k) (by simpa using h)
      simp only [List.set_cons_succ, List.countP_cons, List.getElem_cons_succ]; omega
def Cnt (c : Ck) : Prop := ∀ tn, (cntV tn c.vs : Int) = usQ tn c.qs
theorem cnt_same {vs : List Vo} {i : Nat} {y : Vo} (h : i < vs.length) (h1 : y.tn = vs[i].tn) (h2 : y.lv = vs[i].lv) : cntV tn (vs.set i y) = cntV tn vs := by
  have := cntV_set (tn := tn) (y := y) h
  have e : cnt1 tn y = cnt1 tn vs[i] := by unfold cnt1; rw [h1, h2]
  omega
theorem makeR_cnt (h : Cnt c) : Cnt (makeR c m).c := by
  unfold makeR
  repeat' split
  · exact h
  · exact h
  · exact h
  · intro tn
    show (cntV tn (c.vs ++ [_]) : Int) = _
    rw [cntV_app]
    have e : cnt1 tn ⟨m.vo, m.a, m.se, m.b, List.replicate (2 ^ m.b.toNat) ⟨#[]⟩⟩ = 0 := by
      unfold cnt1
      split
      · rw [List.countP_replicate, if_neg (by decide)]
      · rfl
    rw [e]; exact h tn
theorem epochR_cnt (hg : c.good) (h : Cnt c) : Cnt (epochR c m).c := by
  unfold epochR
  split
  · exact h
  · rename_i h0
    obtain ⟨i, hi, h1, h2, h3⟩ := atP_good hg h0
    rw [at_eq h1 hi, setV_eq h1]
    intro tn
    show (cntV tn (c.vs.set i ⟨c.vs[i].vo, c.vs[i].tn, max c.vs[i].ep m.a, c.vs[i].de, c.vs[i].lv⟩) : Int) = usQ tn c.qs
    rw [cnt_same (y := ⟨c.vs[i].vo, c.vs[i].tn, max c.vs[i].ep m.a, c.vs[i].de, c.vs[i].lv⟩) hi rfl rfl]; exact h tn
theorem usQ_set (t : List Qu) (a b : Int) (hok : (setQ t a b).2 = true) : usQ tn (setQ t a b).1 = usQ tn t := by
  unfold setQ at hok ⊢
  cases hg : getQ a t with
  | some r =>
    simp only
    unfold usQ
    by_cases e : tn = a
    · subst e
      rw [getQ_mod (f := fun r => { r with li := b }) (fun x => rfl), hg]; rfl
    · rw [getQ_other (f := fun r => { r with li := b }) (fun x => rfl) e]
  | none =>
    rw [hg] at hok
    simp only at hok ⊢
    split
    · unfold usQ
      have ef : getQ tn (t ++ [⟨a, 0, b⟩]) = (getQ tn t).or (if isT tn ⟨a, 0, b⟩ = true then some ⟨a, 0, b⟩ else none) := by
        unfold getQ; rw [List.find?_append]; congr 1
        simp only [List.find?_cons, List.find?_nil]; split <;> simp_all
      rw [ef]
      cases h2 : getQ tn t with
      | some r => rfl
      | none => simp only [Option.none_or]; split <;> first | (rename_i h3; split at h3 <;> simp_all; (subst h3; rfl)) | rfl
    · rename_i h2; rw [if_neg h2] at hok; cases hok
theorem limitR_cnt (h : Cnt c) : Cnt (limitR c m).c := by
  unfold limitR
  split
  · exact h
  · rename_i h0
    intro tn
    show (cntV tn c.vs : Int) = usQ tn (setQ c.qs m.a m.b).1
    rw [usQ_set _ _ _ (by simpa using h0)]; exact h tn
theorem cnt_leaf {i k : Nat} {s : ByteArray} (hi : i < c.vs.length) (hk : k < c.vs[i].lv.length) : cntV tn (c.vs.set i ⟨c.vs[i].vo, c.vs[i].tn, c.vs[i].ep, c.vs[i].de, c.vs[i].lv.set k s⟩) + (if c.vs[i].tn = tn ∧ fullB c.vs[i].lv[k] = true then 1 else 0) = cntV tn c.vs + (if c.vs[i].tn = tn ∧ fullB s = true then 1 else 0) := by
  have h1 := cntV_set (tn := tn) (y := ⟨c.vs[i].vo, c.vs[i].tn, c.vs[i].ep, c.vs[i].de, c.vs[i].lv.set k s⟩) hi
  have h2 := countP_put (s := s) hk
  unfold cnt1 at h1
  simp only at h1
  by_cases e : c.vs[i].tn = tn
  · simp only [e, true_and, if_true] at h1 ⊢; omega
  · simp only [e, false_and, if_false] at h1 ⊢; omega
theorem usQ_mod {t : List Qu} {a : Int} {f : Qu → Qu} (hf : ∀ x, (f x).tn = x.tn) {r : Qu} (hr : getQ a t = some r) : usQ tn (modQ a f t) = if tn = a then (f r).us else usQ tn t := by
  unfold usQ
  by_cases e : tn = a
  · subst e; rw [if_pos rfl, getQ_mod hf, hr]; rfl
  · rw [if_neg e, getQ_other hf e]
theorem cnt_pos {i k : Nat} (hi : i < c.vs.length) (hk : k < c.vs[i].lv.length) (hf : fullB c.vs[i].lv[k] = true) : 1 ≤ cntV c.vs[i].tn c.vs := by
  have := cnt_leaf (c := c) (tn := c.vs[i].tn) (s := c.vs[i].lv[k]) hi hk
  have h2 := cnt_leaf (c := c) (tn := c.vs[i].tn) (s := ⟨#[]⟩) hi hk
  have e : fullB ⟨#[]⟩ = false := by decide
  simp only [hf, e, and_self, and_false, if_true, if_false, Bool.false_eq_true] at h2
  omega
theorem putR_cnt {i : Nat} (hg : c.good) (h : Cnt c) (h1 : atP m.vo c.vs = i) (hi : i < c.vs.length) (hk : m.se.toNat < c.vs[i].lv.length) : Cnt (putR c m).c := by
  unfold putR
  split
  · exact h
  · rename_i h0
    have hn : fullB m.lf = true := decide_eq_true fun e => h0 (.inr e)
    rw [old_at h1 hi hk, at_eq h1 hi]
    split
    · rename_i h2
      have ho : fullB c.vs[i].lv[m.se.toNat] = false := by rw [h2]; decide
      split
      · exact h
      · rename_i h3
        obtain ⟨r, hr, _, _, he⟩ := take_ok (Classical.not_not.1 h3)
        intro tn
        show (cntV tn (c.setL m m.lf).vs : Int) = usQ tn (takeQ c.qs c.vs[i].tn 1).1
        rw [setL_at h1 hi, he, usQ_mod (f := fun r => { r with us := r.us + 1 }) (fun x => rfl) hr]
        have h4 := cnt_leaf (c := c) (tn := tn) (s := m.lf) hi hk
        have h5 := h tn
        have h6 : usQ c.vs[i].tn c.qs = r.us := by unfold usQ; rw [hr]
        simp only [ho, hn, Bool.false_eq_true, and_false, if_false, and_true, Nat.add_zero] at h4
        show (cntV tn (c.vs.set i ⟨c.vs[i].vo, c.vs[i].tn, c.vs[i].ep, c.vs[i].de, c.vs[i].lv.set m.se.toNat m.lf⟩) : Int) = _
        by_cases e : tn = c.vs[i].tn
        · subst e; rw [if_pos rfl] at h4 ⊢; show _ = r.us + 1; omega
        · rw [if_neg (fun e' => e e'.symm)] at h4; rw [if_neg e]; omega
    · rename_i h2
      have ho : fullB c.vs[i].lv[m.se.toNat] = true := decide_eq_true h2
      intro tn
      show (cntV tn (c.setL m m.lf).vs : Int) = usQ tn (c.setL m m.lf).qs
      rw [setL_at h1 hi]
      have h4 := cnt_leaf (c := c) (tn := tn) (s := m.lf) hi hk
      have h5 := h tn
      simp only [ho, hn] at h4
      show (cntV tn (c.vs.set i ⟨c.vs[i].vo, c.vs[i].tn, c.vs[i].ep, c.vs[i].de, c.vs[i].lv.set m.se.toNat m.lf⟩) : Int) = usQ tn c.qs
      omega
theorem trimR_cnt {i : Nat} (hg : c.good) (h : Cnt c) (h1 : atP m.vo c.vs = i) (hi : i < c.vs.length) (hk : m.se.toNat < c.vs[i].lv.length) : Cnt (trimR c m).c := by
  unfold trimR
  rw [old_at h1 hi hk, at_eq h1 hi]
  split
  · exact h
  · rename_i h2
    have ho : fullB c.vs[i].lv[m.se.toNat] = true := decide_eq_true h2
    have hp := cnt_pos hi hk ho
    have e : fullB ⟨#[]⟩ = false := by decide
    have h6 := h c.vs[i].tn
    cases hr : getQ c.vs[i].tn c.qs with
    | none => unfold usQ at h6; rw [hr] at h6; simp only at h6; omega
    | some r =>
      have h7 : usQ c.vs[i].tn c.qs = r.us := by unfold usQ; rw [hr]
      have hgv : giveQ c.qs c.vs[i].tn 1 = (modQ c.vs[i].tn (fun r => { r with us := r.us - min 1 r.us }) c.qs, 0) := by unfold giveQ; rw [hr]
      rw [hgv, if_pos rfl]
      intro tn
      show (cntV tn (c.setL m ⟨#[]⟩).vs : Int) = usQ tn (modQ c.vs[i].tn (fun r => { r with us := r.us - min 1 r.us }) c.qs)
      rw [setL_at h1 hi, usQ_mod (f := fun r => { r with us := r.us - min 1 r.us }) (fun x => rfl) hr]
      have h4 := cnt_leaf (c := c) (tn := tn) (s := ⟨#[]⟩) hi hk
      have h5 := h tn
      simp only [ho, e, Bool.false_eq_true, and_false, if_false, and_true, Nat.add_zero] at h4
      show (cntV tn (c.vs.set i ⟨c.vs[i].vo, c.vs[i].tn, c.vs[i].ep, c.vs[i].de, c.vs[i].lv.set m.se.toNat ⟨#[]⟩⟩) : Int) = _
      by_cases e : tn = c.vs[i].tn
      · subst e; rw [if_pos rfl] at h4 ⊢; show _ = r.us - min 1 r.us; omega
      · rw [if_neg (fun e' => e e'.symm)] at h4; rw [if_neg e]; omega
theorem leafR_cnt {f : Ck → Cm → Rs} (hg : c.good) (h : Cnt c) (hm : U64 m.se) (hf : ∀ i, atP m.vo c.vs = (i : Nat) → ∀ hi : i < c.vs.length, m.se.toNat < c.vs[i].lv.length → Cnt (f c m).c) : Cnt (leafR S key c m want f).1.c := by
  by_cases he : (leafE S key c m want).1 = 0
  · rw [leafR_ok he]
    obtain ⟨i, hi, h1, _, _, h4, _⟩ := leaf_at hg he
    exact hf i h1 hi (by omega)
  · rw [leafR_err he]; exact h
theorem runR_cnt (hg : c.good) (hm : m.fit) (h : Cnt c) : Cnt (runR S key c m).1.c := by
  unfold runR
  split
  · exact makeR_cnt h
  · split
    · exact epochR_cnt hg h
    · split
      · exact limitR_cnt h
      · split
        · exact leafR_cnt hg h hm.se fun i h1 hi hk => putR_cnt hg h h1 hi hk
        · split
          · exact leafR_cnt hg h hm.se fun i h1 hi hk => h
          · split
            · exact leafR_cnt hg h hm.se fun i h1 hi hk => trimR_cnt hg h h1 hi hk
            · exact h
theorem applyR_cnt (hg : c.good) (hc : cmd.size ≤ 1099511627776) (h : Cnt c) : Cnt (applyR S key c id nr cmd).1.c := by
  unfold applyR
  split
  · exact h
  · split
    · exact h
    · split
      · exact runR_cnt hg (unpC_fit hc) h
      · exact h
theorem afterS_cnt : ∀ {l : List Stp} {c : Ck} {S : Rf}, Cnt c → c.good → (∀ y ∈ l, y.fit) → Cnt (afterS S key c l).1
  | [], _, _, h, _, _ => h
  | y :: l, c, S, h, hg, hl => afterS_cnt (l := l) (c := (stepS key (c, S) y).1) (S := (stepS key (c, S) y).2) (applyR_cnt hg (hl y (by simp)).bytes h) (stepS_good (p := (c, S)) hg (hl y (by simp))) fun z hz => hl z (by simp [hz])
end Go.Proofs.Ytfkgdlfponfimaa.X

/- Layer 13: ChunkCounts. -/
set_option linter.unusedVariables false
set_option linter.unusedSimpArgs false
set_option maxRecDepth 100000
set_option maxHeartbeats 4000000
namespace Go.Proofs.Ytfkgdlfponfimaa.X
open Go Go.RowKit WM
theorem EN47_CK23 {c : Cfg} {ν : Nm} {e : Env} {H : Heap} {all : Array Oper} {r : List Oper} {i : Nat} {Q : Env → Heap → Prop} {x0 x1 x2 x3 x4 x5 x6 x7 x8 x9 x10 x11 x12 x13 x14 x15 x16 x17 x18 x19 x20 x21 x22 x23 x24 x25 x26 x27 x28 x29 x30 x31 x32 x33 x34 x35 x36 x37 x38 x39 x40 x41 x42 x43 x44 x45 x46 : AVal} (he : e = [x0,x1,x2,x3,x4,x5,x6,x7,x8,x9,x10,x11,x12,x13,x14,x15,x16,x17,x18,x19,x20,x21,x22,x23,x24,x25,x26,x27,x28,x29,x30,x31,x32,x33,x34,x35,x36,x37,x38,x39,x40,x41,x42,x43,x44,x45,x46]) (h : OW c ν all r i [x0,x1,x2,x3,x4,x5,x6,x7,x8,x9,x10,x11,x12,x13,x14,x15,x16,x17,x18,x19,x20,x21,x22,x23,x24,x25,x26,x27,x28,x29,x30,x31,x32,x33,x34,x35,x36,x37,x38,x39,x40,x41,x42,x43,x44,x45,x46] H Q) : OW c ν all r i e H Q := by subst he; exact h
theorem EN95_CK23 {c : Cfg} {ν : Nm} {e : Env} {H : Heap} {all : Array Oper} {r : List Oper} {i : Nat} {Q : Env → Heap → Prop} {x0 x1 x2 x3 x4 x5 x6 x7 x8 x9 x10 x11 x12 x13 x14 x15 x16 x17 x18 x19 x20 x21 x22 x23 x24 x25 x26 x27 x28 x29 x30 x31 x32 x33 x34 x35 x36 x37 x38 x39 x40 x41 x42 x43 x44 x45 x46 x47 x48 x49 x50 x51 x52 x53 x54 x55 x56 x57 x58 x59 x60 x61 x62 x63 x64 x65 x66 x67 x68 x69 x70 x71 x72 x73 x74 x75 x76 x77 x78 x79 x80 x81 x82 x83 x84 x85 x86 x87 x88 x89 x90 x91 x92 x93 x94 : AVal} (he : e = [x0,x1,x2,x3,x4,x5,x6,x7,x8,x9,x10,x11,x12,x13,x14,x15,x16,x17,x18,x19,x20,x21,x22,x23,x24,x25,x26,x27,x28,x29,x30,x31,x32,x33,x34,x35,x36,x37,x38,x39,x40,x41,x42,x43,x44,x45,x46,x47,x48,x49,x50,x51,x52,x53,x54,x55,x56,x57,x58,x59,x60,x61,x62,x63,x64,x65,x66,x67,x68,x69,x70,x71,x72,x73,x74,x75,x76,x77,x78,x79,x80,x81,x82,x83,x84,x85,x86,x87,x88,x89,x90,x91,x92,x93,x94]) (h : OW c ν all r i [x0,x1,x2,x3,x4,x5,x6,x7,x8,x9,x10,x11,x12,x13,x14,x15,x16,x17,x18,x19,x20,x21,x22,x23,x24,x25,x26,x27,x28,x29,x30,x31,x32,x33,x34,x35,x36,x37,x38,x39,x40,x41,x42,x43,x44,x45,x46,x47,x48,x49,x50,x51,x52,x53,x54,x55,x56,x57,x58,x59,x60,x61,x62,x63,x64,x65,x66,x67,x68,x69,x70,x71,x72,x73,x74,x75,x76,x77,x78,x79,x80,x81,x82,x83,x84,x85,x86,x87,x88,x89,x90,x91,x92,x93,x94] H Q) : OW c ν all r i e H Q := by subst he; exact h
theorem EZ39_CK23 {c : Cfg} {ν : Nm} {e : Env} {H : Heap} {all : Array Oper} {i : Nat} {Q : Env → Heap → Prop} {x0 x1 x2 x3 x4 x5 x6 x7 x8 x9 x10 x11 x12 x13 x14 x15 x16 x17 x18 x19 x20 x21 x22 x23 x24 x25 x26 x27 x28 x29 x30 x31 x32 x33 x34 x35 x36 x37 x38 : AVal} (he : e = [x0,x1,x2,x3,x4,x5,x6,x7,x8,x9,x10,x11,x12,x13,x14,x15,x16,x17,x18,x19,x20,x21,x22,x23,x24,x25,x26,x27,x28,x29,x30,x31,x32,x33,x34,x35,x36,x37,x38]) (h : Q [x0,x1,x2,x3,x4,x5,x6,x7,x8,x9,x10,x11,x12,x13,x14,x15,x16,x17,x18,x19,x20,x21,x22,x23,x24,x25,x26,x27,x28,x29,x30,x31,x32,x33,x34,x35,x36,x37,x38] H) : OW c ν all [] i e H Q := by subst he; exact OW_nil h
theorem EZ47_CK23 {c : Cfg} {ν : Nm} {e : Env} {H : Heap} {all : Array Oper} {i : Nat} {Q : Env → Heap → Prop} {x0 x1 x2 x3 x4 x5 x6 x7 x8 x9 x10 x11 x12 x13 x14 x15 x16 x17 x18 x19 x20 x21 x22 x23 x24 x25 x26 x27 x28 x29 x30 x31 x32 x33 x34 x35 x36 x37 x38 x39 x40 x41 x42 x43 x44 x45 x46 : AVal} (he : e = [x0,x1,x2,x3,x4,x5,x6,x7,x8,x9,x10,x11,x12,x13,x14,x15,x16,x17,x18,x19,x20,x21,x22,x23,x24,x25,x26,x27,x28,x29,x30,x31,x32,x33,x34,x35,x36,x37,x38,x39,x40,x41,x42,x43,x44,x45,x46]) (h : Q [x0,x1,x2,x3,x4,x5,x6,x7,x8,x9,x10,x11,x12,x13,x14,x15,x16,x17,x18,x19,x20,x21,x22,x23,x24,x25,x26,x27,x28,x29,x30,x31,x32,x33,x34,x35,x36,x37,x38,x39,x40,x41,x42,x43,x44,x45,x46] H) : OW c ν all [] i e H Q := by subst he; exact OW_nil h
theorem EZ95_CK23 {c : Cfg} {ν : Nm} {e : Env} {H : Heap} {all : Array Oper} {i : Nat} {Q : Env → Heap → Prop} {x0 x1 x2 x3 x4 x5 x6 x7 x8 x9 x10 x11 x12 x13 x14 x15 x16 x17 x18 x19 x20 x21 x22 x23 x24 x25 x26 x27 x28 x29 x30 x31 x32 x33 x34 x35 x36 x37 x38 x39 x40 x41 x42 x43 x44 x45 x46 x47 x48 x49 x50 x51 x52 x53 x54 x55 x56 x57 x58 x59 x60 x61 x62 x63 x64 x65 x66 x67 x68 x69 x70 x71 x72 x73 x74 x75 x76 x77 x78 x79 x80 x81 x82 x83 x84 x85 x86 x87 x88 x89 x90 x91 x92 x93 x94 : AVal} (he : e = [x0,x1,x2,x3,x4,x5,x6,x7,x8,x9,x10,x11,x12,x13,x14,x15,x16,x17,x18,x19,x20,x21,x22,x23,x24,x25,x26,x27,x28,x29,x30,x31,x32,x33,x34,x35,x36,x37,x38,x39,x40,x41,x42,x43,x44,x45,x46,x47,x48,x49,x50,x51,x52,x53,x54,x55,x56,x57,x58,x59,x60,x61,x62,x63,x64,x65,x66,x67,x68,x69,x70,x71,x72,x73,x74,x75,x76,x77,x78,x79,x80,x81,x82,x83,x84,x85,x86,x87,x88,x89,x90,x91,x92,x93,x94]) (h : Q [x0,x1,x2,x3,x4,x5,x6,x7,x8,x9,x10,x11,x12,x13,x14,x15,x16,x17,x18,x19,x20,x21,x22,x23,x24,x25,x26,x27,x28,x29,x30,x31,x32,x33,x34,x35,x36,x37,x38,x39,x40,x41,x42,x43,x44,x45,x46,x47,x48,x49,x50,x51,x52,x53,x54,x55,x56,x57,x58,x59,x60,x61,x62,x63,x64,x65,x66,x67,x68,x69,x70,x71,x72,x73,x74,x75,x76,x77,x78,x79,x80,x81,x82,x83,x84,x85,x86,x87,x88,x89,x90,x91,x92,x93,x94] H) : OW c ν all [] i e H Q := by subst he; exact OW_nil h
variable {ν β ps pos pos' : Nm} {H H1 : Heap} {Q : AVal → Heap → Prop} {L : List Asr} {k : Nat} {S : Rf} {c : Ck} {q qo : Nm} {key : Int}
theorem copy_cO {c : Ck} {V0 S0 T0 : AVal} (hV0 : Ls V0 (c.vs.map Vo.enc)) (hS0' : Ls S0 (c.ss.map SE.Se.enc)) (hS : Own β ps H L) (hL : L[k]? = some (sl T0 3 (c.qs.map Qu.enc))) (hle : le ps ν) (hβ : under β ν = true) (hp : before ν pos') (hm : c.sm)
    (hq : ∀ H1, Own β pos' H1 L → Q c.enc H1) : CW cfg ν 32 [.agg [V0, S0, T0]] H Q := by
  obtain ⟨hm1, hm2, hm3, hm4⟩ := hm
  replace hS := hS.pick hL
  refine CW_cast g32 F32 rfl ?_
  replace hS := Own.mono hS hle
  refine XW_sr ?_
  refine OW_boxR hS (le_app (p := ν) (b := [0, 0])) (under_app [0, 0] hβ) rfl rfl rfl ⟨rfl, rfl⟩ fun H1 hS1 => ?_
  replace hS1 : Own _ _ _ (_ :: _ :: L.eraseIdx k) := hS1
  refine OW_allocR hS1 le_refl (under_app [1, 0] hβ) rfl rfl rfl rfl fun H2 hS2 => ?_
  replace hS2 : Own _ _ _ (_ :: _ :: _ :: L.eraseIdx k) := hS2
  refine EZ39_CK23 rfl ?_
  refine XW_srF (qs := [0 :: 0 :: ν]) rfl rfl ?_
  have hSF1 : Own _ _ _ (_ :: _ :: _ :: L.eraseIdx k) := (Own.hide (Own.hide0 hS2) (k := 1) rfl)
  refine OWF_op rfl ?_
  refine OW_bs rfl rfl rfl ?_
  refine OW_nil ?_
  refine OWF_op rfl ?_
  refine OW_fa rfl rfl rfl ?_
  refine OW_nil ?_
  refine OWF_fl rfl ?_
  refine OW_loadK hS2 (k := 1) rfl (by simp) rfl rfl rfl rfl (by first | exact part_whole rfl rfl rfl | rfl) ?_
  refine OW_nil ?_
  refine OWF_env (e' := [_,_,_,_,_,_,_,_,_,_,_,_,_,_,_,_,_,_,_,_,_,_,_,_,_,_,_,_,_,_,_,_,_,_,_,_,_,_,_]) rfl ?_
  refine OWF_op rfl ?_
  refine OW_appE hSF1 (le_lit (ν := ν) (a := [2, 0]) (b := [3, 0, 1]) (by decide)) (under_app [3, 0, 1] hβ) rfl rfl rfl rfl rfl rfl rfl rfl (by first | rfl | exact Ls.elems (by assumption)) (by first | exact one_wide rfl | exact map_wide (fun _ => rfl) | assumption | (intro y hy; simp at hy; done)) (by first | omega | (simp only [ss]; omega) | (simp; omega)) (by decide) fun O1 H3 hS3 => ?_
  replace hS3 : Own _ _ _ (_ :: _ :: _ :: _ :: L.eraseIdx k) := hS3
  refine OW_nil ?_
  refine OWF_op rfl ?_
  refine OW_bs rfl rfl rfl ?_
  refine OW_nil ?_
  refine OWF_op rfl ?_
  refine OW_fa rfl rfl rfl ?_
  refine OW_nil ?_
  refine OWF_env (e' := [_,_,_,_,_,_,_,_,_,_,_,_,_,_,_,_,_,_,_,_,_,_,_,_,_,_,_,_,_,_,_,_,_,_,_,_,_,_,_]) rfl ?_
  refine OWF_fl rfl ?_
  refine OW_loadK hS2 (k := 1) rfl (by simp) rfl rfl rfl rfl (by first | exact part_whole rfl rfl rfl | rfl) ?_
  refine OW_nil ?_
  refine OWF_op rfl ?_
  refine OW_appE hS3 (le_lit (ν := ν) (a := [4, 0, 1]) (b := [7, 0, 1]) (by decide)) (under_app [7, 0, 1] hβ) rfl rfl rfl rfl rfl rfl rfl rfl (by first | rfl | exact Ls.elems (by assumption) | exact hS3.elems (k := 3) rfl) (by first | exact one_wide rfl | exact map_wide (fun _ => rfl) | assumption | (intro y hy; simp at hy; done)) (by first | omega | (simp only [ss]; omega) | (simp; omega)) (by decide) fun O2 H4 hS4 => ?_
  replace hS4 : Own _ _ _ (_ :: _ :: _ :: _ :: _ :: L.eraseIdx k) := hS4
  refine OW_nil ?_
  refine OWF_op rfl ?_
  refine OW_bdP rfl (pcons rfl (hS4.one (k := 1) rfl).1 (pcons rfl (hS4.one (k := 0) rfl).1 rfl)) rfl rfl rfl (cs := [_, _, _]) (fill1 rfl (hS4.one (k := 1) rfl).2 rfl (Nat.le_of_ble_eq_true rfl) rfl (fill1 rfl (hS4.one (k := 0) rfl).2 rfl (Nat.le_of_ble_eq_true rfl) rfl rfl)) ?_
  refine OW_nil ?_
  refine OWF_env (e' := [_,_,_,_,_,_,_,_,_,_,_,_,_,_,_,_,_,_,_,_,_,_,_,_,_,_,_,_,_,_,_,_,_,_,_,_,_,_,_]) rfl ?_
  refine OWF_op rfl ?_
  refine OW_allocR hS4 (le_lit (ν := ν) (a := [8, 0, 1]) (b := [9, 0, 1]) (by decide)) (under_app [9, 0, 1] hβ) rfl rfl rfl rfl fun H5 hS5 => ?_
  replace hS5 : Own _ _ _ (_ :: _ :: _ :: _ :: _ :: _ :: L.eraseIdx k) := hS5
  refine OW_nil ?_
  refine OWF_op rfl ?_
  first
  | refine OW_storeR hS5 (k := 0) rfl le_refl rfl rfl rfl rfl ⟨rfl, rfl, Nat.le_of_ble_eq_true rfl⟩ (set_whole rfl rfl) fun H6 hS6 => ?_
  | refine OW_storeR hS5 (k := 0) rfl le_refl rfl rfl rfl rfl ⟨rfl, rfl, Nat.le_of_ble_eq_true rfl⟩ (u2 := .agg [_, _, _]) rfl fun H6 hS6 => ?_
  replace hS6 : Own _ _ _ (_ :: _ :: _ :: _ :: _ :: _ :: L.eraseIdx k) := hS6
  refine OW_nil ?_
  refine OWF_nilE (e' := [_,_,_,_,_,_,_,_,_,_,_,_,_,_,_,_,_,_,_,_,_,_,_,_,_,_,_,_,_,_,_,_,_,_,_,_,_,_,_]) rfl ?_
  have hSB1 : Own _ _ _ (_ :: _ :: _ :: _ :: _ :: _ :: L.eraseIdx k) := (Own.back hS2 (k := 1) rfl (Own.back0 hS6) (k' := 4) rfl)
  refine XW_seq ?_
  refine XW_sr ?_
  refine OW_as rfl rfl ?_
  refine EZ39_CK23 rfl ?_
  refine XW_block ?_
  refine XW_whileN (I := fun ν' mm ee H' => ∃ (i : Nat) (V : AVal) (Us : (List AVal)), mm = c.vs.length - i ∧ under (1 :: 0 :: 1 :: 1 :: ν) ν' = true ∧ Own β ν' H' (row (9 :: 0 :: 1 :: ν) 3 [.agg [V, O1, O2]] :: sl V 5 (rowsOf Us (c.vs.take i)) :: lvA Us (c.vs.take i) :: sl O2 3 (c.qs.map Qu.enc) :: sl O1 3 (c.ss.map SE.Se.enc) :: row (1 :: 0 :: ν) 3 [.agg [.emp, .emp, .emp]] :: row (0 :: 0 :: ν) 3 [.agg [V0, S0, T0]] :: sl T0 3 (c.qs.map Qu.enc) :: L.eraseIdx k) ∧ (i ≤ c.vs.length ∧ Us.length = (c.vs.take i).length) ∧ ∃ g : Nat → AVal, ee = [g 0, .ptr (0 :: 0 :: ν) 0 0, .ptr (1 :: 0 :: ν) 0 0, .ptr (9 :: 0 :: 1 :: ν) 0 0, .int .i64 i, g 5, g 6, g 7, g 8, g 9, g 10, g 11, g 12, g 13, g 14, g 15, g 16, g 17, g 18, g 19, g 20, g 21, g 22, g 23, g 24, g 25, g 26, g 27, g 28, g 29, g 30, g 31, g 32, g 33, g 34, g 35, g 36, g 37, g 38]) ?_ _ _ _ _ ⟨0, .emp, [], rfl, under_me, Own.cast (Own.mono (Own.rot (A := [_]) (Own.addE (Own.rot (A := [_]) (Own.lv_nil hSB1)))) (le_lit (ν := ν) (a := [11, 0, 1]) (b := [1, 0, 1, 1]) (by decide))) (rfl), (⟨by omega, rfl⟩), env_g rfl⟩
  rintro ν1 mm ee H7 ⟨i, V, Us, rfl, hU1, hS7, ⟨hi, hu⟩, g1, rfl⟩
  refine XW_seq ?_
  refine XW_sr ?_
  refine OW_mv rfl rfl ?_
  refine OW_fa rfl rfl rfl ?_
  refine OW_loadR hS7 (k := 6) rfl rfl rfl rfl rfl (by first | exact part_whole rfl rfl rfl | rfl) ?_
  refine OW_env (e' := [_,_,_,_,_,_,_,_,_,_,_,_,_,_,_,_,_,_,_,_,_,_,_,_,_,_,_,_,_,_,_,_,_,_,_,_,_,_,_]) rfl ?_
  first
  | refine OW_lenL rfl rfl (by first | assumption | exact Ls.of | exact Ls.emp | exact Ls.nls) rfl rfl rfl (by first | exact List.length_map _ | rfl) ?_
  | refine OW_bi rfl rfl rfl ?_
  | refine OW_lenO hS7 (k := 1) rfl rfl rfl rfl rfl rfl (by first | exact List.length_map _ | exact len_app1 | exact len_drop | (simp only [ss]; rfl) | rfl) ?_
  | refine OW_lenO hS7 (k := 3) rfl rfl rfl rfl rfl rfl (by first | exact List.length_map _ | exact len_app1 | exact len_drop | (simp only [ss]; rfl) | rfl) ?_
  | refine OW_lenO hS7 (k := 4) rfl rfl rfl rfl rfl rfl (by first | exact List.length_map _ | exact len_app1 | exact len_drop | (simp only [ss]; rfl) | rfl) ?_
  | refine OW_lenO hS7 (k := 7) rfl rfl rfl rfl rfl rfl (by first | exact List.length_map _ | exact len_app1 | exact len_drop | (simp only [ss]; rfl) | rfl) ?_
  refine OW_bin rfl rfl rfl rfl rfl ?_
  refine EZ39_CK23 rfl ?_
  refine XW_if rfl (fun h3 => ?_) (fun h3 => ?_)
  ·try simp only [bs] at h3
   refine XW_skip ?_
   refine then_norm ?_
   refine XW_seq ?_
   refine XW_block ?_
   refine XW_sr ?_
   refine OW_fa rfl rfl rfl ?_
   refine OW_loadR hS7 (k := 6) rfl rfl rfl rfl rfl (by first | exact part_whole rfl rfl rfl | rfl) ?_
   refine OW_mv rfl rfl ?_
   refine OW_env (e' := [_,_,_,_,_,_,_,_,_,_,_,_,_,_,_,_,_,_,_,_,_,_,_,_,_,_,_,_,_,_,_,_,_,_,_,_,_,_,_]) rfl ?_
   first
   | refine OW_iaL rfl rfl rfl Ls.of rfl rfl rfl (by first | rfl | exact (Int.toNat_of_nonneg (by omega)).symm) (by first | assumption | exact at_map (by first | assumption | omega) | exact at_lst (by omega) | rfl) rfl ?_
   | refine OW_iaL rfl rfl rfl (by assumption) rfl rfl rfl (by first | rfl | exact (Int.toNat_of_nonneg (by omega)).symm) (by first | assumption | exact at_map (by first | assumption | omega) | exact at_lst (by omega) | rfl) rfl ?_
   refine OW_loadE rfl rfl rfl (by first | exact part_whole rfl rfl rfl | rfl) ?_
   refine OW_allocR hS7 (le_app (p := ν1) (b := [5, 0, 0, 1, 0])) (under_app [5, 0, 0, 1, 0] (under_trans (under_app [1, 0, 1, 1] hβ) hU1)) rfl rfl rfl rfl fun H8 hS8 => ?_
   replace hS8 : Own _ _ _ (_ :: _ :: _ :: _ :: _ :: _ :: _ :: _ :: _ :: L.eraseIdx k) := hS8
   refine OW_env (e' := [_,_,_,_,_,_,_,_,_,_,_,_,_,_,_,_,_,_,_,_,_,_,_,_,_,_,_,_,_,_,_,_,_,_,_,_,_,_,_]) rfl ?_
   first
   | refine OW_storeR hS8 (k := 0) rfl le_refl rfl rfl rfl rfl ⟨rfl, rfl, Nat.le_of_ble_eq_true rfl⟩ (set_whole rfl rfl) fun H9 hS9 => ?_
   | refine OW_storeR hS8 (k := 0) rfl le_refl rfl rfl rfl rfl ⟨rfl, rfl, Nat.le_of_ble_eq_true rfl⟩ (u2 := .agg [_, _, _, _, _]) rfl fun H9 hS9 => ?_
   replace hS9 : Own _ _ _ (_ :: _ :: _ :: _ :: _ :: _ :: _ :: _ :: _ :: L.eraseIdx k) := hS9
   refine EZ39_CK23 rfl ?_
   refine XW_sr ?_
   have hll := hm4 c.vs[i] (List.getElem_mem (by omega))
   refine OW_bs rfl rfl rfl ?_
   refine OW_fa rfl rfl rfl ?_
   refine OW_loadR hS9 (k := 0) rfl rfl rfl rfl rfl (by first | exact part_whole rfl rfl rfl | rfl) ?_
   refine OW_env (e' := [_,_,_,_,_,_,_,_,_,_,_,_,_,_,_,_,_,_,_,_,_,_,_,_,_,_,_,_,_,_,_,_,_,_,_,_,_,_,_]) rfl ?_
   refine OW_appE hS9 (le_lit (ν := ν1) (a := [7, 0, 0, 1, 0]) (b := [3, 0, 1, 0, 1, 0]) (by decide)) (under_app [3, 0, 1, 0, 1, 0] (under_trans (under_app [1, 0, 1, 1] hβ) hU1)) rfl rfl rfl rfl rfl rfl rfl rfl (by first | rfl | exact Ls.elems (by assumption)) (by first | exact one_wide rfl | exact map_wide (fun _ => rfl) | assumption | (intro y hy; simp at hy; done)) (by first | omega | (simp only [ss]; omega) | (simp; omega)) (by decide) fun O3 H10 hS10 => ?_
   replace hS10 : Own _ _ _ (_ :: _ :: _ :: _ :: _ :: _ :: _ :: _ :: _ :: _ :: L.eraseIdx k) := hS10
   refine OW_fa rfl rfl rfl ?_
   refine OW_storeC hS10 (k := 1) rfl (le_lit (ν := ν1) (a := [4, 0, 1, 0, 1, 0]) (b := [5, 0, 1, 0, 1, 0]) (by decide)) rfl rfl rfl (hS10.one (k := 0) rfl) rfl rfl (Nat.le_of_ble_eq_true rfl) (u2 := .agg [_, _, _, _, _]) rfl fun H11 hS11 => ?_
   replace hS11 : Own _ _ _ (_ :: _ :: _ :: _ :: _ :: _ :: _ :: _ :: _ :: _ :: L.eraseIdx k) := hS11
   refine EZ39_CK23 rfl ?_
   refine XW_region ?_
   have hrl : (rowsOf Us (c.vs.take i)).length ≤ 1048577 := by have := rows_len Us (c.vs.take i); rw [List.length_take] at this; omega
   refine OW_fa rfl rfl rfl ?_
   refine OW_loadR hS11 (k := 2) rfl rfl rfl rfl rfl (by first | exact part_whole rfl rfl rfl | rfl) ?_
   refine OW_loadR hS11 (k := 1) rfl rfl rfl rfl rfl (by first | exact part_whole rfl rfl rfl | rfl) ?_
   refine OW_env (e' := [_,_,_,_,_,_,_,_,_,_,_,_,_,_,_,_,_,_,_,_,_,_,_,_,_,_,_,_,_,_,_,_,_,_,_,_,_,_,_]) rfl ?_
   refine OW_bs rfl rfl (v := .lst [_]) rfl ?_
   refine OW_app hS11 (k := 3) rfl (le_lit (ν := ν1) (a := [6, 0, 1, 0, 1, 0]) (b := [4, 1, 1, 0, 1, 0]) (by decide)) (under_app [4, 1, 1, 0, 1, 0] (under_trans (under_app [1, 0, 1, 1] hβ) hU1)) rfl rfl rfl rfl rfl rfl rfl rfl (by first | rfl | exact Ls.elems (by assumption)) (by first | exact one_wide rfl | exact map_wide (fun _ => rfl) | assumption | (intro y hy; simp at hy; done)) (by first | omega | (simp only [ss]; omega) | (simp; omega)) (by decide) fun O4 H12 hS12 => ?_
   replace hS12 : Own _ _ _ (_ :: _ :: _ :: _ :: _ :: _ :: _ :: _ :: _ :: _ :: L.eraseIdx k) := hS12
   refine OW_fa rfl rfl rfl ?_
   refine OW_env (e' := [_,_,_,_,_,_,_,_,_,_,_,_,_,_,_,_,_,_,_,_,_,_,_,_,_,_,_,_,_,_,_,_,_,_,_,_,_,_,_]) rfl ?_
   refine OW_storeC hS12 (k := 2) rfl (le_lit (ν := ν1) (a := [5, 1, 1, 0, 1, 0]) (b := [6, 1, 1, 0, 1, 0]) (by decide)) rfl rfl rfl (hS12.one (k := 3) rfl) rfl rfl (Nat.le_of_ble_eq_true rfl) (u2 := .agg [_, _, _]) rfl fun H13 hS13 => ?_
   replace hS13 : Own _ _ _ (_ :: _ :: _ :: _ :: _ :: _ :: _ :: _ :: _ :: _ :: L.eraseIdx k) := hS13
   refine EZ39_CK23 rfl ?_
   refine block_norm ?_
   refine then_norm ?_
   refine XW_region ?_
   replace hS13 := Own.rot (A := [_, _]) (Own.lv_snoc (x := c.vs[i]) (Own.rot (A := [_]) (Own.pick (Own.drop hS13 (k := 1) rfl) (k := 3) rfl)) hu)
   refine OW_mv rfl rfl ?_
   first
   | refine OW_bin rfl rfl rfl rfl (add_w64 (by first | omega | assumption | (simp only [ss]; omega))) ?_
   | refine OW_bin rfl rfl rfl rfl rfl ?_
   refine OW_as rfl rfl ?_
   refine EZ39_CK23 rfl ?_
   refine ⟨_, ?_, i + 1, O4, Us ++ [O3], rfl, under_in hU1, Own.cast (Own.mono (hS13) (le_lit (ν := ν1) (a := [7, 1, 1, 0, 1, 0]) (b := [1]) (by decide))) ((by rw [List.take_succ_eq_append_getElem (by omega), ← rows_snoc hu]; rfl)), ?_, env_g rfl⟩
   · first | omega | (simp; omega)
   · exact ⟨by omega, by rw [List.take_succ_eq_append_getElem (by omega), List.length_append, List.length_append, hu]; rfl⟩
  ·try simp only [bs] at h3
   refine XW_exit ?_
   refine then_exit ?_
   refine block_exit ?_
   refine then_norm ?_
   refine XW_sr ?_
   refine OW_loadR hS7 (k := 0) rfl rfl rfl rfl rfl (by first | exact part_whole rfl rfl rfl | rfl) ?_
   first
   | refine OW_storeR hS7 (k := 5) rfl (le_bef (bef_under (a := []) hU1 (before_lit (ν := ν) (a := [1, 0, 1, 1]) (b := [1, 0, 1, 1, 1]) (by decide)))) rfl rfl rfl rfl ⟨rfl, rfl, Nat.le_of_ble_eq_true rfl⟩ (set_whole rfl rfl) fun H14 hS14 => ?_
   | refine OW_storeR hS7 (k := 5) rfl (le_bef (bef_under (a := []) hU1 (before_lit (ν := ν) (a := [1, 0, 1, 1]) (b := [1, 0, 1, 1, 1]) (by decide)))) rfl rfl rfl rfl ⟨rfl, rfl, Nat.le_of_ble_eq_true rfl⟩ (u2 := .agg [_, _, _]) rfl fun H14 hS14 => ?_
   replace hS14 : Own _ _ _ (_ :: _ :: _ :: _ :: _ :: _ :: _ :: _ :: L.eraseIdx k) := hS14
   refine EZ39_CK23 rfl ?_
   refine XW_ret ?_
   refine ret_ret (res1 rfl (rv_cellR hS14 (k := 5) rfl rfl rfl rfl (by first | exact part_whole rfl rfl rfl | rfl))) ?_
   have hie : c.vs.take i = c.vs := List.take_of_length_le (by omega)
   rw [hie] at hu
   have hz := Own.drop (Own.drop (Own.drop0 (Own.mono hS14 (le_bef (bef_app (a := [2, 0, 1, 1, 1]) hp)))) (k := 4) rfl) (k := 4) rfl
   replace hz := Own.mk_vols (Us := Us) (vs := c.vs) (Own.cast hz (by rw [hie]; rfl)) hu
   replace hz : Own _ _ _ (stO V O1 O2 c :: sl T0 3 (c.qs.map Qu.enc) :: L.eraseIdx k) := Own.mk_all (L1 := [vols V c.vs, sl O1 3 (c.ss.map SE.Se.enc), sl O2 3 (c.qs.map Qu.enc)]) (Own.rot (A := [_]) (Own.pick hz (k := 2) rfl))
   obtain ⟨fz, hfz, _⟩ := hz.get (k := 0) rfl
   show Q (X.freeze [] _ 8 (.agg [V, O1, O2])) _; rw [st_freeze (n := 4) hfz]; exact hq _ (Own.cast (Own.unpick (Own.lose hz fun f hf => st_reach hf) hL) (set_get_self hL))
theorem after_cO {x : Py} {V0 S0 T0 : AVal} (hV0 : Ls V0 (x.c.vs.map Vo.enc)) (hS0' : Ls S0 (x.c.ss.map SE.Se.enc)) (hx : x.good) (hg : x.c.good) (hS : Own β ps H (sl T0 3 (x.c.qs.map Qu.enc) :: orc qo S.of :: L)) (hle : le ps ν) (hβ : under β ν = true) (hp : before ν pos')
    (hq : ∀ H1, Own β pos' H1 (orc qo (afterS S x.key x.c (x.l.take 60)).2.of :: L) → Q (afterS S x.key x.c (x.l.take 60)).1.enc H1) : CW cfg ν 11 [.ptr qo 0 0, .agg [V0, S0, T0, .lst (x.d.map (fun a : Int => AVal.int .u64 a)), .int .u64 x.key, .lst (x.iss.map Tk.enc), .lst (x.l.map Stp.enc)]] H Q := by
  have hll := hx.l
  refine CW_keep g11 F11 rfl ?_
  replace hS := Own.mono hS hle
  refine XW_sr ?_
  refine OW_boxR hS (le_app (p := ν) (b := [0, 0])) (under_app [0, 0] hβ) rfl rfl rfl ⟨rfl, rfl⟩ fun H1 hS1 => ?_
  replace hS1 : Own _ _ _ (_ :: _ :: _ :: L) := hS1
  refine OW_allocR hS1 le_refl (under_app [1, 0] hβ) rfl rfl rfl rfl fun H2 hS2 => ?_
  replace hS2 : Own _ _ _ (_ :: _ :: _ :: _ :: L) := hS2
  refine EZ47_CK23 rfl ?_
  refine XW_sr ?_
  refine OW_fa rfl rfl rfl ?_
  refine OW_loadR hS2 (k := 1) rfl rfl rfl rfl rfl (by first | exact part_whole rfl rfl rfl | rfl) ?_
  refine OW_fn rfl rfl (copy_cO hV0 hS0' hS2 (k := 2) rfl (le_lit (ν := ν) (a := [2, 0]) (b := [2, 0, 1]) (by decide)) (under_app [2, 0, 1] hβ) (before_lit (ν := ν) (a := [2, 0, 1]) (b := [3, 0, 1]) (by decide)) hg.sm fun H3 hS3 => ?_) 
  replace hS3 : Own _ _ _ (_ :: _ :: _ :: _ :: L) := hS3
  refine EN47_CK23 rfl ?_
  refine OW_allocR hS3 le_refl (under_app [3, 0, 1] hβ) rfl rfl rfl rfl fun H4 hS4 => ?_
  replace hS4 : Own _ _ _ (_ :: _ :: _ :: _ :: _ :: L) := hS4
  first
  | refine OW_storeR hS4 (k := 0) rfl le_refl rfl rfl rfl rfl ⟨rfl, rfl, Nat.le_of_ble_eq_true rfl⟩ (set_whole rfl rfl) fun H5 hS5 => ?_
  | refine OW_storeR hS4 (k := 0) rfl le_refl rfl rfl rfl rfl ⟨rfl, rfl, Nat.le_of_ble_eq_true rfl⟩ (u2 := .agg [_, _, _]) rfl fun H5 hS5 => ?_
  replace hS5 : Own _ _ _ (_ :: _ :: _ :: _ :: _ :: L) := hS5
  refine EZ47_CK23 rfl ?_
  refine XW_seq ?_
  refine XW_sr ?_
  refine OW_as rfl rfl ?_
  refine EZ47_CK23 rfl ?_
  refine XW_block ?_
  refine XW_whileN (I := fun ν' mm ee H' => ∃ (i : Nat), mm = x.l.length - i ∧ under (1 :: 0 :: 1 :: 1 :: ν) ν' = true ∧ Own β ν' H' (row (3 :: 0 :: 1 :: ν) 3 [(afterS S x.key x.c (x.l.take i)).1.enc] :: row (1 :: 0 :: ν) 3 [.agg [.emp, .emp, .emp]] :: row (0 :: 0 :: ν) 7 [.agg [V0, S0, T0, .lst (x.d.map (fun a : Int => AVal.int .u64 a)), .int .u64 x.key, .lst (x.iss.map Tk.enc), .lst (x.l.map Stp.enc)]] :: sl T0 3 (x.c.qs.map Qu.enc) :: orc qo (afterS S x.key x.c (x.l.take i)).2.of :: L) ∧ (i ≤ x.l.length ∧ i ≤ 60) ∧ ∃ g : Nat → AVal, ee = [.ptr qo 0 0, g 1, g 2, .ptr (0 :: 0 :: ν) 0 0, .ptr (1 :: 0 :: ν) 0 0, .ptr (3 :: 0 :: 1 :: ν) 0 0, .int .i64 i, g 7, g 8, g 9, g 10, g 11, g 12, g 13, g 14, g 15, g 16, g 17, g 18, g 19, g 20, g 21, g 22, g 23, g 24, g 25, g 26, g 27, g 28, g 29, g 30, g 31, g 32, g 33, g 34, g 35, g 36, g 37, g 38, g 39, g 40, g 41, g 42, g 43, g 44, g 45, g 46]) ?_ _ _ _ _ ⟨0, rfl, under_me, Own.cast (Own.mono (hS5) (le_lit (ν := ν) (a := [5, 0, 1]) (b := [1, 0, 1, 1]) (by decide))) (rfl), (⟨by omega, by omega⟩), env_g rfl⟩
  rintro ν1 mm ee H6 ⟨i, rfl, hU1, hS6, ⟨hi, hi2⟩, g1, rfl⟩
  have hgi := afterS_good (S := S) (key := x.key) (l := x.l.take i) hg fun y hy => hx.lfit y (List.mem_of_mem_take hy)
  refine XW_seq ?_
  refine XW_sr ?_
  refine OW_mv rfl rfl ?_
  refine OW_fa rfl rfl rfl ?_
  refine OW_loadR hS6 (k := 2) rfl rfl rfl rfl rfl (by first | exact part_whole rfl rfl rfl | rfl) ?_
  refine EN47_CK23 rfl ?_
  first
  | refine OW_lenL rfl rfl (by first | assumption | exact Ls.of | exact Ls.emp | exact Ls.nls) rfl rfl rfl (by first | exact List.length_map _ | rfl) ?_
  | refine OW_bi rfl rfl rfl ?_
  | refine OW_lenO hS6 (k := 3) rfl rfl rfl rfl rfl rfl (by first | exact List.length_map _ | exact len_app1 | exact len_drop | (simp only [ss]; rfl) | rfl) ?_
  refine OW_bin rfl rfl rfl rfl rfl ?_
  refine OW_mv rfl rfl ?_
  refine EN47_CK23 rfl ?_
  refine OW_split (tt := 19) rfl (fun g3_6 => ?_) (fun g3_6 => ?_)
  ·try simp only [bs] at g3_6
   refine OW_mv rfl rfl ?_
   refine OW_bin rfl rfl rfl rfl rfl ?_
   refine EN47_CK23 rfl ?_
   refine OW_pick rfl rfl rfl ?_
   refine EZ47_CK23 rfl ?_
   refine XW_if rfl (fun h3 => ?_) (fun h3 => ?_)
   ·try simp only [bs] at h3
    refine XW_skip ?_
    refine then_norm ?_
    refine XW_seq ?_
    refine XW_block ?_
    refine XW_sr ?_
    have hyf := hx.lfit x.l[i] (List.getElem_mem (by omega))
    refine OW_fa rfl rfl rfl ?_
    refine OW_loadR hS6 (k := 2) rfl rfl rfl rfl rfl (by first | exact part_whole rfl rfl rfl | rfl) ?_
    refine OW_mv rfl rfl ?_
    refine EN47_CK23 rfl ?_
    first
    | refine OW_iaL rfl rfl rfl Ls.of rfl rfl rfl (by first | rfl | exact (Int.toNat_of_nonneg (by omega)).symm) (by first | assumption | exact at_map (by first | assumption | omega) | exact at_lst (by omega) | rfl) rfl ?_
    | refine OW_iaL rfl rfl rfl (by assumption) rfl rfl rfl (by first | rfl | exact (Int.toNat_of_nonneg (by omega)).symm) (by first | assumption | exact at_map (by first | assumption | omega) | exact at_lst (by omega) | rfl) rfl ?_
    refine OW_loadE rfl rfl rfl (by first | exact part_whole rfl rfl rfl | rfl) ?_
    refine OW_allocR hS6 (le_app (p := ν1) (b := [5, 0, 0, 1, 0])) (under_app [5, 0, 0, 1, 0] (under_trans (under_app [1, 0, 1, 1] hβ) hU1)) rfl rfl rfl rfl fun H7 hS7 => ?_
    replace hS7 : Own _ _ _ (_ :: _ :: _ :: _ :: _ :: _ :: L) := hS7
    refine EN47_CK23 rfl ?_
    first
    | refine OW_storeR hS7 (k := 0) rfl le_refl rfl rfl rfl rfl ⟨rfl, rfl, Nat.le_of_ble_eq_true rfl⟩ (set_whole rfl rfl) fun H8 hS8 => ?_
    | refine OW_storeR hS7 (k := 0) rfl le_refl rfl rfl rfl rfl ⟨rfl, rfl, Nat.le_of_ble_eq_true rfl⟩ (u2 := .agg [_, _, _, _, _, _, _, _, _, _, _, _, _, _]) rfl fun H8 hS8 => ?_
    replace hS8 : Own _ _ _ (_ :: _ :: _ :: _ :: _ :: _ :: L) := hS8
    refine EZ47_CK23 rfl ?_
    refine XW_sr ?_
    refine OW_mv rfl rfl ?_
    refine OW_fa rfl rfl rfl ?_
    refine OW_loadR hS8 (k := 3) rfl rfl rfl rfl rfl (by first | exact part_whole rfl rfl rfl | rfl) ?_
    refine EN47_CK23 rfl ?_
    refine OW_loadR hS8 (k := 1) rfl rfl rfl rfl rfl (by first | exact part_whole rfl rfl rfl | rfl) ?_
    refine OW_fa rfl rfl rfl ?_
    refine OW_loadR hS8 (k := 0) rfl rfl rfl rfl rfl (by first | exact part_whole rfl rfl rfl | rfl) ?_
    refine EN47_CK23 rfl ?_
    refine OW_fa rfl rfl rfl ?_
    refine OW_loadR hS8 (k := 0) rfl rfl rfl rfl rfl (by first | exact part_whole rfl rfl rfl | rfl) ?_
    refine OW_loadR hS8 (k := 0) rfl rfl rfl rfl rfl (by first | exact part_whole rfl rfl rfl | rfl) ?_
    refine EN47_CK23 rfl ?_
    refine OW_fn rfl rfl (bytes_c hyf ?_) 
    refine OW_fn rfl rfl (apply_c hgi hyf.bytes Ls.of Ls.of Ls.of hS8 (k := 5) rfl (le_lit (ν := ν1) (a := [7, 0, 0, 1, 0]) (b := [10, 0, 1, 0, 1, 0]) (by decide)) (under_app [10, 0, 1, 0, 1, 0] (under_trans (under_app [1, 0, 1, 1] hβ) hU1)) (before_lit (ν := ν1) (a := [10, 0, 1, 0, 1, 0]) (b := [11, 0, 1, 0, 1, 0]) (by decide)) fun H9 hS9 => ?_) 
    replace hS9 : Own _ _ _ (_ :: _ :: _ :: _ :: _ :: _ :: L) := hS9
    refine OW_mv rfl rfl ?_
    refine EN47_CK23 rfl ?_
    refine OW_ex rfl rfl rfl ?_
    refine OW_ex rfl rfl rfl ?_
    refine OW_ex rfl rfl rfl ?_
    refine EN47_CK23 rfl ?_
    refine OW_allocR hS9 (le_lit (ν := ν1) (a := [11, 0, 1, 0, 1, 0]) (b := [15, 0, 1, 0, 1, 0]) (by decide)) (under_app [15, 0, 1, 0, 1, 0] (under_trans (under_app [1, 0, 1, 1] hβ) hU1)) rfl rfl rfl rfl fun H10 hS10 => ?_
    replace hS10 : Own _ _ _ (_ :: _ :: _ :: _ :: _ :: _ :: _ :: L) := hS10
    first
    | refine OW_storeR hS10 (k := 0) rfl le_refl rfl rfl rfl rfl ⟨rfl, rfl, Nat.le_of_ble_eq_true rfl⟩ (set_whole rfl rfl) fun H11 hS11 => ?_
    | refine OW_storeR hS10 (k := 0) rfl le_refl rfl rfl rfl rfl ⟨rfl, rfl, Nat.le_of_ble_eq_true rfl⟩ (u2 := .agg [_, _, _]) rfl fun H11 hS11 => ?_
    replace hS11 : Own _ _ _ (_ :: _ :: _ :: _ :: _ :: _ :: _ :: L) := hS11
    refine OW_as rfl rfl ?_
    refine EN47_CK23 rfl ?_
    refine OW_as rfl rfl ?_
    refine EZ47_CK23 rfl ?_
    refine XW_region ?_
    refine OW_loadR hS11 (k := 0) rfl rfl rfl rfl rfl (by first | exact part_whole rfl rfl rfl | rfl) ?_
    first
    | refine OW_storeR hS11 (k := 2) rfl (le_lit (ν := ν1) (a := [17, 0, 1, 0, 1, 0]) (b := [1, 1, 1, 0, 1, 0]) (by decide)) rfl rfl rfl rfl ⟨rfl, rfl, Nat.le_of_ble_eq_true rfl⟩ (set_whole rfl rfl) fun H12 hS12 => ?_
    | refine OW_storeR hS11 (k := 2) rfl (le_lit (ν := ν1) (a := [17, 0, 1, 0, 1, 0]) (b := [1, 1, 1, 0, 1, 0]) (by decide)) rfl rfl rfl rfl ⟨rfl, rfl, Nat.le_of_ble_eq_true rfl⟩ (u2 := .agg [_, _, _]) rfl fun H12 hS12 => ?_
    replace hS12 : Own _ _ _ (_ :: _ :: _ :: _ :: _ :: _ :: _ :: L) := hS12
    refine EZ47_CK23 rfl ?_
    refine block_norm ?_
    refine then_norm ?_
    refine XW_region ?_
    refine OW_mv rfl rfl ?_
    first
    | refine OW_bin rfl rfl rfl rfl (add_w64 (by first | omega | assumption | (simp only [ss]; omega))) ?_
    | refine OW_bin rfl rfl rfl rfl rfl ?_
    refine OW_as rfl rfl ?_
    refine EZ47_CK23 rfl ?_
    have hSd1 : Own _ _ _ (_ :: _ :: _ :: _ :: _ :: L) := (Own.drop (Own.drop hS12 (k := 0) rfl) (k := 0) rfl)
    refine ⟨_, ?_, i + 1, rfl, under_in hU1, Own.cast (Own.mono (hSd1) (le_lit (ν := ν1) (a := [2, 1, 1, 0, 1, 0]) (b := [1]) (by decide))) (by rw [afterS_step (by omega)]; rfl), ?_, env_g rfl⟩
    · first | omega | (simp; omega)
    · exact ⟨by omega, by omega⟩
   ·try simp only [bs] at h3
    refine XW_exit ?_
    refine then_exit ?_
    refine block_exit ?_
    refine then_norm ?_
    refine XW_sr ?_
    refine OW_loadR hS6 (k := 0) rfl rfl rfl rfl rfl (by first | exact part_whole rfl rfl rfl | rfl) ?_
    first
    | refine OW_storeR hS6 (k := 1) rfl (le_bef (bef_under (a := []) hU1 (before_lit (ν := ν) (a := [1, 0, 1, 1]) (b := [1, 0, 1, 1, 1]) (by decide)))) rfl rfl rfl rfl ⟨rfl, rfl, Nat.le_of_ble_eq_true rfl⟩ (set_whole rfl rfl) fun H13 hS13 => ?_
    | refine OW_storeR hS6 (k := 1) rfl (le_bef (bef_under (a := []) hU1 (before_lit (ν := ν) (a := [1, 0, 1, 1]) (b := [1, 0, 1, 1, 1]) (by decide)))) rfl rfl rfl rfl ⟨rfl, rfl, Nat.le_of_ble_eq_true rfl⟩ (u2 := .agg [_, _, _]) rfl fun H13 hS13 => ?_
    replace hS13 : Own _ _ _ (_ :: _ :: _ :: _ :: _ :: L) := hS13
    refine EZ47_CK23 rfl ?_
    refine XW_ret ?_
    refine ret_ret (res1 rfl (rv_cellR hS13 (k := 1) rfl rfl rfl rfl (by first | exact part_whole rfl rfl rfl | rfl))) ?_
    have he := afterS_stop (l := x.l) hi2 (by omega)
    have hz := Own.drop0 (Own.drop0 (Own.drop0 (Own.drop0 (Own.mono hS13 (le_bef (bef_app (a := [2, 0, 1, 1, 1]) hp))))))
    rw [he] at hz ⊢; exact hq _ hz
  ·try simp only [bs] at g3_6
   refine OW_no rfl ?_
   refine OW_no rfl ?_
   refine EN47_CK23 rfl ?_
   refine OW_pick rfl rfl rfl ?_
   refine EZ47_CK23 rfl ?_
   refine XW_no rfl rfl ?_
   refine XW_exit ?_
   refine then_exit ?_
   refine block_exit ?_
   refine then_norm ?_
   refine XW_sr ?_
   refine OW_loadR hS6 (k := 0) rfl rfl rfl rfl rfl (by first | exact part_whole rfl rfl rfl | rfl) ?_
   first
   | refine OW_storeR hS6 (k := 1) rfl (le_bef (bef_under (a := []) hU1 (before_lit (ν := ν) (a := [1, 0, 1, 1]) (b := [1, 0, 1, 1, 1]) (by decide)))) rfl rfl rfl rfl ⟨rfl, rfl, Nat.le_of_ble_eq_true rfl⟩ (set_whole rfl rfl) fun H14 hS14 => ?_
   | refine OW_storeR hS6 (k := 1) rfl (le_bef (bef_under (a := []) hU1 (before_lit (ν := ν) (a := [1, 0, 1, 1]) (b := [1, 0, 1, 1, 1]) (by decide)))) rfl rfl rfl rfl ⟨rfl, rfl, Nat.le_of_ble_eq_true rfl⟩ (u2 := .agg [_, _, _]) rfl fun H14 hS14 => ?_
   replace hS14 : Own _ _ _ (_ :: _ :: _ :: _ :: _ :: L) := hS14
   refine EZ47_CK23 rfl ?_
   refine XW_ret ?_
   refine ret_ret (res1 rfl (rv_cellR hS14 (k := 1) rfl rfl rfl rfl (by first | exact part_whole rfl rfl rfl | rfl))) ?_
   have he := afterS_stop (l := x.l) hi2 (by omega)
   have hz := Own.drop0 (Own.drop0 (Own.drop0 (Own.drop0 (Own.mono hS14 (le_bef (bef_app (a := [2, 0, 1, 1, 1]) hp))))))
   rw [he] at hz ⊢; exact hq _ hz
def ct1 (j : Nat) : Qu := ⟨(j : Int), 0, 5⟩
def cts (i : Nat) : List Qu := (List.range i).map ct1
theorem cts_succ (i : Nat) : cts (i + 1) = cts i ++ [ct1 i] := by simp [cts, List.range_succ]
def cntJ (tn : Int) (vs : List Vo) (v : Vo) (k j : Nat) : Nat := cntV tn (vs.take k) + (if v.tn = tn then (v.lv.take j).countP fullB else 0)
def ctc : Ck := ⟨[], [], cts 4⟩
theorem ctc_good : ctc.good := by
  refine ⟨by decide, fun x hx => by simp [ctc] at hx, by decide, by decide, fun x hx => by simp [ctc] at hx, by unfold chkQ; decide, ?_⟩
  intro x hx
  have : x ∈ cts 4 := hx
  simp only [cts, List.mem_map, List.mem_range] at this
  obtain ⟨j, hj, rfl⟩ := this
  exact ⟨⟨by show (0 : Int) ≤ j; omega, by show (j : Int) ≤ _; omega⟩, by show (0 : Int) ≤ 0 ∧ (0 : Int) ≤ _; decide, by show (0 : Int) ≤ 5 ∧ (5 : Int) ≤ _; decide⟩
theorem ctc_cnt : Cnt ctc := by
  intro tn
  show (0 : Int) = usQ tn (cts 4)
  unfold usQ
  cases h : getQ tn (cts 4) with
  | none => rfl
  | some r =>
    have h1 := (getQ_mem h).1
    simp only [cts, List.mem_map, List.mem_range] at h1
    obtain ⟨j, hj, rfl⟩ := h1
    rfl
theorem cnt_take {l : List ByteArray} {j : Nat} (h : j < l.length) : (l.take (j + 1)).countP fullB = (l.take j).countP fullB + if fullB l[j] = true then 1 else 0 := by
  rw [List.take_succ_eq_append_getElem h, List.countP_append]; simp [List.countP_cons]
theorem fixedW13 (h : acall cfg (aexec cfg 100) ν 6 [] H = some (.bool true, H)) (hq : Q (.bool true) H) : CW cfg ν 6 [] H Q := ⟨100, _, _, h, hq⟩
theorem cntV_le {tn : Int} : ∀ {vs : List Vo}, (∀ x ∈ vs, x.lv.length ≤ 16) → cntV tn vs ≤ 16 * vs.length
  | [], _ => Nat.le_refl _
  | v :: vs, h => by
    have h1 := cntV_le (tn := tn) (vs := vs) fun x hx => h x (by simp [hx])
    have h2 := h v (by simp)
    have h3 : cnt1 tn v ≤ 16 := by
      unfold cnt1; split
      · exact Nat.le_trans List.countP_le_length h2
      · exact Nat.zero_le _
    have e : cntV tn (v :: vs) = cnt1 tn v + cntV tn vs := by simp [cntV]
    rw [e, List.length_cons]; omega
theorem cntV_take {tn : Int} {vs : List Vo} {k : Nat} (h : k < vs.length) : cntV tn (vs.take (k + 1)) = cntV tn (vs.take k) + cnt1 tn vs[k] := by
  rw [List.take_succ_eq_append_getElem h, cntV_app]
theorem usQ_at {t : List Qu} (h : chkQ t = true) {i : Nat} (hi : i < t.length) : usQ t[i].tn t = t[i].us := by
  have hn := (of_decide_eq_true h).2
  have h1 := nodup_at hn hi
  rcases atQ_cases t[i].tn t with ⟨h2, _⟩ | ⟨k, hk, h2, h3, _⟩
  · omega
  · have : k = i := by omega
    subst this
    unfold usQ; rw [h3]
theorem after_e0 {x : Py} {V0 S0 T0 : AVal} (hV0 : Ls V0 (x.c.vs.map Vo.enc)) (hS0' : Ls S0 (x.c.ss.map SE.Se.enc)) (hx : x.good) (hg : x.c.good) (hS : Own β ps H (sl T0 3 (x.c.qs.map Qu.enc) :: orc qo S.of :: L)) (hle : le ps ν) (hβ : under β ν = true) (hp : before ν pos')
    (hq : ∀ H1 d T, afterS S x.key x.c (x.l.take 60) = (d, T) → Own β pos' H1 (orc qo T.of :: L) → Q d.enc H1) : CW cfg ν 11 [.ptr qo 0 0, .agg [V0, S0, T0, .lst (x.d.map (fun a : Int => AVal.int .u64 a)), .int .u64 x.key, .lst (x.iss.map Tk.enc), .lst (x.l.map Stp.enc)]] H Q :=
  after_cO hV0 hS0' hx hg hS hle hβ hp fun H1 h => hq H1 _ _ rfl h
theorem pk_check_e {b : Bool} (hz : c.sz) (he : chkC c = b) (hq : Q (.bool b) H) : CW cfg ν 13 [c.enc] H Q := pk_check hz (by rw [he]; exact hq)
theorem good_sz' (h : c.good) : c.sz := ⟨h.sm.1, h.sm.2, h.sm.3, h.sm.4⟩
theorem chk_good' (h : c.good) : chkC c = true := by
  unfold chkC
  rw [h.sc, h.qc, decide_eq_true ⟨h.vl, fun x hx => ⟨(h.vg x hx).de.1, (h.vg x hx).de.2, (h.vg x hx).ll, (h.vg x hx).lv⟩, h.nd⟩]; rfl
theorem r_check_e {v : AVal} {t : List Qu} {b : Bool} (hv : freeze [] H 8 v = .lst (t.map Qu.enc)) (hn : t.length ≤ 4294967296) (he : chkQ t = b) (hq : Q (.bool b) H) : CW cfg ν 14 [v] H Q := r_check hv hn (by rw [he]; exact hq)
theorem cntJ_0 {tn : Int} {vs : List Vo} {v : Vo} {k : Nat} : cntV tn (vs.take k) = cntJ tn vs v k 0 := by simp [cntJ]
theorem cntJ_end {tn : Int} {vs : List Vo} {k j : Nat} (h : k < vs.length) (hj : j = vs[k].lv.length) : cntJ tn vs vs[k] k j = cntV tn (vs.take (k + 1)) := by
  rw [hj, cntV_take h, cntJ, List.take_length]; rfl
theorem cntJ_le {tn : Int} {vs : List Vo} {k j : Nat} (h : k < vs.length) (hl : ∀ x ∈ vs, x.lv.length ≤ 16) : cntJ tn vs vs[k] k j ≤ 16 * k + 16 := by
  have h1 := cntV_le (tn := tn) (vs := vs.take k) fun x hx => hl x (List.mem_of_mem_take hx)
  rw [List.length_take] at h1
  have h2 := hl vs[k] (List.getElem_mem h)
  have h3 : ((vs[k].lv.take j).countP fullB) ≤ 16 := Nat.le_trans List.countP_le_length (by rw [List.length_take]; omega)
  unfold cntJ
  split <;> omega
theorem cntJ_yes {tn : Int} {vs : List Vo} {v : Vo} {k j : Nat} (h : j < v.lv.length) (h1 : ¬ v.lv[j] = ⟨#[]⟩) (h2 : v.tn = tn) : ((cntJ tn vs v k j : Nat) : Int) + 1 = (cntJ tn vs v k (j + 1) : Nat) := by
  unfold cntJ
  rw [if_pos h2, if_pos h2, cnt_take h, if_pos (show fullB v.lv[j] = true from decide_eq_true h1)]; omega
theorem cntJ_no {tn : Int} {vs : List Vo} {v : Vo} {k j : Nat} (h : j < v.lv.length) (h1 : ¬ (¬ v.lv[j] = ⟨#[]⟩ ∧ v.tn = tn)) : cntJ tn vs v k j = cntJ tn vs v k (j + 1) := by
  unfold cntJ
  by_cases h2 : v.tn = tn
  · have h3 : ¬ fullB v.lv[j] = true := fun e => h1 ⟨of_decide_eq_true e, h2⟩
    rw [if_pos h2, if_pos h2, cnt_take h, if_neg h3]; rfl
  · rw [if_neg h2, if_neg h2]
theorem lawCounts (x : Py) (hx : x.good) (hq : Q (.bool true) H) : CW cfg [] 4 [x.enc] H Q := by
  refine CW_pure g4 F4 rfl ?_
  have hS0 : Own [] [] (fun _ => none) [] := Own.nil
  refine XW_sr ?_
  refine OW_boxR hS0 (le_app (p := []) (b := [0, 0])) under_nil rfl rfl rfl ⟨rfl, rfl⟩ fun H1 hS1 => ?_
  replace hS1 : Own _ _ _ ([_]) := hS1
  refine OW_as rfl rfl ?_
  refine EZ95_CK23 rfl ?_
  refine XW_sr ?_
  refine OW_loadR hS1 (k := 0) rfl rfl rfl rfl rfl (by first | exact part_whole rfl rfl rfl | rfl) ?_
  refine OW_fn rfl rfl (oracle_c hx hS1 (le_lit (ν := []) (a := [1, 0]) (b := [1, 0, 1]) (by decide)) under_nil (before_lit (ν := []) (a := [1, 0, 1]) (b := [2, 0, 1]) (by decide)) fun q1 H2 hS2 => ?_) 
  replace hS2 : Own _ _ _ ([_, _]) := hS2
  refine OW_as rfl rfl ?_
  refine EZ95_CK23 rfl ?_
  refine XW_sr ?_
  refine OW_bs rfl rfl rfl ?_
  refine OW_bd rfl rfl (v := .agg [_, _, _]) rfl ?_
  refine OW_allocR hS2 (le_lit (ν := []) (a := [2, 0, 1]) (b := [2, 0, 1, 1]) (by decide)) under_nil rfl rfl rfl rfl fun H3 hS3 => ?_
  replace hS3 : Own _ _ _ ([_, _, _]) := hS3
  refine EN95_CK23 rfl ?_
  first
  | refine OW_storeR hS3 (k := 0) rfl le_refl rfl rfl rfl rfl ⟨rfl, rfl, Nat.le_of_ble_eq_true rfl⟩ (set_whole rfl rfl) fun H4 hS4 => ?_
  | refine OW_storeR hS3 (k := 0) rfl le_refl rfl rfl rfl rfl ⟨rfl, rfl, Nat.le_of_ble_eq_true rfl⟩ (u2 := .agg [_, _, _]) rfl fun H4 hS4 => ?_
  replace hS4 : Own _ _ _ ([_, _, _]) := hS4
  refine EZ95_CK23 rfl ?_
  refine XW_seq ?_
  refine XW_sr ?_
  replace hS4 := hS4.addE (w := 3)
  refine OW_as rfl rfl ?_
  refine EZ95_CK23 rfl ?_
  refine XW_block ?_
  refine XW_whileN (I := fun ν' mm ee H' => ∃ (i : Nat) (O : AVal), mm = 4 - i ∧ under (1 :: 0 :: 1 :: 1 :: 1 :: []) ν' = true ∧ Own [] ν' H' ([sl O 3 ((cts i).map Qu.enc), row (2 :: 0 :: 1 :: 1 :: []) 3 [.agg [.emp, .emp, O]], orc q1 x.os.of, row (0 :: 0 :: []) 7 [x.enc]]) ∧ (i ≤ 4) ∧ ∃ g : Nat → AVal, ee = [g 0, .ptr (0 :: 0 :: []) 0 0, g 2, .ptr q1 0 0, .ptr (2 :: 0 :: 1 :: 1 :: []) 0 0, .int .i64 i, g 6, g 7, g 8, g 9, g 10, g 11, g 12, g 13, g 14, g 15, g 16, g 17, g 18, g 19, g 20, g 21, g 22, g 23, g 24, g 25, g 26, g 27, g 28, g 29, g 30, g 31, g 32, g 33, g 34, g 35, g 36, g 37, g 38, g 39, g 40, g 41, g 42, g 43, g 44, g 45, g 46, g 47, g 48, g 49, g 50, g 51, g 52, g 53, g 54, g 55, g 56, g 57, g 58, g 59, g 60, g 61, g 62, g 63, g 64, g 65, g 66, g 67, g 68, g 69, g 70, g 71, g 72, g 73, g 74, g 75, g 76, g 77, g 78, g 79, g 80, g 81, g 82, g 83, g 84, g 85, g 86, g 87, g 88, g 89, g 90, g 91, g 92, g 93, g 94]) ?_ _ _ _ _ ⟨0, .emp, rfl, under_me, Own.cast (Own.mono (hS4) (le_lit (ν := []) (a := [4, 0, 1, 1]) (b := [1, 0, 1, 1, 1]) (by decide))) (rfl), (by omega), env_g rfl⟩
  rintro ν1 mm ee H5 ⟨i, O, rfl, hU1, hS5, hi, g1, rfl⟩
  refine XW_seq ?_
  refine XW_sr ?_
  refine OW_mv rfl rfl ?_
  refine OW_bin rfl rfl rfl rfl rfl ?_
  refine EZ95_CK23 rfl ?_
  refine XW_if rfl (fun h4 => ?_) (fun h4 => ?_)
  ·try simp only [bs] at h4
   refine XW_skip ?_
   refine then_norm ?_
   refine XW_seq ?_
   refine XW_block ?_
   refine XW_region ?_
   have hcl : (cts i).length = i := by simp [cts]
   refine OW_fa rfl rfl rfl ?_
   refine OW_loadR hS5 (k := 1) rfl rfl rfl rfl rfl (by first | exact part_whole rfl rfl rfl | rfl) ?_
   refine OW_mv rfl rfl ?_
   refine EN95_CK23 rfl ?_
   first
   | refine OW_conv rfl rfl (conv_in rfl rfl rfl (IntWalk.u64_in _ (by omega))) ?_
   | refine OW_conv rfl rfl rfl ?_
   refine OW_bd rfl rfl (v := .agg [_, _, _]) rfl ?_
   refine OW_bs rfl rfl (v := .lst [_]) rfl ?_
   refine EN95_CK23 rfl ?_
   refine OW_app hS5 (k := 0) rfl (le_app (p := ν1) (b := [6, 0, 1, 0])) under_nil rfl rfl rfl rfl rfl rfl rfl rfl (by first | rfl | exact Ls.elems (by assumption)) (by first | exact one_wide rfl | exact map_wide (fun _ => rfl) | assumption | (intro y hy; simp at hy; done)) (by first | omega | (simp only [ss]; omega) | (simp; omega)) (by decide) fun O1 H6 hS6 => ?_
   replace hS6 : Own _ _ _ ([_, _, _, _]) := hS6
   refine OW_fa rfl rfl rfl ?_
   refine OW_storeC hS6 (k := 1) rfl (le_lit (ν := ν1) (a := [7, 0, 1, 0]) (b := [8, 0, 1, 0]) (by decide)) rfl rfl rfl (hS6.one (k := 0) rfl) rfl rfl (Nat.le_of_ble_eq_true rfl) (u2 := .agg [_, _, _]) rfl fun H7 hS7 => ?_
   replace hS7 : Own _ _ _ ([_, _, _, _]) := hS7
   refine EZ95_CK23 rfl ?_
   refine block_norm ?_
   refine then_norm ?_
   refine XW_region ?_
   refine OW_mv rfl rfl ?_
   first
   | refine OW_bin rfl rfl rfl rfl (add_w64 (by first | omega | assumption | (simp only [ss]; omega))) ?_
   | refine OW_bin rfl rfl rfl rfl rfl ?_
   refine OW_as rfl rfl ?_
   refine EZ95_CK23 rfl ?_
   refine ⟨_, ?_, i + 1, O1, rfl, under_in hU1, Own.cast (Own.mono (hS7) (le_lit (ν := ν1) (a := [9, 0, 1, 0]) (b := [1]) (by decide))) (by rw [cts_succ, List.map_append]; rfl), ?_, env_g rfl⟩
   · first | omega | (simp; omega)
   · omega
  ·try simp only [bs] at h4
   refine XW_exit ?_
   refine then_exit ?_
   refine block_exit ?_
   refine then_norm ?_
   refine XW_sr ?_
   refine OW_loadR hS5 (k := 3) rfl rfl rfl rfl rfl (by first | exact part_whole rfl rfl rfl | rfl) ?_
   refine OW_allocR hS5 (le_bef (bef_under (a := []) hU1 (before_lit (ν := []) (a := [1, 0, 1, 1, 1]) (b := [1, 0, 1, 1, 1, 1]) (by decide)))) under_nil rfl rfl rfl rfl fun H8 hS8 => ?_
   replace hS8 : Own _ _ _ ([_, _, _, _, _]) := hS8
   first
   | refine OW_storeR hS8 (k := 0) rfl le_refl rfl rfl rfl rfl ⟨rfl, rfl, Nat.le_of_ble_eq_true rfl⟩ (set_whole rfl rfl) fun H9 hS9 => ?_
   | refine OW_storeR hS8 (k := 0) rfl le_refl rfl rfl rfl rfl ⟨rfl, rfl, Nat.le_of_ble_eq_true rfl⟩ (u2 := .agg [_, _, _, _, _, _, _]) rfl fun H9 hS9 => ?_
   replace hS9 : Own _ _ _ ([_, _, _, _, _]) := hS9
   refine EZ95_CK23 rfl ?_
   refine XW_sr ?_
   refine OW_loadR hS9 (k := 2) rfl rfl rfl rfl rfl (by first | exact part_whole rfl rfl rfl | rfl) ?_
   refine OW_fa rfl rfl rfl ?_
   refine OW_storeR hS9 (k := 0) rfl (le_lit (ν := []) (a := [3, 0, 1, 1, 1, 1]) (b := [2, 0, 1, 1, 1, 1, 1]) (by decide)) rfl rfl rfl rfl ⟨rfl, rfl, Nat.le_of_ble_eq_true rfl⟩ (u2 := .agg [_, _, _, _, _, _, _]) rfl fun H10 hS10 => ?_
   replace hS10 : Own _ _ _ ([_, _, _, _, _]) := hS10
   refine EZ95_CK23 rfl ?_
   refine XW_sr ?_
   replace hS10 := Own.rot (A := [_]) (Own.tor (A := [_, _, _]) (Own.tor (A := [_]) hS10))
   obtain rfl : i = 4 := by omega
   refine OW_mv rfl rfl ?_
   refine OW_loadR hS10 (k := 2) rfl rfl rfl rfl rfl (by first | exact part_whole rfl rfl rfl | rfl) ?_
   refine OW_fn rfl rfl (after_e0 (x := ⟨ctc, x.d, x.key, x.iss, x.l⟩) Ls.emp Ls.emp ⟨good_sz' ctc_good, hx.d, hx.iss, hx.ifit, hx.l, hx.lfit⟩ ctc_good hS10 (le_lit (ν := []) (a := [3, 0, 1, 1, 1, 1, 1]) (b := [2, 0, 1, 1, 1, 1, 1, 1]) (by decide)) under_nil (before_lit (ν := []) (a := [2, 0, 1, 1, 1, 1, 1, 1]) (b := [3, 0, 1, 1, 1, 1, 1, 1]) (by decide)) fun H11 c2 T2 hr2 hS11 => ?_) 
   replace hS11 : Own _ _ _ ([_, _, _, _]) := hS11
   refine EN95_CK23 rfl ?_
   first
   | refine OW_storeR hS11 (k := 2) rfl le_refl rfl rfl rfl rfl ⟨rfl, rfl, Nat.le_of_ble_eq_true rfl⟩ (set_whole rfl rfl) fun H12 hS12 => ?_
   | refine OW_storeR hS11 (k := 2) rfl le_refl rfl rfl rfl rfl ⟨rfl, rfl, Nat.le_of_ble_eq_true rfl⟩ (u2 := .agg [_, _, _]) rfl fun H12 hS12 => ?_
   replace hS12 : Own _ _ _ ([_, _, _, _]) := hS12
   refine EZ95_CK23 rfl ?_
   refine XW_seq ?_
   refine XW_sr ?_
   have hg2 : c2.good := by have := afterS_good (S := x.os) (key := x.key) (l := x.l.take 60) ctc_good (fun y hy => hx.lfit y (List.mem_of_mem_take hy)); rw [hr2] at this; exact this
   have hc2 : Cnt c2 := by have := afterS_cnt (S := x.os) (key := x.key) (l := x.l.take 60) ctc_cnt ctc_good (fun y hy => hx.lfit y (List.mem_of_mem_take hy)); rw [hr2] at this; exact this
   have hvl2 := hg2.vl; have hql2 := hg2.ql
   have hl16 : ∀ y ∈ c2.vs, y.lv.length ≤ 16 := fun y hy => (hg2.vg y hy).len
   refine OW_fn rfl rfl (fixedW13 (by kernel_rfl) ?_) 
   refine OW_un rfl rfl rfl ?_
   refine OW_mv rfl rfl ?_
   refine EN95_CK23 rfl ?_
   refine OW_loadR hS12 (k := 2) rfl rfl rfl rfl rfl (by first | exact part_whole rfl rfl rfl | rfl) ?_
   refine OW_fn rfl rfl (pk_check_e (c := c2) (good_sz' hg2) (chk_good' hg2) ?_) 
   refine OW_un rfl rfl rfl ?_
   refine EN95_CK23 rfl ?_
   refine OW_pick rfl rfl rfl ?_
   refine EZ95_CK23 rfl ?_
   refine XW_no rfl rfl ?_
   refine XW_skip ?_
   refine then_norm ?_
   refine XW_seq ?_
   refine XW_sr ?_
   replace hS12 := Own.drop (Own.drop0 hS12) (k := 0) rfl
   refine OW_as rfl rfl ?_
   refine EZ95_CK23 rfl ?_
   refine XW_block ?_
   refine XW_whileN (I := fun ν' mm ee H' => ∃ (i : Nat), mm = c2.qs.length - i ∧ under (1 :: 0 :: 1 :: 1 :: 1 :: 1 :: 1 :: 1 :: 1 :: 1 :: []) ν' = true ∧ Own [] ν' H' ([row (2 :: 0 :: 1 :: 1 :: []) 3 [c2.enc], row (0 :: 0 :: []) 7 [x.enc]]) ∧ (i ≤ c2.qs.length) ∧ ∃ g : Nat → AVal, ee = [g 0, .ptr (0 :: 0 :: []) 0 0, g 2, g 3, .ptr (2 :: 0 :: 1 :: 1 :: []) 0 0, g 5, g 6, .int .i64 i, g 8, g 9, g 10, g 11, g 12, g 13, g 14, g 15, g 16, g 17, g 18, g 19, g 20, g 21, g 22, g 23, g 24, g 25, g 26, g 27, g 28, g 29, g 30, g 31, g 32, g 33, g 34, g 35, g 36, g 37, g 38, g 39, g 40, g 41, g 42, g 43, g 44, g 45, g 46, g 47, g 48, g 49, g 50, g 51, g 52, g 53, g 54, g 55, g 56, g 57, g 58, g 59, g 60, g 61, g 62, g 63, g 64, g 65, g 66, g 67, g 68, g 69, g 70, g 71, g 72, g 73, g 74, g 75, g 76, g 77, g 78, g 79, g 80, g 81, g 82, g 83, g 84, g 85, g 86, g 87, g 88, g 89, g 90, g 91, g 92, g 93, g 94]) ?_ _ _ _ _ ⟨0, rfl, under_me, Own.cast (Own.mono (hS12) (le_lit (ν := []) (a := [4, 0, 1, 1, 1, 1, 1, 1]) (b := [1, 0, 1, 1, 1, 1, 1, 1, 1, 1]) (by decide))) (rfl), (by omega), env_g rfl⟩
   rintro ν2 mm ee H13 ⟨i, rfl, hU2, hS13, hi, g2, rfl⟩
   refine XW_seq ?_
   refine XW_sr ?_
   refine OW_mv rfl rfl ?_
   refine OW_fa rfl rfl rfl ?_
   refine OW_loadR hS13 (k := 0) rfl rfl rfl rfl rfl (by first | exact part_whole rfl rfl rfl | rfl) ?_
   refine EN95_CK23 rfl ?_
   first
   | refine OW_lenL rfl rfl (by first | assumption | exact Ls.of | exact Ls.emp | exact Ls.nls) rfl rfl rfl (by first | exact List.length_map _ | rfl) ?_
   | refine OW_bi rfl rfl rfl ?_
   refine OW_bin rfl rfl rfl rfl rfl ?_
   refine EZ95_CK23 rfl ?_
   refine XW_if rfl (fun h13 => ?_) (fun h13 => ?_)
   ·try simp only [bs] at h13
    refine XW_skip ?_
    refine then_norm ?_
    refine XW_seq ?_
    refine XW_block ?_
    refine XW_sr ?_
    refine OW_fa rfl rfl rfl ?_
    refine OW_loadR hS13 (k := 0) rfl rfl rfl rfl rfl (by first | exact part_whole rfl rfl rfl | rfl) ?_
    refine OW_mv rfl rfl ?_
    refine EN95_CK23 rfl ?_
    first
    | refine OW_iaL rfl rfl rfl Ls.of rfl rfl rfl (by first | rfl | exact (Int.toNat_of_nonneg (by omega)).symm) (by first | assumption | exact at_map (by first | assumption | omega) | exact at_lst (by omega) | rfl) rfl ?_
    | refine OW_iaL rfl rfl rfl (by assumption) rfl rfl rfl (by first | rfl | exact (Int.toNat_of_nonneg (by omega)).symm) (by first | assumption | exact at_map (by first | assumption | omega) | exact at_lst (by omega) | rfl) rfl ?_
    refine OW_loadE rfl rfl rfl (by first | exact part_whole rfl rfl rfl | rfl) ?_
    refine OW_allocR hS13 (le_app (p := ν2) (b := [5, 0, 0, 1, 0])) under_nil rfl rfl rfl rfl fun H14 hS14 => ?_
    replace hS14 : Own _ _ _ ([_, _, _]) := hS14
    refine EN95_CK23 rfl ?_
    first
    | refine OW_storeR hS14 (k := 0) rfl le_refl rfl rfl rfl rfl ⟨rfl, rfl, Nat.le_of_ble_eq_true rfl⟩ (set_whole rfl rfl) fun H15 hS15 => ?_
    | refine OW_storeR hS14 (k := 0) rfl le_refl rfl rfl rfl rfl ⟨rfl, rfl, Nat.le_of_ble_eq_true rfl⟩ (u2 := .agg [_, _, _]) rfl fun H15 hS15 => ?_
    replace hS15 : Own _ _ _ ([_, _, _]) := hS15
    refine EZ95_CK23 rfl ?_
    refine XW_sr ?_
    refine OW_as rfl rfl ?_
    refine EZ95_CK23 rfl ?_
    refine XW_seq ?_
    refine XW_sr ?_
    refine OW_as rfl rfl ?_
    refine EZ95_CK23 rfl ?_
    refine XW_block ?_
    refine XW_whileN (I := fun ν' mm ee H' => ∃ (k : Nat), mm = c2.vs.length - k ∧ under (1 :: 0 :: 1 :: 1 :: 0 :: 1 :: 0 :: ν2) ν' = true ∧ Own [] ν' H' ([row (5 :: 0 :: 0 :: 1 :: 0 :: ν2) 3 [c2.qs[i].enc], row (2 :: 0 :: 1 :: 1 :: []) 3 [c2.enc], row (0 :: 0 :: []) 7 [x.enc]]) ∧ (k ≤ c2.vs.length) ∧ ∃ g : Nat → AVal, ee = [g 0, .ptr (0 :: 0 :: []) 0 0, g 2, g 3, .ptr (2 :: 0 :: 1 :: 1 :: []) 0 0, g 5, g 6, .int .i64 i, .ptr (5 :: 0 :: 0 :: 1 :: 0 :: ν2) 0 0, .int .u64 (cntV c2.qs[i].tn (c2.vs.take k)), .int .i64 k, g 11, g 12, g 13, g 14, g 15, g 16, g 17, g 18, g 19, g 20, g 21, g 22, g 23, g 24, g 25, g 26, g 27, g 28, g 29, g 30, g 31, g 32, g 33, g 34, g 35, g 36, g 37, g 38, g 39, g 40, g 41, g 42, g 43, g 44, g 45, g 46, g 47, g 48, g 49, g 50, g 51, g 52, g 53, g 54, g 55, g 56, g 57, g 58, g 59, g 60, g 61, g 62, g 63, g 64, g 65, g 66, g 67, g 68, g 69, g 70, g 71, g 72, g 73, g 74, g 75, g 76, g 77, g 78, g 79, g 80, g 81, g 82, g 83, g 84, g 85, g 86, g 87, g 88, g 89, g 90, g 91, g 92, g 93, g 94]) ?_ _ _ _ _ ⟨0, rfl, under_me, Own.cast (Own.mono (hS15) (le_lit (ν := ν2) (a := [7, 0, 0, 1, 0]) (b := [1, 0, 1, 1, 0, 1, 0]) (by decide))) (rfl), (by omega), env_g rfl⟩
    rintro ν3 mm ee H16 ⟨k, rfl, hU3, hS16, hk, g3, rfl⟩
    refine XW_seq ?_
    refine XW_sr ?_
    refine OW_mv rfl rfl ?_
    refine OW_fa rfl rfl rfl ?_
    refine OW_loadR hS16 (k := 1) rfl rfl rfl rfl rfl (by first | exact part_whole rfl rfl rfl | rfl) ?_
    refine EN95_CK23 rfl ?_
    first
    | refine OW_lenL rfl rfl (by first | assumption | exact Ls.of | exact Ls.emp | exact Ls.nls) rfl rfl rfl (by first | exact List.length_map _ | rfl) ?_
    | refine OW_bi rfl rfl rfl ?_
    refine OW_bin rfl rfl rfl rfl rfl ?_
    refine EZ95_CK23 rfl ?_
    refine XW_if rfl (fun h18 => ?_) (fun h18 => ?_)
    ·try simp only [bs] at h18
     refine XW_skip ?_
     refine then_norm ?_
     refine XW_seq ?_
     refine XW_block ?_
     refine XW_sr ?_
     refine OW_fa rfl rfl rfl ?_
     refine OW_loadR hS16 (k := 1) rfl rfl rfl rfl rfl (by first | exact part_whole rfl rfl rfl | rfl) ?_
     refine OW_mv rfl rfl ?_
     refine EN95_CK23 rfl ?_
     first
     | refine OW_iaL rfl rfl rfl Ls.of rfl rfl rfl (by first | rfl | exact (Int.toNat_of_nonneg (by omega)).symm) (by first | assumption | exact at_map (by first | assumption | omega) | exact at_lst (by omega) | rfl) rfl ?_
     | refine OW_iaL rfl rfl rfl (by assumption) rfl rfl rfl (by first | rfl | exact (Int.toNat_of_nonneg (by omega)).symm) (by first | assumption | exact at_map (by first | assumption | omega) | exact at_lst (by omega) | rfl) rfl ?_
     refine OW_loadE rfl rfl rfl (by first | exact part_whole rfl rfl rfl | rfl) ?_
     refine OW_allocR hS16 (le_app (p := ν3) (b := [5, 0, 0, 1, 0])) under_nil rfl rfl rfl rfl fun H17 hS17 => ?_
     replace hS17 : Own _ _ _ ([_, _, _, _]) := hS17
     refine EN95_CK23 rfl ?_
     first
     | refine OW_storeR hS17 (k := 0) rfl le_refl rfl rfl rfl rfl ⟨rfl, rfl, Nat.le_of_ble_eq_true rfl⟩ (set_whole rfl rfl) fun H18 hS18 => ?_
     | refine OW_storeR hS17 (k := 0) rfl le_refl rfl rfl rfl rfl ⟨rfl, rfl, Nat.le_of_ble_eq_true rfl⟩ (u2 := .agg [_, _, _, _, _]) rfl fun H18 hS18 => ?_
     replace hS18 : Own _ _ _ ([_, _, _, _]) := hS18
     refine EZ95_CK23 rfl ?_
     refine XW_sr ?_
     have hl16k := hl16 c2.vs[k] (List.getElem_mem (by omega))
     rw [cntJ_0 (tn := c2.qs[i].tn) (vs := c2.vs) (v := c2.vs[k]) (k := k)]
     refine OW_as rfl rfl ?_
     refine EZ95_CK23 rfl ?_
     refine XW_block ?_
     refine XW_whileN (I := fun ν' mm ee H' => ∃ (j : Nat), mm = c2.vs[k].lv.length - j ∧ under (1 :: 1 :: 0 :: 1 :: 0 :: ν3) ν' = true ∧ Own [] ν' H' ([row (5 :: 0 :: 0 :: 1 :: 0 :: ν3) 5 [c2.vs[k].enc], row (5 :: 0 :: 0 :: 1 :: 0 :: ν2) 3 [c2.qs[i].enc], row (2 :: 0 :: 1 :: 1 :: []) 3 [c2.enc], row (0 :: 0 :: []) 7 [x.enc]]) ∧ (j ≤ c2.vs[k].lv.length) ∧ ∃ g : Nat → AVal, ee = [g 0, .ptr (0 :: 0 :: []) 0 0, g 2, g 3, .ptr (2 :: 0 :: 1 :: 1 :: []) 0 0, g 5, g 6, .int .i64 i, .ptr (5 :: 0 :: 0 :: 1 :: 0 :: ν2) 0 0, .int .u64 (cntJ c2.qs[i].tn c2.vs c2.vs[k] k j), .int .i64 k, .ptr (5 :: 0 :: 0 :: 1 :: 0 :: ν3) 0 0, .int .i64 j, g 13, g 14, g 15, g 16, g 17, g 18, g 19, g 20, g 21, g 22, g 23, g 24, g 25, g 26, g 27, g 28, g 29, g 30, g 31, g 32, g 33, g 34, g 35, g 36, g 37, g 38, g 39, g 40, g 41, g 42, g 43, g 44, g 45, g 46, g 47, g 48, g 49, g 50, g 51, g 52, g 53, g 54, g 55, g 56, g 57, g 58, g 59, g 60, g 61, g 62, g 63, g 64, g 65, g 66, g 67, g 68, g 69, g 70, g 71, g 72, g 73, g 74, g 75, g 76, g 77, g 78, g 79, g 80, g 81, g 82, g 83, g 84, g 85, g 86, g 87, g 88, g 89, g 90, g 91, g 92, g 93, g 94]) ?_ _ _ _ _ ⟨0, rfl, under_me, Own.cast (Own.mono (hS18) (le_lit (ν := ν3) (a := [7, 0, 0, 1, 0]) (b := [1, 1, 0, 1, 0]) (by decide))) (rfl), (by omega), env_g rfl⟩
     rintro ν4 mm ee H19 ⟨j, rfl, hU4, hS19, hj, g4, rfl⟩
     refine XW_seq ?_
     refine XW_sr ?_
     refine OW_mv rfl rfl ?_
     refine OW_fa rfl rfl rfl ?_
     refine OW_loadR hS19 (k := 0) rfl rfl rfl rfl rfl (by first | exact part_whole rfl rfl rfl | rfl) ?_
     refine EN95_CK23 rfl ?_
     first
     | refine OW_lenL rfl rfl (by first | assumption | exact Ls.of | exact Ls.emp | exact Ls.nls) rfl rfl rfl (by first | exact List.length_map _ | rfl) ?_
     | refine OW_bi rfl rfl rfl ?_
     refine OW_bin rfl rfl rfl rfl rfl ?_
     refine EZ95_CK23 rfl ?_
     refine XW_if rfl (fun h22 => ?_) (fun h22 => ?_)
     ·try simp only [bs] at h22
      refine XW_skip ?_
      refine then_norm ?_
      refine XW_seq ?_
      refine XW_block ?_
      refine XW_sr ?_
      refine OW_fa rfl rfl rfl ?_
      refine OW_loadR hS19 (k := 0) rfl rfl rfl rfl rfl (by first | exact part_whole rfl rfl rfl | rfl) ?_
      refine OW_mv rfl rfl ?_
      refine EN95_CK23 rfl ?_
      first
      | refine OW_iaL rfl rfl rfl Ls.of rfl rfl rfl (by first | rfl | exact (Int.toNat_of_nonneg (by omega)).symm) (by first | assumption | exact at_map (by first | assumption | omega) | exact at_lst (by omega) | rfl) rfl ?_
      | refine OW_iaL rfl rfl rfl (by assumption) rfl rfl rfl (by first | rfl | exact (Int.toNat_of_nonneg (by omega)).symm) (by first | assumption | exact at_map (by first | assumption | omega) | exact at_lst (by omega) | rfl) rfl ?_
      refine OW_loadE rfl rfl rfl (by first | exact part_whole rfl rfl rfl | rfl) ?_
      refine OW_bin rfl rfl rfl rfl rfl ?_
      refine EN95_CK23 rfl ?_
      refine OW_mv rfl rfl ?_
      refine OW_split (tt := 79) rfl (fun g24_7 => ?_) (fun g24_7 => ?_)
      ·try simp only [bs] at g24_7
       refine OW_fa rfl rfl rfl ?_
       refine EN95_CK23 rfl ?_
       refine OW_loadR hS19 (k := 0) rfl rfl rfl rfl rfl (by first | exact part_whole rfl rfl rfl | rfl) ?_
       refine OW_fa rfl rfl rfl ?_
       refine OW_loadR hS19 (k := 1) rfl rfl rfl rfl rfl (by first | exact part_whole rfl rfl rfl | rfl) ?_
       refine EN95_CK23 rfl ?_
       refine OW_bin rfl rfl rfl rfl rfl ?_
       refine OW_pick rfl rfl rfl ?_
       refine EZ95_CK23 rfl ?_
       refine XW_if rfl (fun h24 => ?_) (fun h24 => ?_)
       ·try simp only [bs] at h24
        refine XW_region ?_
        have hjb := cntJ_le (tn := c2.qs[i].tn) (vs := c2.vs) (k := k) (j := j) (by omega) hl16
        refine OW_mv rfl rfl ?_
        first
        | refine OW_bin rfl rfl rfl rfl (add_wu64 (by first | omega | assumption | (simp only [ss]; omega))) ?_
        | refine OW_bin rfl rfl rfl rfl rfl ?_
        refine OW_as rfl rfl ?_
        refine EZ95_CK23 rfl ?_
        refine block_norm ?_
        refine then_norm ?_
        refine XW_region ?_
        first | rw [cntJ_yes (tn := c2.qs[i].tn) (vs := c2.vs) (v := c2.vs[k]) (k := k) (j := j) (by omega) (by assumption) (by assumption)] | rw [cntJ_no (tn := c2.qs[i].tn) (vs := c2.vs) (v := c2.vs[k]) (k := k) (j := j) (by omega) (by rintro ⟨e1, e2⟩; first | contradiction | exact e1 (by assumption))]
        refine OW_mv rfl rfl ?_
        first
        | refine OW_bin rfl rfl rfl rfl (add_w64 (by first | omega | assumption | (simp only [ss]; omega))) ?_
        | refine OW_bin rfl rfl rfl rfl rfl ?_
        refine OW_as rfl rfl ?_
        refine EZ95_CK23 rfl ?_
        refine ⟨_, ?_, j + 1, rfl, under_in hU4, Own.cast (Own.mono (hS19) (le_app (p := ν4) (b := [1]))) (rfl), ?_, env_g rfl⟩
        · first | omega | (simp; omega)
        · omega
       ·try simp only [bs] at h24
        refine XW_skip ?_
        refine block_norm ?_
        refine then_norm ?_
        refine XW_region ?_
        first | rw [cntJ_yes (tn := c2.qs[i].tn) (vs := c2.vs) (v := c2.vs[k]) (k := k) (j := j) (by omega) (by assumption) (by assumption)] | rw [cntJ_no (tn := c2.qs[i].tn) (vs := c2.vs) (v := c2.vs[k]) (k := k) (j := j) (by omega) (by rintro ⟨e1, e2⟩; first | contradiction | exact e1 (by assumption))]
        refine OW_mv rfl rfl ?_
        first
        | refine OW_bin rfl rfl rfl rfl (add_w64 (by first | omega | assumption | (simp only [ss]; omega))) ?_
        | refine OW_bin rfl rfl rfl rfl rfl ?_
        refine OW_as rfl rfl ?_
        refine EZ95_CK23 rfl ?_
        refine ⟨_, ?_, j + 1, rfl, under_in hU4, Own.cast (Own.mono (hS19) (le_app (p := ν4) (b := [1]))) (rfl), ?_, env_g rfl⟩
        · first | omega | (simp; omega)
        · omega
      ·try simp only [bs] at g24_7
       refine OW_no rfl ?_
       refine EN95_CK23 rfl ?_
       refine OW_no rfl ?_
       refine OW_no rfl ?_
       refine OW_no rfl ?_
       refine EN95_CK23 rfl ?_
       refine OW_no rfl ?_
       refine OW_pick rfl rfl rfl ?_
       refine EZ95_CK23 rfl ?_
       refine XW_no rfl rfl ?_
       refine XW_skip ?_
       refine block_norm ?_
       refine then_norm ?_
       refine XW_region ?_
       first | rw [cntJ_yes (tn := c2.qs[i].tn) (vs := c2.vs) (v := c2.vs[k]) (k := k) (j := j) (by omega) (by assumption) (by assumption)] | rw [cntJ_no (tn := c2.qs[i].tn) (vs := c2.vs) (v := c2.vs[k]) (k := k) (j := j) (by omega) (by rintro ⟨e1, e2⟩; first | contradiction | exact e1 (by assumption))]
       refine OW_mv rfl rfl ?_
       first
       | refine OW_bin rfl rfl rfl rfl (add_w64 (by first | omega | assumption | (simp only [ss]; omega))) ?_
       | refine OW_bin rfl rfl rfl rfl rfl ?_
       refine OW_as rfl rfl ?_
       refine EZ95_CK23 rfl ?_
       refine ⟨_, ?_, j + 1, rfl, under_in hU4, Own.cast (Own.mono (hS19) (le_app (p := ν4) (b := [1]))) (rfl), ?_, env_g rfl⟩
       · first | omega | (simp; omega)
       · omega
     ·try simp only [bs] at h22
      refine XW_exit ?_
      refine then_exit ?_
      refine block_exit ?_
      refine block_norm ?_
      refine then_norm ?_
      refine XW_region ?_
      rw [cntJ_end (tn := c2.qs[i].tn) (vs := c2.vs) (k := k) (j := j) (by omega) (by omega)]
      refine OW_mv rfl rfl ?_
      first
      | refine OW_bin rfl rfl rfl rfl (add_w64 (by first | omega | assumption | (simp only [ss]; omega))) ?_
      | refine OW_bin rfl rfl rfl rfl rfl ?_
      refine OW_as rfl rfl ?_
      refine EZ95_CK23 rfl ?_
      have hSd1 : Own _ _ _ ([_, _, _]) := (Own.drop hS19 (k := 0) rfl)
      refine ⟨_, ?_, k + 1, rfl, under_in hU3, Own.cast (Own.mono (hSd1) (le_bef (bef_under (a := []) hU4 (before_lit (ν := ν3) (a := [1, 1, 0, 1, 0]) (b := [1]) (by decide))))) (rfl), ?_, env_g rfl⟩
      · first | omega | (simp; omega)
      · omega
    ·try simp only [bs] at h18
     refine XW_exit ?_
     refine then_exit ?_
     refine block_exit ?_
     refine then_norm ?_
     refine XW_sr ?_
     refine OW_mv rfl rfl ?_
     refine OW_fa rfl rfl rfl ?_
     refine OW_loadR hS16 (k := 0) rfl rfl rfl rfl rfl (by first | exact part_whole rfl rfl rfl | rfl) ?_
     refine EN95_CK23 rfl ?_
     refine OW_bin rfl rfl rfl rfl rfl ?_
     refine EZ95_CK23 rfl ?_
     refine XW_if rfl (fun h26 => ?_) (fun h26 => ?_)
     · exfalso; (try simp only [bs] at h26) <;> ((rw [List.take_of_length_le (by omega), hc2 c2.qs[i].tn, usQ_at hg2.qc (by omega)] at h26; exact h26 rfl))
     ·try simp only [bs] at h26
      refine XW_skip ?_
      refine block_norm ?_
      refine then_norm ?_
      refine XW_region ?_
      refine OW_mv rfl rfl ?_
      first
      | refine OW_bin rfl rfl rfl rfl (add_w64 (by first | omega | assumption | (simp only [ss]; omega))) ?_
      | refine OW_bin rfl rfl rfl rfl rfl ?_
      refine OW_as rfl rfl ?_
      refine EZ95_CK23 rfl ?_
      have hSd2 : Own _ _ _ ([_, _]) := (Own.drop hS16 (k := 0) rfl)
      refine ⟨_, ?_, i + 1, rfl, under_in hU2, Own.cast (Own.mono (hSd2) (le_bef (bef_under (a := []) hU3 (before_lit (ν := ν2) (a := [1, 0, 1, 1, 0, 1, 0]) (b := [1]) (by decide))))) (rfl), ?_, env_g rfl⟩
      · first | omega | (simp; omega)
      · omega
   ·try simp only [bs] at h13
    refine XW_exit ?_
    refine then_exit ?_
    refine block_exit ?_
    refine then_norm ?_
    refine XW_sr ?_
    refine OW_fa rfl rfl rfl ?_
    refine OW_loadR hS13 (k := 0) rfl rfl rfl rfl rfl (by first | exact part_whole rfl rfl rfl | rfl) ?_
    refine OW_fn rfl rfl (r_check_e (t := c2.qs) (Ls.freeze Ls.of) (by omega) hg2.qc ?_) 
    refine EN95_CK23 rfl ?_
    refine OW_as rfl rfl ?_
    refine EZ95_CK23 rfl ?_
    refine XW_ret ?_
    refine ret_ret (res1 rfl (rv_tmp rfl)) (frz1 (Q := Q) (by first | exact freeze_plain rfl | exact Ls.freeze (by assumption) | exact Ls.freeze Ls.of | exact Ls.freeze Ls.emp | exact Ls.freeze Ls.nls) ?_)
    first
    | exact hq
    | (refine qcast hq ?_; rfl)
    | (refine qcast hq ?_; simp; done)
    | (refine qcast hq ?_; simp; omega)
    | (refine qcast hq ?_; simp_all; done)
theorem ChunkCounts_true (a0 : Py) (n0 : Nat) (q0 : Py.Q a0 n0) (hb : n0 + (0) ≤ 1048576) :
    CW cfg [] 4 [Py.enc a0] (fun _ => none) (fun v _ => v = .bool true) :=
  lawCounts a0 (py_of q0 (by omega)).1 rfl
end Go.Proofs.Ytfkgdlfponfimaa.X
