/- Layer 12: tables of quotas, and functions over them. -/
import Derived.Test.YtealccnfnpkngaaK
import Derived.Test.YtealccnfnpkngaaZ
set_option linter.unusedVariables false
set_option linter.unusedSimpArgs false
set_option maxRecDepth 100000
namespace Go.Proofs.Ytealccnfnpkngaa.X
open Go Go.RowKit
theorem EZ26_Q1 {c : Cfg} {ν : Nm} {e : Env} {H : Heap} {all : Array Oper} {i : Nat} {Q : Env → Heap → Prop} {x0 x1 x2 x3 x4 x5 x6 x7 x8 x9 x10 x11 x12 x13 x14 x15 x16 x17 x18 x19 x20 x21 x22 x23 x24 x25 : AVal} (he : e = [x0,x1,x2,x3,x4,x5,x6,x7,x8,x9,x10,x11,x12,x13,x14,x15,x16,x17,x18,x19,x20,x21,x22,x23,x24,x25]) (h : Q [x0,x1,x2,x3,x4,x5,x6,x7,x8,x9,x10,x11,x12,x13,x14,x15,x16,x17,x18,x19,x20,x21,x22,x23,x24,x25] H) : OW c ν all [] i e H Q := by subst he; exact OW_nil h
structure Qu where
  tn : Int
  us : Int
  li : Int
  deriving DecidableEq
def Qu.enc (l : Qu) : AVal := .agg [.int .u64 l.tn, .int .u64 l.us, .int .u64 l.li]
theorem Qu.ne (a b : Qu) : aBin cfg.T .neq 42 a.enc b.enc = some (.bool (decide (a ≠ b))) := by
  have e : (decide (a ≠ b)) = !(decide (a.tn = b.tn) && (decide (a.us = b.us) && (decide (a.li = b.li) && true))) := by
    obtain ⟨a1, a2, a3⟩ := a; obtain ⟨b1, b2, b3⟩ := b
    simp only [ne_eq, Qu.mk.injEq]
    by_cases h1 : a1 = b1 <;> by_cases h2 : a2 = b2 <;> by_cases h3 : a3 = b3 <;> simp [h1, h2, h3]
  rw [e]; rfl
/-- A function's value that tests elements; bs: the boxes that it looks at. -/
def Qu.FnP (f : FuncId) (caps : List AVal) (bs : List Nm) (H0 : Heap) (p : Qu → Bool) : Prop :=
  ∀ ν x H Q, (∀ b ∈ bs, H b = H0 b ∧ under ν b = false) → Q (.bool (p x)) H → CW cfg ν f (x.enc :: caps) H Q
theorem Qu.idx {ν : Nm} {H : Heap} {Q : AVal → Heap → Prop} {ls : List Qu} {S : AVal} {f : FuncId} {caps : List AVal} {bs : List Nm} {p : Qu → Bool} (hf : Qu.FnP f caps bs H p) (hbs : ∀ b ∈ bs, under ν b = false) (h : Rd H 3 (ls.map Qu.enc) S) (hn : ls.length ≤ 4611686018427387904) (hq : Q (.int .i64 (firstI p ls 0)) H) : CW cfg ν 83 [S, .fn f caps] H Q := by
  have h2 : lenOf H S = some ls.length := by rw [h.len, List.length_map]
  have h3 : lenKind cfg.T [22] S = true := h.kind T22 rfl
  refine CW_fullS g83 F83 rfl ?_
  refine XW_sr ?_
  refine OW_as rfl rfl ?_
  refine OW_nilE (e' := [_, _, _, _, _, _, _, _, _, _, _, _, _, _, _, _, _, _, _]) rfl ?_
  refine XW_seq ?_
  refine XW_sr ?_
  refine OW_mv rfl rfl ?_
  refine OW_bi rfl rfl (aLen h3 h2) ?_
  refine OW_env (e' := [_, _, _, _, _, _, _, _, _, _, _, _, _, _, _, _, _, _, _]) rfl ?_
  refine OW_mv rfl rfl ?_
  refine OW_nilE (e' := [_, _, _, _, _, _, _, _, _, _, _, _, _, _, _, _, _, _, _]) rfl ?_
  refine XW_block ?_
  refine XW_whileN (I := fun ν' n e H' => H' = H ∧ (∀ p, under ν p = false → under ν' p = false) ∧ ∃ (i : Nat), n = ls.length - i ∧ i ≤ ls.length ∧ firstI p ls 0 = firstI p (ls.drop i) i ∧ ∃ g : Nat → AVal, e = [S, .fn f caps, g 2, g 3, .int .i64 0, g 5, g 6, .int .i64 ls.length, .int .i64 i, g 9, g 10, g 11, g 12, g 13, g 14, g 15, g 16, g 17, g 18]) ?_ _ _ _ _ ⟨rfl, fun p hp => by repeat (first | exact hp | apply under_dn), 0, rfl, by omega, rfl, env_g rfl⟩
  rintro ν' n e H' ⟨rfl, hsub, i, rfl, hi, hfs, g, rfl⟩
  refine XW_sr ?_
  first
    | refine OW_bin rfl rfl rfl rfl (lss_yes (by omega)) ?_
    | refine OW_bin rfl rfl rfl rfl (lss_no (by omega)) ?_
    | refine OW_bin rfl rfl rfl rfl rfl ?_
  refine OW_nilE (e' := [_, _, _, _, _, _, _, _, _, _, _, _, _, _, _, _, _, _, _]) rfl ?_
  refine XW_seq ?_
  refine XW_if rfl (fun ht => ?_) (fun ht => ?_)
  · have hlt : i < ls.length := by simpa using ht
    have hxi : (ls.map Qu.enc)[i]? = some (ls[i].enc) := by simp [hlt]
    obtain ⟨P, k1, k2⟩ := h.at (kk := .i64) T22 rfl T42 rfl hxi rfl rfl
    refine XW_skip ?_
    refine then_norm ?_
    refine XW_seq ?_
    refine XW_block ?_
    refine XW_sr ?_
    refine OW_mv rfl rfl ?_
    refine OW_as rfl rfl ?_
    refine OW_nilE (e' := [_, _, _, _, _, _, _, _, _, _, _, _, _, _, _, _, _, _, _]) rfl ?_
    refine XW_sr ?_
    refine OW_mv rfl rfl ?_
    refine OW_mv rfl rfl ?_
    refine OW_mv rfl rfl ?_
    refine OW_ia rfl rfl rfl k1 ?_
    refine OW_load rfl rfl k2 ?_
    refine OW_fv rfl rfl rfl (hf _ ls[i] _ _ (fun b hb => ⟨rfl, by have := hsub b (hbs b hb); repeat (first | exact this | apply under_dn)⟩) ?_)
    refine OW_nilE (e' := [_, _, _, _, _, _, _, _, _, _, _, _, _, _, _, _, _, _, _]) rfl ?_
    refine XW_if rfl (fun hp => ?_) (fun hp => ?_)
    · refine XW_sr ?_
      refine OW_mv rfl rfl ?_
      refine OW_as rfl rfl ?_
      refine OW_nilE (e' := [_, _, _, _, _, _, _, _, _, _, _, _, _, _, _, _, _, _, _]) rfl ?_
      refine XW_ret ?_
      refine block_ret ?_
      refine then_ret ?_
      refine block_ret ?_
      refine then_ret ?_
      refine ret_ret rfl ⟨fun _ _ => rfl, ?_⟩
      rw [List.drop_eq_getElem_cons hlt, firstI, if_pos hp] at hfs
      rw [hfs] at hq; exact hq
    · refine XW_skip ?_
      refine block_norm ?_
      refine then_norm ?_
      refine XW_region ?_
      first
        | refine OW_bin rfl rfl rfl rfl (add64 (by omega)) ?_
        | refine OW_bin rfl rfl rfl rfl (addu64 (by omega)) ?_
        | refine OW_bin rfl rfl rfl rfl rfl ?_
      refine OW_mv rfl rfl ?_
      refine OW_nilE (e' := [_, _, _, _, _, _, _, _, _, _, _, _, _, _, _, _, _, _, _]) rfl ?_
      refine ⟨ls.length - (i + 1), by omega, rfl, fun p hp => under_dn (hsub p hp), i + 1, rfl, by omega, ?_, env_g rfl⟩
      rw [List.drop_eq_getElem_cons hlt, firstI, if_neg (by simp [hp])] at hfs
      exact hfs
  · have hge : ls.length ≤ i := by simpa using ht
    refine XW_exit ?_
    refine then_exit ?_
    refine block_exit ?_
    refine then_norm ?_
    refine XW_sr ?_
    refine OW_as rfl rfl ?_
    refine OW_nilE (e' := [_, _, _, _, _, _, _, _, _, _, _, _, _, _, _, _, _, _, _]) rfl ?_
    refine XW_ret ?_
    refine ret_ret rfl ⟨fun _ _ => rfl, ?_⟩
    rw [List.drop_eq_nil_of_le hge, firstI] at hfs
    rw [hfs] at hq; exact hq
theorem Qu.clone {ν β ps pos' : Nm} {H : Heap} {Q : AVal → Heap → Prop} {L : List Asr} {ls : List Qu} {S : AVal} (hv : Ls S (ls.map Qu.enc)) (hS : Own β ps H L) (hle : le ps ν) (hβ : under β ν = true) (hp : before ν pos') (hn : ls.length ≤ 4294967296)
    (hq : ∀ v H', Own β pos' H' (sl v 3 (ls.map Qu.enc) :: L) → Q v H') : CW cfg ν 32 [S] H Q := by
  have body : ∀ S, (S = .nls ∨ S = .nne) → XW cfg ν fi32.body (start fi32 [S]) (fun _ => none) (retW cfg.T fi32 fun v _ => isEmp v = true) := by
    rintro S (rfl | rfl)
    · refine XW_sr ?_
      refine OW_as rfl rfl ?_
      refine OW_nilE (e' := [_, _, _, _, _, _, _, _]) rfl ?_
      refine XW_seq ?_
      refine XW_sr ?_
      refine OW_mv rfl rfl ?_
      first
        | refine OW_bin rfl rfl rfl rfl (eq_yes (by omega)) ?_
        | refine OW_bin rfl rfl rfl rfl (eq_no (by omega)) ?_
        | refine OW_bin rfl rfl rfl rfl rfl ?_
      refine OW_nilE (e' := [_, _, _, _, _, _, _, _]) rfl ?_
      refine XW_yes rfl rfl ?_
      refine XW_sr ?_
      refine OW_as rfl rfl ?_
      refine OW_nilE (e' := [_, _, _, _, _, _, _, _]) rfl ?_
      refine XW_ret ?_
      refine then_ret ?_
      exact ret_ret rfl rfl
    · refine XW_sr ?_
      refine OW_as rfl rfl ?_
      refine OW_nilE (e' := [_, _, _, _, _, _, _, _]) rfl ?_
      refine XW_seq ?_
      refine XW_sr ?_
      refine OW_mv rfl rfl ?_
      first
        | refine OW_bin rfl rfl rfl rfl (eq_yes (by omega)) ?_
        | refine OW_bin rfl rfl rfl rfl (eq_no (by omega)) ?_
        | refine OW_bin rfl rfl rfl rfl rfl ?_
      refine OW_nilE (e' := [_, _, _, _, _, _, _, _]) rfl ?_
      refine XW_no rfl rfl ?_
      refine XW_skip ?_
      refine then_norm ?_
      refine XW_sr ?_
      refine OW_bs rfl rfl rfl ?_
      refine OW_mv rfl rfl ?_
      refine OW_bi rfl rfl rfl ?_
      refine OW_env (e' := [_, _, _, _, _, _, _, _]) rfl ?_
      refine OW_as rfl rfl ?_
      refine OW_nilE (e' := [_, _, _, _, _, _, _, _]) rfl ?_
      refine XW_ret ?_
      exact ret_ret rfl rfl
  by_cases h0 : noneIn [S] = true
  · refine CW_clone0 g32 F32 rfl h0 (body _ (.inl rfl)) (body _ (.inr rfl)) (hq _ _ ?_)
    obtain rfl : ls = [] := by
      rcases hv with rfl | ⟨h, _⟩
      · cases ls with
        | nil => rfl
        | cons x r => simp [noneIn] at h0
      · simpa using h
    exact (hS.mono (hle.trans (le_bef hp))).addE
  · have h0 : noneIn [S] = false := by simpa using h0
    rcases hv with rfl | ⟨h, rfl | rfl⟩
    · obtain ⟨x, r, rfl⟩ : ∃ x r, ls = x :: r := by
        cases ls with
        | nil => simp [noneIn] at h0
        | cons x r => exact ⟨x, r, rfl⟩
      refine CW_clone g32 F32 rfl h0 ?_
      refine XW_sr ?_
      refine OW_as rfl rfl ?_
      refine OW_nilE (e' := [_, _, _, _, _, _, _, _]) rfl ?_
      refine XW_seq ?_
      refine XW_sr ?_
      refine OW_mv rfl rfl ?_
      first
        | refine OW_bin rfl rfl rfl rfl (eq_yes (by omega)) ?_
        | refine OW_bin rfl rfl rfl rfl (eq_no (by omega)) ?_
        | refine OW_bin rfl rfl rfl rfl rfl ?_
      refine OW_nilE (e' := [_, _, _, _, _, _, _, _]) rfl ?_
      refine XW_no rfl rfl ?_
      refine XW_skip ?_
      refine then_norm ?_
      refine XW_sr ?_
      refine OW_bs rfl rfl rfl ?_
      refine OW_mv rfl rfl ?_
      refine OW_appE (hS.mono hle) (le_app (b := [2, 0, 1, 1])) (under_app [2, 0, 1, 1] hβ) rfl rfl rfl rfl rfl rfl rfl rfl (Ls.elems Ls.of) (map_wide (fun _ => rfl)) (by simpa using hn) (by decide) fun O2 H2 hS2 => ?_
      refine OW_env (e' := [_, _, _, _, _, _, _, _]) rfl ?_
      refine OW_as rfl rfl ?_
      refine OW_nilE (e' := [_, _, _, _, _, _, _, _]) rfl ?_
      refine XW_ret ?_
      exact ret_ret rfl (hq _ _ (hS2.mono (le_bef (bef_app (a := [3, 0, 1, 1]) hp))))
    · simp [noneIn] at h0
    · obtain rfl : ls = [] := by simpa using h
      refine CW_clone g32 F32 rfl rfl ?_
      refine XW_sr ?_
      refine OW_as rfl rfl ?_
      refine OW_nilE (e' := [_, _, _, _, _, _, _, _]) rfl ?_
      refine XW_seq ?_
      refine XW_sr ?_
      refine OW_mv rfl rfl ?_
      first
        | refine OW_bin rfl rfl rfl rfl (eq_yes (by omega)) ?_
        | refine OW_bin rfl rfl rfl rfl (eq_no (by omega)) ?_
        | refine OW_bin rfl rfl rfl rfl rfl ?_
      refine OW_nilE (e' := [_, _, _, _, _, _, _, _]) rfl ?_
      refine XW_yes rfl rfl ?_
      refine XW_sr ?_
      refine OW_as rfl rfl ?_
      refine OW_nilE (e' := [_, _, _, _, _, _, _, _]) rfl ?_
      refine XW_ret ?_
      refine then_ret ?_
      exact ret_ret rfl (hq _ _ (hS.mono (hle.trans (le_bef hp))).addN)

/-- A copy of an own slice. -/
theorem Qu.cloneO {ν β ps pos' : Nm} {H : Heap} {Q : AVal → Heap → Prop} {L : List Asr} {ls : List Qu} {S : AVal} {k : Nat} (hS : Own β ps H L) (hL : L[k]? = some (sl S 3 (ls.map Qu.enc))) (hle : le ps ν) (hβ : under β ν = true) (hp : before ν pos') (hn : ls.length ≤ 4294967296)
    (hq : ∀ v H', Own β pos' H' (sl v 3 (ls.map Qu.enc) :: L) → Q v H') : CW cfg ν 32 [S] H Q := by
  obtain ⟨f, hf, _⟩ := hS.get hL
  have hf : Sl H 3 (ls.map Qu.enc) S f := hf
  cases hf with
  | emp h => exact Qu.clone (.inr ⟨h, .inl rfl⟩) hS hle hβ hp hn hq
  | nls h => exact Qu.clone (.inr ⟨h, .inr rfl⟩) hS hle hβ hp hn hq
  | row h1 h2 h3 =>
    refine CW_clone g32 F32 rfl rfl ?_
    refine XW_sr ?_
    refine OW_as rfl rfl ?_
    refine OW_nilE (e' := [_, _, _, _, _, _, _, _]) rfl ?_
    refine XW_seq ?_
    refine XW_sr ?_
    refine OW_mv rfl rfl ?_
    first
      | refine OW_bin rfl rfl rfl rfl (eq_yes (by omega)) ?_
      | refine OW_bin rfl rfl rfl rfl (eq_no (by omega)) ?_
      | refine OW_bin rfl rfl rfl rfl rfl ?_
    refine OW_nilE (e' := [_, _, _, _, _, _, _, _]) rfl ?_
    refine XW_no rfl rfl ?_
    refine XW_skip ?_
    refine then_norm ?_
    refine XW_sr ?_
    refine OW_bs rfl rfl rfl ?_
    refine OW_mv rfl rfl ?_
    refine OW_appE (hS.mono hle) (le_app (b := [2, 0, 1, 1])) (under_app [2, 0, 1, 1] hβ) rfl rfl rfl rfl rfl rfl rfl rfl (hS.elems hL) (map_wide (fun _ => rfl)) (by simpa using hn) (by decide) fun O2 H2 hS2 => ?_
    refine OW_env (e' := [_, _, _, _, _, _, _, _]) rfl ?_
    refine OW_as rfl rfl ?_
    refine OW_nilE (e' := [_, _, _, _, _, _, _, _]) rfl ?_
    refine XW_ret ?_
    exact ret_ret rfl (hq _ _ (hS2.mono (le_bef (bef_app (a := [3, 0, 1, 1]) hp))))
theorem Qu.is {ν : Nm} {H : Heap} {Q : AVal → Heap → Prop} {v w : AVal} {s t : List Qu} (hv : Ls v (s.map Qu.enc)) (hw : Ls w (t.map Qu.enc)) (hn : s.length ≤ 4294967296) (hm : t.length ≤ 4294967296) (hq : Q (.bool (decide (s = t))) H) : CW cfg ν 40 [v, w] H Q := by
  refine CW_pure g40 F40 rfl ?_
  refine XW_sr ?_
  refine OW_as rfl rfl ?_
  refine EZ26_Q1 rfl ?_
  refine XW_seq ?_
  refine XW_sr ?_
  refine OW_mv rfl rfl ?_
  first
  | refine OW_lenL rfl rfl (by first | assumption | exact Ls.of | exact Ls.emp | exact Ls.nls) rfl rfl rfl (by first | exact List.length_map _ | rfl) ?_
  | refine OW_bi rfl rfl rfl ?_
  refine OW_mv rfl rfl ?_
  refine OW_env (e' := [_,_,_,_,_,_,_,_,_,_,_,_,_,_,_,_,_,_,_,_,_,_,_,_,_,_]) rfl ?_
  first
  | refine OW_lenL rfl rfl (by first | assumption | exact Ls.of | exact Ls.emp | exact Ls.nls) rfl rfl rfl (by first | exact List.length_map _ | rfl) ?_
  | refine OW_bi rfl rfl rfl ?_
  refine OW_bin rfl rfl rfl rfl rfl ?_
  refine EZ26_Q1 rfl ?_
  refine XW_if rfl (fun h1 => ?_) (fun h1 => ?_)
  ·try simp only [bs] at h1
   refine XW_sr ?_
   refine OW_as rfl rfl ?_
   refine EZ26_Q1 rfl ?_
   refine XW_ret ?_
   refine then_ret ?_
   -- outcome 1
   refine ret_ret (res1 rfl (rv_tmp rfl)) (frz1 (Q := Q) (by first | exact freeze_plain rfl | exact Ls.freeze (by assumption) | exact Ls.freeze Ls.of | exact Ls.freeze Ls.emp | exact Ls.freeze Ls.nls) ?_)
   refine qcast hq ?_
   congr 1
   first | exact (decide_eq_false (fun e => h1 (by rw [e]))).symm | exact (decide_eq_false (fun e => by subst e; exact h6 rfl)).symm | exact (decide_eq_true (by rw [List.take_of_length_le (by omega), List.take_of_length_le (by omega)] at hI; exact hI)).symm
  ·try simp only [bs] at h1
   refine XW_skip ?_
   refine then_norm ?_
   refine XW_seq ?_
   refine XW_sr ?_
   refine OW_as rfl rfl ?_
   refine EZ26_Q1 rfl ?_
   refine XW_block ?_
   refine XW_whileN (I := fun ν' mm ee H' => ∃ (i : Nat), mm = s.length - i ∧ under (1 :: 0 :: 1 :: 1 :: ν) ν' = true ∧ (i ≤ s.length ∧ s.length = t.length ∧ s.take i = t.take i) ∧ ∃ g : Nat → AVal, ee = [v, w, g 2, g 3, g 4, .int .i64 i, g 6, g 7, g 8, g 9, g 10, g 11, g 12, g 13, g 14, g 15, g 16, g 17, g 18, g 19, g 20, g 21, g 22, g 23, g 24, g 25]) ?_ _ _ _ _ ⟨0, rfl, under_me, (⟨by omega, by omega, rfl⟩), env_g rfl⟩
   rintro ν1 mm ee H1 ⟨i, rfl, hU1, ⟨hi, hl, hI⟩, g1, rfl⟩
   refine XW_seq ?_
   refine XW_sr ?_
   refine OW_mv rfl rfl ?_
   refine OW_mv rfl rfl ?_
   first
   | refine OW_lenL rfl rfl (by first | assumption | exact Ls.of | exact Ls.emp | exact Ls.nls) rfl rfl rfl (by first | exact List.length_map _ | rfl) ?_
   | refine OW_bi rfl rfl rfl ?_
   refine OW_env (e' := [_,_,_,_,_,_,_,_,_,_,_,_,_,_,_,_,_,_,_,_,_,_,_,_,_,_]) rfl ?_
   refine OW_bin rfl rfl rfl rfl rfl ?_
   refine EZ26_Q1 rfl ?_
   refine XW_if rfl (fun h4 => ?_) (fun h4 => ?_)
   ·try simp only [bs] at h4
    refine XW_skip ?_
    refine then_norm ?_
    refine XW_seq ?_
    refine XW_block ?_
    refine XW_sr ?_
    refine OW_mv rfl rfl ?_
    refine OW_mv rfl rfl ?_
    first
    | refine OW_iaL rfl rfl rfl Ls.of rfl rfl rfl (by first | rfl | exact (Int.toNat_of_nonneg (by omega)).symm) (by first | assumption | exact at_map (by first | assumption | omega) | exact at_lst (by omega) | rfl) rfl ?_
    | refine OW_iaL rfl rfl rfl (by assumption) rfl rfl rfl (by first | rfl | exact (Int.toNat_of_nonneg (by omega)).symm) (by first | assumption | exact at_map (by first | assumption | omega) | exact at_lst (by omega) | rfl) rfl ?_
    refine OW_env (e' := [_,_,_,_,_,_,_,_,_,_,_,_,_,_,_,_,_,_,_,_,_,_,_,_,_,_]) rfl ?_
    refine OW_loadE rfl rfl rfl (by first | exact part_whole rfl rfl rfl | rfl) ?_
    refine OW_mv rfl rfl ?_
    refine OW_mv rfl rfl ?_
    refine OW_env (e' := [_,_,_,_,_,_,_,_,_,_,_,_,_,_,_,_,_,_,_,_,_,_,_,_,_,_]) rfl ?_
    first
    | refine OW_iaL rfl rfl rfl Ls.of rfl rfl rfl (by first | rfl | exact (Int.toNat_of_nonneg (by omega)).symm) (by first | assumption | exact at_map (by first | assumption | omega) | exact at_lst (by omega) | rfl) rfl ?_
    | refine OW_iaL rfl rfl rfl (by assumption) rfl rfl rfl (by first | rfl | exact (Int.toNat_of_nonneg (by omega)).symm) (by first | assumption | exact at_map (by first | assumption | omega) | exact at_lst (by omega) | rfl) rfl ?_
    refine OW_loadE rfl rfl rfl (by first | exact part_whole rfl rfl rfl | rfl) ?_
    first
    | refine OW_bin rfl rfl rfl rfl (Qu.ne _ _) ?_
    | refine OW_bin rfl rfl rfl rfl rfl ?_
    refine EZ26_Q1 rfl ?_
    refine XW_if rfl (fun h6 => ?_) (fun h6 => ?_)
    ·try simp only [bs] at h6
     refine XW_sr ?_
     refine OW_as rfl rfl ?_
     refine EZ26_Q1 rfl ?_
     refine XW_ret ?_
     refine block_ret ?_
     refine then_ret ?_
     refine block_ret ?_
     refine then_ret ?_
     -- outcome 2
     refine ret_ret (res1 rfl (rv_tmp rfl)) (frz1 (Q := Q) (by first | exact freeze_plain rfl | exact Ls.freeze (by assumption) | exact Ls.freeze Ls.of | exact Ls.freeze Ls.emp | exact Ls.freeze Ls.nls) ?_)
     refine qcast hq ?_
     congr 1
     first | exact (decide_eq_false (fun e => h1 (by rw [e]))).symm | exact (decide_eq_false (fun e => by subst e; exact h6 rfl)).symm | exact (decide_eq_true (by rw [List.take_of_length_le (by omega), List.take_of_length_le (by omega)] at hI; exact hI)).symm
    ·try simp only [bs] at h6
     refine XW_skip ?_
     refine block_norm ?_
     refine then_norm ?_
     refine XW_region ?_
     refine OW_mv rfl rfl ?_
     first
     | refine OW_bin rfl rfl rfl rfl (add_w64 (by first | omega | assumption | (simp only [ss]; omega))) ?_
     | refine OW_bin rfl rfl rfl rfl rfl ?_
     refine OW_as rfl rfl ?_
     refine EZ26_Q1 rfl ?_
     -- round 0.1
     refine ⟨_, ?_, i + 1, rfl, under_in hU1, ?_, env_g rfl⟩
     · first | omega | (simp; omega)
     · exact ⟨by omega, hl, by rw [List.take_succ_eq_append_getElem (by omega), List.take_succ_eq_append_getElem (by omega), hI, h6]⟩
   ·try simp only [bs] at h4
    refine XW_exit ?_
    refine then_exit ?_
    refine block_exit ?_
    refine then_norm ?_
    refine XW_sr ?_
    refine OW_as rfl rfl ?_
    refine EZ26_Q1 rfl ?_
    refine XW_ret ?_
    -- outcome 3
    refine ret_ret (res1 rfl (rv_tmp rfl)) (frz1 (Q := Q) (by first | exact freeze_plain rfl | exact Ls.freeze (by assumption) | exact Ls.freeze Ls.of | exact Ls.freeze Ls.emp | exact Ls.freeze Ls.nls) ?_)
    refine qcast hq ?_
    congr 1
    first | exact (decide_eq_false (fun e => h1 (by rw [e]))).symm | exact (decide_eq_false (fun e => by subst e; exact h6 rfl)).symm | exact (decide_eq_true (by rw [List.take_of_length_le (by omega), List.take_of_length_le (by omega)] at hI; exact hI)).symm
/-! ### The plain functions -/
def isT (tn : Int) : Qu → Bool := fun x => decide (x.tn = tn)
def atQ (tn : Int) (t : List Qu) : Int := firstI (isT tn) t 0
def getQ (tn : Int) (t : List Qu) : Option Qu := t.find? (isT tn)
def modQ (tn : Int) (f : Qu → Qu) : List Qu → List Qu
  | [] => []
  | x :: r => if x.tn = tn then f x :: r else x :: modQ tn f r
theorem atQ_cases (tn : Int) (t : List Qu) : (atQ tn t = -1 ∧ getQ tn t = none) ∨ ∃ (i : Nat) (h : i < t.length), atQ tn t = i ∧ getQ tn t = some t[i] ∧ t[i].tn = tn ∧ ∀ f, modQ tn f t = t.set i (f t[i]) := by
  rcases firstI_cases (isT tn) t with ⟨h1, h2⟩ | ⟨i, h0, h1, h2, h3⟩
  · exact .inl ⟨h1, by rw [getQ, List.find?_eq_none]; intro x hx; simp [h2 x hx]⟩
  · refine .inr ⟨i, h0, h1, ?_, by simpa [isT] using h2, ?_⟩
    · clear h1
      induction t generalizing i with
      | nil => simp at h0
      | cons x r ih =>
        cases i with
        | zero => simp only [List.getElem_cons_zero] at h2 ⊢; simp [getQ, List.find?_cons, h2]
        | succ i =>
          have hx : isT tn x = false := h3 x (by simp [List.take_succ_cons])
          have := ih i (by simpa using h0) (by simpa using h2) (fun y hy => h3 y (by simp [List.take_succ_cons, hy]))
          simp only [getQ, List.find?_cons, hx] at this ⊢
          simpa using this
    · intro f
      clear h1
      induction t generalizing i with
      | nil => simp at h0
      | cons x r ih =>
        cases i with
        | zero => have : x.tn = tn := by simpa [isT] using h2
                  simp [modQ, this]
        | succ i =>
          have hx : ¬ x.tn = tn := by have := h3 x (by simp [List.take_succ_cons]); simpa [isT] using this
          simp only [modQ, if_neg hx, List.set_cons_succ, List.getElem_cons_succ]
          rw [ih i (by simpa using h0) (by simpa using h2) (fun y hy => h3 y (by simp [List.take_succ_cons, hy]))]
def setQ (t : List Qu) (tn li : Int) : List Qu × Bool := match getQ tn t with
  | some _ => (modQ tn (fun r => { r with li := li }) t, true)
  | none => if t.length < 16 then (t ++ [⟨tn, 0, li⟩], true) else ([], false)
def takeQ (t : List Qu) (tn n : Int) : List Qu × Int := match getQ tn t with
  | some r => if r.us ≤ r.li ∧ n ≤ r.li - r.us then (modQ tn (fun r => { r with us := r.us + n }) t, 0) else ([], 121)
  | none => ([], 120)
def giveQ (t : List Qu) (tn n : Int) : List Qu × Int := match getQ tn t with
  | some _ => (modQ tn (fun r => { r with us := r.us - min n r.us }) t, 0)
  | none => ([], 120)
/-- All numbers in range. -/
def Qu.fit (x : Qu) : Prop := (0 ≤ x.tn ∧ x.tn ≤ 18446744073709551615) ∧ (0 ≤ x.us ∧ x.us ≤ 18446744073709551615) ∧ 0 ≤ x.li ∧ x.li ≤ 18446744073709551615
def Fit (t : List Qu) : Prop := ∀ x ∈ t, x.fit
theorem set_enc {t : List Qu} {i : Nat} {a : AVal} {x : Qu} (h : x.enc = a) : (t.map Qu.enc).set i a = (t.set i x).map Qu.enc := by rw [← h, List.map_set]
end Go.Proofs.Ytealccnfnpkngaa.X
