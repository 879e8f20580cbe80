/- Layer 12: Check of the reference, Text, Parse; the law QuotaTexts. -/
import Derived.Test.YtealccnfnpkngaaQ4
import Derived.Test.YtealccnfnpkngaaY3
import Derived.Test.YtealccnfnpkngaaCd
set_option linter.unusedVariables false
set_option linter.unusedSimpArgs false
set_option maxRecDepth 100000
namespace Go.Proofs.Ytealccnfnpkngaa.X
open Go Go.RowKit WM
theorem EN38_Q6 {c : Cfg} {ν : Nm} {e : Env} {H : Heap} {all : Array Oper} {r : List Oper} {i : Nat} {Q : Env → Heap → Prop} {x0 x1 x2 x3 x4 x5 x6 x7 x8 x9 x10 x11 x12 x13 x14 x15 x16 x17 x18 x19 x20 x21 x22 x23 x24 x25 x26 x27 x28 x29 x30 x31 x32 x33 x34 x35 x36 x37 : AVal} (he : e = [x0,x1,x2,x3,x4,x5,x6,x7,x8,x9,x10,x11,x12,x13,x14,x15,x16,x17,x18,x19,x20,x21,x22,x23,x24,x25,x26,x27,x28,x29,x30,x31,x32,x33,x34,x35,x36,x37]) (h : OW c ν all r i [x0,x1,x2,x3,x4,x5,x6,x7,x8,x9,x10,x11,x12,x13,x14,x15,x16,x17,x18,x19,x20,x21,x22,x23,x24,x25,x26,x27,x28,x29,x30,x31,x32,x33,x34,x35,x36,x37] H Q) : OW c ν all r i e H Q := by subst he; exact h
theorem EN59_Q6 {c : Cfg} {ν : Nm} {e : Env} {H : Heap} {all : Array Oper} {r : List Oper} {i : Nat} {Q : Env → Heap → Prop} {x0 x1 x2 x3 x4 x5 x6 x7 x8 x9 x10 x11 x12 x13 x14 x15 x16 x17 x18 x19 x20 x21 x22 x23 x24 x25 x26 x27 x28 x29 x30 x31 x32 x33 x34 x35 x36 x37 x38 x39 x40 x41 x42 x43 x44 x45 x46 x47 x48 x49 x50 x51 x52 x53 x54 x55 x56 x57 x58 : AVal} (he : e = [x0,x1,x2,x3,x4,x5,x6,x7,x8,x9,x10,x11,x12,x13,x14,x15,x16,x17,x18,x19,x20,x21,x22,x23,x24,x25,x26,x27,x28,x29,x30,x31,x32,x33,x34,x35,x36,x37,x38,x39,x40,x41,x42,x43,x44,x45,x46,x47,x48,x49,x50,x51,x52,x53,x54,x55,x56,x57,x58]) (h : OW c ν all r i [x0,x1,x2,x3,x4,x5,x6,x7,x8,x9,x10,x11,x12,x13,x14,x15,x16,x17,x18,x19,x20,x21,x22,x23,x24,x25,x26,x27,x28,x29,x30,x31,x32,x33,x34,x35,x36,x37,x38,x39,x40,x41,x42,x43,x44,x45,x46,x47,x48,x49,x50,x51,x52,x53,x54,x55,x56,x57,x58] H Q) : OW c ν all r i e H Q := by subst he; exact h
theorem EN80_Q6 {c : Cfg} {ν : Nm} {e : Env} {H : Heap} {all : Array Oper} {r : List Oper} {i : Nat} {Q : Env → Heap → Prop} {x0 x1 x2 x3 x4 x5 x6 x7 x8 x9 x10 x11 x12 x13 x14 x15 x16 x17 x18 x19 x20 x21 x22 x23 x24 x25 x26 x27 x28 x29 x30 x31 x32 x33 x34 x35 x36 x37 x38 x39 x40 x41 x42 x43 x44 x45 x46 x47 x48 x49 x50 x51 x52 x53 x54 x55 x56 x57 x58 x59 x60 x61 x62 x63 x64 x65 x66 x67 x68 x69 x70 x71 x72 x73 x74 x75 x76 x77 x78 x79 : AVal} (he : e = [x0,x1,x2,x3,x4,x5,x6,x7,x8,x9,x10,x11,x12,x13,x14,x15,x16,x17,x18,x19,x20,x21,x22,x23,x24,x25,x26,x27,x28,x29,x30,x31,x32,x33,x34,x35,x36,x37,x38,x39,x40,x41,x42,x43,x44,x45,x46,x47,x48,x49,x50,x51,x52,x53,x54,x55,x56,x57,x58,x59,x60,x61,x62,x63,x64,x65,x66,x67,x68,x69,x70,x71,x72,x73,x74,x75,x76,x77,x78,x79]) (h : OW c ν all r i [x0,x1,x2,x3,x4,x5,x6,x7,x8,x9,x10,x11,x12,x13,x14,x15,x16,x17,x18,x19,x20,x21,x22,x23,x24,x25,x26,x27,x28,x29,x30,x31,x32,x33,x34,x35,x36,x37,x38,x39,x40,x41,x42,x43,x44,x45,x46,x47,x48,x49,x50,x51,x52,x53,x54,x55,x56,x57,x58,x59,x60,x61,x62,x63,x64,x65,x66,x67,x68,x69,x70,x71,x72,x73,x74,x75,x76,x77,x78,x79] H Q) : OW c ν all r i e H Q := by subst he; exact h
theorem EZ31_Q6 {c : Cfg} {ν : Nm} {e : Env} {H : Heap} {all : Array Oper} {i : Nat} {Q : Env → Heap → Prop} {x0 x1 x2 x3 x4 x5 x6 x7 x8 x9 x10 x11 x12 x13 x14 x15 x16 x17 x18 x19 x20 x21 x22 x23 x24 x25 x26 x27 x28 x29 x30 : AVal} (he : e = [x0,x1,x2,x3,x4,x5,x6,x7,x8,x9,x10,x11,x12,x13,x14,x15,x16,x17,x18,x19,x20,x21,x22,x23,x24,x25,x26,x27,x28,x29,x30]) (h : Q [x0,x1,x2,x3,x4,x5,x6,x7,x8,x9,x10,x11,x12,x13,x14,x15,x16,x17,x18,x19,x20,x21,x22,x23,x24,x25,x26,x27,x28,x29,x30] H) : OW c ν all [] i e H Q := by subst he; exact OW_nil h
theorem EZ59_Q6 {c : Cfg} {ν : Nm} {e : Env} {H : Heap} {all : Array Oper} {i : Nat} {Q : Env → Heap → Prop} {x0 x1 x2 x3 x4 x5 x6 x7 x8 x9 x10 x11 x12 x13 x14 x15 x16 x17 x18 x19 x20 x21 x22 x23 x24 x25 x26 x27 x28 x29 x30 x31 x32 x33 x34 x35 x36 x37 x38 x39 x40 x41 x42 x43 x44 x45 x46 x47 x48 x49 x50 x51 x52 x53 x54 x55 x56 x57 x58 : AVal} (he : e = [x0,x1,x2,x3,x4,x5,x6,x7,x8,x9,x10,x11,x12,x13,x14,x15,x16,x17,x18,x19,x20,x21,x22,x23,x24,x25,x26,x27,x28,x29,x30,x31,x32,x33,x34,x35,x36,x37,x38,x39,x40,x41,x42,x43,x44,x45,x46,x47,x48,x49,x50,x51,x52,x53,x54,x55,x56,x57,x58]) (h : Q [x0,x1,x2,x3,x4,x5,x6,x7,x8,x9,x10,x11,x12,x13,x14,x15,x16,x17,x18,x19,x20,x21,x22,x23,x24,x25,x26,x27,x28,x29,x30,x31,x32,x33,x34,x35,x36,x37,x38,x39,x40,x41,x42,x43,x44,x45,x46,x47,x48,x49,x50,x51,x52,x53,x54,x55,x56,x57,x58] H) : OW c ν all [] i e H Q := by subst he; exact OW_nil h
theorem EZ80_Q6 {c : Cfg} {ν : Nm} {e : Env} {H : Heap} {all : Array Oper} {i : Nat} {Q : Env → Heap → Prop} {x0 x1 x2 x3 x4 x5 x6 x7 x8 x9 x10 x11 x12 x13 x14 x15 x16 x17 x18 x19 x20 x21 x22 x23 x24 x25 x26 x27 x28 x29 x30 x31 x32 x33 x34 x35 x36 x37 x38 x39 x40 x41 x42 x43 x44 x45 x46 x47 x48 x49 x50 x51 x52 x53 x54 x55 x56 x57 x58 x59 x60 x61 x62 x63 x64 x65 x66 x67 x68 x69 x70 x71 x72 x73 x74 x75 x76 x77 x78 x79 : AVal} (he : e = [x0,x1,x2,x3,x4,x5,x6,x7,x8,x9,x10,x11,x12,x13,x14,x15,x16,x17,x18,x19,x20,x21,x22,x23,x24,x25,x26,x27,x28,x29,x30,x31,x32,x33,x34,x35,x36,x37,x38,x39,x40,x41,x42,x43,x44,x45,x46,x47,x48,x49,x50,x51,x52,x53,x54,x55,x56,x57,x58,x59,x60,x61,x62,x63,x64,x65,x66,x67,x68,x69,x70,x71,x72,x73,x74,x75,x76,x77,x78,x79]) (h : Q [x0,x1,x2,x3,x4,x5,x6,x7,x8,x9,x10,x11,x12,x13,x14,x15,x16,x17,x18,x19,x20,x21,x22,x23,x24,x25,x26,x27,x28,x29,x30,x31,x32,x33,x34,x35,x36,x37,x38,x39,x40,x41,x42,x43,x44,x45,x46,x47,x48,x49,x50,x51,x52,x53,x54,x55,x56,x57,x58,x59,x60,x61,x62,x63,x64,x65,x66,x67,x68,x69,x70,x71,x72,x73,x74,x75,x76,x77,x78,x79] H) : OW c ν all [] i e H Q := by subst he; exact OW_nil h
variable {ν : Nm} {H : Heap} {Q : AVal → Heap → Prop}
theorem r_check {v : AVal} {t : List Qu} (hv : freeze [] H 8 v = .lst (t.map Qu.enc)) (hn : t.length ≤ 4294967296) (hq : Q (.bool (chkQ t)) H) : CW cfg ν 31 [v] H Q := by
  refine CW_borrowL (args' := [.lst (t.map Qu.enc)]) g31 F31 rfl (fz_cons (by first | assumption | exact freeze_plain rfl | exact Ls.freeze (by assumption) | rfl) fz_nil) ?_
  refine XW_sr ?_
  refine OW_as rfl rfl ?_
  refine OW_nilE (e' := [_,_,_,_,_,_,_,_,_,_,_,_,_,_,_,_,_,_,_,_,_,_]) rfl ?_
  refine XW_seq ?_
  refine XW_sr ?_
  refine OW_as rfl rfl ?_
  refine OW_nilE (e' := [_,_,_,_,_,_,_,_,_,_,_,_,_,_,_,_,_,_,_,_,_,_]) rfl ?_
  refine XW_block ?_
  refine XW_whileN (I := fun ν' mm ee H' => ∃ (i : Nat), mm = t.length - i ∧ under (1 :: 0 :: 1 :: ν) ν' = true ∧ (i ≤ t.length ∧ ∀ j (hj : j < t.length), j < i → atQ t[j].tn t = j) ∧ ∃ g : Nat → AVal, ee = [.lst (t.map Qu.enc), g 1, g 2, .int .i64 i, g 4, g 5, g 6, g 7, g 8, g 9, g 10, g 11, g 12, g 13, g 14, g 15, g 16, g 17, g 18, g 19, g 20, g 21]) ?_ _ _ _ _ ⟨0, rfl, under_me, (⟨by omega, fun j hj h => by omega⟩), env_g rfl⟩
  rintro ν1 mm ee H1 ⟨i, rfl, hU1, ⟨hi, hI⟩, g1, rfl⟩
  refine XW_seq ?_
  refine XW_sr ?_
  refine OW_mv rfl rfl ?_
  refine OW_mv rfl rfl ?_
  first
  | refine OW_lenL rfl rfl (by first | assumption | exact Ls.of | exact Ls.emp | exact Ls.nls) rfl rfl rfl (by first | exact List.length_map _ | rfl) ?_
  | refine OW_bi rfl rfl rfl ?_
  refine OW_env (e' := [_,_,_,_,_,_,_,_,_,_,_,_,_,_,_,_,_,_,_,_,_,_]) rfl ?_
  refine OW_bin rfl rfl rfl rfl rfl ?_
  refine OW_nilE (e' := [_,_,_,_,_,_,_,_,_,_,_,_,_,_,_,_,_,_,_,_,_,_]) rfl ?_
  refine XW_if rfl (fun h2 => ?_) (fun h2 => ?_)
  ·try simp only [bs] at h2
   refine XW_skip ?_
   refine then_norm ?_
   refine XW_seq ?_
   refine XW_block ?_
   refine XW_sr ?_
   refine OW_mv rfl rfl ?_
   refine OW_mv rfl rfl ?_
   refine OW_mv rfl rfl ?_
   refine OW_env (e' := [_,_,_,_,_,_,_,_,_,_,_,_,_,_,_,_,_,_,_,_,_,_]) rfl ?_
   first
   | refine OW_iaL rfl rfl rfl Ls.of rfl rfl rfl (by first | rfl | exact (Int.toNat_of_nonneg (by omega)).symm) (by first | assumption | exact at_map (by first | assumption | omega) | exact at_lst (by omega) | rfl) rfl ?_
   | refine OW_iaL rfl rfl rfl (by assumption) rfl rfl rfl (by first | rfl | exact (Int.toNat_of_nonneg (by omega)).symm) (by first | assumption | exact at_map (by first | assumption | omega) | exact at_lst (by omega) | rfl) rfl ?_
   refine OW_fa rfl rfl rfl ?_
   refine OW_loadE rfl rfl rfl (by first | exact part_whole rfl rfl rfl | rfl) ?_
   refine OW_env (e' := [_,_,_,_,_,_,_,_,_,_,_,_,_,_,_,_,_,_,_,_,_,_]) rfl ?_
   refine OW_fn rfl rfl (c_Find (Ls.freeze Ls.of) (by omega) _ ?_) 
   refine OW_mv rfl rfl ?_
   refine OW_bin rfl rfl rfl rfl rfl ?_
   refine OW_nilE (e' := [_,_,_,_,_,_,_,_,_,_,_,_,_,_,_,_,_,_,_,_,_,_]) rfl ?_
   refine XW_if rfl (fun h4 => ?_) (fun h4 => ?_)
   ·try simp only [bs] at h4
    refine XW_sr ?_
    refine OW_as rfl rfl ?_
    refine OW_nilE (e' := [_,_,_,_,_,_,_,_,_,_,_,_,_,_,_,_,_,_,_,_,_,_]) rfl ?_
    refine XW_ret ?_
    refine block_ret ?_
    refine then_ret ?_
    refine block_ret ?_
    refine then_ret ?_
    -- outcome 1
    refine ret_ret (res1 rfl (rv_tmp rfl)) ⟨rfl, ?_⟩
    refine qcast hq ?_
    congr 1
    first | exact (decide_eq_false (fun e => by have := nodup_at e.2 (i := i) (by omega); omega)).symm | (have hnd := at_nodup (fun j hj => hI j hj (by omega)); exact decide_eq_decide.2 ⟨fun h => ⟨by omega, hnd⟩, fun h => by have := h.1; omega⟩)
   ·try simp only [bs] at h4
    refine XW_skip ?_
    refine block_norm ?_
    refine then_norm ?_
    refine XW_region ?_
    refine OW_mv rfl rfl ?_
    first
    | refine OW_bin rfl rfl rfl rfl (add_w64 (by first | omega | assumption | (simp only [ss]; omega))) ?_
    | refine OW_bin rfl rfl rfl rfl rfl ?_
    refine OW_as rfl rfl ?_
    refine OW_nilE (e' := [_,_,_,_,_,_,_,_,_,_,_,_,_,_,_,_,_,_,_,_,_,_]) rfl ?_
    -- round 0.1
    refine ⟨_, ?_, i + 1, rfl, under_in hU1, ?_, env_g rfl⟩
    · first | omega | (simp; omega)
    · exact ⟨by omega, fun j hj h => by by_cases e : j = i; (subst e; omega); exact hI j hj (by omega)⟩
  ·try simp only [bs] at h2
   refine XW_exit ?_
   refine then_exit ?_
   refine block_exit ?_
   refine then_norm ?_
   refine XW_sr ?_
   refine OW_mv rfl rfl ?_
   first
   | refine OW_lenL rfl rfl (by first | assumption | exact Ls.of | exact Ls.emp | exact Ls.nls) rfl rfl rfl (by first | exact List.length_map _ | rfl) ?_
   | refine OW_bi rfl rfl rfl ?_
   refine OW_bin rfl rfl rfl rfl rfl ?_
   refine OW_env (e' := [_,_,_,_,_,_,_,_,_,_,_,_,_,_,_,_,_,_,_,_,_,_]) rfl ?_
   refine OW_as rfl rfl ?_
   refine OW_nilE (e' := [_,_,_,_,_,_,_,_,_,_,_,_,_,_,_,_,_,_,_,_,_,_]) rfl ?_
   refine XW_ret ?_
   -- outcome 2
   refine ret_ret (res1 rfl (rv_tmp rfl)) ⟨rfl, ?_⟩
   refine qcast hq ?_
   congr 1
   first | exact (decide_eq_false (fun e => by have := nodup_at e.2 (i := i) (by omega); omega)).symm | (have hnd := at_nodup (fun j hj => hI j hj (by omega)); exact decide_eq_decide.2 ⟨fun h => ⟨by omega, hnd⟩, fun h => by have := h.1; omega⟩)
def cQu : Cod Qu := (cI.pair (cI.pair cI)).iso (fun p => ⟨p.1, p.2.1, p.2.2⟩) (fun x => (x.tn, x.us, x.li)) (fun _ => rfl) (fun _ => rfl)
def textS (t : List Qu) : ByteArray := ba (encU t.length ++ (t.map cQu.enc).flatten)
theorem enc_len {x : Qu} (h : x.fit) : (cQu.enc x).length ≤ 30 := by
  obtain ⟨f1, f2, f3⟩ := h
  have h1 := encU_le10 (n := x.tn.toNat) (by omega)
  have h2 := encU_le10 (n := x.us.toNat) (by omega)
  have h3 := encU_le10 (n := x.li.toNat) (by omega)
  show (encU x.tn.toNat ++ (encU x.us.toNat ++ encU x.li.toNat)).length ≤ _
  simp only [List.length_append]; omega
theorem flat_len {t : List Qu} (h : Fit t) : ((t.map cQu.enc).flatten).length ≤ 30 * t.length := by
  induction t with
  | nil => simp
  | cons x r ih =>
    have h1 := enc_len (h x (by simp))
    have h2 := ih (fun y hy => h y (by simp [hy]))
    simp only [List.map_cons, List.flatten_cons, List.length_append, List.length_cons] at *
    omega
theorem text_step {t : List Qu} {i : Nat} (hi : i < t.length) (n : Nat) : ba (encU n ++ ((t.take i).map cQu.enc).flatten) ++ (ba (encU t[i].tn.toNat) ++ ba (encU t[i].us.toNat) ++ ba (encU t[i].li.toNat)) = ba (encU n ++ ((t.take (i + 1)).map cQu.enc).flatten) := by
  rw [List.take_succ_eq_append_getElem hi, ba_append, ba_append, ba_append, List.map_append, List.flatten_append]
  congr 1
  simp only [List.map_cons, List.map_nil, List.flatten_cons, List.flatten_nil, List.append_nil, List.append_assoc]
  rfl
theorem text_B {t : List Qu} (hf : Fit t) (hn : t.length ≤ 1048577) : ∀ i, (ba (encU t.length ++ ((t.take i).map cQu.enc).flatten)).size ≤ 32 * t.length + 10 := by
  intro i
  have h1 := flat_len (t := t.take i) (fun x hx => hf x (List.mem_of_mem_take hx))
  have h2 := encU_le10 (n := t.length) (by omega)
  rw [ba_size, List.length_append]
  rw [List.length_take] at h1; omega
theorem p_text {v : AVal} {t : List Qu} (hv : Ls v (t.map Qu.enc)) (hn : t.length ≤ 1048577) (hf : Fit t) (hq : Q (.str (textS t)) H) : CW cfg ν 58 [v] H Q := by
  have hB := text_B hf hn
  refine CW_pure g58 F58 rfl ?_
  have hS0 : Own ν ν (fun _ => none) [] := Own.nil
  refine XW_sr ?_
  refine OW_as rfl rfl ?_
  refine EZ31_Q6 rfl ?_
  refine XW_sr ?_
  refine OW_allocB hS0 (le_app (p := ν) (b := [0, 0, 1])) (under_app [0, 0, 1] under_me) rfl rfl rfl fun H1 hS1 => ?_
  replace hS1 : Own _ _ _ ([_]) := hS1
  refine EZ31_Q6 rfl ?_
  refine XW_sr ?_
  refine OW_mv rfl rfl ?_
  first
  | refine OW_lenL rfl rfl (by first | assumption | exact Ls.of | exact Ls.emp | exact Ls.nls) rfl rfl rfl (by first | exact List.length_map _ | rfl) ?_
  | refine OW_bi rfl rfl rfl ?_
  first
  | refine OW_conv rfl rfl (conv_in rfl rfl rfl (IntWalk.u64_in _ (by omega))) ?_
  | refine OW_conv rfl rfl rfl ?_
  refine OW_env (e' := [_,_,_,_,_,_,_,_,_,_,_,_,_,_,_,_,_,_,_,_,_,_,_,_,_,_,_,_,_,_,_]) rfl ?_
  refine OW_fn rfl rfl (putUi (by omega) ?_) 
  have hz : (⟨#[]⟩ : ByteArray).size + (ba (encU ((t.length : Nat) : Int).toNat)).size ≤ 1099511627776 := by have := encU_i (a := (t.length : Int)) (by omega); show 0 + _ ≤ _; omega
  refine OW_fn rfl rfl (W_write rfl hS1 (k := 0) rfl (le_lit (ν := ν) (a := [1, 0, 1]) (b := [4, 0, 1, 1]) (by decide)) (before_lit (ν := ν) (a := [4, 0, 1, 1]) (b := [5, 0, 1, 1]) (by decide)) (by first | omega | assumption | (simp only [ByteArray.size_append]; omega)) fun H2 hS2 => ?_) 
  replace hS2 : Own _ _ _ ([_]) := hS2
  refine EZ31_Q6 rfl ?_
  refine XW_seq ?_
  refine XW_sr ?_
  refine OW_mv rfl rfl ?_
  first
  | refine OW_lenL rfl rfl (by first | assumption | exact Ls.of | exact Ls.emp | exact Ls.nls) rfl rfl rfl (by first | exact List.length_map _ | rfl) ?_
  | refine OW_bi rfl rfl rfl ?_
  refine OW_mv rfl rfl ?_
  refine EZ31_Q6 rfl ?_
  refine XW_block ?_
  refine XW_whileN (I := fun ν' mm ee H' => ∃ (i : Nat), mm = t.length - i ∧ under (1 :: 0 :: 1 :: 1 :: 1 :: ν) ν' = true ∧ Own ν ν' H' ([bld (0 :: 0 :: 1 :: ν) (ba (encU t.length ++ ((t.take i).map cQu.enc).flatten))]) ∧ (i ≤ t.length) ∧ ∃ g : Nat → AVal, ee = [v, g 1, g 2, .ptr (0 :: 0 :: 1 :: ν) 0 0, g 4, g 5, g 6, g 7, g 8, g 9, g 10, v, .int .i64 t.length, .int .i64 i, g 14, g 15, g 16, g 17, g 18, g 19, g 20, g 21, g 22, g 23, g 24, g 25, g 26, g 27, g 28, g 29, g 30]) ?_ _ _ _ _ ⟨0, rfl, under_me, Own.cast (Own.mono (hS2) (le_lit (ν := ν) (a := [5, 0, 1, 1]) (b := [1, 0, 1, 1, 1]) (by decide))) (by rw [Int.toNat_natCast, ← ba_nil, ba_append]; simp), (by omega), env_g rfl⟩
  rintro ν1 mm ee H3 ⟨i, rfl, hU1, hS3, hi, g1, rfl⟩
  refine XW_sr ?_
  refine OW_bin rfl rfl rfl rfl rfl ?_
  refine EZ31_Q6 rfl ?_
  refine XW_seq ?_
  refine XW_if rfl (fun h4 => ?_) (fun h4 => ?_)
  ·try simp only [bs] at h4
   refine XW_skip ?_
   refine then_norm ?_
   refine XW_seq ?_
   refine XW_block ?_
   refine XW_sr ?_
   obtain ⟨f1, f2, f3⟩ := hf t[i] (List.getElem_mem (by omega))
   have hs1 := encU_i f1; have hs2 := encU_i f2; have hs3 := encU_i f3; have hBi := hB i
   first
   | refine OW_iaL rfl rfl rfl Ls.of rfl rfl rfl (by first | rfl | exact (Int.toNat_of_nonneg (by omega)).symm) (by first | assumption | exact at_map (by first | assumption | omega) | exact at_lst (by omega) | rfl) rfl ?_
   | refine OW_iaL rfl rfl rfl (by assumption) rfl rfl rfl (by first | rfl | exact (Int.toNat_of_nonneg (by omega)).symm) (by first | assumption | exact at_map (by first | assumption | omega) | exact at_lst (by omega) | rfl) rfl ?_
   refine OW_loadE rfl rfl rfl (by first | exact part_whole rfl rfl rfl | rfl) ?_
   refine OW_allocR hS3 (le_app (p := ν1) (b := [2, 0, 0, 1, 1, 0])) (under_app [2, 0, 0, 1, 1, 0] (under_trans (under_app [1, 0, 1, 1, 1] under_me) hU1)) rfl rfl rfl rfl fun H4 hS4 => ?_
   replace hS4 : Own _ _ _ ([_, _]) := hS4
   refine OW_env (e' := [_,_,_,_,_,_,_,_,_,_,_,_,_,_,_,_,_,_,_,_,_,_,_,_,_,_,_,_,_,_,_]) rfl ?_
   first
   | refine OW_storeR hS4 (k := 0) rfl le_refl rfl rfl rfl rfl ⟨rfl, rfl, Nat.le_of_ble_eq_true rfl⟩ (set_whole rfl rfl) fun H5 hS5 => ?_
   | refine OW_storeR hS4 (k := 0) rfl le_refl rfl rfl rfl rfl ⟨rfl, rfl, Nat.le_of_ble_eq_true rfl⟩ (u2 := .agg [_, _, _]) rfl fun H5 hS5 => ?_
   replace hS5 : Own _ _ _ ([_, _]) := hS5
   refine EZ31_Q6 rfl ?_
   refine XW_region ?_
   refine OW_fa rfl rfl rfl ?_
   refine OW_loadR hS5 (k := 0) rfl rfl rfl rfl rfl (by first | exact part_whole rfl rfl rfl | rfl) ?_
   refine OW_fn rfl rfl (putUi (by omega) ?_) 
   refine OW_env (e' := [_,_,_,_,_,_,_,_,_,_,_,_,_,_,_,_,_,_,_,_,_,_,_,_,_,_,_,_,_,_,_]) rfl ?_
   refine OW_fa rfl rfl rfl ?_
   refine OW_loadR hS5 (k := 0) rfl rfl rfl rfl rfl (by first | exact part_whole rfl rfl rfl | rfl) ?_
   refine OW_fn rfl rfl (putUi (by omega) ?_) 
   refine OW_env (e' := [_,_,_,_,_,_,_,_,_,_,_,_,_,_,_,_,_,_,_,_,_,_,_,_,_,_,_,_,_,_,_]) rfl ?_
   refine OW_bin rfl rfl rfl rfl (cat (by first | omega | assumption | (simp only [ss]; omega) | (refine Nat.le_trans (Nat.add_le_add_left (show _ ≤ 256 by decide) _) (by first | omega | (simp only [ss]; omega))) | (refine Nat.le_trans (Nat.add_le_add_right (show _ ≤ 256 by decide) _) (by first | omega | (simp only [ss]; omega))))) ?_
   refine OW_fa rfl rfl rfl ?_
   refine OW_loadR hS5 (k := 0) rfl rfl rfl rfl rfl (by first | exact part_whole rfl rfl rfl | rfl) ?_
   refine OW_env (e' := [_,_,_,_,_,_,_,_,_,_,_,_,_,_,_,_,_,_,_,_,_,_,_,_,_,_,_,_,_,_,_]) rfl ?_
   refine OW_fn rfl rfl (putUi (by omega) ?_) 
   refine OW_bin rfl rfl rfl rfl (cat (by first | omega | assumption | (simp only [ss]; omega) | (refine Nat.le_trans (Nat.add_le_add_left (show _ ≤ 256 by decide) _) (by first | omega | (simp only [ss]; omega))) | (refine Nat.le_trans (Nat.add_le_add_right (show _ ≤ 256 by decide) _) (by first | omega | (simp only [ss]; omega))))) ?_
   refine OW_fn rfl rfl (W_write rfl hS5 (k := 1) rfl (le_lit (ν := ν1) (a := [4, 0, 0, 1, 1, 0]) (b := [11, 1, 0, 1, 1, 0]) (by decide)) (before_lit (ν := ν1) (a := [11, 1, 0, 1, 1, 0]) (b := [12, 1, 0, 1, 1, 0]) (by decide)) (by first | omega | assumption | (simp only [ByteArray.size_append]; omega)) fun H6 hS6 => ?_) 
   replace hS6 : Own _ _ _ ([_, _]) := hS6
   refine EZ31_Q6 rfl ?_
   refine block_norm ?_
   refine then_norm ?_
   refine XW_region ?_
   first
   | refine OW_bin rfl rfl rfl rfl (add_w64 (by first | omega | assumption | (simp only [ss]; omega))) ?_
   | refine OW_bin rfl rfl rfl rfl rfl ?_
   refine OW_mv rfl rfl ?_
   refine EZ31_Q6 rfl ?_
   have hSd1 : Own _ _ _ ([_]) := (Own.drop hS6 (k := 0) rfl)
   -- round 0.1
   refine ⟨_, ?_, i + 1, rfl, under_in hU1, Own.cast (Own.mono (hSd1) (le_lit (ν := ν1) (a := [12, 1, 0, 1, 1, 0]) (b := [1]) (by decide))) (by rw [text_step (by omega)]), ?_, env_g rfl⟩
   · first | omega | (simp; omega)
   · omega
  ·try simp only [bs] at h4
   refine XW_exit ?_
   refine then_exit ?_
   refine block_exit ?_
   refine then_norm ?_
   refine XW_sr ?_
   rw [List.take_of_length_le (by omega)] at hS3
   refine OW_fn rfl rfl (W_string rfl hS3 (k := 0) rfl (le_bef (bef_under (a := []) hU1 (before_lit (ν := ν) (a := [1, 0, 1, 1, 1]) (b := [0, 0, 1, 1, 1, 1]) (by decide)))) (before_lit (ν := ν) (a := [0, 0, 1, 1, 1, 1]) (b := [1, 0, 1, 1, 1, 1]) (by decide)) fun H7 hS7 => ?_) 
   replace hS7 : Own _ _ _ ([]) := hS7
   refine OW_as rfl rfl ?_
   refine EZ31_Q6 rfl ?_
   refine XW_ret ?_
   -- outcome 1
   refine ret_ret (res1 rfl (rv_tmp rfl)) (frz1 (Q := Q) (by first | exact freeze_plain rfl | exact Ls.freeze (by assumption) | exact Ls.freeze Ls.of | exact Ls.freeze Ls.emp | exact Ls.freeze Ls.nls) ?_)
   exact hq
theorem r_text {v : AVal} {t : List Qu} (hv : Ls v (t.map Qu.enc)) (hn : t.length ≤ 1048577) (hf : Fit t) (hq : Q (.str (textS t)) H) : CW cfg ν 63 [v] H Q := by
  have hB := text_B hf hn
  refine CW_pure g63 F63 rfl ?_
  refine XW_sr ?_
  refine OW_as rfl rfl ?_
  refine OW_nilE (e' := [_,_,_,_,_,_,_,_,_,_,_,_,_,_,_,_,_,_,_,_,_,_,_,_,_,_,_,_,_,_,_,_,_,_,_,_,_,_]) rfl ?_
  refine XW_sr ?_
  refine OW_mv rfl rfl ?_
  first
  | refine OW_lenL rfl rfl (by first | assumption | exact Ls.of | exact Ls.emp | exact Ls.nls) rfl rfl rfl (by first | exact List.length_map _ | rfl) ?_
  | refine OW_bi rfl rfl rfl ?_
  first
  | refine OW_conv rfl rfl (conv_in rfl rfl rfl (IntWalk.u64_in _ (by omega))) ?_
  | refine OW_conv rfl rfl rfl ?_
  refine EN38_Q6 rfl ?_
  refine OW_fn rfl rfl (rputUi (by omega) ?_) 
  refine OW_as rfl rfl ?_
  refine OW_nilE (e' := [_,_,_,_,_,_,_,_,_,_,_,_,_,_,_,_,_,_,_,_,_,_,_,_,_,_,_,_,_,_,_,_,_,_,_,_,_,_]) rfl ?_
  refine XW_seq ?_
  refine XW_sr ?_
  rw [Int.toNat_natCast, show encU t.length = encU t.length ++ ((t.take 0).map cQu.enc).flatten by simp]
  refine OW_as rfl rfl ?_
  refine OW_nilE (e' := [_,_,_,_,_,_,_,_,_,_,_,_,_,_,_,_,_,_,_,_,_,_,_,_,_,_,_,_,_,_,_,_,_,_,_,_,_,_]) rfl ?_
  refine XW_block ?_
  refine XW_whileN (I := fun ν' mm ee H' => ∃ (i : Nat), mm = t.length - i ∧ under (1 :: 0 :: 1 :: 1 :: ν) ν' = true ∧ (i ≤ t.length) ∧ ∃ g : Nat → AVal, ee = [v, g 1, g 2, .str (ba (encU t.length ++ ((t.take i).map cQu.enc).flatten)), .int .i64 i, g 5, g 6, g 7, g 8, g 9, g 10, g 11, g 12, g 13, g 14, g 15, g 16, g 17, g 18, g 19, g 20, g 21, g 22, g 23, g 24, g 25, g 26, g 27, g 28, g 29, g 30, g 31, g 32, g 33, g 34, g 35, g 36, g 37]) ?_ _ _ _ _ ⟨0, rfl, under_me, (by omega), env_g rfl⟩
  rintro ν1 mm ee H1 ⟨i, rfl, hU1, hi, g1, rfl⟩
  refine XW_seq ?_
  refine XW_sr ?_
  refine OW_mv rfl rfl ?_
  refine OW_mv rfl rfl ?_
  first
  | refine OW_lenL rfl rfl (by first | assumption | exact Ls.of | exact Ls.emp | exact Ls.nls) rfl rfl rfl (by first | exact List.length_map _ | rfl) ?_
  | refine OW_bi rfl rfl rfl ?_
  refine EN38_Q6 rfl ?_
  refine OW_bin rfl rfl rfl rfl rfl ?_
  refine OW_nilE (e' := [_,_,_,_,_,_,_,_,_,_,_,_,_,_,_,_,_,_,_,_,_,_,_,_,_,_,_,_,_,_,_,_,_,_,_,_,_,_]) rfl ?_
  refine XW_if rfl (fun h3 => ?_) (fun h3 => ?_)
  ·try simp only [bs] at h3
   refine XW_skip ?_
   refine then_norm ?_
   refine XW_seq ?_
   refine XW_block ?_
   refine XW_region ?_
   obtain ⟨f1, f2, f3⟩ := hf t[i] (List.getElem_mem (by omega))
   have hs1 := encU_i f1; have hs2 := encU_i f2; have hs3 := encU_i f3; have hBi := hB i
   refine OW_mv rfl rfl ?_
   refine OW_mv rfl rfl ?_
   refine OW_mv rfl rfl ?_
   refine EN38_Q6 rfl ?_
   first
   | refine OW_iaL rfl rfl rfl Ls.of rfl rfl rfl (by first | rfl | exact (Int.toNat_of_nonneg (by omega)).symm) (by first | assumption | exact at_map (by first | assumption | omega) | exact at_lst (by omega) | rfl) rfl ?_
   | refine OW_iaL rfl rfl rfl (by assumption) rfl rfl rfl (by first | rfl | exact (Int.toNat_of_nonneg (by omega)).symm) (by first | assumption | exact at_map (by first | assumption | omega) | exact at_lst (by omega) | rfl) rfl ?_
   refine OW_fa rfl rfl rfl ?_
   refine OW_loadE rfl rfl rfl (by first | exact part_whole rfl rfl rfl | rfl) ?_
   refine EN38_Q6 rfl ?_
   refine OW_fn rfl rfl (rputUi (by omega) ?_) 
   refine OW_mv rfl rfl ?_
   refine OW_mv rfl rfl ?_
   refine EN38_Q6 rfl ?_
   first
   | refine OW_iaL rfl rfl rfl Ls.of rfl rfl rfl (by first | rfl | exact (Int.toNat_of_nonneg (by omega)).symm) (by first | assumption | exact at_map (by first | assumption | omega) | exact at_lst (by omega) | rfl) rfl ?_
   | refine OW_iaL rfl rfl rfl (by assumption) rfl rfl rfl (by first | rfl | exact (Int.toNat_of_nonneg (by omega)).symm) (by first | assumption | exact at_map (by first | assumption | omega) | exact at_lst (by omega) | rfl) rfl ?_
   refine OW_fa rfl rfl rfl ?_
   refine OW_loadE rfl rfl rfl (by first | exact part_whole rfl rfl rfl | rfl) ?_
   refine EN38_Q6 rfl ?_
   refine OW_fn rfl rfl (rputUi (by omega) ?_) 
   refine OW_bin rfl rfl rfl rfl (cat (by first | omega | assumption | (simp only [ss]; omega) | (refine Nat.le_trans (Nat.add_le_add_left (show _ ≤ 256 by decide) _) (by first | omega | (simp only [ss]; omega))) | (refine Nat.le_trans (Nat.add_le_add_right (show _ ≤ 256 by decide) _) (by first | omega | (simp only [ss]; omega))))) ?_
   refine OW_mv rfl rfl ?_
   refine EN38_Q6 rfl ?_
   refine OW_mv rfl rfl ?_
   first
   | refine OW_iaL rfl rfl rfl Ls.of rfl rfl rfl (by first | rfl | exact (Int.toNat_of_nonneg (by omega)).symm) (by first | assumption | exact at_map (by first | assumption | omega) | exact at_lst (by omega) | rfl) rfl ?_
   | refine OW_iaL rfl rfl rfl (by assumption) rfl rfl rfl (by first | rfl | exact (Int.toNat_of_nonneg (by omega)).symm) (by first | assumption | exact at_map (by first | assumption | omega) | exact at_lst (by omega) | rfl) rfl ?_
   refine OW_fa rfl rfl rfl ?_
   refine EN38_Q6 rfl ?_
   refine OW_loadE rfl rfl rfl (by first | exact part_whole rfl rfl rfl | rfl) ?_
   refine OW_fn rfl rfl (rputUi (by omega) ?_) 
   refine OW_bin rfl rfl rfl rfl (cat (by first | omega | assumption | (simp only [ss]; omega) | (refine Nat.le_trans (Nat.add_le_add_left (show _ ≤ 256 by decide) _) (by first | omega | (simp only [ss]; omega))) | (refine Nat.le_trans (Nat.add_le_add_right (show _ ≤ 256 by decide) _) (by first | omega | (simp only [ss]; omega))))) ?_
   refine EN38_Q6 rfl ?_
   refine OW_bin rfl rfl rfl rfl (cat (by first | omega | assumption | (simp only [ss]; omega) | (refine Nat.le_trans (Nat.add_le_add_left (show _ ≤ 256 by decide) _) (by first | omega | (simp only [ss]; omega))) | (refine Nat.le_trans (Nat.add_le_add_right (show _ ≤ 256 by decide) _) (by first | omega | (simp only [ss]; omega))))) ?_
   rw [text_step (by omega)]
   refine OW_as rfl rfl ?_
   refine OW_nilE (e' := [_,_,_,_,_,_,_,_,_,_,_,_,_,_,_,_,_,_,_,_,_,_,_,_,_,_,_,_,_,_,_,_,_,_,_,_,_,_]) rfl ?_
   refine block_norm ?_
   refine then_norm ?_
   refine XW_region ?_
   refine OW_mv rfl rfl ?_
   first
   | refine OW_bin rfl rfl rfl rfl (add_w64 (by first | omega | assumption | (simp only [ss]; omega))) ?_
   | refine OW_bin rfl rfl rfl rfl rfl ?_
   refine OW_as rfl rfl ?_
   refine OW_nilE (e' := [_,_,_,_,_,_,_,_,_,_,_,_,_,_,_,_,_,_,_,_,_,_,_,_,_,_,_,_,_,_,_,_,_,_,_,_,_,_]) rfl ?_
   -- round 0.1
   refine ⟨_, ?_, i + 1, rfl, under_in hU1, ?_, env_g rfl⟩
   · first | omega | (simp; omega)
   · omega
  ·try simp only [bs] at h3
   refine XW_exit ?_
   refine then_exit ?_
   refine block_exit ?_
   refine then_norm ?_
   refine XW_sr ?_
   rw [List.take_of_length_le (by omega)]
   refine OW_mv rfl rfl ?_
   refine OW_as rfl rfl ?_
   refine OW_nilE (e' := [_,_,_,_,_,_,_,_,_,_,_,_,_,_,_,_,_,_,_,_,_,_,_,_,_,_,_,_,_,_,_,_,_,_,_,_,_,_]) rfl ?_
   refine XW_ret ?_
   -- outcome 1
   refine ret_ret (res1 rfl (rv_tmp rfl)) (frz1 (Q := Q) (by first | exact freeze_plain rfl | exact Ls.freeze (by assumption) | exact Ls.freeze Ls.of | exact Ls.freeze Ls.emp | exact Ls.freeze Ls.nls) ?_)
   exact hq
/-! ### Parse -/
def parS (s : ByteArray) : Option (List Qu) := match (cQu.list 16 (by decide)).all s.data.toList with
  | some l => if chkQ l then some l else none
  | none => none
def resP (s : ByteArray) : List Qu × Bool := match parS s with
  | some l => (l, true)
  | none => ([], false)
theorem tk_row (s : ByteArray) : cQu.tk s.data.toList = if (resU s).2.2 = true ∧ (resU (resU s).2.1).2.2 = true ∧ (resU (resU (resU s).2.1).2.1).2.2 = true then some (⟨(resU s).1, (resU (resU s).2.1).1, (resU (resU (resU s).2.1).2.1).1⟩, (resU (resU (resU s).2.1).2.1).2.1.data.toList) else none := by
  rcases cI_res s with ⟨h1, _, h2⟩ | ⟨h1, h2⟩
  · rw [if_neg (by rw [h1]; simp)]
    exact Cod.iso_tk1 (Cod.pair_tk1 h2)
  · rcases cI_res (resU s).2.1 with ⟨h3, _, h4⟩ | ⟨h3, h4⟩
    · rw [if_neg (by rw [h3]; simp)]
      exact Cod.iso_tk1 (Cod.pair_tk2 h2 (Cod.pair_tk1 h4))
    · rcases cI_res (resU (resU s).2.1).2.1 with ⟨h5, _, h6⟩ | ⟨h5, h6⟩
      · rw [if_neg (by rw [h5]; simp)]
        exact Cod.iso_tk1 (Cod.pair_tk2 h2 (Cod.pair_tk2 h4 h6))
      · rw [if_pos ⟨h1, h3, h5⟩]
        exact Cod.iso_tk2 (Cod.pair_tk3 h2 (Cod.pair_tk3 h4 h6))
theorem parS_far {s : ByteArray} {n : Nat} {r : List UInt8} (h : takeU 64 s.data.toList = some (n, r)) : parS s = if n ≤ 16 then (match cQu.manyT n r with
    | some (l, q) => if q = [] ∧ chkQ l = true then some l else none
    | none => none) else none := by
  unfold parS
  have hl := Cod.list_tk (c := cQu) (hm := (by decide : 16 < 18446744073709551616)) h
  by_cases hn : n ≤ 16
  · rw [if_pos hn] at hl
    rw [if_pos hn]
    cases hm : cQu.manyT n r with
    | none => rw [hm] at hl; rw [Cod.all_none hl]
    | some p =>
      obtain ⟨l, q⟩ := p
      rw [hm] at hl
      rw [Cod.all_of hl]
      by_cases hq : q = []
      · simp [hq]
      · simp [hq]
  · rw [if_neg hn] at hl
    rw [Cod.all_none hl, if_neg hn]
theorem parS_none {s : ByteArray} (h : takeU 64 s.data.toList = none) : parS s = none := by
  unfold parS
  rw [Cod.all_none (Cod.list_none h)]
theorem str_nil {s : ByteArray} (h : s = ⟨#[]⟩) : s.data.toList = [] := by rw [h]
theorem nil_str {s : ByteArray} (h : s.data.toList = []) : s = ⟨#[]⟩ := by rw [← ba_of s, h]; rfl
theorem p_parse {s : ByteArray} (hs : s.size ≤ 4611686018427387904) (hq : Q (.tup [.lst ((resP s).1.map Qu.enc), .bool (resP s).2]) H) : CW cfg ν 51 [.str s] H Q := by
  rcases resU_cases s with ⟨h1, h2⟩ | ⟨n, r, h1, h2, hn, hr⟩
  · rw [resP, parS_none h1] at hq
    refine CW_pure g51 F51 rfl ?_
    have hS0 : Own ν ν (fun _ => none) [] := Own.nil
    refine XW_sr ?_
    refine OW_as rfl rfl ?_
    refine OW_as rfl rfl ?_
    refine EZ59_Q6 rfl ?_
    refine XW_sr ?_
    refine OW_mv rfl rfl ?_
    refine OW_fn rfl rfl (takeU_e hs h2 ?_) 
    refine OW_mv rfl rfl ?_
    refine EN59_Q6 rfl ?_
    refine OW_ex rfl rfl rfl ?_
    refine OW_ex rfl rfl rfl ?_
    refine OW_ex rfl rfl rfl ?_
    refine EN59_Q6 rfl ?_
    refine OW_as rfl rfl ?_
    refine OW_as rfl rfl ?_
    refine OW_as rfl rfl ?_
    refine EZ59_Q6 rfl ?_
    refine XW_seq ?_
    refine XW_sr ?_
    refine OW_mv rfl rfl ?_
    refine OW_un rfl rfl rfl ?_
    refine OW_mv rfl rfl ?_
    refine EN59_Q6 rfl ?_
    refine OW_no rfl ?_
    refine OW_no rfl ?_
    refine OW_pick rfl rfl rfl ?_
    refine EZ59_Q6 rfl ?_
    refine XW_yes rfl rfl ?_
    refine XW_sr ?_
    refine OW_as rfl rfl ?_
    refine OW_as rfl rfl ?_
    refine EZ59_Q6 rfl ?_
    refine XW_ret ?_
    refine then_ret ?_
    -- outcome 1
    refine ret_ret (res2 rfl (rv_tmp rfl) (rv_tmp rfl)) (frz2 (Q := Q) (by first | exact freeze_plain rfl | exact Ls.freeze (by assumption) | exact Ls.freeze Ls.of | exact Ls.freeze Ls.emp | exact Ls.freeze Ls.nls) (by first | exact freeze_plain rfl | exact Ls.freeze (by assumption) | exact Ls.freeze Ls.of | exact Ls.freeze Ls.emp | exact Ls.freeze Ls.nls) ?_)
    exact hq
  · rw [resP, parS_far h1] at hq
    have hbr : (ba r).size = r.length := ba_size r
    refine CW_pure g51 F51 rfl ?_
    have hS0 : Own ν ν (fun _ => none) [] := Own.nil
    refine XW_sr ?_
    refine OW_as rfl rfl ?_
    refine OW_as rfl rfl ?_
    refine EZ59_Q6 rfl ?_
    refine XW_sr ?_
    refine OW_mv rfl rfl ?_
    refine OW_fn rfl rfl (takeU_e hs h2 ?_) 
    refine OW_mv rfl rfl ?_
    refine EN59_Q6 rfl ?_
    refine OW_ex rfl rfl rfl ?_
    refine OW_ex rfl rfl rfl ?_
    refine OW_ex rfl rfl rfl ?_
    refine EN59_Q6 rfl ?_
    refine OW_as rfl rfl ?_
    refine OW_as rfl rfl ?_
    refine OW_as rfl rfl ?_
    refine EZ59_Q6 rfl ?_
    refine XW_seq ?_
    refine XW_sr ?_
    refine OW_mv rfl rfl ?_
    refine OW_un rfl rfl rfl ?_
    refine OW_mv rfl rfl ?_
    refine EN59_Q6 rfl ?_
    refine OW_mv rfl rfl ?_
    refine OW_bin rfl rfl rfl rfl rfl ?_
    refine OW_pick rfl rfl rfl ?_
    refine EZ59_Q6 rfl ?_
    refine XW_if rfl (fun h2 => ?_) (fun h2 => ?_)
    ·try simp only [bs] at h2
     refine XW_sr ?_
     rw [if_neg (by omega)] at hq
     refine OW_as rfl rfl ?_
     refine OW_as rfl rfl ?_
     refine EZ59_Q6 rfl ?_
     refine XW_ret ?_
     refine then_ret ?_
     -- outcome 1
     refine ret_ret (res2 rfl (rv_tmp rfl) (rv_tmp rfl)) (frz2 (Q := Q) (by first | exact freeze_plain rfl | exact Ls.freeze (by assumption) | exact Ls.freeze Ls.of | exact Ls.freeze Ls.emp | exact Ls.freeze Ls.nls) (by first | exact freeze_plain rfl | exact Ls.freeze (by assumption) | exact Ls.freeze Ls.of | exact Ls.freeze Ls.emp | exact Ls.freeze Ls.nls) ?_)
     first | exact hq | (rw [Cod.far_none hF (by omega) (by rw [tk_row, if_neg (by rintro ⟨a1, a2, a3⟩; simp_all)])] at hq; exact hq) | (rw [Cod.far_end hF (by omega)] at hq; simp only at hq; first | (rw [if_neg (by rintro ⟨a1, a2⟩; first | exact g17_3 (nil_str a1) | simp_all)] at hq; exact hq) | (rw [if_pos ⟨str_nil (by assumption), by assumption⟩] at hq; exact hq))
    ·try simp only [bs] at h2
     refine XW_skip ?_
     refine then_norm ?_
     refine XW_sr ?_
     rw [if_pos (by omega)] at hq
     refine OW_as rfl rfl ?_
     refine EZ59_Q6 rfl ?_
     refine XW_seq ?_
     refine XW_sr ?_
     refine OW_mv rfl rfl ?_
     refine OW_mv rfl rfl ?_
     refine EZ59_Q6 rfl ?_
     refine XW_block ?_
     refine XW_whileN (I := fun ν' mm ee H' => ∃ (i : Nat) (O : AVal) (acc : List Qu) (rest : ByteArray), mm = n - i ∧ under (1 :: 0 :: 1 :: 1 :: 1 :: 1 :: ν) ν' = true ∧ Own ν ν' H' ([sl O 3 (acc.map Qu.enc)]) ∧ (cQu.Far n r i acc rest.data.toList ∧ rest.size ≤ s.size) ∧ ∃ g : Nat → AVal, ee = [g 0, g 1, .nls, .bool false, g 4, .str rest, g 6, O, g 8, g 9, g 10, g 11, g 12, g 13, g 14, g 15, g 16, g 17, g 18, g 19, g 20, g 21, g 22, .int .u64 (n : Int), .int .u64 (i : Int), g 25, g 26, g 27, g 28, g 29, g 30, g 31, g 32, g 33, g 34, g 35, g 36, g 37, g 38, g 39, g 40, g 41, g 42, g 43, g 44, g 45, g 46, g 47, g 48, g 49, g 50, g 51, g 52, g 53, g 54, g 55, g 56, g 57, g 58]) ?_ _ _ _ _ ⟨0, .nls, [], ba r, rfl, under_me, Own.cast (Own.mono (hS0.addN) (le_app (p := ν) (b := [1, 0, 1, 1, 1, 1]))) (rfl), (⟨by rw [ba_data]; exact cQu.far0 n r, by omega⟩), env_g rfl⟩
     rintro ν1 mm ee H1 ⟨i, O, acc, rest, rfl, hU1, hS1, ⟨hF, hrs⟩, g1, rfl⟩
     refine XW_sr ?_
     refine OW_bin rfl rfl rfl rfl rfl ?_
     refine EZ59_Q6 rfl ?_
     refine XW_seq ?_
     refine XW_if rfl (fun h6 => ?_) (fun h6 => ?_)
     ·try simp only [bs] at h6
      refine XW_skip ?_
      refine then_norm ?_
      refine XW_seq ?_
      refine XW_block ?_
      refine XW_sr ?_
      have z1 := resU_size rest; have z2 := resU_size (resU rest).2.1; have z3 := resU_size (resU (resU rest).2.1).2.1; have hal := hF.2.1
      refine OW_allocR hS1 (le_app (p := ν1) (b := [0, 0, 0, 1, 1, 0])) (under_app [0, 0, 0, 1, 1, 0] (under_trans (under_app [1, 0, 1, 1, 1, 1] under_me) hU1)) rfl rfl rfl rfl fun H2 hS2 => ?_
      replace hS2 : Own _ _ _ ([_, _]) := hS2
      refine EZ59_Q6 rfl ?_
      refine XW_seq ?_
      refine XW_sr ?_
      refine OW_fa rfl rfl rfl ?_
      refine OW_fa rfl rfl rfl ?_
      refine OW_fa rfl rfl rfl ?_
      refine EN59_Q6 rfl ?_
      refine OW_bs rfl rfl (v := .lst [_, _, _]) rfl ?_
      first
      | refine OW_lenL rfl rfl (by first | assumption | exact Ls.of | exact Ls.emp | exact Ls.nls) rfl rfl rfl (by first | exact List.length_map _ | rfl) ?_
      | refine OW_bi rfl rfl rfl ?_
      | refine OW_lenO hS2 (k := 1) rfl rfl rfl rfl rfl rfl (by first | exact List.length_map _ | exact len_app1 | exact len_drop | (simp only [ss]; rfl) | rfl) ?_
      refine OW_mv rfl rfl ?_
      refine EZ59_Q6 rfl ?_
      refine XW_block ?_
      refine XW_loop ?_
      refine XW_sr ?_
      refine OW_bin rfl rfl rfl rfl rfl ?_
      refine EZ59_Q6 rfl ?_
      refine XW_seq ?_
      refine XW_yes rfl (by first | rfl | decide | (simp; omega)) ?_
      refine XW_skip ?_
      refine then_norm ?_
      refine XW_seq ?_
      refine XW_block ?_
      refine XW_sr ?_
      first
      | refine OW_iaL rfl rfl rfl Ls.of rfl rfl rfl (by first | rfl | exact (Int.toNat_of_nonneg (by omega)).symm) (by first | assumption | exact at_map (by first | assumption | omega) | exact at_lst (by omega) | rfl) rfl ?_
      | refine OW_iaL rfl rfl rfl (by assumption) rfl rfl rfl (by first | rfl | exact (Int.toNat_of_nonneg (by omega)).symm) (by first | assumption | exact at_map (by first | assumption | omega) | exact at_lst (by omega) | rfl) rfl ?_
      refine OW_loadE rfl rfl rfl (by first | exact part_whole rfl rfl rfl | rfl) ?_
      refine OW_as rfl rfl ?_
      refine EZ59_Q6 rfl ?_
      refine XW_sr ?_
      refine OW_mv rfl rfl ?_
      refine OW_mv rfl rfl ?_
      refine OW_fn rfl rfl (takeU_c (by first | assumption | omega) ?_) 
      refine EN59_Q6 rfl ?_
      refine OW_mv rfl rfl ?_
      refine OW_ex rfl rfl rfl ?_
      refine OW_ex rfl rfl rfl ?_
      refine EN59_Q6 rfl ?_
      refine OW_ex rfl rfl rfl ?_
      first
      | refine OW_nc rfl rfl ?_
      | refine OW_nce rfl rfl ?_
      refine OW_storeR hS2 (k := 0) rfl (le_lit (ν := ν1) (a := [1, 0, 0, 1, 1, 0]) (b := [8, 0, 1, 0, 1, 1, 0, 1, 0, 1, 0, 1, 1, 0]) (by decide)) rfl rfl rfl rfl ⟨rfl, rfl, Nat.le_of_ble_eq_true rfl⟩ (u2 := .agg [_, _, _]) rfl fun H3 hS3 => ?_
      replace hS3 : Own _ _ _ ([_, _]) := hS3
      refine EN59_Q6 rfl ?_
      refine OW_as rfl rfl ?_
      refine OW_as rfl rfl ?_
      refine EZ59_Q6 rfl ?_
      refine XW_sr ?_
      refine OW_mv rfl rfl ?_
      refine OW_un rfl rfl rfl ?_
      refine EZ59_Q6 rfl ?_
      refine XW_if rfl (fun h12 => ?_) (fun h12 => ?_)
      ·try simp only [bs] at h12
       refine XW_sr ?_
       refine OW_as rfl rfl ?_
       refine OW_as rfl rfl ?_
       refine EZ59_Q6 rfl ?_
       refine XW_ret ?_
       refine block_ret ?_
       refine then_ret ?_
       refine then_ret ?_
       refine block_ret ?_
       refine then_ret ?_
       refine block_ret ?_
       refine then_ret ?_
       refine block_ret ?_
       refine then_ret ?_
       -- outcome 2
       refine ret_ret (res2 rfl (rv_tmp rfl) (rv_tmp rfl)) (frz2 (Q := Q) (by first | exact freeze_plain rfl | exact Ls.freeze (by assumption) | exact Ls.freeze Ls.of | exact Ls.freeze Ls.emp | exact Ls.freeze Ls.nls) (by first | exact freeze_plain rfl | exact Ls.freeze (by assumption) | exact Ls.freeze Ls.of | exact Ls.freeze Ls.emp | exact Ls.freeze Ls.nls) ?_)
       first | exact hq | (rw [Cod.far_none hF (by omega) (by rw [tk_row, if_neg (by rintro ⟨a1, a2, a3⟩; simp_all)])] at hq; exact hq) | (rw [Cod.far_end hF (by omega)] at hq; simp only at hq; first | (rw [if_neg (by rintro ⟨a1, a2⟩; first | exact g17_3 (nil_str a1) | simp_all)] at hq; exact hq) | (rw [if_pos ⟨str_nil (by assumption), by assumption⟩] at hq; exact hq))
      ·try simp only [bs] at h12
       refine XW_skip ?_
       refine block_norm ?_
       refine then_norm ?_
       refine XW_region ?_
       first
       | refine OW_bin rfl rfl rfl rfl (add_w64 (by first | omega | assumption | (simp only [ss]; omega))) ?_
       | refine OW_bin rfl rfl rfl rfl rfl ?_
       refine OW_mv rfl rfl ?_
       refine EZ59_Q6 rfl ?_
       refine then_norm ?_
       refine XW_loop ?_
       refine XW_sr ?_
       refine OW_bin rfl rfl rfl rfl rfl ?_
       refine EZ59_Q6 rfl ?_
       refine XW_seq ?_
       refine XW_yes rfl (by first | rfl | decide | (simp; omega)) ?_
       refine XW_skip ?_
       refine then_norm ?_
       refine XW_seq ?_
       refine XW_block ?_
       refine XW_sr ?_
       first
       | refine OW_iaL rfl rfl rfl Ls.of rfl rfl rfl (by first | rfl | exact (Int.toNat_of_nonneg (by omega)).symm) (by first | assumption | exact at_map (by first | assumption | omega) | exact at_lst (by omega) | rfl) rfl ?_
       | refine OW_iaL rfl rfl rfl (by assumption) rfl rfl rfl (by first | rfl | exact (Int.toNat_of_nonneg (by omega)).symm) (by first | assumption | exact at_map (by first | assumption | omega) | exact at_lst (by omega) | rfl) rfl ?_
       refine OW_loadE rfl rfl rfl (by first | exact part_whole rfl rfl rfl | rfl) ?_
       refine OW_as rfl rfl ?_
       refine EZ59_Q6 rfl ?_
       refine XW_sr ?_
       refine OW_mv rfl rfl ?_
       refine OW_mv rfl rfl ?_
       refine OW_fn rfl rfl (takeU_c (by first | assumption | omega) ?_) 
       refine EN59_Q6 rfl ?_
       refine OW_mv rfl rfl ?_
       refine OW_ex rfl rfl rfl ?_
       refine OW_ex rfl rfl rfl ?_
       refine EN59_Q6 rfl ?_
       refine OW_ex rfl rfl rfl ?_
       first
       | refine OW_nc rfl rfl ?_
       | refine OW_nce rfl rfl ?_
       refine OW_storeR hS3 (k := 0) rfl (le_lit (ν := ν1) (a := [9, 0, 1, 0, 1, 1, 0, 1, 0, 1, 0, 1, 1, 0]) (b := [8, 0, 1, 0, 1, 1, 0, 1, 1, 0, 1, 0, 1, 1, 0]) (by decide)) rfl rfl rfl rfl ⟨rfl, rfl, Nat.le_of_ble_eq_true rfl⟩ (u2 := .agg [_, _, _]) rfl fun H4 hS4 => ?_
       replace hS4 : Own _ _ _ ([_, _]) := hS4
       refine EN59_Q6 rfl ?_
       refine OW_as rfl rfl ?_
       refine OW_as rfl rfl ?_
       refine EZ59_Q6 rfl ?_
       refine XW_sr ?_
       refine OW_mv rfl rfl ?_
       refine OW_un rfl rfl rfl ?_
       refine EZ59_Q6 rfl ?_
       refine XW_if rfl (fun h12 => ?_) (fun h12 => ?_)
       ·try simp only [bs] at h12
        refine XW_sr ?_
        refine OW_as rfl rfl ?_
        refine OW_as rfl rfl ?_
        refine EZ59_Q6 rfl ?_
        refine XW_ret ?_
        refine block_ret ?_
        refine then_ret ?_
        refine then_ret ?_
        refine block_ret ?_
        refine then_ret ?_
        refine block_ret ?_
        refine then_ret ?_
        refine block_ret ?_
        refine then_ret ?_
        -- outcome 3
        refine ret_ret (res2 rfl (rv_tmp rfl) (rv_tmp rfl)) (frz2 (Q := Q) (by first | exact freeze_plain rfl | exact Ls.freeze (by assumption) | exact Ls.freeze Ls.of | exact Ls.freeze Ls.emp | exact Ls.freeze Ls.nls) (by first | exact freeze_plain rfl | exact Ls.freeze (by assumption) | exact Ls.freeze Ls.of | exact Ls.freeze Ls.emp | exact Ls.freeze Ls.nls) ?_)
        first | exact hq | (rw [Cod.far_none hF (by omega) (by rw [tk_row, if_neg (by rintro ⟨a1, a2, a3⟩; simp_all)])] at hq; exact hq) | (rw [Cod.far_end hF (by omega)] at hq; simp only at hq; first | (rw [if_neg (by rintro ⟨a1, a2⟩; first | exact g17_3 (nil_str a1) | simp_all)] at hq; exact hq) | (rw [if_pos ⟨str_nil (by assumption), by assumption⟩] at hq; exact hq))
       ·try simp only [bs] at h12
        refine XW_skip ?_
        refine block_norm ?_
        refine then_norm ?_
        refine XW_region ?_
        first
        | refine OW_bin rfl rfl rfl rfl (add_w64 (by first | omega | assumption | (simp only [ss]; omega))) ?_
        | refine OW_bin rfl rfl rfl rfl rfl ?_
        refine OW_mv rfl rfl ?_
        refine EZ59_Q6 rfl ?_
        refine then_norm ?_
        refine XW_loop ?_
        refine XW_sr ?_
        refine OW_bin rfl rfl rfl rfl rfl ?_
        refine EZ59_Q6 rfl ?_
        refine XW_seq ?_
        refine XW_yes rfl (by first | rfl | decide | (simp; omega)) ?_
        refine XW_skip ?_
        refine then_norm ?_
        refine XW_seq ?_
        refine XW_block ?_
        refine XW_sr ?_
        first
        | refine OW_iaL rfl rfl rfl Ls.of rfl rfl rfl (by first | rfl | exact (Int.toNat_of_nonneg (by omega)).symm) (by first | assumption | exact at_map (by first | assumption | omega) | exact at_lst (by omega) | rfl) rfl ?_
        | refine OW_iaL rfl rfl rfl (by assumption) rfl rfl rfl (by first | rfl | exact (Int.toNat_of_nonneg (by omega)).symm) (by first | assumption | exact at_map (by first | assumption | omega) | exact at_lst (by omega) | rfl) rfl ?_
        refine OW_loadE rfl rfl rfl (by first | exact part_whole rfl rfl rfl | rfl) ?_
        refine OW_as rfl rfl ?_
        refine EZ59_Q6 rfl ?_
        refine XW_sr ?_
        refine OW_mv rfl rfl ?_
        refine OW_mv rfl rfl ?_
        refine OW_fn rfl rfl (takeU_c (by first | assumption | omega) ?_) 
        refine EN59_Q6 rfl ?_
        refine OW_mv rfl rfl ?_
        refine OW_ex rfl rfl rfl ?_
        refine OW_ex rfl rfl rfl ?_
        refine EN59_Q6 rfl ?_
        refine OW_ex rfl rfl rfl ?_
        first
        | refine OW_nc rfl rfl ?_
        | refine OW_nce rfl rfl ?_
        refine OW_storeR hS4 (k := 0) rfl (le_lit (ν := ν1) (a := [9, 0, 1, 0, 1, 1, 0, 1, 1, 0, 1, 0, 1, 1, 0]) (b := [8, 0, 1, 0, 1, 1, 0, 1, 1, 1, 0, 1, 0, 1, 1, 0]) (by decide)) rfl rfl rfl rfl ⟨rfl, rfl, Nat.le_of_ble_eq_true rfl⟩ (u2 := .agg [_, _, _]) rfl fun H5 hS5 => ?_
        replace hS5 : Own _ _ _ ([_, _]) := hS5
        refine EN59_Q6 rfl ?_
        refine OW_as rfl rfl ?_
        refine OW_as rfl rfl ?_
        refine EZ59_Q6 rfl ?_
        refine XW_sr ?_
        refine OW_mv rfl rfl ?_
        refine OW_un rfl rfl rfl ?_
        refine EZ59_Q6 rfl ?_
        refine XW_if rfl (fun h12 => ?_) (fun h12 => ?_)
        ·try simp only [bs] at h12
         refine XW_sr ?_
         refine OW_as rfl rfl ?_
         refine OW_as rfl rfl ?_
         refine EZ59_Q6 rfl ?_
         refine XW_ret ?_
         refine block_ret ?_
         refine then_ret ?_
         refine then_ret ?_
         refine block_ret ?_
         refine then_ret ?_
         refine block_ret ?_
         refine then_ret ?_
         refine block_ret ?_
         refine then_ret ?_
         -- outcome 4
         refine ret_ret (res2 rfl (rv_tmp rfl) (rv_tmp rfl)) (frz2 (Q := Q) (by first | exact freeze_plain rfl | exact Ls.freeze (by assumption) | exact Ls.freeze Ls.of | exact Ls.freeze Ls.emp | exact Ls.freeze Ls.nls) (by first | exact freeze_plain rfl | exact Ls.freeze (by assumption) | exact Ls.freeze Ls.of | exact Ls.freeze Ls.emp | exact Ls.freeze Ls.nls) ?_)
         first | exact hq | (rw [Cod.far_none hF (by omega) (by rw [tk_row, if_neg (by rintro ⟨a1, a2, a3⟩; simp_all)])] at hq; exact hq) | (rw [Cod.far_end hF (by omega)] at hq; simp only at hq; first | (rw [if_neg (by rintro ⟨a1, a2⟩; first | exact g17_3 (nil_str a1) | simp_all)] at hq; exact hq) | (rw [if_pos ⟨str_nil (by assumption), by assumption⟩] at hq; exact hq))
        ·try simp only [bs] at h12
         refine XW_skip ?_
         refine block_norm ?_
         refine then_norm ?_
         refine XW_region ?_
         first
         | refine OW_bin rfl rfl rfl rfl (add_w64 (by first | omega | assumption | (simp only [ss]; omega))) ?_
         | refine OW_bin rfl rfl rfl rfl rfl ?_
         refine OW_mv rfl rfl ?_
         refine EZ59_Q6 rfl ?_
         refine then_norm ?_
         refine XW_loop ?_
         refine XW_sr ?_
         refine OW_bin rfl rfl rfl rfl rfl ?_
         refine EZ59_Q6 rfl ?_
         refine XW_seq ?_
         refine XW_no rfl (by first | rfl | decide | (simp; omega)) ?_
         refine XW_exit ?_
         refine then_exit ?_
         refine then_exit ?_
         refine block_exit ?_
         refine then_norm ?_
         refine XW_region ?_
         refine OW_mv rfl rfl ?_
         refine OW_loadR hS5 (k := 0) rfl rfl rfl rfl rfl (by first | exact part_whole rfl rfl rfl | rfl) ?_
         refine OW_bs rfl rfl (v := .lst [_]) rfl ?_
         refine EN59_Q6 rfl ?_
         refine OW_app hS5 (k := 1) rfl (le_lit (ν := ν1) (a := [9, 0, 1, 0, 1, 1, 0, 1, 1, 1, 0, 1, 0, 1, 1, 0]) (b := [3, 1, 1, 0, 1, 1, 0]) (by decide)) (under_app [3, 1, 1, 0, 1, 1, 0] (under_trans (under_app [1, 0, 1, 1, 1, 1] under_me) hU1)) rfl rfl rfl rfl rfl rfl rfl rfl (by first | rfl | exact Ls.elems (by assumption)) (by first | exact one_wide rfl | exact map_wide (fun _ => rfl) | assumption | (intro y hy; simp at hy; done)) (by first | omega | (simp only [ss]; omega) | (simp; omega)) (by decide) fun O1 H6 hS6 => ?_
         replace hS6 : Own _ _ _ ([_, _]) := hS6
         refine OW_as rfl rfl ?_
         refine EZ59_Q6 rfl ?_
         refine block_norm ?_
         refine then_norm ?_
         refine XW_region ?_
         first
         | refine OW_bin rfl rfl rfl rfl (add_wu64 (by first | omega | assumption | (simp only [ss]; omega))) ?_
         | refine OW_bin rfl rfl rfl rfl rfl ?_
         refine OW_mv rfl rfl ?_
         refine EZ59_Q6 rfl ?_
         have hSd1 : Own _ _ _ ([_]) := (Own.drop hS6 (k := 0) rfl)
         -- round 0.1
         refine ⟨_, ?_, i + 1, O1, acc ++ [⟨(resU rest).1, (resU (resU rest).2.1).1, (resU (resU (resU rest).2.1).2.1).1⟩], _, rfl, under_in hU1, Own.cast (Own.mono (hSd1) (le_lit (ν := ν1) (a := [4, 1, 1, 0, 1, 1, 0]) (b := [1]) (by decide))) (by simp [Qu.enc]), ?_, env_g rfl⟩
         · first | omega | (simp; omega)
         · exact ⟨Cod.far_step hF (by omega) (by rw [tk_row, if_pos ⟨by assumption, by assumption, by assumption⟩]), by omega⟩
     ·try simp only [bs] at h6
      refine XW_exit ?_
      refine then_exit ?_
      refine block_exit ?_
      refine then_norm ?_
      refine XW_seq ?_
      refine XW_sr ?_
      have hal := hF.2.1; have hin := hF.1
      refine OW_mv rfl rfl ?_
      refine OW_bin rfl rfl rfl rfl rfl ?_
      refine OW_mv rfl rfl ?_
      refine EN59_Q6 rfl ?_
      refine OW_split (tt := 53) rfl (fun g17_3 => ?_) (fun g17_3 => ?_)
      ·try simp only [bs] at g17_3
       refine OW_no rfl ?_
       refine OW_no rfl ?_
       refine EN59_Q6 rfl ?_
       refine OW_no rfl ?_
       refine OW_pick rfl rfl rfl ?_
       refine EZ59_Q6 rfl ?_
       refine XW_yes rfl rfl ?_
       refine XW_sr ?_
       refine OW_as rfl rfl ?_
       refine OW_as rfl rfl ?_
       refine EZ59_Q6 rfl ?_
       refine XW_ret ?_
       refine then_ret ?_
       -- outcome 5
       refine ret_ret (res2 rfl (rv_tmp rfl) (rv_tmp rfl)) (frz2 (Q := Q) (by first | exact freeze_plain rfl | exact Ls.freeze (by assumption) | exact Ls.freeze Ls.of | exact Ls.freeze Ls.emp | exact Ls.freeze Ls.nls) (by first | exact freeze_plain rfl | exact Ls.freeze (by assumption) | exact Ls.freeze Ls.of | exact Ls.freeze Ls.emp | exact Ls.freeze Ls.nls) ?_)
       first | exact hq | (rw [Cod.far_none hF (by omega) (by rw [tk_row, if_neg (by rintro ⟨a1, a2, a3⟩; simp_all)])] at hq; exact hq) | (rw [Cod.far_end hF (by omega)] at hq; simp only at hq; first | (rw [if_neg (by rintro ⟨a1, a2⟩; first | exact g17_3 (nil_str a1) | simp_all)] at hq; exact hq) | (rw [if_pos ⟨str_nil (by assumption), by assumption⟩] at hq; exact hq))
      ·try simp only [bs] at g17_3
       refine OW_mv rfl rfl ?_
       refine OW_fn rfl rfl (c_check (hS1.freeze0 (k := 0) rfl (map_plain (fun _ => rfl))) (by omega) ?_) 
       refine EN59_Q6 rfl ?_
       refine OW_un rfl rfl rfl ?_
       refine OW_pick rfl rfl rfl ?_
       refine EZ59_Q6 rfl ?_
       refine XW_if rfl (fun h17 => ?_) (fun h17 => ?_)
       ·try simp only [bs] at h17
        refine XW_sr ?_
        refine OW_as rfl rfl ?_
        refine OW_as rfl rfl ?_
        refine EZ59_Q6 rfl ?_
        refine XW_ret ?_
        refine then_ret ?_
        -- outcome 6
        refine ret_ret (res2 rfl (rv_tmp rfl) (rv_tmp rfl)) (frz2 (Q := Q) (by first | exact freeze_plain rfl | exact Ls.freeze (by assumption) | exact Ls.freeze Ls.of | exact Ls.freeze Ls.emp | exact Ls.freeze Ls.nls) (by first | exact freeze_plain rfl | exact Ls.freeze (by assumption) | exact Ls.freeze Ls.of | exact Ls.freeze Ls.emp | exact Ls.freeze Ls.nls) ?_)
        first | exact hq | (rw [Cod.far_none hF (by omega) (by rw [tk_row, if_neg (by rintro ⟨a1, a2, a3⟩; simp_all)])] at hq; exact hq) | (rw [Cod.far_end hF (by omega)] at hq; simp only at hq; first | (rw [if_neg (by rintro ⟨a1, a2⟩; first | exact g17_3 (nil_str a1) | simp_all)] at hq; exact hq) | (rw [if_pos ⟨str_nil (by assumption), by assumption⟩] at hq; exact hq))
       ·try simp only [bs] at h17
        refine XW_skip ?_
        refine then_norm ?_
        refine XW_sr ?_
        refine OW_mv rfl rfl ?_
        refine OW_as rfl rfl ?_
        refine OW_as rfl rfl ?_
        refine EZ59_Q6 rfl ?_
        refine XW_ret ?_
        -- outcome 7
        refine ret_ret (res2 rfl (rv_tmp rfl) (rv_tmp rfl)) (frz2 (Q := Q) (by first | exact hS1.frz (k := 0) rfl (by first | exact map_plain (fun _ => rfl) | (intro x hx; simp at hx; done)) | exact freeze_plain rfl | exact Ls.freeze (by assumption) | exact Ls.freeze Ls.of | exact Ls.freeze Ls.emp | exact Ls.freeze Ls.nls) (by first | exact freeze_plain rfl | exact Ls.freeze (by assumption) | exact Ls.freeze Ls.of | exact Ls.freeze Ls.emp | exact Ls.freeze Ls.nls) ?_)
        first | exact hq | (rw [Cod.far_none hF (by omega) (by rw [tk_row, if_neg (by rintro ⟨a1, a2, a3⟩; simp_all)])] at hq; exact hq) | (rw [Cod.far_end hF (by omega)] at hq; simp only at hq; first | (rw [if_neg (by rintro ⟨a1, a2⟩; first | exact g17_3 (nil_str a1) | simp_all)] at hq; exact hq) | (rw [if_pos ⟨str_nil (by assumption), by assumption⟩] at hq; exact hq))
theorem r_parse {s : ByteArray} (hs : s.size ≤ 4611686018427387904) (hq : Q (.tup [.lst ((resP s).1.map Qu.enc), .bool (resP s).2]) H) : CW cfg ν 54 [.str s] H Q := by
  rcases resU_cases s with ⟨h1, h2⟩ | ⟨n, r, h1, h2, hn, hr⟩
  · rw [resP, parS_none h1] at hq
    refine CW_pure g54 F54 rfl ?_
    have hS0 : Own ν ν (fun _ => none) [] := Own.nil
    refine XW_sr ?_
    refine OW_as rfl rfl ?_
    refine OW_as rfl rfl ?_
    refine EZ80_Q6 rfl ?_
    refine XW_sr ?_
    refine OW_mv rfl rfl ?_
    refine OW_fn rfl rfl (rtakeU_e hs h2 ?_) 
    refine OW_mv rfl rfl ?_
    refine EN80_Q6 rfl ?_
    refine OW_ex rfl rfl rfl ?_
    refine OW_ex rfl rfl rfl ?_
    refine OW_ex rfl rfl rfl ?_
    refine EN80_Q6 rfl ?_
    refine OW_as rfl rfl ?_
    refine OW_as rfl rfl ?_
    refine OW_as rfl rfl ?_
    refine EZ80_Q6 rfl ?_
    refine XW_seq ?_
    refine XW_sr ?_
    refine OW_mv rfl rfl ?_
    refine OW_un rfl rfl rfl ?_
    refine OW_mv rfl rfl ?_
    refine EN80_Q6 rfl ?_
    refine OW_no rfl ?_
    refine OW_no rfl ?_
    refine OW_pick rfl rfl rfl ?_
    refine EZ80_Q6 rfl ?_
    refine XW_yes rfl rfl ?_
    refine XW_sr ?_
    refine OW_as rfl rfl ?_
    refine OW_as rfl rfl ?_
    refine EZ80_Q6 rfl ?_
    refine XW_ret ?_
    refine then_ret ?_
    -- outcome 1
    refine ret_ret (res2 rfl (rv_tmp rfl) (rv_tmp rfl)) (frz2 (Q := Q) (by first | exact freeze_plain rfl | exact Ls.freeze (by assumption) | exact Ls.freeze Ls.of | exact Ls.freeze Ls.emp | exact Ls.freeze Ls.nls) (by first | exact freeze_plain rfl | exact Ls.freeze (by assumption) | exact Ls.freeze Ls.of | exact Ls.freeze Ls.emp | exact Ls.freeze Ls.nls) ?_)
    exact hq
  · rw [resP, parS_far h1] at hq
    have hbr : (ba r).size = r.length := ba_size r
    refine CW_pure g54 F54 rfl ?_
    have hS0 : Own ν ν (fun _ => none) [] := Own.nil
    refine XW_sr ?_
    refine OW_as rfl rfl ?_
    refine OW_as rfl rfl ?_
    refine EZ80_Q6 rfl ?_
    refine XW_sr ?_
    refine OW_mv rfl rfl ?_
    refine OW_fn rfl rfl (rtakeU_e hs h2 ?_) 
    refine OW_mv rfl rfl ?_
    refine EN80_Q6 rfl ?_
    refine OW_ex rfl rfl rfl ?_
    refine OW_ex rfl rfl rfl ?_
    refine OW_ex rfl rfl rfl ?_
    refine EN80_Q6 rfl ?_
    refine OW_as rfl rfl ?_
    refine OW_as rfl rfl ?_
    refine OW_as rfl rfl ?_
    refine EZ80_Q6 rfl ?_
    refine XW_seq ?_
    refine XW_sr ?_
    refine OW_mv rfl rfl ?_
    refine OW_un rfl rfl rfl ?_
    refine OW_mv rfl rfl ?_
    refine EN80_Q6 rfl ?_
    refine OW_mv rfl rfl ?_
    refine OW_bin rfl rfl rfl rfl rfl ?_
    refine OW_pick rfl rfl rfl ?_
    refine EZ80_Q6 rfl ?_
    refine XW_if rfl (fun h2 => ?_) (fun h2 => ?_)
    ·try simp only [bs] at h2
     refine XW_sr ?_
     rw [if_neg (by omega)] at hq
     refine OW_as rfl rfl ?_
     refine OW_as rfl rfl ?_
     refine EZ80_Q6 rfl ?_
     refine XW_ret ?_
     refine then_ret ?_
     -- outcome 1
     refine ret_ret (res2 rfl (rv_tmp rfl) (rv_tmp rfl)) (frz2 (Q := Q) (by first | exact freeze_plain rfl | exact Ls.freeze (by assumption) | exact Ls.freeze Ls.of | exact Ls.freeze Ls.emp | exact Ls.freeze Ls.nls) (by first | exact freeze_plain rfl | exact Ls.freeze (by assumption) | exact Ls.freeze Ls.of | exact Ls.freeze Ls.emp | exact Ls.freeze Ls.nls) ?_)
     first | exact hq | (rw [Cod.far_none hF (by omega) (by rw [tk_row, if_neg (by rintro ⟨a1, a2, a3⟩; simp_all)])] at hq; exact hq) | (rw [Cod.far_end hF (by omega)] at hq; simp only at hq; first | (rw [if_neg (by rintro ⟨a1, a2⟩; first | exact g15_3 (nil_str a1) | simp_all)] at hq; exact hq) | (rw [if_pos ⟨str_nil (by assumption), by assumption⟩] at hq; exact hq))
    ·try simp only [bs] at h2
     refine XW_skip ?_
     refine then_norm ?_
     refine XW_sr ?_
     rw [if_pos (by omega)] at hq
     refine OW_bs rfl rfl rfl ?_
     refine OW_as rfl rfl ?_
     refine EZ80_Q6 rfl ?_
     refine XW_seq ?_
     refine XW_sr ?_
     refine OW_as rfl rfl ?_
     refine EZ80_Q6 rfl ?_
     refine XW_block ?_
     refine XW_whileN (I := fun ν' mm ee H' => ∃ (i : Nat) (O : AVal) (acc : List Qu) (rest : ByteArray), mm = n - i ∧ under (1 :: 0 :: 1 :: 1 :: 1 :: 1 :: ν) ν' = true ∧ Own ν ν' H' ([sl O 3 (acc.map Qu.enc)]) ∧ (cQu.Far n r i acc rest.data.toList ∧ rest.size ≤ s.size) ∧ ∃ g : Nat → AVal, ee = [g 0, g 1, .nls, .bool false, .int .u64 (n : Int), .str rest, g 6, O, .int .u64 (i : Int), g 9, g 10, g 11, g 12, g 13, g 14, g 15, g 16, g 17, g 18, g 19, g 20, g 21, g 22, g 23, g 24, g 25, g 26, g 27, g 28, g 29, g 30, g 31, g 32, g 33, g 34, g 35, g 36, g 37, g 38, g 39, g 40, g 41, g 42, g 43, g 44, g 45, g 46, g 47, g 48, g 49, g 50, g 51, g 52, g 53, g 54, g 55, g 56, g 57, g 58, g 59, g 60, g 61, g 62, g 63, g 64, g 65, g 66, g 67, g 68, g 69, g 70, g 71, g 72, g 73, g 74, g 75, g 76, g 77, g 78, g 79]) ?_ _ _ _ _ ⟨0, .emp, [], ba r, rfl, under_me, Own.cast (Own.mono (hS0.addE) (le_app (p := ν) (b := [1, 0, 1, 1, 1, 1]))) (rfl), (⟨by rw [ba_data]; exact cQu.far0 n r, by omega⟩), env_g rfl⟩
     rintro ν1 mm ee H1 ⟨i, O, acc, rest, rfl, hU1, hS1, ⟨hF, hrs⟩, g1, rfl⟩
     refine XW_seq ?_
     refine XW_sr ?_
     refine OW_mv rfl rfl ?_
     refine OW_mv rfl rfl ?_
     refine OW_bin rfl rfl rfl rfl rfl ?_
     refine EZ80_Q6 rfl ?_
     refine XW_if rfl (fun h6 => ?_) (fun h6 => ?_)
     ·try simp only [bs] at h6
      refine XW_skip ?_
      refine then_norm ?_
      refine XW_seq ?_
      refine XW_block ?_
      refine XW_sr ?_
      have z1 := resU_size rest; have z2 := resU_size (resU rest).2.1; have z3 := resU_size (resU (resU rest).2.1).2.1; have hal := hF.2.1
      refine OW_mv rfl rfl ?_
      refine OW_fn rfl rfl (rtakeU (by first | assumption | omega) ?_) 
      refine OW_mv rfl rfl ?_
      refine EN80_Q6 rfl ?_
      refine OW_ex rfl rfl rfl ?_
      refine OW_ex rfl rfl rfl ?_
      refine OW_ex rfl rfl rfl ?_
      refine EN80_Q6 rfl ?_
      refine OW_as rfl rfl ?_
      refine OW_as rfl rfl ?_
      refine OW_as rfl rfl ?_
      refine EZ80_Q6 rfl ?_
      refine XW_sr ?_
      refine OW_mv rfl rfl ?_
      refine OW_fn rfl rfl (rtakeU (by first | assumption | omega) ?_) 
      refine OW_mv rfl rfl ?_
      refine EN80_Q6 rfl ?_
      refine OW_ex rfl rfl rfl ?_
      refine OW_ex rfl rfl rfl ?_
      refine OW_ex rfl rfl rfl ?_
      refine EN80_Q6 rfl ?_
      refine OW_as rfl rfl ?_
      refine OW_as rfl rfl ?_
      refine OW_as rfl rfl ?_
      refine EZ80_Q6 rfl ?_
      refine XW_sr ?_
      refine OW_mv rfl rfl ?_
      refine OW_fn rfl rfl (rtakeU (by first | assumption | omega) ?_) 
      refine OW_mv rfl rfl ?_
      refine EN80_Q6 rfl ?_
      refine OW_ex rfl rfl rfl ?_
      refine OW_ex rfl rfl rfl ?_
      refine OW_ex rfl rfl rfl ?_
      refine EN80_Q6 rfl ?_
      refine OW_as rfl rfl ?_
      refine OW_as rfl rfl ?_
      refine OW_as rfl rfl ?_
      refine EZ80_Q6 rfl ?_
      refine XW_seq ?_
      refine XW_sr ?_
      refine OW_mv rfl rfl ?_
      refine OW_un rfl rfl rfl ?_
      refine OW_mv rfl rfl ?_
      refine EN80_Q6 rfl ?_
      refine OW_split (tt := 56) rfl (fun g11_3 => ?_) (fun g11_3 => ?_)
      ·try simp only [bs] at g11_3
       refine OW_no rfl ?_
       refine OW_no rfl ?_
       refine EN80_Q6 rfl ?_
       refine OW_pick rfl rfl rfl ?_
       refine OW_mv rfl rfl ?_
       refine OW_no rfl ?_
       refine EN80_Q6 rfl ?_
       refine OW_no rfl ?_
       refine OW_pick rfl rfl rfl ?_
       refine EZ80_Q6 rfl ?_
       refine XW_yes rfl rfl ?_
       refine XW_sr ?_
       refine OW_as rfl rfl ?_
       refine OW_as rfl rfl ?_
       refine EZ80_Q6 rfl ?_
       refine XW_ret ?_
       refine then_ret ?_
       refine block_ret ?_
       refine then_ret ?_
       refine block_ret ?_
       refine then_ret ?_
       -- outcome 2
       refine ret_ret (res2 rfl (rv_tmp rfl) (rv_tmp rfl)) (frz2 (Q := Q) (by first | exact freeze_plain rfl | exact Ls.freeze (by assumption) | exact Ls.freeze Ls.of | exact Ls.freeze Ls.emp | exact Ls.freeze Ls.nls) (by first | exact freeze_plain rfl | exact Ls.freeze (by assumption) | exact Ls.freeze Ls.of | exact Ls.freeze Ls.emp | exact Ls.freeze Ls.nls) ?_)
       first | exact hq | (rw [Cod.far_none hF (by omega) (by rw [tk_row, if_neg (by rintro ⟨a1, a2, a3⟩; simp_all)])] at hq; exact hq) | (rw [Cod.far_end hF (by omega)] at hq; simp only at hq; first | (rw [if_neg (by rintro ⟨a1, a2⟩; first | exact g15_3 (nil_str a1) | simp_all)] at hq; exact hq) | (rw [if_pos ⟨str_nil (by assumption), by assumption⟩] at hq; exact hq))
      ·try simp only [bs] at g11_3
       refine OW_mv rfl rfl ?_
       refine OW_un rfl rfl rfl ?_
       refine EN80_Q6 rfl ?_
       refine OW_pick rfl rfl rfl ?_
       refine OW_mv rfl rfl ?_
       refine OW_split (tt := 60) rfl (fun g11_7 => ?_) (fun g11_7 => ?_)
       ·try simp only [bs] at g11_7
        refine EN80_Q6 rfl ?_
        refine OW_no rfl ?_
        refine OW_no rfl ?_
        refine OW_pick rfl rfl rfl ?_
        refine EZ80_Q6 rfl ?_
        refine XW_yes rfl rfl ?_
        refine XW_sr ?_
        refine OW_as rfl rfl ?_
        refine OW_as rfl rfl ?_
        refine EZ80_Q6 rfl ?_
        refine XW_ret ?_
        refine then_ret ?_
        refine block_ret ?_
        refine then_ret ?_
        refine block_ret ?_
        refine then_ret ?_
        -- outcome 3
        refine ret_ret (res2 rfl (rv_tmp rfl) (rv_tmp rfl)) (frz2 (Q := Q) (by first | exact freeze_plain rfl | exact Ls.freeze (by assumption) | exact Ls.freeze Ls.of | exact Ls.freeze Ls.emp | exact Ls.freeze Ls.nls) (by first | exact freeze_plain rfl | exact Ls.freeze (by assumption) | exact Ls.freeze Ls.of | exact Ls.freeze Ls.emp | exact Ls.freeze Ls.nls) ?_)
        first | exact hq | (rw [Cod.far_none hF (by omega) (by rw [tk_row, if_neg (by rintro ⟨a1, a2, a3⟩; simp_all)])] at hq; exact hq) | (rw [Cod.far_end hF (by omega)] at hq; simp only at hq; first | (rw [if_neg (by rintro ⟨a1, a2⟩; first | exact g15_3 (nil_str a1) | simp_all)] at hq; exact hq) | (rw [if_pos ⟨str_nil (by assumption), by assumption⟩] at hq; exact hq))
       ·try simp only [bs] at g11_7
        refine EN80_Q6 rfl ?_
        refine OW_mv rfl rfl ?_
        refine OW_un rfl rfl rfl ?_
        refine OW_pick rfl rfl rfl ?_
        refine EZ80_Q6 rfl ?_
        refine XW_if rfl (fun h11 => ?_) (fun h11 => ?_)
        ·try simp only [bs] at h11
         refine XW_sr ?_
         refine OW_as rfl rfl ?_
         refine OW_as rfl rfl ?_
         refine EZ80_Q6 rfl ?_
         refine XW_ret ?_
         refine then_ret ?_
         refine block_ret ?_
         refine then_ret ?_
         refine block_ret ?_
         refine then_ret ?_
         -- outcome 4
         refine ret_ret (res2 rfl (rv_tmp rfl) (rv_tmp rfl)) (frz2 (Q := Q) (by first | exact freeze_plain rfl | exact Ls.freeze (by assumption) | exact Ls.freeze Ls.of | exact Ls.freeze Ls.emp | exact Ls.freeze Ls.nls) (by first | exact freeze_plain rfl | exact Ls.freeze (by assumption) | exact Ls.freeze Ls.of | exact Ls.freeze Ls.emp | exact Ls.freeze Ls.nls) ?_)
         first | exact hq | (rw [Cod.far_none hF (by omega) (by rw [tk_row, if_neg (by rintro ⟨a1, a2, a3⟩; simp_all)])] at hq; exact hq) | (rw [Cod.far_end hF (by omega)] at hq; simp only at hq; first | (rw [if_neg (by rintro ⟨a1, a2⟩; first | exact g15_3 (nil_str a1) | simp_all)] at hq; exact hq) | (rw [if_pos ⟨str_nil (by assumption), by assumption⟩] at hq; exact hq))
        ·try simp only [bs] at h11
         refine XW_skip ?_
         refine then_norm ?_
         refine XW_sr ?_
         refine OW_mv rfl rfl ?_
         refine OW_mv rfl rfl ?_
         refine OW_mv rfl rfl ?_
         refine EN80_Q6 rfl ?_
         refine OW_mv rfl rfl ?_
         refine OW_bd rfl rfl (v := .agg [_, _, _]) rfl ?_
         refine OW_bs rfl rfl (v := .lst [_]) rfl ?_
         refine EN80_Q6 rfl ?_
         refine OW_app hS1 (k := 0) rfl (le_app (p := ν1) (b := [6, 0, 1, 1, 1, 1, 0, 1, 0])) (under_app [6, 0, 1, 1, 1, 1, 0, 1, 0] (under_trans (under_app [1, 0, 1, 1, 1, 1] under_me) hU1)) rfl rfl rfl rfl rfl rfl rfl rfl (by first | rfl | exact Ls.elems (by assumption)) (by first | exact one_wide rfl | exact map_wide (fun _ => rfl) | assumption | (intro y hy; simp at hy; done)) (by first | omega | (simp only [ss]; omega) | (simp; omega)) (by decide) fun O1 H2 hS2 => ?_
         replace hS2 : Own _ _ _ ([_]) := hS2
         refine OW_as rfl rfl ?_
         refine EZ80_Q6 rfl ?_
         refine XW_region ?_
         refine OW_mv rfl rfl ?_
         refine OW_as rfl rfl ?_
         refine EZ80_Q6 rfl ?_
         refine block_norm ?_
         refine then_norm ?_
         refine XW_region ?_
         refine OW_mv rfl rfl ?_
         first
         | refine OW_bin rfl rfl rfl rfl (add_wu64 (by first | omega | assumption | (simp only [ss]; omega))) ?_
         | refine OW_bin rfl rfl rfl rfl rfl ?_
         refine OW_as rfl rfl ?_
         refine EZ80_Q6 rfl ?_
         -- round 0.1
         refine ⟨_, ?_, i + 1, O1, acc ++ [⟨(resU rest).1, (resU (resU rest).2.1).1, (resU (resU (resU rest).2.1).2.1).1⟩], _, rfl, under_in hU1, Own.cast (Own.mono (hS2) (le_lit (ν := ν1) (a := [7, 0, 1, 1, 1, 1, 0, 1, 0]) (b := [1]) (by decide))) (by simp [Qu.enc]), ?_, env_g rfl⟩
         · first | omega | (simp; omega)
         · exact ⟨Cod.far_step hF (by omega) (by rw [tk_row, if_pos ⟨by simpa using g11_3, by simpa using g11_7, by simpa using h11⟩]), by omega⟩
     ·try simp only [bs] at h6
      refine XW_exit ?_
      refine then_exit ?_
      refine block_exit ?_
      refine then_norm ?_
      refine XW_seq ?_
      refine XW_sr ?_
      have hal := hF.2.1; have hin := hF.1
      refine OW_mv rfl rfl ?_
      refine OW_bin rfl rfl rfl rfl rfl ?_
      refine OW_mv rfl rfl ?_
      refine EN80_Q6 rfl ?_
      refine OW_split (tt := 74) rfl (fun g15_3 => ?_) (fun g15_3 => ?_)
      ·try simp only [bs] at g15_3
       refine OW_no rfl ?_
       refine OW_no rfl ?_
       refine EN80_Q6 rfl ?_
       refine OW_no rfl ?_
       refine OW_pick rfl rfl rfl ?_
       refine EZ80_Q6 rfl ?_
       refine XW_yes rfl rfl ?_
       refine XW_sr ?_
       refine OW_as rfl rfl ?_
       refine OW_as rfl rfl ?_
       refine EZ80_Q6 rfl ?_
       refine XW_ret ?_
       refine then_ret ?_
       -- outcome 5
       refine ret_ret (res2 rfl (rv_tmp rfl) (rv_tmp rfl)) (frz2 (Q := Q) (by first | exact freeze_plain rfl | exact Ls.freeze (by assumption) | exact Ls.freeze Ls.of | exact Ls.freeze Ls.emp | exact Ls.freeze Ls.nls) (by first | exact freeze_plain rfl | exact Ls.freeze (by assumption) | exact Ls.freeze Ls.of | exact Ls.freeze Ls.emp | exact Ls.freeze Ls.nls) ?_)
       first | exact hq | (rw [Cod.far_none hF (by omega) (by rw [tk_row, if_neg (by rintro ⟨a1, a2, a3⟩; simp_all)])] at hq; exact hq) | (rw [Cod.far_end hF (by omega)] at hq; simp only at hq; first | (rw [if_neg (by rintro ⟨a1, a2⟩; first | exact g15_3 (nil_str a1) | simp_all)] at hq; exact hq) | (rw [if_pos ⟨str_nil (by assumption), by assumption⟩] at hq; exact hq))
      ·try simp only [bs] at g15_3
       refine OW_mv rfl rfl ?_
       refine OW_fn rfl rfl (r_check (hS1.freeze0 (k := 0) rfl (map_plain (fun _ => rfl))) (by omega) ?_) 
       refine EN80_Q6 rfl ?_
       refine OW_un rfl rfl rfl ?_
       refine OW_pick rfl rfl rfl ?_
       refine EZ80_Q6 rfl ?_
       refine XW_if rfl (fun h15 => ?_) (fun h15 => ?_)
       ·try simp only [bs] at h15
        refine XW_sr ?_
        refine OW_as rfl rfl ?_
        refine OW_as rfl rfl ?_
        refine EZ80_Q6 rfl ?_
        refine XW_ret ?_
        refine then_ret ?_
        -- outcome 6
        refine ret_ret (res2 rfl (rv_tmp rfl) (rv_tmp rfl)) (frz2 (Q := Q) (by first | exact freeze_plain rfl | exact Ls.freeze (by assumption) | exact Ls.freeze Ls.of | exact Ls.freeze Ls.emp | exact Ls.freeze Ls.nls) (by first | exact freeze_plain rfl | exact Ls.freeze (by assumption) | exact Ls.freeze Ls.of | exact Ls.freeze Ls.emp | exact Ls.freeze Ls.nls) ?_)
        first | exact hq | (rw [Cod.far_none hF (by omega) (by rw [tk_row, if_neg (by rintro ⟨a1, a2, a3⟩; simp_all)])] at hq; exact hq) | (rw [Cod.far_end hF (by omega)] at hq; simp only at hq; first | (rw [if_neg (by rintro ⟨a1, a2⟩; first | exact g15_3 (nil_str a1) | simp_all)] at hq; exact hq) | (rw [if_pos ⟨str_nil (by assumption), by assumption⟩] at hq; exact hq))
       ·try simp only [bs] at h15
        refine XW_skip ?_
        refine then_norm ?_
        refine XW_sr ?_
        refine OW_mv rfl rfl ?_
        refine OW_as rfl rfl ?_
        refine OW_as rfl rfl ?_
        refine EZ80_Q6 rfl ?_
        refine XW_ret ?_
        -- outcome 7
        refine ret_ret (res2 rfl (rv_tmp rfl) (rv_tmp rfl)) (frz2 (Q := Q) (by first | exact hS1.frz (k := 0) rfl (by first | exact map_plain (fun _ => rfl) | (intro x hx; simp at hx; done)) | exact freeze_plain rfl | exact Ls.freeze (by assumption) | exact Ls.freeze Ls.of | exact Ls.freeze Ls.emp | exact Ls.freeze Ls.nls) (by first | exact freeze_plain rfl | exact Ls.freeze (by assumption) | exact Ls.freeze Ls.of | exact Ls.freeze Ls.emp | exact Ls.freeze Ls.nls) ?_)
        first | exact hq | (rw [Cod.far_none hF (by omega) (by rw [tk_row, if_neg (by rintro ⟨a1, a2, a3⟩; simp_all)])] at hq; exact hq) | (rw [Cod.far_end hF (by omega)] at hq; simp only at hq; first | (rw [if_neg (by rintro ⟨a1, a2⟩; first | exact g15_3 (nil_str a1) | simp_all)] at hq; exact hq) | (rw [if_pos ⟨str_nil (by assumption), by assumption⟩] at hq; exact hq))
/-! ### What a text says -/
theorem parS_iff (s : ByteArray) (l : List Qu) : parS s = some l ↔ chkQ l = true ∧ Fit l ∧ s = textS l := by
  unfold parS
  constructor
  · intro h
    cases ha : (cQu.list 16 (by decide)).all s.data.toList with
    | none => rw [ha] at h; cases h
    | some l' =>
      rw [ha] at h
      simp only at h
      split at h
      · rename_i hc
        cases h
        obtain ⟨⟨h1, h2⟩, h3⟩ := (Cod.all_iff _ _ _).1 ha
        exact ⟨hc, h2, by rw [← ba_of s, h3]; rfl⟩
      · cases h
  · rintro ⟨h1, h2, rfl⟩
    have hc := of_decide_eq_true h1
    have : (cQu.list 16 (by decide)).all (textS l).data.toList = some l := (Cod.all_iff _ _ _).2 ⟨⟨hc.1, h2⟩, rfl⟩
    rw [this]
    simp only [h1, if_true]
theorem textS_inj {s t : List Qu} (hs : Fit s) (ht : Fit t) (ls : s.length ≤ 4611686018427387904) (lt : t.length ≤ 4611686018427387904) (h : textS s = textS t) : s = t := by
  have e := ba_inj.1 h
  exact ((cQu.list 4611686018427387904 (by decide)).inj (a := s) (b := t) (x := []) (y := []) ⟨ls, hs⟩ ⟨lt, ht⟩ (by rw [List.append_nil, List.append_nil]; exact e)).1
theorem parS_text {t : List Qu} (hf : Fit t) (hl : t.length ≤ 4611686018427387904) : parS (textS t) = if chkQ t then some t else none := by
  split
  · rename_i h
    exact (parS_iff _ _).2 ⟨h, hf, rfl⟩
  · rename_i h
    cases hp : parS (textS t) with
    | none => rfl
    | some l =>
      obtain ⟨h1, h2, h3⟩ := (parS_iff _ _).1 hp
      have hc := of_decide_eq_true h1
      have := textS_inj hf h2 hl (by omega) h3
      subst this
      exact absurd h1 h
theorem resP_len (s : ByteArray) : (resP s).1.length ≤ 16 := by
  unfold resP
  cases h : parS s with
  | none => simp
  | some l => exact (of_decide_eq_true ((parS_iff _ _).1 h).1).1
theorem p_parse_e {s : ByteArray} {l : List Qu} {b : Bool} (hs : s.size ≤ 4611686018427387904) (he : resP s = (l, b)) (hq : Q (.tup [.lst (l.map Qu.enc), .bool b]) H) : CW cfg ν 51 [.str s] H Q := p_parse hs (by rw [he]; exact hq)
end Go.Proofs.Ytealccnfnpkngaa.X
