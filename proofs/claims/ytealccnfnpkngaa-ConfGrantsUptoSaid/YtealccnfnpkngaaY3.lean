/- Texts as bytes. -/
import Derived.Test.YtealccnfnpkngaaY2
import Derived.Test.YtealccnfnpkngaaCd
set_option linter.unusedVariables false
set_option linter.unusedSimpArgs false
set_option maxRecDepth 100000
namespace Go.Proofs.Ytealccnfnpkngaa.X
open Go Go.RowKit WM
theorem EN41_Y3 {c : Cfg} {ν : Nm} {e : Env} {H : Heap} {all : Array Oper} {r : List Oper} {i : Nat} {Q : Env → Heap → Prop} {x0 x1 x2 x3 x4 x5 x6 x7 x8 x9 x10 x11 x12 x13 x14 x15 x16 x17 x18 x19 x20 x21 x22 x23 x24 x25 x26 x27 x28 x29 x30 x31 x32 x33 x34 x35 x36 x37 x38 x39 x40 : AVal} (he : e = [x0,x1,x2,x3,x4,x5,x6,x7,x8,x9,x10,x11,x12,x13,x14,x15,x16,x17,x18,x19,x20,x21,x22,x23,x24,x25,x26,x27,x28,x29,x30,x31,x32,x33,x34,x35,x36,x37,x38,x39,x40]) (h : OW c ν all r i [x0,x1,x2,x3,x4,x5,x6,x7,x8,x9,x10,x11,x12,x13,x14,x15,x16,x17,x18,x19,x20,x21,x22,x23,x24,x25,x26,x27,x28,x29,x30,x31,x32,x33,x34,x35,x36,x37,x38,x39,x40] H Q) : OW c ν all r i e H Q := by subst he; exact h
theorem EN43_Y3 {c : Cfg} {ν : Nm} {e : Env} {H : Heap} {all : Array Oper} {r : List Oper} {i : Nat} {Q : Env → Heap → Prop} {x0 x1 x2 x3 x4 x5 x6 x7 x8 x9 x10 x11 x12 x13 x14 x15 x16 x17 x18 x19 x20 x21 x22 x23 x24 x25 x26 x27 x28 x29 x30 x31 x32 x33 x34 x35 x36 x37 x38 x39 x40 x41 x42 : AVal} (he : e = [x0,x1,x2,x3,x4,x5,x6,x7,x8,x9,x10,x11,x12,x13,x14,x15,x16,x17,x18,x19,x20,x21,x22,x23,x24,x25,x26,x27,x28,x29,x30,x31,x32,x33,x34,x35,x36,x37,x38,x39,x40,x41,x42]) (h : OW c ν all r i [x0,x1,x2,x3,x4,x5,x6,x7,x8,x9,x10,x11,x12,x13,x14,x15,x16,x17,x18,x19,x20,x21,x22,x23,x24,x25,x26,x27,x28,x29,x30,x31,x32,x33,x34,x35,x36,x37,x38,x39,x40,x41,x42] H Q) : OW c ν all r i e H Q := by subst he; exact h
theorem EZ41_Y3 {c : Cfg} {ν : Nm} {e : Env} {H : Heap} {all : Array Oper} {i : Nat} {Q : Env → Heap → Prop} {x0 x1 x2 x3 x4 x5 x6 x7 x8 x9 x10 x11 x12 x13 x14 x15 x16 x17 x18 x19 x20 x21 x22 x23 x24 x25 x26 x27 x28 x29 x30 x31 x32 x33 x34 x35 x36 x37 x38 x39 x40 : AVal} (he : e = [x0,x1,x2,x3,x4,x5,x6,x7,x8,x9,x10,x11,x12,x13,x14,x15,x16,x17,x18,x19,x20,x21,x22,x23,x24,x25,x26,x27,x28,x29,x30,x31,x32,x33,x34,x35,x36,x37,x38,x39,x40]) (h : Q [x0,x1,x2,x3,x4,x5,x6,x7,x8,x9,x10,x11,x12,x13,x14,x15,x16,x17,x18,x19,x20,x21,x22,x23,x24,x25,x26,x27,x28,x29,x30,x31,x32,x33,x34,x35,x36,x37,x38,x39,x40] H) : OW c ν all [] i e H Q := by subst he; exact OW_nil h
theorem EZ43_Y3 {c : Cfg} {ν : Nm} {e : Env} {H : Heap} {all : Array Oper} {i : Nat} {Q : Env → Heap → Prop} {x0 x1 x2 x3 x4 x5 x6 x7 x8 x9 x10 x11 x12 x13 x14 x15 x16 x17 x18 x19 x20 x21 x22 x23 x24 x25 x26 x27 x28 x29 x30 x31 x32 x33 x34 x35 x36 x37 x38 x39 x40 x41 x42 : AVal} (he : e = [x0,x1,x2,x3,x4,x5,x6,x7,x8,x9,x10,x11,x12,x13,x14,x15,x16,x17,x18,x19,x20,x21,x22,x23,x24,x25,x26,x27,x28,x29,x30,x31,x32,x33,x34,x35,x36,x37,x38,x39,x40,x41,x42]) (h : Q [x0,x1,x2,x3,x4,x5,x6,x7,x8,x9,x10,x11,x12,x13,x14,x15,x16,x17,x18,x19,x20,x21,x22,x23,x24,x25,x26,x27,x28,x29,x30,x31,x32,x33,x34,x35,x36,x37,x38,x39,x40,x41,x42] H) : OW c ν all [] i e H Q := by subst he; exact OW_nil h
variable {ν β ps pos' : Nm} {H : Heap} {Q : AVal → Heap → Prop} {L : List Asr}
def encS (s : ByteArray) : ByteArray := ba (encT s.data.toList)
theorem encS_eq (s : ByteArray) : ba (encU s.size) ++ s = encS s := by
  unfold encS encT
  rw [← ba_append, ba_of]; rfl
theorem encS_size {s : ByteArray} (hs : s.size ≤ 4611686018427387904) : (encS s).size ≤ s.size + 10 := by
  have h := encU_le10 (n := s.size) (by omega)
  unfold encS encT
  rw [ba_size, List.length_append, bytes_size]; omega
theorem putTx {s : ByteArray} (hs : s.size ≤ 4611686018427387904) (hq : Q (.str (encS s)) H) : CW cfg ν 57 [.str s] H Q := by
  have h := encU_le10 (n := s.size) (by omega)
  have hb : (ba (encU s.size)).size + s.size ≤ 9223372036854775807 := by rw [ba_size]; omega
  refine CW_pure g57 F57 rfl ?_
  refine XW_sr ?_
  refine OW_as rfl rfl ?_
  refine OW_nilE (e' := [_,_,_,_,_,_,_,_,_]) rfl ?_
  refine XW_sr ?_
  refine OW_mv rfl rfl ?_
  refine OW_lenS rfl rfl rfl ?_
  first
  | refine OW_conv rfl rfl (conv_in rfl rfl rfl (IntWalk.u64_in _ (by omega))) ?_
  | refine OW_conv rfl rfl rfl ?_
  refine OW_env (e' := [_,_,_,_,_,_,_,_,_]) rfl ?_
  refine OW_fn rfl rfl (putU (n := s.size) (by omega) ?_) 
  refine OW_mv rfl rfl ?_
  refine OW_bin rfl rfl rfl rfl (cat (by first | omega | assumption | (simp only [ss]; omega) | (refine Nat.le_trans (Nat.add_le_add_left (show _ ≤ 256 by decide) _) (by first | omega | (simp only [ss]; omega))) | (refine Nat.le_trans (Nat.add_le_add_right (show _ ≤ 256 by decide) _) (by first | omega | (simp only [ss]; omega))))) ?_
  refine OW_env (e' := [_,_,_,_,_,_,_,_,_]) rfl ?_
  refine OW_as rfl rfl ?_
  refine OW_nilE (e' := [_,_,_,_,_,_,_,_,_]) rfl ?_
  refine XW_ret ?_
  -- outcome 1
  refine ret_ret (res1 rfl (rv_tmp rfl)) (frz1 (Q := Q) (by first | exact freeze_plain rfl | exact Ls.freeze (by assumption) | exact Ls.freeze Ls.of | exact Ls.freeze Ls.emp | exact Ls.freeze Ls.nls) ?_)
  rw [encS_eq]; exact hq
theorem rputTx {s : ByteArray} (hs : s.size ≤ 4611686018427387904) (hq : Q (.str (encS s)) H) : CW cfg ν 62 [.str s] H Q := by
  have h := encU_le10 (n := s.size) (by omega)
  have hb : (ba (encU s.size)).size + s.size ≤ 9223372036854775807 := by rw [ba_size]; omega
  refine CW_pure g62 F62 rfl ?_
  refine XW_sr ?_
  refine OW_as rfl rfl ?_
  refine OW_nilE (e' := [_,_,_,_,_,_,_,_,_]) rfl ?_
  refine XW_sr ?_
  refine OW_mv rfl rfl ?_
  refine OW_lenS rfl rfl rfl ?_
  first
  | refine OW_conv rfl rfl (conv_in rfl rfl rfl (IntWalk.u64_in _ (by omega))) ?_
  | refine OW_conv rfl rfl rfl ?_
  refine OW_env (e' := [_,_,_,_,_,_,_,_,_]) rfl ?_
  refine OW_fn rfl rfl (rputU (n := s.size) (by omega) ?_) 
  refine OW_mv rfl rfl ?_
  refine OW_bin rfl rfl rfl rfl (cat (by first | omega | assumption | (simp only [ss]; omega) | (refine Nat.le_trans (Nat.add_le_add_left (show _ ≤ 256 by decide) _) (by first | omega | (simp only [ss]; omega))) | (refine Nat.le_trans (Nat.add_le_add_right (show _ ≤ 256 by decide) _) (by first | omega | (simp only [ss]; omega))))) ?_
  refine OW_env (e' := [_,_,_,_,_,_,_,_,_]) rfl ?_
  refine OW_as rfl rfl ?_
  refine OW_nilE (e' := [_,_,_,_,_,_,_,_,_]) rfl ?_
  refine XW_ret ?_
  -- outcome 1
  refine ret_ret (res1 rfl (rv_tmp rfl)) (frz1 (Q := Q) (by first | exact freeze_plain rfl | exact Ls.freeze (by assumption) | exact Ls.freeze Ls.of | exact Ls.freeze Ls.emp | exact Ls.freeze Ls.nls) ?_)
  rw [encS_eq]; exact hq
theorem takeU_e {s b : ByteArray} {a : Int} {d : Bool} (hs : s.size ≤ 4611686018427387904) (he : resU s = (a, b, d)) (hq : Q (.tup [.int .u64 a, .str b, .bool d]) H) : CW cfg ν 52 [.str s] H Q := takeU_c hs (by rw [he]; exact hq)
theorem rtakeU_e {s b : ByteArray} {a : Int} {d : Bool} (hs : s.size ≤ 4611686018427387904) (he : resU s = (a, b, d)) (hq : Q (.tup [.int .u64 a, .str b, .bool d]) H) : CW cfg ν 55 [.str s] H Q := rtakeU hs (by rw [he]; exact hq)
def resT (most : Int) (s : ByteArray) : ByteArray × ByteArray × Bool := match WM.takeT most s.data.toList with
  | some (t, r) => (ba t, ba r, true)
  | none => (⟨#[]⟩, ⟨#[]⟩, false)
theorem resU_cases (s : ByteArray) : (takeU 64 s.data.toList = none ∧ resU s = (0, ⟨#[]⟩, false)) ∨ ∃ n r, takeU 64 s.data.toList = some (n, r) ∧ resU s = ((n : Int), ba r, true) ∧ n < 18446744073709551616 ∧ r.length < s.size := by
  cases h : takeU 64 s.data.toList with
  | none => exact .inl ⟨rfl, resU_none h⟩
  | some p => obtain ⟨n, r⟩ := p; exact .inr ⟨n, r, rfl, resU_some h, ((takeU_iff _ _ _).1 h).2, takeU_short h⟩
theorem takeT_c {s : ByteArray} {most : Int} (hs : s.size ≤ 4611686018427387904) (hm : most ≤ 9223372036854775807) (hq : Q (.tup [.str (resT most s).1, .str (resT most s).2.1, .bool (resT most s).2.2]) H) : CW cfg ν 50 [.str s, .int .i64 most] H Q := by
  rcases resU_cases s with ⟨h1, h2⟩ | ⟨n, r, h1, h2, hn, hr⟩
  · rw [resT, WM.takeT, h1] at hq
    refine CW_pure g50 F50 rfl ?_
    refine XW_sr ?_
    refine OW_as rfl rfl ?_
    refine OW_as rfl rfl ?_
    refine OW_as rfl rfl ?_
    refine EZ41_Y3 rfl ?_
    refine XW_sr ?_
    refine OW_mv rfl rfl ?_
    refine OW_fn rfl rfl (takeU_e hs h2 ?_) 
    refine OW_mv rfl rfl ?_
    refine EN41_Y3 rfl ?_
    refine OW_ex rfl rfl rfl ?_
    refine OW_ex rfl rfl rfl ?_
    refine OW_ex rfl rfl rfl ?_
    refine EN41_Y3 rfl ?_
    refine OW_as rfl rfl ?_
    refine OW_as rfl rfl ?_
    refine OW_as rfl rfl ?_
    refine EZ41_Y3 rfl ?_
    refine XW_seq ?_
    refine XW_sr ?_
    refine OW_mv rfl rfl ?_
    refine OW_un rfl rfl rfl ?_
    refine OW_mv rfl rfl ?_
    refine EN41_Y3 rfl ?_
    refine OW_split (tt := 18) rfl (fun g2_3 => ?_) (fun g2_3 => ?_)
    ·first
     |(exfalso; (try simp only [bs] at g2_3) <;> (first | (exact absurd rfl g2_3) | (exact g2_3 trivial) | omega | (simp at g2_3; done)); done)
     |skip
      try simp only [bs] at g2_3
      refine OW_no rfl ?_
      refine OW_no rfl ?_
      refine EN41_Y3 rfl ?_
      refine OW_pick rfl rfl rfl ?_
      refine OW_mv rfl rfl ?_
      refine OW_no rfl ?_
      refine EN41_Y3 rfl ?_
      refine OW_no rfl ?_
      refine OW_no rfl ?_
      refine OW_no rfl ?_
      refine EN41_Y3 rfl ?_
      refine OW_pick rfl rfl rfl ?_
      refine OW_mv rfl rfl ?_
      refine OW_no rfl ?_
      refine EN41_Y3 rfl ?_
      refine OW_no rfl ?_
      refine OW_no rfl ?_
      refine OW_no rfl ?_
      refine EN41_Y3 rfl ?_
      refine OW_no rfl ?_
      refine OW_pick rfl rfl rfl ?_
      refine EZ41_Y3 rfl ?_
      refine XW_yes rfl rfl ?_
      refine XW_sr ?_
      refine OW_as rfl rfl ?_
      refine OW_as rfl rfl ?_
      refine OW_as rfl rfl ?_
      refine EZ41_Y3 rfl ?_
      refine XW_ret ?_
      refine then_ret ?_
      -- outcome 1
      refine ret_ret (res3 rfl (rv_tmp rfl) (rv_tmp rfl) (rv_tmp rfl)) (frz3 (Q := Q) (by first | exact freeze_plain rfl | exact Ls.freeze (by assumption) | exact Ls.freeze Ls.of | exact Ls.freeze Ls.emp | exact Ls.freeze Ls.nls) (by first | exact freeze_plain rfl | exact Ls.freeze (by assumption) | exact Ls.freeze Ls.of | exact Ls.freeze Ls.emp | exact Ls.freeze Ls.nls) (by first | exact freeze_plain rfl | exact Ls.freeze (by assumption) | exact Ls.freeze Ls.of | exact Ls.freeze Ls.emp | exact Ls.freeze Ls.nls) ?_)
      exact hq
    ·first
     |(exfalso; (try simp only [bs] at g2_3) <;> (first | (exact absurd rfl g2_3) | (exact g2_3 trivial) | omega | (simp at g2_3; done)); done)
     |skip
      try simp only [bs] at g2_3
      refine OW_mv rfl rfl ?_
      refine OW_bin rfl rfl rfl rfl rfl ?_
      refine EN41_Y3 rfl ?_
      refine OW_pick rfl rfl rfl ?_
      refine OW_mv rfl rfl ?_
      refine OW_split (tt := 22) rfl (fun g2_7 => ?_) (fun g2_7 => ?_)
      ·first
       |(exfalso; (try simp only [bs] at g2_7) <;> (first | (exact absurd rfl g2_7) | (exact g2_7 trivial) | omega | (simp at g2_7; done)); done)
       |skip
        try simp only [bs] at g2_7
        refine EN41_Y3 rfl ?_
        refine OW_no rfl ?_
        refine OW_no rfl ?_
        refine OW_no rfl ?_
        refine EN41_Y3 rfl ?_
        refine OW_no rfl ?_
        refine OW_pick rfl rfl rfl ?_
        refine OW_mv rfl rfl ?_
        refine EN41_Y3 rfl ?_
        refine OW_no rfl ?_
        refine OW_no rfl ?_
        refine OW_no rfl ?_
        refine EN41_Y3 rfl ?_
        refine OW_no rfl ?_
        refine OW_no rfl ?_
        refine OW_pick rfl rfl rfl ?_
        refine EZ41_Y3 rfl ?_
        refine XW_yes rfl rfl ?_
        refine XW_sr ?_
        refine OW_as rfl rfl ?_
        refine OW_as rfl rfl ?_
        refine OW_as rfl rfl ?_
        refine EZ41_Y3 rfl ?_
        refine XW_ret ?_
        refine then_ret ?_
        -- outcome 2
        refine ret_ret (res3 rfl (rv_tmp rfl) (rv_tmp rfl) (rv_tmp rfl)) (frz3 (Q := Q) (by first | exact freeze_plain rfl | exact Ls.freeze (by assumption) | exact Ls.freeze Ls.of | exact Ls.freeze Ls.emp | exact Ls.freeze Ls.nls) (by first | exact freeze_plain rfl | exact Ls.freeze (by assumption) | exact Ls.freeze Ls.of | exact Ls.freeze Ls.emp | exact Ls.freeze Ls.nls) (by first | exact freeze_plain rfl | exact Ls.freeze (by assumption) | exact Ls.freeze Ls.of | exact Ls.freeze Ls.emp | exact Ls.freeze Ls.nls) ?_)
        exact hq
      ·first
       |(exfalso; (try simp only [bs] at g2_7) <;> (first | (exact absurd rfl g2_7) | (exact g2_7 trivial) | omega | (simp at g2_7; done)); done)
       |skip
        try simp only [bs] at g2_7
        refine EN41_Y3 rfl ?_
        refine OW_mv rfl rfl ?_
        refine OW_mv rfl rfl ?_
        first
        | refine OW_conv rfl rfl (conv_in rfl rfl rfl (IntWalk.u64_in _ (by omega))) ?_
        | refine OW_conv rfl rfl rfl ?_
        refine EN41_Y3 rfl ?_
        refine OW_bin rfl rfl rfl rfl rfl ?_
        refine OW_pick rfl rfl rfl ?_
        refine OW_mv rfl rfl ?_
        refine EN41_Y3 rfl ?_
        refine OW_split (tt := 28) rfl (fun g2_13 => ?_) (fun g2_13 => ?_)
        ·first
         |(exfalso; (try simp only [bs] at g2_13) <;> (first | (exact absurd rfl g2_13) | (exact g2_13 trivial) | omega | (simp at g2_13; done)); done)
         |skip
          try simp only [bs] at g2_13
          refine OW_no rfl ?_
          refine OW_no rfl ?_
          refine EN41_Y3 rfl ?_
          refine OW_no rfl ?_
          refine OW_no rfl ?_
          refine OW_no rfl ?_
          refine EN41_Y3 rfl ?_
          refine OW_pick rfl rfl rfl ?_
          refine EZ41_Y3 rfl ?_
          refine XW_yes rfl rfl ?_
          refine XW_sr ?_
          refine OW_as rfl rfl ?_
          refine OW_as rfl rfl ?_
          refine OW_as rfl rfl ?_
          refine EZ41_Y3 rfl ?_
          refine XW_ret ?_
          refine then_ret ?_
          -- outcome 3
          refine ret_ret (res3 rfl (rv_tmp rfl) (rv_tmp rfl) (rv_tmp rfl)) (frz3 (Q := Q) (by first | exact freeze_plain rfl | exact Ls.freeze (by assumption) | exact Ls.freeze Ls.of | exact Ls.freeze Ls.emp | exact Ls.freeze Ls.nls) (by first | exact freeze_plain rfl | exact Ls.freeze (by assumption) | exact Ls.freeze Ls.of | exact Ls.freeze Ls.emp | exact Ls.freeze Ls.nls) (by first | exact freeze_plain rfl | exact Ls.freeze (by assumption) | exact Ls.freeze Ls.of | exact Ls.freeze Ls.emp | exact Ls.freeze Ls.nls) ?_)
          exact hq
        ·first
         |(exfalso; (try simp only [bs] at g2_13) <;> (first | (exact absurd rfl g2_13) | (exact g2_13 trivial) | omega | (simp at g2_13; done)); done)
         |skip
          try simp only [bs] at g2_13
          refine OW_mv rfl rfl ?_
          refine OW_mv rfl rfl ?_
          refine EN41_Y3 rfl ?_
          refine OW_lenS rfl rfl rfl ?_
          first
          | refine OW_conv rfl rfl (conv_in rfl rfl rfl (IntWalk.u64_in _ (by omega))) ?_
          | refine OW_conv rfl rfl rfl ?_
          refine OW_bin rfl rfl rfl rfl rfl ?_
          refine EN41_Y3 rfl ?_
          refine OW_pick rfl rfl rfl ?_
          refine EZ41_Y3 rfl ?_
          refine XW_if rfl (fun h2 => ?_) (fun h2 => ?_)
          ·first
           |(exfalso; (try simp only [bs] at h2) <;> (first | (exact absurd rfl h2) | (exact h2 trivial) | omega | (simp at h2; done)); done)
           |skip
            try simp only [bs] at h2
            refine XW_sr ?_
            refine OW_as rfl rfl ?_
            refine OW_as rfl rfl ?_
            refine OW_as rfl rfl ?_
            refine EZ41_Y3 rfl ?_
            refine XW_ret ?_
            refine then_ret ?_
            -- outcome 4
            refine ret_ret (res3 rfl (rv_tmp rfl) (rv_tmp rfl) (rv_tmp rfl)) (frz3 (Q := Q) (by first | exact freeze_plain rfl | exact Ls.freeze (by assumption) | exact Ls.freeze Ls.of | exact Ls.freeze Ls.emp | exact Ls.freeze Ls.nls) (by first | exact freeze_plain rfl | exact Ls.freeze (by assumption) | exact Ls.freeze Ls.of | exact Ls.freeze Ls.emp | exact Ls.freeze Ls.nls) (by first | exact freeze_plain rfl | exact Ls.freeze (by assumption) | exact Ls.freeze Ls.of | exact Ls.freeze Ls.emp | exact Ls.freeze Ls.nls) ?_)
            exact hq
          ·first
           |(exfalso; (try simp only [bs] at h2) <;> (first | (exact absurd rfl h2) | (exact h2 trivial) | omega | (simp at h2; done)); done)
           |skip
            try simp only [bs] at h2
            refine XW_skip ?_
            refine then_norm ?_
            refine XW_sr ?_
            refine OW_mv rfl rfl ?_
            refine OW_mv rfl rfl ?_
            refine OW_sl rfl rfl rfl rfl rfl (str_hi rfl rfl (by first | omega | (simp only [ss]; omega)) (by first | omega | (simp only [ss]; omega))) ?_
            refine EN41_Y3 rfl ?_
            refine OW_mv rfl rfl ?_
            refine OW_mv rfl rfl ?_
            refine OW_sl rfl rfl rfl rfl rfl (str_lo rfl rfl (by first | omega | (simp only [ss]; omega)) (by first | omega | (simp only [ss]; omega))) ?_
            refine EN41_Y3 rfl ?_
            refine OW_as rfl rfl ?_
            refine OW_as rfl rfl ?_
            refine OW_as rfl rfl ?_
            refine EZ41_Y3 rfl ?_
            refine XW_ret ?_
            -- outcome 5
            refine ret_ret (res3 rfl (rv_tmp rfl) (rv_tmp rfl) (rv_tmp rfl)) (frz3 (Q := Q) (by first | exact freeze_plain rfl | exact Ls.freeze (by assumption) | exact Ls.freeze Ls.of | exact Ls.freeze Ls.emp | exact Ls.freeze Ls.nls) (by first | exact freeze_plain rfl | exact Ls.freeze (by assumption) | exact Ls.freeze Ls.of | exact Ls.freeze Ls.emp | exact Ls.freeze Ls.nls) (by first | exact freeze_plain rfl | exact Ls.freeze (by assumption) | exact Ls.freeze Ls.of | exact Ls.freeze Ls.emp | exact Ls.freeze Ls.nls) ?_)
            exact hq
  · have hbr : (ba r).size = r.length := ba_size r
    rw [resT, WM.takeT, h1] at hq
    simp only at hq
    refine CW_pure g50 F50 rfl ?_
    refine XW_sr ?_
    refine OW_as rfl rfl ?_
    refine OW_as rfl rfl ?_
    refine OW_as rfl rfl ?_
    refine EZ41_Y3 rfl ?_
    refine XW_sr ?_
    refine OW_mv rfl rfl ?_
    refine OW_fn rfl rfl (takeU_e hs h2 ?_) 
    refine OW_mv rfl rfl ?_
    refine EN41_Y3 rfl ?_
    refine OW_ex rfl rfl rfl ?_
    refine OW_ex rfl rfl rfl ?_
    refine OW_ex rfl rfl rfl ?_
    refine EN41_Y3 rfl ?_
    refine OW_as rfl rfl ?_
    refine OW_as rfl rfl ?_
    refine OW_as rfl rfl ?_
    refine EZ41_Y3 rfl ?_
    refine XW_seq ?_
    refine XW_sr ?_
    refine OW_mv rfl rfl ?_
    refine OW_un rfl rfl rfl ?_
    refine OW_mv rfl rfl ?_
    refine EN41_Y3 rfl ?_
    refine OW_split (tt := 18) rfl (fun g2_3 => ?_) (fun g2_3 => ?_)
    ·first
     |(exfalso; (try simp only [bs] at g2_3) <;> (first | (exact absurd rfl g2_3) | (exact g2_3 trivial) | omega | (simp at g2_3; done)); done)
     |skip
      try simp only [bs] at g2_3
      refine OW_no rfl ?_
      refine OW_no rfl ?_
      refine EN41_Y3 rfl ?_
      refine OW_pick rfl rfl rfl ?_
      refine OW_mv rfl rfl ?_
      refine OW_no rfl ?_
      refine EN41_Y3 rfl ?_
      refine OW_no rfl ?_
      refine OW_no rfl ?_
      refine OW_no rfl ?_
      refine EN41_Y3 rfl ?_
      refine OW_pick rfl rfl rfl ?_
      refine OW_mv rfl rfl ?_
      refine OW_no rfl ?_
      refine EN41_Y3 rfl ?_
      refine OW_no rfl ?_
      refine OW_no rfl ?_
      refine OW_no rfl ?_
      refine EN41_Y3 rfl ?_
      refine OW_no rfl ?_
      refine OW_pick rfl rfl rfl ?_
      refine EZ41_Y3 rfl ?_
      refine XW_yes rfl rfl ?_
      refine XW_sr ?_
      refine OW_as rfl rfl ?_
      refine OW_as rfl rfl ?_
      refine OW_as rfl rfl ?_
      refine EZ41_Y3 rfl ?_
      refine XW_ret ?_
      refine then_ret ?_
      -- outcome 1
      refine ret_ret (res3 rfl (rv_tmp rfl) (rv_tmp rfl) (rv_tmp rfl)) (frz3 (Q := Q) (by first | exact freeze_plain rfl | exact Ls.freeze (by assumption) | exact Ls.freeze Ls.of | exact Ls.freeze Ls.emp | exact Ls.freeze Ls.nls) (by first | exact freeze_plain rfl | exact Ls.freeze (by assumption) | exact Ls.freeze Ls.of | exact Ls.freeze Ls.emp | exact Ls.freeze Ls.nls) (by first | exact freeze_plain rfl | exact Ls.freeze (by assumption) | exact Ls.freeze Ls.of | exact Ls.freeze Ls.emp | exact Ls.freeze Ls.nls) ?_)
      first | (rw [if_neg (by omega)] at hq; exact hq) | (rw [if_pos ⟨by omega, by omega, by omega⟩] at hq; rw [Int.toNat_natCast, ba_take, ba_drop]; exact hq)
    ·first
     |(exfalso; (try simp only [bs] at g2_3) <;> (first | (exact absurd rfl g2_3) | (exact g2_3 trivial) | omega | (simp at g2_3; done)); done)
     |skip
      try simp only [bs] at g2_3
      refine OW_mv rfl rfl ?_
      refine OW_bin rfl rfl rfl rfl rfl ?_
      refine EN41_Y3 rfl ?_
      refine OW_pick rfl rfl rfl ?_
      refine OW_mv rfl rfl ?_
      refine OW_split (tt := 22) rfl (fun g2_7 => ?_) (fun g2_7 => ?_)
      ·first
       |(exfalso; (try simp only [bs] at g2_7) <;> (first | (exact absurd rfl g2_7) | (exact g2_7 trivial) | omega | (simp at g2_7; done)); done)
       |skip
        try simp only [bs] at g2_7
        refine EN41_Y3 rfl ?_
        refine OW_no rfl ?_
        refine OW_no rfl ?_
        refine OW_no rfl ?_
        refine EN41_Y3 rfl ?_
        refine OW_no rfl ?_
        refine OW_pick rfl rfl rfl ?_
        refine OW_mv rfl rfl ?_
        refine EN41_Y3 rfl ?_
        refine OW_no rfl ?_
        refine OW_no rfl ?_
        refine OW_no rfl ?_
        refine EN41_Y3 rfl ?_
        refine OW_no rfl ?_
        refine OW_no rfl ?_
        refine OW_pick rfl rfl rfl ?_
        refine EZ41_Y3 rfl ?_
        refine XW_yes rfl rfl ?_
        refine XW_sr ?_
        refine OW_as rfl rfl ?_
        refine OW_as rfl rfl ?_
        refine OW_as rfl rfl ?_
        refine EZ41_Y3 rfl ?_
        refine XW_ret ?_
        refine then_ret ?_
        -- outcome 2
        refine ret_ret (res3 rfl (rv_tmp rfl) (rv_tmp rfl) (rv_tmp rfl)) (frz3 (Q := Q) (by first | exact freeze_plain rfl | exact Ls.freeze (by assumption) | exact Ls.freeze Ls.of | exact Ls.freeze Ls.emp | exact Ls.freeze Ls.nls) (by first | exact freeze_plain rfl | exact Ls.freeze (by assumption) | exact Ls.freeze Ls.of | exact Ls.freeze Ls.emp | exact Ls.freeze Ls.nls) (by first | exact freeze_plain rfl | exact Ls.freeze (by assumption) | exact Ls.freeze Ls.of | exact Ls.freeze Ls.emp | exact Ls.freeze Ls.nls) ?_)
        first | (rw [if_neg (by omega)] at hq; exact hq) | (rw [if_pos ⟨by omega, by omega, by omega⟩] at hq; rw [Int.toNat_natCast, ba_take, ba_drop]; exact hq)
      ·first
       |(exfalso; (try simp only [bs] at g2_7) <;> (first | (exact absurd rfl g2_7) | (exact g2_7 trivial) | omega | (simp at g2_7; done)); done)
       |skip
        try simp only [bs] at g2_7
        refine EN41_Y3 rfl ?_
        refine OW_mv rfl rfl ?_
        refine OW_mv rfl rfl ?_
        first
        | refine OW_conv rfl rfl (conv_in rfl rfl rfl (IntWalk.u64_in _ (by omega))) ?_
        | refine OW_conv rfl rfl rfl ?_
        refine EN41_Y3 rfl ?_
        refine OW_bin rfl rfl rfl rfl rfl ?_
        refine OW_pick rfl rfl rfl ?_
        refine OW_mv rfl rfl ?_
        refine EN41_Y3 rfl ?_
        refine OW_split (tt := 28) rfl (fun g2_13 => ?_) (fun g2_13 => ?_)
        ·first
         |(exfalso; (try simp only [bs] at g2_13) <;> (first | (exact absurd rfl g2_13) | (exact g2_13 trivial) | omega | (simp at g2_13; done)); done)
         |skip
          try simp only [bs] at g2_13
          refine OW_no rfl ?_
          refine OW_no rfl ?_
          refine EN41_Y3 rfl ?_
          refine OW_no rfl ?_
          refine OW_no rfl ?_
          refine OW_no rfl ?_
          refine EN41_Y3 rfl ?_
          refine OW_pick rfl rfl rfl ?_
          refine EZ41_Y3 rfl ?_
          refine XW_yes rfl rfl ?_
          refine XW_sr ?_
          refine OW_as rfl rfl ?_
          refine OW_as rfl rfl ?_
          refine OW_as rfl rfl ?_
          refine EZ41_Y3 rfl ?_
          refine XW_ret ?_
          refine then_ret ?_
          -- outcome 3
          refine ret_ret (res3 rfl (rv_tmp rfl) (rv_tmp rfl) (rv_tmp rfl)) (frz3 (Q := Q) (by first | exact freeze_plain rfl | exact Ls.freeze (by assumption) | exact Ls.freeze Ls.of | exact Ls.freeze Ls.emp | exact Ls.freeze Ls.nls) (by first | exact freeze_plain rfl | exact Ls.freeze (by assumption) | exact Ls.freeze Ls.of | exact Ls.freeze Ls.emp | exact Ls.freeze Ls.nls) (by first | exact freeze_plain rfl | exact Ls.freeze (by assumption) | exact Ls.freeze Ls.of | exact Ls.freeze Ls.emp | exact Ls.freeze Ls.nls) ?_)
          first | (rw [if_neg (by omega)] at hq; exact hq) | (rw [if_pos ⟨by omega, by omega, by omega⟩] at hq; rw [Int.toNat_natCast, ba_take, ba_drop]; exact hq)
        ·first
         |(exfalso; (try simp only [bs] at g2_13) <;> (first | (exact absurd rfl g2_13) | (exact g2_13 trivial) | omega | (simp at g2_13; done)); done)
         |skip
          try simp only [bs] at g2_13
          refine OW_mv rfl rfl ?_
          refine OW_mv rfl rfl ?_
          refine EN41_Y3 rfl ?_
          refine OW_lenS rfl rfl rfl ?_
          first
          | refine OW_conv rfl rfl (conv_in rfl rfl rfl (IntWalk.u64_in _ (by omega))) ?_
          | refine OW_conv rfl rfl rfl ?_
          refine OW_bin rfl rfl rfl rfl rfl ?_
          refine EN41_Y3 rfl ?_
          refine OW_pick rfl rfl rfl ?_
          refine EZ41_Y3 rfl ?_
          refine XW_if rfl (fun h2 => ?_) (fun h2 => ?_)
          ·first
           |(exfalso; (try simp only [bs] at h2) <;> (first | (exact absurd rfl h2) | (exact h2 trivial) | omega | (simp at h2; done)); done)
           |skip
            try simp only [bs] at h2
            refine XW_sr ?_
            refine OW_as rfl rfl ?_
            refine OW_as rfl rfl ?_
            refine OW_as rfl rfl ?_
            refine EZ41_Y3 rfl ?_
            refine XW_ret ?_
            refine then_ret ?_
            -- outcome 4
            refine ret_ret (res3 rfl (rv_tmp rfl) (rv_tmp rfl) (rv_tmp rfl)) (frz3 (Q := Q) (by first | exact freeze_plain rfl | exact Ls.freeze (by assumption) | exact Ls.freeze Ls.of | exact Ls.freeze Ls.emp | exact Ls.freeze Ls.nls) (by first | exact freeze_plain rfl | exact Ls.freeze (by assumption) | exact Ls.freeze Ls.of | exact Ls.freeze Ls.emp | exact Ls.freeze Ls.nls) (by first | exact freeze_plain rfl | exact Ls.freeze (by assumption) | exact Ls.freeze Ls.of | exact Ls.freeze Ls.emp | exact Ls.freeze Ls.nls) ?_)
            first | (rw [if_neg (by omega)] at hq; exact hq) | (rw [if_pos ⟨by omega, by omega, by omega⟩] at hq; rw [Int.toNat_natCast, ba_take, ba_drop]; exact hq)
          ·first
           |(exfalso; (try simp only [bs] at h2) <;> (first | (exact absurd rfl h2) | (exact h2 trivial) | omega | (simp at h2; done)); done)
           |skip
            try simp only [bs] at h2
            refine XW_skip ?_
            refine then_norm ?_
            refine XW_sr ?_
            refine OW_mv rfl rfl ?_
            refine OW_mv rfl rfl ?_
            refine OW_sl rfl rfl rfl rfl rfl (str_hi rfl rfl (by first | omega | (simp only [ss]; omega)) (by first | omega | (simp only [ss]; omega))) ?_
            refine EN41_Y3 rfl ?_
            refine OW_mv rfl rfl ?_
            refine OW_mv rfl rfl ?_
            refine OW_sl rfl rfl rfl rfl rfl (str_lo rfl rfl (by first | omega | (simp only [ss]; omega)) (by first | omega | (simp only [ss]; omega))) ?_
            refine EN41_Y3 rfl ?_
            refine OW_as rfl rfl ?_
            refine OW_as rfl rfl ?_
            refine OW_as rfl rfl ?_
            refine EZ41_Y3 rfl ?_
            refine XW_ret ?_
            -- outcome 5
            refine ret_ret (res3 rfl (rv_tmp rfl) (rv_tmp rfl) (rv_tmp rfl)) (frz3 (Q := Q) (by first | exact freeze_plain rfl | exact Ls.freeze (by assumption) | exact Ls.freeze Ls.of | exact Ls.freeze Ls.emp | exact Ls.freeze Ls.nls) (by first | exact freeze_plain rfl | exact Ls.freeze (by assumption) | exact Ls.freeze Ls.of | exact Ls.freeze Ls.emp | exact Ls.freeze Ls.nls) (by first | exact freeze_plain rfl | exact Ls.freeze (by assumption) | exact Ls.freeze Ls.of | exact Ls.freeze Ls.emp | exact Ls.freeze Ls.nls) ?_)
            first | (rw [if_neg (by omega)] at hq; exact hq) | (rw [if_pos ⟨by omega, by omega, by omega⟩] at hq; rw [Int.toNat_natCast, ba_take, ba_drop]; exact hq)
theorem rtakeT_c {s : ByteArray} {most : Int} (hs : s.size ≤ 4611686018427387904) (hm : most ≤ 9223372036854775807) (hq : Q (.tup [.str (resT most s).1, .str (resT most s).2.1, .bool (resT most s).2.2]) H) : CW cfg ν 53 [.str s, .int .i64 most] H Q := by
  rcases resU_cases s with ⟨h1, h2⟩ | ⟨n, r, h1, h2, hn, hr⟩
  · rw [resT, WM.takeT, h1] at hq
    refine CW_pure g53 F53 rfl ?_
    refine XW_sr ?_
    refine OW_as rfl rfl ?_
    refine OW_as rfl rfl ?_
    refine OW_as rfl rfl ?_
    refine EZ43_Y3 rfl ?_
    refine XW_sr ?_
    refine OW_mv rfl rfl ?_
    refine OW_fn rfl rfl (rtakeU_e hs h2 ?_) 
    refine OW_mv rfl rfl ?_
    refine EN43_Y3 rfl ?_
    refine OW_ex rfl rfl rfl ?_
    refine OW_ex rfl rfl rfl ?_
    refine OW_ex rfl rfl rfl ?_
    refine EN43_Y3 rfl ?_
    refine OW_as rfl rfl ?_
    refine OW_as rfl rfl ?_
    refine OW_as rfl rfl ?_
    refine EZ43_Y3 rfl ?_
    refine XW_seq ?_
    refine XW_sr ?_
    refine OW_mv rfl rfl ?_
    refine OW_un rfl rfl rfl ?_
    refine OW_mv rfl rfl ?_
    refine EN43_Y3 rfl ?_
    refine OW_split (tt := 18) rfl (fun g2_3 => ?_) (fun g2_3 => ?_)
    ·first
     |(exfalso; (try simp only [bs] at g2_3) <;> (first | (exact absurd rfl g2_3) | (exact g2_3 trivial) | omega | (simp at g2_3; done)); done)
     |skip
      try simp only [bs] at g2_3
      refine OW_no rfl ?_
      refine OW_no rfl ?_
      refine EN43_Y3 rfl ?_
      refine OW_pick rfl rfl rfl ?_
      refine OW_mv rfl rfl ?_
      refine OW_no rfl ?_
      refine EN43_Y3 rfl ?_
      refine OW_no rfl ?_
      refine OW_no rfl ?_
      refine OW_no rfl ?_
      refine EN43_Y3 rfl ?_
      refine OW_pick rfl rfl rfl ?_
      refine OW_mv rfl rfl ?_
      refine OW_no rfl ?_
      refine EN43_Y3 rfl ?_
      refine OW_no rfl ?_
      refine OW_no rfl ?_
      refine OW_no rfl ?_
      refine EN43_Y3 rfl ?_
      refine OW_no rfl ?_
      refine OW_pick rfl rfl rfl ?_
      refine EZ43_Y3 rfl ?_
      refine XW_yes rfl rfl ?_
      refine XW_sr ?_
      refine OW_as rfl rfl ?_
      refine OW_as rfl rfl ?_
      refine OW_as rfl rfl ?_
      refine EZ43_Y3 rfl ?_
      refine XW_ret ?_
      refine then_ret ?_
      -- outcome 1
      refine ret_ret (res3 rfl (rv_tmp rfl) (rv_tmp rfl) (rv_tmp rfl)) (frz3 (Q := Q) (by first | exact freeze_plain rfl | exact Ls.freeze (by assumption) | exact Ls.freeze Ls.of | exact Ls.freeze Ls.emp | exact Ls.freeze Ls.nls) (by first | exact freeze_plain rfl | exact Ls.freeze (by assumption) | exact Ls.freeze Ls.of | exact Ls.freeze Ls.emp | exact Ls.freeze Ls.nls) (by first | exact freeze_plain rfl | exact Ls.freeze (by assumption) | exact Ls.freeze Ls.of | exact Ls.freeze Ls.emp | exact Ls.freeze Ls.nls) ?_)
      exact hq
    ·first
     |(exfalso; (try simp only [bs] at g2_3) <;> (first | (exact absurd rfl g2_3) | (exact g2_3 trivial) | omega | (simp at g2_3; done)); done)
     |skip
      try simp only [bs] at g2_3
      refine OW_mv rfl rfl ?_
      refine OW_bin rfl rfl rfl rfl rfl ?_
      refine EN43_Y3 rfl ?_
      refine OW_pick rfl rfl rfl ?_
      refine OW_mv rfl rfl ?_
      refine OW_split (tt := 22) rfl (fun g2_7 => ?_) (fun g2_7 => ?_)
      ·first
       |(exfalso; (try simp only [bs] at g2_7) <;> (first | (exact absurd rfl g2_7) | (exact g2_7 trivial) | omega | (simp at g2_7; done)); done)
       |skip
        try simp only [bs] at g2_7
        refine EN43_Y3 rfl ?_
        refine OW_no rfl ?_
        refine OW_no rfl ?_
        refine OW_no rfl ?_
        refine EN43_Y3 rfl ?_
        refine OW_no rfl ?_
        refine OW_pick rfl rfl rfl ?_
        refine OW_mv rfl rfl ?_
        refine EN43_Y3 rfl ?_
        refine OW_no rfl ?_
        refine OW_no rfl ?_
        refine OW_no rfl ?_
        refine EN43_Y3 rfl ?_
        refine OW_no rfl ?_
        refine OW_no rfl ?_
        refine OW_pick rfl rfl rfl ?_
        refine EZ43_Y3 rfl ?_
        refine XW_yes rfl rfl ?_
        refine XW_sr ?_
        refine OW_as rfl rfl ?_
        refine OW_as rfl rfl ?_
        refine OW_as rfl rfl ?_
        refine EZ43_Y3 rfl ?_
        refine XW_ret ?_
        refine then_ret ?_
        -- outcome 2
        refine ret_ret (res3 rfl (rv_tmp rfl) (rv_tmp rfl) (rv_tmp rfl)) (frz3 (Q := Q) (by first | exact freeze_plain rfl | exact Ls.freeze (by assumption) | exact Ls.freeze Ls.of | exact Ls.freeze Ls.emp | exact Ls.freeze Ls.nls) (by first | exact freeze_plain rfl | exact Ls.freeze (by assumption) | exact Ls.freeze Ls.of | exact Ls.freeze Ls.emp | exact Ls.freeze Ls.nls) (by first | exact freeze_plain rfl | exact Ls.freeze (by assumption) | exact Ls.freeze Ls.of | exact Ls.freeze Ls.emp | exact Ls.freeze Ls.nls) ?_)
        exact hq
      ·first
       |(exfalso; (try simp only [bs] at g2_7) <;> (first | (exact absurd rfl g2_7) | (exact g2_7 trivial) | omega | (simp at g2_7; done)); done)
       |skip
        try simp only [bs] at g2_7
        refine EN43_Y3 rfl ?_
        refine OW_mv rfl rfl ?_
        refine OW_mv rfl rfl ?_
        first
        | refine OW_conv rfl rfl (conv_in rfl rfl rfl (IntWalk.u64_in _ (by omega))) ?_
        | refine OW_conv rfl rfl rfl ?_
        refine EN43_Y3 rfl ?_
        refine OW_bin rfl rfl rfl rfl rfl ?_
        refine OW_pick rfl rfl rfl ?_
        refine OW_mv rfl rfl ?_
        refine EN43_Y3 rfl ?_
        refine OW_split (tt := 28) rfl (fun g2_13 => ?_) (fun g2_13 => ?_)
        ·first
         |(exfalso; (try simp only [bs] at g2_13) <;> (first | (exact absurd rfl g2_13) | (exact g2_13 trivial) | omega | (simp at g2_13; done)); done)
         |skip
          try simp only [bs] at g2_13
          refine OW_no rfl ?_
          refine OW_no rfl ?_
          refine EN43_Y3 rfl ?_
          refine OW_no rfl ?_
          refine OW_no rfl ?_
          refine OW_no rfl ?_
          refine EN43_Y3 rfl ?_
          refine OW_pick rfl rfl rfl ?_
          refine EZ43_Y3 rfl ?_
          refine XW_yes rfl rfl ?_
          refine XW_sr ?_
          refine OW_as rfl rfl ?_
          refine OW_as rfl rfl ?_
          refine OW_as rfl rfl ?_
          refine EZ43_Y3 rfl ?_
          refine XW_ret ?_
          refine then_ret ?_
          -- outcome 3
          refine ret_ret (res3 rfl (rv_tmp rfl) (rv_tmp rfl) (rv_tmp rfl)) (frz3 (Q := Q) (by first | exact freeze_plain rfl | exact Ls.freeze (by assumption) | exact Ls.freeze Ls.of | exact Ls.freeze Ls.emp | exact Ls.freeze Ls.nls) (by first | exact freeze_plain rfl | exact Ls.freeze (by assumption) | exact Ls.freeze Ls.of | exact Ls.freeze Ls.emp | exact Ls.freeze Ls.nls) (by first | exact freeze_plain rfl | exact Ls.freeze (by assumption) | exact Ls.freeze Ls.of | exact Ls.freeze Ls.emp | exact Ls.freeze Ls.nls) ?_)
          exact hq
        ·first
         |(exfalso; (try simp only [bs] at g2_13) <;> (first | (exact absurd rfl g2_13) | (exact g2_13 trivial) | omega | (simp at g2_13; done)); done)
         |skip
          try simp only [bs] at g2_13
          refine OW_mv rfl rfl ?_
          refine OW_mv rfl rfl ?_
          refine EN43_Y3 rfl ?_
          refine OW_lenS rfl rfl rfl ?_
          first
          | refine OW_conv rfl rfl (conv_in rfl rfl rfl (IntWalk.u64_in _ (by omega))) ?_
          | refine OW_conv rfl rfl rfl ?_
          refine OW_bin rfl rfl rfl rfl rfl ?_
          refine EN43_Y3 rfl ?_
          refine OW_pick rfl rfl rfl ?_
          refine EZ43_Y3 rfl ?_
          refine XW_if rfl (fun h2 => ?_) (fun h2 => ?_)
          ·first
           |(exfalso; (try simp only [bs] at h2) <;> (first | (exact absurd rfl h2) | (exact h2 trivial) | omega | (simp at h2; done)); done)
           |skip
            try simp only [bs] at h2
            refine XW_sr ?_
            refine OW_as rfl rfl ?_
            refine OW_as rfl rfl ?_
            refine OW_as rfl rfl ?_
            refine EZ43_Y3 rfl ?_
            refine XW_ret ?_
            refine then_ret ?_
            -- outcome 4
            refine ret_ret (res3 rfl (rv_tmp rfl) (rv_tmp rfl) (rv_tmp rfl)) (frz3 (Q := Q) (by first | exact freeze_plain rfl | exact Ls.freeze (by assumption) | exact Ls.freeze Ls.of | exact Ls.freeze Ls.emp | exact Ls.freeze Ls.nls) (by first | exact freeze_plain rfl | exact Ls.freeze (by assumption) | exact Ls.freeze Ls.of | exact Ls.freeze Ls.emp | exact Ls.freeze Ls.nls) (by first | exact freeze_plain rfl | exact Ls.freeze (by assumption) | exact Ls.freeze Ls.of | exact Ls.freeze Ls.emp | exact Ls.freeze Ls.nls) ?_)
            exact hq
          ·first
           |(exfalso; (try simp only [bs] at h2) <;> (first | (exact absurd rfl h2) | (exact h2 trivial) | omega | (simp at h2; done)); done)
           |skip
            try simp only [bs] at h2
            refine XW_skip ?_
            refine then_norm ?_
            refine XW_sr ?_
            refine OW_mv rfl rfl ?_
            refine OW_mv rfl rfl ?_
            first
            | refine OW_conv rfl rfl (conv_in rfl rfl rfl (IntWalk.i64_in _ (by omega))) ?_
            | refine OW_conv rfl rfl rfl ?_
            refine EN43_Y3 rfl ?_
            refine OW_sl rfl rfl rfl rfl rfl (str_hi rfl rfl (by first | omega | (simp only [ss]; omega)) (by first | omega | (simp only [ss]; omega))) ?_
            refine OW_mv rfl rfl ?_
            refine OW_mv rfl rfl ?_
            refine EN43_Y3 rfl ?_
            first
            | refine OW_conv rfl rfl (conv_in rfl rfl rfl (IntWalk.i64_in _ (by omega))) ?_
            | refine OW_conv rfl rfl rfl ?_
            refine OW_sl rfl rfl rfl rfl rfl (str_lo rfl rfl (by first | omega | (simp only [ss]; omega)) (by first | omega | (simp only [ss]; omega))) ?_
            refine OW_as rfl rfl ?_
            refine EN43_Y3 rfl ?_
            refine OW_as rfl rfl ?_
            refine OW_as rfl rfl ?_
            refine EZ43_Y3 rfl ?_
            refine XW_ret ?_
            -- outcome 5
            refine ret_ret (res3 rfl (rv_tmp rfl) (rv_tmp rfl) (rv_tmp rfl)) (frz3 (Q := Q) (by first | exact freeze_plain rfl | exact Ls.freeze (by assumption) | exact Ls.freeze Ls.of | exact Ls.freeze Ls.emp | exact Ls.freeze Ls.nls) (by first | exact freeze_plain rfl | exact Ls.freeze (by assumption) | exact Ls.freeze Ls.of | exact Ls.freeze Ls.emp | exact Ls.freeze Ls.nls) (by first | exact freeze_plain rfl | exact Ls.freeze (by assumption) | exact Ls.freeze Ls.of | exact Ls.freeze Ls.emp | exact Ls.freeze Ls.nls) ?_)
            exact hq
  · have hbr : (ba r).size = r.length := ba_size r
    rw [resT, WM.takeT, h1] at hq
    simp only at hq
    refine CW_pure g53 F53 rfl ?_
    refine XW_sr ?_
    refine OW_as rfl rfl ?_
    refine OW_as rfl rfl ?_
    refine OW_as rfl rfl ?_
    refine EZ43_Y3 rfl ?_
    refine XW_sr ?_
    refine OW_mv rfl rfl ?_
    refine OW_fn rfl rfl (rtakeU_e hs h2 ?_) 
    refine OW_mv rfl rfl ?_
    refine EN43_Y3 rfl ?_
    refine OW_ex rfl rfl rfl ?_
    refine OW_ex rfl rfl rfl ?_
    refine OW_ex rfl rfl rfl ?_
    refine EN43_Y3 rfl ?_
    refine OW_as rfl rfl ?_
    refine OW_as rfl rfl ?_
    refine OW_as rfl rfl ?_
    refine EZ43_Y3 rfl ?_
    refine XW_seq ?_
    refine XW_sr ?_
    refine OW_mv rfl rfl ?_
    refine OW_un rfl rfl rfl ?_
    refine OW_mv rfl rfl ?_
    refine EN43_Y3 rfl ?_
    refine OW_split (tt := 18) rfl (fun g2_3 => ?_) (fun g2_3 => ?_)
    ·first
     |(exfalso; (try simp only [bs] at g2_3) <;> (first | (exact absurd rfl g2_3) | (exact g2_3 trivial) | omega | (simp at g2_3; done)); done)
     |skip
      try simp only [bs] at g2_3
      refine OW_no rfl ?_
      refine OW_no rfl ?_
      refine EN43_Y3 rfl ?_
      refine OW_pick rfl rfl rfl ?_
      refine OW_mv rfl rfl ?_
      refine OW_no rfl ?_
      refine EN43_Y3 rfl ?_
      refine OW_no rfl ?_
      refine OW_no rfl ?_
      refine OW_no rfl ?_
      refine EN43_Y3 rfl ?_
      refine OW_pick rfl rfl rfl ?_
      refine OW_mv rfl rfl ?_
      refine OW_no rfl ?_
      refine EN43_Y3 rfl ?_
      refine OW_no rfl ?_
      refine OW_no rfl ?_
      refine OW_no rfl ?_
      refine EN43_Y3 rfl ?_
      refine OW_no rfl ?_
      refine OW_pick rfl rfl rfl ?_
      refine EZ43_Y3 rfl ?_
      refine XW_yes rfl rfl ?_
      refine XW_sr ?_
      refine OW_as rfl rfl ?_
      refine OW_as rfl rfl ?_
      refine OW_as rfl rfl ?_
      refine EZ43_Y3 rfl ?_
      refine XW_ret ?_
      refine then_ret ?_
      -- outcome 1
      refine ret_ret (res3 rfl (rv_tmp rfl) (rv_tmp rfl) (rv_tmp rfl)) (frz3 (Q := Q) (by first | exact freeze_plain rfl | exact Ls.freeze (by assumption) | exact Ls.freeze Ls.of | exact Ls.freeze Ls.emp | exact Ls.freeze Ls.nls) (by first | exact freeze_plain rfl | exact Ls.freeze (by assumption) | exact Ls.freeze Ls.of | exact Ls.freeze Ls.emp | exact Ls.freeze Ls.nls) (by first | exact freeze_plain rfl | exact Ls.freeze (by assumption) | exact Ls.freeze Ls.of | exact Ls.freeze Ls.emp | exact Ls.freeze Ls.nls) ?_)
      first | (rw [if_neg (by omega)] at hq; exact hq) | (rw [if_pos ⟨by omega, by omega, by omega⟩] at hq; rw [Int.toNat_natCast, ba_take, ba_drop]; exact hq)
    ·first
     |(exfalso; (try simp only [bs] at g2_3) <;> (first | (exact absurd rfl g2_3) | (exact g2_3 trivial) | omega | (simp at g2_3; done)); done)
     |skip
      try simp only [bs] at g2_3
      refine OW_mv rfl rfl ?_
      refine OW_bin rfl rfl rfl rfl rfl ?_
      refine EN43_Y3 rfl ?_
      refine OW_pick rfl rfl rfl ?_
      refine OW_mv rfl rfl ?_
      refine OW_split (tt := 22) rfl (fun g2_7 => ?_) (fun g2_7 => ?_)
      ·first
       |(exfalso; (try simp only [bs] at g2_7) <;> (first | (exact absurd rfl g2_7) | (exact g2_7 trivial) | omega | (simp at g2_7; done)); done)
       |skip
        try simp only [bs] at g2_7
        refine EN43_Y3 rfl ?_
        refine OW_no rfl ?_
        refine OW_no rfl ?_
        refine OW_no rfl ?_
        refine EN43_Y3 rfl ?_
        refine OW_no rfl ?_
        refine OW_pick rfl rfl rfl ?_
        refine OW_mv rfl rfl ?_
        refine EN43_Y3 rfl ?_
        refine OW_no rfl ?_
        refine OW_no rfl ?_
        refine OW_no rfl ?_
        refine EN43_Y3 rfl ?_
        refine OW_no rfl ?_
        refine OW_no rfl ?_
        refine OW_pick rfl rfl rfl ?_
        refine EZ43_Y3 rfl ?_
        refine XW_yes rfl rfl ?_
        refine XW_sr ?_
        refine OW_as rfl rfl ?_
        refine OW_as rfl rfl ?_
        refine OW_as rfl rfl ?_
        refine EZ43_Y3 rfl ?_
        refine XW_ret ?_
        refine then_ret ?_
        -- outcome 2
        refine ret_ret (res3 rfl (rv_tmp rfl) (rv_tmp rfl) (rv_tmp rfl)) (frz3 (Q := Q) (by first | exact freeze_plain rfl | exact Ls.freeze (by assumption) | exact Ls.freeze Ls.of | exact Ls.freeze Ls.emp | exact Ls.freeze Ls.nls) (by first | exact freeze_plain rfl | exact Ls.freeze (by assumption) | exact Ls.freeze Ls.of | exact Ls.freeze Ls.emp | exact Ls.freeze Ls.nls) (by first | exact freeze_plain rfl | exact Ls.freeze (by assumption) | exact Ls.freeze Ls.of | exact Ls.freeze Ls.emp | exact Ls.freeze Ls.nls) ?_)
        first | (rw [if_neg (by omega)] at hq; exact hq) | (rw [if_pos ⟨by omega, by omega, by omega⟩] at hq; rw [Int.toNat_natCast, ba_take, ba_drop]; exact hq)
      ·first
       |(exfalso; (try simp only [bs] at g2_7) <;> (first | (exact absurd rfl g2_7) | (exact g2_7 trivial) | omega | (simp at g2_7; done)); done)
       |skip
        try simp only [bs] at g2_7
        refine EN43_Y3 rfl ?_
        refine OW_mv rfl rfl ?_
        refine OW_mv rfl rfl ?_
        first
        | refine OW_conv rfl rfl (conv_in rfl rfl rfl (IntWalk.u64_in _ (by omega))) ?_
        | refine OW_conv rfl rfl rfl ?_
        refine EN43_Y3 rfl ?_
        refine OW_bin rfl rfl rfl rfl rfl ?_
        refine OW_pick rfl rfl rfl ?_
        refine OW_mv rfl rfl ?_
        refine EN43_Y3 rfl ?_
        refine OW_split (tt := 28) rfl (fun g2_13 => ?_) (fun g2_13 => ?_)
        ·first
         |(exfalso; (try simp only [bs] at g2_13) <;> (first | (exact absurd rfl g2_13) | (exact g2_13 trivial) | omega | (simp at g2_13; done)); done)
         |skip
          try simp only [bs] at g2_13
          refine OW_no rfl ?_
          refine OW_no rfl ?_
          refine EN43_Y3 rfl ?_
          refine OW_no rfl ?_
          refine OW_no rfl ?_
          refine OW_no rfl ?_
          refine EN43_Y3 rfl ?_
          refine OW_pick rfl rfl rfl ?_
          refine EZ43_Y3 rfl ?_
          refine XW_yes rfl rfl ?_
          refine XW_sr ?_
          refine OW_as rfl rfl ?_
          refine OW_as rfl rfl ?_
          refine OW_as rfl rfl ?_
          refine EZ43_Y3 rfl ?_
          refine XW_ret ?_
          refine then_ret ?_
          -- outcome 3
          refine ret_ret (res3 rfl (rv_tmp rfl) (rv_tmp rfl) (rv_tmp rfl)) (frz3 (Q := Q) (by first | exact freeze_plain rfl | exact Ls.freeze (by assumption) | exact Ls.freeze Ls.of | exact Ls.freeze Ls.emp | exact Ls.freeze Ls.nls) (by first | exact freeze_plain rfl | exact Ls.freeze (by assumption) | exact Ls.freeze Ls.of | exact Ls.freeze Ls.emp | exact Ls.freeze Ls.nls) (by first | exact freeze_plain rfl | exact Ls.freeze (by assumption) | exact Ls.freeze Ls.of | exact Ls.freeze Ls.emp | exact Ls.freeze Ls.nls) ?_)
          first | (rw [if_neg (by omega)] at hq; exact hq) | (rw [if_pos ⟨by omega, by omega, by omega⟩] at hq; rw [Int.toNat_natCast, ba_take, ba_drop]; exact hq)
        ·first
         |(exfalso; (try simp only [bs] at g2_13) <;> (first | (exact absurd rfl g2_13) | (exact g2_13 trivial) | omega | (simp at g2_13; done)); done)
         |skip
          try simp only [bs] at g2_13
          refine OW_mv rfl rfl ?_
          refine OW_mv rfl rfl ?_
          refine EN43_Y3 rfl ?_
          refine OW_lenS rfl rfl rfl ?_
          first
          | refine OW_conv rfl rfl (conv_in rfl rfl rfl (IntWalk.u64_in _ (by omega))) ?_
          | refine OW_conv rfl rfl rfl ?_
          refine OW_bin rfl rfl rfl rfl rfl ?_
          refine EN43_Y3 rfl ?_
          refine OW_pick rfl rfl rfl ?_
          refine EZ43_Y3 rfl ?_
          refine XW_if rfl (fun h2 => ?_) (fun h2 => ?_)
          ·first
           |(exfalso; (try simp only [bs] at h2) <;> (first | (exact absurd rfl h2) | (exact h2 trivial) | omega | (simp at h2; done)); done)
           |skip
            try simp only [bs] at h2
            refine XW_sr ?_
            refine OW_as rfl rfl ?_
            refine OW_as rfl rfl ?_
            refine OW_as rfl rfl ?_
            refine EZ43_Y3 rfl ?_
            refine XW_ret ?_
            refine then_ret ?_
            -- outcome 4
            refine ret_ret (res3 rfl (rv_tmp rfl) (rv_tmp rfl) (rv_tmp rfl)) (frz3 (Q := Q) (by first | exact freeze_plain rfl | exact Ls.freeze (by assumption) | exact Ls.freeze Ls.of | exact Ls.freeze Ls.emp | exact Ls.freeze Ls.nls) (by first | exact freeze_plain rfl | exact Ls.freeze (by assumption) | exact Ls.freeze Ls.of | exact Ls.freeze Ls.emp | exact Ls.freeze Ls.nls) (by first | exact freeze_plain rfl | exact Ls.freeze (by assumption) | exact Ls.freeze Ls.of | exact Ls.freeze Ls.emp | exact Ls.freeze Ls.nls) ?_)
            first | (rw [if_neg (by omega)] at hq; exact hq) | (rw [if_pos ⟨by omega, by omega, by omega⟩] at hq; rw [Int.toNat_natCast, ba_take, ba_drop]; exact hq)
          ·first
           |(exfalso; (try simp only [bs] at h2) <;> (first | (exact absurd rfl h2) | (exact h2 trivial) | omega | (simp at h2; done)); done)
           |skip
            try simp only [bs] at h2
            refine XW_skip ?_
            refine then_norm ?_
            refine XW_sr ?_
            refine OW_mv rfl rfl ?_
            refine OW_mv rfl rfl ?_
            first
            | refine OW_conv rfl rfl (conv_in rfl rfl rfl (IntWalk.i64_in _ (by omega))) ?_
            | refine OW_conv rfl rfl rfl ?_
            refine EN43_Y3 rfl ?_
            refine OW_sl rfl rfl rfl rfl rfl (str_hi rfl rfl (by first | omega | (simp only [ss]; omega)) (by first | omega | (simp only [ss]; omega))) ?_
            refine OW_mv rfl rfl ?_
            refine OW_mv rfl rfl ?_
            refine EN43_Y3 rfl ?_
            first
            | refine OW_conv rfl rfl (conv_in rfl rfl rfl (IntWalk.i64_in _ (by omega))) ?_
            | refine OW_conv rfl rfl rfl ?_
            refine OW_sl rfl rfl rfl rfl rfl (str_lo rfl rfl (by first | omega | (simp only [ss]; omega)) (by first | omega | (simp only [ss]; omega))) ?_
            refine OW_as rfl rfl ?_
            refine EN43_Y3 rfl ?_
            refine OW_as rfl rfl ?_
            refine OW_as rfl rfl ?_
            refine EZ43_Y3 rfl ?_
            refine XW_ret ?_
            -- outcome 5
            refine ret_ret (res3 rfl (rv_tmp rfl) (rv_tmp rfl) (rv_tmp rfl)) (frz3 (Q := Q) (by first | exact freeze_plain rfl | exact Ls.freeze (by assumption) | exact Ls.freeze Ls.of | exact Ls.freeze Ls.emp | exact Ls.freeze Ls.nls) (by first | exact freeze_plain rfl | exact Ls.freeze (by assumption) | exact Ls.freeze Ls.of | exact Ls.freeze Ls.emp | exact Ls.freeze Ls.nls) (by first | exact freeze_plain rfl | exact Ls.freeze (by assumption) | exact Ls.freeze Ls.of | exact Ls.freeze Ls.emp | exact Ls.freeze Ls.nls) ?_)
            first | (rw [if_neg (by omega)] at hq; exact hq) | (rw [if_pos ⟨by omega, by omega, by omega⟩] at hq; rw [Int.toNat_natCast, ba_take, ba_drop]; exact hq)
theorem putUi {a : Int} (h : 0 ≤ a ∧ a ≤ 18446744073709551615) (hq : Q (.str (ba (encU a.toNat))) H) : CW cfg ν 59 [.int .u64 a] H Q := by
  have e : a = ((a.toNat : Nat) : Int) := by omega
  rw [e]
  exact putU (by omega) hq
theorem rputUi {a : Int} (h : 0 ≤ a ∧ a ≤ 18446744073709551615) (hq : Q (.str (ba (encU a.toNat))) H) : CW cfg ν 61 [.int .u64 a] H Q := by
  have e : a = ((a.toNat : Nat) : Int) := by omega
  rw [e]
  exact rputU (by omega) hq
theorem encU_i {a : Int} (h : 0 ≤ a ∧ a ≤ 18446744073709551615) : (ba (encU a.toNat)).size ≤ 10 := by
  rw [ba_size]; exact encU_le10 (by omega)
theorem resU_size (s : ByteArray) : (resU s).2.1.size ≤ s.size := by
  rcases resU_cases s with ⟨_, h⟩ | ⟨n, r, _, h, _, hr⟩
  · rw [h]; exact Nat.zero_le _
  · rw [h]; show (ba r).size ≤ _; rw [ba_size]; omega
theorem resT_size (m : Int) (s : ByteArray) : (resT m s).2.1.size ≤ s.size := by
  unfold resT
  cases h : WM.takeT m s.data.toList with
  | none => exact Nat.zero_le _
  | some p => obtain ⟨t, r⟩ := p; have := takeT_short h; show (ba r).size ≤ _; rw [ba_size]; have e : s.data.toList.length = s.size := rfl; omega
theorem resU_i (s : ByteArray) : 0 ≤ (resU s).1 ∧ (resU s).1 ≤ 18446744073709551615 := by
  rcases resU_cases s with ⟨_, h⟩ | ⟨n, r, _, h, hn, hr⟩
  · rw [h]; decide
  · rw [h]; show 0 ≤ (n : Int) ∧ (n : Int) ≤ _; omega
/-- A number, as the machine takes it. -/
theorem cI_res (s : ByteArray) : ((resU s).2.2 = false ∧ resU s = (0, ⟨#[]⟩, false) ∧ cI.tk s.data.toList = none) ∨ ((resU s).2.2 = true ∧ cI.tk s.data.toList = some ((resU s).1, (resU s).2.1.data.toList)) := by
  rcases resU_cases s with ⟨h1, h2⟩ | ⟨n, r, h1, h2, _, _⟩
  · rw [h2]; exact .inl ⟨rfl, rfl, cI_tk1 h1⟩
  · rw [h2]; exact .inr ⟨rfl, cI_tk2 h1⟩
theorem cT_res (m : Nat) (hm : m < 18446744073709551616) (s : ByteArray) : ((resT m s).2.2 = false ∧ resT m s = (⟨#[]⟩, ⟨#[]⟩, false) ∧ (cT m hm).tk s.data.toList = none) ∨ ((resT m s).2.2 = true ∧ (cT m hm).tk s.data.toList = some ((resT m s).1, (resT m s).2.1.data.toList)) := by
  unfold resT
  cases h : WM.takeT (m : Int) s.data.toList with
  | none => exact .inl ⟨rfl, rfl, cT_tk1 h⟩
  | some p => exact .inr ⟨rfl, cT_tk2 h⟩
end Go.Proofs.Ytealccnfnpkngaa.X
