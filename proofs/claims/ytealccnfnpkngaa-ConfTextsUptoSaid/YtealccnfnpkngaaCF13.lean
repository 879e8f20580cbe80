/- Layer 14: texts of commands and of states. -/
import Derived.Test.YtealccnfnpkngaaCF3
import Derived.Test.YtealccnfnpkngaaNU
set_option linter.unusedVariables false
set_option linter.unusedSimpArgs false
set_option maxRecDepth 100000
namespace Go.Proofs.Ytealccnfnpkngaa.X
open Go Go.RowKit WM
theorem EN37_CF13 {c : Cfg} {ν : Nm} {e : Env} {H : Heap} {all : Array Oper} {r : List Oper} {i : Nat} {Q : Env → Heap → Prop} {x0 x1 x2 x3 x4 x5 x6 x7 x8 x9 x10 x11 x12 x13 x14 x15 x16 x17 x18 x19 x20 x21 x22 x23 x24 x25 x26 x27 x28 x29 x30 x31 x32 x33 x34 x35 x36 : AVal} (he : e = [x0,x1,x2,x3,x4,x5,x6,x7,x8,x9,x10,x11,x12,x13,x14,x15,x16,x17,x18,x19,x20,x21,x22,x23,x24,x25,x26,x27,x28,x29,x30,x31,x32,x33,x34,x35,x36]) (h : OW c ν all r i [x0,x1,x2,x3,x4,x5,x6,x7,x8,x9,x10,x11,x12,x13,x14,x15,x16,x17,x18,x19,x20,x21,x22,x23,x24,x25,x26,x27,x28,x29,x30,x31,x32,x33,x34,x35,x36] H Q) : OW c ν all r i e H Q := by subst he; exact h
theorem EN50_CF13 {c : Cfg} {ν : Nm} {e : Env} {H : Heap} {all : Array Oper} {r : List Oper} {i : Nat} {Q : Env → Heap → Prop} {x0 x1 x2 x3 x4 x5 x6 x7 x8 x9 x10 x11 x12 x13 x14 x15 x16 x17 x18 x19 x20 x21 x22 x23 x24 x25 x26 x27 x28 x29 x30 x31 x32 x33 x34 x35 x36 x37 x38 x39 x40 x41 x42 x43 x44 x45 x46 x47 x48 x49 : AVal} (he : e = [x0,x1,x2,x3,x4,x5,x6,x7,x8,x9,x10,x11,x12,x13,x14,x15,x16,x17,x18,x19,x20,x21,x22,x23,x24,x25,x26,x27,x28,x29,x30,x31,x32,x33,x34,x35,x36,x37,x38,x39,x40,x41,x42,x43,x44,x45,x46,x47,x48,x49]) (h : OW c ν all r i [x0,x1,x2,x3,x4,x5,x6,x7,x8,x9,x10,x11,x12,x13,x14,x15,x16,x17,x18,x19,x20,x21,x22,x23,x24,x25,x26,x27,x28,x29,x30,x31,x32,x33,x34,x35,x36,x37,x38,x39,x40,x41,x42,x43,x44,x45,x46,x47,x48,x49] H Q) : OW c ν all r i e H Q := by subst he; exact h
theorem EN54_CF13 {c : Cfg} {ν : Nm} {e : Env} {H : Heap} {all : Array Oper} {r : List Oper} {i : Nat} {Q : Env → Heap → Prop} {x0 x1 x2 x3 x4 x5 x6 x7 x8 x9 x10 x11 x12 x13 x14 x15 x16 x17 x18 x19 x20 x21 x22 x23 x24 x25 x26 x27 x28 x29 x30 x31 x32 x33 x34 x35 x36 x37 x38 x39 x40 x41 x42 x43 x44 x45 x46 x47 x48 x49 x50 x51 x52 x53 : AVal} (he : e = [x0,x1,x2,x3,x4,x5,x6,x7,x8,x9,x10,x11,x12,x13,x14,x15,x16,x17,x18,x19,x20,x21,x22,x23,x24,x25,x26,x27,x28,x29,x30,x31,x32,x33,x34,x35,x36,x37,x38,x39,x40,x41,x42,x43,x44,x45,x46,x47,x48,x49,x50,x51,x52,x53]) (h : OW c ν all r i [x0,x1,x2,x3,x4,x5,x6,x7,x8,x9,x10,x11,x12,x13,x14,x15,x16,x17,x18,x19,x20,x21,x22,x23,x24,x25,x26,x27,x28,x29,x30,x31,x32,x33,x34,x35,x36,x37,x38,x39,x40,x41,x42,x43,x44,x45,x46,x47,x48,x49,x50,x51,x52,x53] H Q) : OW c ν all r i e H Q := by subst he; exact h
theorem EZ37_CF13 {c : Cfg} {ν : Nm} {e : Env} {H : Heap} {all : Array Oper} {i : Nat} {Q : Env → Heap → Prop} {x0 x1 x2 x3 x4 x5 x6 x7 x8 x9 x10 x11 x12 x13 x14 x15 x16 x17 x18 x19 x20 x21 x22 x23 x24 x25 x26 x27 x28 x29 x30 x31 x32 x33 x34 x35 x36 : AVal} (he : e = [x0,x1,x2,x3,x4,x5,x6,x7,x8,x9,x10,x11,x12,x13,x14,x15,x16,x17,x18,x19,x20,x21,x22,x23,x24,x25,x26,x27,x28,x29,x30,x31,x32,x33,x34,x35,x36]) (h : Q [x0,x1,x2,x3,x4,x5,x6,x7,x8,x9,x10,x11,x12,x13,x14,x15,x16,x17,x18,x19,x20,x21,x22,x23,x24,x25,x26,x27,x28,x29,x30,x31,x32,x33,x34,x35,x36] H) : OW c ν all [] i e H Q := by subst he; exact OW_nil h
theorem EZ50_CF13 {c : Cfg} {ν : Nm} {e : Env} {H : Heap} {all : Array Oper} {i : Nat} {Q : Env → Heap → Prop} {x0 x1 x2 x3 x4 x5 x6 x7 x8 x9 x10 x11 x12 x13 x14 x15 x16 x17 x18 x19 x20 x21 x22 x23 x24 x25 x26 x27 x28 x29 x30 x31 x32 x33 x34 x35 x36 x37 x38 x39 x40 x41 x42 x43 x44 x45 x46 x47 x48 x49 : AVal} (he : e = [x0,x1,x2,x3,x4,x5,x6,x7,x8,x9,x10,x11,x12,x13,x14,x15,x16,x17,x18,x19,x20,x21,x22,x23,x24,x25,x26,x27,x28,x29,x30,x31,x32,x33,x34,x35,x36,x37,x38,x39,x40,x41,x42,x43,x44,x45,x46,x47,x48,x49]) (h : Q [x0,x1,x2,x3,x4,x5,x6,x7,x8,x9,x10,x11,x12,x13,x14,x15,x16,x17,x18,x19,x20,x21,x22,x23,x24,x25,x26,x27,x28,x29,x30,x31,x32,x33,x34,x35,x36,x37,x38,x39,x40,x41,x42,x43,x44,x45,x46,x47,x48,x49] H) : OW c ν all [] i e H Q := by subst he; exact OW_nil h
theorem EZ54_CF13 {c : Cfg} {ν : Nm} {e : Env} {H : Heap} {all : Array Oper} {i : Nat} {Q : Env → Heap → Prop} {x0 x1 x2 x3 x4 x5 x6 x7 x8 x9 x10 x11 x12 x13 x14 x15 x16 x17 x18 x19 x20 x21 x22 x23 x24 x25 x26 x27 x28 x29 x30 x31 x32 x33 x34 x35 x36 x37 x38 x39 x40 x41 x42 x43 x44 x45 x46 x47 x48 x49 x50 x51 x52 x53 : AVal} (he : e = [x0,x1,x2,x3,x4,x5,x6,x7,x8,x9,x10,x11,x12,x13,x14,x15,x16,x17,x18,x19,x20,x21,x22,x23,x24,x25,x26,x27,x28,x29,x30,x31,x32,x33,x34,x35,x36,x37,x38,x39,x40,x41,x42,x43,x44,x45,x46,x47,x48,x49,x50,x51,x52,x53]) (h : Q [x0,x1,x2,x3,x4,x5,x6,x7,x8,x9,x10,x11,x12,x13,x14,x15,x16,x17,x18,x19,x20,x21,x22,x23,x24,x25,x26,x27,x28,x29,x30,x31,x32,x33,x34,x35,x36,x37,x38,x39,x40,x41,x42,x43,x44,x45,x46,x47,x48,x49,x50,x51,x52,x53] H) : OW c ν all [] i e H Q := by subst he; exact OW_nil h
variable {ν : Nm} {H : Heap} {Q : AVal → Heap → Prop} {c : Cf} {gs : Int}
theorem u64_wr (d : Int) : 0 ≤ IntKind.u64.wrap d ∧ IntKind.u64.wrap d ≤ 18446744073709551615 := by rw [IntKind.wrap_u64]; omega
def packS (d a b : Int) : ByteArray := ba (encU (IntKind.u64.wrap d).toNat) ++ ba (encU a.toNat) ++ ba (encU b.toNat)
theorem p_pack {d a b : Int} (ha : 0 ≤ a ∧ a ≤ 18446744073709551615) (hb : 0 ≤ b ∧ b ≤ 18446744073709551615) (hq : Q (.str (packS d a b)) H) : CW cfg ν 28 [.int .i64 d, .int .u64 a, .int .u64 b] H Q := by
  have h1 := encU_i (u64_wr d); have h2 := encU_i ha; have h3 := encU_i hb
  refine CW_pure g28 F28 rfl ?_
  refine XW_sr ?_
  refine OW_as rfl rfl ?_
  refine OW_nilE (e' := [_,_,_,_,_,_,_,_,_,_,_,_,_,_,_,_]) rfl ?_
  refine XW_sr ?_
  refine OW_mv rfl rfl ?_
  refine OW_conv rfl rfl rfl ?_
  refine OW_fn rfl rfl (putUi (u64_wr d) ?_) 
  refine OW_env (e' := [_,_,_,_,_,_,_,_,_,_,_,_,_,_,_,_]) rfl ?_
  refine OW_mv rfl rfl ?_
  refine OW_fn rfl rfl (putUi (by assumption) ?_) 
  refine OW_bin rfl rfl rfl rfl (cat (by first | omega | assumption | (simp only [ss]; omega) | (refine Nat.le_trans (Nat.add_le_add_left (show _ ≤ 256 by decide) _) (by first | omega | (simp only [ss]; omega))) | (refine Nat.le_trans (Nat.add_le_add_right (show _ ≤ 256 by decide) _) (by first | omega | (simp only [ss]; omega))))) ?_
  refine OW_env (e' := [_,_,_,_,_,_,_,_,_,_,_,_,_,_,_,_]) rfl ?_
  refine OW_mv rfl rfl ?_
  refine OW_fn rfl rfl (putUi (by assumption) ?_) 
  refine OW_bin rfl rfl rfl rfl (cat (by first | omega | assumption | (simp only [ss]; omega) | (refine Nat.le_trans (Nat.add_le_add_left (show _ ≤ 256 by decide) _) (by first | omega | (simp only [ss]; omega))) | (refine Nat.le_trans (Nat.add_le_add_right (show _ ≤ 256 by decide) _) (by first | omega | (simp only [ss]; omega))))) ?_
  refine OW_env (e' := [_,_,_,_,_,_,_,_,_,_,_,_,_,_,_,_]) rfl ?_
  refine OW_as rfl rfl ?_
  refine OW_nilE (e' := [_,_,_,_,_,_,_,_,_,_,_,_,_,_,_,_]) rfl ?_
  refine XW_ret ?_
  -- outcome 1
  refine ret_ret (res1 rfl (rv_tmp rfl)) (frz1 (Q := Q) (by first | exact freeze_plain rfl | exact Ls.freeze (by assumption) | exact Ls.freeze Ls.of | exact Ls.freeze Ls.emp | exact Ls.freeze Ls.nls) ?_)
  exact hq
theorem r_pack {d a b : Int} (ha : 0 ≤ a ∧ a ≤ 18446744073709551615) (hb : 0 ≤ b ∧ b ≤ 18446744073709551615) (hq : Q (.str (packS d a b)) H) : CW cfg ν 29 [.int .i64 d, .int .u64 a, .int .u64 b] H Q := by
  have h1 := encU_i (u64_wr d); have h2 := encU_i ha; have h3 := encU_i hb
  refine CW_pure g29 F29 rfl ?_
  refine XW_sr ?_
  refine OW_as rfl rfl ?_
  refine OW_nilE (e' := [_,_,_,_,_,_,_,_,_,_,_,_,_,_,_,_]) rfl ?_
  refine XW_sr ?_
  refine OW_mv rfl rfl ?_
  refine OW_conv rfl rfl rfl ?_
  refine OW_fn rfl rfl (rputUi (u64_wr d) ?_) 
  refine OW_env (e' := [_,_,_,_,_,_,_,_,_,_,_,_,_,_,_,_]) rfl ?_
  refine OW_mv rfl rfl ?_
  refine OW_fn rfl rfl (rputUi (by assumption) ?_) 
  refine OW_bin rfl rfl rfl rfl (cat (by first | omega | assumption | (simp only [ss]; omega) | (refine Nat.le_trans (Nat.add_le_add_left (show _ ≤ 256 by decide) _) (by first | omega | (simp only [ss]; omega))) | (refine Nat.le_trans (Nat.add_le_add_right (show _ ≤ 256 by decide) _) (by first | omega | (simp only [ss]; omega))))) ?_
  refine OW_env (e' := [_,_,_,_,_,_,_,_,_,_,_,_,_,_,_,_]) rfl ?_
  refine OW_mv rfl rfl ?_
  refine OW_fn rfl rfl (rputUi (by assumption) ?_) 
  refine OW_bin rfl rfl rfl rfl (cat (by first | omega | assumption | (simp only [ss]; omega) | (refine Nat.le_trans (Nat.add_le_add_left (show _ ≤ 256 by decide) _) (by first | omega | (simp only [ss]; omega))) | (refine Nat.le_trans (Nat.add_le_add_right (show _ ≤ 256 by decide) _) (by first | omega | (simp only [ss]; omega))))) ?_
  refine OW_env (e' := [_,_,_,_,_,_,_,_,_,_,_,_,_,_,_,_]) rfl ?_
  refine OW_as rfl rfl ?_
  refine OW_nilE (e' := [_,_,_,_,_,_,_,_,_,_,_,_,_,_,_,_]) rfl ?_
  refine XW_ret ?_
  -- outcome 1
  refine ret_ret (res1 rfl (rv_tmp rfl)) (frz1 (Q := Q) (by first | exact freeze_plain rfl | exact Ls.freeze (by assumption) | exact Ls.freeze Ls.of | exact Ls.freeze Ls.emp | exact Ls.freeze Ls.nls) ?_)
  exact hq
/-! ### Unpack -/
theorem num3 (s : ByteArray) : resN 3 s = ([], ⟨#[]⟩, false) ∨ ∃ x y z r, resN 3 s = ([x, y, z], r, true) ∧ (0 ≤ x ∧ x ≤ 18446744073709551615) := by
  unfold resN
  cases h : cI.manyT 3 s.data.toList with
  | none => exact .inl rfl
  | some p =>
    obtain ⟨l, r⟩ := p
    obtain ⟨⟨h1, h2⟩, _⟩ := (cI.manyT_iff _ _ _ _).1 h
    match l, h1, h2 with
    | [x, y, z], _, h2 => exact .inr ⟨x, y, z, _, rfl, h2 x (by simp)⟩
def unpS (s : ByteArray) : Int × Int × Int × Bool := match resN 3 s with
  | ([x, y, z], r, true) => if r = ⟨#[]⟩ ∧ x < 3 then (x, y, z, true) else (0, 0, 0, false)
  | _ => (0, 0, 0, false)
def tup4 (x : Int × Int × Int × Bool) : AVal := .tup [.int .i64 x.1, .int .u64 x.2.1, .int .u64 x.2.2.1, .bool x.2.2.2]
theorem takeN_e {s : ByteArray} {m : Nat} {l : List Int} {r : ByteArray} {b : Bool} (hs : s.size ≤ 4611686018427387904) (hm : m ≤ 16) (he : resN m s = (l, r, b)) (hq : Q (.tup [.lst (l.map encN), .str r, .bool b]) H) : CW cfg ν 48 [.str s, .int .i64 m] H Q := takeN_c hs hm (by rw [he]; exact hq)
theorem rnums_e {s : ByteArray} {m : Nat} {l : List Int} {r : ByteArray} {b : Bool} (hs : s.size ≤ 4611686018427387904) (hm : m ≤ 16) (he : resN m s = (l, r, b)) (hq : Q (.tup [.lst (l.map encN), .str r, .bool b]) H) : CW cfg ν 49 [.str s, .int .i64 m] H Q := rnums_c hs hm (by rw [he]; exact hq)
theorem p_unpack {s : ByteArray} (hs : s.size ≤ 4611686018427387904) (hq : Q (tup4 (unpS s)) H) : CW cfg ν 23 [.str s] H Q := by
  rcases num3 s with h | ⟨x, y, z, r, h, hx⟩
  · rw [unpS, h] at hq
    refine CW_pure g23 F23 rfl ?_
    refine XW_sr ?_
    refine OW_as rfl rfl ?_
    refine OW_as rfl rfl ?_
    refine OW_as rfl rfl ?_
    refine EN37_CF13 rfl ?_
    refine OW_as rfl rfl ?_
    refine EZ37_CF13 rfl ?_
    refine XW_sr ?_
    refine OW_mv rfl rfl ?_
    refine OW_fn rfl rfl (takeN_e (m := 3) hs (by decide) h ?_) 
    refine OW_mv rfl rfl ?_
    refine EN37_CF13 rfl ?_
    refine OW_ex rfl rfl rfl ?_
    refine OW_ex rfl rfl rfl ?_
    refine OW_ex rfl rfl rfl ?_
    refine EN37_CF13 rfl ?_
    refine OW_as rfl rfl ?_
    refine OW_as rfl rfl ?_
    refine OW_as rfl rfl ?_
    refine EZ37_CF13 rfl ?_
    refine XW_seq ?_
    refine XW_sr ?_
    refine OW_mv rfl rfl ?_
    refine OW_un rfl rfl rfl ?_
    refine OW_mv rfl rfl ?_
    refine EN37_CF13 rfl ?_
    refine OW_split (tt := 17) rfl (fun g2_3 => ?_) (fun g2_3 => ?_)
    ·first
     |(exfalso; (try simp only [bs] at g2_3) <;> (first | (exact absurd rfl g2_3) | (exact g2_3 trivial) | omega | (simp at g2_3; done)); done)
     |skip
      try simp only [bs] at g2_3
      refine OW_no rfl ?_
      refine OW_no rfl ?_
      refine EN37_CF13 rfl ?_
      refine OW_pick rfl rfl rfl ?_
      refine OW_mv rfl rfl ?_
      refine OW_no rfl ?_
      refine EN37_CF13 rfl ?_
      refine OW_no rfl ?_
      refine OW_no rfl ?_
      refine OW_no rfl ?_
      refine EN37_CF13 rfl ?_
      refine OW_pick rfl rfl rfl ?_
      refine EZ37_CF13 rfl ?_
      refine XW_yes rfl rfl ?_
      refine XW_sr ?_
      refine OW_as rfl rfl ?_
      refine OW_as rfl rfl ?_
      refine OW_as rfl rfl ?_
      refine EN37_CF13 rfl ?_
      refine OW_as rfl rfl ?_
      refine EZ37_CF13 rfl ?_
      refine XW_ret ?_
      refine then_ret ?_
      -- outcome 1
      refine ret_ret (res4 rfl (rv_tmp rfl) (rv_tmp rfl) (rv_tmp rfl) (rv_tmp rfl)) (frz4 (Q := Q) (by first | exact freeze_plain rfl | exact Ls.freeze (by assumption) | exact Ls.freeze Ls.of | exact Ls.freeze Ls.emp | exact Ls.freeze Ls.nls) (by first | exact freeze_plain rfl | exact Ls.freeze (by assumption) | exact Ls.freeze Ls.of | exact Ls.freeze Ls.emp | exact Ls.freeze Ls.nls) (by first | exact freeze_plain rfl | exact Ls.freeze (by assumption) | exact Ls.freeze Ls.of | exact Ls.freeze Ls.emp | exact Ls.freeze Ls.nls) (by first | exact freeze_plain rfl | exact Ls.freeze (by assumption) | exact Ls.freeze Ls.of | exact Ls.freeze Ls.emp | exact Ls.freeze Ls.nls) ?_)
      exact hq
    ·first
     |(exfalso; (try simp only [bs] at g2_3) <;> (first | (exact absurd rfl g2_3) | (exact g2_3 trivial) | omega | (simp at g2_3; done)); done)
     |skip
      try simp only [bs] at g2_3
      refine OW_mv rfl rfl ?_
      refine OW_bin rfl rfl rfl rfl rfl ?_
      refine EN37_CF13 rfl ?_
      refine OW_pick rfl rfl rfl ?_
      refine OW_mv rfl rfl ?_
      refine OW_split (tt := 21) rfl (fun g2_7 => ?_) (fun g2_7 => ?_)
      ·first
       |(exfalso; (try simp only [bs] at g2_7) <;> (first | (exact absurd rfl g2_7) | (exact g2_7 trivial) | omega | (simp at g2_7; done)); done)
       |skip
        try simp only [bs] at g2_7
        refine EN37_CF13 rfl ?_
        refine OW_no rfl ?_
        refine OW_no rfl ?_
        refine OW_no rfl ?_
        refine EN37_CF13 rfl ?_
        refine OW_no rfl ?_
        refine OW_pick rfl rfl rfl ?_
        refine EZ37_CF13 rfl ?_
        refine XW_yes rfl rfl ?_
        refine XW_sr ?_
        refine OW_as rfl rfl ?_
        refine OW_as rfl rfl ?_
        refine OW_as rfl rfl ?_
        refine EN37_CF13 rfl ?_
        refine OW_as rfl rfl ?_
        refine EZ37_CF13 rfl ?_
        refine XW_ret ?_
        refine then_ret ?_
        -- outcome 2
        refine ret_ret (res4 rfl (rv_tmp rfl) (rv_tmp rfl) (rv_tmp rfl) (rv_tmp rfl)) (frz4 (Q := Q) (by first | exact freeze_plain rfl | exact Ls.freeze (by assumption) | exact Ls.freeze Ls.of | exact Ls.freeze Ls.emp | exact Ls.freeze Ls.nls) (by first | exact freeze_plain rfl | exact Ls.freeze (by assumption) | exact Ls.freeze Ls.of | exact Ls.freeze Ls.emp | exact Ls.freeze Ls.nls) (by first | exact freeze_plain rfl | exact Ls.freeze (by assumption) | exact Ls.freeze Ls.of | exact Ls.freeze Ls.emp | exact Ls.freeze Ls.nls) (by first | exact freeze_plain rfl | exact Ls.freeze (by assumption) | exact Ls.freeze Ls.of | exact Ls.freeze Ls.emp | exact Ls.freeze Ls.nls) ?_)
        exact hq
      ·first
       |(exfalso; (try simp only [bs] at g2_7) <;> (first | (exact absurd rfl g2_7) | (exact g2_7 trivial) | omega | (simp at g2_7; done)); done)
       |skip
        try simp only [bs] at g2_7
        refine EN37_CF13 rfl ?_
        refine OW_mv rfl rfl ?_
        first
        | refine OW_iaL rfl rfl rfl Ls.of rfl rfl rfl (by first | rfl | exact (Int.toNat_of_nonneg (by omega)).symm) (by first | assumption | exact at_map (by first | assumption | omega) | exact at_lst (by omega) | rfl) rfl ?_
        | refine OW_iaL rfl rfl rfl (by assumption) rfl rfl rfl (by first | rfl | exact (Int.toNat_of_nonneg (by omega)).symm) (by first | assumption | exact at_map (by first | assumption | omega) | exact at_lst (by omega) | rfl) rfl ?_
        refine OW_loadE rfl rfl rfl (by first | exact part_whole rfl rfl rfl | rfl) ?_
        refine EN37_CF13 rfl ?_
        refine OW_bin rfl rfl rfl rfl rfl ?_
        refine OW_pick rfl rfl rfl ?_
        refine EZ37_CF13 rfl ?_
        refine XW_if rfl (fun h2 => ?_) (fun h2 => ?_)
        ·first
         |(exfalso; (try simp only [bs] at h2) <;> (first | (exact absurd rfl h2) | (exact h2 trivial) | omega | (simp at h2; done)); done)
         |skip
          try simp only [bs] at h2
          refine XW_sr ?_
          refine OW_as rfl rfl ?_
          refine OW_as rfl rfl ?_
          refine OW_as rfl rfl ?_
          refine EN37_CF13 rfl ?_
          refine OW_as rfl rfl ?_
          refine EZ37_CF13 rfl ?_
          refine XW_ret ?_
          refine then_ret ?_
          -- outcome 3
          refine ret_ret (res4 rfl (rv_tmp rfl) (rv_tmp rfl) (rv_tmp rfl) (rv_tmp rfl)) (frz4 (Q := Q) (by first | exact freeze_plain rfl | exact Ls.freeze (by assumption) | exact Ls.freeze Ls.of | exact Ls.freeze Ls.emp | exact Ls.freeze Ls.nls) (by first | exact freeze_plain rfl | exact Ls.freeze (by assumption) | exact Ls.freeze Ls.of | exact Ls.freeze Ls.emp | exact Ls.freeze Ls.nls) (by first | exact freeze_plain rfl | exact Ls.freeze (by assumption) | exact Ls.freeze Ls.of | exact Ls.freeze Ls.emp | exact Ls.freeze Ls.nls) (by first | exact freeze_plain rfl | exact Ls.freeze (by assumption) | exact Ls.freeze Ls.of | exact Ls.freeze Ls.emp | exact Ls.freeze Ls.nls) ?_)
          exact hq
        ·first
         |(exfalso; (try simp only [bs] at h2) <;> (first | (exact absurd rfl h2) | (exact h2 trivial) | omega | (simp at h2; done)); done)
         |skip
          try simp only [bs] at h2
          refine XW_skip ?_
          refine then_norm ?_
          refine XW_sr ?_
          refine OW_mv rfl rfl ?_
          first
          | refine OW_iaL rfl rfl rfl Ls.of rfl rfl rfl (by first | rfl | exact (Int.toNat_of_nonneg (by omega)).symm) (by first | assumption | exact at_map (by first | assumption | omega) | exact at_lst (by omega) | rfl) rfl ?_
          | refine OW_iaL rfl rfl rfl (by assumption) rfl rfl rfl (by first | rfl | exact (Int.toNat_of_nonneg (by omega)).symm) (by first | assumption | exact at_map (by first | assumption | omega) | exact at_lst (by omega) | rfl) rfl ?_
          refine OW_loadE rfl rfl rfl (by first | exact part_whole rfl rfl rfl | rfl) ?_
          refine EN37_CF13 rfl ?_
          first
          | refine OW_conv rfl rfl (conv_in rfl rfl rfl (IntWalk.i64_in _ (by omega))) ?_
          | refine OW_conv rfl rfl rfl ?_
          refine OW_mv rfl rfl ?_
          first
          | refine OW_iaL rfl rfl rfl Ls.of rfl rfl rfl (by first | rfl | exact (Int.toNat_of_nonneg (by omega)).symm) (by first | assumption | exact at_map (by first | assumption | omega) | exact at_lst (by omega) | rfl) rfl ?_
          | refine OW_iaL rfl rfl rfl (by assumption) rfl rfl rfl (by first | rfl | exact (Int.toNat_of_nonneg (by omega)).symm) (by first | assumption | exact at_map (by first | assumption | omega) | exact at_lst (by omega) | rfl) rfl ?_
          refine EN37_CF13 rfl ?_
          refine OW_loadE rfl rfl rfl (by first | exact part_whole rfl rfl rfl | rfl) ?_
          refine OW_mv rfl rfl ?_
          first
          | refine OW_iaL rfl rfl rfl Ls.of rfl rfl rfl (by first | rfl | exact (Int.toNat_of_nonneg (by omega)).symm) (by first | assumption | exact at_map (by first | assumption | omega) | exact at_lst (by omega) | rfl) rfl ?_
          | refine OW_iaL rfl rfl rfl (by assumption) rfl rfl rfl (by first | rfl | exact (Int.toNat_of_nonneg (by omega)).symm) (by first | assumption | exact at_map (by first | assumption | omega) | exact at_lst (by omega) | rfl) rfl ?_
          refine EN37_CF13 rfl ?_
          refine OW_loadE rfl rfl rfl (by first | exact part_whole rfl rfl rfl | rfl) ?_
          refine OW_as rfl rfl ?_
          refine OW_as rfl rfl ?_
          refine EN37_CF13 rfl ?_
          refine OW_as rfl rfl ?_
          refine OW_as rfl rfl ?_
          refine EZ37_CF13 rfl ?_
          refine XW_ret ?_
          -- outcome 4
          refine ret_ret (res4 rfl (rv_tmp rfl) (rv_tmp rfl) (rv_tmp rfl) (rv_tmp rfl)) (frz4 (Q := Q) (by first | exact freeze_plain rfl | exact Ls.freeze (by assumption) | exact Ls.freeze Ls.of | exact Ls.freeze Ls.emp | exact Ls.freeze Ls.nls) (by first | exact freeze_plain rfl | exact Ls.freeze (by assumption) | exact Ls.freeze Ls.of | exact Ls.freeze Ls.emp | exact Ls.freeze Ls.nls) (by first | exact freeze_plain rfl | exact Ls.freeze (by assumption) | exact Ls.freeze Ls.of | exact Ls.freeze Ls.emp | exact Ls.freeze Ls.nls) (by first | exact freeze_plain rfl | exact Ls.freeze (by assumption) | exact Ls.freeze Ls.of | exact Ls.freeze Ls.emp | exact Ls.freeze Ls.nls) ?_)
          exact hq
  · rw [unpS, h] at hq
    simp only at hq
    refine CW_pure g23 F23 rfl ?_
    refine XW_sr ?_
    refine OW_as rfl rfl ?_
    refine OW_as rfl rfl ?_
    refine OW_as rfl rfl ?_
    refine EN37_CF13 rfl ?_
    refine OW_as rfl rfl ?_
    refine EZ37_CF13 rfl ?_
    refine XW_sr ?_
    refine OW_mv rfl rfl ?_
    refine OW_fn rfl rfl (takeN_e (m := 3) hs (by decide) h ?_) 
    refine OW_mv rfl rfl ?_
    refine EN37_CF13 rfl ?_
    refine OW_ex rfl rfl rfl ?_
    refine OW_ex rfl rfl rfl ?_
    refine OW_ex rfl rfl rfl ?_
    refine EN37_CF13 rfl ?_
    refine OW_as rfl rfl ?_
    refine OW_as rfl rfl ?_
    refine OW_as rfl rfl ?_
    refine EZ37_CF13 rfl ?_
    refine XW_seq ?_
    refine XW_sr ?_
    refine OW_mv rfl rfl ?_
    refine OW_un rfl rfl rfl ?_
    refine OW_mv rfl rfl ?_
    refine EN37_CF13 rfl ?_
    refine OW_split (tt := 17) rfl (fun g2_3 => ?_) (fun g2_3 => ?_)
    ·first
     |(exfalso; (try simp only [bs] at g2_3) <;> (first | (exact absurd rfl g2_3) | (exact g2_3 trivial) | omega | (simp at g2_3; done)); done)
     |skip
      try simp only [bs] at g2_3
      refine OW_no rfl ?_
      refine OW_no rfl ?_
      refine EN37_CF13 rfl ?_
      refine OW_pick rfl rfl rfl ?_
      refine OW_mv rfl rfl ?_
      refine OW_no rfl ?_
      refine EN37_CF13 rfl ?_
      refine OW_no rfl ?_
      refine OW_no rfl ?_
      refine OW_no rfl ?_
      refine EN37_CF13 rfl ?_
      refine OW_pick rfl rfl rfl ?_
      refine EZ37_CF13 rfl ?_
      refine XW_yes rfl rfl ?_
      refine XW_sr ?_
      refine OW_as rfl rfl ?_
      refine OW_as rfl rfl ?_
      refine OW_as rfl rfl ?_
      refine EN37_CF13 rfl ?_
      refine OW_as rfl rfl ?_
      refine EZ37_CF13 rfl ?_
      refine XW_ret ?_
      refine then_ret ?_
      -- outcome 1
      refine ret_ret (res4 rfl (rv_tmp rfl) (rv_tmp rfl) (rv_tmp rfl) (rv_tmp rfl)) (frz4 (Q := Q) (by first | exact freeze_plain rfl | exact Ls.freeze (by assumption) | exact Ls.freeze Ls.of | exact Ls.freeze Ls.emp | exact Ls.freeze Ls.nls) (by first | exact freeze_plain rfl | exact Ls.freeze (by assumption) | exact Ls.freeze Ls.of | exact Ls.freeze Ls.emp | exact Ls.freeze Ls.nls) (by first | exact freeze_plain rfl | exact Ls.freeze (by assumption) | exact Ls.freeze Ls.of | exact Ls.freeze Ls.emp | exact Ls.freeze Ls.nls) (by first | exact freeze_plain rfl | exact Ls.freeze (by assumption) | exact Ls.freeze Ls.of | exact Ls.freeze Ls.emp | exact Ls.freeze Ls.nls) ?_)
      first | (rw [if_neg (by rintro ⟨e1, e2⟩; first | contradiction | omega)] at hq; exact hq) | (rw [if_pos ⟨by assumption, by omega⟩] at hq; exact hq)
    ·first
     |(exfalso; (try simp only [bs] at g2_3) <;> (first | (exact absurd rfl g2_3) | (exact g2_3 trivial) | omega | (simp at g2_3; done)); done)
     |skip
      try simp only [bs] at g2_3
      refine OW_mv rfl rfl ?_
      refine OW_bin rfl rfl rfl rfl rfl ?_
      refine EN37_CF13 rfl ?_
      refine OW_pick rfl rfl rfl ?_
      refine OW_mv rfl rfl ?_
      refine OW_split (tt := 21) rfl (fun g2_7 => ?_) (fun g2_7 => ?_)
      ·first
       |(exfalso; (try simp only [bs] at g2_7) <;> (first | (exact absurd rfl g2_7) | (exact g2_7 trivial) | omega | (simp at g2_7; done)); done)
       |skip
        try simp only [bs] at g2_7
        refine EN37_CF13 rfl ?_
        refine OW_no rfl ?_
        refine OW_no rfl ?_
        refine OW_no rfl ?_
        refine EN37_CF13 rfl ?_
        refine OW_no rfl ?_
        refine OW_pick rfl rfl rfl ?_
        refine EZ37_CF13 rfl ?_
        refine XW_yes rfl rfl ?_
        refine XW_sr ?_
        refine OW_as rfl rfl ?_
        refine OW_as rfl rfl ?_
        refine OW_as rfl rfl ?_
        refine EN37_CF13 rfl ?_
        refine OW_as rfl rfl ?_
        refine EZ37_CF13 rfl ?_
        refine XW_ret ?_
        refine then_ret ?_
        -- outcome 2
        refine ret_ret (res4 rfl (rv_tmp rfl) (rv_tmp rfl) (rv_tmp rfl) (rv_tmp rfl)) (frz4 (Q := Q) (by first | exact freeze_plain rfl | exact Ls.freeze (by assumption) | exact Ls.freeze Ls.of | exact Ls.freeze Ls.emp | exact Ls.freeze Ls.nls) (by first | exact freeze_plain rfl | exact Ls.freeze (by assumption) | exact Ls.freeze Ls.of | exact Ls.freeze Ls.emp | exact Ls.freeze Ls.nls) (by first | exact freeze_plain rfl | exact Ls.freeze (by assumption) | exact Ls.freeze Ls.of | exact Ls.freeze Ls.emp | exact Ls.freeze Ls.nls) (by first | exact freeze_plain rfl | exact Ls.freeze (by assumption) | exact Ls.freeze Ls.of | exact Ls.freeze Ls.emp | exact Ls.freeze Ls.nls) ?_)
        first | (rw [if_neg (by rintro ⟨e1, e2⟩; first | contradiction | omega)] at hq; exact hq) | (rw [if_pos ⟨by assumption, by omega⟩] at hq; exact hq)
      ·first
       |(exfalso; (try simp only [bs] at g2_7) <;> (first | (exact absurd rfl g2_7) | (exact g2_7 trivial) | omega | (simp at g2_7; done)); done)
       |skip
        try simp only [bs] at g2_7
        refine EN37_CF13 rfl ?_
        refine OW_mv rfl rfl ?_
        first
        | refine OW_iaL rfl rfl rfl Ls.of rfl rfl rfl (by first | rfl | exact (Int.toNat_of_nonneg (by omega)).symm) (by first | assumption | exact at_map (by first | assumption | omega) | exact at_lst (by omega) | rfl) rfl ?_
        | refine OW_iaL rfl rfl rfl (by assumption) rfl rfl rfl (by first | rfl | exact (Int.toNat_of_nonneg (by omega)).symm) (by first | assumption | exact at_map (by first | assumption | omega) | exact at_lst (by omega) | rfl) rfl ?_
        refine OW_loadE rfl rfl rfl (by first | exact part_whole rfl rfl rfl | rfl) ?_
        refine EN37_CF13 rfl ?_
        refine OW_bin rfl rfl rfl rfl rfl ?_
        refine OW_pick rfl rfl rfl ?_
        refine EZ37_CF13 rfl ?_
        refine XW_if rfl (fun h2 => ?_) (fun h2 => ?_)
        ·first
         |(exfalso; (try simp only [bs] at h2) <;> (first | (exact absurd rfl h2) | (exact h2 trivial) | omega | (simp at h2; done)); done)
         |skip
          try simp only [bs] at h2
          refine XW_sr ?_
          refine OW_as rfl rfl ?_
          refine OW_as rfl rfl ?_
          refine OW_as rfl rfl ?_
          refine EN37_CF13 rfl ?_
          refine OW_as rfl rfl ?_
          refine EZ37_CF13 rfl ?_
          refine XW_ret ?_
          refine then_ret ?_
          -- outcome 3
          refine ret_ret (res4 rfl (rv_tmp rfl) (rv_tmp rfl) (rv_tmp rfl) (rv_tmp rfl)) (frz4 (Q := Q) (by first | exact freeze_plain rfl | exact Ls.freeze (by assumption) | exact Ls.freeze Ls.of | exact Ls.freeze Ls.emp | exact Ls.freeze Ls.nls) (by first | exact freeze_plain rfl | exact Ls.freeze (by assumption) | exact Ls.freeze Ls.of | exact Ls.freeze Ls.emp | exact Ls.freeze Ls.nls) (by first | exact freeze_plain rfl | exact Ls.freeze (by assumption) | exact Ls.freeze Ls.of | exact Ls.freeze Ls.emp | exact Ls.freeze Ls.nls) (by first | exact freeze_plain rfl | exact Ls.freeze (by assumption) | exact Ls.freeze Ls.of | exact Ls.freeze Ls.emp | exact Ls.freeze Ls.nls) ?_)
          first | (rw [if_neg (by rintro ⟨e1, e2⟩; first | contradiction | omega)] at hq; exact hq) | (rw [if_pos ⟨by assumption, by omega⟩] at hq; exact hq)
        ·first
         |(exfalso; (try simp only [bs] at h2) <;> (first | (exact absurd rfl h2) | (exact h2 trivial) | omega | (simp at h2; done)); done)
         |skip
          try simp only [bs] at h2
          refine XW_skip ?_
          refine then_norm ?_
          refine XW_sr ?_
          refine OW_mv rfl rfl ?_
          first
          | refine OW_iaL rfl rfl rfl Ls.of rfl rfl rfl (by first | rfl | exact (Int.toNat_of_nonneg (by omega)).symm) (by first | assumption | exact at_map (by first | assumption | omega) | exact at_lst (by omega) | rfl) rfl ?_
          | refine OW_iaL rfl rfl rfl (by assumption) rfl rfl rfl (by first | rfl | exact (Int.toNat_of_nonneg (by omega)).symm) (by first | assumption | exact at_map (by first | assumption | omega) | exact at_lst (by omega) | rfl) rfl ?_
          refine OW_loadE rfl rfl rfl (by first | exact part_whole rfl rfl rfl | rfl) ?_
          refine EN37_CF13 rfl ?_
          first
          | refine OW_conv rfl rfl (conv_in rfl rfl rfl (IntWalk.i64_in _ (by omega))) ?_
          | refine OW_conv rfl rfl rfl ?_
          refine OW_mv rfl rfl ?_
          first
          | refine OW_iaL rfl rfl rfl Ls.of rfl rfl rfl (by first | rfl | exact (Int.toNat_of_nonneg (by omega)).symm) (by first | assumption | exact at_map (by first | assumption | omega) | exact at_lst (by omega) | rfl) rfl ?_
          | refine OW_iaL rfl rfl rfl (by assumption) rfl rfl rfl (by first | rfl | exact (Int.toNat_of_nonneg (by omega)).symm) (by first | assumption | exact at_map (by first | assumption | omega) | exact at_lst (by omega) | rfl) rfl ?_
          refine EN37_CF13 rfl ?_
          refine OW_loadE rfl rfl rfl (by first | exact part_whole rfl rfl rfl | rfl) ?_
          refine OW_mv rfl rfl ?_
          first
          | refine OW_iaL rfl rfl rfl Ls.of rfl rfl rfl (by first | rfl | exact (Int.toNat_of_nonneg (by omega)).symm) (by first | assumption | exact at_map (by first | assumption | omega) | exact at_lst (by omega) | rfl) rfl ?_
          | refine OW_iaL rfl rfl rfl (by assumption) rfl rfl rfl (by first | rfl | exact (Int.toNat_of_nonneg (by omega)).symm) (by first | assumption | exact at_map (by first | assumption | omega) | exact at_lst (by omega) | rfl) rfl ?_
          refine EN37_CF13 rfl ?_
          refine OW_loadE rfl rfl rfl (by first | exact part_whole rfl rfl rfl | rfl) ?_
          refine OW_as rfl rfl ?_
          refine OW_as rfl rfl ?_
          refine EN37_CF13 rfl ?_
          refine OW_as rfl rfl ?_
          refine OW_as rfl rfl ?_
          refine EZ37_CF13 rfl ?_
          refine XW_ret ?_
          -- outcome 4
          refine ret_ret (res4 rfl (rv_tmp rfl) (rv_tmp rfl) (rv_tmp rfl) (rv_tmp rfl)) (frz4 (Q := Q) (by first | exact freeze_plain rfl | exact Ls.freeze (by assumption) | exact Ls.freeze Ls.of | exact Ls.freeze Ls.emp | exact Ls.freeze Ls.nls) (by first | exact freeze_plain rfl | exact Ls.freeze (by assumption) | exact Ls.freeze Ls.of | exact Ls.freeze Ls.emp | exact Ls.freeze Ls.nls) (by first | exact freeze_plain rfl | exact Ls.freeze (by assumption) | exact Ls.freeze Ls.of | exact Ls.freeze Ls.emp | exact Ls.freeze Ls.nls) (by first | exact freeze_plain rfl | exact Ls.freeze (by assumption) | exact Ls.freeze Ls.of | exact Ls.freeze Ls.emp | exact Ls.freeze Ls.nls) ?_)
          first | (rw [if_neg (by rintro ⟨e1, e2⟩; first | contradiction | omega)] at hq; exact hq) | (rw [if_pos ⟨by assumption, by omega⟩] at hq; exact hq)
theorem r_unpack {s : ByteArray} (hs : s.size ≤ 4611686018427387904) (hq : Q (tup4 (unpS s)) H) : CW cfg ν 24 [.str s] H Q := by
  rcases num3 s with h | ⟨x, y, z, r, h, hx⟩
  · rw [unpS, h] at hq
    refine CW_pure g24 F24 rfl ?_
    refine XW_sr ?_
    refine OW_as rfl rfl ?_
    refine OW_as rfl rfl ?_
    refine OW_as rfl rfl ?_
    refine EN37_CF13 rfl ?_
    refine OW_as rfl rfl ?_
    refine EZ37_CF13 rfl ?_
    refine XW_sr ?_
    refine OW_mv rfl rfl ?_
    refine OW_fn rfl rfl (rnums_e (m := 3) hs (by decide) h ?_) 
    refine OW_mv rfl rfl ?_
    refine EN37_CF13 rfl ?_
    refine OW_ex rfl rfl rfl ?_
    refine OW_ex rfl rfl rfl ?_
    refine OW_ex rfl rfl rfl ?_
    refine EN37_CF13 rfl ?_
    refine OW_as rfl rfl ?_
    refine OW_as rfl rfl ?_
    refine OW_as rfl rfl ?_
    refine EZ37_CF13 rfl ?_
    refine XW_seq ?_
    refine XW_sr ?_
    refine OW_mv rfl rfl ?_
    refine OW_un rfl rfl rfl ?_
    refine OW_mv rfl rfl ?_
    refine EN37_CF13 rfl ?_
    refine OW_split (tt := 17) rfl (fun g2_3 => ?_) (fun g2_3 => ?_)
    ·first
     |(exfalso; (try simp only [bs] at g2_3) <;> (first | (exact absurd rfl g2_3) | (exact g2_3 trivial) | omega | (simp at g2_3; done)); done)
     |skip
      try simp only [bs] at g2_3
      refine OW_no rfl ?_
      refine OW_no rfl ?_
      refine EN37_CF13 rfl ?_
      refine OW_pick rfl rfl rfl ?_
      refine OW_mv rfl rfl ?_
      refine OW_no rfl ?_
      refine EN37_CF13 rfl ?_
      refine OW_no rfl ?_
      refine OW_no rfl ?_
      refine OW_no rfl ?_
      refine EN37_CF13 rfl ?_
      refine OW_pick rfl rfl rfl ?_
      refine EZ37_CF13 rfl ?_
      refine XW_yes rfl rfl ?_
      refine XW_sr ?_
      refine OW_as rfl rfl ?_
      refine OW_as rfl rfl ?_
      refine OW_as rfl rfl ?_
      refine EN37_CF13 rfl ?_
      refine OW_as rfl rfl ?_
      refine EZ37_CF13 rfl ?_
      refine XW_ret ?_
      refine then_ret ?_
      -- outcome 1
      refine ret_ret (res4 rfl (rv_tmp rfl) (rv_tmp rfl) (rv_tmp rfl) (rv_tmp rfl)) (frz4 (Q := Q) (by first | exact freeze_plain rfl | exact Ls.freeze (by assumption) | exact Ls.freeze Ls.of | exact Ls.freeze Ls.emp | exact Ls.freeze Ls.nls) (by first | exact freeze_plain rfl | exact Ls.freeze (by assumption) | exact Ls.freeze Ls.of | exact Ls.freeze Ls.emp | exact Ls.freeze Ls.nls) (by first | exact freeze_plain rfl | exact Ls.freeze (by assumption) | exact Ls.freeze Ls.of | exact Ls.freeze Ls.emp | exact Ls.freeze Ls.nls) (by first | exact freeze_plain rfl | exact Ls.freeze (by assumption) | exact Ls.freeze Ls.of | exact Ls.freeze Ls.emp | exact Ls.freeze Ls.nls) ?_)
      exact hq
    ·first
     |(exfalso; (try simp only [bs] at g2_3) <;> (first | (exact absurd rfl g2_3) | (exact g2_3 trivial) | omega | (simp at g2_3; done)); done)
     |skip
      try simp only [bs] at g2_3
      refine OW_mv rfl rfl ?_
      refine OW_bin rfl rfl rfl rfl rfl ?_
      refine EN37_CF13 rfl ?_
      refine OW_pick rfl rfl rfl ?_
      refine OW_mv rfl rfl ?_
      refine OW_split (tt := 21) rfl (fun g2_7 => ?_) (fun g2_7 => ?_)
      ·first
       |(exfalso; (try simp only [bs] at g2_7) <;> (first | (exact absurd rfl g2_7) | (exact g2_7 trivial) | omega | (simp at g2_7; done)); done)
       |skip
        try simp only [bs] at g2_7
        refine EN37_CF13 rfl ?_
        refine OW_no rfl ?_
        refine OW_no rfl ?_
        refine OW_no rfl ?_
        refine EN37_CF13 rfl ?_
        refine OW_no rfl ?_
        refine OW_pick rfl rfl rfl ?_
        refine EZ37_CF13 rfl ?_
        refine XW_yes rfl rfl ?_
        refine XW_sr ?_
        refine OW_as rfl rfl ?_
        refine OW_as rfl rfl ?_
        refine OW_as rfl rfl ?_
        refine EN37_CF13 rfl ?_
        refine OW_as rfl rfl ?_
        refine EZ37_CF13 rfl ?_
        refine XW_ret ?_
        refine then_ret ?_
        -- outcome 2
        refine ret_ret (res4 rfl (rv_tmp rfl) (rv_tmp rfl) (rv_tmp rfl) (rv_tmp rfl)) (frz4 (Q := Q) (by first | exact freeze_plain rfl | exact Ls.freeze (by assumption) | exact Ls.freeze Ls.of | exact Ls.freeze Ls.emp | exact Ls.freeze Ls.nls) (by first | exact freeze_plain rfl | exact Ls.freeze (by assumption) | exact Ls.freeze Ls.of | exact Ls.freeze Ls.emp | exact Ls.freeze Ls.nls) (by first | exact freeze_plain rfl | exact Ls.freeze (by assumption) | exact Ls.freeze Ls.of | exact Ls.freeze Ls.emp | exact Ls.freeze Ls.nls) (by first | exact freeze_plain rfl | exact Ls.freeze (by assumption) | exact Ls.freeze Ls.of | exact Ls.freeze Ls.emp | exact Ls.freeze Ls.nls) ?_)
        exact hq
      ·first
       |(exfalso; (try simp only [bs] at g2_7) <;> (first | (exact absurd rfl g2_7) | (exact g2_7 trivial) | omega | (simp at g2_7; done)); done)
       |skip
        try simp only [bs] at g2_7
        refine EN37_CF13 rfl ?_
        refine OW_mv rfl rfl ?_
        first
        | refine OW_iaL rfl rfl rfl Ls.of rfl rfl rfl (by first | rfl | exact (Int.toNat_of_nonneg (by omega)).symm) (by first | assumption | exact at_map (by first | assumption | omega) | exact at_lst (by omega) | rfl) rfl ?_
        | refine OW_iaL rfl rfl rfl (by assumption) rfl rfl rfl (by first | rfl | exact (Int.toNat_of_nonneg (by omega)).symm) (by first | assumption | exact at_map (by first | assumption | omega) | exact at_lst (by omega) | rfl) rfl ?_
        refine OW_loadE rfl rfl rfl (by first | exact part_whole rfl rfl rfl | rfl) ?_
        refine EN37_CF13 rfl ?_
        refine OW_bin rfl rfl rfl rfl rfl ?_
        refine OW_pick rfl rfl rfl ?_
        refine EZ37_CF13 rfl ?_
        refine XW_if rfl (fun h2 => ?_) (fun h2 => ?_)
        ·first
         |(exfalso; (try simp only [bs] at h2) <;> (first | (exact absurd rfl h2) | (exact h2 trivial) | omega | (simp at h2; done)); done)
         |skip
          try simp only [bs] at h2
          refine XW_sr ?_
          refine OW_as rfl rfl ?_
          refine OW_as rfl rfl ?_
          refine OW_as rfl rfl ?_
          refine EN37_CF13 rfl ?_
          refine OW_as rfl rfl ?_
          refine EZ37_CF13 rfl ?_
          refine XW_ret ?_
          refine then_ret ?_
          -- outcome 3
          refine ret_ret (res4 rfl (rv_tmp rfl) (rv_tmp rfl) (rv_tmp rfl) (rv_tmp rfl)) (frz4 (Q := Q) (by first | exact freeze_plain rfl | exact Ls.freeze (by assumption) | exact Ls.freeze Ls.of | exact Ls.freeze Ls.emp | exact Ls.freeze Ls.nls) (by first | exact freeze_plain rfl | exact Ls.freeze (by assumption) | exact Ls.freeze Ls.of | exact Ls.freeze Ls.emp | exact Ls.freeze Ls.nls) (by first | exact freeze_plain rfl | exact Ls.freeze (by assumption) | exact Ls.freeze Ls.of | exact Ls.freeze Ls.emp | exact Ls.freeze Ls.nls) (by first | exact freeze_plain rfl | exact Ls.freeze (by assumption) | exact Ls.freeze Ls.of | exact Ls.freeze Ls.emp | exact Ls.freeze Ls.nls) ?_)
          exact hq
        ·first
         |(exfalso; (try simp only [bs] at h2) <;> (first | (exact absurd rfl h2) | (exact h2 trivial) | omega | (simp at h2; done)); done)
         |skip
          try simp only [bs] at h2
          refine XW_skip ?_
          refine then_norm ?_
          refine XW_sr ?_
          refine OW_mv rfl rfl ?_
          first
          | refine OW_iaL rfl rfl rfl Ls.of rfl rfl rfl (by first | rfl | exact (Int.toNat_of_nonneg (by omega)).symm) (by first | assumption | exact at_map (by first | assumption | omega) | exact at_lst (by omega) | rfl) rfl ?_
          | refine OW_iaL rfl rfl rfl (by assumption) rfl rfl rfl (by first | rfl | exact (Int.toNat_of_nonneg (by omega)).symm) (by first | assumption | exact at_map (by first | assumption | omega) | exact at_lst (by omega) | rfl) rfl ?_
          refine OW_loadE rfl rfl rfl (by first | exact part_whole rfl rfl rfl | rfl) ?_
          refine EN37_CF13 rfl ?_
          first
          | refine OW_conv rfl rfl (conv_in rfl rfl rfl (IntWalk.i64_in _ (by omega))) ?_
          | refine OW_conv rfl rfl rfl ?_
          refine OW_mv rfl rfl ?_
          first
          | refine OW_iaL rfl rfl rfl Ls.of rfl rfl rfl (by first | rfl | exact (Int.toNat_of_nonneg (by omega)).symm) (by first | assumption | exact at_map (by first | assumption | omega) | exact at_lst (by omega) | rfl) rfl ?_
          | refine OW_iaL rfl rfl rfl (by assumption) rfl rfl rfl (by first | rfl | exact (Int.toNat_of_nonneg (by omega)).symm) (by first | assumption | exact at_map (by first | assumption | omega) | exact at_lst (by omega) | rfl) rfl ?_
          refine EN37_CF13 rfl ?_
          refine OW_loadE rfl rfl rfl (by first | exact part_whole rfl rfl rfl | rfl) ?_
          refine OW_mv rfl rfl ?_
          first
          | refine OW_iaL rfl rfl rfl Ls.of rfl rfl rfl (by first | rfl | exact (Int.toNat_of_nonneg (by omega)).symm) (by first | assumption | exact at_map (by first | assumption | omega) | exact at_lst (by omega) | rfl) rfl ?_
          | refine OW_iaL rfl rfl rfl (by assumption) rfl rfl rfl (by first | rfl | exact (Int.toNat_of_nonneg (by omega)).symm) (by first | assumption | exact at_map (by first | assumption | omega) | exact at_lst (by omega) | rfl) rfl ?_
          refine EN37_CF13 rfl ?_
          refine OW_loadE rfl rfl rfl (by first | exact part_whole rfl rfl rfl | rfl) ?_
          refine OW_as rfl rfl ?_
          refine OW_as rfl rfl ?_
          refine EN37_CF13 rfl ?_
          refine OW_as rfl rfl ?_
          refine OW_as rfl rfl ?_
          refine EZ37_CF13 rfl ?_
          refine XW_ret ?_
          -- outcome 4
          refine ret_ret (res4 rfl (rv_tmp rfl) (rv_tmp rfl) (rv_tmp rfl) (rv_tmp rfl)) (frz4 (Q := Q) (by first | exact freeze_plain rfl | exact Ls.freeze (by assumption) | exact Ls.freeze Ls.of | exact Ls.freeze Ls.emp | exact Ls.freeze Ls.nls) (by first | exact freeze_plain rfl | exact Ls.freeze (by assumption) | exact Ls.freeze Ls.of | exact Ls.freeze Ls.emp | exact Ls.freeze Ls.nls) (by first | exact freeze_plain rfl | exact Ls.freeze (by assumption) | exact Ls.freeze Ls.of | exact Ls.freeze Ls.emp | exact Ls.freeze Ls.nls) (by first | exact freeze_plain rfl | exact Ls.freeze (by assumption) | exact Ls.freeze Ls.of | exact Ls.freeze Ls.emp | exact Ls.freeze Ls.nls) ?_)
          exact hq
  · rw [unpS, h] at hq
    simp only at hq
    refine CW_pure g24 F24 rfl ?_
    refine XW_sr ?_
    refine OW_as rfl rfl ?_
    refine OW_as rfl rfl ?_
    refine OW_as rfl rfl ?_
    refine EN37_CF13 rfl ?_
    refine OW_as rfl rfl ?_
    refine EZ37_CF13 rfl ?_
    refine XW_sr ?_
    refine OW_mv rfl rfl ?_
    refine OW_fn rfl rfl (rnums_e (m := 3) hs (by decide) h ?_) 
    refine OW_mv rfl rfl ?_
    refine EN37_CF13 rfl ?_
    refine OW_ex rfl rfl rfl ?_
    refine OW_ex rfl rfl rfl ?_
    refine OW_ex rfl rfl rfl ?_
    refine EN37_CF13 rfl ?_
    refine OW_as rfl rfl ?_
    refine OW_as rfl rfl ?_
    refine OW_as rfl rfl ?_
    refine EZ37_CF13 rfl ?_
    refine XW_seq ?_
    refine XW_sr ?_
    refine OW_mv rfl rfl ?_
    refine OW_un rfl rfl rfl ?_
    refine OW_mv rfl rfl ?_
    refine EN37_CF13 rfl ?_
    refine OW_split (tt := 17) rfl (fun g2_3 => ?_) (fun g2_3 => ?_)
    ·first
     |(exfalso; (try simp only [bs] at g2_3) <;> (first | (exact absurd rfl g2_3) | (exact g2_3 trivial) | omega | (simp at g2_3; done)); done)
     |skip
      try simp only [bs] at g2_3
      refine OW_no rfl ?_
      refine OW_no rfl ?_
      refine EN37_CF13 rfl ?_
      refine OW_pick rfl rfl rfl ?_
      refine OW_mv rfl rfl ?_
      refine OW_no rfl ?_
      refine EN37_CF13 rfl ?_
      refine OW_no rfl ?_
      refine OW_no rfl ?_
      refine OW_no rfl ?_
      refine EN37_CF13 rfl ?_
      refine OW_pick rfl rfl rfl ?_
      refine EZ37_CF13 rfl ?_
      refine XW_yes rfl rfl ?_
      refine XW_sr ?_
      refine OW_as rfl rfl ?_
      refine OW_as rfl rfl ?_
      refine OW_as rfl rfl ?_
      refine EN37_CF13 rfl ?_
      refine OW_as rfl rfl ?_
      refine EZ37_CF13 rfl ?_
      refine XW_ret ?_
      refine then_ret ?_
      -- outcome 1
      refine ret_ret (res4 rfl (rv_tmp rfl) (rv_tmp rfl) (rv_tmp rfl) (rv_tmp rfl)) (frz4 (Q := Q) (by first | exact freeze_plain rfl | exact Ls.freeze (by assumption) | exact Ls.freeze Ls.of | exact Ls.freeze Ls.emp | exact Ls.freeze Ls.nls) (by first | exact freeze_plain rfl | exact Ls.freeze (by assumption) | exact Ls.freeze Ls.of | exact Ls.freeze Ls.emp | exact Ls.freeze Ls.nls) (by first | exact freeze_plain rfl | exact Ls.freeze (by assumption) | exact Ls.freeze Ls.of | exact Ls.freeze Ls.emp | exact Ls.freeze Ls.nls) (by first | exact freeze_plain rfl | exact Ls.freeze (by assumption) | exact Ls.freeze Ls.of | exact Ls.freeze Ls.emp | exact Ls.freeze Ls.nls) ?_)
      first | (rw [if_neg (by rintro ⟨e1, e2⟩; first | contradiction | omega)] at hq; exact hq) | (rw [if_pos ⟨by assumption, by omega⟩] at hq; exact hq)
    ·first
     |(exfalso; (try simp only [bs] at g2_3) <;> (first | (exact absurd rfl g2_3) | (exact g2_3 trivial) | omega | (simp at g2_3; done)); done)
     |skip
      try simp only [bs] at g2_3
      refine OW_mv rfl rfl ?_
      refine OW_bin rfl rfl rfl rfl rfl ?_
      refine EN37_CF13 rfl ?_
      refine OW_pick rfl rfl rfl ?_
      refine OW_mv rfl rfl ?_
      refine OW_split (tt := 21) rfl (fun g2_7 => ?_) (fun g2_7 => ?_)
      ·first
       |(exfalso; (try simp only [bs] at g2_7) <;> (first | (exact absurd rfl g2_7) | (exact g2_7 trivial) | omega | (simp at g2_7; done)); done)
       |skip
        try simp only [bs] at g2_7
        refine EN37_CF13 rfl ?_
        refine OW_no rfl ?_
        refine OW_no rfl ?_
        refine OW_no rfl ?_
        refine EN37_CF13 rfl ?_
        refine OW_no rfl ?_
        refine OW_pick rfl rfl rfl ?_
        refine EZ37_CF13 rfl ?_
        refine XW_yes rfl rfl ?_
        refine XW_sr ?_
        refine OW_as rfl rfl ?_
        refine OW_as rfl rfl ?_
        refine OW_as rfl rfl ?_
        refine EN37_CF13 rfl ?_
        refine OW_as rfl rfl ?_
        refine EZ37_CF13 rfl ?_
        refine XW_ret ?_
        refine then_ret ?_
        -- outcome 2
        refine ret_ret (res4 rfl (rv_tmp rfl) (rv_tmp rfl) (rv_tmp rfl) (rv_tmp rfl)) (frz4 (Q := Q) (by first | exact freeze_plain rfl | exact Ls.freeze (by assumption) | exact Ls.freeze Ls.of | exact Ls.freeze Ls.emp | exact Ls.freeze Ls.nls) (by first | exact freeze_plain rfl | exact Ls.freeze (by assumption) | exact Ls.freeze Ls.of | exact Ls.freeze Ls.emp | exact Ls.freeze Ls.nls) (by first | exact freeze_plain rfl | exact Ls.freeze (by assumption) | exact Ls.freeze Ls.of | exact Ls.freeze Ls.emp | exact Ls.freeze Ls.nls) (by first | exact freeze_plain rfl | exact Ls.freeze (by assumption) | exact Ls.freeze Ls.of | exact Ls.freeze Ls.emp | exact Ls.freeze Ls.nls) ?_)
        first | (rw [if_neg (by rintro ⟨e1, e2⟩; first | contradiction | omega)] at hq; exact hq) | (rw [if_pos ⟨by assumption, by omega⟩] at hq; exact hq)
      ·first
       |(exfalso; (try simp only [bs] at g2_7) <;> (first | (exact absurd rfl g2_7) | (exact g2_7 trivial) | omega | (simp at g2_7; done)); done)
       |skip
        try simp only [bs] at g2_7
        refine EN37_CF13 rfl ?_
        refine OW_mv rfl rfl ?_
        first
        | refine OW_iaL rfl rfl rfl Ls.of rfl rfl rfl (by first | rfl | exact (Int.toNat_of_nonneg (by omega)).symm) (by first | assumption | exact at_map (by first | assumption | omega) | exact at_lst (by omega) | rfl) rfl ?_
        | refine OW_iaL rfl rfl rfl (by assumption) rfl rfl rfl (by first | rfl | exact (Int.toNat_of_nonneg (by omega)).symm) (by first | assumption | exact at_map (by first | assumption | omega) | exact at_lst (by omega) | rfl) rfl ?_
        refine OW_loadE rfl rfl rfl (by first | exact part_whole rfl rfl rfl | rfl) ?_
        refine EN37_CF13 rfl ?_
        refine OW_bin rfl rfl rfl rfl rfl ?_
        refine OW_pick rfl rfl rfl ?_
        refine EZ37_CF13 rfl ?_
        refine XW_if rfl (fun h2 => ?_) (fun h2 => ?_)
        ·first
         |(exfalso; (try simp only [bs] at h2) <;> (first | (exact absurd rfl h2) | (exact h2 trivial) | omega | (simp at h2; done)); done)
         |skip
          try simp only [bs] at h2
          refine XW_sr ?_
          refine OW_as rfl rfl ?_
          refine OW_as rfl rfl ?_
          refine OW_as rfl rfl ?_
          refine EN37_CF13 rfl ?_
          refine OW_as rfl rfl ?_
          refine EZ37_CF13 rfl ?_
          refine XW_ret ?_
          refine then_ret ?_
          -- outcome 3
          refine ret_ret (res4 rfl (rv_tmp rfl) (rv_tmp rfl) (rv_tmp rfl) (rv_tmp rfl)) (frz4 (Q := Q) (by first | exact freeze_plain rfl | exact Ls.freeze (by assumption) | exact Ls.freeze Ls.of | exact Ls.freeze Ls.emp | exact Ls.freeze Ls.nls) (by first | exact freeze_plain rfl | exact Ls.freeze (by assumption) | exact Ls.freeze Ls.of | exact Ls.freeze Ls.emp | exact Ls.freeze Ls.nls) (by first | exact freeze_plain rfl | exact Ls.freeze (by assumption) | exact Ls.freeze Ls.of | exact Ls.freeze Ls.emp | exact Ls.freeze Ls.nls) (by first | exact freeze_plain rfl | exact Ls.freeze (by assumption) | exact Ls.freeze Ls.of | exact Ls.freeze Ls.emp | exact Ls.freeze Ls.nls) ?_)
          first | (rw [if_neg (by rintro ⟨e1, e2⟩; first | contradiction | omega)] at hq; exact hq) | (rw [if_pos ⟨by assumption, by omega⟩] at hq; exact hq)
        ·first
         |(exfalso; (try simp only [bs] at h2) <;> (first | (exact absurd rfl h2) | (exact h2 trivial) | omega | (simp at h2; done)); done)
         |skip
          try simp only [bs] at h2
          refine XW_skip ?_
          refine then_norm ?_
          refine XW_sr ?_
          refine OW_mv rfl rfl ?_
          first
          | refine OW_iaL rfl rfl rfl Ls.of rfl rfl rfl (by first | rfl | exact (Int.toNat_of_nonneg (by omega)).symm) (by first | assumption | exact at_map (by first | assumption | omega) | exact at_lst (by omega) | rfl) rfl ?_
          | refine OW_iaL rfl rfl rfl (by assumption) rfl rfl rfl (by first | rfl | exact (Int.toNat_of_nonneg (by omega)).symm) (by first | assumption | exact at_map (by first | assumption | omega) | exact at_lst (by omega) | rfl) rfl ?_
          refine OW_loadE rfl rfl rfl (by first | exact part_whole rfl rfl rfl | rfl) ?_
          refine EN37_CF13 rfl ?_
          first
          | refine OW_conv rfl rfl (conv_in rfl rfl rfl (IntWalk.i64_in _ (by omega))) ?_
          | refine OW_conv rfl rfl rfl ?_
          refine OW_mv rfl rfl ?_
          first
          | refine OW_iaL rfl rfl rfl Ls.of rfl rfl rfl (by first | rfl | exact (Int.toNat_of_nonneg (by omega)).symm) (by first | assumption | exact at_map (by first | assumption | omega) | exact at_lst (by omega) | rfl) rfl ?_
          | refine OW_iaL rfl rfl rfl (by assumption) rfl rfl rfl (by first | rfl | exact (Int.toNat_of_nonneg (by omega)).symm) (by first | assumption | exact at_map (by first | assumption | omega) | exact at_lst (by omega) | rfl) rfl ?_
          refine EN37_CF13 rfl ?_
          refine OW_loadE rfl rfl rfl (by first | exact part_whole rfl rfl rfl | rfl) ?_
          refine OW_mv rfl rfl ?_
          first
          | refine OW_iaL rfl rfl rfl Ls.of rfl rfl rfl (by first | rfl | exact (Int.toNat_of_nonneg (by omega)).symm) (by first | assumption | exact at_map (by first | assumption | omega) | exact at_lst (by omega) | rfl) rfl ?_
          | refine OW_iaL rfl rfl rfl (by assumption) rfl rfl rfl (by first | rfl | exact (Int.toNat_of_nonneg (by omega)).symm) (by first | assumption | exact at_map (by first | assumption | omega) | exact at_lst (by omega) | rfl) rfl ?_
          refine EN37_CF13 rfl ?_
          refine OW_loadE rfl rfl rfl (by first | exact part_whole rfl rfl rfl | rfl) ?_
          refine OW_as rfl rfl ?_
          refine OW_as rfl rfl ?_
          refine EN37_CF13 rfl ?_
          refine OW_as rfl rfl ?_
          refine OW_as rfl rfl ?_
          refine EZ37_CF13 rfl ?_
          refine XW_ret ?_
          -- outcome 4
          refine ret_ret (res4 rfl (rv_tmp rfl) (rv_tmp rfl) (rv_tmp rfl) (rv_tmp rfl)) (frz4 (Q := Q) (by first | exact freeze_plain rfl | exact Ls.freeze (by assumption) | exact Ls.freeze Ls.of | exact Ls.freeze Ls.emp | exact Ls.freeze Ls.nls) (by first | exact freeze_plain rfl | exact Ls.freeze (by assumption) | exact Ls.freeze Ls.of | exact Ls.freeze Ls.emp | exact Ls.freeze Ls.nls) (by first | exact freeze_plain rfl | exact Ls.freeze (by assumption) | exact Ls.freeze Ls.of | exact Ls.freeze Ls.emp | exact Ls.freeze Ls.nls) (by first | exact freeze_plain rfl | exact Ls.freeze (by assumption) | exact Ls.freeze Ls.of | exact Ls.freeze Ls.emp | exact Ls.freeze Ls.nls) ?_)
          first | (rw [if_neg (by rintro ⟨e1, e2⟩; first | contradiction | omega)] at hq; exact hq) | (rw [if_pos ⟨by assumption, by omega⟩] at hq; exact hq)
/-! ### Texts of states -/
def cPl : Cod Pl := (cI.pair (cI.pair (cI.pair (cI.pair cI)))).iso (fun p => ⟨p.1, p.2.1, p.2.2.1, p.2.2.2.1, p.2.2.2.2⟩) (fun x => (x.vo, x.te, x.de, x.ep, x.gr)) (fun _ => rfl) (fun _ => rfl)
theorem cPl_ok {x : Pl} : cPl.ok x ↔ x.fit := Iff.rfl
theorem encP_len {x : Pl} (h : x.fit) : (cPl.enc x).length ≤ 50 := by
  obtain ⟨f1, f2, f3, f4, f5⟩ := h
  have h1 := encU_le10 (n := x.vo.toNat) (by omega)
  have h2 := encU_le10 (n := x.te.toNat) (by omega)
  have h3 := encU_le10 (n := x.de.toNat) (by omega)
  have h4 := encU_le10 (n := x.ep.toNat) (by omega)
  have h5 := encU_le10 (n := x.gr.toNat) (by omega)
  show (encU x.vo.toNat ++ (encU x.te.toNat ++ (encU x.de.toNat ++ (encU x.ep.toNat ++ encU x.gr.toNat)))).length ≤ _
  simp only [List.length_append]; omega
theorem flatP_len {t : List Pl} (h : ∀ x ∈ t, x.fit) : ((t.map cPl.enc).flatten).length ≤ 50 * t.length := by
  induction t with
  | nil => simp
  | cons x r ih =>
    have h1 := encP_len (h x (by simp))
    have h2 := ih (fun y hy => h y (by simp [hy]))
    simp only [List.map_cons, List.flatten_cons, List.length_append, List.length_cons] at *
    omega
theorem nil_app (s : ByteArray) : (⟨#[]⟩ : ByteArray) ++ s = s := by rw [← ba_nil, ← ba_of s, ba_append]; rfl
theorem app_nil (s : ByteArray) : s ++ (⟨#[]⟩ : ByteArray) = s := by rw [← ba_nil, ← ba_of s, ba_append, List.append_nil]
/-- The text as far as so many places. -/
def partC (c : Cf) (i : Nat) : ByteArray := encS (textS c.qs) ++ ba (encU c.ps.length) ++ ba (((c.ps.take i).map cPl.enc).flatten)
def textC (c : Cf) : ByteArray := partC c c.ps.length ++ ba (encU c.nx.toNat)
theorem partC_zero (c : Cf) : partC c 0 = encS (textS c.qs) ++ ba (encU c.ps.length) := by
  unfold partC
  rw [List.take_zero]
  show _ ++ ba [] = _
  rw [ba_nil, app_nil]
theorem partC_step {i : Nat} (hi : i < c.ps.length) : partC c i ++ ba (encU c.ps[i].vo.toNat) ++ ba (encU c.ps[i].te.toNat) ++ ba (encU c.ps[i].de.toNat) ++ ba (encU c.ps[i].ep.toNat) ++ ba (encU c.ps[i].gr.toNat) = partC c (i + 1) := by
  unfold partC
  rw [List.take_succ_eq_append_getElem hi, List.map_append, List.flatten_append, ← ba_append]
  simp only [ByteArray.append_assoc, ba_append, List.append_assoc, List.map_cons, List.map_nil, List.flatten_cons, List.flatten_nil, List.append_nil]
  rfl
theorem partC_step2 {i : Nat} (hi : i < c.ps.length) : partC c i ++ (ba (encU c.ps[i].vo.toNat) ++ ba (encU c.ps[i].te.toNat) ++ ba (encU c.ps[i].de.toNat) ++ ba (encU c.ps[i].ep.toNat) ++ ba (encU c.ps[i].gr.toNat)) = partC c (i + 1) := by
  rw [← partC_step hi]; simp only [ByteArray.append_assoc]
theorem textQ_size {t : List Qu} (hf : Fit t) (hn : t.length ≤ 1048577) : (textS t).size ≤ 33554500 := by
  have := text_B hf hn t.length
  rw [List.take_of_length_le (Nat.le_refl _)] at this
  unfold textS; omega
theorem partC_size (hf : c.fit) (i : Nat) : (partC c i).size ≤ 104857600 := by
  have h1 := textQ_size hf.q hf.lq
  have h2 := encS_size (s := textS c.qs) (by omega)
  have h3 := encU_le10 (n := c.ps.length) (by have := hf.lp; omega)
  have h4 := flatP_len (t := c.ps.take i) (fun x hx => hf.p x (List.mem_of_mem_take hx))
  have h5 := hf.lp
  rw [List.length_take] at h4
  unfold partC
  simp only [ByteArray.size_append, ba_size]; omega
theorem r_textC (hf : c.fit) (hq : Q (.str (textC c)) H) : CW cfg ν 30 [c.enc] H Q := by
  have hlq := hf.lq; have hlp := hf.lp; have hnx := hf.n
  have hB := partC_size hf
  have z1 := textQ_size hf.q hlq
  have z2 := encS_size (s := textS c.qs) (by omega)
  have z3 := encU_i (a := (c.ps.length : Int)) (by omega)
  have z4 := encU_i hnx
  have zB := hB c.ps.length
  refine CW_pure g30 F30 rfl ?_
  have hS0 : Own ν ν (fun _ => none) [] := Own.nil
  refine XW_sr ?_
  refine OW_boxR hS0 (le_app (p := ν) (b := [0, 0])) (under_app [0, 0] under_me) rfl rfl rfl ⟨rfl, rfl⟩ fun H1 hS1 => ?_
  replace hS1 : Own _ _ _ ([_]) := hS1
  refine OW_as rfl rfl ?_
  refine EZ54_CF13 rfl ?_
  refine XW_sr ?_
  refine OW_fa rfl rfl rfl ?_
  refine OW_loadR hS1 (k := 0) rfl rfl rfl rfl rfl (by first | exact part_whole rfl rfl rfl | rfl) ?_
  refine OW_fn rfl rfl (r_text Ls.of (by omega) hf.q ?_) 
  refine EN54_CF13 rfl ?_
  refine OW_fn rfl rfl (rputTx (by omega) ?_) 
  refine OW_fa rfl rfl rfl ?_
  refine OW_loadR hS1 (k := 0) rfl rfl rfl rfl rfl (by first | exact part_whole rfl rfl rfl | rfl) ?_
  refine EN54_CF13 rfl ?_
  first
  | refine OW_lenL rfl rfl (by first | assumption | exact Ls.of | exact Ls.emp | exact Ls.nls) rfl rfl rfl (by first | exact List.length_map _ | rfl) ?_
  | refine OW_bi rfl rfl rfl ?_
  first
  | refine OW_conv rfl rfl (conv_in rfl rfl rfl (IntWalk.u64_in _ (by omega))) ?_
  | refine OW_conv rfl rfl rfl ?_
  refine OW_fn rfl rfl (rputUi (by omega) ?_) 
  refine EN54_CF13 rfl ?_
  refine OW_bin rfl rfl rfl rfl (cat (by first | omega | assumption | (simp only [ss]; omega) | (refine Nat.le_trans (Nat.add_le_add_left (show _ ≤ 256 by decide) _) (by first | omega | (simp only [ss]; omega))) | (refine Nat.le_trans (Nat.add_le_add_right (show _ ≤ 256 by decide) _) (by first | omega | (simp only [ss]; omega))))) ?_
  refine OW_as rfl rfl ?_
  refine EZ54_CF13 rfl ?_
  refine XW_seq ?_
  refine XW_sr ?_
  rw [Int.toNat_natCast, ← partC_zero]
  refine OW_as rfl rfl ?_
  refine EZ54_CF13 rfl ?_
  refine XW_block ?_
  refine XW_whileN (I := fun ν' mm ee H' => ∃ (i : Nat), mm = c.ps.length - i ∧ under (1 :: 0 :: 1 :: 1 :: ν) ν' = true ∧ Own ν ν' H' ([row (0 :: 0 :: ν) 3 [.agg [.lst (c.qs.map Qu.enc), .lst (c.ps.map Pl.enc), .int .u64 c.nx]]]) ∧ (i ≤ c.ps.length) ∧ ∃ g : Nat → AVal, ee = [g 0, .ptr (0 :: 0 :: ν) 0 0, g 2, .str (partC c i), .int .i64 i, g 5, g 6, g 7, g 8, g 9, g 10, g 11, g 12, g 13, g 14, g 15, g 16, g 17, g 18, g 19, g 20, g 21, g 22, g 23, g 24, g 25, g 26, g 27, g 28, g 29, g 30, g 31, g 32, g 33, g 34, g 35, g 36, g 37, g 38, g 39, g 40, g 41, g 42, g 43, g 44, g 45, g 46, g 47, g 48, g 49, g 50, g 51, g 52, g 53]) ?_ _ _ _ _ ⟨0, rfl, under_me, Own.cast (Own.mono (hS1) (le_lit (ν := ν) (a := [1, 0]) (b := [1, 0, 1, 1]) (by decide))) (rfl), (by omega), env_g rfl⟩
  rintro ν1 mm ee H2 ⟨i, rfl, hU1, hS2, hi, g1, rfl⟩
  refine XW_seq ?_
  refine XW_sr ?_
  refine OW_mv rfl rfl ?_
  refine OW_fa rfl rfl rfl ?_
  refine OW_loadR hS2 (k := 0) rfl rfl rfl rfl rfl (by first | exact part_whole rfl rfl rfl | rfl) ?_
  refine EN54_CF13 rfl ?_
  first
  | refine OW_lenL rfl rfl (by first | assumption | exact Ls.of | exact Ls.emp | exact Ls.nls) rfl rfl rfl (by first | exact List.length_map _ | rfl) ?_
  | refine OW_bi rfl rfl rfl ?_
  refine OW_bin rfl rfl rfl rfl rfl ?_
  refine EZ54_CF13 rfl ?_
  refine XW_if rfl (fun h3 => ?_) (fun h3 => ?_)
  ·try simp only [bs] at h3
   refine XW_skip ?_
   refine then_norm ?_
   refine XW_seq ?_
   refine XW_block ?_
   refine XW_sr ?_
   obtain ⟨f1, f2, f3, f4, f5⟩ := hf.p c.ps[i] (List.getElem_mem (by omega))
   have y1 := encU_i f1; have y2 := encU_i f2; have y3 := encU_i f3; have y4 := encU_i f4; have y5 := encU_i f5; have hBi := hB i
   refine OW_fa rfl rfl rfl ?_
   refine OW_loadR hS2 (k := 0) rfl rfl rfl rfl rfl (by first | exact part_whole rfl rfl rfl | rfl) ?_
   refine OW_mv rfl rfl ?_
   refine EN54_CF13 rfl ?_
   first
   | refine OW_iaL rfl rfl rfl Ls.of rfl rfl rfl (by first | rfl | exact (Int.toNat_of_nonneg (by omega)).symm) (by first | assumption | exact at_map (by first | assumption | omega) | exact at_lst (by omega) | rfl) rfl ?_
   | refine OW_iaL rfl rfl rfl (by assumption) rfl rfl rfl (by first | rfl | exact (Int.toNat_of_nonneg (by omega)).symm) (by first | assumption | exact at_map (by first | assumption | omega) | exact at_lst (by omega) | rfl) rfl ?_
   refine OW_loadE rfl rfl rfl (by first | exact part_whole rfl rfl rfl | rfl) ?_
   refine OW_allocR hS2 (le_app (p := ν1) (b := [5, 0, 0, 1, 0])) (under_app [5, 0, 0, 1, 0] (under_trans (under_app [1, 0, 1, 1] under_me) hU1)) rfl rfl rfl rfl fun H3 hS3 => ?_
   replace hS3 : Own _ _ _ ([_, _]) := hS3
   refine EN54_CF13 rfl ?_
   first
   | refine OW_storeR hS3 (k := 0) rfl le_refl rfl rfl rfl rfl ⟨rfl, rfl, Nat.le_of_ble_eq_true rfl⟩ (set_whole rfl rfl) fun H4 hS4 => ?_
   | refine OW_storeR hS3 (k := 0) rfl le_refl rfl rfl rfl rfl ⟨rfl, rfl, Nat.le_of_ble_eq_true rfl⟩ (u2 := .agg [_, _, _, _, _]) rfl fun H4 hS4 => ?_
   replace hS4 : Own _ _ _ ([_, _]) := hS4
   refine EZ54_CF13 rfl ?_
   refine XW_region ?_
   refine OW_mv rfl rfl ?_
   refine OW_fa rfl rfl rfl ?_
   refine OW_loadR hS4 (k := 0) rfl rfl rfl rfl rfl (by first | exact part_whole rfl rfl rfl | rfl) ?_
   refine EN54_CF13 rfl ?_
   refine OW_fn rfl rfl (rputUi (by omega) ?_) 
   refine OW_fa rfl rfl rfl ?_
   refine OW_loadR hS4 (k := 0) rfl rfl rfl rfl rfl (by first | exact part_whole rfl rfl rfl | rfl) ?_
   refine EN54_CF13 rfl ?_
   refine OW_fn rfl rfl (rputUi (by omega) ?_) 
   refine OW_bin rfl rfl rfl rfl (cat (by first | omega | assumption | (simp only [ss]; omega) | (refine Nat.le_trans (Nat.add_le_add_left (show _ ≤ 256 by decide) _) (by first | omega | (simp only [ss]; omega))) | (refine Nat.le_trans (Nat.add_le_add_right (show _ ≤ 256 by decide) _) (by first | omega | (simp only [ss]; omega))))) ?_
   refine OW_fa rfl rfl rfl ?_
   refine EN54_CF13 rfl ?_
   refine OW_loadR hS4 (k := 0) rfl rfl rfl rfl rfl (by first | exact part_whole rfl rfl rfl | rfl) ?_
   refine OW_fn rfl rfl (rputUi (by omega) ?_) 
   refine OW_bin rfl rfl rfl rfl (cat (by first | omega | assumption | (simp only [ss]; omega) | (refine Nat.le_trans (Nat.add_le_add_left (show _ ≤ 256 by decide) _) (by first | omega | (simp only [ss]; omega))) | (refine Nat.le_trans (Nat.add_le_add_right (show _ ≤ 256 by decide) _) (by first | omega | (simp only [ss]; omega))))) ?_
   refine EN54_CF13 rfl ?_
   refine OW_fa rfl rfl rfl ?_
   refine OW_loadR hS4 (k := 0) rfl rfl rfl rfl rfl (by first | exact part_whole rfl rfl rfl | rfl) ?_
   refine OW_fn rfl rfl (rputUi (by omega) ?_) 
   refine EN54_CF13 rfl ?_
   refine OW_bin rfl rfl rfl rfl (cat (by first | omega | assumption | (simp only [ss]; omega) | (refine Nat.le_trans (Nat.add_le_add_left (show _ ≤ 256 by decide) _) (by first | omega | (simp only [ss]; omega))) | (refine Nat.le_trans (Nat.add_le_add_right (show _ ≤ 256 by decide) _) (by first | omega | (simp only [ss]; omega))))) ?_
   refine OW_fa rfl rfl rfl ?_
   refine OW_loadR hS4 (k := 0) rfl rfl rfl rfl rfl (by first | exact part_whole rfl rfl rfl | rfl) ?_
   refine EN54_CF13 rfl ?_
   refine OW_fn rfl rfl (rputUi (by omega) ?_) 
   refine OW_bin rfl rfl rfl rfl (cat (by first | omega | assumption | (simp only [ss]; omega) | (refine Nat.le_trans (Nat.add_le_add_left (show _ ≤ 256 by decide) _) (by first | omega | (simp only [ss]; omega))) | (refine Nat.le_trans (Nat.add_le_add_right (show _ ≤ 256 by decide) _) (by first | omega | (simp only [ss]; omega))))) ?_
   refine OW_bin rfl rfl rfl rfl (cat (by first | omega | assumption | (simp only [ss]; omega) | (refine Nat.le_trans (Nat.add_le_add_left (show _ ≤ 256 by decide) _) (by first | omega | (simp only [ss]; omega))) | (refine Nat.le_trans (Nat.add_le_add_right (show _ ≤ 256 by decide) _) (by first | omega | (simp only [ss]; omega))))) ?_
   refine EN54_CF13 rfl ?_
   rw [partC_step2 (by omega)]
   refine OW_as rfl rfl ?_
   refine EZ54_CF13 rfl ?_
   refine block_norm ?_
   refine then_norm ?_
   refine XW_region ?_
   refine OW_mv rfl rfl ?_
   first
   | refine OW_bin rfl rfl rfl rfl (add_w64 (by first | omega | assumption | (simp only [ss]; omega))) ?_
   | refine OW_bin rfl rfl rfl rfl rfl ?_
   refine OW_as rfl rfl ?_
   refine EZ54_CF13 rfl ?_
   have hSd1 : Own _ _ _ ([_]) := (Own.drop hS4 (k := 0) rfl)
   -- round 0.1
   refine ⟨_, ?_, i + 1, rfl, under_in hU1, Own.cast (Own.mono (hSd1) (le_lit (ν := ν1) (a := [7, 0, 0, 1, 0]) (b := [1]) (by decide))) (rfl), ?_, env_g rfl⟩
   · first | omega | (simp; omega)
   · omega
  ·try simp only [bs] at h3
   refine XW_exit ?_
   refine then_exit ?_
   refine block_exit ?_
   refine then_norm ?_
   refine XW_sr ?_
   rw [show i = c.ps.length by omega]
   refine OW_mv rfl rfl ?_
   refine OW_fa rfl rfl rfl ?_
   refine OW_loadR hS2 (k := 0) rfl rfl rfl rfl rfl (by first | exact part_whole rfl rfl rfl | rfl) ?_
   refine EN54_CF13 rfl ?_
   refine OW_fn rfl rfl (rputUi (by omega) ?_) 
   refine OW_bin rfl rfl rfl rfl (cat (by first | omega | assumption | (simp only [ss]; omega) | (refine Nat.le_trans (Nat.add_le_add_left (show _ ≤ 256 by decide) _) (by first | omega | (simp only [ss]; omega))) | (refine Nat.le_trans (Nat.add_le_add_right (show _ ≤ 256 by decide) _) (by first | omega | (simp only [ss]; omega))))) ?_
   refine OW_as rfl rfl ?_
   refine EZ54_CF13 rfl ?_
   refine XW_ret ?_
   -- outcome 1
   refine ret_ret (res1 rfl (rv_tmp rfl)) (frz1 (Q := Q) (by first | exact freeze_plain rfl | exact Ls.freeze (by assumption) | exact Ls.freeze Ls.of | exact Ls.freeze Ls.emp | exact Ls.freeze Ls.nls) ?_)
   exact hq
theorem p_textC (hf : c.fit) (hq : Q (.str (textC c)) H) : CW cfg ν 27 [c.enc] H Q := by
  have hlq := hf.lq; have hlp := hf.lp; have hnx := hf.n
  have hB := partC_size hf
  have z1 := textQ_size hf.q hlq
  have z2 := encS_size (s := textS c.qs) (by omega)
  have z3 := encU_i (a := (c.ps.length : Int)) (by omega)
  have z4 := encU_i hnx
  have zB := hB c.ps.length
  have zE : (⟨#[]⟩ : ByteArray).size = 0 := rfl
  refine CW_pure g27 F27 rfl ?_
  have hS0 : Own ν ν (fun _ => none) [] := Own.nil
  refine XW_sr ?_
  refine OW_boxR hS0 (le_app (p := ν) (b := [0, 0])) (under_app [0, 0] under_me) rfl rfl rfl ⟨rfl, rfl⟩ fun H1 hS1 => ?_
  replace hS1 : Own _ _ _ ([_]) := hS1
  refine OW_as rfl rfl ?_
  refine EZ50_CF13 rfl ?_
  refine XW_sr ?_
  refine OW_allocB hS1 (le_lit (ν := ν) (a := [1, 0]) (b := [0, 0, 1]) (by decide)) (under_app [0, 0, 1] under_me) rfl rfl rfl fun H2 hS2 => ?_
  replace hS2 : Own _ _ _ ([_, _]) := hS2
  refine EZ50_CF13 rfl ?_
  refine XW_sr ?_
  refine OW_fa rfl rfl rfl ?_
  refine OW_loadR hS2 (k := 1) rfl rfl rfl rfl rfl (by first | exact part_whole rfl rfl rfl | rfl) ?_
  refine OW_fn rfl rfl (p_text Ls.of (by omega) hf.q ?_) 
  refine EN50_CF13 rfl ?_
  refine OW_fn rfl rfl (putTx (by omega) ?_) 
  refine OW_fa rfl rfl rfl ?_
  refine OW_loadR hS2 (k := 1) rfl rfl rfl rfl rfl (by first | exact part_whole rfl rfl rfl | rfl) ?_
  refine EN50_CF13 rfl ?_
  first
  | refine OW_lenL rfl rfl (by first | assumption | exact Ls.of | exact Ls.emp | exact Ls.nls) rfl rfl rfl (by first | exact List.length_map _ | rfl) ?_
  | refine OW_bi rfl rfl rfl ?_
  first
  | refine OW_conv rfl rfl (conv_in rfl rfl rfl (IntWalk.u64_in _ (by omega))) ?_
  | refine OW_conv rfl rfl rfl ?_
  refine OW_fn rfl rfl (putUi (by omega) ?_) 
  refine EN50_CF13 rfl ?_
  refine OW_bin rfl rfl rfl rfl (cat (by first | omega | assumption | (simp only [ss]; omega) | (refine Nat.le_trans (Nat.add_le_add_left (show _ ≤ 256 by decide) _) (by first | omega | (simp only [ss]; omega))) | (refine Nat.le_trans (Nat.add_le_add_right (show _ ≤ 256 by decide) _) (by first | omega | (simp only [ss]; omega))))) ?_
  refine OW_fn rfl rfl (W_write rfl hS2 (k := 0) rfl (le_lit (ν := ν) (a := [1, 0, 1]) (b := [10, 0, 1, 1]) (by decide)) (before_lit (ν := ν) (a := [10, 0, 1, 1]) (b := [11, 0, 1, 1]) (by decide)) (by first | omega | assumption | (simp only [ByteArray.size_append]; omega)) fun H3 hS3 => ?_) 
  replace hS3 : Own _ _ _ ([_, _]) := hS3
  refine EZ50_CF13 rfl ?_
  refine XW_seq ?_
  refine XW_sr ?_
  refine OW_fa rfl rfl rfl ?_
  refine OW_loadR hS3 (k := 1) rfl rfl rfl rfl rfl (by first | exact part_whole rfl rfl rfl | rfl) ?_
  first
  | refine OW_lenL rfl rfl (by first | assumption | exact Ls.of | exact Ls.emp | exact Ls.nls) rfl rfl rfl (by first | exact List.length_map _ | rfl) ?_
  | refine OW_bi rfl rfl rfl ?_
  refine EN50_CF13 rfl ?_
  refine OW_mv rfl rfl ?_
  refine EZ50_CF13 rfl ?_
  refine XW_block ?_
  refine XW_whileN (I := fun ν' mm ee H' => ∃ (i : Nat), mm = c.ps.length - i ∧ under (1 :: 0 :: 1 :: 1 :: 1 :: ν) ν' = true ∧ Own ν ν' H' ([bld (0 :: 0 :: 1 :: ν) (partC c i), row (0 :: 0 :: ν) 3 [.agg [.lst (c.qs.map Qu.enc), .lst (c.ps.map Pl.enc), .int .u64 c.nx]]]) ∧ (i ≤ c.ps.length) ∧ ∃ g : Nat → AVal, ee = [g 0, .ptr (0 :: 0 :: ν) 0 0, g 2, .ptr (0 :: 0 :: 1 :: ν) 0 0, g 4, g 5, g 6, g 7, g 8, g 9, g 10, g 11, g 12, g 13, g 14, g 15, g 16, g 17, g 18, g 19, .lst (c.ps.map Pl.enc), .int .i64 c.ps.length, .int .i64 i, g 23, g 24, g 25, g 26, g 27, g 28, g 29, g 30, g 31, g 32, g 33, g 34, g 35, g 36, g 37, g 38, g 39, g 40, g 41, g 42, g 43, g 44, g 45, g 46, g 47, g 48, g 49]) ?_ _ _ _ _ ⟨0, rfl, under_me, Own.cast (Own.mono (hS3) (le_lit (ν := ν) (a := [11, 0, 1, 1]) (b := [1, 0, 1, 1, 1]) (by decide))) (by rw [Int.toNat_natCast, ← partC_zero, nil_app]), (by omega), env_g rfl⟩
  rintro ν1 mm ee H4 ⟨i, rfl, hU1, hS4, hi, g1, rfl⟩
  refine XW_sr ?_
  refine OW_bin rfl rfl rfl rfl rfl ?_
  refine EZ50_CF13 rfl ?_
  refine XW_seq ?_
  refine XW_if rfl (fun h4 => ?_) (fun h4 => ?_)
  ·try simp only [bs] at h4
   refine XW_skip ?_
   refine then_norm ?_
   refine XW_seq ?_
   refine XW_block ?_
   refine XW_sr ?_
   obtain ⟨f1, f2, f3, f4, f5⟩ := hf.p c.ps[i] (List.getElem_mem (by omega))
   have y1 := encU_i f1; have y2 := encU_i f2; have y3 := encU_i f3; have y4 := encU_i f4; have y5 := encU_i f5; have hBi := hB i
   first
   | refine OW_iaL rfl rfl rfl Ls.of rfl rfl rfl (by first | rfl | exact (Int.toNat_of_nonneg (by omega)).symm) (by first | assumption | exact at_map (by first | assumption | omega) | exact at_lst (by omega) | rfl) rfl ?_
   | refine OW_iaL rfl rfl rfl (by assumption) rfl rfl rfl (by first | rfl | exact (Int.toNat_of_nonneg (by omega)).symm) (by first | assumption | exact at_map (by first | assumption | omega) | exact at_lst (by omega) | rfl) rfl ?_
   refine OW_loadE rfl rfl rfl (by first | exact part_whole rfl rfl rfl | rfl) ?_
   refine OW_allocR hS4 (le_app (p := ν1) (b := [2, 0, 0, 1, 1, 0])) (under_app [2, 0, 0, 1, 1, 0] (under_trans (under_app [1, 0, 1, 1, 1] under_me) hU1)) rfl rfl rfl rfl fun H5 hS5 => ?_
   replace hS5 : Own _ _ _ ([_, _, _]) := hS5
   refine EN50_CF13 rfl ?_
   first
   | refine OW_storeR hS5 (k := 0) rfl le_refl rfl rfl rfl rfl ⟨rfl, rfl, Nat.le_of_ble_eq_true rfl⟩ (set_whole rfl rfl) fun H6 hS6 => ?_
   | refine OW_storeR hS5 (k := 0) rfl le_refl rfl rfl rfl rfl ⟨rfl, rfl, Nat.le_of_ble_eq_true rfl⟩ (u2 := .agg [_, _, _, _, _]) rfl fun H6 hS6 => ?_
   replace hS6 : Own _ _ _ ([_, _, _]) := hS6
   refine EZ50_CF13 rfl ?_
   refine XW_sr ?_
   refine OW_fa rfl rfl rfl ?_
   refine OW_loadR hS6 (k := 0) rfl rfl rfl rfl rfl (by first | exact part_whole rfl rfl rfl | rfl) ?_
   refine OW_fa rfl rfl rfl ?_
   refine EN50_CF13 rfl ?_
   refine OW_loadR hS6 (k := 0) rfl rfl rfl rfl rfl (by first | exact part_whole rfl rfl rfl | rfl) ?_
   refine OW_fa rfl rfl rfl ?_
   refine OW_loadR hS6 (k := 0) rfl rfl rfl rfl rfl (by first | exact part_whole rfl rfl rfl | rfl) ?_
   refine EN50_CF13 rfl ?_
   refine OW_fa rfl rfl rfl ?_
   refine OW_loadR hS6 (k := 0) rfl rfl rfl rfl rfl (by first | exact part_whole rfl rfl rfl | rfl) ?_
   refine OW_fa rfl rfl rfl ?_
   refine EN50_CF13 rfl ?_
   refine OW_loadR hS6 (k := 0) rfl rfl rfl rfl rfl (by first | exact part_whole rfl rfl rfl | rfl) ?_
   refine OW_bd rfl rfl (v := .agg [_, _, _, _, _]) rfl ?_
   refine OW_mv rfl rfl ?_
   refine EZ50_CF13 rfl ?_
   refine XW_block ?_
   refine XW_loop ?_
   refine XW_sr ?_
   refine OW_bin rfl rfl rfl rfl rfl ?_
   refine EZ50_CF13 rfl ?_
   refine XW_seq ?_
   refine XW_yes rfl (by first | rfl | decide | (simp; omega)) ?_
   refine XW_skip ?_
   refine then_norm ?_
   refine XW_seq ?_
   refine XW_block ?_
   refine XW_sr ?_
   refine OW_ix rfl rfl rfl rfl ?_
   refine OW_as rfl rfl ?_
   refine EZ50_CF13 rfl ?_
   refine XW_region ?_
   refine OW_mv rfl rfl ?_
   refine OW_fn rfl rfl (putUi (by omega) ?_) 
   refine OW_fn rfl rfl (W_write rfl hS6 (k := 1) rfl (le_lit (ν := ν1) (a := [4, 0, 0, 1, 1, 0]) (b := [2, 1, 0, 1, 1, 0, 1, 1, 0, 1, 1, 0]) (by decide)) (before_lit (ν := ν1) (a := [2, 1, 0, 1, 1, 0, 1, 1, 0, 1, 1, 0]) (b := [3, 1, 0, 1, 1, 0, 1, 1, 0, 1, 1, 0]) (by decide)) (by first | omega | assumption | (simp only [ByteArray.size_append]; omega)) fun H7 hS7 => ?_) 
   replace hS7 : Own _ _ _ ([_, _, _]) := hS7
   refine EZ50_CF13 rfl ?_
   refine block_norm ?_
   refine then_norm ?_
   refine XW_region ?_
   first
   | refine OW_bin rfl rfl rfl rfl (add_w64 (by first | omega | assumption | (simp only [ss]; omega))) ?_
   | refine OW_bin rfl rfl rfl rfl rfl ?_
   refine OW_mv rfl rfl ?_
   refine EZ50_CF13 rfl ?_
   refine then_norm ?_
   refine XW_loop ?_
   refine XW_sr ?_
   refine OW_bin rfl rfl rfl rfl rfl ?_
   refine EZ50_CF13 rfl ?_
   refine XW_seq ?_
   refine XW_yes rfl (by first | rfl | decide | (simp; omega)) ?_
   refine XW_skip ?_
   refine then_norm ?_
   refine XW_seq ?_
   refine XW_block ?_
   refine XW_sr ?_
   refine OW_ix rfl rfl rfl rfl ?_
   refine OW_as rfl rfl ?_
   refine EZ50_CF13 rfl ?_
   refine XW_region ?_
   refine OW_mv rfl rfl ?_
   refine OW_fn rfl rfl (putUi (by omega) ?_) 
   refine OW_fn rfl rfl (W_write rfl hS7 (k := 1) rfl (le_lit (ν := ν1) (a := [3, 1, 0, 1, 1, 0, 1, 1, 0, 1, 1, 0]) (b := [2, 1, 0, 1, 1, 0, 1, 1, 1, 0, 1, 1, 0]) (by decide)) (before_lit (ν := ν1) (a := [2, 1, 0, 1, 1, 0, 1, 1, 1, 0, 1, 1, 0]) (b := [3, 1, 0, 1, 1, 0, 1, 1, 1, 0, 1, 1, 0]) (by decide)) (by first | omega | assumption | (simp only [ByteArray.size_append]; omega)) fun H8 hS8 => ?_) 
   replace hS8 : Own _ _ _ ([_, _, _]) := hS8
   refine EZ50_CF13 rfl ?_
   refine block_norm ?_
   refine then_norm ?_
   refine XW_region ?_
   first
   | refine OW_bin rfl rfl rfl rfl (add_w64 (by first | omega | assumption | (simp only [ss]; omega))) ?_
   | refine OW_bin rfl rfl rfl rfl rfl ?_
   refine OW_mv rfl rfl ?_
   refine EZ50_CF13 rfl ?_
   refine then_norm ?_
   refine XW_loop ?_
   refine XW_sr ?_
   refine OW_bin rfl rfl rfl rfl rfl ?_
   refine EZ50_CF13 rfl ?_
   refine XW_seq ?_
   refine XW_yes rfl (by first | rfl | decide | (simp; omega)) ?_
   refine XW_skip ?_
   refine then_norm ?_
   refine XW_seq ?_
   refine XW_block ?_
   refine XW_sr ?_
   refine OW_ix rfl rfl rfl rfl ?_
   refine OW_as rfl rfl ?_
   refine EZ50_CF13 rfl ?_
   refine XW_region ?_
   refine OW_mv rfl rfl ?_
   refine OW_fn rfl rfl (putUi (by omega) ?_) 
   refine OW_fn rfl rfl (W_write rfl hS8 (k := 1) rfl (le_lit (ν := ν1) (a := [3, 1, 0, 1, 1, 0, 1, 1, 1, 0, 1, 1, 0]) (b := [2, 1, 0, 1, 1, 0, 1, 1, 1, 1, 0, 1, 1, 0]) (by decide)) (before_lit (ν := ν1) (a := [2, 1, 0, 1, 1, 0, 1, 1, 1, 1, 0, 1, 1, 0]) (b := [3, 1, 0, 1, 1, 0, 1, 1, 1, 1, 0, 1, 1, 0]) (by decide)) (by first | omega | assumption | (simp only [ByteArray.size_append]; omega)) fun H9 hS9 => ?_) 
   replace hS9 : Own _ _ _ ([_, _, _]) := hS9
   refine EZ50_CF13 rfl ?_
   refine block_norm ?_
   refine then_norm ?_
   refine XW_region ?_
   first
   | refine OW_bin rfl rfl rfl rfl (add_w64 (by first | omega | assumption | (simp only [ss]; omega))) ?_
   | refine OW_bin rfl rfl rfl rfl rfl ?_
   refine OW_mv rfl rfl ?_
   refine EZ50_CF13 rfl ?_
   refine then_norm ?_
   refine XW_loop ?_
   refine XW_sr ?_
   refine OW_bin rfl rfl rfl rfl rfl ?_
   refine EZ50_CF13 rfl ?_
   refine XW_seq ?_
   refine XW_yes rfl (by first | rfl | decide | (simp; omega)) ?_
   refine XW_skip ?_
   refine then_norm ?_
   refine XW_seq ?_
   refine XW_block ?_
   refine XW_sr ?_
   refine OW_ix rfl rfl rfl rfl ?_
   refine OW_as rfl rfl ?_
   refine EZ50_CF13 rfl ?_
   refine XW_region ?_
   refine OW_mv rfl rfl ?_
   refine OW_fn rfl rfl (putUi (by omega) ?_) 
   refine OW_fn rfl rfl (W_write rfl hS9 (k := 1) rfl (le_lit (ν := ν1) (a := [3, 1, 0, 1, 1, 0, 1, 1, 1, 1, 0, 1, 1, 0]) (b := [2, 1, 0, 1, 1, 0, 1, 1, 1, 1, 1, 0, 1, 1, 0]) (by decide)) (before_lit (ν := ν1) (a := [2, 1, 0, 1, 1, 0, 1, 1, 1, 1, 1, 0, 1, 1, 0]) (b := [3, 1, 0, 1, 1, 0, 1, 1, 1, 1, 1, 0, 1, 1, 0]) (by decide)) (by first | omega | assumption | (simp only [ByteArray.size_append]; omega)) fun H10 hS10 => ?_) 
   replace hS10 : Own _ _ _ ([_, _, _]) := hS10
   refine EZ50_CF13 rfl ?_
   refine block_norm ?_
   refine then_norm ?_
   refine XW_region ?_
   first
   | refine OW_bin rfl rfl rfl rfl (add_w64 (by first | omega | assumption | (simp only [ss]; omega))) ?_
   | refine OW_bin rfl rfl rfl rfl rfl ?_
   refine OW_mv rfl rfl ?_
   refine EZ50_CF13 rfl ?_
   refine then_norm ?_
   refine XW_loop ?_
   refine XW_sr ?_
   refine OW_bin rfl rfl rfl rfl rfl ?_
   refine EZ50_CF13 rfl ?_
   refine XW_seq ?_
   refine XW_yes rfl (by first | rfl | decide | (simp; omega)) ?_
   refine XW_skip ?_
   refine then_norm ?_
   refine XW_seq ?_
   refine XW_block ?_
   refine XW_sr ?_
   refine OW_ix rfl rfl rfl rfl ?_
   refine OW_as rfl rfl ?_
   refine EZ50_CF13 rfl ?_
   refine XW_region ?_
   refine OW_mv rfl rfl ?_
   refine OW_fn rfl rfl (putUi (by omega) ?_) 
   refine OW_fn rfl rfl (W_write rfl hS10 (k := 1) rfl (le_lit (ν := ν1) (a := [3, 1, 0, 1, 1, 0, 1, 1, 1, 1, 1, 0, 1, 1, 0]) (b := [2, 1, 0, 1, 1, 0, 1, 1, 1, 1, 1, 1, 0, 1, 1, 0]) (by decide)) (before_lit (ν := ν1) (a := [2, 1, 0, 1, 1, 0, 1, 1, 1, 1, 1, 1, 0, 1, 1, 0]) (b := [3, 1, 0, 1, 1, 0, 1, 1, 1, 1, 1, 1, 0, 1, 1, 0]) (by decide)) (by first | omega | assumption | (simp only [ByteArray.size_append]; omega)) fun H11 hS11 => ?_) 
   replace hS11 : Own _ _ _ ([_, _, _]) := hS11
   refine EZ50_CF13 rfl ?_
   refine block_norm ?_
   refine then_norm ?_
   refine XW_region ?_
   first
   | refine OW_bin rfl rfl rfl rfl (add_w64 (by first | omega | assumption | (simp only [ss]; omega))) ?_
   | refine OW_bin rfl rfl rfl rfl rfl ?_
   refine OW_mv rfl rfl ?_
   refine EZ50_CF13 rfl ?_
   refine then_norm ?_
   refine XW_loop ?_
   refine XW_sr ?_
   refine OW_bin rfl rfl rfl rfl rfl ?_
   refine EZ50_CF13 rfl ?_
   refine XW_seq ?_
   refine XW_no rfl (by first | rfl | decide | (simp; omega)) ?_
   refine XW_exit ?_
   refine then_exit ?_
   refine then_exit ?_
   refine block_exit ?_
   refine block_norm ?_
   refine then_norm ?_
   refine XW_region ?_
   first
   | refine OW_bin rfl rfl rfl rfl (add_w64 (by first | omega | assumption | (simp only [ss]; omega))) ?_
   | refine OW_bin rfl rfl rfl rfl rfl ?_
   refine OW_mv rfl rfl ?_
   refine EZ50_CF13 rfl ?_
   have hSd1 : Own _ _ _ ([_, _]) := (Own.drop hS11 (k := 0) rfl)
   -- round 0.1
   refine ⟨_, ?_, i + 1, rfl, under_in hU1, Own.cast (Own.mono (hSd1) (le_lit (ν := ν1) (a := [3, 1, 0, 1, 1, 0, 1, 1, 1, 1, 1, 1, 0, 1, 1, 0]) (b := [1]) (by decide))) (by rw [partC_step (by omega)]), ?_, env_g rfl⟩
   · first | omega | (simp; omega)
   · omega
  ·try simp only [bs] at h4
   refine XW_exit ?_
   refine then_exit ?_
   refine block_exit ?_
   refine then_norm ?_
   refine XW_sr ?_
   rw [show i = c.ps.length by omega] at hS4
   refine OW_fa rfl rfl rfl ?_
   refine OW_loadR hS4 (k := 1) rfl rfl rfl rfl rfl (by first | exact part_whole rfl rfl rfl | rfl) ?_
   refine OW_fn rfl rfl (putUi (by omega) ?_) 
   refine EN50_CF13 rfl ?_
   refine OW_fn rfl rfl (W_write rfl hS4 (k := 0) rfl (le_bef (bef_under (a := []) hU1 (before_lit (ν := ν) (a := [1, 0, 1, 1, 1]) (b := [3, 0, 1, 1, 1, 1]) (by decide)))) (before_lit (ν := ν) (a := [3, 0, 1, 1, 1, 1]) (b := [4, 0, 1, 1, 1, 1]) (by decide)) (by first | omega | assumption | (simp only [ByteArray.size_append]; omega)) fun H12 hS12 => ?_) 
   replace hS12 : Own _ _ _ ([_, _]) := hS12
   refine EZ50_CF13 rfl ?_
   refine XW_sr ?_
   refine OW_fn rfl rfl (W_string rfl hS12 (k := 0) rfl (le_lit (ν := ν) (a := [4, 0, 1, 1, 1, 1]) (b := [0, 0, 1, 1, 1, 1, 1]) (by decide)) (before_lit (ν := ν) (a := [0, 0, 1, 1, 1, 1, 1]) (b := [1, 0, 1, 1, 1, 1, 1]) (by decide)) fun H13 hS13 => ?_) 
   replace hS13 : Own _ _ _ ([_]) := hS13
   refine OW_as rfl rfl ?_
   refine EZ50_CF13 rfl ?_
   refine XW_ret ?_
   -- outcome 1
   refine ret_ret (res1 rfl (rv_tmp rfl)) (frz1 (Q := Q) (by first | exact freeze_plain rfl | exact Ls.freeze (by assumption) | exact Ls.freeze Ls.of | exact Ls.freeze Ls.emp | exact Ls.freeze Ls.nls) ?_)
   exact hq
end Go.Proofs.Ytealccnfnpkngaa.X
