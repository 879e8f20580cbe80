/- Layer 14: what state a text says. -/
import Derived.Test.YtealccnfnpkngaaCF13
set_option linter.unusedVariables false
set_option linter.unusedSimpArgs false
set_option maxRecDepth 100000
set_option maxHeartbeats 1000000
namespace Go.Proofs.Ytealccnfnpkngaa.X
open Go Go.RowKit WM
theorem EN106_CF14 {c : Cfg} {ν : Nm} {e : Env} {H : Heap} {all : Array Oper} {r : List Oper} {i : Nat} {Q : Env → Heap → Prop} {x0 x1 x2 x3 x4 x5 x6 x7 x8 x9 x10 x11 x12 x13 x14 x15 x16 x17 x18 x19 x20 x21 x22 x23 x24 x25 x26 x27 x28 x29 x30 x31 x32 x33 x34 x35 x36 x37 x38 x39 x40 x41 x42 x43 x44 x45 x46 x47 x48 x49 x50 x51 x52 x53 x54 x55 x56 x57 x58 x59 x60 x61 x62 x63 x64 x65 x66 x67 x68 x69 x70 x71 x72 x73 x74 x75 x76 x77 x78 x79 x80 x81 x82 x83 x84 x85 x86 x87 x88 x89 x90 x91 x92 x93 x94 x95 x96 x97 x98 x99 x100 x101 x102 x103 x104 x105 : AVal} (he : e = [x0,x1,x2,x3,x4,x5,x6,x7,x8,x9,x10,x11,x12,x13,x14,x15,x16,x17,x18,x19,x20,x21,x22,x23,x24,x25,x26,x27,x28,x29,x30,x31,x32,x33,x34,x35,x36,x37,x38,x39,x40,x41,x42,x43,x44,x45,x46,x47,x48,x49,x50,x51,x52,x53,x54,x55,x56,x57,x58,x59,x60,x61,x62,x63,x64,x65,x66,x67,x68,x69,x70,x71,x72,x73,x74,x75,x76,x77,x78,x79,x80,x81,x82,x83,x84,x85,x86,x87,x88,x89,x90,x91,x92,x93,x94,x95,x96,x97,x98,x99,x100,x101,x102,x103,x104,x105]) (h : OW c ν all r i [x0,x1,x2,x3,x4,x5,x6,x7,x8,x9,x10,x11,x12,x13,x14,x15,x16,x17,x18,x19,x20,x21,x22,x23,x24,x25,x26,x27,x28,x29,x30,x31,x32,x33,x34,x35,x36,x37,x38,x39,x40,x41,x42,x43,x44,x45,x46,x47,x48,x49,x50,x51,x52,x53,x54,x55,x56,x57,x58,x59,x60,x61,x62,x63,x64,x65,x66,x67,x68,x69,x70,x71,x72,x73,x74,x75,x76,x77,x78,x79,x80,x81,x82,x83,x84,x85,x86,x87,x88,x89,x90,x91,x92,x93,x94,x95,x96,x97,x98,x99,x100,x101,x102,x103,x104,x105] H Q) : OW c ν all r i e H Q := by subst he; exact h
theorem EN116_CF14 {c : Cfg} {ν : Nm} {e : Env} {H : Heap} {all : Array Oper} {r : List Oper} {i : Nat} {Q : Env → Heap → Prop} {x0 x1 x2 x3 x4 x5 x6 x7 x8 x9 x10 x11 x12 x13 x14 x15 x16 x17 x18 x19 x20 x21 x22 x23 x24 x25 x26 x27 x28 x29 x30 x31 x32 x33 x34 x35 x36 x37 x38 x39 x40 x41 x42 x43 x44 x45 x46 x47 x48 x49 x50 x51 x52 x53 x54 x55 x56 x57 x58 x59 x60 x61 x62 x63 x64 x65 x66 x67 x68 x69 x70 x71 x72 x73 x74 x75 x76 x77 x78 x79 x80 x81 x82 x83 x84 x85 x86 x87 x88 x89 x90 x91 x92 x93 x94 x95 x96 x97 x98 x99 x100 x101 x102 x103 x104 x105 x106 x107 x108 x109 x110 x111 x112 x113 x114 x115 : AVal} (he : e = [x0,x1,x2,x3,x4,x5,x6,x7,x8,x9,x10,x11,x12,x13,x14,x15,x16,x17,x18,x19,x20,x21,x22,x23,x24,x25,x26,x27,x28,x29,x30,x31,x32,x33,x34,x35,x36,x37,x38,x39,x40,x41,x42,x43,x44,x45,x46,x47,x48,x49,x50,x51,x52,x53,x54,x55,x56,x57,x58,x59,x60,x61,x62,x63,x64,x65,x66,x67,x68,x69,x70,x71,x72,x73,x74,x75,x76,x77,x78,x79,x80,x81,x82,x83,x84,x85,x86,x87,x88,x89,x90,x91,x92,x93,x94,x95,x96,x97,x98,x99,x100,x101,x102,x103,x104,x105,x106,x107,x108,x109,x110,x111,x112,x113,x114,x115]) (h : OW c ν all r i [x0,x1,x2,x3,x4,x5,x6,x7,x8,x9,x10,x11,x12,x13,x14,x15,x16,x17,x18,x19,x20,x21,x22,x23,x24,x25,x26,x27,x28,x29,x30,x31,x32,x33,x34,x35,x36,x37,x38,x39,x40,x41,x42,x43,x44,x45,x46,x47,x48,x49,x50,x51,x52,x53,x54,x55,x56,x57,x58,x59,x60,x61,x62,x63,x64,x65,x66,x67,x68,x69,x70,x71,x72,x73,x74,x75,x76,x77,x78,x79,x80,x81,x82,x83,x84,x85,x86,x87,x88,x89,x90,x91,x92,x93,x94,x95,x96,x97,x98,x99,x100,x101,x102,x103,x104,x105,x106,x107,x108,x109,x110,x111,x112,x113,x114,x115] H Q) : OW c ν all r i e H Q := by subst he; exact h
theorem EZ106_CF14 {c : Cfg} {ν : Nm} {e : Env} {H : Heap} {all : Array Oper} {i : Nat} {Q : Env → Heap → Prop} {x0 x1 x2 x3 x4 x5 x6 x7 x8 x9 x10 x11 x12 x13 x14 x15 x16 x17 x18 x19 x20 x21 x22 x23 x24 x25 x26 x27 x28 x29 x30 x31 x32 x33 x34 x35 x36 x37 x38 x39 x40 x41 x42 x43 x44 x45 x46 x47 x48 x49 x50 x51 x52 x53 x54 x55 x56 x57 x58 x59 x60 x61 x62 x63 x64 x65 x66 x67 x68 x69 x70 x71 x72 x73 x74 x75 x76 x77 x78 x79 x80 x81 x82 x83 x84 x85 x86 x87 x88 x89 x90 x91 x92 x93 x94 x95 x96 x97 x98 x99 x100 x101 x102 x103 x104 x105 : AVal} (he : e = [x0,x1,x2,x3,x4,x5,x6,x7,x8,x9,x10,x11,x12,x13,x14,x15,x16,x17,x18,x19,x20,x21,x22,x23,x24,x25,x26,x27,x28,x29,x30,x31,x32,x33,x34,x35,x36,x37,x38,x39,x40,x41,x42,x43,x44,x45,x46,x47,x48,x49,x50,x51,x52,x53,x54,x55,x56,x57,x58,x59,x60,x61,x62,x63,x64,x65,x66,x67,x68,x69,x70,x71,x72,x73,x74,x75,x76,x77,x78,x79,x80,x81,x82,x83,x84,x85,x86,x87,x88,x89,x90,x91,x92,x93,x94,x95,x96,x97,x98,x99,x100,x101,x102,x103,x104,x105]) (h : Q [x0,x1,x2,x3,x4,x5,x6,x7,x8,x9,x10,x11,x12,x13,x14,x15,x16,x17,x18,x19,x20,x21,x22,x23,x24,x25,x26,x27,x28,x29,x30,x31,x32,x33,x34,x35,x36,x37,x38,x39,x40,x41,x42,x43,x44,x45,x46,x47,x48,x49,x50,x51,x52,x53,x54,x55,x56,x57,x58,x59,x60,x61,x62,x63,x64,x65,x66,x67,x68,x69,x70,x71,x72,x73,x74,x75,x76,x77,x78,x79,x80,x81,x82,x83,x84,x85,x86,x87,x88,x89,x90,x91,x92,x93,x94,x95,x96,x97,x98,x99,x100,x101,x102,x103,x104,x105] H) : OW c ν all [] i e H Q := by subst he; exact OW_nil h
theorem EZ116_CF14 {c : Cfg} {ν : Nm} {e : Env} {H : Heap} {all : Array Oper} {i : Nat} {Q : Env → Heap → Prop} {x0 x1 x2 x3 x4 x5 x6 x7 x8 x9 x10 x11 x12 x13 x14 x15 x16 x17 x18 x19 x20 x21 x22 x23 x24 x25 x26 x27 x28 x29 x30 x31 x32 x33 x34 x35 x36 x37 x38 x39 x40 x41 x42 x43 x44 x45 x46 x47 x48 x49 x50 x51 x52 x53 x54 x55 x56 x57 x58 x59 x60 x61 x62 x63 x64 x65 x66 x67 x68 x69 x70 x71 x72 x73 x74 x75 x76 x77 x78 x79 x80 x81 x82 x83 x84 x85 x86 x87 x88 x89 x90 x91 x92 x93 x94 x95 x96 x97 x98 x99 x100 x101 x102 x103 x104 x105 x106 x107 x108 x109 x110 x111 x112 x113 x114 x115 : AVal} (he : e = [x0,x1,x2,x3,x4,x5,x6,x7,x8,x9,x10,x11,x12,x13,x14,x15,x16,x17,x18,x19,x20,x21,x22,x23,x24,x25,x26,x27,x28,x29,x30,x31,x32,x33,x34,x35,x36,x37,x38,x39,x40,x41,x42,x43,x44,x45,x46,x47,x48,x49,x50,x51,x52,x53,x54,x55,x56,x57,x58,x59,x60,x61,x62,x63,x64,x65,x66,x67,x68,x69,x70,x71,x72,x73,x74,x75,x76,x77,x78,x79,x80,x81,x82,x83,x84,x85,x86,x87,x88,x89,x90,x91,x92,x93,x94,x95,x96,x97,x98,x99,x100,x101,x102,x103,x104,x105,x106,x107,x108,x109,x110,x111,x112,x113,x114,x115]) (h : Q [x0,x1,x2,x3,x4,x5,x6,x7,x8,x9,x10,x11,x12,x13,x14,x15,x16,x17,x18,x19,x20,x21,x22,x23,x24,x25,x26,x27,x28,x29,x30,x31,x32,x33,x34,x35,x36,x37,x38,x39,x40,x41,x42,x43,x44,x45,x46,x47,x48,x49,x50,x51,x52,x53,x54,x55,x56,x57,x58,x59,x60,x61,x62,x63,x64,x65,x66,x67,x68,x69,x70,x71,x72,x73,x74,x75,x76,x77,x78,x79,x80,x81,x82,x83,x84,x85,x86,x87,x88,x89,x90,x91,x92,x93,x94,x95,x96,x97,x98,x99,x100,x101,x102,x103,x104,x105,x106,x107,x108,x109,x110,x111,x112,x113,x114,x115] H) : OW c ν all [] i e H Q := by subst he; exact OW_nil h
variable {ν : Nm} {H : Heap} {Q : AVal → Heap → Prop} {c : Cf} {gs : Int}
theorem num5 (s : List UInt8) : (cI.manyT 5 s = none ∧ cPl.tk s = none) ∨ ∃ p r, cI.manyT 5 s = some ([p.vo, p.te, p.de, p.ep, p.gr], r) ∧ cPl.tk s = some (p, r) ∧ p.fit := by
  cases h : cPl.tk s with
  | some x =>
    obtain ⟨p, r⟩ := x
    obtain ⟨h1, h2⟩ := (cPl.iff _ _ _).1 h
    refine .inr ⟨p, r, (cI.manyT_iff _ _ _ _).2 ⟨⟨rfl, fun y hy => ?_⟩, ?_⟩, rfl, h1⟩
    · obtain ⟨f1, f2, f3, f4, f5⟩ := h1
      simp only [List.mem_cons, List.not_mem_nil, or_false] at hy
      rcases hy with rfl | rfl | rfl | rfl | rfl
      · exact f1
      · exact f2
      · exact f3
      · exact f4
      · exact f5
    · rw [h2]
      show (encU p.vo.toNat ++ (encU p.te.toNat ++ (encU p.de.toNat ++ (encU p.ep.toNat ++ encU p.gr.toNat)))) ++ r = _
      simp only [List.map_cons, List.map_nil, List.flatten_cons, List.flatten_nil, List.append_nil, List.append_assoc]
      rfl
  | none =>
    refine .inl ⟨?_, rfl⟩
    cases h2 : cI.manyT 5 s with
    | none => rfl
    | some x =>
      exfalso
      obtain ⟨l, r⟩ := x
      obtain ⟨⟨h3, h4⟩, h5⟩ := (cI.manyT_iff _ _ _ _).1 h2
      match l, h3, h4, h5 with
      | [a, b, d, e, f], _, h4, h5 =>
        have : cPl.tk s = some (⟨a, b, d, e, f⟩, r) := (cPl.iff _ _ _).2 ⟨⟨h4 a (by simp), h4 b (by simp), h4 d (by simp), h4 e (by simp), h4 f (by simp)⟩, by
          rw [h5]
          show _ = (encU a.toNat ++ (encU b.toNat ++ (encU d.toNat ++ (encU e.toNat ++ encU f.toNat)))) ++ r
          simp only [List.map_cons, List.map_nil, List.flatten_cons, List.flatten_nil, List.append_nil, List.append_assoc]
          rfl⟩
        rw [h] at this; cases this
/-- Five numbers, as a place. -/
theorem take5 (s : ByteArray) : ∃ l r b, resN 5 s = (l, r, b) ∧ r.size ≤ s.size ∧ (b = false → cPl.tk s.data.toList = none) ∧ (b = true → ∃ p : Pl, l = [p.vo, p.te, p.de, p.ep, p.gr] ∧ cPl.tk s.data.toList = some (p, r.data.toList) ∧ p.fit) := by
  unfold resN
  rcases num5 s.data.toList with ⟨h1, h2⟩ | ⟨p, r, h1, h2, h3⟩
  · exact ⟨[], ⟨#[]⟩, false, by rw [h1], Nat.zero_le _, fun _ => h2, (fun h => by cases h)⟩
  · refine ⟨_, ba r, true, by rw [h1], ?_, (fun h => by cases h), fun _ => ⟨p, rfl, h2, h3⟩⟩
    have := ((cPl.iff _ _ _).1 h2).2
    have := congrArg List.length this
    rw [List.length_append, bytes_size] at this
    rw [ba_size]; omega
def zC : Cf := ⟨[], [], 0⟩
noncomputable def finC (q : List Qu) (gs : Int) : Option (List Pl × List UInt8) → Cf × Bool
  | some (ps, r) => if (resU (ba r)).2.2 = true ∧ (resU (ba r)).2.1 = ⟨#[]⟩ ∧ chkC ⟨q, ps, (resU (ba r)).1⟩ gs = true then (⟨q, ps, (resU (ba r)).1⟩, true) else (zC, false)
  | none => (zC, false)
theorem finC_yes {q : List Qu} {ps : List Pl} {gs : Int} {rest : ByteArray} (h : (resU rest).2.2 = true ∧ (resU rest).2.1 = ⟨#[]⟩ ∧ chkC ⟨q, ps, (resU rest).1⟩ gs = true) : finC q gs (some (ps, rest.data.toList)) = (⟨q, ps, (resU rest).1⟩, true) := if_pos h
theorem finC_no {q : List Qu} {ps : List Pl} {gs : Int} {rest : ByteArray} (h : ¬ ((resU rest).2.2 = true ∧ (resU rest).2.1 = ⟨#[]⟩ ∧ chkC ⟨q, ps, (resU rest).1⟩ gs = true)) : finC q gs (some (ps, rest.data.toList)) = (zC, false) := if_neg h
noncomputable def resC (s : ByteArray) (gs : Int) : Cf × Bool :=
  if (resT (s.size : Int) s).2.2 = true ∧ (resP (resT (s.size : Int) s).1).2 = true ∧ (resU (resT (s.size : Int) s).2.1).2.2 = true ∧ (resU (resT (s.size : Int) s).2.1).1 ≤ 32 then
    finC (resP (resT (s.size : Int) s).1).1 gs (cPl.manyT (resU (resT (s.size : Int) s).2.1).1.toNat (resU (resT (s.size : Int) s).2.1).2.1.data.toList)
  else (zC, false)
theorem resT_1 (m : Int) (s : ByteArray) : (resT m s).1.size ≤ s.size := by
  unfold resT
  cases h : WM.takeT m s.data.toList with
  | none => exact Nat.zero_le _
  | some p => obtain ⟨t, r⟩ := p; have := takeT_short h; show (ba t).size ≤ _; rw [ba_size]; have e : s.data.toList.length = s.size := rfl; omega
theorem resP_fit (s : ByteArray) : Fit (resP s).1 := by
  unfold resP
  cases h : parS s with
  | none => intro x hx; simp at hx
  | some l => exact ((parS_iff _ _).1 h).2.1
theorem resC_no {s : ByteArray} (h : ¬ ((resT (s.size : Int) s).2.2 = true ∧ (resP (resT (s.size : Int) s).1).2 = true ∧ (resU (resT (s.size : Int) s).2.1).2.2 = true ∧ (resU (resT (s.size : Int) s).2.1).1 ≤ 32)) : resC s gs = (zC, false) := if_neg h
theorem resC_if {s : ByteArray} (h : (resT (s.size : Int) s).2.2 = true ∧ (resP (resT (s.size : Int) s).1).2 = true ∧ (resU (resT (s.size : Int) s).2.1).2.2 = true ∧ (resU (resT (s.size : Int) s).2.1).1 ≤ 32) {o : Option (List Pl × List UInt8)} (ho : cPl.manyT (resU (resT (s.size : Int) s).2.1).1.toNat (resU (resT (s.size : Int) s).2.1).2.1.data.toList = o) :
    resC s gs = finC (resP (resT (s.size : Int) s).1).1 gs o := by
  unfold resC; rw [if_pos h, ho]
def tupC (x : Cf × Bool) : AVal := .tup [x.1.enc, .bool x.2]
theorem p_parseC {s : ByteArray} (hs : s.size ≤ 4611686018427387904) (hq : Q (tupC (resC s gs)) H) : CW cfg ν 25 [.str s, .int .i64 gs] H Q := by
  have s1 := resT_1 (s.size : Int) s
  have s2 := resT_size (s.size : Int) s
  have s3 := resU_size (resT (s.size : Int) s).2.1
  have s4 := resU_i (resT (s.size : Int) s).2.1
  have s5 := resP_len (resT (s.size : Int) s).1
  have s6 := resP_fit (resT (s.size : Int) s).1
  have hno := @resC_no gs s
  have hif := @resC_if gs s
  obtain ⟨a, ha⟩ : ∃ a, resT (s.size : Int) s = a := ⟨_, rfl⟩
  rw [ha] at s1 s2 s3 s4 s5 s6 hno hif
  obtain ⟨b, hb⟩ : ∃ b, resP a.1 = b := ⟨_, rfl⟩
  rw [hb] at s5 s6 hno hif
  obtain ⟨u, hu⟩ : ∃ u, resU a.2.1 = u := ⟨_, rfl⟩
  rw [hu] at s3 s4 hno hif
  refine CW_pure g25 F25 rfl ?_
  have hS0 : Own ν ν (fun _ => none) [] := Own.nil
  refine XW_sr ?_
  refine OW_allocR hS0 (le_app (p := ν) (b := [0, 0])) (under_app [0, 0] under_me) rfl rfl rfl rfl fun H1 hS1 => ?_
  replace hS1 : Own _ _ _ ([_]) := hS1
  refine OW_as rfl rfl ?_
  refine EZ106_CF14 rfl ?_
  refine XW_sr ?_
  refine OW_mv rfl rfl ?_
  refine OW_mv rfl rfl ?_
  refine OW_lenS rfl rfl rfl ?_
  refine EN106_CF14 rfl ?_
  refine OW_fn rfl rfl (takeT_c (by omega) (by omega) ?_) 
  rw [ha]
  refine OW_mv rfl rfl ?_
  refine OW_ex rfl rfl rfl ?_
  refine EN106_CF14 rfl ?_
  refine OW_ex rfl rfl rfl ?_
  refine OW_ex rfl rfl rfl ?_
  refine OW_as rfl rfl ?_
  refine EN106_CF14 rfl ?_
  refine OW_as rfl rfl ?_
  refine OW_as rfl rfl ?_
  refine EZ106_CF14 rfl ?_
  refine XW_sr ?_
  refine OW_mv rfl rfl ?_
  refine OW_fn rfl rfl (p_parse (by omega) ?_) 
  rw [hb]
  refine OW_mv rfl rfl ?_
  refine EN106_CF14 rfl ?_
  refine OW_ex rfl rfl rfl ?_
  refine OW_ex rfl rfl rfl ?_
  refine OW_as rfl rfl ?_
  refine EN106_CF14 rfl ?_
  refine OW_as rfl rfl ?_
  refine EZ106_CF14 rfl ?_
  refine XW_sr ?_
  refine OW_mv rfl rfl ?_
  refine OW_fn rfl rfl (takeU_c (by omega) ?_) 
  rw [hu]
  refine OW_mv rfl rfl ?_
  refine EN106_CF14 rfl ?_
  refine OW_ex rfl rfl rfl ?_
  refine OW_ex rfl rfl rfl ?_
  refine OW_ex rfl rfl rfl ?_
  refine EN106_CF14 rfl ?_
  refine OW_as rfl rfl ?_
  refine OW_as rfl rfl ?_
  refine OW_as rfl rfl ?_
  refine EZ106_CF14 rfl ?_
  refine XW_seq ?_
  refine XW_sr ?_
  refine OW_mv rfl rfl ?_
  refine OW_un rfl rfl rfl ?_
  refine OW_mv rfl rfl ?_
  refine EN106_CF14 rfl ?_
  refine OW_split (tt := 36) rfl (fun g4_3 => ?_) (fun g4_3 => ?_)
  ·first
   |(exfalso; (try simp only [bs] at g4_3) <;> (first | (exact absurd rfl g4_3) | (exact g4_3 trivial) | omega | (simp at g4_3; done)); done)
   |skip
    try simp only [bs] at g4_3
    refine OW_no rfl ?_
    refine OW_no rfl ?_
    refine EN106_CF14 rfl ?_
    refine OW_pick rfl rfl rfl ?_
    refine OW_mv rfl rfl ?_
    refine OW_no rfl ?_
    refine EN106_CF14 rfl ?_
    refine OW_no rfl ?_
    refine OW_pick rfl rfl rfl ?_
    refine OW_mv rfl rfl ?_
    refine EN106_CF14 rfl ?_
    refine OW_no rfl ?_
    refine OW_no rfl ?_
    refine OW_pick rfl rfl rfl ?_
    refine EZ106_CF14 rfl ?_
    refine XW_yes rfl rfl ?_
    refine XW_sr ?_
    refine OW_bd rfl rfl (v := .agg [_, _, _]) rfl ?_
    first
    | refine OW_storeR hS1 (k := 0) rfl (le_lit (ν := ν) (a := [1, 0]) (b := [1, 0, 1, 0, 1, 1, 1, 1]) (by decide)) rfl rfl rfl rfl ⟨rfl, rfl, Nat.le_of_ble_eq_true rfl⟩ (set_whole rfl rfl) fun H2 hS2 => ?_
    | refine OW_storeR hS1 (k := 0) rfl (le_lit (ν := ν) (a := [1, 0]) (b := [1, 0, 1, 0, 1, 1, 1, 1]) (by decide)) rfl rfl rfl rfl ⟨rfl, rfl, Nat.le_of_ble_eq_true rfl⟩ (u2 := .agg [_, _, _]) rfl fun H2 hS2 => ?_
    replace hS2 : Own _ _ _ ([_]) := hS2
    refine OW_as rfl rfl ?_
    refine EZ106_CF14 rfl ?_
    refine XW_ret ?_
    refine then_ret ?_
    -- outcome 1
    refine ret_ret (res2 rfl (rv_cellR hS2 (k := 0) rfl rfl rfl rfl (by first | exact part_whole rfl rfl rfl | rfl)) (rv_tmp rfl)) (frz2 (Q := Q) (by first | exact freeze_plain rfl | exact Ls.freeze (by assumption) | exact Ls.freeze Ls.of | exact Ls.freeze Ls.emp | exact Ls.freeze Ls.nls | exact frA (frAc (by first | exact freeze_plain rfl | assumption | exact Ls.freeze Ls.of | exact Ls.freeze Ls.emp | exact Ls.freeze Ls.nls | exact Ls.freeze (by assumption)) (frAc (by first | exact freeze_plain rfl | assumption | exact Ls.freeze Ls.of | exact Ls.freeze Ls.emp | exact Ls.freeze Ls.nls | exact Ls.freeze (by assumption)) (frAc (by first | exact freeze_plain rfl | assumption | exact Ls.freeze Ls.of | exact Ls.freeze Ls.emp | exact Ls.freeze Ls.nls | exact Ls.freeze (by assumption)) frAn)))) (by first | exact freeze_plain rfl | exact Ls.freeze (by assumption) | exact Ls.freeze Ls.of | exact Ls.freeze Ls.emp | exact Ls.freeze Ls.nls) ?_)
    rw [hno (by rintro ⟨e1, e2, e3, e4⟩; first | omega | (simp_all; done))] at hq; exact hq
  ·first
   |(exfalso; (try simp only [bs] at g4_3) <;> (first | (exact absurd rfl g4_3) | (exact g4_3 trivial) | omega | (simp at g4_3; done)); done)
   |skip
    try simp only [bs] at g4_3
    refine OW_mv rfl rfl ?_
    refine OW_un rfl rfl rfl ?_
    refine EN106_CF14 rfl ?_
    refine OW_pick rfl rfl rfl ?_
    refine OW_mv rfl rfl ?_
    refine OW_split (tt := 40) rfl (fun g4_7 => ?_) (fun g4_7 => ?_)
    ·first
     |(exfalso; (try simp only [bs] at g4_7) <;> (first | (exact absurd rfl g4_7) | (exact g4_7 trivial) | omega | (simp at g4_7; done)); done)
     |skip
      try simp only [bs] at g4_7
      refine EN106_CF14 rfl ?_
      refine OW_no rfl ?_
      refine OW_no rfl ?_
      refine OW_pick rfl rfl rfl ?_
      refine EN106_CF14 rfl ?_
      refine OW_mv rfl rfl ?_
      refine OW_no rfl ?_
      refine OW_no rfl ?_
      refine EN106_CF14 rfl ?_
      refine OW_pick rfl rfl rfl ?_
      refine EZ106_CF14 rfl ?_
      refine XW_yes rfl rfl ?_
      refine XW_sr ?_
      refine OW_bd rfl rfl (v := .agg [_, _, _]) rfl ?_
      first
      | refine OW_storeR hS1 (k := 0) rfl (le_lit (ν := ν) (a := [1, 0]) (b := [1, 0, 1, 0, 1, 1, 1, 1]) (by decide)) rfl rfl rfl rfl ⟨rfl, rfl, Nat.le_of_ble_eq_true rfl⟩ (set_whole rfl rfl) fun H3 hS3 => ?_
      | refine OW_storeR hS1 (k := 0) rfl (le_lit (ν := ν) (a := [1, 0]) (b := [1, 0, 1, 0, 1, 1, 1, 1]) (by decide)) rfl rfl rfl rfl ⟨rfl, rfl, Nat.le_of_ble_eq_true rfl⟩ (u2 := .agg [_, _, _]) rfl fun H3 hS3 => ?_
      replace hS3 : Own _ _ _ ([_]) := hS3
      refine OW_as rfl rfl ?_
      refine EZ106_CF14 rfl ?_
      refine XW_ret ?_
      refine then_ret ?_
      -- outcome 2
      refine ret_ret (res2 rfl (rv_cellR hS3 (k := 0) rfl rfl rfl rfl (by first | exact part_whole rfl rfl rfl | rfl)) (rv_tmp rfl)) (frz2 (Q := Q) (by first | exact freeze_plain rfl | exact Ls.freeze (by assumption) | exact Ls.freeze Ls.of | exact Ls.freeze Ls.emp | exact Ls.freeze Ls.nls | exact frA (frAc (by first | exact freeze_plain rfl | assumption | exact Ls.freeze Ls.of | exact Ls.freeze Ls.emp | exact Ls.freeze Ls.nls | exact Ls.freeze (by assumption)) (frAc (by first | exact freeze_plain rfl | assumption | exact Ls.freeze Ls.of | exact Ls.freeze Ls.emp | exact Ls.freeze Ls.nls | exact Ls.freeze (by assumption)) (frAc (by first | exact freeze_plain rfl | assumption | exact Ls.freeze Ls.of | exact Ls.freeze Ls.emp | exact Ls.freeze Ls.nls | exact Ls.freeze (by assumption)) frAn)))) (by first | exact freeze_plain rfl | exact Ls.freeze (by assumption) | exact Ls.freeze Ls.of | exact Ls.freeze Ls.emp | exact Ls.freeze Ls.nls) ?_)
      rw [hno (by rintro ⟨e1, e2, e3, e4⟩; first | omega | (simp_all; done))] at hq; exact hq
    ·first
     |(exfalso; (try simp only [bs] at g4_7) <;> (first | (exact absurd rfl g4_7) | (exact g4_7 trivial) | omega | (simp at g4_7; done)); done)
     |skip
      try simp only [bs] at g4_7
      refine EN106_CF14 rfl ?_
      refine OW_mv rfl rfl ?_
      refine OW_un rfl rfl rfl ?_
      refine OW_pick rfl rfl rfl ?_
      refine EN106_CF14 rfl ?_
      refine OW_mv rfl rfl ?_
      refine OW_split (tt := 44) rfl (fun g4_11 => ?_) (fun g4_11 => ?_)
      ·first
       |(exfalso; (try simp only [bs] at g4_11) <;> (first | (exact absurd rfl g4_11) | (exact g4_11 trivial) | omega | (simp at g4_11; done)); done)
       |skip
        try simp only [bs] at g4_11
        refine OW_no rfl ?_
        refine EN106_CF14 rfl ?_
        refine OW_no rfl ?_
        refine OW_pick rfl rfl rfl ?_
        refine EZ106_CF14 rfl ?_
        refine XW_yes rfl rfl ?_
        refine XW_sr ?_
        refine OW_bd rfl rfl (v := .agg [_, _, _]) rfl ?_
        first
        | refine OW_storeR hS1 (k := 0) rfl (le_lit (ν := ν) (a := [1, 0]) (b := [1, 0, 1, 0, 1, 1, 1, 1]) (by decide)) rfl rfl rfl rfl ⟨rfl, rfl, Nat.le_of_ble_eq_true rfl⟩ (set_whole rfl rfl) fun H4 hS4 => ?_
        | refine OW_storeR hS1 (k := 0) rfl (le_lit (ν := ν) (a := [1, 0]) (b := [1, 0, 1, 0, 1, 1, 1, 1]) (by decide)) rfl rfl rfl rfl ⟨rfl, rfl, Nat.le_of_ble_eq_true rfl⟩ (u2 := .agg [_, _, _]) rfl fun H4 hS4 => ?_
        replace hS4 : Own _ _ _ ([_]) := hS4
        refine OW_as rfl rfl ?_
        refine EZ106_CF14 rfl ?_
        refine XW_ret ?_
        refine then_ret ?_
        -- outcome 3
        refine ret_ret (res2 rfl (rv_cellR hS4 (k := 0) rfl rfl rfl rfl (by first | exact part_whole rfl rfl rfl | rfl)) (rv_tmp rfl)) (frz2 (Q := Q) (by first | exact freeze_plain rfl | exact Ls.freeze (by assumption) | exact Ls.freeze Ls.of | exact Ls.freeze Ls.emp | exact Ls.freeze Ls.nls | exact frA (frAc (by first | exact freeze_plain rfl | assumption | exact Ls.freeze Ls.of | exact Ls.freeze Ls.emp | exact Ls.freeze Ls.nls | exact Ls.freeze (by assumption)) (frAc (by first | exact freeze_plain rfl | assumption | exact Ls.freeze Ls.of | exact Ls.freeze Ls.emp | exact Ls.freeze Ls.nls | exact Ls.freeze (by assumption)) (frAc (by first | exact freeze_plain rfl | assumption | exact Ls.freeze Ls.of | exact Ls.freeze Ls.emp | exact Ls.freeze Ls.nls | exact Ls.freeze (by assumption)) frAn)))) (by first | exact freeze_plain rfl | exact Ls.freeze (by assumption) | exact Ls.freeze Ls.of | exact Ls.freeze Ls.emp | exact Ls.freeze Ls.nls) ?_)
        rw [hno (by rintro ⟨e1, e2, e3, e4⟩; first | omega | (simp_all; done))] at hq; exact hq
      ·first
       |(exfalso; (try simp only [bs] at g4_11) <;> (first | (exact absurd rfl g4_11) | (exact g4_11 trivial) | omega | (simp at g4_11; done)); done)
       |skip
        try simp only [bs] at g4_11
        refine OW_mv rfl rfl ?_
        refine EN106_CF14 rfl ?_
        refine OW_bin rfl rfl rfl rfl rfl ?_
        refine OW_pick rfl rfl rfl ?_
        refine EZ106_CF14 rfl ?_
        refine XW_if rfl (fun h4 => ?_) (fun h4 => ?_)
        ·first
         |(exfalso; (try simp only [bs] at h4) <;> (first | (exact absurd rfl h4) | (exact h4 trivial) | omega | (simp at h4; done)); done)
         |skip
          try simp only [bs] at h4
          refine XW_sr ?_
          refine OW_bd rfl rfl (v := .agg [_, _, _]) rfl ?_
          first
          | refine OW_storeR hS1 (k := 0) rfl (le_lit (ν := ν) (a := [1, 0]) (b := [1, 0, 1, 0, 1, 1, 1, 1]) (by decide)) rfl rfl rfl rfl ⟨rfl, rfl, Nat.le_of_ble_eq_true rfl⟩ (set_whole rfl rfl) fun H5 hS5 => ?_
          | refine OW_storeR hS1 (k := 0) rfl (le_lit (ν := ν) (a := [1, 0]) (b := [1, 0, 1, 0, 1, 1, 1, 1]) (by decide)) rfl rfl rfl rfl ⟨rfl, rfl, Nat.le_of_ble_eq_true rfl⟩ (u2 := .agg [_, _, _]) rfl fun H5 hS5 => ?_
          replace hS5 : Own _ _ _ ([_]) := hS5
          refine OW_as rfl rfl ?_
          refine EZ106_CF14 rfl ?_
          refine XW_ret ?_
          refine then_ret ?_
          -- outcome 4
          refine ret_ret (res2 rfl (rv_cellR hS5 (k := 0) rfl rfl rfl rfl (by first | exact part_whole rfl rfl rfl | rfl)) (rv_tmp rfl)) (frz2 (Q := Q) (by first | exact freeze_plain rfl | exact Ls.freeze (by assumption) | exact Ls.freeze Ls.of | exact Ls.freeze Ls.emp | exact Ls.freeze Ls.nls | exact frA (frAc (by first | exact freeze_plain rfl | assumption | exact Ls.freeze Ls.of | exact Ls.freeze Ls.emp | exact Ls.freeze Ls.nls | exact Ls.freeze (by assumption)) (frAc (by first | exact freeze_plain rfl | assumption | exact Ls.freeze Ls.of | exact Ls.freeze Ls.emp | exact Ls.freeze Ls.nls | exact Ls.freeze (by assumption)) (frAc (by first | exact freeze_plain rfl | assumption | exact Ls.freeze Ls.of | exact Ls.freeze Ls.emp | exact Ls.freeze Ls.nls | exact Ls.freeze (by assumption)) frAn)))) (by first | exact freeze_plain rfl | exact Ls.freeze (by assumption) | exact Ls.freeze Ls.of | exact Ls.freeze Ls.emp | exact Ls.freeze Ls.nls) ?_)
          rw [hno (by rintro ⟨e1, e2, e3, e4⟩; first | omega | (simp_all; done))] at hq; exact hq
        ·first
         |(exfalso; (try simp only [bs] at h4) <;> (first | (exact absurd rfl h4) | (exact h4 trivial) | omega | (simp at h4; done)); done)
         |skip
          try simp only [bs] at h4
          refine XW_skip ?_
          refine then_norm ?_
          refine XW_sr ?_
          refine OW_mv rfl rfl ?_
          refine OW_bd rfl rfl (v := .agg [_, _, _]) rfl ?_
          refine OW_allocR hS1 (le_lit (ν := ν) (a := [1, 0]) (b := [2, 0, 1, 1, 1, 1, 1]) (by decide)) (under_app [2, 0, 1, 1, 1, 1, 1] under_me) rfl rfl rfl rfl fun H6 hS6 => ?_
          replace hS6 : Own _ _ _ ([_, _]) := hS6
          refine EN106_CF14 rfl ?_
          first
          | refine OW_storeR hS6 (k := 0) rfl le_refl rfl rfl rfl rfl ⟨rfl, rfl, Nat.le_of_ble_eq_true rfl⟩ (set_whole rfl rfl) fun H7 hS7 => ?_
          | refine OW_storeR hS6 (k := 0) rfl le_refl rfl rfl rfl rfl ⟨rfl, rfl, Nat.le_of_ble_eq_true rfl⟩ (u2 := .agg [_, _, _]) rfl fun H7 hS7 => ?_
          replace hS7 : Own _ _ _ ([_, _]) := hS7
          refine EZ106_CF14 rfl ?_
          refine XW_seq ?_
          refine XW_sr ?_
          refine OW_mv rfl rfl ?_
          refine OW_mv rfl rfl ?_
          refine EZ106_CF14 rfl ?_
          refine XW_block ?_
          refine XW_whileN (I := fun ν' mm ee H' => ∃ (i : Nat) (O : AVal) (acc : List Pl) (rest : ByteArray), mm = u.1.toNat - i ∧ under (1 :: 0 :: 1 :: 1 :: 1 :: 1 :: 1 :: 1 :: ν) ν' = true ∧ Own ν ν' H' ([sl O 5 (acc.map Pl.enc), row (2 :: 0 :: 1 :: 1 :: 1 :: 1 :: 1 :: ν) 3 [.agg [.lst (b.1.map Qu.enc), O, .int .u64 0]], row (0 :: 0 :: ν) 3 [.agg [.emp, .emp, .int .u64 0]]]) ∧ (cPl.Far u.1.toNat u.2.1.data.toList i acc rest.data.toList ∧ rest.size ≤ s.size ∧ ∀ x ∈ acc, x.fit) ∧ ∃ g : Nat → AVal, ee = [g 0, .int .i64 gs, g 2, g 3, .ptr (0 :: 0 :: ν) 0 0, g 5, g 6, .str rest, g 8, g 9, g 10, g 11, g 12, .ptr (2 :: 0 :: 1 :: 1 :: 1 :: 1 :: 1 :: ν) 0 0, g 14, g 15, g 16, g 17, g 18, g 19, g 20, g 21, g 22, g 23, g 24, g 25, g 26, g 27, g 28, g 29, g 30, g 31, g 32, g 33, g 34, g 35, g 36, g 37, g 38, g 39, g 40, g 41, g 42, g 43, g 44, g 45, g 46, g 47, g 48, g 49, g 50, .int .u64 u.1, .int .u64 i, g 53, g 54, g 55, g 56, g 57, g 58, g 59, g 60, g 61, g 62, g 63, g 64, g 65, g 66, g 67, g 68, g 69, g 70, g 71, g 72, g 73, g 74, g 75, g 76, g 77, g 78, g 79, g 80, g 81, g 82, g 83, g 84, g 85, g 86, g 87, g 88, g 89, g 90, g 91, g 92, g 93, g 94, g 95, g 96, g 97, g 98, g 99, g 100, g 101, g 102, g 103, g 104, g 105]) ?_ _ _ _ _ ⟨0, .emp, [], u.2.1, rfl, under_me, Own.cast (Own.mono (hS7.addE (w := 5)) (le_lit (ν := ν) (a := [4, 0, 1, 1, 1, 1, 1]) (b := [1, 0, 1, 1, 1, 1, 1, 1]) (by decide))) (rfl), (⟨cPl.far0 _ _, by omega, fun x hx => by simp at hx⟩), env_g rfl⟩
          rintro ν1 mm ee H8 ⟨i, O, acc, rest, rfl, hU1, hS8, ⟨hF, hrs, hfa⟩, g1, rfl⟩
          refine XW_sr ?_
          refine OW_bin rfl rfl rfl rfl rfl ?_
          refine EZ106_CF14 rfl ?_
          refine XW_seq ?_
          refine XW_if rfl (fun h8 => ?_) (fun h8 => ?_)
          ·first
           |(exfalso; (try simp only [bs] at h8) <;> (first | (exact absurd rfl h8) | (exact h8 trivial) | omega | (simp at h8; done)); done)
           |skip
            try simp only [bs] at h8
            refine XW_skip ?_
            refine then_norm ?_
            refine XW_seq ?_
            refine XW_block ?_
            refine XW_sr ?_
            refine OW_as rfl rfl ?_
            refine EZ106_CF14 rfl ?_
            refine XW_seq ?_
            refine XW_sr ?_
            obtain ⟨l5, r5, b5, ht0, ht1, ht2, ht3⟩ := take5 rest
            have hal := hF.2.1; have hin := hF.1
            refine OW_mv rfl rfl ?_
            refine OW_fn rfl rfl (takeN_e (m := 5) (by omega) (by decide) ht0 ?_) 
            refine OW_mv rfl rfl ?_
            refine EN106_CF14 rfl ?_
            refine OW_ex rfl rfl rfl ?_
            refine OW_ex rfl rfl rfl ?_
            refine OW_ex rfl rfl rfl ?_
            refine EN106_CF14 rfl ?_
            refine OW_as rfl rfl ?_
            refine OW_as rfl rfl ?_
            refine OW_as rfl rfl ?_
            refine EZ106_CF14 rfl ?_
            refine XW_sr ?_
            refine OW_mv rfl rfl ?_
            refine OW_un rfl rfl rfl ?_
            refine EZ106_CF14 rfl ?_
            refine XW_if rfl (fun h11 => ?_) (fun h11 => ?_)
            ·first
             |(exfalso; (try simp only [bs] at h11) <;> (first | (exact absurd rfl h11) | (exact h11 trivial) | omega | (simp at h11; done)); done)
             |skip
              try simp only [bs] at h11
              refine XW_sr ?_
              refine OW_bd rfl rfl (v := .agg [_, _, _]) rfl ?_
              first
              | refine OW_storeR hS8 (k := 2) rfl (le_app (p := ν1) (b := [1, 0, 1, 1, 0, 1, 0, 1, 1, 0])) rfl rfl rfl rfl ⟨rfl, rfl, Nat.le_of_ble_eq_true rfl⟩ (set_whole rfl rfl) fun H9 hS9 => ?_
              | refine OW_storeR hS8 (k := 2) rfl (le_app (p := ν1) (b := [1, 0, 1, 1, 0, 1, 0, 1, 1, 0])) rfl rfl rfl rfl ⟨rfl, rfl, Nat.le_of_ble_eq_true rfl⟩ (u2 := .agg [_, _, _]) rfl fun H9 hS9 => ?_
              replace hS9 : Own _ _ _ ([_, _, _]) := hS9
              refine OW_as rfl rfl ?_
              refine EZ106_CF14 rfl ?_
              refine XW_ret ?_
              refine then_ret ?_
              refine block_ret ?_
              refine then_ret ?_
              refine block_ret ?_
              refine then_ret ?_
              -- outcome 5
              have fz0 := hS9.frz (k := 0) (n := 5) rfl (by first | exact map_plain (fun _ => rfl) | (intro x hx; simp at hx; done))
              refine ret_ret (res2 rfl (rv_cellR hS9 (k := 2) rfl rfl rfl rfl (by first | exact part_whole rfl rfl rfl | rfl)) (rv_tmp rfl)) (frz2 (Q := Q) (by first | exact freeze_plain rfl | exact Ls.freeze (by assumption) | exact Ls.freeze Ls.of | exact Ls.freeze Ls.emp | exact Ls.freeze Ls.nls | exact frA (frAc (by first | exact freeze_plain rfl | assumption | exact Ls.freeze Ls.of | exact Ls.freeze Ls.emp | exact Ls.freeze Ls.nls | exact Ls.freeze (by assumption)) (frAc (by first | exact freeze_plain rfl | assumption | exact Ls.freeze Ls.of | exact Ls.freeze Ls.emp | exact Ls.freeze Ls.nls | exact Ls.freeze (by assumption)) (frAc (by first | exact freeze_plain rfl | assumption | exact Ls.freeze Ls.of | exact Ls.freeze Ls.emp | exact Ls.freeze Ls.nls | exact Ls.freeze (by assumption)) frAn)))) (by first | exact freeze_plain rfl | exact Ls.freeze (by assumption) | exact Ls.freeze Ls.of | exact Ls.freeze Ls.emp | exact Ls.freeze Ls.nls) ?_)
              first | (rw [hif ⟨by assumption, by assumption, by assumption, by omega⟩ (Cod.far_none hF (by omega) (ht2 (by assumption)))] at hq; exact hq) | (rw [hif ⟨by assumption, by assumption, by assumption, by omega⟩ (Cod.far_end hF (by omega))] at hq; first | (rw [finC_yes ⟨by assumption, by assumption, by assumption⟩] at hq; exact hq) | (rw [finC_no (by rintro ⟨e1, e2, e3⟩; (simp_all; done))] at hq; exact hq))
            ·first
             |(exfalso; (try simp only [bs] at h11) <;> (first | (exact absurd rfl h11) | (exact h11 trivial) | omega | (simp at h11; done)); done)
             |skip
              try simp only [bs] at h11
              obtain ⟨p, rfl, hp, hpf⟩ := ht3 (by assumption)
              refine XW_skip ?_
              refine then_norm ?_
              refine XW_region ?_
              refine OW_fa rfl rfl rfl ?_
              refine OW_loadR hS8 (k := 1) rfl rfl rfl rfl rfl (by first | exact part_whole rfl rfl rfl | rfl) ?_
              refine OW_mv rfl rfl ?_
              refine EN106_CF14 rfl ?_
              first
              | refine OW_iaL rfl rfl rfl Ls.of rfl rfl rfl (by first | rfl | exact (Int.toNat_of_nonneg (by omega)).symm) (by first | assumption | exact at_map (by first | assumption | omega) | exact at_lst (by omega) | rfl) rfl ?_
              | refine OW_iaL rfl rfl rfl (by assumption) rfl rfl rfl (by first | rfl | exact (Int.toNat_of_nonneg (by omega)).symm) (by first | assumption | exact at_map (by first | assumption | omega) | exact at_lst (by omega) | rfl) rfl ?_
              refine OW_loadE rfl rfl rfl (by first | exact part_whole rfl rfl rfl | rfl) ?_
              refine OW_mv rfl rfl ?_
              refine EN106_CF14 rfl ?_
              first
              | refine OW_iaL rfl rfl rfl Ls.of rfl rfl rfl (by first | rfl | exact (Int.toNat_of_nonneg (by omega)).symm) (by first | assumption | exact at_map (by first | assumption | omega) | exact at_lst (by omega) | rfl) rfl ?_
              | refine OW_iaL rfl rfl rfl (by assumption) rfl rfl rfl (by first | rfl | exact (Int.toNat_of_nonneg (by omega)).symm) (by first | assumption | exact at_map (by first | assumption | omega) | exact at_lst (by omega) | rfl) rfl ?_
              refine OW_loadE rfl rfl rfl (by first | exact part_whole rfl rfl rfl | rfl) ?_
              refine OW_mv rfl rfl ?_
              refine EN106_CF14 rfl ?_
              first
              | refine OW_iaL rfl rfl rfl Ls.of rfl rfl rfl (by first | rfl | exact (Int.toNat_of_nonneg (by omega)).symm) (by first | assumption | exact at_map (by first | assumption | omega) | exact at_lst (by omega) | rfl) rfl ?_
              | refine OW_iaL rfl rfl rfl (by assumption) rfl rfl rfl (by first | rfl | exact (Int.toNat_of_nonneg (by omega)).symm) (by first | assumption | exact at_map (by first | assumption | omega) | exact at_lst (by omega) | rfl) rfl ?_
              refine OW_loadE rfl rfl rfl (by first | exact part_whole rfl rfl rfl | rfl) ?_
              refine OW_mv rfl rfl ?_
              refine EN106_CF14 rfl ?_
              first
              | refine OW_iaL rfl rfl rfl Ls.of rfl rfl rfl (by first | rfl | exact (Int.toNat_of_nonneg (by omega)).symm) (by first | assumption | exact at_map (by first | assumption | omega) | exact at_lst (by omega) | rfl) rfl ?_
              | refine OW_iaL rfl rfl rfl (by assumption) rfl rfl rfl (by first | rfl | exact (Int.toNat_of_nonneg (by omega)).symm) (by first | assumption | exact at_map (by first | assumption | omega) | exact at_lst (by omega) | rfl) rfl ?_
              refine OW_loadE rfl rfl rfl (by first | exact part_whole rfl rfl rfl | rfl) ?_
              refine OW_mv rfl rfl ?_
              refine EN106_CF14 rfl ?_
              first
              | refine OW_iaL rfl rfl rfl Ls.of rfl rfl rfl (by first | rfl | exact (Int.toNat_of_nonneg (by omega)).symm) (by first | assumption | exact at_map (by first | assumption | omega) | exact at_lst (by omega) | rfl) rfl ?_
              | refine OW_iaL rfl rfl rfl (by assumption) rfl rfl rfl (by first | rfl | exact (Int.toNat_of_nonneg (by omega)).symm) (by first | assumption | exact at_map (by first | assumption | omega) | exact at_lst (by omega) | rfl) rfl ?_
              refine OW_loadE rfl rfl rfl (by first | exact part_whole rfl rfl rfl | rfl) ?_
              refine OW_bd rfl rfl (v := .agg [_, _, _, _, _]) rfl ?_
              refine EN106_CF14 rfl ?_
              refine OW_bs rfl rfl (v := .lst [_]) rfl ?_
              refine OW_app hS8 (k := 0) rfl (le_app (p := ν1) (b := [19, 1, 1, 0, 1, 1, 0])) (under_app [19, 1, 1, 0, 1, 1, 0] (under_trans (under_app [1, 0, 1, 1, 1, 1, 1, 1] under_me) hU1)) rfl rfl rfl rfl rfl rfl rfl rfl (by first | rfl | exact Ls.elems (by assumption)) (by first | exact one_wide rfl | exact map_wide (fun _ => rfl) | assumption | (intro y hy; simp at hy; done)) (by first | omega | (simp only [ss]; omega) | (simp; omega)) (by decide) fun O1 H10 hS10 => ?_
              replace hS10 : Own _ _ _ ([_, _, _]) := hS10
              refine OW_fa rfl rfl rfl ?_
              refine EN106_CF14 rfl ?_
              refine OW_storeC hS10 (k := 1) rfl (le_lit (ν := ν1) (a := [20, 1, 1, 0, 1, 1, 0]) (b := [21, 1, 1, 0, 1, 1, 0]) (by decide)) rfl rfl rfl (hS10.one (k := 0) rfl) rfl rfl (Nat.le_of_ble_eq_true rfl) (u2 := .agg [_, _, _]) rfl fun H11 hS11 => ?_
              replace hS11 : Own _ _ _ ([_, _, _]) := hS11
              refine EZ106_CF14 rfl ?_
              refine block_norm ?_
              refine then_norm ?_
              refine XW_region ?_
              first
              | refine OW_bin rfl rfl rfl rfl (add_wu64 (by first | omega | assumption | (simp only [ss]; omega))) ?_
              | refine OW_bin rfl rfl rfl rfl rfl ?_
              refine OW_mv rfl rfl ?_
              refine EZ106_CF14 rfl ?_
              -- round 0.1
              refine ⟨_, ?_, i + 1, O1, acc ++ [p], r5, rfl, under_in hU1, Own.cast (Own.mono (hS11) (le_lit (ν := ν1) (a := [22, 1, 1, 0, 1, 1, 0]) (b := [1]) (by decide))) (by rw [List.map_append]; rfl), ?_, env_g rfl⟩
              · first | omega | (simp; omega)
              · exact ⟨Cod.far_step hF (by omega) hp, by omega, fun x hx => (List.mem_append.1 hx).elim (hfa x) (fun h => by rw [List.mem_singleton.1 h]; exact hpf)⟩
          ·first
           |(exfalso; (try simp only [bs] at h8) <;> (first | (exact absurd rfl h8) | (exact h8 trivial) | omega | (simp at h8; done)); done)
           |skip
            try simp only [bs] at h8
            refine XW_exit ?_
            refine then_exit ?_
            refine block_exit ?_
            refine then_norm ?_
            refine XW_seq ?_
            refine XW_sr ?_
            have hal := hF.2.1; have hin := hF.1
            have y1 := resU_size rest; have y2 := resU_i rest
            refine OW_mv rfl rfl ?_
            refine OW_fn rfl rfl (takeU_c (by omega) ?_) 
            refine OW_mv rfl rfl ?_
            refine EN106_CF14 rfl ?_
            refine OW_ex rfl rfl rfl ?_
            refine OW_ex rfl rfl rfl ?_
            refine OW_ex rfl rfl rfl ?_
            refine EN106_CF14 rfl ?_
            refine OW_fa rfl rfl rfl ?_
            refine OW_storeR hS8 (k := 1) rfl (le_bef (bef_under (a := []) hU1 (before_lit (ν := ν) (a := [1, 0, 1, 1, 1, 1, 1, 1]) (b := [7, 0, 0, 1, 1, 1, 1, 1, 1, 1]) (by decide)))) rfl rfl rfl rfl ⟨rfl, rfl, Nat.le_of_ble_eq_true rfl⟩ (u2 := .agg [_, _, _]) rfl fun H12 hS12 => ?_
            replace hS12 : Own _ _ _ ([_, _, _]) := hS12
            refine OW_as rfl rfl ?_
            refine EN106_CF14 rfl ?_
            refine OW_as rfl rfl ?_
            refine EZ106_CF14 rfl ?_
            refine XW_sr ?_
            refine OW_mv rfl rfl ?_
            refine OW_un rfl rfl rfl ?_
            refine OW_mv rfl rfl ?_
            refine EN106_CF14 rfl ?_
            refine OW_split (tt := 94) rfl (fun g16_3 => ?_) (fun g16_3 => ?_)
            ·first
             |(exfalso; (try simp only [bs] at g16_3) <;> (first | (exact absurd rfl g16_3) | (exact g16_3 trivial) | omega | (simp at g16_3; done)); done)
             |skip
              try simp only [bs] at g16_3
              refine OW_no rfl ?_
              refine OW_no rfl ?_
              refine EN106_CF14 rfl ?_
              refine OW_pick rfl rfl rfl ?_
              refine OW_mv rfl rfl ?_
              refine OW_no rfl ?_
              refine EN106_CF14 rfl ?_
              refine OW_no rfl ?_
              refine OW_no rfl ?_
              refine OW_no rfl ?_
              refine EN106_CF14 rfl ?_
              refine OW_pick rfl rfl rfl ?_
              refine EZ106_CF14 rfl ?_
              refine XW_yes rfl rfl ?_
              refine XW_sr ?_
              refine OW_bd rfl rfl (v := .agg [_, _, _]) rfl ?_
              first
              | refine OW_storeR hS12 (k := 2) rfl (le_lit (ν := ν) (a := [8, 0, 0, 1, 1, 1, 1, 1, 1, 1]) (b := [1, 0, 1, 1, 0, 1, 1, 1, 1, 1, 1, 1]) (by decide)) rfl rfl rfl rfl ⟨rfl, rfl, Nat.le_of_ble_eq_true rfl⟩ (set_whole rfl rfl) fun H13 hS13 => ?_
              | refine OW_storeR hS12 (k := 2) rfl (le_lit (ν := ν) (a := [8, 0, 0, 1, 1, 1, 1, 1, 1, 1]) (b := [1, 0, 1, 1, 0, 1, 1, 1, 1, 1, 1, 1]) (by decide)) rfl rfl rfl rfl ⟨rfl, rfl, Nat.le_of_ble_eq_true rfl⟩ (u2 := .agg [_, _, _]) rfl fun H13 hS13 => ?_
              replace hS13 : Own _ _ _ ([_, _, _]) := hS13
              refine OW_as rfl rfl ?_
              refine EZ106_CF14 rfl ?_
              refine XW_ret ?_
              refine then_ret ?_
              -- outcome 6
              have fz0 := hS13.frz (k := 0) (n := 5) rfl (by first | exact map_plain (fun _ => rfl) | (intro x hx; simp at hx; done))
              refine ret_ret (res2 rfl (rv_cellR hS13 (k := 2) rfl rfl rfl rfl (by first | exact part_whole rfl rfl rfl | rfl)) (rv_tmp rfl)) (frz2 (Q := Q) (by first | exact freeze_plain rfl | exact Ls.freeze (by assumption) | exact Ls.freeze Ls.of | exact Ls.freeze Ls.emp | exact Ls.freeze Ls.nls | exact frA (frAc (by first | exact freeze_plain rfl | assumption | exact Ls.freeze Ls.of | exact Ls.freeze Ls.emp | exact Ls.freeze Ls.nls | exact Ls.freeze (by assumption)) (frAc (by first | exact freeze_plain rfl | assumption | exact Ls.freeze Ls.of | exact Ls.freeze Ls.emp | exact Ls.freeze Ls.nls | exact Ls.freeze (by assumption)) (frAc (by first | exact freeze_plain rfl | assumption | exact Ls.freeze Ls.of | exact Ls.freeze Ls.emp | exact Ls.freeze Ls.nls | exact Ls.freeze (by assumption)) frAn)))) (by first | exact freeze_plain rfl | exact Ls.freeze (by assumption) | exact Ls.freeze Ls.of | exact Ls.freeze Ls.emp | exact Ls.freeze Ls.nls) ?_)
              first | (rw [hif ⟨by assumption, by assumption, by assumption, by omega⟩ (Cod.far_none hF (by omega) (ht2 (by assumption)))] at hq; exact hq) | (rw [hif ⟨by assumption, by assumption, by assumption, by omega⟩ (Cod.far_end hF (by omega))] at hq; first | (rw [finC_yes ⟨by assumption, by assumption, by assumption⟩] at hq; exact hq) | (rw [finC_no (by rintro ⟨e1, e2, e3⟩; (simp_all; done))] at hq; exact hq))
            ·first
             |(exfalso; (try simp only [bs] at g16_3) <;> (first | (exact absurd rfl g16_3) | (exact g16_3 trivial) | omega | (simp at g16_3; done)); done)
             |skip
              try simp only [bs] at g16_3
              refine OW_mv rfl rfl ?_
              refine OW_bin rfl rfl rfl rfl rfl ?_
              refine EN106_CF14 rfl ?_
              refine OW_pick rfl rfl rfl ?_
              refine OW_mv rfl rfl ?_
              refine OW_split (tt := 98) rfl (fun g16_7 => ?_) (fun g16_7 => ?_)
              ·first
               |(exfalso; (try simp only [bs] at g16_7) <;> (first | (exact absurd rfl g16_7) | (exact g16_7 trivial) | omega | (simp at g16_7; done)); done)
               |skip
                try simp only [bs] at g16_7
                refine EN106_CF14 rfl ?_
                refine OW_no rfl ?_
                refine OW_no rfl ?_
                refine OW_no rfl ?_
                refine EN106_CF14 rfl ?_
                refine OW_no rfl ?_
                refine OW_pick rfl rfl rfl ?_
                refine EZ106_CF14 rfl ?_
                refine XW_yes rfl rfl ?_
                refine XW_sr ?_
                refine OW_bd rfl rfl (v := .agg [_, _, _]) rfl ?_
                first
                | refine OW_storeR hS12 (k := 2) rfl (le_lit (ν := ν) (a := [8, 0, 0, 1, 1, 1, 1, 1, 1, 1]) (b := [1, 0, 1, 1, 0, 1, 1, 1, 1, 1, 1, 1]) (by decide)) rfl rfl rfl rfl ⟨rfl, rfl, Nat.le_of_ble_eq_true rfl⟩ (set_whole rfl rfl) fun H14 hS14 => ?_
                | refine OW_storeR hS12 (k := 2) rfl (le_lit (ν := ν) (a := [8, 0, 0, 1, 1, 1, 1, 1, 1, 1]) (b := [1, 0, 1, 1, 0, 1, 1, 1, 1, 1, 1, 1]) (by decide)) rfl rfl rfl rfl ⟨rfl, rfl, Nat.le_of_ble_eq_true rfl⟩ (u2 := .agg [_, _, _]) rfl fun H14 hS14 => ?_
                replace hS14 : Own _ _ _ ([_, _, _]) := hS14
                refine OW_as rfl rfl ?_
                refine EZ106_CF14 rfl ?_
                refine XW_ret ?_
                refine then_ret ?_
                -- outcome 7
                have fz0 := hS14.frz (k := 0) (n := 5) rfl (by first | exact map_plain (fun _ => rfl) | (intro x hx; simp at hx; done))
                refine ret_ret (res2 rfl (rv_cellR hS14 (k := 2) rfl rfl rfl rfl (by first | exact part_whole rfl rfl rfl | rfl)) (rv_tmp rfl)) (frz2 (Q := Q) (by first | exact freeze_plain rfl | exact Ls.freeze (by assumption) | exact Ls.freeze Ls.of | exact Ls.freeze Ls.emp | exact Ls.freeze Ls.nls | exact frA (frAc (by first | exact freeze_plain rfl | assumption | exact Ls.freeze Ls.of | exact Ls.freeze Ls.emp | exact Ls.freeze Ls.nls | exact Ls.freeze (by assumption)) (frAc (by first | exact freeze_plain rfl | assumption | exact Ls.freeze Ls.of | exact Ls.freeze Ls.emp | exact Ls.freeze Ls.nls | exact Ls.freeze (by assumption)) (frAc (by first | exact freeze_plain rfl | assumption | exact Ls.freeze Ls.of | exact Ls.freeze Ls.emp | exact Ls.freeze Ls.nls | exact Ls.freeze (by assumption)) frAn)))) (by first | exact freeze_plain rfl | exact Ls.freeze (by assumption) | exact Ls.freeze Ls.of | exact Ls.freeze Ls.emp | exact Ls.freeze Ls.nls) ?_)
                first | (rw [hif ⟨by assumption, by assumption, by assumption, by omega⟩ (Cod.far_none hF (by omega) (ht2 (by assumption)))] at hq; exact hq) | (rw [hif ⟨by assumption, by assumption, by assumption, by omega⟩ (Cod.far_end hF (by omega))] at hq; first | (rw [finC_yes ⟨by assumption, by assumption, by assumption⟩] at hq; exact hq) | (rw [finC_no (by rintro ⟨e1, e2, e3⟩; (simp_all; done))] at hq; exact hq))
              ·first
               |(exfalso; (try simp only [bs] at g16_7) <;> (first | (exact absurd rfl g16_7) | (exact g16_7 trivial) | omega | (simp at g16_7; done)); done)
               |skip
                try simp only [bs] at g16_7
                refine EN106_CF14 rfl ?_
                refine OW_loadR hS12 (k := 1) rfl rfl rfl rfl rfl (by first | exact part_whole rfl rfl rfl | rfl) ?_
                refine OW_mv rfl rfl ?_
                refine OW_fn rfl rfl (cf_check (c := ⟨b.1, acc, (resU rest).1⟩) (frC (c := ⟨b.1, acc, (resU rest).1⟩) (Ls.freeze Ls.of) (hS12.freeze0 (k := 0) rfl (map_plain (fun _ => rfl)))) ⟨s6, hfa, y2, by show b.1.length ≤ _; omega, by show acc.length ≤ _; omega⟩ ?_) 
                refine EN106_CF14 rfl ?_
                refine OW_un rfl rfl rfl ?_
                refine OW_pick rfl rfl rfl ?_
                refine EZ106_CF14 rfl ?_
                refine XW_if rfl (fun h16 => ?_) (fun h16 => ?_)
                ·first
                 |(exfalso; (try simp only [bs] at h16) <;> (first | (exact absurd rfl h16) | (exact h16 trivial) | omega | (simp at h16; done)); done)
                 |skip
                  try simp only [bs] at h16
                  refine XW_sr ?_
                  refine OW_bd rfl rfl (v := .agg [_, _, _]) rfl ?_
                  first
                  | refine OW_storeR hS12 (k := 2) rfl (le_lit (ν := ν) (a := [8, 0, 0, 1, 1, 1, 1, 1, 1, 1]) (b := [1, 0, 1, 1, 0, 1, 1, 1, 1, 1, 1, 1]) (by decide)) rfl rfl rfl rfl ⟨rfl, rfl, Nat.le_of_ble_eq_true rfl⟩ (set_whole rfl rfl) fun H15 hS15 => ?_
                  | refine OW_storeR hS12 (k := 2) rfl (le_lit (ν := ν) (a := [8, 0, 0, 1, 1, 1, 1, 1, 1, 1]) (b := [1, 0, 1, 1, 0, 1, 1, 1, 1, 1, 1, 1]) (by decide)) rfl rfl rfl rfl ⟨rfl, rfl, Nat.le_of_ble_eq_true rfl⟩ (u2 := .agg [_, _, _]) rfl fun H15 hS15 => ?_
                  replace hS15 : Own _ _ _ ([_, _, _]) := hS15
                  refine OW_as rfl rfl ?_
                  refine EZ106_CF14 rfl ?_
                  refine XW_ret ?_
                  refine then_ret ?_
                  -- outcome 8
                  have fz0 := hS15.frz (k := 0) (n := 5) rfl (by first | exact map_plain (fun _ => rfl) | (intro x hx; simp at hx; done))
                  refine ret_ret (res2 rfl (rv_cellR hS15 (k := 2) rfl rfl rfl rfl (by first | exact part_whole rfl rfl rfl | rfl)) (rv_tmp rfl)) (frz2 (Q := Q) (by first | exact freeze_plain rfl | exact Ls.freeze (by assumption) | exact Ls.freeze Ls.of | exact Ls.freeze Ls.emp | exact Ls.freeze Ls.nls | exact frA (frAc (by first | exact freeze_plain rfl | assumption | exact Ls.freeze Ls.of | exact Ls.freeze Ls.emp | exact Ls.freeze Ls.nls | exact Ls.freeze (by assumption)) (frAc (by first | exact freeze_plain rfl | assumption | exact Ls.freeze Ls.of | exact Ls.freeze Ls.emp | exact Ls.freeze Ls.nls | exact Ls.freeze (by assumption)) (frAc (by first | exact freeze_plain rfl | assumption | exact Ls.freeze Ls.of | exact Ls.freeze Ls.emp | exact Ls.freeze Ls.nls | exact Ls.freeze (by assumption)) frAn)))) (by first | exact freeze_plain rfl | exact Ls.freeze (by assumption) | exact Ls.freeze Ls.of | exact Ls.freeze Ls.emp | exact Ls.freeze Ls.nls) ?_)
                  first | (rw [hif ⟨by assumption, by assumption, by assumption, by omega⟩ (Cod.far_none hF (by omega) (ht2 (by assumption)))] at hq; exact hq) | (rw [hif ⟨by assumption, by assumption, by assumption, by omega⟩ (Cod.far_end hF (by omega))] at hq; first | (rw [finC_yes ⟨by assumption, by assumption, by assumption⟩] at hq; exact hq) | (rw [finC_no (by rintro ⟨e1, e2, e3⟩; (simp_all; done))] at hq; exact hq))
                ·first
                 |(exfalso; (try simp only [bs] at h16) <;> (first | (exact absurd rfl h16) | (exact h16 trivial) | omega | (simp at h16; done)); done)
                 |skip
                  try simp only [bs] at h16
                  refine XW_skip ?_
                  refine then_norm ?_
                  refine XW_sr ?_
                  refine OW_loadR hS12 (k := 1) rfl rfl rfl rfl rfl (by first | exact part_whole rfl rfl rfl | rfl) ?_
                  first
                  | refine OW_storeR hS12 (k := 2) rfl (le_lit (ν := ν) (a := [8, 0, 0, 1, 1, 1, 1, 1, 1, 1]) (b := [1, 0, 1, 1, 1, 1, 1, 1, 1, 1]) (by decide)) rfl rfl rfl rfl ⟨rfl, rfl, Nat.le_of_ble_eq_true rfl⟩ (set_whole rfl rfl) fun H16 hS16 => ?_
                  | refine OW_storeR hS12 (k := 2) rfl (le_lit (ν := ν) (a := [8, 0, 0, 1, 1, 1, 1, 1, 1, 1]) (b := [1, 0, 1, 1, 1, 1, 1, 1, 1, 1]) (by decide)) rfl rfl rfl rfl ⟨rfl, rfl, Nat.le_of_ble_eq_true rfl⟩ (u2 := .agg [_, _, _]) rfl fun H16 hS16 => ?_
                  replace hS16 : Own _ _ _ ([_, _, _]) := hS16
                  refine OW_as rfl rfl ?_
                  refine EZ106_CF14 rfl ?_
                  refine XW_ret ?_
                  -- outcome 9
                  have fz0 := hS16.frz (k := 0) (n := 5) rfl (by first | exact map_plain (fun _ => rfl) | (intro x hx; simp at hx; done))
                  refine ret_ret (res2 rfl (rv_cellR hS16 (k := 2) rfl rfl rfl rfl (by first | exact part_whole rfl rfl rfl | rfl)) (rv_tmp rfl)) (frz2 (Q := Q) (by first | exact freeze_plain rfl | exact Ls.freeze (by assumption) | exact Ls.freeze Ls.of | exact Ls.freeze Ls.emp | exact Ls.freeze Ls.nls | exact frA (frAc (by first | exact freeze_plain rfl | assumption | exact Ls.freeze Ls.of | exact Ls.freeze Ls.emp | exact Ls.freeze Ls.nls | exact Ls.freeze (by assumption)) (frAc (by first | exact freeze_plain rfl | assumption | exact Ls.freeze Ls.of | exact Ls.freeze Ls.emp | exact Ls.freeze Ls.nls | exact Ls.freeze (by assumption)) (frAc (by first | exact freeze_plain rfl | assumption | exact Ls.freeze Ls.of | exact Ls.freeze Ls.emp | exact Ls.freeze Ls.nls | exact Ls.freeze (by assumption)) frAn)))) (by first | exact freeze_plain rfl | exact Ls.freeze (by assumption) | exact Ls.freeze Ls.of | exact Ls.freeze Ls.emp | exact Ls.freeze Ls.nls) ?_)
                  first | (rw [hif ⟨by assumption, by assumption, by assumption, by omega⟩ (Cod.far_none hF (by omega) (ht2 (by assumption)))] at hq; exact hq) | (rw [hif ⟨by assumption, by assumption, by assumption, by omega⟩ (Cod.far_end hF (by omega))] at hq; first | (rw [finC_yes ⟨by assumption, by assumption, by assumption⟩] at hq; exact hq) | (rw [finC_no (by rintro ⟨e1, e2, e3⟩; (simp_all; done))] at hq; exact hq))
theorem r_parseC {s : ByteArray} (hs : s.size ≤ 4611686018427387904) (hq : Q (tupC (resC s gs)) H) : CW cfg ν 26 [.str s, .int .i64 gs] H Q := by
  have s1 := resT_1 (s.size : Int) s
  have s2 := resT_size (s.size : Int) s
  have s3 := resU_size (resT (s.size : Int) s).2.1
  have s4 := resU_i (resT (s.size : Int) s).2.1
  have s5 := resP_len (resT (s.size : Int) s).1
  have s6 := resP_fit (resT (s.size : Int) s).1
  have hno := @resC_no gs s
  have hif := @resC_if gs s
  obtain ⟨a, ha⟩ : ∃ a, resT (s.size : Int) s = a := ⟨_, rfl⟩
  rw [ha] at s1 s2 s3 s4 s5 s6 hno hif
  obtain ⟨b, hb⟩ : ∃ b, resP a.1 = b := ⟨_, rfl⟩
  rw [hb] at s5 s6 hno hif
  obtain ⟨u, hu⟩ : ∃ u, resU a.2.1 = u := ⟨_, rfl⟩
  rw [hu] at s3 s4 hno hif
  refine CW_pure g26 F26 rfl ?_
  have hS0 : Own ν ν (fun _ => none) [] := Own.nil
  refine XW_sr ?_
  refine OW_allocR hS0 (le_app (p := ν) (b := [0, 0])) (under_app [0, 0] under_me) rfl rfl rfl rfl fun H1 hS1 => ?_
  replace hS1 : Own _ _ _ ([_]) := hS1
  refine OW_as rfl rfl ?_
  refine EZ116_CF14 rfl ?_
  refine XW_sr ?_
  refine OW_mv rfl rfl ?_
  refine OW_mv rfl rfl ?_
  refine OW_lenS rfl rfl rfl ?_
  refine EN116_CF14 rfl ?_
  refine OW_fn rfl rfl (rtakeT_c (by omega) (by omega) ?_) 
  rw [ha]
  refine OW_mv rfl rfl ?_
  refine OW_ex rfl rfl rfl ?_
  refine EN116_CF14 rfl ?_
  refine OW_ex rfl rfl rfl ?_
  refine OW_ex rfl rfl rfl ?_
  refine OW_as rfl rfl ?_
  refine EN116_CF14 rfl ?_
  refine OW_as rfl rfl ?_
  refine OW_as rfl rfl ?_
  refine EZ116_CF14 rfl ?_
  refine XW_sr ?_
  refine OW_mv rfl rfl ?_
  refine OW_fn rfl rfl (r_parse (by omega) ?_) 
  rw [hb]
  refine OW_mv rfl rfl ?_
  refine EN116_CF14 rfl ?_
  refine OW_ex rfl rfl rfl ?_
  refine OW_ex rfl rfl rfl ?_
  refine OW_as rfl rfl ?_
  refine EN116_CF14 rfl ?_
  refine OW_as rfl rfl ?_
  refine EZ116_CF14 rfl ?_
  refine XW_sr ?_
  refine OW_mv rfl rfl ?_
  refine OW_fn rfl rfl (rtakeU (by omega) ?_) 
  rw [hu]
  refine OW_mv rfl rfl ?_
  refine EN116_CF14 rfl ?_
  refine OW_ex rfl rfl rfl ?_
  refine OW_ex rfl rfl rfl ?_
  refine OW_ex rfl rfl rfl ?_
  refine EN116_CF14 rfl ?_
  refine OW_as rfl rfl ?_
  refine OW_as rfl rfl ?_
  refine OW_as rfl rfl ?_
  refine EZ116_CF14 rfl ?_
  refine XW_seq ?_
  refine XW_sr ?_
  refine OW_mv rfl rfl ?_
  refine OW_un rfl rfl rfl ?_
  refine OW_mv rfl rfl ?_
  refine EN116_CF14 rfl ?_
  refine OW_split (tt := 43) rfl (fun g4_3 => ?_) (fun g4_3 => ?_)
  ·first
   |(exfalso; (try simp only [bs] at g4_3) <;> (first | (exact absurd rfl g4_3) | (exact g4_3 trivial) | omega | (simp at g4_3; done)); done)
   |skip
    try simp only [bs] at g4_3
    refine OW_no rfl ?_
    refine OW_no rfl ?_
    refine EN116_CF14 rfl ?_
    refine OW_pick rfl rfl rfl ?_
    refine OW_mv rfl rfl ?_
    refine OW_no rfl ?_
    refine EN116_CF14 rfl ?_
    refine OW_no rfl ?_
    refine OW_pick rfl rfl rfl ?_
    refine OW_mv rfl rfl ?_
    refine EN116_CF14 rfl ?_
    refine OW_no rfl ?_
    refine OW_no rfl ?_
    refine OW_pick rfl rfl rfl ?_
    refine EZ116_CF14 rfl ?_
    refine XW_yes rfl rfl ?_
    refine XW_sr ?_
    refine OW_bd rfl rfl (v := .agg [_, _, _]) rfl ?_
    first
    | refine OW_storeR hS1 (k := 0) rfl (le_lit (ν := ν) (a := [1, 0]) (b := [1, 0, 1, 0, 1, 1, 1, 1]) (by decide)) rfl rfl rfl rfl ⟨rfl, rfl, Nat.le_of_ble_eq_true rfl⟩ (set_whole rfl rfl) fun H2 hS2 => ?_
    | refine OW_storeR hS1 (k := 0) rfl (le_lit (ν := ν) (a := [1, 0]) (b := [1, 0, 1, 0, 1, 1, 1, 1]) (by decide)) rfl rfl rfl rfl ⟨rfl, rfl, Nat.le_of_ble_eq_true rfl⟩ (u2 := .agg [_, _, _]) rfl fun H2 hS2 => ?_
    replace hS2 : Own _ _ _ ([_]) := hS2
    refine OW_as rfl rfl ?_
    refine EZ116_CF14 rfl ?_
    refine XW_ret ?_
    refine then_ret ?_
    -- outcome 1
    refine ret_ret (res2 rfl (rv_cellR hS2 (k := 0) rfl rfl rfl rfl (by first | exact part_whole rfl rfl rfl | rfl)) (rv_tmp rfl)) (frz2 (Q := Q) (by first | exact freeze_plain rfl | exact Ls.freeze (by assumption) | exact Ls.freeze Ls.of | exact Ls.freeze Ls.emp | exact Ls.freeze Ls.nls | exact frA (frAc (by first | exact freeze_plain rfl | assumption | exact Ls.freeze Ls.of | exact Ls.freeze Ls.emp | exact Ls.freeze Ls.nls | exact Ls.freeze (by assumption)) (frAc (by first | exact freeze_plain rfl | assumption | exact Ls.freeze Ls.of | exact Ls.freeze Ls.emp | exact Ls.freeze Ls.nls | exact Ls.freeze (by assumption)) (frAc (by first | exact freeze_plain rfl | assumption | exact Ls.freeze Ls.of | exact Ls.freeze Ls.emp | exact Ls.freeze Ls.nls | exact Ls.freeze (by assumption)) frAn)))) (by first | exact freeze_plain rfl | exact Ls.freeze (by assumption) | exact Ls.freeze Ls.of | exact Ls.freeze Ls.emp | exact Ls.freeze Ls.nls) ?_)
    rw [hno (by rintro ⟨e1, e2, e3, e4⟩; first | omega | (simp_all; done))] at hq; exact hq
  ·first
   |(exfalso; (try simp only [bs] at g4_3) <;> (first | (exact absurd rfl g4_3) | (exact g4_3 trivial) | omega | (simp at g4_3; done)); done)
   |skip
    try simp only [bs] at g4_3
    refine OW_mv rfl rfl ?_
    refine OW_un rfl rfl rfl ?_
    refine EN116_CF14 rfl ?_
    refine OW_pick rfl rfl rfl ?_
    refine OW_mv rfl rfl ?_
    refine OW_split (tt := 47) rfl (fun g4_7 => ?_) (fun g4_7 => ?_)
    ·first
     |(exfalso; (try simp only [bs] at g4_7) <;> (first | (exact absurd rfl g4_7) | (exact g4_7 trivial) | omega | (simp at g4_7; done)); done)
     |skip
      try simp only [bs] at g4_7
      refine EN116_CF14 rfl ?_
      refine OW_no rfl ?_
      refine OW_no rfl ?_
      refine OW_pick rfl rfl rfl ?_
      refine EN116_CF14 rfl ?_
      refine OW_mv rfl rfl ?_
      refine OW_no rfl ?_
      refine OW_no rfl ?_
      refine EN116_CF14 rfl ?_
      refine OW_pick rfl rfl rfl ?_
      refine EZ116_CF14 rfl ?_
      refine XW_yes rfl rfl ?_
      refine XW_sr ?_
      refine OW_bd rfl rfl (v := .agg [_, _, _]) rfl ?_
      first
      | refine OW_storeR hS1 (k := 0) rfl (le_lit (ν := ν) (a := [1, 0]) (b := [1, 0, 1, 0, 1, 1, 1, 1]) (by decide)) rfl rfl rfl rfl ⟨rfl, rfl, Nat.le_of_ble_eq_true rfl⟩ (set_whole rfl rfl) fun H3 hS3 => ?_
      | refine OW_storeR hS1 (k := 0) rfl (le_lit (ν := ν) (a := [1, 0]) (b := [1, 0, 1, 0, 1, 1, 1, 1]) (by decide)) rfl rfl rfl rfl ⟨rfl, rfl, Nat.le_of_ble_eq_true rfl⟩ (u2 := .agg [_, _, _]) rfl fun H3 hS3 => ?_
      replace hS3 : Own _ _ _ ([_]) := hS3
      refine OW_as rfl rfl ?_
      refine EZ116_CF14 rfl ?_
      refine XW_ret ?_
      refine then_ret ?_
      -- outcome 2
      refine ret_ret (res2 rfl (rv_cellR hS3 (k := 0) rfl rfl rfl rfl (by first | exact part_whole rfl rfl rfl | rfl)) (rv_tmp rfl)) (frz2 (Q := Q) (by first | exact freeze_plain rfl | exact Ls.freeze (by assumption) | exact Ls.freeze Ls.of | exact Ls.freeze Ls.emp | exact Ls.freeze Ls.nls | exact frA (frAc (by first | exact freeze_plain rfl | assumption | exact Ls.freeze Ls.of | exact Ls.freeze Ls.emp | exact Ls.freeze Ls.nls | exact Ls.freeze (by assumption)) (frAc (by first | exact freeze_plain rfl | assumption | exact Ls.freeze Ls.of | exact Ls.freeze Ls.emp | exact Ls.freeze Ls.nls | exact Ls.freeze (by assumption)) (frAc (by first | exact freeze_plain rfl | assumption | exact Ls.freeze Ls.of | exact Ls.freeze Ls.emp | exact Ls.freeze Ls.nls | exact Ls.freeze (by assumption)) frAn)))) (by first | exact freeze_plain rfl | exact Ls.freeze (by assumption) | exact Ls.freeze Ls.of | exact Ls.freeze Ls.emp | exact Ls.freeze Ls.nls) ?_)
      rw [hno (by rintro ⟨e1, e2, e3, e4⟩; first | omega | (simp_all; done))] at hq; exact hq
    ·first
     |(exfalso; (try simp only [bs] at g4_7) <;> (first | (exact absurd rfl g4_7) | (exact g4_7 trivial) | omega | (simp at g4_7; done)); done)
     |skip
      try simp only [bs] at g4_7
      refine EN116_CF14 rfl ?_
      refine OW_mv rfl rfl ?_
      refine OW_un rfl rfl rfl ?_
      refine OW_pick rfl rfl rfl ?_
      refine EN116_CF14 rfl ?_
      refine OW_mv rfl rfl ?_
      refine OW_split (tt := 51) rfl (fun g4_11 => ?_) (fun g4_11 => ?_)
      ·first
       |(exfalso; (try simp only [bs] at g4_11) <;> (first | (exact absurd rfl g4_11) | (exact g4_11 trivial) | omega | (simp at g4_11; done)); done)
       |skip
        try simp only [bs] at g4_11
        refine OW_no rfl ?_
        refine EN116_CF14 rfl ?_
        refine OW_no rfl ?_
        refine OW_pick rfl rfl rfl ?_
        refine EZ116_CF14 rfl ?_
        refine XW_yes rfl rfl ?_
        refine XW_sr ?_
        refine OW_bd rfl rfl (v := .agg [_, _, _]) rfl ?_
        first
        | refine OW_storeR hS1 (k := 0) rfl (le_lit (ν := ν) (a := [1, 0]) (b := [1, 0, 1, 0, 1, 1, 1, 1]) (by decide)) rfl rfl rfl rfl ⟨rfl, rfl, Nat.le_of_ble_eq_true rfl⟩ (set_whole rfl rfl) fun H4 hS4 => ?_
        | refine OW_storeR hS1 (k := 0) rfl (le_lit (ν := ν) (a := [1, 0]) (b := [1, 0, 1, 0, 1, 1, 1, 1]) (by decide)) rfl rfl rfl rfl ⟨rfl, rfl, Nat.le_of_ble_eq_true rfl⟩ (u2 := .agg [_, _, _]) rfl fun H4 hS4 => ?_
        replace hS4 : Own _ _ _ ([_]) := hS4
        refine OW_as rfl rfl ?_
        refine EZ116_CF14 rfl ?_
        refine XW_ret ?_
        refine then_ret ?_
        -- outcome 3
        refine ret_ret (res2 rfl (rv_cellR hS4 (k := 0) rfl rfl rfl rfl (by first | exact part_whole rfl rfl rfl | rfl)) (rv_tmp rfl)) (frz2 (Q := Q) (by first | exact freeze_plain rfl | exact Ls.freeze (by assumption) | exact Ls.freeze Ls.of | exact Ls.freeze Ls.emp | exact Ls.freeze Ls.nls | exact frA (frAc (by first | exact freeze_plain rfl | assumption | exact Ls.freeze Ls.of | exact Ls.freeze Ls.emp | exact Ls.freeze Ls.nls | exact Ls.freeze (by assumption)) (frAc (by first | exact freeze_plain rfl | assumption | exact Ls.freeze Ls.of | exact Ls.freeze Ls.emp | exact Ls.freeze Ls.nls | exact Ls.freeze (by assumption)) (frAc (by first | exact freeze_plain rfl | assumption | exact Ls.freeze Ls.of | exact Ls.freeze Ls.emp | exact Ls.freeze Ls.nls | exact Ls.freeze (by assumption)) frAn)))) (by first | exact freeze_plain rfl | exact Ls.freeze (by assumption) | exact Ls.freeze Ls.of | exact Ls.freeze Ls.emp | exact Ls.freeze Ls.nls) ?_)
        rw [hno (by rintro ⟨e1, e2, e3, e4⟩; first | omega | (simp_all; done))] at hq; exact hq
      ·first
       |(exfalso; (try simp only [bs] at g4_11) <;> (first | (exact absurd rfl g4_11) | (exact g4_11 trivial) | omega | (simp at g4_11; done)); done)
       |skip
        try simp only [bs] at g4_11
        refine OW_mv rfl rfl ?_
        refine EN116_CF14 rfl ?_
        refine OW_bin rfl rfl rfl rfl rfl ?_
        refine OW_pick rfl rfl rfl ?_
        refine EZ116_CF14 rfl ?_
        refine XW_if rfl (fun h4 => ?_) (fun h4 => ?_)
        ·first
         |(exfalso; (try simp only [bs] at h4) <;> (first | (exact absurd rfl h4) | (exact h4 trivial) | omega | (simp at h4; done)); done)
         |skip
          try simp only [bs] at h4
          refine XW_sr ?_
          refine OW_bd rfl rfl (v := .agg [_, _, _]) rfl ?_
          first
          | refine OW_storeR hS1 (k := 0) rfl (le_lit (ν := ν) (a := [1, 0]) (b := [1, 0, 1, 0, 1, 1, 1, 1]) (by decide)) rfl rfl rfl rfl ⟨rfl, rfl, Nat.le_of_ble_eq_true rfl⟩ (set_whole rfl rfl) fun H5 hS5 => ?_
          | refine OW_storeR hS1 (k := 0) rfl (le_lit (ν := ν) (a := [1, 0]) (b := [1, 0, 1, 0, 1, 1, 1, 1]) (by decide)) rfl rfl rfl rfl ⟨rfl, rfl, Nat.le_of_ble_eq_true rfl⟩ (u2 := .agg [_, _, _]) rfl fun H5 hS5 => ?_
          replace hS5 : Own _ _ _ ([_]) := hS5
          refine OW_as rfl rfl ?_
          refine EZ116_CF14 rfl ?_
          refine XW_ret ?_
          refine then_ret ?_
          -- outcome 4
          refine ret_ret (res2 rfl (rv_cellR hS5 (k := 0) rfl rfl rfl rfl (by first | exact part_whole rfl rfl rfl | rfl)) (rv_tmp rfl)) (frz2 (Q := Q) (by first | exact freeze_plain rfl | exact Ls.freeze (by assumption) | exact Ls.freeze Ls.of | exact Ls.freeze Ls.emp | exact Ls.freeze Ls.nls | exact frA (frAc (by first | exact freeze_plain rfl | assumption | exact Ls.freeze Ls.of | exact Ls.freeze Ls.emp | exact Ls.freeze Ls.nls | exact Ls.freeze (by assumption)) (frAc (by first | exact freeze_plain rfl | assumption | exact Ls.freeze Ls.of | exact Ls.freeze Ls.emp | exact Ls.freeze Ls.nls | exact Ls.freeze (by assumption)) (frAc (by first | exact freeze_plain rfl | assumption | exact Ls.freeze Ls.of | exact Ls.freeze Ls.emp | exact Ls.freeze Ls.nls | exact Ls.freeze (by assumption)) frAn)))) (by first | exact freeze_plain rfl | exact Ls.freeze (by assumption) | exact Ls.freeze Ls.of | exact Ls.freeze Ls.emp | exact Ls.freeze Ls.nls) ?_)
          rw [hno (by rintro ⟨e1, e2, e3, e4⟩; first | omega | (simp_all; done))] at hq; exact hq
        ·first
         |(exfalso; (try simp only [bs] at h4) <;> (first | (exact absurd rfl h4) | (exact h4 trivial) | omega | (simp at h4; done)); done)
         |skip
          try simp only [bs] at h4
          refine XW_skip ?_
          refine then_norm ?_
          refine XW_sr ?_
          refine OW_mv rfl rfl ?_
          refine OW_bd rfl rfl (v := .agg [_, _, _]) rfl ?_
          refine OW_allocR hS1 (le_lit (ν := ν) (a := [1, 0]) (b := [2, 0, 1, 1, 1, 1, 1]) (by decide)) (under_app [2, 0, 1, 1, 1, 1, 1] under_me) rfl rfl rfl rfl fun H6 hS6 => ?_
          replace hS6 : Own _ _ _ ([_, _]) := hS6
          refine EN116_CF14 rfl ?_
          first
          | refine OW_storeR hS6 (k := 0) rfl le_refl rfl rfl rfl rfl ⟨rfl, rfl, Nat.le_of_ble_eq_true rfl⟩ (set_whole rfl rfl) fun H7 hS7 => ?_
          | refine OW_storeR hS6 (k := 0) rfl le_refl rfl rfl rfl rfl ⟨rfl, rfl, Nat.le_of_ble_eq_true rfl⟩ (u2 := .agg [_, _, _]) rfl fun H7 hS7 => ?_
          replace hS7 : Own _ _ _ ([_, _]) := hS7
          refine EZ116_CF14 rfl ?_
          refine XW_seq ?_
          refine XW_sr ?_
          refine OW_as rfl rfl ?_
          refine EZ116_CF14 rfl ?_
          refine XW_block ?_
          refine XW_whileN (I := fun ν' mm ee H' => ∃ (i : Nat) (O : AVal) (acc : List Pl) (rest : ByteArray), mm = u.1.toNat - i ∧ under (1 :: 0 :: 1 :: 1 :: 1 :: 1 :: 1 :: 1 :: ν) ν' = true ∧ Own ν ν' H' ([sl O 5 (acc.map Pl.enc), row (2 :: 0 :: 1 :: 1 :: 1 :: 1 :: 1 :: ν) 3 [.agg [.lst (b.1.map Qu.enc), O, .int .u64 0]], row (0 :: 0 :: ν) 3 [.agg [.emp, .emp, .int .u64 0]]]) ∧ (cPl.Far u.1.toNat u.2.1.data.toList i acc rest.data.toList ∧ rest.size ≤ s.size ∧ ∀ x ∈ acc, x.fit) ∧ ∃ g : Nat → AVal, ee = [g 0, .int .i64 gs, g 2, g 3, .ptr (0 :: 0 :: ν) 0 0, g 5, g 6, g 7, g 8, g 9, g 10, .int .u64 u.1, .str rest, g 13, .ptr (2 :: 0 :: 1 :: 1 :: 1 :: 1 :: 1 :: ν) 0 0, .int .u64 i, g 16, g 17, g 18, g 19, g 20, g 21, g 22, g 23, g 24, g 25, g 26, g 27, g 28, g 29, g 30, g 31, g 32, g 33, g 34, g 35, g 36, g 37, g 38, g 39, g 40, g 41, g 42, g 43, g 44, g 45, g 46, g 47, g 48, g 49, g 50, g 51, g 52, g 53, g 54, g 55, g 56, g 57, g 58, g 59, g 60, g 61, g 62, g 63, g 64, g 65, g 66, g 67, g 68, g 69, g 70, g 71, g 72, g 73, g 74, g 75, g 76, g 77, g 78, g 79, g 80, g 81, g 82, g 83, g 84, g 85, g 86, g 87, g 88, g 89, g 90, g 91, g 92, g 93, g 94, g 95, g 96, g 97, g 98, g 99, g 100, g 101, g 102, g 103, g 104, g 105, g 106, g 107, g 108, g 109, g 110, g 111, g 112, g 113, g 114, g 115]) ?_ _ _ _ _ ⟨0, .emp, [], u.2.1, rfl, under_me, Own.cast (Own.mono (hS7.addE (w := 5)) (le_lit (ν := ν) (a := [4, 0, 1, 1, 1, 1, 1]) (b := [1, 0, 1, 1, 1, 1, 1, 1]) (by decide))) (rfl), (⟨cPl.far0 _ _, by omega, fun x hx => by simp at hx⟩), env_g rfl⟩
          rintro ν1 mm ee H8 ⟨i, O, acc, rest, rfl, hU1, hS8, ⟨hF, hrs, hfa⟩, g1, rfl⟩
          refine XW_seq ?_
          refine XW_sr ?_
          refine OW_mv rfl rfl ?_
          refine OW_mv rfl rfl ?_
          refine OW_bin rfl rfl rfl rfl rfl ?_
          refine EZ116_CF14 rfl ?_
          refine XW_if rfl (fun h8 => ?_) (fun h8 => ?_)
          ·first
           |(exfalso; (try simp only [bs] at h8) <;> (first | (exact absurd rfl h8) | (exact h8 trivial) | omega | (simp at h8; done)); done)
           |skip
            try simp only [bs] at h8
            refine XW_skip ?_
            refine then_norm ?_
            refine XW_seq ?_
            refine XW_block ?_
            refine XW_sr ?_
            obtain ⟨l5, r5, b5, ht0, ht1, ht2, ht3⟩ := take5 rest
            have hal := hF.2.1; have hin := hF.1
            refine OW_mv rfl rfl ?_
            refine OW_fn rfl rfl (rnums_e (m := 5) (by omega) (by decide) ht0 ?_) 
            refine OW_mv rfl rfl ?_
            refine EN116_CF14 rfl ?_
            refine OW_ex rfl rfl rfl ?_
            refine OW_ex rfl rfl rfl ?_
            refine OW_ex rfl rfl rfl ?_
            refine EN116_CF14 rfl ?_
            refine OW_as rfl rfl ?_
            refine OW_as rfl rfl ?_
            refine OW_as rfl rfl ?_
            refine EZ116_CF14 rfl ?_
            refine XW_seq ?_
            refine XW_sr ?_
            refine OW_mv rfl rfl ?_
            refine OW_un rfl rfl rfl ?_
            refine EZ116_CF14 rfl ?_
            refine XW_if rfl (fun h11 => ?_) (fun h11 => ?_)
            ·first
             |(exfalso; (try simp only [bs] at h11) <;> (first | (exact absurd rfl h11) | (exact h11 trivial) | omega | (simp at h11; done)); done)
             |skip
              try simp only [bs] at h11
              refine XW_sr ?_
              refine OW_bd rfl rfl (v := .agg [_, _, _]) rfl ?_
              first
              | refine OW_storeR hS8 (k := 2) rfl (le_app (p := ν1) (b := [1, 0, 1, 0, 1, 0, 1, 0])) rfl rfl rfl rfl ⟨rfl, rfl, Nat.le_of_ble_eq_true rfl⟩ (set_whole rfl rfl) fun H9 hS9 => ?_
              | refine OW_storeR hS8 (k := 2) rfl (le_app (p := ν1) (b := [1, 0, 1, 0, 1, 0, 1, 0])) rfl rfl rfl rfl ⟨rfl, rfl, Nat.le_of_ble_eq_true rfl⟩ (u2 := .agg [_, _, _]) rfl fun H9 hS9 => ?_
              replace hS9 : Own _ _ _ ([_, _, _]) := hS9
              refine OW_as rfl rfl ?_
              refine EZ116_CF14 rfl ?_
              refine XW_ret ?_
              refine then_ret ?_
              refine block_ret ?_
              refine then_ret ?_
              refine block_ret ?_
              refine then_ret ?_
              -- outcome 5
              have fz0 := hS9.frz (k := 0) (n := 5) rfl (by first | exact map_plain (fun _ => rfl) | (intro x hx; simp at hx; done))
              refine ret_ret (res2 rfl (rv_cellR hS9 (k := 2) rfl rfl rfl rfl (by first | exact part_whole rfl rfl rfl | rfl)) (rv_tmp rfl)) (frz2 (Q := Q) (by first | exact freeze_plain rfl | exact Ls.freeze (by assumption) | exact Ls.freeze Ls.of | exact Ls.freeze Ls.emp | exact Ls.freeze Ls.nls | exact frA (frAc (by first | exact freeze_plain rfl | assumption | exact Ls.freeze Ls.of | exact Ls.freeze Ls.emp | exact Ls.freeze Ls.nls | exact Ls.freeze (by assumption)) (frAc (by first | exact freeze_plain rfl | assumption | exact Ls.freeze Ls.of | exact Ls.freeze Ls.emp | exact Ls.freeze Ls.nls | exact Ls.freeze (by assumption)) (frAc (by first | exact freeze_plain rfl | assumption | exact Ls.freeze Ls.of | exact Ls.freeze Ls.emp | exact Ls.freeze Ls.nls | exact Ls.freeze (by assumption)) frAn)))) (by first | exact freeze_plain rfl | exact Ls.freeze (by assumption) | exact Ls.freeze Ls.of | exact Ls.freeze Ls.emp | exact Ls.freeze Ls.nls) ?_)
              first | (rw [hif ⟨by assumption, by assumption, by assumption, by omega⟩ (Cod.far_none hF (by omega) (ht2 (by assumption)))] at hq; exact hq) | (rw [hif ⟨by assumption, by assumption, by assumption, by omega⟩ (Cod.far_end hF (by omega))] at hq; first | (rw [finC_yes ⟨by assumption, by assumption, by assumption⟩] at hq; exact hq) | (rw [finC_no (by rintro ⟨e1, e2, e3⟩; (simp_all; done))] at hq; exact hq))
            ·first
             |(exfalso; (try simp only [bs] at h11) <;> (first | (exact absurd rfl h11) | (exact h11 trivial) | omega | (simp at h11; done)); done)
             |skip
              try simp only [bs] at h11
              obtain ⟨p, rfl, hp, hpf⟩ := ht3 (by assumption)
              refine XW_skip ?_
              refine then_norm ?_
              refine XW_sr ?_
              refine OW_fa rfl rfl rfl ?_
              refine OW_loadR hS8 (k := 1) rfl rfl rfl rfl rfl (by first | exact part_whole rfl rfl rfl | rfl) ?_
              refine OW_mv rfl rfl ?_
              refine EN116_CF14 rfl ?_
              first
              | refine OW_iaL rfl rfl rfl Ls.of rfl rfl rfl (by first | rfl | exact (Int.toNat_of_nonneg (by omega)).symm) (by first | assumption | exact at_map (by first | assumption | omega) | exact at_lst (by omega) | rfl) rfl ?_
              | refine OW_iaL rfl rfl rfl (by assumption) rfl rfl rfl (by first | rfl | exact (Int.toNat_of_nonneg (by omega)).symm) (by first | assumption | exact at_map (by first | assumption | omega) | exact at_lst (by omega) | rfl) rfl ?_
              refine OW_loadE rfl rfl rfl (by first | exact part_whole rfl rfl rfl | rfl) ?_
              refine OW_mv rfl rfl ?_
              refine EN116_CF14 rfl ?_
              first
              | refine OW_iaL rfl rfl rfl Ls.of rfl rfl rfl (by first | rfl | exact (Int.toNat_of_nonneg (by omega)).symm) (by first | assumption | exact at_map (by first | assumption | omega) | exact at_lst (by omega) | rfl) rfl ?_
              | refine OW_iaL rfl rfl rfl (by assumption) rfl rfl rfl (by first | rfl | exact (Int.toNat_of_nonneg (by omega)).symm) (by first | assumption | exact at_map (by first | assumption | omega) | exact at_lst (by omega) | rfl) rfl ?_
              refine OW_loadE rfl rfl rfl (by first | exact part_whole rfl rfl rfl | rfl) ?_
              refine OW_mv rfl rfl ?_
              refine EN116_CF14 rfl ?_
              first
              | refine OW_iaL rfl rfl rfl Ls.of rfl rfl rfl (by first | rfl | exact (Int.toNat_of_nonneg (by omega)).symm) (by first | assumption | exact at_map (by first | assumption | omega) | exact at_lst (by omega) | rfl) rfl ?_
              | refine OW_iaL rfl rfl rfl (by assumption) rfl rfl rfl (by first | rfl | exact (Int.toNat_of_nonneg (by omega)).symm) (by first | assumption | exact at_map (by first | assumption | omega) | exact at_lst (by omega) | rfl) rfl ?_
              refine OW_loadE rfl rfl rfl (by first | exact part_whole rfl rfl rfl | rfl) ?_
              refine OW_mv rfl rfl ?_
              refine EN116_CF14 rfl ?_
              first
              | refine OW_iaL rfl rfl rfl Ls.of rfl rfl rfl (by first | rfl | exact (Int.toNat_of_nonneg (by omega)).symm) (by first | assumption | exact at_map (by first | assumption | omega) | exact at_lst (by omega) | rfl) rfl ?_
              | refine OW_iaL rfl rfl rfl (by assumption) rfl rfl rfl (by first | rfl | exact (Int.toNat_of_nonneg (by omega)).symm) (by first | assumption | exact at_map (by first | assumption | omega) | exact at_lst (by omega) | rfl) rfl ?_
              refine OW_loadE rfl rfl rfl (by first | exact part_whole rfl rfl rfl | rfl) ?_
              refine OW_mv rfl rfl ?_
              refine EN116_CF14 rfl ?_
              first
              | refine OW_iaL rfl rfl rfl Ls.of rfl rfl rfl (by first | rfl | exact (Int.toNat_of_nonneg (by omega)).symm) (by first | assumption | exact at_map (by first | assumption | omega) | exact at_lst (by omega) | rfl) rfl ?_
              | refine OW_iaL rfl rfl rfl (by assumption) rfl rfl rfl (by first | rfl | exact (Int.toNat_of_nonneg (by omega)).symm) (by first | assumption | exact at_map (by first | assumption | omega) | exact at_lst (by omega) | rfl) rfl ?_
              refine OW_loadE rfl rfl rfl (by first | exact part_whole rfl rfl rfl | rfl) ?_
              refine OW_bd rfl rfl (v := .agg [_, _, _, _, _]) rfl ?_
              refine EN116_CF14 rfl ?_
              refine OW_bs rfl rfl (v := .lst [_]) rfl ?_
              refine OW_app hS8 (k := 0) rfl (le_app (p := ν1) (b := [19, 0, 1, 1, 0, 1, 0])) (under_app [19, 0, 1, 1, 0, 1, 0] (under_trans (under_app [1, 0, 1, 1, 1, 1, 1, 1] under_me) hU1)) rfl rfl rfl rfl rfl rfl rfl rfl (by first | rfl | exact Ls.elems (by assumption)) (by first | exact one_wide rfl | exact map_wide (fun _ => rfl) | assumption | (intro y hy; simp at hy; done)) (by first | omega | (simp only [ss]; omega) | (simp; omega)) (by decide) fun O1 H10 hS10 => ?_
              replace hS10 : Own _ _ _ ([_, _, _]) := hS10
              refine OW_fa rfl rfl rfl ?_
              refine EN116_CF14 rfl ?_
              refine OW_storeC hS10 (k := 1) rfl (le_lit (ν := ν1) (a := [20, 0, 1, 1, 0, 1, 0]) (b := [21, 0, 1, 1, 0, 1, 0]) (by decide)) rfl rfl rfl (hS10.one (k := 0) rfl) rfl rfl (Nat.le_of_ble_eq_true rfl) (u2 := .agg [_, _, _]) rfl fun H11 hS11 => ?_
              replace hS11 : Own _ _ _ ([_, _, _]) := hS11
              refine EZ116_CF14 rfl ?_
              refine XW_region ?_
              refine OW_mv rfl rfl ?_
              refine OW_as rfl rfl ?_
              refine EZ116_CF14 rfl ?_
              refine block_norm ?_
              refine then_norm ?_
              refine XW_region ?_
              refine OW_mv rfl rfl ?_
              first
              | refine OW_bin rfl rfl rfl rfl (add_wu64 (by first | omega | assumption | (simp only [ss]; omega))) ?_
              | refine OW_bin rfl rfl rfl rfl rfl ?_
              refine OW_as rfl rfl ?_
              refine EZ116_CF14 rfl ?_
              -- round 0.1
              refine ⟨_, ?_, i + 1, O1, acc ++ [p], r5, rfl, under_in hU1, Own.cast (Own.mono (hS11) (le_lit (ν := ν1) (a := [22, 0, 1, 1, 0, 1, 0]) (b := [1]) (by decide))) (by rw [List.map_append]; rfl), ?_, env_g rfl⟩
              · first | omega | (simp; omega)
              · exact ⟨Cod.far_step hF (by omega) hp, by omega, fun x hx => (List.mem_append.1 hx).elim (hfa x) (fun h => by rw [List.mem_singleton.1 h]; exact hpf)⟩
          ·first
           |(exfalso; (try simp only [bs] at h8) <;> (first | (exact absurd rfl h8) | (exact h8 trivial) | omega | (simp at h8; done)); done)
           |skip
            try simp only [bs] at h8
            refine XW_exit ?_
            refine then_exit ?_
            refine block_exit ?_
            refine then_norm ?_
            refine XW_sr ?_
            have hal := hF.2.1; have hin := hF.1
            have y1 := resU_size rest; have y2 := resU_i rest
            refine OW_mv rfl rfl ?_
            refine OW_fn rfl rfl (rtakeU (by omega) ?_) 
            refine OW_mv rfl rfl ?_
            refine EN116_CF14 rfl ?_
            refine OW_ex rfl rfl rfl ?_
            refine OW_ex rfl rfl rfl ?_
            refine OW_ex rfl rfl rfl ?_
            refine EN116_CF14 rfl ?_
            refine OW_as rfl rfl ?_
            refine OW_as rfl rfl ?_
            refine OW_as rfl rfl ?_
            refine EZ116_CF14 rfl ?_
            refine XW_sr ?_
            refine OW_mv rfl rfl ?_
            refine OW_fa rfl rfl rfl ?_
            refine OW_storeR hS8 (k := 1) rfl (le_bef (bef_under (a := []) hU1 (before_lit (ν := ν) (a := [1, 0, 1, 1, 1, 1, 1, 1]) (b := [2, 0, 1, 1, 1, 1, 1, 1, 1, 1]) (by decide)))) rfl rfl rfl rfl ⟨rfl, rfl, Nat.le_of_ble_eq_true rfl⟩ (u2 := .agg [_, _, _]) rfl fun H12 hS12 => ?_
            replace hS12 : Own _ _ _ ([_, _, _]) := hS12
            refine EZ116_CF14 rfl ?_
            refine XW_seq ?_
            refine XW_sr ?_
            refine OW_mv rfl rfl ?_
            refine OW_un rfl rfl rfl ?_
            refine OW_mv rfl rfl ?_
            refine EN116_CF14 rfl ?_
            refine OW_split (tt := 104) rfl (fun g17_3 => ?_) (fun g17_3 => ?_)
            ·first
             |(exfalso; (try simp only [bs] at g17_3) <;> (first | (exact absurd rfl g17_3) | (exact g17_3 trivial) | omega | (simp at g17_3; done)); done)
             |skip
              try simp only [bs] at g17_3
              refine OW_no rfl ?_
              refine OW_no rfl ?_
              refine EN116_CF14 rfl ?_
              refine OW_pick rfl rfl rfl ?_
              refine OW_mv rfl rfl ?_
              refine OW_no rfl ?_
              refine EN116_CF14 rfl ?_
              refine OW_no rfl ?_
              refine OW_no rfl ?_
              refine OW_no rfl ?_
              refine EN116_CF14 rfl ?_
              refine OW_pick rfl rfl rfl ?_
              refine EZ116_CF14 rfl ?_
              refine XW_yes rfl rfl ?_
              refine XW_sr ?_
              refine OW_bd rfl rfl (v := .agg [_, _, _]) rfl ?_
              first
              | refine OW_storeR hS12 (k := 2) rfl (le_lit (ν := ν) (a := [3, 0, 1, 1, 1, 1, 1, 1, 1, 1]) (b := [1, 0, 1, 0, 1, 1, 1, 1, 1, 1, 1, 1, 1]) (by decide)) rfl rfl rfl rfl ⟨rfl, rfl, Nat.le_of_ble_eq_true rfl⟩ (set_whole rfl rfl) fun H13 hS13 => ?_
              | refine OW_storeR hS12 (k := 2) rfl (le_lit (ν := ν) (a := [3, 0, 1, 1, 1, 1, 1, 1, 1, 1]) (b := [1, 0, 1, 0, 1, 1, 1, 1, 1, 1, 1, 1, 1]) (by decide)) rfl rfl rfl rfl ⟨rfl, rfl, Nat.le_of_ble_eq_true rfl⟩ (u2 := .agg [_, _, _]) rfl fun H13 hS13 => ?_
              replace hS13 : Own _ _ _ ([_, _, _]) := hS13
              refine OW_as rfl rfl ?_
              refine EZ116_CF14 rfl ?_
              refine XW_ret ?_
              refine then_ret ?_
              -- outcome 6
              have fz0 := hS13.frz (k := 0) (n := 5) rfl (by first | exact map_plain (fun _ => rfl) | (intro x hx; simp at hx; done))
              refine ret_ret (res2 rfl (rv_cellR hS13 (k := 2) rfl rfl rfl rfl (by first | exact part_whole rfl rfl rfl | rfl)) (rv_tmp rfl)) (frz2 (Q := Q) (by first | exact freeze_plain rfl | exact Ls.freeze (by assumption) | exact Ls.freeze Ls.of | exact Ls.freeze Ls.emp | exact Ls.freeze Ls.nls | exact frA (frAc (by first | exact freeze_plain rfl | assumption | exact Ls.freeze Ls.of | exact Ls.freeze Ls.emp | exact Ls.freeze Ls.nls | exact Ls.freeze (by assumption)) (frAc (by first | exact freeze_plain rfl | assumption | exact Ls.freeze Ls.of | exact Ls.freeze Ls.emp | exact Ls.freeze Ls.nls | exact Ls.freeze (by assumption)) (frAc (by first | exact freeze_plain rfl | assumption | exact Ls.freeze Ls.of | exact Ls.freeze Ls.emp | exact Ls.freeze Ls.nls | exact Ls.freeze (by assumption)) frAn)))) (by first | exact freeze_plain rfl | exact Ls.freeze (by assumption) | exact Ls.freeze Ls.of | exact Ls.freeze Ls.emp | exact Ls.freeze Ls.nls) ?_)
              first | (rw [hif ⟨by assumption, by assumption, by assumption, by omega⟩ (Cod.far_none hF (by omega) (ht2 (by assumption)))] at hq; exact hq) | (rw [hif ⟨by assumption, by assumption, by assumption, by omega⟩ (Cod.far_end hF (by omega))] at hq; first | (rw [finC_yes ⟨by assumption, by assumption, by assumption⟩] at hq; exact hq) | (rw [finC_no (by rintro ⟨e1, e2, e3⟩; (simp_all; done))] at hq; exact hq))
            ·first
             |(exfalso; (try simp only [bs] at g17_3) <;> (first | (exact absurd rfl g17_3) | (exact g17_3 trivial) | omega | (simp at g17_3; done)); done)
             |skip
              try simp only [bs] at g17_3
              refine OW_mv rfl rfl ?_
              refine OW_bin rfl rfl rfl rfl rfl ?_
              refine EN116_CF14 rfl ?_
              refine OW_pick rfl rfl rfl ?_
              refine OW_mv rfl rfl ?_
              refine OW_split (tt := 108) rfl (fun g17_7 => ?_) (fun g17_7 => ?_)
              ·first
               |(exfalso; (try simp only [bs] at g17_7) <;> (first | (exact absurd rfl g17_7) | (exact g17_7 trivial) | omega | (simp at g17_7; done)); done)
               |skip
                try simp only [bs] at g17_7
                refine EN116_CF14 rfl ?_
                refine OW_no rfl ?_
                refine OW_no rfl ?_
                refine OW_no rfl ?_
                refine EN116_CF14 rfl ?_
                refine OW_no rfl ?_
                refine OW_pick rfl rfl rfl ?_
                refine EZ116_CF14 rfl ?_
                refine XW_yes rfl rfl ?_
                refine XW_sr ?_
                refine OW_bd rfl rfl (v := .agg [_, _, _]) rfl ?_
                first
                | refine OW_storeR hS12 (k := 2) rfl (le_lit (ν := ν) (a := [3, 0, 1, 1, 1, 1, 1, 1, 1, 1]) (b := [1, 0, 1, 0, 1, 1, 1, 1, 1, 1, 1, 1, 1]) (by decide)) rfl rfl rfl rfl ⟨rfl, rfl, Nat.le_of_ble_eq_true rfl⟩ (set_whole rfl rfl) fun H14 hS14 => ?_
                | refine OW_storeR hS12 (k := 2) rfl (le_lit (ν := ν) (a := [3, 0, 1, 1, 1, 1, 1, 1, 1, 1]) (b := [1, 0, 1, 0, 1, 1, 1, 1, 1, 1, 1, 1, 1]) (by decide)) rfl rfl rfl rfl ⟨rfl, rfl, Nat.le_of_ble_eq_true rfl⟩ (u2 := .agg [_, _, _]) rfl fun H14 hS14 => ?_
                replace hS14 : Own _ _ _ ([_, _, _]) := hS14
                refine OW_as rfl rfl ?_
                refine EZ116_CF14 rfl ?_
                refine XW_ret ?_
                refine then_ret ?_
                -- outcome 7
                have fz0 := hS14.frz (k := 0) (n := 5) rfl (by first | exact map_plain (fun _ => rfl) | (intro x hx; simp at hx; done))
                refine ret_ret (res2 rfl (rv_cellR hS14 (k := 2) rfl rfl rfl rfl (by first | exact part_whole rfl rfl rfl | rfl)) (rv_tmp rfl)) (frz2 (Q := Q) (by first | exact freeze_plain rfl | exact Ls.freeze (by assumption) | exact Ls.freeze Ls.of | exact Ls.freeze Ls.emp | exact Ls.freeze Ls.nls | exact frA (frAc (by first | exact freeze_plain rfl | assumption | exact Ls.freeze Ls.of | exact Ls.freeze Ls.emp | exact Ls.freeze Ls.nls | exact Ls.freeze (by assumption)) (frAc (by first | exact freeze_plain rfl | assumption | exact Ls.freeze Ls.of | exact Ls.freeze Ls.emp | exact Ls.freeze Ls.nls | exact Ls.freeze (by assumption)) (frAc (by first | exact freeze_plain rfl | assumption | exact Ls.freeze Ls.of | exact Ls.freeze Ls.emp | exact Ls.freeze Ls.nls | exact Ls.freeze (by assumption)) frAn)))) (by first | exact freeze_plain rfl | exact Ls.freeze (by assumption) | exact Ls.freeze Ls.of | exact Ls.freeze Ls.emp | exact Ls.freeze Ls.nls) ?_)
                first | (rw [hif ⟨by assumption, by assumption, by assumption, by omega⟩ (Cod.far_none hF (by omega) (ht2 (by assumption)))] at hq; exact hq) | (rw [hif ⟨by assumption, by assumption, by assumption, by omega⟩ (Cod.far_end hF (by omega))] at hq; first | (rw [finC_yes ⟨by assumption, by assumption, by assumption⟩] at hq; exact hq) | (rw [finC_no (by rintro ⟨e1, e2, e3⟩; (simp_all; done))] at hq; exact hq))
              ·first
               |(exfalso; (try simp only [bs] at g17_7) <;> (first | (exact absurd rfl g17_7) | (exact g17_7 trivial) | omega | (simp at g17_7; done)); done)
               |skip
                try simp only [bs] at g17_7
                refine EN116_CF14 rfl ?_
                refine OW_loadR hS12 (k := 1) rfl rfl rfl rfl rfl (by first | exact part_whole rfl rfl rfl | rfl) ?_
                refine OW_mv rfl rfl ?_
                refine OW_fn rfl rfl (rf_check (c := ⟨b.1, acc, (resU rest).1⟩) (frC (c := ⟨b.1, acc, (resU rest).1⟩) (Ls.freeze Ls.of) (hS12.freeze0 (k := 0) rfl (map_plain (fun _ => rfl)))) ⟨s6, hfa, y2, by show b.1.length ≤ _; omega, by show acc.length ≤ _; omega⟩ ?_) 
                refine EN116_CF14 rfl ?_
                refine OW_un rfl rfl rfl ?_
                refine OW_pick rfl rfl rfl ?_
                refine EZ116_CF14 rfl ?_
                refine XW_if rfl (fun h17 => ?_) (fun h17 => ?_)
                ·first
                 |(exfalso; (try simp only [bs] at h17) <;> (first | (exact absurd rfl h17) | (exact h17 trivial) | omega | (simp at h17; done)); done)
                 |skip
                  try simp only [bs] at h17
                  refine XW_sr ?_
                  refine OW_bd rfl rfl (v := .agg [_, _, _]) rfl ?_
                  first
                  | refine OW_storeR hS12 (k := 2) rfl (le_lit (ν := ν) (a := [3, 0, 1, 1, 1, 1, 1, 1, 1, 1]) (b := [1, 0, 1, 0, 1, 1, 1, 1, 1, 1, 1, 1, 1]) (by decide)) rfl rfl rfl rfl ⟨rfl, rfl, Nat.le_of_ble_eq_true rfl⟩ (set_whole rfl rfl) fun H15 hS15 => ?_
                  | refine OW_storeR hS12 (k := 2) rfl (le_lit (ν := ν) (a := [3, 0, 1, 1, 1, 1, 1, 1, 1, 1]) (b := [1, 0, 1, 0, 1, 1, 1, 1, 1, 1, 1, 1, 1]) (by decide)) rfl rfl rfl rfl ⟨rfl, rfl, Nat.le_of_ble_eq_true rfl⟩ (u2 := .agg [_, _, _]) rfl fun H15 hS15 => ?_
                  replace hS15 : Own _ _ _ ([_, _, _]) := hS15
                  refine OW_as rfl rfl ?_
                  refine EZ116_CF14 rfl ?_
                  refine XW_ret ?_
                  refine then_ret ?_
                  -- outcome 8
                  have fz0 := hS15.frz (k := 0) (n := 5) rfl (by first | exact map_plain (fun _ => rfl) | (intro x hx; simp at hx; done))
                  refine ret_ret (res2 rfl (rv_cellR hS15 (k := 2) rfl rfl rfl rfl (by first | exact part_whole rfl rfl rfl | rfl)) (rv_tmp rfl)) (frz2 (Q := Q) (by first | exact freeze_plain rfl | exact Ls.freeze (by assumption) | exact Ls.freeze Ls.of | exact Ls.freeze Ls.emp | exact Ls.freeze Ls.nls | exact frA (frAc (by first | exact freeze_plain rfl | assumption | exact Ls.freeze Ls.of | exact Ls.freeze Ls.emp | exact Ls.freeze Ls.nls | exact Ls.freeze (by assumption)) (frAc (by first | exact freeze_plain rfl | assumption | exact Ls.freeze Ls.of | exact Ls.freeze Ls.emp | exact Ls.freeze Ls.nls | exact Ls.freeze (by assumption)) (frAc (by first | exact freeze_plain rfl | assumption | exact Ls.freeze Ls.of | exact Ls.freeze Ls.emp | exact Ls.freeze Ls.nls | exact Ls.freeze (by assumption)) frAn)))) (by first | exact freeze_plain rfl | exact Ls.freeze (by assumption) | exact Ls.freeze Ls.of | exact Ls.freeze Ls.emp | exact Ls.freeze Ls.nls) ?_)
                  first | (rw [hif ⟨by assumption, by assumption, by assumption, by omega⟩ (Cod.far_none hF (by omega) (ht2 (by assumption)))] at hq; exact hq) | (rw [hif ⟨by assumption, by assumption, by assumption, by omega⟩ (Cod.far_end hF (by omega))] at hq; first | (rw [finC_yes ⟨by assumption, by assumption, by assumption⟩] at hq; exact hq) | (rw [finC_no (by rintro ⟨e1, e2, e3⟩; (simp_all; done))] at hq; exact hq))
                ·first
                 |(exfalso; (try simp only [bs] at h17) <;> (first | (exact absurd rfl h17) | (exact h17 trivial) | omega | (simp at h17; done)); done)
                 |skip
                  try simp only [bs] at h17
                  refine XW_skip ?_
                  refine then_norm ?_
                  refine XW_sr ?_
                  refine OW_loadR hS12 (k := 1) rfl rfl rfl rfl rfl (by first | exact part_whole rfl rfl rfl | rfl) ?_
                  first
                  | refine OW_storeR hS12 (k := 2) rfl (le_lit (ν := ν) (a := [3, 0, 1, 1, 1, 1, 1, 1, 1, 1]) (b := [1, 0, 1, 1, 1, 1, 1, 1, 1, 1, 1, 1]) (by decide)) rfl rfl rfl rfl ⟨rfl, rfl, Nat.le_of_ble_eq_true rfl⟩ (set_whole rfl rfl) fun H16 hS16 => ?_
                  | refine OW_storeR hS12 (k := 2) rfl (le_lit (ν := ν) (a := [3, 0, 1, 1, 1, 1, 1, 1, 1, 1]) (b := [1, 0, 1, 1, 1, 1, 1, 1, 1, 1, 1, 1]) (by decide)) rfl rfl rfl rfl ⟨rfl, rfl, Nat.le_of_ble_eq_true rfl⟩ (u2 := .agg [_, _, _]) rfl fun H16 hS16 => ?_
                  replace hS16 : Own _ _ _ ([_, _, _]) := hS16
                  refine OW_as rfl rfl ?_
                  refine EZ116_CF14 rfl ?_
                  refine XW_ret ?_
                  -- outcome 9
                  have fz0 := hS16.frz (k := 0) (n := 5) rfl (by first | exact map_plain (fun _ => rfl) | (intro x hx; simp at hx; done))
                  refine ret_ret (res2 rfl (rv_cellR hS16 (k := 2) rfl rfl rfl rfl (by first | exact part_whole rfl rfl rfl | rfl)) (rv_tmp rfl)) (frz2 (Q := Q) (by first | exact freeze_plain rfl | exact Ls.freeze (by assumption) | exact Ls.freeze Ls.of | exact Ls.freeze Ls.emp | exact Ls.freeze Ls.nls | exact frA (frAc (by first | exact freeze_plain rfl | assumption | exact Ls.freeze Ls.of | exact Ls.freeze Ls.emp | exact Ls.freeze Ls.nls | exact Ls.freeze (by assumption)) (frAc (by first | exact freeze_plain rfl | assumption | exact Ls.freeze Ls.of | exact Ls.freeze Ls.emp | exact Ls.freeze Ls.nls | exact Ls.freeze (by assumption)) (frAc (by first | exact freeze_plain rfl | assumption | exact Ls.freeze Ls.of | exact Ls.freeze Ls.emp | exact Ls.freeze Ls.nls | exact Ls.freeze (by assumption)) frAn)))) (by first | exact freeze_plain rfl | exact Ls.freeze (by assumption) | exact Ls.freeze Ls.of | exact Ls.freeze Ls.emp | exact Ls.freeze Ls.nls) ?_)
                  first | (rw [hif ⟨by assumption, by assumption, by assumption, by omega⟩ (Cod.far_none hF (by omega) (ht2 (by assumption)))] at hq; exact hq) | (rw [hif ⟨by assumption, by assumption, by assumption, by omega⟩ (Cod.far_end hF (by omega))] at hq; first | (rw [finC_yes ⟨by assumption, by assumption, by assumption⟩] at hq; exact hq) | (rw [finC_no (by rintro ⟨e1, e2, e3⟩; (simp_all; done))] at hq; exact hq))
/-! ### Read again -/
theorem resU_enc {n : Int} (h : 0 ≤ n ∧ n ≤ 18446744073709551615) (r : List UInt8) : resU (ba (encU n.toNat ++ r)) = (n, ba r, true) := by
  unfold resU
  rw [ba_data, takeU_enc _ 64 _ (by show n.toNat < 18446744073709551616; omega)]
  simp only [Prod.mk.injEq, and_true]
  omega
theorem resC_text (hf : c.fit) : resC (textC c) gs = if chkC c gs = true then (c, true) else (zC, false) := by
  have z1 := textQ_size hf.q hf.lq
  have e : (textC c).data.toList = encT (textS c.qs).data.toList ++ (encU c.ps.length ++ ((c.ps.map cPl.enc).flatten ++ encU c.nx.toNat)) := by
    unfold textC partC encS
    rw [List.take_of_length_le (Nat.le_refl _), ba_append, ba_append, ba_append, ba_data]
    simp only [List.append_assoc]
  have hsz : (textS c.qs).data.toList.length ≤ (textC c).size := by
    have := congrArg List.length e
    rw [List.length_append, bytes_size] at this
    unfold encT at this
    simp only [List.length_append] at this
    omega
  have ha : resT ((textC c).size : Int) (textC c) = (textS c.qs, ba (encU c.ps.length ++ ((c.ps.map cPl.enc).flatten ++ encU c.nx.toNat)), true) := by
    unfold resT
    rw [e, WM.takeT_enc _ _ (by omega) (by rw [bytes_size]; omega)]
    rfl
  have hb : resP (textS c.qs) = if chkQ c.qs = true then (c.qs, true) else ([], false) := by
    unfold resP
    rw [parS_text hf.q (by have := hf.lq; omega)]
    by_cases h : chkQ c.qs = true <;> simp [h]
  have hlp := hf.lp
  have hu : resU (ba (encU c.ps.length ++ ((c.ps.map cPl.enc).flatten ++ encU c.nx.toNat))) = ((c.ps.length : Int), ba ((c.ps.map cPl.enc).flatten ++ encU c.nx.toNat), true) := by
    have := resU_enc (n := (c.ps.length : Int)) (by omega) ((c.ps.map cPl.enc).flatten ++ encU c.nx.toNat)
    rw [Int.toNat_natCast] at this
    exact this
  have hm : cPl.manyT c.ps.length ((c.ps.map cPl.enc).flatten ++ encU c.nx.toNat) = some (c.ps, encU c.nx.toNat) := (cPl.manyT_iff _ _ _ _).2 ⟨⟨rfl, hf.p⟩, rfl⟩
  have hx : resU (ba (encU c.nx.toNat)) = (c.nx, ⟨#[]⟩, true) := by
    have := resU_enc hf.n []
    rw [List.append_nil, ba_nil] at this
    exact this
  by_cases hq : chkQ c.qs = true
  · rw [if_pos hq] at hb
    by_cases hl : (c.ps.length : Int) ≤ 32
    · have hif := resC_if (gs := gs) (s := textC c) (o := some (c.ps, encU c.nx.toNat)) (by rw [ha, hb, hu]; exact ⟨rfl, rfl, rfl, hl⟩) (by rw [ha, hu]; simp only [Int.toNat_natCast, ba_data]; exact hm)
      rw [hif, ha, hb]
      simp only [finC, hx]
      by_cases hc : chkC c gs = true
      · rw [if_pos hc, if_pos ⟨trivial, trivial, hc⟩]
      · rw [if_neg hc, if_neg (fun h => hc h.2.2)]
    · rw [resC_no (by rw [ha, hb, hu]; exact fun h => hl h.2.2.2), if_neg (fun h => hl (by have := (chkC_of h).l; omega))]
  · rw [if_neg hq] at hb
    rw [resC_no (by rw [ha, hb, hu]; exact fun h => by cases h.2.1), if_neg (fun h => hq (chkC_of h).q)]
end Go.Proofs.Ytealccnfnpkngaa.X
