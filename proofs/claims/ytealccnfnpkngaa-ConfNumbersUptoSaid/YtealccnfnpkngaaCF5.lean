/- Layer 14: the service's methods. -/
import Derived.Test.YtealccnfnpkngaaCF4
set_option linter.unusedVariables false
set_option linter.unusedSimpArgs false
set_option maxRecDepth 100000
namespace Go.Proofs.Ytealccnfnpkngaa.X
open Go Go.RowKit WM
theorem EN50_CF5 {c : Cfg} {ν : Nm} {e : Env} {H : Heap} {all : Array Oper} {r : List Oper} {i : Nat} {Q : Env → Heap → Prop} {x0 x1 x2 x3 x4 x5 x6 x7 x8 x9 x10 x11 x12 x13 x14 x15 x16 x17 x18 x19 x20 x21 x22 x23 x24 x25 x26 x27 x28 x29 x30 x31 x32 x33 x34 x35 x36 x37 x38 x39 x40 x41 x42 x43 x44 x45 x46 x47 x48 x49 : AVal} (he : e = [x0,x1,x2,x3,x4,x5,x6,x7,x8,x9,x10,x11,x12,x13,x14,x15,x16,x17,x18,x19,x20,x21,x22,x23,x24,x25,x26,x27,x28,x29,x30,x31,x32,x33,x34,x35,x36,x37,x38,x39,x40,x41,x42,x43,x44,x45,x46,x47,x48,x49]) (h : OW c ν all r i [x0,x1,x2,x3,x4,x5,x6,x7,x8,x9,x10,x11,x12,x13,x14,x15,x16,x17,x18,x19,x20,x21,x22,x23,x24,x25,x26,x27,x28,x29,x30,x31,x32,x33,x34,x35,x36,x37,x38,x39,x40,x41,x42,x43,x44,x45,x46,x47,x48,x49] H Q) : OW c ν all r i e H Q := by subst he; exact h
theorem EN92_CF5 {c : Cfg} {ν : Nm} {e : Env} {H : Heap} {all : Array Oper} {r : List Oper} {i : Nat} {Q : Env → Heap → Prop} {x0 x1 x2 x3 x4 x5 x6 x7 x8 x9 x10 x11 x12 x13 x14 x15 x16 x17 x18 x19 x20 x21 x22 x23 x24 x25 x26 x27 x28 x29 x30 x31 x32 x33 x34 x35 x36 x37 x38 x39 x40 x41 x42 x43 x44 x45 x46 x47 x48 x49 x50 x51 x52 x53 x54 x55 x56 x57 x58 x59 x60 x61 x62 x63 x64 x65 x66 x67 x68 x69 x70 x71 x72 x73 x74 x75 x76 x77 x78 x79 x80 x81 x82 x83 x84 x85 x86 x87 x88 x89 x90 x91 : AVal} (he : e = [x0,x1,x2,x3,x4,x5,x6,x7,x8,x9,x10,x11,x12,x13,x14,x15,x16,x17,x18,x19,x20,x21,x22,x23,x24,x25,x26,x27,x28,x29,x30,x31,x32,x33,x34,x35,x36,x37,x38,x39,x40,x41,x42,x43,x44,x45,x46,x47,x48,x49,x50,x51,x52,x53,x54,x55,x56,x57,x58,x59,x60,x61,x62,x63,x64,x65,x66,x67,x68,x69,x70,x71,x72,x73,x74,x75,x76,x77,x78,x79,x80,x81,x82,x83,x84,x85,x86,x87,x88,x89,x90,x91]) (h : OW c ν all r i [x0,x1,x2,x3,x4,x5,x6,x7,x8,x9,x10,x11,x12,x13,x14,x15,x16,x17,x18,x19,x20,x21,x22,x23,x24,x25,x26,x27,x28,x29,x30,x31,x32,x33,x34,x35,x36,x37,x38,x39,x40,x41,x42,x43,x44,x45,x46,x47,x48,x49,x50,x51,x52,x53,x54,x55,x56,x57,x58,x59,x60,x61,x62,x63,x64,x65,x66,x67,x68,x69,x70,x71,x72,x73,x74,x75,x76,x77,x78,x79,x80,x81,x82,x83,x84,x85,x86,x87,x88,x89,x90,x91] H Q) : OW c ν all r i e H Q := by subst he; exact h
theorem EZ50_CF5 {c : Cfg} {ν : Nm} {e : Env} {H : Heap} {all : Array Oper} {i : Nat} {Q : Env → Heap → Prop} {x0 x1 x2 x3 x4 x5 x6 x7 x8 x9 x10 x11 x12 x13 x14 x15 x16 x17 x18 x19 x20 x21 x22 x23 x24 x25 x26 x27 x28 x29 x30 x31 x32 x33 x34 x35 x36 x37 x38 x39 x40 x41 x42 x43 x44 x45 x46 x47 x48 x49 : AVal} (he : e = [x0,x1,x2,x3,x4,x5,x6,x7,x8,x9,x10,x11,x12,x13,x14,x15,x16,x17,x18,x19,x20,x21,x22,x23,x24,x25,x26,x27,x28,x29,x30,x31,x32,x33,x34,x35,x36,x37,x38,x39,x40,x41,x42,x43,x44,x45,x46,x47,x48,x49]) (h : Q [x0,x1,x2,x3,x4,x5,x6,x7,x8,x9,x10,x11,x12,x13,x14,x15,x16,x17,x18,x19,x20,x21,x22,x23,x24,x25,x26,x27,x28,x29,x30,x31,x32,x33,x34,x35,x36,x37,x38,x39,x40,x41,x42,x43,x44,x45,x46,x47,x48,x49] H) : OW c ν all [] i e H Q := by subst he; exact OW_nil h
theorem EZ92_CF5 {c : Cfg} {ν : Nm} {e : Env} {H : Heap} {all : Array Oper} {i : Nat} {Q : Env → Heap → Prop} {x0 x1 x2 x3 x4 x5 x6 x7 x8 x9 x10 x11 x12 x13 x14 x15 x16 x17 x18 x19 x20 x21 x22 x23 x24 x25 x26 x27 x28 x29 x30 x31 x32 x33 x34 x35 x36 x37 x38 x39 x40 x41 x42 x43 x44 x45 x46 x47 x48 x49 x50 x51 x52 x53 x54 x55 x56 x57 x58 x59 x60 x61 x62 x63 x64 x65 x66 x67 x68 x69 x70 x71 x72 x73 x74 x75 x76 x77 x78 x79 x80 x81 x82 x83 x84 x85 x86 x87 x88 x89 x90 x91 : AVal} (he : e = [x0,x1,x2,x3,x4,x5,x6,x7,x8,x9,x10,x11,x12,x13,x14,x15,x16,x17,x18,x19,x20,x21,x22,x23,x24,x25,x26,x27,x28,x29,x30,x31,x32,x33,x34,x35,x36,x37,x38,x39,x40,x41,x42,x43,x44,x45,x46,x47,x48,x49,x50,x51,x52,x53,x54,x55,x56,x57,x58,x59,x60,x61,x62,x63,x64,x65,x66,x67,x68,x69,x70,x71,x72,x73,x74,x75,x76,x77,x78,x79,x80,x81,x82,x83,x84,x85,x86,x87,x88,x89,x90,x91]) (h : Q [x0,x1,x2,x3,x4,x5,x6,x7,x8,x9,x10,x11,x12,x13,x14,x15,x16,x17,x18,x19,x20,x21,x22,x23,x24,x25,x26,x27,x28,x29,x30,x31,x32,x33,x34,x35,x36,x37,x38,x39,x40,x41,x42,x43,x44,x45,x46,x47,x48,x49,x50,x51,x52,x53,x54,x55,x56,x57,x58,x59,x60,x61,x62,x63,x64,x65,x66,x67,x68,x69,x70,x71,x72,x73,x74,x75,x76,x77,x78,x79,x80,x81,x82,x83,x84,x85,x86,x87,x88,x89,x90,x91] H) : OW c ν all [] i e H Q := by subst he; exact OW_nil h
variable {ν β ps pos' : Nm} {H : Heap} {Q : AVal → Heap → Prop} {L : List Asr} {k : Nat} {q : Nm} {c : Cf} {gs : Int}
theorem Qu.has {ν : Nm} {H : Heap} {Q : AVal → Heap → Prop} {ls : List Qu} {S : AVal} {f : FuncId} {caps : List AVal} {bs : List Nm} {p : Qu → Bool} (hf : Qu.FnP f caps bs H p) (hbs : ∀ b ∈ bs, under ν b = false) (h : Rd H 3 (ls.map Qu.enc) S) (hn : ls.length ≤ 4611686018427387904) (hq : Q (.bool (ls.any p)) H) : CW cfg ν 66 [S, .fn f caps] H Q := by
  refine CW_fullS g66 F66 rfl ?_
  refine XW_sr ?_
  refine OW_as rfl rfl ?_
  refine OW_nilE (e' := [_, _, _, _, _, _, _, _, _]) rfl ?_
  refine XW_sr ?_
  refine OW_mv rfl rfl ?_
  refine OW_mv rfl rfl ?_
  refine OW_fn rfl rfl (Qu.idx hf (fun b hb => by have := hbs b hb; repeat (first | exact this | apply under_dn)) h hn ?_)
  refine OW_env (e' := [_, _, _, _, _, _, _, _, _]) rfl ?_
  first
    | refine OW_bin rfl rfl rfl rfl (geq_yes (by omega)) ?_
    | refine OW_bin rfl rfl rfl rfl (geq_no (by omega)) ?_
    | refine OW_bin rfl rfl rfl rfl rfl ?_
  refine OW_as rfl rfl ?_
  refine OW_nilE (e' := [_, _, _, _, _, _, _, _, _]) rfl ?_
  refine XW_ret ?_
  refine ret_ret rfl ⟨fun _ _ => rfl, ?_⟩
  have : decide (firstI p ls 0 ≥ 0) = ls.any p := firstI_any p ls 0 (by omega)
  show Q (.bool (decide (firstI p ls 0 ≥ 0))) H
  rw [this]; exact hq
/-! ### What they do -/
def tenS (c : Cf) (a b : Int) : Cf × Int × Int := if (setQ c.qs a b).2 = true then (⟨(setQ c.qs a b).1, c.ps, c.nx⟩, 0, 0) else (c, 0, 143)
def volS (c : Cf) (gs : Nat) (a b : Int) : Cf × Int × Int :=
  if atQ a c.qs < 0 then (c, 0, 141) else if 4 < b then (c, 0, 140) else if 32 ≤ c.ps.length ∨ c.nx = 18446744073709551615 then (c, 0, 143)
  else if (takeQ c.qs a (2 ^ b.toNat : Nat)).2 ≠ 0 then (c, 0, (takeQ c.qs a (2 ^ b.toNat : Nat)).2)
  else (⟨(takeQ c.qs a (2 ^ b.toNat : Nat)).1, c.ps ++ [⟨c.nx, a, b, 0, (lstN c.ps gs : Nat)⟩], c.nx + 1⟩, c.nx, 0)
def Pl.up (x : Pl) : Pl := ⟨x.vo, x.te, x.de, x.ep + 1, x.gr⟩
def bmpS (c : Cf) (a : Int) : Cf × Int × Int := match c.ps[(atP a c.ps).toNat]? with
  | some p => if atP a c.ps < 0 then (c, 0, 142) else if p.ep = 18446744073709551615 then (c, 0, 145) else (⟨c.qs, c.ps.set (atP a c.ps).toNat p.up, c.nx⟩, p.ep + 1, 0)
  | none => (c, 0, 142)
/-! ### A service under way -/
def svc (q : Nm) (c : Cf) (gs : Int) : Asr := Asr.ex fun p : AVal × AVal => Asr.all [row q 4 [.agg [p.1, p.2, .int .u64 c.nx, .int .i64 gs]], sl p.1 3 (c.qs.map Qu.enc), sl p.2 5 (c.ps.map Pl.enc)]
theorem Own.un_svc (h0 : Own β ps H (svc q c gs :: L)) : ∃ U V, Own β ps H (row q 4 [.agg [U, V, .int .u64 c.nx, .int .i64 gs]] :: sl U 3 (c.qs.map Qu.enc) :: sl V 5 (c.ps.map Pl.enc) :: L) := by
  obtain ⟨⟨U, V⟩, h1⟩ := Own.un_ex h0
  exact ⟨U, V, h1.un_all⟩
theorem Own.mk_svc {U V : AVal} (h0 : Own β ps H (row q 4 [.agg [U, V, .int .u64 c.nx, .int .i64 gs]] :: sl U 3 (c.qs.map Qu.enc) :: sl V 5 (c.ps.map Pl.enc) :: L)) : Own β ps H (svc q c gs :: L) :=
  Own.mk_ex (f := fun p : AVal × AVal => Asr.all [row q 4 [.agg [p.1, p.2, .int .u64 c.nx, .int .i64 gs]], sl p.1 3 (c.qs.map Qu.enc), sl p.2 5 (c.ps.map Pl.enc)]) (U, V) (Own.mk_all (L1 := [row q 4 [.agg [U, V, .int .u64 c.nx, .int .i64 gs]], sl U 3 (c.qs.map Qu.enc), sl V 5 (c.ps.map Pl.enc)]) h0)
theorem frC {U V : AVal} {n : Nat} (hU : freeze [] H (n + 1) U = .lst (c.qs.map Qu.enc)) (hV : freeze [] H (n + 1) V = .lst (c.ps.map Pl.enc)) : freeze [] H (n + 2) (.agg [U, V, .int .u64 c.nx]) = c.enc :=
  frA (frAc hU (frAc hV (frAc (freeze_plain rfl) frAn)))
theorem frS {U V : AVal} {g : Int} {n : Nat} (hU : freeze [] H (n + 1) U = .lst (c.qs.map Qu.enc)) (hV : freeze [] H (n + 1) V = .lst (c.ps.map Pl.enc)) : freeze [] H (n + 2) (.agg [U, V, .int .u64 c.nx, .int .i64 g]) = .agg [.lst (c.qs.map Qu.enc), .lst (c.ps.map Pl.enc), .int .u64 c.nx, .int .i64 g] :=
  frA (frAc hU (frAc hV (frAc (freeze_plain rfl) (frAc (freeze_plain rfl) frAn))))
theorem Own.look {k : Nat} {w : Nat} {u u2 : AVal} (hS : Own β ps H L) (hL : L[k]? = some (row q w [u])) (h : X.freeze [] H 7 u = u2) : X.lookA H (.ptr q 0 0) = .ept u2 0 := by
  obtain ⟨f, ⟨_, h0⟩, _⟩ := hS.get hL
  simp only [X.lookA, h0, List.getElem?_cons_zero, h]
theorem ten_c (hS : Own β ps H L) (hL : L[k]? = some (svc q c gs)) (hle : le ps ν) (hβ : under β ν = true) (hp : before ν pos') (hf : c.fit) (a b : Int)
    (hq : ∀ H1, Own β pos' H1 (L.set k (svc q (tenS c a b).1 gs)) → Q (.tup [.int .u64 (tenS c a b).2.1, .int .i64 (tenS c a b).2.2]) H1) : CW cfg ν 34 [.ptr q 0 0, .int .u64 a, .int .u64 b] H Q := by
  have hlq := hf.lq
  obtain ⟨U, V, hS⟩ := (hS.pick hL).un_svc
  refine CW_keep g34 F34 rfl ?_
  replace hS := Own.mono hS hle
  refine XW_sr ?_
  refine OW_as rfl rfl ?_
  refine OW_as rfl rfl ?_
  refine OW_nilE (e' := [_,_,_,_,_,_,_,_,_,_,_,_,_,_,_,_,_,_,_,_,_,_,_,_,_,_,_,_]) rfl ?_
  refine XW_sr ?_
  refine OW_mv rfl rfl ?_
  first
  | refine OW_nc rfl rfl ?_
  | refine OW_nce rfl rfl ?_
  refine OW_fa rfl rfl rfl ?_
  refine OW_env (e' := [_,_,_,_,_,_,_,_,_,_,_,_,_,_,_,_,_,_,_,_,_,_,_,_,_,_,_,_]) rfl ?_
  refine OW_fa rfl rfl rfl ?_
  refine OW_loadR hS (k := 0) rfl rfl rfl rfl rfl (by first | exact part_whole rfl rfl rfl | rfl) ?_
  refine OW_mv rfl rfl ?_
  refine OW_env (e' := [_,_,_,_,_,_,_,_,_,_,_,_,_,_,_,_,_,_,_,_,_,_,_,_,_,_,_,_]) rfl ?_
  refine OW_mv rfl rfl ?_
  refine OW_fn rfl rfl (pSetK hS (k := 1) rfl (le_app (p := ν) (b := [7, 0, 1])) (under_app [7, 0, 1] hβ) (before_lit (ν := ν) (a := [7, 0, 1]) (b := [8, 0, 1]) (by decide)) (by omega) _ _ fun H1 O1 hS1 => ?_) 
  replace hS1 : Own _ _ _ (_ :: _ :: _ :: _ :: L.eraseIdx k) := hS1
  refine OW_mv rfl rfl ?_
  refine OW_env (e' := [_,_,_,_,_,_,_,_,_,_,_,_,_,_,_,_,_,_,_,_,_,_,_,_,_,_,_,_]) rfl ?_
  refine OW_ex rfl rfl rfl ?_
  refine OW_ex rfl rfl rfl ?_
  refine OW_as rfl rfl ?_
  refine OW_env (e' := [_,_,_,_,_,_,_,_,_,_,_,_,_,_,_,_,_,_,_,_,_,_,_,_,_,_,_,_]) rfl ?_
  refine OW_as rfl rfl ?_
  refine OW_nilE (e' := [_,_,_,_,_,_,_,_,_,_,_,_,_,_,_,_,_,_,_,_,_,_,_,_,_,_,_,_]) rfl ?_
  refine XW_seq ?_
  refine XW_sr ?_
  refine OW_mv rfl rfl ?_
  refine OW_un rfl rfl rfl ?_
  refine OW_nilE (e' := [_,_,_,_,_,_,_,_,_,_,_,_,_,_,_,_,_,_,_,_,_,_,_,_,_,_,_,_]) rfl ?_
  refine XW_if rfl (fun h2 => ?_) (fun h2 => ?_)
  ·try simp only [bs] at h2
   refine XW_sr ?_
   refine OW_as rfl rfl ?_
   refine OW_as rfl rfl ?_
   refine OW_nilE (e' := [_,_,_,_,_,_,_,_,_,_,_,_,_,_,_,_,_,_,_,_,_,_,_,_,_,_,_,_]) rfl ?_
   refine XW_ret ?_
   refine then_ret ?_
   -- outcome 1
   refine ret_ret (res2 rfl (rv_tmp rfl) (rv_tmp rfl)) ?_
   rw [tenS, if_neg (by simpa using h2)] at hq; exact hq _ (Own.unpick (Own.mk_svc (Own.drop0 (Own.mono hS1 (le_bef (bef_app (a := [8, 0, 1]) hp))))) hL)
  ·try simp only [bs] at h2
   refine XW_skip ?_
   refine then_norm ?_
   refine XW_sr ?_
   refine OW_mv rfl rfl ?_
   refine OW_mv rfl rfl ?_
   first
   | refine OW_nc rfl rfl ?_
   | refine OW_nce rfl rfl ?_
   refine OW_env (e' := [_,_,_,_,_,_,_,_,_,_,_,_,_,_,_,_,_,_,_,_,_,_,_,_,_,_,_,_]) rfl ?_
   refine OW_fa rfl rfl rfl ?_
   refine OW_fa rfl rfl rfl ?_
   refine OW_storeC hS1 (k := 1) rfl (le_lit (ν := ν) (a := [8, 0, 1]) (b := [5, 0, 1, 1, 1]) (by decide)) rfl rfl rfl (hS1.one (k := 0) rfl) rfl rfl (Nat.le_of_ble_eq_true rfl) (u2 := .agg [_, _, _, _]) rfl fun H2 hS2 => ?_
   replace hS2 : Own _ _ _ (_ :: _ :: _ :: _ :: L.eraseIdx k) := hS2
   refine OW_nilE (e' := [_,_,_,_,_,_,_,_,_,_,_,_,_,_,_,_,_,_,_,_,_,_,_,_,_,_,_,_]) rfl ?_
   refine XW_sr ?_
   refine OW_as rfl rfl ?_
   refine OW_as rfl rfl ?_
   refine OW_nilE (e' := [_,_,_,_,_,_,_,_,_,_,_,_,_,_,_,_,_,_,_,_,_,_,_,_,_,_,_,_]) rfl ?_
   refine XW_ret ?_
   -- outcome 2
   refine ret_ret (res2 rfl (rv_tmp rfl) (rv_tmp rfl)) ?_
   rw [tenS, if_pos (by simpa using h2)] at hq; exact hq _ (Own.unpick (Own.mk_svc (c := ⟨(setQ c.qs a b).1, c.ps, c.nx⟩) (Own.rot (A := [_]) (Own.drop (Own.mono hS2 (le_bef (bef_app (a := [6, 0, 1, 1, 1]) hp))) (k := 2) rfl))) hL)
theorem bmp_cases (hf : c.fit) (a : Int) : (atP a c.ps = -1 ∧ bmpS c a = (c, 0, 142)) ∨ ∃ h : (atP a c.ps).toNat < c.ps.length, 0 ≤ atP a c.ps ∧ (0 ≤ c.ps[(atP a c.ps).toNat].ep ∧ c.ps[(atP a c.ps).toNat].ep ≤ 18446744073709551615) ∧ bmpS c a = if c.ps[(atP a c.ps).toNat].ep = 18446744073709551615 then (c, 0, 145) else (⟨c.qs, c.ps.set (atP a c.ps).toNat c.ps[(atP a c.ps).toNat].up, c.nx⟩, c.ps[(atP a c.ps).toNat].ep + 1, 0) := by
  rcases atP_cases a c.ps with ⟨h1, h2⟩ | ⟨i, hi, h1, h2⟩
  · refine .inl ⟨h1, ?_⟩
    unfold bmpS
    rw [h1]
    split <;> rfl
  · refine .inr ⟨by omega, by omega, ?_, ?_⟩
    · obtain ⟨_, _, _, f4, _⟩ := hf.p c.ps[(atP a c.ps).toNat] (List.getElem_mem (by omega))
      exact f4
    · unfold bmpS
      rw [List.getElem?_eq_getElem (by omega)]
      simp only
      rw [if_neg (by omega)]
theorem bmp_c (hS : Own β ps H L) (hL : L[k]? = some (svc q c gs)) (hle : le ps ν) (hβ : under β ν = true) (hp : before ν pos') (hf : c.fit) (a b : Int)
    (hq : ∀ H1, Own β pos' H1 (L.set k (svc q (bmpS c a).1 gs)) → Q (.tup [.int .u64 (bmpS c a).2.1, .int .i64 (bmpS c a).2.2]) H1) : CW cfg ν 36 [.ptr q 0 0, .int .u64 a, .int .u64 b] H Q := by
  have hlp := hf.lp
  obtain ⟨U, V, hS⟩ := (hS.pick hL).un_svc
  have hr := bmp_cases hf a
  refine CW_keep g36 F36 rfl ?_
  replace hS := Own.mono hS hle
  refine XW_sr ?_
  refine OW_as rfl rfl ?_
  refine OW_as rfl rfl ?_
  refine EZ50_CF5 rfl ?_
  refine XW_sr ?_
  refine OW_mv rfl rfl ?_
  first
  | refine OW_nc rfl rfl ?_
  | refine OW_nce rfl rfl ?_
  refine OW_fa rfl rfl rfl ?_
  refine EN50_CF5 rfl ?_
  refine OW_loadR hS (k := 0) rfl rfl rfl rfl rfl (by first | exact part_whole rfl rfl rfl | rfl) ?_
  refine OW_mv rfl rfl ?_
  refine OW_fn rfl rfl (cf_find (c := c) (frC (hS.freeze0 (k := 1) rfl (map_plain (fun _ => rfl))) (hS.freeze0 (k := 2) rfl (map_plain (fun _ => rfl)))) (by omega) _ ?_) 
  refine EN50_CF5 rfl ?_
  refine OW_as rfl rfl ?_
  refine EZ50_CF5 rfl ?_
  refine XW_seq ?_
  refine XW_block ?_
  refine XW_sr ?_
  generalize atP a c.ps = at0 at *
  refine OW_mv rfl rfl ?_
  refine OW_bin rfl rfl rfl rfl rfl ?_
  refine OW_as rfl rfl ?_
  refine EZ50_CF5 rfl ?_
  refine XW_if rfl (fun h2 => ?_) (fun h2 => ?_)
  ·try simp only [bs] at h2
   refine XW_sr ?_
   refine OW_as rfl rfl ?_
   refine OW_as rfl rfl ?_
   refine EZ50_CF5 rfl ?_
   refine XW_ret ?_
   refine block_ret ?_
   refine then_ret ?_
   -- outcome 1
   refine ret_ret (res2 rfl (rv_tmp rfl) (rv_tmp rfl)) ?_
   obtain ⟨_, hrb⟩ | ⟨hlt, hr0, hre, hrb⟩ := hr
   · rw [hrb] at hq; exact hq _ (Own.unpick (Own.mk_svc (Own.mono hS (le_bef hp))) hL)
   · omega
  ·try simp only [bs] at h2
   obtain ⟨hr0, _⟩ | ⟨hlt, hr0, hre, hrb⟩ := hr
   · omega
   refine XW_sr ?_
   refine OW_mv rfl rfl ?_
   first
   | refine OW_nc rfl rfl ?_
   | refine OW_nce rfl rfl ?_
   refine OW_fa rfl rfl rfl ?_
   refine EN50_CF5 rfl ?_
   refine OW_fa rfl rfl rfl ?_
   refine OW_loadR hS (k := 0) rfl rfl rfl rfl rfl (by first | exact part_whole rfl rfl rfl | rfl) ?_
   refine OW_mv rfl rfl ?_
   refine EN50_CF5 rfl ?_
   refine OW_iaO hS (k := 2) rfl rfl rfl rfl rfl rfl rfl rfl (by first | rfl | exact (Int.toNat_of_nonneg (by omega)).symm) (by first | assumption | exact at_map (by first | assumption | omega) | exact at_lst (by omega) | rfl) fun q1 ys1 hO1 hq1 ht1 hy1 hu1 => ?_
   subst hO1
   refine OW_fa rfl rfl rfl ?_
   refine OW_loadP rfl rfl hq1 hy1 rfl (by first | exact part_whole rfl rfl rfl | rfl) ?_
   refine EN50_CF5 rfl ?_
   refine OW_bin rfl rfl rfl rfl rfl ?_
   refine OW_as rfl rfl ?_
   refine EZ50_CF5 rfl ?_
   refine XW_if rfl (fun h4 => ?_) (fun h4 => ?_)
   ·try simp only [bs] at h4
    refine XW_sr ?_
    refine OW_as rfl rfl ?_
    refine OW_as rfl rfl ?_
    refine EZ50_CF5 rfl ?_
    refine XW_ret ?_
    refine block_ret ?_
    refine then_ret ?_
    -- outcome 2
    refine ret_ret (res2 rfl (rv_tmp rfl) (rv_tmp rfl)) ?_
    rw [hrb, if_pos (by omega)] at hq; exact hq _ (Own.unpick (Own.mk_svc (Own.mono hS (le_bef hp))) hL)
   ·try simp only [bs] at h4
    refine XW_skip ?_
    refine block_norm ?_
    refine then_norm ?_
    refine XW_sr ?_
    refine OW_mv rfl rfl ?_
    first
    | refine OW_nc rfl rfl ?_
    | refine OW_nce rfl rfl ?_
    refine OW_fa rfl rfl rfl ?_
    refine EN50_CF5 rfl ?_
    refine OW_fa rfl rfl rfl ?_
    refine OW_loadR hS (k := 0) rfl rfl rfl rfl rfl (by first | exact part_whole rfl rfl rfl | rfl) ?_
    refine OW_mv rfl rfl ?_
    refine EN50_CF5 rfl ?_
    refine OW_iaO hS (k := 2) rfl rfl rfl rfl rfl rfl rfl rfl (by first | rfl | exact (Int.toNat_of_nonneg (by omega)).symm) (by first | assumption | exact at_map (by first | assumption | omega) | exact at_lst (by omega) | rfl) fun q2 ys2 hO2 hq2 ht2 hy2 hu2 => ?_
    obtain rfl : q1 = q2 := (AVal.slc.inj hO2).1
    refine OW_fa rfl rfl rfl ?_
    refine OW_loadP rfl rfl hq2 hy2 rfl (by first | exact part_whole rfl rfl rfl | rfl) ?_
    refine EN50_CF5 rfl ?_
    first
    | refine OW_bin rfl rfl rfl rfl (add_wu64 (by first | omega | assumption | (simp only [ss]; omega))) ?_
    | refine OW_bin rfl rfl rfl rfl rfl ?_
    refine OW_iaO hS (k := 2) rfl rfl rfl rfl rfl rfl rfl rfl (by first | rfl | exact (Int.toNat_of_nonneg (by omega)).symm) (by first | assumption | exact at_map (by first | assumption | omega) | exact at_lst (by omega) | rfl) fun q3 ys3 hO3 hq3 ht3 hy3 hu3 => ?_
    obtain rfl : q1 = q3 := (AVal.slc.inj hO3).1
    refine OW_fa rfl rfl rfl ?_
    refine EN50_CF5 rfl ?_
    refine OW_storeO hS (k := 2) rfl (le_app (p := ν) (b := [12, 0, 1, 1, 1])) rfl rfl rfl rfl hu3 ⟨rfl, rfl, Nat.le_of_ble_eq_true rfl⟩ (u2 := .agg [_, _, _, _, _]) rfl fun H1 hS1 => ?_
    replace hS1 : Own _ _ _ (_ :: _ :: _ :: L.eraseIdx k) := hS1
    refine EZ50_CF5 rfl ?_
    refine XW_sr ?_
    obtain ⟨m, hm⟩ : ∃ m, m = c.ps.set at0.toNat c.ps[at0.toNat].up := ⟨_, rfl⟩
    replace hS1 := hS1.reS (k := 2) rfl (show _ = m.map Pl.enc by rw [hm, List.map_set]; rfl)
    have hml : m.length = c.ps.length := by rw [hm, List.length_set]
    have hll : (List.map Pl.enc c.ps).length = (List.map Pl.enc m).length := by rw [List.length_map, List.length_map, hml]
    rw [hll] at hS1 ⊢
    have hme : (m[at0.toNat]'(by omega)).ep = c.ps[at0.toNat].ep + 1 := by simp [hm, Pl.up]
    refine OW_mv rfl rfl ?_
    first
    | refine OW_nc rfl rfl ?_
    | refine OW_nce rfl rfl ?_
    refine OW_fa rfl rfl rfl ?_
    refine EN50_CF5 rfl ?_
    refine OW_fa rfl rfl rfl ?_
    refine OW_loadR hS1 (k := 0) rfl rfl rfl rfl rfl (by first | exact part_whole rfl rfl rfl | rfl) ?_
    refine OW_mv rfl rfl ?_
    refine EN50_CF5 rfl ?_
    refine OW_iaO hS1 (k := 2) rfl rfl rfl rfl rfl rfl rfl rfl (by first | rfl | exact (Int.toNat_of_nonneg (by omega)).symm) (by first | assumption | exact at_map (by first | assumption | omega) | exact at_lst (by omega) | rfl) fun q4 ys4 hO4 hq4 ht4 hy4 hu4 => ?_
    obtain rfl : q1 = q4 := (AVal.slc.inj hO4).1
    refine OW_fa rfl rfl rfl ?_
    refine OW_loadP rfl rfl hq4 hy4 rfl (by first | exact part_whole rfl rfl rfl | rfl) ?_
    refine EN50_CF5 rfl ?_
    refine OW_as rfl rfl ?_
    refine OW_as rfl rfl ?_
    refine EZ50_CF5 rfl ?_
    refine XW_ret ?_
    -- outcome 3
    refine ret_ret (res2 rfl (rv_tmp rfl) (rv_tmp rfl)) ?_
    rw [hrb, if_neg (by omega), ← hm] at hq; rw [hme]; exact hq _ (Own.unpick (Own.mk_svc (c := ⟨c.qs, m, c.nx⟩) (Own.mono hS1 (le_bef (bef_app (a := [13, 0, 1, 1, 1]) hp)))) hL)
theorem vol_fn {b : Nm} {H2 : Heap} {tn : Int} (hb : H2 b = some (.row 1 [.int .u64 tn])) : Qu.FnP 67 [.ptr b 0 0] [b] H2 (isT tn) := by
  intro ν x H Q hbs hq
  obtain ⟨h1, h2⟩ := hbs b (by simp)
  rw [hb] at h1
  refine CW_fullS g67 F67 rfl ?_
  refine XW_sr ?_
  refine OW_box rfl rfl rfl ?_
  refine OW_as rfl rfl ?_
  refine OW_nilE (e' := [_, _, _, _, _, _, _, _]) rfl ?_
  refine XW_sr ?_
  refine OW_fa rfl rfl rfl ?_
  refine OW_load rfl rfl (aLoad_ptr rfl put_same rfl rfl) ?_
  refine OW_load rfl rfl (aLoad_ptr rfl (by rw [put_ne (far h2 (by repeat (first | exact under_me | apply under_in)))]; exact h1) rfl rfl) ?_
  refine OW_env (e' := [_, _, _, _, _, _, _, _]) rfl ?_
  first
    | refine OW_bin rfl rfl rfl rfl (eq_yes (by omega)) ?_
    | refine OW_bin rfl rfl rfl rfl (eq_no (by omega)) ?_
    | refine OW_bin rfl rfl rfl rfl rfl ?_
  refine OW_as rfl rfl ?_
  refine OW_nilE (e' := [_, _, _, _, _, _, _, _]) rfl ?_
  refine XW_ret ?_
  exact ret_ret rfl ⟨fun p hp => put_ne (far hp (by repeat (first | exact under_me | apply under_in))), hq⟩
theorem shl_c {T : TT} {t : TypeId} {b : Int} (h : 0 ≤ b ∧ b ≤ 4) : aBin T .shl t (.int .u64 1) (.int .u64 b) = some (.int .u64 ((2 ^ b.toNat : Nat) : Int)) := by
  obtain ⟨n, rfl⟩ := Int.eq_ofNat_of_zero_le h.1
  have hn : n ≤ 4 := by omega
  match n, hn with
  | 0, _ => rfl
  | 1, _ => rfl
  | 2, _ => rfl
  | 3, _ => rfl
  | 4, _ => rfl
theorem pow_le {b : Int} (h : 0 ≤ b ∧ b ≤ 4) : 1 ≤ ((2 ^ b.toNat : Nat) : Int) ∧ ((2 ^ b.toNat : Nat) : Int) ≤ 16 := by
  obtain ⟨n, rfl⟩ := Int.eq_ofNat_of_zero_le h.1
  have hn : n ≤ 4 := by omega
  match n, hn with
  | 0, _ => decide
  | 1, _ => decide
  | 2, _ => decide
  | 3, _ => decide
  | 4, _ => decide
theorem any_at (a : Int) (t : List Qu) : t.any (isT a) = decide (0 ≤ atQ a t) := by
  have := firstI_any (isT a) t 0 (by omega)
  rw [← this]; rfl
theorem vol_c {n : Nat} (hS : Own β ps H L) (hL : L[k]? = some (svc q c n)) (hle : le ps ν) (hβ : under β ν = true) (hp : before ν pos') (hf : c.fit) (hn : 1 ≤ n ∧ n ≤ 4) (a b : Int) (hb : 0 ≤ b)
    (hq : ∀ H1, Own β pos' H1 (L.set k (svc q (volS c n a b).1 n)) → Q (.tup [.int .u64 (volS c n a b).2.1, .int .i64 (volS c n a b).2.2]) H1) : CW cfg ν 35 [.ptr q 0 0, .int .u64 a, .int .u64 b] H Q := by
  have hlp := hf.lp; have hlq := hf.lq; have hnx := hf.n
  obtain ⟨U, V, hS⟩ := (hS.pick hL).un_svc
  have hany := any_at a c.qs
  refine CW_keep g35 F35 rfl ?_
  replace hS := Own.mono hS hle
  refine XW_sr ?_
  refine OW_boxR hS (le_app (p := ν) (b := [0, 0])) (under_app [0, 0] hβ) rfl rfl rfl ⟨rfl, rfl⟩ fun H1 hS1 => ?_
  replace hS1 : Own _ _ _ (_ :: _ :: _ :: _ :: L.eraseIdx k) := hS1
  refine OW_as rfl rfl ?_
  refine OW_as rfl rfl ?_
  refine EZ92_CF5 rfl ?_
  refine XW_seq ?_
  refine XW_block ?_
  refine XW_sr ?_
  refine OW_mv rfl rfl ?_
  first
  | refine OW_nc rfl rfl ?_
  | refine OW_nce rfl rfl ?_
  refine OW_fa rfl rfl rfl ?_
  refine EN92_CF5 rfl ?_
  refine OW_fa rfl rfl rfl ?_
  refine OW_loadR hS1 (k := 1) rfl rfl rfl rfl rfl (by first | exact part_whole rfl rfl rfl | rfl) ?_
  refine OW_mf rfl rfl ?_
  refine EN92_CF5 rfl ?_
  refine OW_fn rfl rfl (Qu.has (vol_fn (by obtain ⟨f, ⟨_, h⟩, _⟩ := hS1.get (k := 0) rfl; exact h)) (fun b hb => (by rw [List.mem_singleton] at hb; rw [hb]; obtain ⟨f, ⟨h0, _⟩, h⟩ := hS1.get (k := 0) rfl; exact ((le_lit (ν := ν) (a := [1, 0]) (b := [6, 0, 0, 1]) (by decide)) _ (h _ (by rw [h0]; simp)).1).under)) (hS1.rd (k := 2) rfl) (by omega) ?_) 
  rw [hany]
  refine OW_un rfl rfl rfl ?_
  refine OW_as rfl rfl ?_
  refine EZ92_CF5 rfl ?_
  refine XW_if rfl (fun h1 => ?_) (fun h1 => ?_)
  ·try simp only [bs] at h1
   refine XW_sr ?_
   refine OW_as rfl rfl ?_
   refine OW_as rfl rfl ?_
   refine EZ92_CF5 rfl ?_
   refine XW_ret ?_
   refine block_ret ?_
   refine then_ret ?_
   -- outcome 1
   refine ret_ret (res2 rfl (rv_tmp rfl) (rv_tmp rfl)) ?_
   first | (rw [volS, if_pos (by omega)] at hq; exact hq _ (Own.unpick (Own.mk_svc (Own.drop0 (Own.mono hS1 (le_bef (bef_app (a := [1, 0]) hp))))) hL)) | (rw [volS, if_neg (by omega), if_pos (by omega)] at hq; exact hq _ (Own.unpick (Own.mk_svc (Own.drop0 (Own.mono hS1 (le_bef (bef_app (a := [1, 0]) hp))))) hL)) | (rw [volS, if_neg (by omega), if_neg (by omega), if_pos (by omega)] at hq; exact hq _ (Own.unpick (Own.mk_svc (Own.drop0 (Own.mono hS1 (le_bef (bef_app (a := [1, 0]) hp))))) hL)) | (rw [volS, if_neg (by omega), if_neg (by omega), if_neg (by omega), if_pos (by omega)] at hq; exact hq _ (Own.unpick (Own.mk_svc (Own.drop0 (Own.drop0 (Own.mono hS1 (le_bef (bef_app (a := [1, 0]) hp)))))) hL)) | (rw [volS, if_neg (by omega), if_neg (by omega), if_neg (by omega), if_neg (by omega)] at hq; exact hq _ (Own.unpick (Own.mk_svc (c := ⟨(takeQ c.qs a (2 ^ b.toNat : Nat)).1, c.ps ++ [⟨c.nx, a, b, 0, (lstN c.ps n : Nat)⟩], c.nx + 1⟩) (Own.rot (A := [_]) (Own.drop (k := 2) (Own.drop (k := 1) (Own.drop0 (Own.mono hS1 (le_bef (bef_app (a := [1, 0]) hp)))) rfl) rfl))) hL))
  ·try simp only [bs] at h1
   refine XW_sr ?_
   refine OW_mv rfl rfl ?_
   refine OW_bin rfl rfl rfl rfl rfl ?_
   refine OW_as rfl rfl ?_
   refine EZ92_CF5 rfl ?_
   refine XW_if rfl (fun h3 => ?_) (fun h3 => ?_)
   ·try simp only [bs] at h3
    refine XW_sr ?_
    refine OW_as rfl rfl ?_
    refine OW_as rfl rfl ?_
    refine EZ92_CF5 rfl ?_
    refine XW_ret ?_
    refine block_ret ?_
    refine then_ret ?_
    -- outcome 2
    refine ret_ret (res2 rfl (rv_tmp rfl) (rv_tmp rfl)) ?_
    first | (rw [volS, if_pos (by omega)] at hq; exact hq _ (Own.unpick (Own.mk_svc (Own.drop0 (Own.mono hS1 (le_bef (bef_app (a := [1, 0]) hp))))) hL)) | (rw [volS, if_neg (by omega), if_pos (by omega)] at hq; exact hq _ (Own.unpick (Own.mk_svc (Own.drop0 (Own.mono hS1 (le_bef (bef_app (a := [1, 0]) hp))))) hL)) | (rw [volS, if_neg (by omega), if_neg (by omega), if_pos (by omega)] at hq; exact hq _ (Own.unpick (Own.mk_svc (Own.drop0 (Own.mono hS1 (le_bef (bef_app (a := [1, 0]) hp))))) hL)) | (rw [volS, if_neg (by omega), if_neg (by omega), if_neg (by omega), if_pos (by omega)] at hq; exact hq _ (Own.unpick (Own.mk_svc (Own.drop0 (Own.drop0 (Own.mono hS1 (le_bef (bef_app (a := [1, 0]) hp)))))) hL)) | (rw [volS, if_neg (by omega), if_neg (by omega), if_neg (by omega), if_neg (by omega)] at hq; exact hq _ (Own.unpick (Own.mk_svc (c := ⟨(takeQ c.qs a (2 ^ b.toNat : Nat)).1, c.ps ++ [⟨c.nx, a, b, 0, (lstN c.ps n : Nat)⟩], c.nx + 1⟩) (Own.rot (A := [_]) (Own.drop (k := 2) (Own.drop (k := 1) (Own.drop0 (Own.mono hS1 (le_bef (bef_app (a := [1, 0]) hp)))) rfl) rfl))) hL))
   ·try simp only [bs] at h3
    refine XW_sr ?_
    refine OW_mv rfl rfl ?_
    first
    | refine OW_nc rfl rfl ?_
    | refine OW_nce rfl rfl ?_
    refine OW_fa rfl rfl rfl ?_
    refine EN92_CF5 rfl ?_
    refine OW_fa rfl rfl rfl ?_
    refine OW_loadR hS1 (k := 1) rfl rfl rfl rfl rfl (by first | exact part_whole rfl rfl rfl | rfl) ?_
    refine OW_lenO hS1 (k := 3) rfl rfl rfl rfl rfl rfl (by first | exact List.length_map _ | exact len_app1 | exact len_drop | (simp only [ss]; rfl) | rfl) ?_
    refine EN92_CF5 rfl ?_
    refine OW_bin rfl rfl rfl rfl rfl ?_
    refine OW_mv rfl rfl ?_
    refine OW_split (tt := 31) rfl (fun g5_8 => ?_) (fun g5_8 => ?_)
    ·try simp only [bs] at g5_8
     refine EN92_CF5 rfl ?_
     refine OW_no rfl ?_
     refine OW_no rfl ?_
     refine OW_no rfl ?_
     refine EN92_CF5 rfl ?_
     refine OW_no rfl ?_
     refine OW_no rfl ?_
     refine OW_no rfl ?_
     refine EN92_CF5 rfl ?_
     refine OW_pick rfl rfl rfl ?_
     refine OW_as rfl rfl ?_
     refine EZ92_CF5 rfl ?_
     refine XW_yes rfl rfl ?_
     refine XW_sr ?_
     refine OW_as rfl rfl ?_
     refine OW_as rfl rfl ?_
     refine EZ92_CF5 rfl ?_
     refine XW_ret ?_
     refine block_ret ?_
     refine then_ret ?_
     -- outcome 3
     refine ret_ret (res2 rfl (rv_tmp rfl) (rv_tmp rfl)) ?_
     first | (rw [volS, if_pos (by omega)] at hq; exact hq _ (Own.unpick (Own.mk_svc (Own.drop0 (Own.mono hS1 (le_bef (bef_app (a := [1, 0]) hp))))) hL)) | (rw [volS, if_neg (by omega), if_pos (by omega)] at hq; exact hq _ (Own.unpick (Own.mk_svc (Own.drop0 (Own.mono hS1 (le_bef (bef_app (a := [1, 0]) hp))))) hL)) | (rw [volS, if_neg (by omega), if_neg (by omega), if_pos (by omega)] at hq; exact hq _ (Own.unpick (Own.mk_svc (Own.drop0 (Own.mono hS1 (le_bef (bef_app (a := [1, 0]) hp))))) hL)) | (rw [volS, if_neg (by omega), if_neg (by omega), if_neg (by omega), if_pos (by omega)] at hq; exact hq _ (Own.unpick (Own.mk_svc (Own.drop0 (Own.drop0 (Own.mono hS1 (le_bef (bef_app (a := [1, 0]) hp)))))) hL)) | (rw [volS, if_neg (by omega), if_neg (by omega), if_neg (by omega), if_neg (by omega)] at hq; exact hq _ (Own.unpick (Own.mk_svc (c := ⟨(takeQ c.qs a (2 ^ b.toNat : Nat)).1, c.ps ++ [⟨c.nx, a, b, 0, (lstN c.ps n : Nat)⟩], c.nx + 1⟩) (Own.rot (A := [_]) (Own.drop (k := 2) (Own.drop (k := 1) (Own.drop0 (Own.mono hS1 (le_bef (bef_app (a := [1, 0]) hp)))) rfl) rfl))) hL))
    ·try simp only [bs] at g5_8
     refine EN92_CF5 rfl ?_
     refine OW_mv rfl rfl ?_
     first
     | refine OW_nc rfl rfl ?_
     | refine OW_nce rfl rfl ?_
     refine OW_fa rfl rfl rfl ?_
     refine EN92_CF5 rfl ?_
     refine OW_fa rfl rfl rfl ?_
     refine OW_loadR hS1 (k := 1) rfl rfl rfl rfl rfl (by first | exact part_whole rfl rfl rfl | rfl) ?_
     refine OW_bin rfl rfl rfl rfl rfl ?_
     refine EN92_CF5 rfl ?_
     refine OW_pick rfl rfl rfl ?_
     refine OW_as rfl rfl ?_
     refine EZ92_CF5 rfl ?_
     refine XW_if rfl (fun h5 => ?_) (fun h5 => ?_)
     ·try simp only [bs] at h5
      refine XW_sr ?_
      refine OW_as rfl rfl ?_
      refine OW_as rfl rfl ?_
      refine EZ92_CF5 rfl ?_
      refine XW_ret ?_
      refine block_ret ?_
      refine then_ret ?_
      -- outcome 4
      refine ret_ret (res2 rfl (rv_tmp rfl) (rv_tmp rfl)) ?_
      first | (rw [volS, if_pos (by omega)] at hq; exact hq _ (Own.unpick (Own.mk_svc (Own.drop0 (Own.mono hS1 (le_bef (bef_app (a := [1, 0]) hp))))) hL)) | (rw [volS, if_neg (by omega), if_pos (by omega)] at hq; exact hq _ (Own.unpick (Own.mk_svc (Own.drop0 (Own.mono hS1 (le_bef (bef_app (a := [1, 0]) hp))))) hL)) | (rw [volS, if_neg (by omega), if_neg (by omega), if_pos (by omega)] at hq; exact hq _ (Own.unpick (Own.mk_svc (Own.drop0 (Own.mono hS1 (le_bef (bef_app (a := [1, 0]) hp))))) hL)) | (rw [volS, if_neg (by omega), if_neg (by omega), if_neg (by omega), if_pos (by omega)] at hq; exact hq _ (Own.unpick (Own.mk_svc (Own.drop0 (Own.drop0 (Own.mono hS1 (le_bef (bef_app (a := [1, 0]) hp)))))) hL)) | (rw [volS, if_neg (by omega), if_neg (by omega), if_neg (by omega), if_neg (by omega)] at hq; exact hq _ (Own.unpick (Own.mk_svc (c := ⟨(takeQ c.qs a (2 ^ b.toNat : Nat)).1, c.ps ++ [⟨c.nx, a, b, 0, (lstN c.ps n : Nat)⟩], c.nx + 1⟩) (Own.rot (A := [_]) (Own.drop (k := 2) (Own.drop (k := 1) (Own.drop0 (Own.mono hS1 (le_bef (bef_app (a := [1, 0]) hp)))) rfl) rfl))) hL))
     ·try simp only [bs] at h5
      refine XW_skip ?_
      refine block_norm ?_
      refine then_norm ?_
      refine XW_sr ?_
      refine OW_mv rfl rfl ?_
      first
      | refine OW_nc rfl rfl ?_
      | refine OW_nce rfl rfl ?_
      refine OW_fa rfl rfl rfl ?_
      refine EN92_CF5 rfl ?_
      refine OW_fa rfl rfl rfl ?_
      refine OW_loadR hS1 (k := 1) rfl rfl rfl rfl rfl (by first | exact part_whole rfl rfl rfl | rfl) ?_
      refine OW_loadR hS1 (k := 0) rfl rfl rfl rfl rfl (by first | exact part_whole rfl rfl rfl | rfl) ?_
      refine EN92_CF5 rfl ?_
      refine OW_mv rfl rfl ?_
      refine OW_bin rfl rfl rfl rfl (shl_c ⟨hb, by omega⟩) ?_
      refine OW_fn rfl rfl (pTakeK hS1 (k := 2) rfl (le_lit (ν := ν) (a := [1, 0]) (b := [8, 0, 1, 1]) (by decide)) (under_app [8, 0, 1, 1] hβ) (before_lit (ν := ν) (a := [8, 0, 1, 1]) (b := [9, 0, 1, 1]) (by decide)) (by omega) hf.q _ _ (by have := pow_le ⟨hb, by omega⟩; omega) fun H2 O1 hS2 => ?_) 
      replace hS2 : Own _ _ _ (_ :: _ :: _ :: _ :: _ :: L.eraseIdx k) := hS2
      refine EN92_CF5 rfl ?_
      refine OW_mv rfl rfl ?_
      refine OW_ex rfl rfl rfl ?_
      refine OW_ex rfl rfl rfl ?_
      refine EN92_CF5 rfl ?_
      refine OW_as rfl rfl ?_
      refine OW_as rfl rfl ?_
      refine EZ92_CF5 rfl ?_
      refine XW_seq ?_
      refine XW_sr ?_
      refine OW_mv rfl rfl ?_
      refine OW_bin rfl rfl rfl rfl rfl ?_
      refine EZ92_CF5 rfl ?_
      refine XW_if rfl (fun h8 => ?_) (fun h8 => ?_)
      ·try simp only [bs] at h8
       refine XW_sr ?_
       refine OW_mv rfl rfl ?_
       refine OW_as rfl rfl ?_
       refine OW_as rfl rfl ?_
       refine EZ92_CF5 rfl ?_
       refine XW_ret ?_
       refine then_ret ?_
       -- outcome 5
       refine ret_ret (res2 rfl (rv_tmp rfl) (rv_tmp rfl)) ?_
       first | (rw [volS, if_pos (by omega)] at hq; exact hq _ (Own.unpick (Own.mk_svc (Own.drop0 (Own.mono hS2 (le_bef (bef_app (a := [9, 0, 1, 1]) hp))))) hL)) | (rw [volS, if_neg (by omega), if_pos (by omega)] at hq; exact hq _ (Own.unpick (Own.mk_svc (Own.drop0 (Own.mono hS2 (le_bef (bef_app (a := [9, 0, 1, 1]) hp))))) hL)) | (rw [volS, if_neg (by omega), if_neg (by omega), if_pos (by omega)] at hq; exact hq _ (Own.unpick (Own.mk_svc (Own.drop0 (Own.mono hS2 (le_bef (bef_app (a := [9, 0, 1, 1]) hp))))) hL)) | (rw [volS, if_neg (by omega), if_neg (by omega), if_neg (by omega), if_pos (by omega)] at hq; exact hq _ (Own.unpick (Own.mk_svc (Own.drop0 (Own.drop0 (Own.mono hS2 (le_bef (bef_app (a := [9, 0, 1, 1]) hp)))))) hL)) | (rw [volS, if_neg (by omega), if_neg (by omega), if_neg (by omega), if_neg (by omega)] at hq; exact hq _ (Own.unpick (Own.mk_svc (c := ⟨(takeQ c.qs a (2 ^ b.toNat : Nat)).1, c.ps ++ [⟨c.nx, a, b, 0, (lstN c.ps n : Nat)⟩], c.nx + 1⟩) (Own.rot (A := [_]) (Own.drop (k := 2) (Own.drop (k := 1) (Own.drop0 (Own.mono hS2 (le_bef (bef_app (a := [9, 0, 1, 1]) hp)))) rfl) rfl))) hL))
      ·try simp only [bs] at h8
       refine XW_skip ?_
       refine then_norm ?_
       refine XW_sr ?_
       refine OW_mv rfl rfl ?_
       refine OW_mv rfl rfl ?_
       first
       | refine OW_nc rfl rfl ?_
       | refine OW_nce rfl rfl ?_
       refine EN92_CF5 rfl ?_
       refine OW_fa rfl rfl rfl ?_
       refine OW_fa rfl rfl rfl ?_
       refine OW_storeC hS2 (k := 2) rfl (le_lit (ν := ν) (a := [9, 0, 1, 1]) (b := [5, 0, 1, 1, 1, 1]) (by decide)) rfl rfl rfl (hS2.one (k := 0) rfl) rfl rfl (Nat.le_of_ble_eq_true rfl) (u2 := .agg [_, _, _, _]) rfl fun H3 hS3 => ?_
       replace hS3 : Own _ _ _ (_ :: _ :: _ :: _ :: _ :: L.eraseIdx k) := hS3
       refine EZ92_CF5 rfl ?_
       refine XW_sr ?_
       refine OW_mv rfl rfl ?_
       first
       | refine OW_nc rfl rfl ?_
       | refine OW_nce rfl rfl ?_
       refine OW_fa rfl rfl rfl ?_
       refine EN92_CF5 rfl ?_
       refine OW_fa rfl rfl rfl ?_
       refine OW_loadR hS3 (k := 2) rfl rfl rfl rfl rfl (by first | exact part_whole rfl rfl rfl | rfl) ?_
       refine OW_loadR hS3 (k := 1) rfl rfl rfl rfl rfl (by first | exact part_whole rfl rfl rfl | rfl) ?_
       refine EN92_CF5 rfl ?_
       refine OW_mv rfl rfl ?_
       refine OW_mv rfl rfl ?_
       refine OW_fn rfl rfl (g_group (c := ⟨(takeQ c.qs a (2 ^ b.toNat : Nat)).1, c.ps, c.nx⟩) (Own.look hS3 (k := 2) rfl (frS (c := ⟨(takeQ c.qs a (2 ^ b.toNat : Nat)).1, c.ps, c.nx⟩) (hS3.freeze0 (k := 0) rfl (map_plain (fun _ => rfl))) (hS3.freeze0 (k := 4) rfl (map_plain (fun _ => rfl))))) (by omega) hf.p hn ?_) 
       refine EN92_CF5 rfl ?_
       refine OW_bd rfl rfl (v := .agg [_, _, _, _, _]) rfl ?_
       refine OW_allocR hS3 (le_lit (ν := ν) (a := [6, 0, 1, 1, 1, 1]) (b := [10, 0, 1, 1, 1, 1, 1]) (by decide)) (under_app [10, 0, 1, 1, 1, 1, 1] hβ) rfl rfl rfl rfl fun H4 hS4 => ?_
       replace hS4 : Own _ _ _ (_ :: _ :: _ :: _ :: _ :: _ :: L.eraseIdx k) := hS4
       first
       | refine OW_storeR hS4 (k := 0) rfl le_refl rfl rfl rfl rfl ⟨rfl, rfl, Nat.le_of_ble_eq_true rfl⟩ (set_whole rfl rfl) fun H5 hS5 => ?_
       | refine OW_storeR hS4 (k := 0) rfl le_refl rfl rfl rfl rfl ⟨rfl, rfl, Nat.le_of_ble_eq_true rfl⟩ (u2 := .agg [_, _, _, _, _]) rfl fun H5 hS5 => ?_
       replace hS5 : Own _ _ _ (_ :: _ :: _ :: _ :: _ :: _ :: L.eraseIdx k) := hS5
       refine EZ92_CF5 rfl ?_
       refine XW_sr ?_
       refine OW_mv rfl rfl ?_
       refine OW_mv rfl rfl ?_
       first
       | refine OW_nc rfl rfl ?_
       | refine OW_nce rfl rfl ?_
       refine EN92_CF5 rfl ?_
       refine OW_fa rfl rfl rfl ?_
       refine OW_fa rfl rfl rfl ?_
       refine OW_loadR hS5 (k := 3) rfl rfl rfl rfl rfl (by first | exact part_whole rfl rfl rfl | rfl) ?_
       refine EN92_CF5 rfl ?_
       refine OW_loadR hS5 (k := 0) rfl rfl rfl rfl rfl (by first | exact part_whole rfl rfl rfl | rfl) ?_
       refine OW_bs rfl rfl (v := .lst [_]) rfl ?_
       refine OW_app hS5 (k := 5) rfl (le_lit (ν := ν) (a := [12, 0, 1, 1, 1, 1, 1]) (b := [8, 0, 1, 1, 1, 1, 1, 1]) (by decide)) (under_app [8, 0, 1, 1, 1, 1, 1, 1] hβ) rfl rfl rfl rfl rfl rfl rfl rfl (by first | rfl | exact Ls.elems (by assumption)) (by first | exact one_wide rfl | exact map_wide (fun _ => rfl) | assumption | (intro y hy; simp at hy; done)) (by first | omega | (simp only [ss]; omega) | (simp; omega)) (by decide) fun O2 H6 hS6 => ?_
       replace hS6 : Own _ _ _ (_ :: _ :: _ :: _ :: _ :: _ :: L.eraseIdx k) := hS6
       refine EN92_CF5 rfl ?_
       first
       | refine OW_nc rfl rfl ?_
       | refine OW_nce rfl rfl ?_
       refine OW_fa rfl rfl rfl ?_
       refine OW_fa rfl rfl rfl ?_
       refine EN92_CF5 rfl ?_
       refine OW_storeC hS6 (k := 3) rfl (le_lit (ν := ν) (a := [9, 0, 1, 1, 1, 1, 1, 1]) (b := [12, 0, 1, 1, 1, 1, 1, 1]) (by decide)) rfl rfl rfl (hS6.one (k := 5) rfl) rfl rfl (Nat.le_of_ble_eq_true rfl) (u2 := .agg [_, _, _, _]) rfl fun H7 hS7 => ?_
       replace hS7 : Own _ _ _ (_ :: _ :: _ :: _ :: _ :: _ :: L.eraseIdx k) := hS7
       refine EZ92_CF5 rfl ?_
       refine XW_sr ?_
       replace hS7 := hS7.reS (k := 5) rfl (map_snoc (a := (⟨c.nx, a, b, 0, (lstN c.ps n : Nat)⟩ : Pl)))
       refine OW_mv rfl rfl ?_
       first
       | refine OW_nc rfl rfl ?_
       | refine OW_nce rfl rfl ?_
       refine OW_fa rfl rfl rfl ?_
       refine EN92_CF5 rfl ?_
       refine OW_fa rfl rfl rfl ?_
       refine OW_loadR hS7 (k := 3) rfl rfl rfl rfl rfl (by first | exact part_whole rfl rfl rfl | rfl) ?_
       first
       | refine OW_bin rfl rfl rfl rfl (add_wu64 (by first | omega | assumption | (simp only [ss]; omega))) ?_
       | refine OW_bin rfl rfl rfl rfl rfl ?_
       refine EN92_CF5 rfl ?_
       first
       | refine OW_nc rfl rfl ?_
       | refine OW_nce rfl rfl ?_
       refine OW_fa rfl rfl rfl ?_
       refine OW_fa rfl rfl rfl ?_
       refine EN92_CF5 rfl ?_
       refine OW_storeR hS7 (k := 3) rfl (le_lit (ν := ν) (a := [13, 0, 1, 1, 1, 1, 1, 1]) (b := [9, 0, 1, 1, 1, 1, 1, 1, 1]) (by decide)) rfl rfl rfl rfl ⟨rfl, rfl, Nat.le_of_ble_eq_true rfl⟩ (u2 := .agg [_, _, _, _]) rfl fun H8 hS8 => ?_
       replace hS8 : Own _ _ _ (_ :: _ :: _ :: _ :: _ :: _ :: L.eraseIdx k) := hS8
       refine EZ92_CF5 rfl ?_
       refine XW_sr ?_
       refine OW_fa rfl rfl rfl ?_
       refine OW_loadR hS8 (k := 0) rfl rfl rfl rfl rfl (by first | exact part_whole rfl rfl rfl | rfl) ?_
       refine OW_as rfl rfl ?_
       refine EN92_CF5 rfl ?_
       refine OW_as rfl rfl ?_
       refine EZ92_CF5 rfl ?_
       refine XW_ret ?_
       -- outcome 6
       refine ret_ret (res2 rfl (rv_tmp rfl) (rv_tmp rfl)) ?_
       first | (rw [volS, if_pos (by omega)] at hq; exact hq _ (Own.unpick (Own.mk_svc (Own.drop0 (Own.mono hS8 (le_bef (bef_app (a := [10, 0, 1, 1, 1, 1, 1, 1, 1]) hp))))) hL)) | (rw [volS, if_neg (by omega), if_pos (by omega)] at hq; exact hq _ (Own.unpick (Own.mk_svc (Own.drop0 (Own.mono hS8 (le_bef (bef_app (a := [10, 0, 1, 1, 1, 1, 1, 1, 1]) hp))))) hL)) | (rw [volS, if_neg (by omega), if_neg (by omega), if_pos (by omega)] at hq; exact hq _ (Own.unpick (Own.mk_svc (Own.drop0 (Own.mono hS8 (le_bef (bef_app (a := [10, 0, 1, 1, 1, 1, 1, 1, 1]) hp))))) hL)) | (rw [volS, if_neg (by omega), if_neg (by omega), if_neg (by omega), if_pos (by omega)] at hq; exact hq _ (Own.unpick (Own.mk_svc (Own.drop0 (Own.drop0 (Own.mono hS8 (le_bef (bef_app (a := [10, 0, 1, 1, 1, 1, 1, 1, 1]) hp)))))) hL)) | (rw [volS, if_neg (by omega), if_neg (by omega), if_neg (by omega), if_neg (by omega)] at hq; exact hq _ (Own.unpick (Own.mk_svc (c := ⟨(takeQ c.qs a (2 ^ b.toNat : Nat)).1, c.ps ++ [⟨c.nx, a, b, 0, (lstN c.ps n : Nat)⟩], c.nx + 1⟩) (Own.rot (A := [_]) (Own.drop (k := 2) (Own.drop (k := 1) (Own.drop0 (Own.mono hS8 (le_bef (bef_app (a := [10, 0, 1, 1, 1, 1, 1, 1, 1]) hp)))) rfl) rfl))) hL))
end Go.Proofs.Ytealccnfnpkngaa.X
