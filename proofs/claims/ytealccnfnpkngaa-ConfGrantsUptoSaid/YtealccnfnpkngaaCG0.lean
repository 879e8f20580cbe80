/- Layer 14, ConfGrants alone: Run of the program where it raises an epoch (as in CF5, CF6). -/
import Derived.Test.YtealccnfnpkngaaCF3
set_option linter.unusedVariables false
set_option linter.unusedSimpArgs false
set_option maxRecDepth 100000
namespace Go.Proofs.Ytealccnfnpkngaa.X
open Go Go.RowKit WM
theorem EN50_CG0 {c : Cfg} {ν : Nm} {e : Env} {H : Heap} {all : Array Oper} {r : List Oper} {i : Nat} {Q : Env → Heap → Prop} {x0 x1 x2 x3 x4 x5 x6 x7 x8 x9 x10 x11 x12 x13 x14 x15 x16 x17 x18 x19 x20 x21 x22 x23 x24 x25 x26 x27 x28 x29 x30 x31 x32 x33 x34 x35 x36 x37 x38 x39 x40 x41 x42 x43 x44 x45 x46 x47 x48 x49 : AVal} (he : e = [x0,x1,x2,x3,x4,x5,x6,x7,x8,x9,x10,x11,x12,x13,x14,x15,x16,x17,x18,x19,x20,x21,x22,x23,x24,x25,x26,x27,x28,x29,x30,x31,x32,x33,x34,x35,x36,x37,x38,x39,x40,x41,x42,x43,x44,x45,x46,x47,x48,x49]) (h : OW c ν all r i [x0,x1,x2,x3,x4,x5,x6,x7,x8,x9,x10,x11,x12,x13,x14,x15,x16,x17,x18,x19,x20,x21,x22,x23,x24,x25,x26,x27,x28,x29,x30,x31,x32,x33,x34,x35,x36,x37,x38,x39,x40,x41,x42,x43,x44,x45,x46,x47,x48,x49] H Q) : OW c ν all r i e H Q := by subst he; exact h
theorem EN66_CG0 {c : Cfg} {ν : Nm} {e : Env} {H : Heap} {all : Array Oper} {r : List Oper} {i : Nat} {Q : Env → Heap → Prop} {x0 x1 x2 x3 x4 x5 x6 x7 x8 x9 x10 x11 x12 x13 x14 x15 x16 x17 x18 x19 x20 x21 x22 x23 x24 x25 x26 x27 x28 x29 x30 x31 x32 x33 x34 x35 x36 x37 x38 x39 x40 x41 x42 x43 x44 x45 x46 x47 x48 x49 x50 x51 x52 x53 x54 x55 x56 x57 x58 x59 x60 x61 x62 x63 x64 x65 : AVal} (he : e = [x0,x1,x2,x3,x4,x5,x6,x7,x8,x9,x10,x11,x12,x13,x14,x15,x16,x17,x18,x19,x20,x21,x22,x23,x24,x25,x26,x27,x28,x29,x30,x31,x32,x33,x34,x35,x36,x37,x38,x39,x40,x41,x42,x43,x44,x45,x46,x47,x48,x49,x50,x51,x52,x53,x54,x55,x56,x57,x58,x59,x60,x61,x62,x63,x64,x65]) (h : OW c ν all r i [x0,x1,x2,x3,x4,x5,x6,x7,x8,x9,x10,x11,x12,x13,x14,x15,x16,x17,x18,x19,x20,x21,x22,x23,x24,x25,x26,x27,x28,x29,x30,x31,x32,x33,x34,x35,x36,x37,x38,x39,x40,x41,x42,x43,x44,x45,x46,x47,x48,x49,x50,x51,x52,x53,x54,x55,x56,x57,x58,x59,x60,x61,x62,x63,x64,x65] H Q) : OW c ν all r i e H Q := by subst he; exact h
theorem EZ50_CG0 {c : Cfg} {ν : Nm} {e : Env} {H : Heap} {all : Array Oper} {i : Nat} {Q : Env → Heap → Prop} {x0 x1 x2 x3 x4 x5 x6 x7 x8 x9 x10 x11 x12 x13 x14 x15 x16 x17 x18 x19 x20 x21 x22 x23 x24 x25 x26 x27 x28 x29 x30 x31 x32 x33 x34 x35 x36 x37 x38 x39 x40 x41 x42 x43 x44 x45 x46 x47 x48 x49 : AVal} (he : e = [x0,x1,x2,x3,x4,x5,x6,x7,x8,x9,x10,x11,x12,x13,x14,x15,x16,x17,x18,x19,x20,x21,x22,x23,x24,x25,x26,x27,x28,x29,x30,x31,x32,x33,x34,x35,x36,x37,x38,x39,x40,x41,x42,x43,x44,x45,x46,x47,x48,x49]) (h : Q [x0,x1,x2,x3,x4,x5,x6,x7,x8,x9,x10,x11,x12,x13,x14,x15,x16,x17,x18,x19,x20,x21,x22,x23,x24,x25,x26,x27,x28,x29,x30,x31,x32,x33,x34,x35,x36,x37,x38,x39,x40,x41,x42,x43,x44,x45,x46,x47,x48,x49] H) : OW c ν all [] i e H Q := by subst he; exact OW_nil h
theorem EZ66_CG0 {c : Cfg} {ν : Nm} {e : Env} {H : Heap} {all : Array Oper} {i : Nat} {Q : Env → Heap → Prop} {x0 x1 x2 x3 x4 x5 x6 x7 x8 x9 x10 x11 x12 x13 x14 x15 x16 x17 x18 x19 x20 x21 x22 x23 x24 x25 x26 x27 x28 x29 x30 x31 x32 x33 x34 x35 x36 x37 x38 x39 x40 x41 x42 x43 x44 x45 x46 x47 x48 x49 x50 x51 x52 x53 x54 x55 x56 x57 x58 x59 x60 x61 x62 x63 x64 x65 : AVal} (he : e = [x0,x1,x2,x3,x4,x5,x6,x7,x8,x9,x10,x11,x12,x13,x14,x15,x16,x17,x18,x19,x20,x21,x22,x23,x24,x25,x26,x27,x28,x29,x30,x31,x32,x33,x34,x35,x36,x37,x38,x39,x40,x41,x42,x43,x44,x45,x46,x47,x48,x49,x50,x51,x52,x53,x54,x55,x56,x57,x58,x59,x60,x61,x62,x63,x64,x65]) (h : Q [x0,x1,x2,x3,x4,x5,x6,x7,x8,x9,x10,x11,x12,x13,x14,x15,x16,x17,x18,x19,x20,x21,x22,x23,x24,x25,x26,x27,x28,x29,x30,x31,x32,x33,x34,x35,x36,x37,x38,x39,x40,x41,x42,x43,x44,x45,x46,x47,x48,x49,x50,x51,x52,x53,x54,x55,x56,x57,x58,x59,x60,x61,x62,x63,x64,x65] H) : OW c ν all [] i e H Q := by subst he; exact OW_nil h
variable {ν β ps pos' : Nm} {H : Heap} {Q : AVal → Heap → Prop} {L : List Asr} {k : Nat} {q : Nm} {c : Cf} {gs : Int}
def Pl.up (x : Pl) : Pl := ⟨x.vo, x.te, x.de, x.ep + 1, x.gr⟩
def bmpS (c : Cf) (a : Int) : Cf × Int × Int := match c.ps[(atP a c.ps).toNat]? with
  | some p => if atP a c.ps < 0 then (c, 0, 142) else if p.ep = 18446744073709551615 then (c, 0, 145) else (⟨c.qs, c.ps.set (atP a c.ps).toNat p.up, c.nx⟩, p.ep + 1, 0)
  | none => (c, 0, 142)
def svc (q : Nm) (c : Cf) (gs : Int) : Asr := Asr.ex fun p : AVal × AVal => Asr.all [row q 4 [.agg [p.1, p.2, .int .u64 c.nx, .int .i64 gs]], sl p.1 3 (c.qs.map Qu.enc), sl p.2 5 (c.ps.map Pl.enc)]
theorem Own.un_svc (h0 : Own β ps H (svc q c gs :: L)) : ∃ U V, Own β ps H (row q 4 [.agg [U, V, .int .u64 c.nx, .int .i64 gs]] :: sl U 3 (c.qs.map Qu.enc) :: sl V 5 (c.ps.map Pl.enc) :: L) := by
  obtain ⟨⟨U, V⟩, h1⟩ := Own.un_ex h0
  exact ⟨U, V, h1.un_all⟩
theorem Own.mk_svc {U V : AVal} (h0 : Own β ps H (row q 4 [.agg [U, V, .int .u64 c.nx, .int .i64 gs]] :: sl U 3 (c.qs.map Qu.enc) :: sl V 5 (c.ps.map Pl.enc) :: L)) : Own β ps H (svc q c gs :: L) :=
  Own.mk_ex (f := fun p : AVal × AVal => Asr.all [row q 4 [.agg [p.1, p.2, .int .u64 c.nx, .int .i64 gs]], sl p.1 3 (c.qs.map Qu.enc), sl p.2 5 (c.ps.map Pl.enc)]) (U, V) (Own.mk_all (L1 := [row q 4 [.agg [U, V, .int .u64 c.nx, .int .i64 gs]], sl U 3 (c.qs.map Qu.enc), sl V 5 (c.ps.map Pl.enc)]) h0)
theorem bmp_cases (hf : c.fit) (a : Int) : (atP a c.ps = -1 ∧ bmpS c a = (c, 0, 142)) ∨ ∃ h : (atP a c.ps).toNat < c.ps.length, 0 ≤ atP a c.ps ∧ (0 ≤ c.ps[(atP a c.ps).toNat].ep ∧ c.ps[(atP a c.ps).toNat].ep ≤ 18446744073709551615) ∧ bmpS c a = if c.ps[(atP a c.ps).toNat].ep = 18446744073709551615 then (c, 0, 145) else (⟨c.qs, c.ps.set (atP a c.ps).toNat c.ps[(atP a c.ps).toNat].up, c.nx⟩, c.ps[(atP a c.ps).toNat].ep + 1, 0) := by
  rcases atP_cases a c.ps with ⟨h1, h2⟩ | ⟨i, hi, h1, h2⟩
  · refine .inl ⟨h1, ?_⟩
    unfold bmpS
    rw [h1]
    split <;> rfl
  · refine .inr ⟨by omega, by omega, ?_, ?_⟩
    · obtain ⟨_, _, _, f4, _⟩ := hf.p c.ps[(atP a c.ps).toNat] (List.getElem_mem (by omega))
      exact f4
    · unfold bmpS
      rw [List.getElem?_eq_getElem (by omega)]
      simp only
      rw [if_neg (by omega)]
theorem bmp_c (hS : Own β ps H L) (hL : L[k]? = some (svc q c gs)) (hle : le ps ν) (hβ : under β ν = true) (hp : before ν pos') (hf : c.fit) (a b : Int)
    (hq : ∀ H1, Own β pos' H1 (L.set k (svc q (bmpS c a).1 gs)) → Q (.tup [.int .u64 (bmpS c a).2.1, .int .i64 (bmpS c a).2.2]) H1) : CW cfg ν 36 [.ptr q 0 0, .int .u64 a, .int .u64 b] H Q := by
  have hlp := hf.lp
  obtain ⟨U, V, hS⟩ := (hS.pick hL).un_svc
  have hr := bmp_cases hf a
  refine CW_keep g36 F36 rfl ?_
  replace hS := Own.mono hS hle
  refine XW_sr ?_
  refine OW_as rfl rfl ?_
  refine OW_as rfl rfl ?_
  refine EZ50_CG0 rfl ?_
  refine XW_sr ?_
  refine OW_mv rfl rfl ?_
  first
  | refine OW_nc rfl rfl ?_
  | refine OW_nce rfl rfl ?_
  refine OW_fa rfl rfl rfl ?_
  refine EN50_CG0 rfl ?_
  refine OW_loadR hS (k := 0) rfl rfl rfl rfl rfl (by first | exact part_whole rfl rfl rfl | rfl) ?_
  refine OW_mv rfl rfl ?_
  refine OW_fn rfl rfl (cf_find (c := c) (frC (hS.freeze0 (k := 1) rfl (map_plain (fun _ => rfl))) (hS.freeze0 (k := 2) rfl (map_plain (fun _ => rfl)))) (by omega) _ ?_) 
  refine EN50_CG0 rfl ?_
  refine OW_as rfl rfl ?_
  refine EZ50_CG0 rfl ?_
  refine XW_seq ?_
  refine XW_block ?_
  refine XW_sr ?_
  generalize atP a c.ps = at0 at *
  refine OW_mv rfl rfl ?_
  refine OW_bin rfl rfl rfl rfl rfl ?_
  refine OW_as rfl rfl ?_
  refine EZ50_CG0 rfl ?_
  refine XW_if rfl (fun h2 => ?_) (fun h2 => ?_)
  ·try simp only [bs] at h2
   refine XW_sr ?_
   refine OW_as rfl rfl ?_
   refine OW_as rfl rfl ?_
   refine EZ50_CG0 rfl ?_
   refine XW_ret ?_
   refine block_ret ?_
   refine then_ret ?_
   -- outcome 1
   refine ret_ret (res2 rfl (rv_tmp rfl) (rv_tmp rfl)) ?_
   obtain ⟨_, hrb⟩ | ⟨hlt, hr0, hre, hrb⟩ := hr
   · rw [hrb] at hq; exact hq _ (Own.unpick (Own.mk_svc (Own.mono hS (le_bef hp))) hL)
   · omega
  ·try simp only [bs] at h2
   obtain ⟨hr0, _⟩ | ⟨hlt, hr0, hre, hrb⟩ := hr
   · omega
   refine XW_sr ?_
   refine OW_mv rfl rfl ?_
   first
   | refine OW_nc rfl rfl ?_
   | refine OW_nce rfl rfl ?_
   refine OW_fa rfl rfl rfl ?_
   refine EN50_CG0 rfl ?_
   refine OW_fa rfl rfl rfl ?_
   refine OW_loadR hS (k := 0) rfl rfl rfl rfl rfl (by first | exact part_whole rfl rfl rfl | rfl) ?_
   refine OW_mv rfl rfl ?_
   refine EN50_CG0 rfl ?_
   refine OW_iaO hS (k := 2) rfl rfl rfl rfl rfl rfl rfl rfl (by first | rfl | exact (Int.toNat_of_nonneg (by omega)).symm) (by first | assumption | exact at_map (by first | assumption | omega) | exact at_lst (by omega) | rfl) fun q1 ys1 hO1 hq1 ht1 hy1 hu1 => ?_
   subst hO1
   refine OW_fa rfl rfl rfl ?_
   refine OW_loadP rfl rfl hq1 hy1 rfl (by first | exact part_whole rfl rfl rfl | rfl) ?_
   refine EN50_CG0 rfl ?_
   refine OW_bin rfl rfl rfl rfl rfl ?_
   refine OW_as rfl rfl ?_
   refine EZ50_CG0 rfl ?_
   refine XW_if rfl (fun h4 => ?_) (fun h4 => ?_)
   ·try simp only [bs] at h4
    refine XW_sr ?_
    refine OW_as rfl rfl ?_
    refine OW_as rfl rfl ?_
    refine EZ50_CG0 rfl ?_
    refine XW_ret ?_
    refine block_ret ?_
    refine then_ret ?_
    -- outcome 2
    refine ret_ret (res2 rfl (rv_tmp rfl) (rv_tmp rfl)) ?_
    rw [hrb, if_pos (by omega)] at hq; exact hq _ (Own.unpick (Own.mk_svc (Own.mono hS (le_bef hp))) hL)
   ·try simp only [bs] at h4
    refine XW_skip ?_
    refine block_norm ?_
    refine then_norm ?_
    refine XW_sr ?_
    refine OW_mv rfl rfl ?_
    first
    | refine OW_nc rfl rfl ?_
    | refine OW_nce rfl rfl ?_
    refine OW_fa rfl rfl rfl ?_
    refine EN50_CG0 rfl ?_
    refine OW_fa rfl rfl rfl ?_
    refine OW_loadR hS (k := 0) rfl rfl rfl rfl rfl (by first | exact part_whole rfl rfl rfl | rfl) ?_
    refine OW_mv rfl rfl ?_
    refine EN50_CG0 rfl ?_
    refine OW_iaO hS (k := 2) rfl rfl rfl rfl rfl rfl rfl rfl (by first | rfl | exact (Int.toNat_of_nonneg (by omega)).symm) (by first | assumption | exact at_map (by first | assumption | omega) | exact at_lst (by omega) | rfl) fun q2 ys2 hO2 hq2 ht2 hy2 hu2 => ?_
    obtain rfl : q1 = q2 := (AVal.slc.inj hO2).1
    refine OW_fa rfl rfl rfl ?_
    refine OW_loadP rfl rfl hq2 hy2 rfl (by first | exact part_whole rfl rfl rfl | rfl) ?_
    refine EN50_CG0 rfl ?_
    first
    | refine OW_bin rfl rfl rfl rfl (add_wu64 (by first | omega | assumption | (simp only [ss]; omega))) ?_
    | refine OW_bin rfl rfl rfl rfl rfl ?_
    refine OW_iaO hS (k := 2) rfl rfl rfl rfl rfl rfl rfl rfl (by first | rfl | exact (Int.toNat_of_nonneg (by omega)).symm) (by first | assumption | exact at_map (by first | assumption | omega) | exact at_lst (by omega) | rfl) fun q3 ys3 hO3 hq3 ht3 hy3 hu3 => ?_
    obtain rfl : q1 = q3 := (AVal.slc.inj hO3).1
    refine OW_fa rfl rfl rfl ?_
    refine EN50_CG0 rfl ?_
    refine OW_storeO hS (k := 2) rfl (le_app (p := ν) (b := [12, 0, 1, 1, 1])) rfl rfl rfl rfl hu3 ⟨rfl, rfl, Nat.le_of_ble_eq_true rfl⟩ (u2 := .agg [_, _, _, _, _]) rfl fun H1 hS1 => ?_
    replace hS1 : Own _ _ _ (_ :: _ :: _ :: L.eraseIdx k) := hS1
    refine EZ50_CG0 rfl ?_
    refine XW_sr ?_
    obtain ⟨m, hm⟩ : ∃ m, m = c.ps.set at0.toNat c.ps[at0.toNat].up := ⟨_, rfl⟩
    replace hS1 := hS1.reS (k := 2) rfl (show _ = m.map Pl.enc by rw [hm, List.map_set]; rfl)
    have hml : m.length = c.ps.length := by rw [hm, List.length_set]
    have hll : (List.map Pl.enc c.ps).length = (List.map Pl.enc m).length := by rw [List.length_map, List.length_map, hml]
    rw [hll] at hS1 ⊢
    have hme : (m[at0.toNat]'(by omega)).ep = c.ps[at0.toNat].ep + 1 := by simp [hm, Pl.up]
    refine OW_mv rfl rfl ?_
    first
    | refine OW_nc rfl rfl ?_
    | refine OW_nce rfl rfl ?_
    refine OW_fa rfl rfl rfl ?_
    refine EN50_CG0 rfl ?_
    refine OW_fa rfl rfl rfl ?_
    refine OW_loadR hS1 (k := 0) rfl rfl rfl rfl rfl (by first | exact part_whole rfl rfl rfl | rfl) ?_
    refine OW_mv rfl rfl ?_
    refine EN50_CG0 rfl ?_
    refine OW_iaO hS1 (k := 2) rfl rfl rfl rfl rfl rfl rfl rfl (by first | rfl | exact (Int.toNat_of_nonneg (by omega)).symm) (by first | assumption | exact at_map (by first | assumption | omega) | exact at_lst (by omega) | rfl) fun q4 ys4 hO4 hq4 ht4 hy4 hu4 => ?_
    obtain rfl : q1 = q4 := (AVal.slc.inj hO4).1
    refine OW_fa rfl rfl rfl ?_
    refine OW_loadP rfl rfl hq4 hy4 rfl (by first | exact part_whole rfl rfl rfl | rfl) ?_
    refine EN50_CG0 rfl ?_
    refine OW_as rfl rfl ?_
    refine OW_as rfl rfl ?_
    refine EZ50_CG0 rfl ?_
    refine XW_ret ?_
    -- outcome 3
    refine ret_ret (res2 rfl (rv_tmp rfl) (rv_tmp rfl)) ?_
    rw [hrb, if_neg (by omega), ← hm] at hq; rw [hme]; exact hq _ (Own.unpick (Own.mk_svc (c := ⟨c.qs, m, c.nx⟩) (Own.mono hS1 (le_bef (bef_app (a := [13, 0, 1, 1, 1]) hp)))) hL)
theorem p_run_2 {U V : AVal} (hU : Ls U (c.qs.map Qu.enc)) (hV : Ls V (c.ps.map Pl.enc)) {a b : Int} (hf : c.fit) (hg : ¬ (gs < 1 ∨ 4 < gs)) (hq : Q (.tup [(bmpS c a).1.enc, .int .i64 (bmpS c a).2.2, .int .u64 (bmpS c a).2.1]) H) : CW cfg ν 10 [.agg [U, V, .int .u64 c.nx], .int .i64 gs, .int .i64 2, .int .u64 a, .int .u64 b] H Q := by
  have hlp := hf.lp; have hlq := hf.lq
  skip
  refine CW_pure g10 F10 rfl ?_
  have hS0 : Own ν ν (fun _ => none) [] := Own.nil
  refine XW_sr ?_
  refine OW_boxR hS0 (le_app (p := ν) (b := [0, 0])) (under_app [0, 0] under_me) rfl rfl rfl ⟨rfl, rfl⟩ fun H1 hS1 => ?_
  replace hS1 : Own _ _ _ ([_]) := hS1
  refine OW_allocR hS1 le_refl (under_app [1, 0] under_me) rfl rfl rfl rfl fun H2 hS2 => ?_
  replace hS2 : Own _ _ _ ([_, _]) := hS2
  refine OW_as rfl rfl ?_
  refine EN66_CG0 rfl ?_
  refine OW_as rfl rfl ?_
  refine EZ66_CG0 rfl ?_
  refine XW_srF (qs := [0 :: 0 :: ν]) rfl rfl ?_
  have hSF1 : Own _ _ _ ([_, _]) := (Own.hide (Own.hide0 hS2) (k := 1) rfl)
  refine OWF_op rfl ?_
  refine OW_fa rfl rfl rfl ?_
  refine OW_nil ?_
  refine OWF_fl rfl ?_
  refine OW_loadK hS2 (k := 1) rfl (by simp) rfl rfl rfl rfl (by first | exact part_whole rfl rfl rfl | rfl) ?_
  refine OW_nil ?_
  refine OWF_op rfl ?_
  refine OW_fn rfl rfl (Qu.clone hU hSF1 (le_lit (ν := ν) (a := [2, 0]) (b := [2, 0, 1]) (by decide)) (under_app [2, 0, 1] under_me) (before_lit (ν := ν) (a := [2, 0, 1]) (b := [3, 0, 1]) (by decide)) (by omega) fun O1 H3 hS3 => ?_) 
  replace hS3 : Own _ _ _ ([_, _, _]) := hS3
  refine OW_nil ?_
  refine OWF_env (e' := [_,_,_,_,_,_,_,_,_,_,_,_,_,_,_,_,_,_,_,_,_,_,_,_,_,_,_,_,_,_,_,_,_,_,_,_,_,_,_,_,_,_,_,_,_,_,_,_,_,_,_,_,_,_,_,_,_,_,_,_,_,_,_,_,_,_]) rfl ?_
  refine OWF_op rfl ?_
  refine OW_fa rfl rfl rfl ?_
  refine OW_nil ?_
  refine OWF_fl rfl ?_
  refine OW_loadK hS2 (k := 1) rfl (by simp) rfl rfl rfl rfl (by first | exact part_whole rfl rfl rfl | rfl) ?_
  refine OW_nil ?_
  refine OWF_op rfl ?_
  refine OW_fn rfl rfl (Pl.clone hV hS3 (le_lit (ν := ν) (a := [3, 0, 1]) (b := [5, 0, 1]) (by decide)) (under_app [5, 0, 1] under_me) (before_lit (ν := ν) (a := [5, 0, 1]) (b := [6, 0, 1]) (by decide)) (by omega) fun O2 H4 hS4 => ?_) 
  replace hS4 : Own _ _ _ ([_, _, _, _]) := hS4
  refine OW_nil ?_
  refine OWF_env (e' := [_,_,_,_,_,_,_,_,_,_,_,_,_,_,_,_,_,_,_,_,_,_,_,_,_,_,_,_,_,_,_,_,_,_,_,_,_,_,_,_,_,_,_,_,_,_,_,_,_,_,_,_,_,_,_,_,_,_,_,_,_,_,_,_,_,_]) rfl ?_
  refine OWF_op rfl ?_
  refine OW_fa rfl rfl rfl ?_
  refine OW_nil ?_
  refine OWF_fl rfl ?_
  refine OW_loadK hS2 (k := 1) rfl (by simp) rfl rfl rfl rfl (by first | exact part_whole rfl rfl rfl | rfl) ?_
  refine OW_nil ?_
  refine OWF_op rfl ?_
  refine OW_bdP rfl (pcons rfl (hS4.one (k := 1) rfl).1 (pcons rfl (hS4.one (k := 0) rfl).1 (pcons rfl rfl rfl))) rfl rfl rfl (cs := [_, _, _]) (fill1 rfl (hS4.one (k := 1) rfl).2 rfl (Nat.le_of_ble_eq_true rfl) rfl (fill1 rfl (hS4.one (k := 0) rfl).2 rfl (Nat.le_of_ble_eq_true rfl) rfl (fill1 rfl rfl rfl (Nat.le_of_ble_eq_true rfl) rfl rfl))) ?_
  refine OW_nil ?_
  refine OWF_env (e' := [_,_,_,_,_,_,_,_,_,_,_,_,_,_,_,_,_,_,_,_,_,_,_,_,_,_,_,_,_,_,_,_,_,_,_,_,_,_,_,_,_,_,_,_,_,_,_,_,_,_,_,_,_,_,_,_,_,_,_,_,_,_,_,_,_,_]) rfl ?_
  refine OWF_op rfl ?_
  refine OW_mv rfl rfl ?_
  refine OW_nil ?_
  refine OWF_op rfl ?_
  refine OW_bd rfl rfl (v := .agg [_, _, _, _]) rfl ?_
  refine OW_nil ?_
  refine OWF_op rfl ?_
  refine OW_boxR hS4 (le_lit (ν := ν) (a := [6, 0, 1]) (b := [11, 0, 1]) (by decide)) (under_app [11, 0, 1] under_me) rfl rfl rfl ⟨rfl, rfl⟩ fun H5 hS5 => ?_
  replace hS5 : Own _ _ _ ([_, _, _, _, _]) := hS5
  refine OW_nil ?_
  refine OWF_env (e' := [_,_,_,_,_,_,_,_,_,_,_,_,_,_,_,_,_,_,_,_,_,_,_,_,_,_,_,_,_,_,_,_,_,_,_,_,_,_,_,_,_,_,_,_,_,_,_,_,_,_,_,_,_,_,_,_,_,_,_,_,_,_,_,_,_,_]) rfl ?_
  refine OWF_op rfl ?_
  refine OW_as rfl rfl ?_
  refine OW_nil ?_
  refine OWF_nilE (e' := [_,_,_,_,_,_,_,_,_,_,_,_,_,_,_,_,_,_,_,_,_,_,_,_,_,_,_,_,_,_,_,_,_,_,_,_,_,_,_,_,_,_,_,_,_,_,_,_,_,_,_,_,_,_,_,_,_,_,_,_,_,_,_,_,_,_]) rfl ?_
  have hSB1 : Own _ _ _ ([_, _, _, _, _]) := (Own.back hS2 (k := 1) rfl (Own.back0 hS5) (k' := 4) rfl)
  refine XW_sr ?_
  refine OW_mv rfl rfl ?_
  refine OW_mfb rfl (by decide) rfl ?_
  refine OW_mv rfl rfl ?_
  refine EN66_CG0 rfl ?_
  refine OW_mfb rfl (by decide) rfl ?_
  refine OW_mv rfl rfl ?_
  refine OW_mfb rfl (by decide) rfl ?_
  refine EN66_CG0 rfl ?_
  refine OW_bd rfl rfl (v := .agg [_, _, _]) rfl ?_
  refine OW_allocR hSB1 (le_lit (ν := ν) (a := [12, 0, 1]) (b := [7, 0, 1, 1]) (by decide)) (under_app [7, 0, 1, 1] under_me) rfl rfl rfl rfl fun H6 hS6 => ?_
  replace hS6 : Own _ _ _ ([_, _, _, _, _, _]) := hS6
  first
  | refine OW_storeR hS6 (k := 0) rfl le_refl rfl rfl rfl rfl ⟨rfl, rfl, Nat.le_of_ble_eq_true rfl⟩ (set_whole rfl rfl) fun H7 hS7 => ?_
  | refine OW_storeR hS6 (k := 0) rfl le_refl rfl rfl rfl rfl ⟨rfl, rfl, Nat.le_of_ble_eq_true rfl⟩ (u2 := .agg [_, _, _]) rfl fun H7 hS7 => ?_
  replace hS7 : Own _ _ _ ([_, _, _, _, _, _]) := hS7
  refine EZ66_CG0 rfl ?_
  refine XW_seq ?_
  refine XW_sr ?_
  refine OW_mv rfl rfl ?_
  refine OW_fn rfl rfl (c_grouped ?_) 
  refine OW_un rfl rfl rfl ?_
  refine EN66_CG0 rfl ?_
  refine OW_mv rfl rfl ?_
  refine OW_split (tt := 39) rfl (fun g3_4 => ?_) (fun g3_4 => ?_)
  ·first
   |(exfalso; (try simp only [bs] at g3_4) <;> (first | omega | contradiction); done)
   |skip
    try simp only [bs] at g3_4
    refine OW_no rfl ?_
    refine EN66_CG0 rfl ?_
    refine OW_no rfl ?_
    refine OW_pick rfl rfl rfl ?_
    refine OW_mv rfl rfl ?_
    refine EN66_CG0 rfl ?_
    refine OW_no rfl ?_
    refine OW_no rfl ?_
    refine OW_pick rfl rfl rfl ?_
    refine EZ66_CG0 rfl ?_
    refine XW_yes rfl rfl ?_
    refine XW_sr ?_
    refine OW_mv rfl rfl ?_
    first
    | refine OW_nc rfl rfl ?_
    | refine OW_nce rfl rfl ?_
    refine OW_fa rfl rfl rfl ?_
    refine EN66_CG0 rfl ?_
    refine OW_loadR hS7 (k := 1) rfl rfl rfl rfl rfl (by first | exact part_whole rfl rfl rfl | rfl) ?_
    first
    | refine OW_storeR hS7 (k := 4) rfl (le_lit (ν := ν) (a := [9, 0, 1, 1]) (b := [4, 0, 1, 0, 1, 1, 1]) (by decide)) rfl rfl rfl rfl ⟨rfl, rfl, Nat.le_of_ble_eq_true rfl⟩ (set_whole rfl rfl) fun H8 hS8 => ?_
    | refine OW_storeR hS7 (k := 4) rfl (le_lit (ν := ν) (a := [9, 0, 1, 1]) (b := [4, 0, 1, 0, 1, 1, 1]) (by decide)) rfl rfl rfl rfl ⟨rfl, rfl, Nat.le_of_ble_eq_true rfl⟩ (u2 := .agg [_, _, _]) rfl fun H8 hS8 => ?_
    replace hS8 : Own _ _ _ ([_, _, _, _, _, _]) := hS8
    refine OW_as rfl rfl ?_
    refine EN66_CG0 rfl ?_
    refine OW_as rfl rfl ?_
    refine EZ66_CG0 rfl ?_
    refine XW_ret ?_
    refine then_ret ?_
    -- outcome 1
    have fz2 := hS8.frz (k := 2) (n := 5) rfl (by first | exact map_plain (fun _ => rfl) | (intro x hx; simp at hx; done))
    have fz3 := hS8.frz (k := 3) (n := 5) rfl (by first | exact map_plain (fun _ => rfl) | (intro x hx; simp at hx; done))
    refine ret_ret (res3 rfl (rv_cellR hS8 (k := 4) rfl rfl rfl rfl (by first | exact part_whole rfl rfl rfl | rfl)) (rv_tmp rfl) (rv_tmp rfl)) (frz3 (Q := Q) (by first | exact freeze_plain rfl | exact Ls.freeze (by assumption) | exact Ls.freeze Ls.of | exact Ls.freeze Ls.emp | exact Ls.freeze Ls.nls | exact frA (frAc (by first | exact freeze_plain rfl | assumption | exact Ls.freeze Ls.of | exact Ls.freeze Ls.emp | exact Ls.freeze Ls.nls | exact Ls.freeze (by assumption)) (frAc (by first | exact freeze_plain rfl | assumption | exact Ls.freeze Ls.of | exact Ls.freeze Ls.emp | exact Ls.freeze Ls.nls | exact Ls.freeze (by assumption)) (frAc (by first | exact freeze_plain rfl | assumption | exact Ls.freeze Ls.of | exact Ls.freeze Ls.emp | exact Ls.freeze Ls.nls | exact Ls.freeze (by assumption)) frAn)))) (by first | exact freeze_plain rfl | exact Ls.freeze (by assumption) | exact Ls.freeze Ls.of | exact Ls.freeze Ls.emp | exact Ls.freeze Ls.nls) (by first | exact freeze_plain rfl | exact Ls.freeze (by assumption) | exact Ls.freeze Ls.of | exact Ls.freeze Ls.emp | exact Ls.freeze Ls.nls) ?_)
    first
    | exact hq
    | (refine qcast hq ?_; rfl)
    | (refine qcast hq ?_; simp; done)
    | (refine qcast hq ?_; simp; omega)
    | (refine qcast hq ?_; simp_all; done)
  ·first
   |(exfalso; (try simp only [bs] at g3_4) <;> (first | omega | contradiction); done)
   |skip
    try simp only [bs] at g3_4
    refine OW_mv rfl rfl ?_
    refine EN66_CG0 rfl ?_
    refine OW_bin rfl rfl rfl rfl rfl ?_
    refine OW_pick rfl rfl rfl ?_
    refine OW_mv rfl rfl ?_
    refine EN66_CG0 rfl ?_
    refine OW_split (tt := 43) rfl (fun g3_8 => ?_) (fun g3_8 => ?_)
    ·first
     |(exfalso; (try simp only [bs] at g3_8) <;> (first | omega | contradiction); done)
     |skip
      try simp only [bs] at g3_8
      refine OW_no rfl ?_
      refine OW_no rfl ?_
      refine EN66_CG0 rfl ?_
      refine OW_pick rfl rfl rfl ?_
      refine EZ66_CG0 rfl ?_
      refine XW_yes rfl rfl ?_
      refine XW_sr ?_
      refine OW_mv rfl rfl ?_
      first
      | refine OW_nc rfl rfl ?_
      | refine OW_nce rfl rfl ?_
      refine OW_fa rfl rfl rfl ?_
      refine EN66_CG0 rfl ?_
      refine OW_loadR hS7 (k := 1) rfl rfl rfl rfl rfl (by first | exact part_whole rfl rfl rfl | rfl) ?_
      first
      | refine OW_storeR hS7 (k := 4) rfl (le_lit (ν := ν) (a := [9, 0, 1, 1]) (b := [4, 0, 1, 0, 1, 1, 1]) (by decide)) rfl rfl rfl rfl ⟨rfl, rfl, Nat.le_of_ble_eq_true rfl⟩ (set_whole rfl rfl) fun H9 hS9 => ?_
      | refine OW_storeR hS7 (k := 4) rfl (le_lit (ν := ν) (a := [9, 0, 1, 1]) (b := [4, 0, 1, 0, 1, 1, 1]) (by decide)) rfl rfl rfl rfl ⟨rfl, rfl, Nat.le_of_ble_eq_true rfl⟩ (u2 := .agg [_, _, _]) rfl fun H9 hS9 => ?_
      replace hS9 : Own _ _ _ ([_, _, _, _, _, _]) := hS9
      refine OW_as rfl rfl ?_
      refine EN66_CG0 rfl ?_
      refine OW_as rfl rfl ?_
      refine EZ66_CG0 rfl ?_
      refine XW_ret ?_
      refine then_ret ?_
      -- outcome 2
      have fz2 := hS9.frz (k := 2) (n := 5) rfl (by first | exact map_plain (fun _ => rfl) | (intro x hx; simp at hx; done))
      have fz3 := hS9.frz (k := 3) (n := 5) rfl (by first | exact map_plain (fun _ => rfl) | (intro x hx; simp at hx; done))
      refine ret_ret (res3 rfl (rv_cellR hS9 (k := 4) rfl rfl rfl rfl (by first | exact part_whole rfl rfl rfl | rfl)) (rv_tmp rfl) (rv_tmp rfl)) (frz3 (Q := Q) (by first | exact freeze_plain rfl | exact Ls.freeze (by assumption) | exact Ls.freeze Ls.of | exact Ls.freeze Ls.emp | exact Ls.freeze Ls.nls | exact frA (frAc (by first | exact freeze_plain rfl | assumption | exact Ls.freeze Ls.of | exact Ls.freeze Ls.emp | exact Ls.freeze Ls.nls | exact Ls.freeze (by assumption)) (frAc (by first | exact freeze_plain rfl | assumption | exact Ls.freeze Ls.of | exact Ls.freeze Ls.emp | exact Ls.freeze Ls.nls | exact Ls.freeze (by assumption)) (frAc (by first | exact freeze_plain rfl | assumption | exact Ls.freeze Ls.of | exact Ls.freeze Ls.emp | exact Ls.freeze Ls.nls | exact Ls.freeze (by assumption)) frAn)))) (by first | exact freeze_plain rfl | exact Ls.freeze (by assumption) | exact Ls.freeze Ls.of | exact Ls.freeze Ls.emp | exact Ls.freeze Ls.nls) (by first | exact freeze_plain rfl | exact Ls.freeze (by assumption) | exact Ls.freeze Ls.of | exact Ls.freeze Ls.emp | exact Ls.freeze Ls.nls) ?_)
      first
      | exact hq
      | (refine qcast hq ?_; rfl)
      | (refine qcast hq ?_; simp; done)
      | (refine qcast hq ?_; simp; omega)
      | (refine qcast hq ?_; simp_all; done)
    ·first
     |(exfalso; (try simp only [bs] at g3_8) <;> (first | omega | contradiction); done)
     |skip
      try simp only [bs] at g3_8
      refine OW_mv rfl rfl ?_
      refine OW_bin rfl rfl rfl rfl rfl ?_
      refine EN66_CG0 rfl ?_
      refine OW_pick rfl rfl rfl ?_
      refine EZ66_CG0 rfl ?_
      refine XW_if rfl (fun h3 => ?_) (fun h3 => ?_)
      · exfalso; (try simp only [bs] at h3) <;> (omega)
      ·first
       |(exfalso; (try simp only [bs] at h3) <;> (first | omega | contradiction); done)
       |skip
        try simp only [bs] at h3
        refine XW_skip ?_
        refine then_norm ?_
        refine XW_sr ?_
        replace hS7 := Own.mk_svc (c := c) (Own.rot (A := [_]) (Own.pick (Own.rot (A := [_, _, _]) hS7) (k := 2) rfl))
        refine OW_mv rfl rfl ?_
        refine OW_ia rfl rfl rfl (by first | rfl | exact ia_arr rfl rfl rfl (by omega) (by omega)) ?_
        refine OW_loadR hS7 (k := 1) rfl rfl rfl rfl rfl (by first | exact part_whole rfl rfl rfl | rfl) ?_
        refine EN66_CG0 rfl ?_
        refine OW_mv rfl rfl ?_
        refine OW_mv rfl rfl ?_
        refine OW_fvb rfl rfl rfl (bmp_c hS7 (k := 0) rfl (le_lit (ν := ν) (a := [9, 0, 1, 1]) (b := [5, 0, 1, 1, 1, 1]) (by decide)) (under_app [5, 0, 1, 1, 1, 1] under_me) (before_lit (ν := ν) (a := [5, 0, 1, 1, 1, 1]) (b := [6, 0, 1, 1, 1, 1]) (by decide)) hf _ _ fun H10 hS10 => ?_)
        replace hS10 : Own _ _ _ ([_, _, _, _]) := hS10
        refine EN66_CG0 rfl ?_
        refine OW_mv rfl rfl ?_
        refine OW_ex rfl rfl rfl ?_
        refine OW_ex rfl rfl rfl ?_
        refine EN66_CG0 rfl ?_
        refine OW_as rfl rfl ?_
        refine OW_as rfl rfl ?_
        refine EZ66_CG0 rfl ?_
        refine XW_sr ?_
        obtain ⟨U2, V2, hz⟩ := Own.un_svc hS10
        replace hS10 := hz
        refine OW_mv rfl rfl ?_
        first
        | refine OW_nc rfl rfl ?_
        | refine OW_nce rfl rfl ?_
        refine OW_fa rfl rfl rfl ?_
        refine EN66_CG0 rfl ?_
        refine OW_loadR hS10 (k := 0) rfl rfl rfl rfl rfl (by first | exact part_whole rfl rfl rfl | rfl) ?_
        refine OW_mv rfl rfl ?_
        refine OW_mv rfl rfl ?_
        refine EN66_CG0 rfl ?_
        first
        | refine OW_storeR hS10 (k := 4) rfl (le_lit (ν := ν) (a := [6, 0, 1, 1, 1, 1]) (b := [6, 0, 1, 1, 1, 1, 1]) (by decide)) rfl rfl rfl rfl ⟨rfl, rfl, Nat.le_of_ble_eq_true rfl⟩ (set_whole rfl rfl) fun H11 hS11 => ?_
        | refine OW_storeR hS10 (k := 4) rfl (le_lit (ν := ν) (a := [6, 0, 1, 1, 1, 1]) (b := [6, 0, 1, 1, 1, 1, 1]) (by decide)) rfl rfl rfl rfl ⟨rfl, rfl, Nat.le_of_ble_eq_true rfl⟩ (u2 := .agg [_, _, _]) rfl fun H11 hS11 => ?_
        replace hS11 : Own _ _ _ ([_, _, _, _, _, _]) := hS11
        refine OW_as rfl rfl ?_
        refine OW_as rfl rfl ?_
        refine EZ66_CG0 rfl ?_
        refine XW_ret ?_
        -- outcome 3
        have fz1 := hS11.frz (k := 1) (n := 5) rfl (by first | exact map_plain (fun _ => rfl) | (intro x hx; simp at hx; done))
        have fz2 := hS11.frz (k := 2) (n := 5) rfl (by first | exact map_plain (fun _ => rfl) | (intro x hx; simp at hx; done))
        refine ret_ret (res3 rfl (rv_cellR hS11 (k := 4) rfl rfl rfl rfl (by first | exact part_whole rfl rfl rfl | rfl)) (rv_tmp rfl) (rv_tmp rfl)) (frz3 (Q := Q) (by first | exact freeze_plain rfl | exact Ls.freeze (by assumption) | exact Ls.freeze Ls.of | exact Ls.freeze Ls.emp | exact Ls.freeze Ls.nls | exact frA (frAc (by first | exact freeze_plain rfl | assumption | exact Ls.freeze Ls.of | exact Ls.freeze Ls.emp | exact Ls.freeze Ls.nls | exact Ls.freeze (by assumption)) (frAc (by first | exact freeze_plain rfl | assumption | exact Ls.freeze Ls.of | exact Ls.freeze Ls.emp | exact Ls.freeze Ls.nls | exact Ls.freeze (by assumption)) (frAc (by first | exact freeze_plain rfl | assumption | exact Ls.freeze Ls.of | exact Ls.freeze Ls.emp | exact Ls.freeze Ls.nls | exact Ls.freeze (by assumption)) frAn)))) (by first | exact freeze_plain rfl | exact Ls.freeze (by assumption) | exact Ls.freeze Ls.of | exact Ls.freeze Ls.emp | exact Ls.freeze Ls.nls) (by first | exact freeze_plain rfl | exact Ls.freeze (by assumption) | exact Ls.freeze Ls.of | exact Ls.freeze Ls.emp | exact Ls.freeze Ls.nls) ?_)
        first
        | exact hq
        | (refine qcast hq ?_; rfl)
        | (refine qcast hq ?_; simp; done)
        | (refine qcast hq ?_; simp; omega)
        | (refine qcast hq ?_; simp_all; done)
end Go.Proofs.Ytealccnfnpkngaa.X
