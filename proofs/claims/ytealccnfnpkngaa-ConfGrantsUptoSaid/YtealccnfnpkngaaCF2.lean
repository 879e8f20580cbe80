/- Layer 14: states of the configuration service: places, find, Check, Load, Least, Is. -/
import Derived.Test.YtealccnfnpkngaaQ4
import Derived.Test.YtealccnfnpkngaaWM
import Derived.Test.YtealccnfnpkngaaMp
set_option linter.unusedVariables false
set_option linter.unusedSimpArgs false
set_option maxRecDepth 100000
namespace Go.Proofs.Ytealccnfnpkngaa.X
open Go Go.RowKit WM
theorem EN56_CF2 {c : Cfg} {ν : Nm} {e : Env} {H : Heap} {all : Array Oper} {r : List Oper} {i : Nat} {Q : Env → Heap → Prop} {x0 x1 x2 x3 x4 x5 x6 x7 x8 x9 x10 x11 x12 x13 x14 x15 x16 x17 x18 x19 x20 x21 x22 x23 x24 x25 x26 x27 x28 x29 x30 x31 x32 x33 x34 x35 x36 x37 x38 x39 x40 x41 x42 x43 x44 x45 x46 x47 x48 x49 x50 x51 x52 x53 x54 x55 : AVal} (he : e = [x0,x1,x2,x3,x4,x5,x6,x7,x8,x9,x10,x11,x12,x13,x14,x15,x16,x17,x18,x19,x20,x21,x22,x23,x24,x25,x26,x27,x28,x29,x30,x31,x32,x33,x34,x35,x36,x37,x38,x39,x40,x41,x42,x43,x44,x45,x46,x47,x48,x49,x50,x51,x52,x53,x54,x55]) (h : OW c ν all r i [x0,x1,x2,x3,x4,x5,x6,x7,x8,x9,x10,x11,x12,x13,x14,x15,x16,x17,x18,x19,x20,x21,x22,x23,x24,x25,x26,x27,x28,x29,x30,x31,x32,x33,x34,x35,x36,x37,x38,x39,x40,x41,x42,x43,x44,x45,x46,x47,x48,x49,x50,x51,x52,x53,x54,x55] H Q) : OW c ν all r i e H Q := by subst he; exact h
theorem EZ56_CF2 {c : Cfg} {ν : Nm} {e : Env} {H : Heap} {all : Array Oper} {i : Nat} {Q : Env → Heap → Prop} {x0 x1 x2 x3 x4 x5 x6 x7 x8 x9 x10 x11 x12 x13 x14 x15 x16 x17 x18 x19 x20 x21 x22 x23 x24 x25 x26 x27 x28 x29 x30 x31 x32 x33 x34 x35 x36 x37 x38 x39 x40 x41 x42 x43 x44 x45 x46 x47 x48 x49 x50 x51 x52 x53 x54 x55 : AVal} (he : e = [x0,x1,x2,x3,x4,x5,x6,x7,x8,x9,x10,x11,x12,x13,x14,x15,x16,x17,x18,x19,x20,x21,x22,x23,x24,x25,x26,x27,x28,x29,x30,x31,x32,x33,x34,x35,x36,x37,x38,x39,x40,x41,x42,x43,x44,x45,x46,x47,x48,x49,x50,x51,x52,x53,x54,x55]) (h : Q [x0,x1,x2,x3,x4,x5,x6,x7,x8,x9,x10,x11,x12,x13,x14,x15,x16,x17,x18,x19,x20,x21,x22,x23,x24,x25,x26,x27,x28,x29,x30,x31,x32,x33,x34,x35,x36,x37,x38,x39,x40,x41,x42,x43,x44,x45,x46,x47,x48,x49,x50,x51,x52,x53,x54,x55] H) : OW c ν all [] i e H Q := by subst he; exact OW_nil h
variable {ν β ps pos' : Nm} {H : Heap} {Q : AVal → Heap → Prop} {L : List Asr} {k : Nat}
structure Pl where
  vo : Int
  te : Int
  de : Int
  ep : Int
  gr : Int
  deriving DecidableEq
def Pl.enc (x : Pl) : AVal := .agg [.int .u64 x.vo, .int .u64 x.te, .int .u64 x.de, .int .u64 x.ep, .int .u64 x.gr]
structure Cf where
  qs : List Qu
  ps : List Pl
  nx : Int
  deriving DecidableEq
abbrev Cf.enc (c : Cf) : AVal := .agg [.lst (c.qs.map Qu.enc), .lst (c.ps.map Pl.enc), .int .u64 c.nx]
theorem Pl.ne (a b : Pl) : aBin cfg.T .neq 38 a.enc b.enc = some (.bool (decide (a ≠ b))) := by
  have e : (decide (a ≠ b)) = !(decide (a.vo = b.vo) && (decide (a.te = b.te) && (decide (a.de = b.de) && (decide (a.ep = b.ep) && (decide (a.gr = b.gr) && true))))) := by
    obtain ⟨a1, a2, a3, a4, a5⟩ := a; obtain ⟨b1, b2, b3, b4, b5⟩ := b
    simp only [ne_eq, Pl.mk.injEq]
    by_cases h1 : a1 = b1 <;> by_cases h2 : a2 = b2 <;> by_cases h3 : a3 = b3 <;> by_cases h4 : a4 = b4 <;> by_cases h5 : a5 = b5 <;> simp [h1, h2, h3, h4, h5]
  rw [e]; rfl
/-- A function's value that tests elements; bs: the boxes that it looks at. -/
def Pl.FnP (f : FuncId) (caps : List AVal) (bs : List Nm) (H0 : Heap) (p : Pl → Bool) : Prop :=
  ∀ ν x H Q, (∀ b ∈ bs, H b = H0 b ∧ under ν b = false) → Q (.bool (p x)) H → CW cfg ν f (x.enc :: caps) H Q
theorem Pl.idx {ν : Nm} {H : Heap} {Q : AVal → Heap → Prop} {ls : List Pl} {S : AVal} {f : FuncId} {caps : List AVal} {bs : List Nm} {p : Pl → Bool} (hf : Pl.FnP f caps bs H p) (hbs : ∀ b ∈ bs, under ν b = false) (h : Rd H 5 (ls.map Pl.enc) S) (hn : ls.length ≤ 4611686018427387904) (hq : Q (.int .i64 (firstI p ls 0)) H) : CW cfg ν 74 [S, .fn f caps] H Q := by
  have h2 : lenOf H S = some ls.length := by rw [h.len, List.length_map]
  have h3 : lenKind cfg.T [23] S = true := h.kind T23 rfl
  refine CW_fullS g74 F74 rfl ?_
  refine XW_sr ?_
  refine OW_as rfl rfl ?_
  refine OW_nilE (e' := [_, _, _, _, _, _, _, _, _, _, _, _, _, _, _, _, _, _, _]) rfl ?_
  refine XW_seq ?_
  refine XW_sr ?_
  refine OW_mv rfl rfl ?_
  refine OW_bi rfl rfl (aLen h3 h2) ?_
  refine OW_env (e' := [_, _, _, _, _, _, _, _, _, _, _, _, _, _, _, _, _, _, _]) rfl ?_
  refine OW_mv rfl rfl ?_
  refine OW_nilE (e' := [_, _, _, _, _, _, _, _, _, _, _, _, _, _, _, _, _, _, _]) rfl ?_
  refine XW_block ?_
  refine XW_whileN (I := fun ν' n e H' => H' = H ∧ (∀ p, under ν p = false → under ν' p = false) ∧ ∃ (i : Nat), n = ls.length - i ∧ i ≤ ls.length ∧ firstI p ls 0 = firstI p (ls.drop i) i ∧ ∃ g : Nat → AVal, e = [S, .fn f caps, g 2, g 3, .int .i64 0, g 5, g 6, .int .i64 ls.length, .int .i64 i, g 9, g 10, g 11, g 12, g 13, g 14, g 15, g 16, g 17, g 18]) ?_ _ _ _ _ ⟨rfl, fun p hp => by repeat (first | exact hp | apply under_dn), 0, rfl, by omega, rfl, env_g rfl⟩
  rintro ν' n e H' ⟨rfl, hsub, i, rfl, hi, hfs, g, rfl⟩
  refine XW_sr ?_
  first
    | refine OW_bin rfl rfl rfl rfl (lss_yes (by omega)) ?_
    | refine OW_bin rfl rfl rfl rfl (lss_no (by omega)) ?_
    | refine OW_bin rfl rfl rfl rfl rfl ?_
  refine OW_nilE (e' := [_, _, _, _, _, _, _, _, _, _, _, _, _, _, _, _, _, _, _]) rfl ?_
  refine XW_seq ?_
  refine XW_if rfl (fun ht => ?_) (fun ht => ?_)
  · have hlt : i < ls.length := by simpa using ht
    have hxi : (ls.map Pl.enc)[i]? = some (ls[i].enc) := by simp [hlt]
    obtain ⟨P, k1, k2⟩ := h.at (kk := .i64) T23 rfl T38 rfl hxi rfl rfl
    refine XW_skip ?_
    refine then_norm ?_
    refine XW_seq ?_
    refine XW_block ?_
    refine XW_sr ?_
    refine OW_mv rfl rfl ?_
    refine OW_as rfl rfl ?_
    refine OW_nilE (e' := [_, _, _, _, _, _, _, _, _, _, _, _, _, _, _, _, _, _, _]) rfl ?_
    refine XW_sr ?_
    refine OW_mv rfl rfl ?_
    refine OW_mv rfl rfl ?_
    refine OW_mv rfl rfl ?_
    refine OW_ia rfl rfl rfl k1 ?_
    refine OW_load rfl rfl k2 ?_
    refine OW_fv rfl rfl rfl (hf _ ls[i] _ _ (fun b hb => ⟨rfl, by have := hsub b (hbs b hb); repeat (first | exact this | apply under_dn)⟩) ?_)
    refine OW_nilE (e' := [_, _, _, _, _, _, _, _, _, _, _, _, _, _, _, _, _, _, _]) rfl ?_
    refine XW_if rfl (fun hp => ?_) (fun hp => ?_)
    · refine XW_sr ?_
      refine OW_mv rfl rfl ?_
      refine OW_as rfl rfl ?_
      refine OW_nilE (e' := [_, _, _, _, _, _, _, _, _, _, _, _, _, _, _, _, _, _, _]) rfl ?_
      refine XW_ret ?_
      refine block_ret ?_
      refine then_ret ?_
      refine block_ret ?_
      refine then_ret ?_
      refine ret_ret rfl ⟨fun _ _ => rfl, ?_⟩
      rw [List.drop_eq_getElem_cons hlt, firstI, if_pos hp] at hfs
      rw [hfs] at hq; exact hq
    · refine XW_skip ?_
      refine block_norm ?_
      refine then_norm ?_
      refine XW_region ?_
      first
        | refine OW_bin rfl rfl rfl rfl (add64 (by omega)) ?_
        | refine OW_bin rfl rfl rfl rfl (addu64 (by omega)) ?_
        | refine OW_bin rfl rfl rfl rfl rfl ?_
      refine OW_mv rfl rfl ?_
      refine OW_nilE (e' := [_, _, _, _, _, _, _, _, _, _, _, _, _, _, _, _, _, _, _]) rfl ?_
      refine ⟨ls.length - (i + 1), by omega, rfl, fun p hp => under_dn (hsub p hp), i + 1, rfl, by omega, ?_, env_g rfl⟩
      rw [List.drop_eq_getElem_cons hlt, firstI, if_neg (by simp [hp])] at hfs
      exact hfs
  · have hge : ls.length ≤ i := by simpa using ht
    refine XW_exit ?_
    refine then_exit ?_
    refine block_exit ?_
    refine then_norm ?_
    refine XW_sr ?_
    refine OW_as rfl rfl ?_
    refine OW_nilE (e' := [_, _, _, _, _, _, _, _, _, _, _, _, _, _, _, _, _, _, _]) rfl ?_
    refine XW_ret ?_
    refine ret_ret rfl ⟨fun _ _ => rfl, ?_⟩
    rw [List.drop_eq_nil_of_le hge, firstI] at hfs
    rw [hfs] at hq; exact hq
theorem Pl.clone {ν β ps pos' : Nm} {H : Heap} {Q : AVal → Heap → Prop} {L : List Asr} {ls : List Pl} {S : AVal} (hv : Ls S (ls.map Pl.enc)) (hS : Own β ps H L) (hle : le ps ν) (hβ : under β ν = true) (hp : before ν pos') (hn : ls.length ≤ 4294967296)
    (hq : ∀ v H', Own β pos' H' (sl v 5 (ls.map Pl.enc) :: L) → Q v H') : CW cfg ν 33 [S] H Q := by
  have body : ∀ S, (S = .nls ∨ S = .nne) → XW cfg ν fi33.body (start fi33 [S]) (fun _ => none) (retW cfg.T fi33 fun v _ => isEmp v = true) := by
    rintro S (rfl | rfl)
    · refine XW_sr ?_
      refine OW_as rfl rfl ?_
      refine OW_nilE (e' := [_, _, _, _, _, _, _, _]) rfl ?_
      refine XW_seq ?_
      refine XW_sr ?_
      refine OW_mv rfl rfl ?_
      first
        | refine OW_bin rfl rfl rfl rfl (eq_yes (by omega)) ?_
        | refine OW_bin rfl rfl rfl rfl (eq_no (by omega)) ?_
        | refine OW_bin rfl rfl rfl rfl rfl ?_
      refine OW_nilE (e' := [_, _, _, _, _, _, _, _]) rfl ?_
      refine XW_yes rfl rfl ?_
      refine XW_sr ?_
      refine OW_as rfl rfl ?_
      refine OW_nilE (e' := [_, _, _, _, _, _, _, _]) rfl ?_
      refine XW_ret ?_
      refine then_ret ?_
      exact ret_ret rfl rfl
    · refine XW_sr ?_
      refine OW_as rfl rfl ?_
      refine OW_nilE (e' := [_, _, _, _, _, _, _, _]) rfl ?_
      refine XW_seq ?_
      refine XW_sr ?_
      refine OW_mv rfl rfl ?_
      first
        | refine OW_bin rfl rfl rfl rfl (eq_yes (by omega)) ?_
        | refine OW_bin rfl rfl rfl rfl (eq_no (by omega)) ?_
        | refine OW_bin rfl rfl rfl rfl rfl ?_
      refine OW_nilE (e' := [_, _, _, _, _, _, _, _]) rfl ?_
      refine XW_no rfl rfl ?_
      refine XW_skip ?_
      refine then_norm ?_
      refine XW_sr ?_
      refine OW_bs rfl rfl rfl ?_
      refine OW_mv rfl rfl ?_
      refine OW_bi rfl rfl rfl ?_
      refine OW_env (e' := [_, _, _, _, _, _, _, _]) rfl ?_
      refine OW_as rfl rfl ?_
      refine OW_nilE (e' := [_, _, _, _, _, _, _, _]) rfl ?_
      refine XW_ret ?_
      exact ret_ret rfl rfl
  by_cases h0 : noneIn [S] = true
  · refine CW_clone0 g33 F33 rfl h0 (body _ (.inl rfl)) (body _ (.inr rfl)) (hq _ _ ?_)
    obtain rfl : ls = [] := by
      rcases hv with rfl | ⟨h, _⟩
      · cases ls with
        | nil => rfl
        | cons x r => simp [noneIn] at h0
      · simpa using h
    exact (hS.mono (hle.trans (le_bef hp))).addE
  · have h0 : noneIn [S] = false := by simpa using h0
    rcases hv with rfl | ⟨h, rfl | rfl⟩
    · obtain ⟨x, r, rfl⟩ : ∃ x r, ls = x :: r := by
        cases ls with
        | nil => simp [noneIn] at h0
        | cons x r => exact ⟨x, r, rfl⟩
      refine CW_clone g33 F33 rfl h0 ?_
      refine XW_sr ?_
      refine OW_as rfl rfl ?_
      refine OW_nilE (e' := [_, _, _, _, _, _, _, _]) rfl ?_
      refine XW_seq ?_
      refine XW_sr ?_
      refine OW_mv rfl rfl ?_
      first
        | refine OW_bin rfl rfl rfl rfl (eq_yes (by omega)) ?_
        | refine OW_bin rfl rfl rfl rfl (eq_no (by omega)) ?_
        | refine OW_bin rfl rfl rfl rfl rfl ?_
      refine OW_nilE (e' := [_, _, _, _, _, _, _, _]) rfl ?_
      refine XW_no rfl rfl ?_
      refine XW_skip ?_
      refine then_norm ?_
      refine XW_sr ?_
      refine OW_bs rfl rfl rfl ?_
      refine OW_mv rfl rfl ?_
      refine OW_appE (hS.mono hle) (le_app (b := [2, 0, 1, 1])) (under_app [2, 0, 1, 1] hβ) rfl rfl rfl rfl rfl rfl rfl rfl (Ls.elems Ls.of) (map_wide (fun _ => rfl)) (by simpa using hn) (by decide) fun O2 H2 hS2 => ?_
      refine OW_env (e' := [_, _, _, _, _, _, _, _]) rfl ?_
      refine OW_as rfl rfl ?_
      refine OW_nilE (e' := [_, _, _, _, _, _, _, _]) rfl ?_
      refine XW_ret ?_
      exact ret_ret rfl (hq _ _ (hS2.mono (le_bef (bef_app (a := [3, 0, 1, 1]) hp))))
    · simp [noneIn] at h0
    · obtain rfl : ls = [] := by simpa using h
      refine CW_clone g33 F33 rfl rfl ?_
      refine XW_sr ?_
      refine OW_as rfl rfl ?_
      refine OW_nilE (e' := [_, _, _, _, _, _, _, _]) rfl ?_
      refine XW_seq ?_
      refine XW_sr ?_
      refine OW_mv rfl rfl ?_
      first
        | refine OW_bin rfl rfl rfl rfl (eq_yes (by omega)) ?_
        | refine OW_bin rfl rfl rfl rfl (eq_no (by omega)) ?_
        | refine OW_bin rfl rfl rfl rfl rfl ?_
      refine OW_nilE (e' := [_, _, _, _, _, _, _, _]) rfl ?_
      refine XW_yes rfl rfl ?_
      refine XW_sr ?_
      refine OW_as rfl rfl ?_
      refine OW_nilE (e' := [_, _, _, _, _, _, _, _]) rfl ?_
      refine XW_ret ?_
      refine then_ret ?_
      exact ret_ret rfl (hq _ _ (hS.mono (hle.trans (le_bef hp))).addN)

/-- A copy of an own slice. -/
theorem Pl.cloneO {ν β ps pos' : Nm} {H : Heap} {Q : AVal → Heap → Prop} {L : List Asr} {ls : List Pl} {S : AVal} {k : Nat} (hS : Own β ps H L) (hL : L[k]? = some (sl S 5 (ls.map Pl.enc))) (hle : le ps ν) (hβ : under β ν = true) (hp : before ν pos') (hn : ls.length ≤ 4294967296)
    (hq : ∀ v H', Own β pos' H' (sl v 5 (ls.map Pl.enc) :: L) → Q v H') : CW cfg ν 33 [S] H Q := by
  obtain ⟨f, hf, _⟩ := hS.get hL
  have hf : Sl H 5 (ls.map Pl.enc) S f := hf
  cases hf with
  | emp h => exact Pl.clone (.inr ⟨h, .inl rfl⟩) hS hle hβ hp hn hq
  | nls h => exact Pl.clone (.inr ⟨h, .inr rfl⟩) hS hle hβ hp hn hq
  | row h1 h2 h3 =>
    refine CW_clone g33 F33 rfl rfl ?_
    refine XW_sr ?_
    refine OW_as rfl rfl ?_
    refine OW_nilE (e' := [_, _, _, _, _, _, _, _]) rfl ?_
    refine XW_seq ?_
    refine XW_sr ?_
    refine OW_mv rfl rfl ?_
    first
      | refine OW_bin rfl rfl rfl rfl (eq_yes (by omega)) ?_
      | refine OW_bin rfl rfl rfl rfl (eq_no (by omega)) ?_
      | refine OW_bin rfl rfl rfl rfl rfl ?_
    refine OW_nilE (e' := [_, _, _, _, _, _, _, _]) rfl ?_
    refine XW_no rfl rfl ?_
    refine XW_skip ?_
    refine then_norm ?_
    refine XW_sr ?_
    refine OW_bs rfl rfl rfl ?_
    refine OW_mv rfl rfl ?_
    refine OW_appE (hS.mono hle) (le_app (b := [2, 0, 1, 1])) (under_app [2, 0, 1, 1] hβ) rfl rfl rfl rfl rfl rfl rfl rfl (hS.elems hL) (map_wide (fun _ => rfl)) (by simpa using hn) (by decide) fun O2 H2 hS2 => ?_
    refine OW_env (e' := [_, _, _, _, _, _, _, _]) rfl ?_
    refine OW_as rfl rfl ?_
    refine OW_nilE (e' := [_, _, _, _, _, _, _, _]) rfl ?_
    refine XW_ret ?_
    exact ret_ret rfl (hq _ _ (hS2.mono (le_bef (bef_app (a := [3, 0, 1, 1]) hp))))
def isV (vo : Int) : Pl → Bool := fun x => decide (x.vo = vo)
def atP (vo : Int) (t : List Pl) : Int := firstI (isV vo) t 0
theorem atP_cases (vo : Int) (t : List Pl) : (atP vo t = -1 ∧ ∀ x ∈ t, x.vo ≠ vo) ∨ ∃ (i : Nat) (h : i < t.length), atP vo t = i ∧ t[i].vo = vo := by
  rcases firstI_cases (isV vo) t with ⟨h1, h2⟩ | ⟨i, h0, h1, h2, h3⟩
  · exact .inl ⟨h1, fun x hx => by have := h2 x hx; simpa [isV] using this⟩
  · exact .inr ⟨i, h0, h1, by simpa [isV] using h2⟩
theorem place_fn {b : Nm} {H2 : Heap} {vo : Int} (hb : H2 b = some (.row 1 [.int .u64 vo])) : Pl.FnP 75 [.ptr b 0 0] [b] H2 (isV vo) := by
  intro ν x H Q hbs hq
  obtain ⟨h1, h2⟩ := hbs b (by simp)
  rw [hb] at h1
  refine CW_fullS g75 F75 rfl ?_
  refine XW_sr ?_
  refine OW_box rfl rfl rfl ?_
  refine OW_as rfl rfl ?_
  refine OW_nilE (e' := [_, _, _, _, _, _, _, _]) rfl ?_
  refine XW_sr ?_
  refine OW_fa rfl rfl rfl ?_
  refine OW_load rfl rfl (aLoad_ptr rfl put_same rfl rfl) ?_
  refine OW_load rfl rfl (aLoad_ptr rfl (by rw [put_ne (far h2 (by repeat (first | exact under_me | apply under_in)))]; exact h1) rfl rfl) ?_
  refine OW_env (e' := [_, _, _, _, _, _, _, _]) rfl ?_
  first
    | refine OW_bin rfl rfl rfl rfl (eq_yes (by omega)) ?_
    | refine OW_bin rfl rfl rfl rfl (eq_no (by omega)) ?_
    | refine OW_bin rfl rfl rfl rfl rfl ?_
  refine OW_as rfl rfl ?_
  refine OW_nilE (e' := [_, _, _, _, _, _, _, _]) rfl ?_
  refine XW_ret ?_
  exact ret_ret rfl ⟨fun p hp => put_ne (far hp (by repeat (first | exact under_me | apply under_in))), hq⟩
theorem cf_find {v : AVal} {c : Cf} (hv : freeze [] H 8 v = c.enc) (hn : c.ps.length ≤ 4294967296) (vo : Int) (hq : Q (.int .i64 (atP vo c.ps)) H) : CW cfg ν 42 [v, .int .u64 vo] H Q := by
  refine CW_borrowL (args' := [.agg [.lst (c.qs.map Qu.enc), .lst (c.ps.map Pl.enc), .int .u64 c.nx], .int .u64 vo]) g42 F42 rfl (fz_cons (by first | assumption | exact freeze_plain rfl | exact Ls.freeze (by assumption) | rfl) (fz_cons (by first | assumption | exact freeze_plain rfl | exact Ls.freeze (by assumption) | rfl) fz_nil)) ?_
  have hS0 : Own ν ν (fun _ => none) [] := Own.nil
  refine XW_sr ?_
  refine OW_boxR hS0 (le_app (p := ν) (b := [0, 0])) (under_app [0, 0] under_me) rfl rfl rfl ⟨rfl, rfl⟩ fun H1 hS1 => ?_
  replace hS1 : Own _ _ _ ([_]) := hS1
  refine OW_boxR hS1 le_refl (under_app [1, 0] under_me) rfl rfl rfl ⟨rfl, rfl⟩ fun H2 hS2 => ?_
  replace hS2 : Own _ _ _ ([_, _]) := hS2
  refine OW_as rfl rfl ?_
  refine OW_nilE (e' := [_,_,_,_,_,_,_,_,_]) rfl ?_
  refine XW_sr ?_
  refine OW_fa rfl rfl rfl ?_
  refine OW_loadR hS2 (k := 1) rfl rfl rfl rfl rfl (by first | exact part_whole rfl rfl rfl | rfl) ?_
  refine OW_mf rfl rfl ?_
  refine OW_env (e' := [_,_,_,_,_,_,_,_,_]) rfl ?_
  refine OW_fn rfl rfl (Pl.idx (place_fn (by obtain ⟨f, ⟨_, h⟩, _⟩ := hS2.get (k := 0) rfl; exact h)) (fun b hb => (by rw [List.mem_singleton] at hb; rw [hb]; obtain ⟨f, ⟨h0, _⟩, h⟩ := hS2.get (k := 0) rfl; exact ((le_lit (ν := ν) (a := [2, 0]) (b := [3, 0, 1]) (by decide)) _ (h _ (by rw [h0]; simp)).1).under)) (.ls Ls.of) (by omega) ?_) 
  refine OW_as rfl rfl ?_
  refine OW_nilE (e' := [_,_,_,_,_,_,_,_,_]) rfl ?_
  refine XW_ret ?_
  -- outcome 1
  refine ret_ret (res1 rfl (rv_tmp rfl)) ⟨rfl, ?_⟩
  exact hq
theorem rf_find {v : AVal} {c : Cf} (hv : freeze [] H 8 v = c.enc) (hn : c.ps.length ≤ 4294967296) (vo : Int) (hq : Q (.int .i64 (atP vo c.ps)) H) : CW cfg ν 21 [v, .int .u64 vo] H Q := by
  refine CW_borrowL (args' := [.agg [.lst (c.qs.map Qu.enc), .lst (c.ps.map Pl.enc), .int .u64 c.nx], .int .u64 vo]) g21 F21 rfl (fz_cons (by first | assumption | exact freeze_plain rfl | exact Ls.freeze (by assumption) | rfl) (fz_cons (by first | assumption | exact freeze_plain rfl | exact Ls.freeze (by assumption) | rfl) fz_nil)) ?_
  have hS0 : Own ν ν (fun _ => none) [] := Own.nil
  refine XW_sr ?_
  refine OW_boxR hS0 (le_app (p := ν) (b := [0, 0])) (under_app [0, 0] under_me) rfl rfl rfl ⟨rfl, rfl⟩ fun H1 hS1 => ?_
  replace hS1 : Own _ _ _ ([_]) := hS1
  refine OW_as rfl rfl ?_
  refine OW_nilE (e' := [_,_,_,_,_,_,_,_,_,_,_,_,_,_,_,_,_,_,_,_,_,_]) rfl ?_
  refine XW_seq ?_
  refine XW_sr ?_
  refine OW_as rfl rfl ?_
  refine OW_nilE (e' := [_,_,_,_,_,_,_,_,_,_,_,_,_,_,_,_,_,_,_,_,_,_]) rfl ?_
  refine XW_block ?_
  refine XW_whileN (I := fun ν' mm ee H' => ∃ (i : Nat), mm = c.ps.length - i ∧ under (1 :: 0 :: 1 :: ν) ν' = true ∧ Own ν ν' H' ([row (0 :: 0 :: ν) 3 [.agg [.lst (c.qs.map Qu.enc), .lst (c.ps.map Pl.enc), .int .u64 c.nx]]]) ∧ (i ≤ c.ps.length ∧ atP vo c.ps = firstI (isV vo) (c.ps.drop i) i) ∧ ∃ g : Nat → AVal, ee = [g 0, .int .u64 vo, .ptr (0 :: 0 :: ν) 0 0, g 3, g 4, .int .i64 i, g 6, g 7, g 8, g 9, g 10, g 11, g 12, g 13, g 14, g 15, g 16, g 17, g 18, g 19, g 20, g 21]) ?_ _ _ _ _ ⟨0, rfl, under_me, Own.cast (Own.mono (hS1) (le_lit (ν := ν) (a := [1, 0]) (b := [1, 0, 1]) (by decide))) (rfl), (⟨by omega, rfl⟩), env_g rfl⟩
  rintro ν1 mm ee H2 ⟨i, rfl, hU1, hS2, ⟨hi, hI⟩, g1, rfl⟩
  refine XW_seq ?_
  refine XW_sr ?_
  refine OW_mv rfl rfl ?_
  refine OW_fa rfl rfl rfl ?_
  refine OW_loadR hS2 (k := 0) rfl rfl rfl rfl rfl (by first | exact part_whole rfl rfl rfl | rfl) ?_
  refine OW_env (e' := [_,_,_,_,_,_,_,_,_,_,_,_,_,_,_,_,_,_,_,_,_,_]) rfl ?_
  first
  | refine OW_lenL rfl rfl (by first | assumption | exact Ls.of | exact Ls.emp | exact Ls.nls) rfl rfl rfl (by first | exact List.length_map _ | rfl) ?_
  | refine OW_bi rfl rfl rfl ?_
  refine OW_bin rfl rfl rfl rfl rfl ?_
  refine OW_nilE (e' := [_,_,_,_,_,_,_,_,_,_,_,_,_,_,_,_,_,_,_,_,_,_]) rfl ?_
  refine XW_if rfl (fun h2 => ?_) (fun h2 => ?_)
  ·try simp only [bs] at h2
   refine XW_skip ?_
   refine then_norm ?_
   refine XW_seq ?_
   refine XW_block ?_
   refine XW_sr ?_
   refine OW_fa rfl rfl rfl ?_
   refine OW_loadR hS2 (k := 0) rfl rfl rfl rfl rfl (by first | exact part_whole rfl rfl rfl | rfl) ?_
   refine OW_mv rfl rfl ?_
   refine OW_env (e' := [_,_,_,_,_,_,_,_,_,_,_,_,_,_,_,_,_,_,_,_,_,_]) rfl ?_
   first
   | refine OW_iaL rfl rfl rfl Ls.of rfl rfl rfl (by first | rfl | exact (Int.toNat_of_nonneg (by omega)).symm) (by first | assumption | exact at_map (by first | assumption | omega) | exact at_lst (by omega) | rfl) rfl ?_
   | refine OW_iaL rfl rfl rfl (by assumption) rfl rfl rfl (by first | rfl | exact (Int.toNat_of_nonneg (by omega)).symm) (by first | assumption | exact at_map (by first | assumption | omega) | exact at_lst (by omega) | rfl) rfl ?_
   refine OW_fa rfl rfl rfl ?_
   refine OW_loadE rfl rfl rfl (by first | exact part_whole rfl rfl rfl | rfl) ?_
   refine OW_env (e' := [_,_,_,_,_,_,_,_,_,_,_,_,_,_,_,_,_,_,_,_,_,_]) rfl ?_
   refine OW_mv rfl rfl ?_
   refine OW_bin rfl rfl rfl rfl rfl ?_
   refine OW_nilE (e' := [_,_,_,_,_,_,_,_,_,_,_,_,_,_,_,_,_,_,_,_,_,_]) rfl ?_
   refine XW_if rfl (fun h4 => ?_) (fun h4 => ?_)
   ·try simp only [bs] at h4
    refine XW_sr ?_
    refine OW_mv rfl rfl ?_
    refine OW_as rfl rfl ?_
    refine OW_nilE (e' := [_,_,_,_,_,_,_,_,_,_,_,_,_,_,_,_,_,_,_,_,_,_]) rfl ?_
    refine XW_ret ?_
    refine block_ret ?_
    refine then_ret ?_
    refine block_ret ?_
    refine then_ret ?_
    -- outcome 1
    refine ret_ret (res1 rfl (rv_tmp rfl)) ⟨rfl, ?_⟩
    first | (rw [hI, List.drop_eq_nil_of_le (by omega)] at hq; exact hq) | (rw [hI, List.drop_eq_getElem_cons (by omega), firstI, if_pos (by simpa [isV] using h4)] at hq; exact hq)
   ·try simp only [bs] at h4
    refine XW_skip ?_
    refine block_norm ?_
    refine then_norm ?_
    refine XW_region ?_
    refine OW_mv rfl rfl ?_
    first
    | refine OW_bin rfl rfl rfl rfl (add_w64 (by first | omega | assumption | (simp only [ss]; omega))) ?_
    | refine OW_bin rfl rfl rfl rfl rfl ?_
    refine OW_as rfl rfl ?_
    refine OW_nilE (e' := [_,_,_,_,_,_,_,_,_,_,_,_,_,_,_,_,_,_,_,_,_,_]) rfl ?_
    -- round 0.1
    refine ⟨_, ?_, i + 1, rfl, under_in hU1, Own.cast (Own.mono (hS2) (le_app (p := ν1) (b := [1]))) (rfl), ?_, env_g rfl⟩
    · first | omega | (simp; omega)
    · exact ⟨by omega, by rw [hI, List.drop_eq_getElem_cons (by omega), firstI, if_neg (by simpa [isV] using h4)]; rfl⟩
  ·try simp only [bs] at h2
   refine XW_exit ?_
   refine then_exit ?_
   refine block_exit ?_
   refine then_norm ?_
   refine XW_sr ?_
   refine OW_as rfl rfl ?_
   refine OW_nilE (e' := [_,_,_,_,_,_,_,_,_,_,_,_,_,_,_,_,_,_,_,_,_,_]) rfl ?_
   refine XW_ret ?_
   -- outcome 2
   refine ret_ret (res1 rfl (rv_tmp rfl)) ⟨rfl, ?_⟩
   first | (rw [hI, List.drop_eq_nil_of_le (by omega)] at hq; exact hq) | (rw [hI, List.drop_eq_getElem_cons (by omega), firstI, if_pos (by simpa [isV] using h4)] at hq; exact hq)
theorem c_grouped {n : Int} (hq : Q (.bool (decide (1 ≤ n ∧ n ≤ 4))) H) : CW cfg ν 37 [.int .i64 n] H Q := by
  refine CW_pure g37 F37 rfl ?_
  refine XW_sr ?_
  refine OW_as rfl rfl ?_
  refine OW_nilE (e' := [_,_,_,_,_,_,_,_,_]) rfl ?_
  refine XW_sr ?_
  refine OW_mv rfl rfl ?_
  refine OW_bin rfl rfl rfl rfl rfl ?_
  refine OW_mv rfl rfl ?_
  refine OW_env (e' := [_,_,_,_,_,_,_,_,_]) rfl ?_
  refine OW_split (tt := 5) rfl (fun g1_3 => ?_) (fun g1_3 => ?_)
  ·try simp only [bs] at g1_3
   refine OW_mv rfl rfl ?_
   refine OW_bin rfl rfl rfl rfl rfl ?_
   refine OW_env (e' := [_,_,_,_,_,_,_,_,_]) rfl ?_
   refine OW_pick rfl rfl rfl ?_
   refine OW_as rfl rfl ?_
   refine OW_nilE (e' := [_,_,_,_,_,_,_,_,_]) rfl ?_
   refine XW_ret ?_
   -- outcome 1
   refine ret_ret (res1 rfl (rv_tmp rfl)) (frz1 (Q := Q) (by first | exact freeze_plain rfl | exact Ls.freeze (by assumption) | exact Ls.freeze Ls.of | exact Ls.freeze Ls.emp | exact Ls.freeze Ls.nls) ?_)
   refine qcast hq ?_; congr 1; first | exact (decide_eq_true ⟨by omega, by omega⟩) | exact decide_eq_decide.2 ⟨fun h => ⟨by omega, by omega⟩, fun h => by omega⟩ | exact (decide_eq_false (by omega)).symm
  ·try simp only [bs] at g1_3
   refine OW_no rfl ?_
   refine OW_no rfl ?_
   refine OW_env (e' := [_,_,_,_,_,_,_,_,_]) rfl ?_
   refine OW_pick rfl rfl rfl ?_
   refine OW_as rfl rfl ?_
   refine OW_nilE (e' := [_,_,_,_,_,_,_,_,_]) rfl ?_
   refine XW_ret ?_
   -- outcome 2
   refine ret_ret (res1 rfl (rv_tmp rfl)) (frz1 (Q := Q) (by first | exact freeze_plain rfl | exact Ls.freeze (by assumption) | exact Ls.freeze Ls.of | exact Ls.freeze Ls.emp | exact Ls.freeze Ls.nls) ?_)
   refine qcast hq ?_; congr 1; first | exact (decide_eq_true ⟨by omega, by omega⟩) | exact decide_eq_decide.2 ⟨fun h => ⟨by omega, by omega⟩, fun h => by omega⟩ | exact (decide_eq_false (by omega)).symm
/-! ### States that may be -/
structure OkC (c : Cf) (gs : Int) : Prop where
  hg : 1 ≤ gs ∧ gs ≤ 4
  q : chkQ c.qs = true
  l : c.ps.length ≤ 32
  p : ∀ i (h : i < c.ps.length), atP c.ps[i].vo c.ps = i ∧ c.ps[i].vo < c.nx ∧ c.ps[i].de ≤ 4 ∧ c.ps[i].gr < gs
open Classical in
noncomputable def chkC (c : Cf) (gs : Int) : Bool := decide (OkC c gs)
open Classical in
theorem chkC_no {c : Cf} {gs : Int} (h : ¬ OkC c gs) : chkC c gs = false := by unfold chkC; exact decide_eq_false h
open Classical in
theorem chkC_yes {c : Cf} {gs : Int} (h : OkC c gs) : chkC c gs = true := by unfold chkC; exact decide_eq_true h
open Classical in
theorem chkC_of {c : Cf} {gs : Int} (h : chkC c gs = true) : OkC c gs := by unfold chkC at h; exact of_decide_eq_true h
def Pl.fit (x : Pl) : Prop := (0 ≤ x.vo ∧ x.vo ≤ 18446744073709551615) ∧ (0 ≤ x.te ∧ x.te ≤ 18446744073709551615) ∧ (0 ≤ x.de ∧ x.de ≤ 18446744073709551615) ∧ (0 ≤ x.ep ∧ x.ep ≤ 18446744073709551615) ∧ 0 ≤ x.gr ∧ x.gr ≤ 18446744073709551615
structure Cf.fit (c : Cf) : Prop where
  q : Fit c.qs
  p : ∀ x ∈ c.ps, x.fit
  n : 0 ≤ c.nx ∧ c.nx ≤ 18446744073709551615
  lq : c.qs.length ≤ 1048577
  lp : c.ps.length ≤ 1048577
theorem neIF {T : TT} {t : TypeId} {a b : Int} (h : a = b) : aBin T .neq t (.int .i64 a) (.int .i64 b) = some (.bool false) := by simp [aBin, aIntB, aInt, h]
theorem u64_small {g : Int} (h : 1 ≤ g ∧ g ≤ 4) : IntKind.u64.wrap g = g := IntWalk.u64_in _ (by omega)
theorem cf_check {v : AVal} {c : Cf} {gs : Int} (hv : freeze [] H 8 v = c.enc) (hf : c.fit) (hq : Q (.bool (chkC c gs)) H) : CW cfg ν 13 [v, .int .i64 gs] H Q := by
  have hn := hf.lp; have hm := hf.lq
  refine CW_borrowL (args' := [.agg [.lst (c.qs.map Qu.enc), .lst (c.ps.map Pl.enc), .int .u64 c.nx], .int .i64 gs]) g13 F13 rfl (fz_cons (by first | assumption | exact freeze_plain rfl | exact Ls.freeze (by assumption) | rfl) (fz_cons (by first | assumption | exact freeze_plain rfl | exact Ls.freeze (by assumption) | rfl) fz_nil)) ?_
  have hS0 : Own ν ν (fun _ => none) [] := Own.nil
  refine XW_sr ?_
  refine OW_boxR hS0 (le_app (p := ν) (b := [0, 0])) (under_app [0, 0] under_me) rfl rfl rfl ⟨rfl, rfl⟩ fun H1 hS1 => ?_
  replace hS1 : Own _ _ _ ([_]) := hS1
  refine OW_as rfl rfl ?_
  refine EZ56_CF2 rfl ?_
  refine XW_seq ?_
  refine XW_sr ?_
  refine OW_mv rfl rfl ?_
  refine OW_fn rfl rfl (c_grouped ?_) 
  refine OW_un rfl rfl rfl ?_
  refine EN56_CF2 rfl ?_
  refine OW_mv rfl rfl ?_
  refine OW_split (tt := 10) rfl (fun g1_4 => ?_) (fun g1_4 => ?_)
  ·try simp only [bs] at g1_4
   refine OW_no rfl ?_
   refine EN56_CF2 rfl ?_
   refine OW_no rfl ?_
   refine OW_no rfl ?_
   refine OW_no rfl ?_
   refine EN56_CF2 rfl ?_
   refine OW_pick rfl rfl rfl ?_
   refine OW_mv rfl rfl ?_
   refine OW_no rfl ?_
   refine EN56_CF2 rfl ?_
   refine OW_no rfl ?_
   refine OW_no rfl ?_
   refine OW_no rfl ?_
   refine EN56_CF2 rfl ?_
   refine OW_pick rfl rfl rfl ?_
   refine EZ56_CF2 rfl ?_
   refine XW_yes rfl rfl ?_
   refine XW_sr ?_
   refine OW_as rfl rfl ?_
   refine EZ56_CF2 rfl ?_
   refine XW_ret ?_
   refine then_ret ?_
   -- outcome 1
   refine ret_ret (res1 rfl (rv_tmp rfl)) ⟨rfl, ?_⟩
   refine qcast hq ?_
   congr 1
   first | exact chkC_yes ⟨hg, hcq, hcl, fun j h => hI j h (by omega)⟩ | exact (chkC_yes ⟨hg, hcq, hcl, fun j h => hI j h (by omega)⟩).symm | exact (chkC_no (fun h => by have := h.p i (by omega); omega)).symm | exact (chkC_no (fun h => by have := h.hg; omega)).symm | exact (chkC_no (fun h => by have := h.l; omega)).symm | exact (chkC_no (fun h => by have := h.q; simp_all)).symm | trace_state
  ·try simp only [bs] at g1_4
   refine OW_fa rfl rfl rfl ?_
   refine EN56_CF2 rfl ?_
   refine OW_loadR hS1 (k := 0) rfl rfl rfl rfl rfl (by first | exact part_whole rfl rfl rfl | rfl) ?_
   refine OW_fn rfl rfl (c_check (Ls.freeze Ls.of) (by omega) ?_) 
   refine OW_un rfl rfl rfl ?_
   refine EN56_CF2 rfl ?_
   refine OW_pick rfl rfl rfl ?_
   refine OW_mv rfl rfl ?_
   refine OW_split (tt := 16) rfl (fun g1_10 => ?_) (fun g1_10 => ?_)
   ·try simp only [bs] at g1_10
    refine EN56_CF2 rfl ?_
    refine OW_no rfl ?_
    refine OW_no rfl ?_
    refine OW_no rfl ?_
    refine EN56_CF2 rfl ?_
    refine OW_no rfl ?_
    refine OW_pick rfl rfl rfl ?_
    refine EZ56_CF2 rfl ?_
    refine XW_yes rfl rfl ?_
    refine XW_sr ?_
    refine OW_as rfl rfl ?_
    refine EZ56_CF2 rfl ?_
    refine XW_ret ?_
    refine then_ret ?_
    -- outcome 2
    refine ret_ret (res1 rfl (rv_tmp rfl)) ⟨rfl, ?_⟩
    refine qcast hq ?_
    congr 1
    first | exact chkC_yes ⟨hg, hcq, hcl, fun j h => hI j h (by omega)⟩ | exact (chkC_yes ⟨hg, hcq, hcl, fun j h => hI j h (by omega)⟩).symm | exact (chkC_no (fun h => by have := h.p i (by omega); omega)).symm | exact (chkC_no (fun h => by have := h.hg; omega)).symm | exact (chkC_no (fun h => by have := h.l; omega)).symm | exact (chkC_no (fun h => by have := h.q; simp_all)).symm | trace_state
   ·try simp only [bs] at g1_10
    refine EN56_CF2 rfl ?_
    refine OW_fa rfl rfl rfl ?_
    refine OW_loadR hS1 (k := 0) rfl rfl rfl rfl rfl (by first | exact part_whole rfl rfl rfl | rfl) ?_
    first
    | refine OW_lenL rfl rfl (by first | assumption | exact Ls.of | exact Ls.emp | exact Ls.nls) rfl rfl rfl (by first | exact List.length_map _ | rfl) ?_
    | refine OW_bi rfl rfl rfl ?_
    refine EN56_CF2 rfl ?_
    refine OW_bin rfl rfl rfl rfl rfl ?_
    refine OW_pick rfl rfl rfl ?_
    refine EZ56_CF2 rfl ?_
    refine XW_if rfl (fun h1 => ?_) (fun h1 => ?_)
    ·try simp only [bs] at h1
     refine XW_sr ?_
     refine OW_as rfl rfl ?_
     refine EZ56_CF2 rfl ?_
     refine XW_ret ?_
     refine then_ret ?_
     -- outcome 3
     refine ret_ret (res1 rfl (rv_tmp rfl)) ⟨rfl, ?_⟩
     refine qcast hq ?_
     congr 1
     first | exact chkC_yes ⟨hg, hcq, hcl, fun j h => hI j h (by omega)⟩ | exact (chkC_yes ⟨hg, hcq, hcl, fun j h => hI j h (by omega)⟩).symm | exact (chkC_no (fun h => by have := h.p i (by omega); omega)).symm | exact (chkC_no (fun h => by have := h.hg; omega)).symm | exact (chkC_no (fun h => by have := h.l; omega)).symm | exact (chkC_no (fun h => by have := h.q; simp_all)).symm | trace_state
    ·try simp only [bs] at h1
     refine XW_skip ?_
     refine then_norm ?_
     refine XW_seq ?_
     refine XW_sr ?_
     refine OW_fa rfl rfl rfl ?_
     refine OW_loadR hS1 (k := 0) rfl rfl rfl rfl rfl (by first | exact part_whole rfl rfl rfl | rfl) ?_
     first
     | refine OW_lenL rfl rfl (by first | assumption | exact Ls.of | exact Ls.emp | exact Ls.nls) rfl rfl rfl (by first | exact List.length_map _ | rfl) ?_
     | refine OW_bi rfl rfl rfl ?_
     refine EN56_CF2 rfl ?_
     refine OW_mv rfl rfl ?_
     refine EZ56_CF2 rfl ?_
     refine XW_block ?_
     refine XW_whileN (I := fun ν' mm ee H' => ∃ (i : Nat), mm = c.ps.length - i ∧ under (1 :: 0 :: 1 :: 1 :: ν) ν' = true ∧ Own ν ν' H' ([row (0 :: 0 :: ν) 3 [.agg [.lst (c.qs.map Qu.enc), .lst (c.ps.map Pl.enc), .int .u64 c.nx]]]) ∧ (i ≤ c.ps.length ∧ (1 ≤ gs ∧ gs ≤ 4) ∧ chkQ c.qs = true ∧ c.ps.length ≤ 32 ∧ ∀ j (h : j < c.ps.length), j < i → atP c.ps[j].vo c.ps = j ∧ c.ps[j].vo < c.nx ∧ c.ps[j].de ≤ 4 ∧ c.ps[j].gr < gs) ∧ ∃ g : Nat → AVal, ee = [g 0, .int .i64 gs, .ptr (0 :: 0 :: ν) 0 0, g 3, g 4, g 5, g 6, g 7, g 8, g 9, g 10, g 11, g 12, g 13, g 14, g 15, g 16, g 17, g 18, g 19, g 20, g 21, g 22, .lst (c.ps.map Pl.enc), .int .i64 c.ps.length, .int .i64 i, g 26, g 27, g 28, g 29, g 30, g 31, g 32, g 33, g 34, g 35, g 36, g 37, g 38, g 39, g 40, g 41, g 42, g 43, g 44, g 45, g 46, g 47, g 48, g 49, g 50, g 51, g 52, g 53, g 54, g 55]) ?_ _ _ _ _ ⟨0, rfl, under_me, Own.cast (Own.mono (hS1) (le_lit (ν := ν) (a := [1, 0]) (b := [1, 0, 1, 1]) (by decide))) (rfl), (⟨by omega, by omega, by assumption, by omega, fun j h hj => by omega⟩), env_g rfl⟩
     rintro ν1 mm ee H2 ⟨i, rfl, hU1, hS2, ⟨hi, hg, hcq, hcl, hI⟩, g1, rfl⟩
     refine XW_sr ?_
     refine OW_bin rfl rfl rfl rfl rfl ?_
     refine EZ56_CF2 rfl ?_
     refine XW_seq ?_
     refine XW_if rfl (fun h4 => ?_) (fun h4 => ?_)
     ·try simp only [bs] at h4
      refine XW_skip ?_
      refine then_norm ?_
      refine XW_seq ?_
      refine XW_block ?_
      refine XW_sr ?_
      have hgw := u64_small hg
      refine OW_mv rfl rfl ?_
      first
      | refine OW_iaL rfl rfl rfl Ls.of rfl rfl rfl (by first | rfl | exact (Int.toNat_of_nonneg (by omega)).symm) (by first | assumption | exact at_map (by first | assumption | omega) | exact at_lst (by omega) | rfl) rfl ?_
      | refine OW_iaL rfl rfl rfl (by assumption) rfl rfl rfl (by first | rfl | exact (Int.toNat_of_nonneg (by omega)).symm) (by first | assumption | exact at_map (by first | assumption | omega) | exact at_lst (by omega) | rfl) rfl ?_
      refine OW_loadE rfl rfl rfl (by first | exact part_whole rfl rfl rfl | rfl) ?_
      refine EN56_CF2 rfl ?_
      refine OW_allocR hS2 (le_app (p := ν1) (b := [3, 0, 0, 1, 1, 0])) (under_app [3, 0, 0, 1, 1, 0] (under_trans (under_app [1, 0, 1, 1] under_me) hU1)) rfl rfl rfl rfl fun H3 hS3 => ?_
      replace hS3 : Own _ _ _ ([_, _]) := hS3
      refine OW_as rfl rfl ?_
      first
      | refine OW_storeR hS3 (k := 0) rfl (le_lit (ν := ν1) (a := [4, 0, 0, 1, 1, 0]) (b := [5, 0, 0, 1, 1, 0]) (by decide)) rfl rfl rfl rfl ⟨rfl, rfl, Nat.le_of_ble_eq_true rfl⟩ (set_whole rfl rfl) fun H4 hS4 => ?_
      | refine OW_storeR hS3 (k := 0) rfl (le_lit (ν := ν1) (a := [4, 0, 0, 1, 1, 0]) (b := [5, 0, 0, 1, 1, 0]) (by decide)) rfl rfl rfl rfl ⟨rfl, rfl, Nat.le_of_ble_eq_true rfl⟩ (u2 := .agg [_, _, _, _, _]) rfl fun H4 hS4 => ?_
      replace hS4 : Own _ _ _ ([_, _]) := hS4
      refine EZ56_CF2 rfl ?_
      refine XW_sr ?_
      refine OW_loadR hS4 (k := 1) rfl rfl rfl rfl rfl (by first | exact part_whole rfl rfl rfl | rfl) ?_
      refine OW_fa rfl rfl rfl ?_
      refine OW_loadR hS4 (k := 0) rfl rfl rfl rfl rfl (by first | exact part_whole rfl rfl rfl | rfl) ?_
      refine EN56_CF2 rfl ?_
      refine OW_fn rfl rfl (cf_find (c := c) (by first | rfl | assumption) (by omega) _ ?_) 
      refine OW_mv rfl rfl ?_
      refine OW_bin rfl rfl rfl rfl rfl ?_
      refine EN56_CF2 rfl ?_
      refine OW_mv rfl rfl ?_
      refine OW_split (tt := 36) rfl (fun g6_7 => ?_) (fun g6_7 => ?_)
      ·try simp only [bs] at g6_7
       refine OW_no rfl ?_
       refine EN56_CF2 rfl ?_
       refine OW_no rfl ?_
       refine OW_no rfl ?_
       refine OW_no rfl ?_
       refine EN56_CF2 rfl ?_
       refine OW_no rfl ?_
       refine OW_pick rfl rfl rfl ?_
       refine OW_mv rfl rfl ?_
       refine EN56_CF2 rfl ?_
       refine OW_no rfl ?_
       refine OW_no rfl ?_
       refine OW_no rfl ?_
       refine EN56_CF2 rfl ?_
       refine OW_pick rfl rfl rfl ?_
       refine OW_mv rfl rfl ?_
       refine OW_no rfl ?_
       refine EN56_CF2 rfl ?_
       refine OW_no rfl ?_
       refine OW_no rfl ?_
       refine OW_no rfl ?_
       refine EN56_CF2 rfl ?_
       refine OW_no rfl ?_
       refine OW_pick rfl rfl rfl ?_
       refine EZ56_CF2 rfl ?_
       refine XW_yes rfl rfl ?_
       refine XW_sr ?_
       refine OW_as rfl rfl ?_
       refine EZ56_CF2 rfl ?_
       refine XW_ret ?_
       refine block_ret ?_
       refine then_ret ?_
       refine block_ret ?_
       refine then_ret ?_
       -- outcome 4
       refine ret_ret (res1 rfl (rv_tmp rfl)) ⟨rfl, ?_⟩
       refine qcast hq ?_
       congr 1
       first | exact chkC_yes ⟨hg, hcq, hcl, fun j h => hI j h (by omega)⟩ | exact (chkC_yes ⟨hg, hcq, hcl, fun j h => hI j h (by omega)⟩).symm | exact (chkC_no (fun h => by have := h.p i (by omega); omega)).symm | exact (chkC_no (fun h => by have := h.hg; omega)).symm | exact (chkC_no (fun h => by have := h.l; omega)).symm | exact (chkC_no (fun h => by have := h.q; simp_all)).symm | trace_state
      ·try simp only [bs] at g6_7
       refine OW_fa rfl rfl rfl ?_
       refine EN56_CF2 rfl ?_
       refine OW_loadR hS4 (k := 0) rfl rfl rfl rfl rfl (by first | exact part_whole rfl rfl rfl | rfl) ?_
       refine OW_fa rfl rfl rfl ?_
       refine OW_loadR hS4 (k := 1) rfl rfl rfl rfl rfl (by first | exact part_whole rfl rfl rfl | rfl) ?_
       refine EN56_CF2 rfl ?_
       refine OW_bin rfl rfl rfl rfl rfl ?_
       refine OW_pick rfl rfl rfl ?_
       refine OW_mv rfl rfl ?_
       refine EN56_CF2 rfl ?_
       refine OW_split (tt := 43) rfl (fun g6_14 => ?_) (fun g6_14 => ?_)
       ·try simp only [bs] at g6_14
        refine OW_no rfl ?_
        refine OW_no rfl ?_
        refine EN56_CF2 rfl ?_
        refine OW_no rfl ?_
        refine OW_pick rfl rfl rfl ?_
        refine OW_mv rfl rfl ?_
        refine EN56_CF2 rfl ?_
        refine OW_no rfl ?_
        refine OW_no rfl ?_
        refine OW_no rfl ?_
        refine EN56_CF2 rfl ?_
        refine OW_no rfl ?_
        refine OW_no rfl ?_
        refine OW_pick rfl rfl rfl ?_
        refine EZ56_CF2 rfl ?_
        refine XW_yes rfl rfl ?_
        refine XW_sr ?_
        refine OW_as rfl rfl ?_
        refine EZ56_CF2 rfl ?_
        refine XW_ret ?_
        refine block_ret ?_
        refine then_ret ?_
        refine block_ret ?_
        refine then_ret ?_
        -- outcome 5
        refine ret_ret (res1 rfl (rv_tmp rfl)) ⟨rfl, ?_⟩
        refine qcast hq ?_
        congr 1
        first | exact chkC_yes ⟨hg, hcq, hcl, fun j h => hI j h (by omega)⟩ | exact (chkC_yes ⟨hg, hcq, hcl, fun j h => hI j h (by omega)⟩).symm | exact (chkC_no (fun h => by have := h.p i (by omega); omega)).symm | exact (chkC_no (fun h => by have := h.hg; omega)).symm | exact (chkC_no (fun h => by have := h.l; omega)).symm | exact (chkC_no (fun h => by have := h.q; simp_all)).symm | trace_state
       ·try simp only [bs] at g6_14
        refine OW_fa rfl rfl rfl ?_
        refine OW_loadR hS4 (k := 0) rfl rfl rfl rfl rfl (by first | exact part_whole rfl rfl rfl | rfl) ?_
        refine EN56_CF2 rfl ?_
        refine OW_bin rfl rfl rfl rfl rfl ?_
        refine OW_pick rfl rfl rfl ?_
        refine OW_mv rfl rfl ?_
        refine EN56_CF2 rfl ?_
        refine OW_split (tt := 48) rfl (fun g6_19 => ?_) (fun g6_19 => ?_)
        ·try simp only [bs] at g6_19
         refine OW_no rfl ?_
         refine OW_no rfl ?_
         refine EN56_CF2 rfl ?_
         refine OW_no rfl ?_
         refine OW_no rfl ?_
         refine OW_no rfl ?_
         refine EN56_CF2 rfl ?_
         refine OW_pick rfl rfl rfl ?_
         refine EZ56_CF2 rfl ?_
         refine XW_yes rfl rfl ?_
         refine XW_sr ?_
         refine OW_as rfl rfl ?_
         refine EZ56_CF2 rfl ?_
         refine XW_ret ?_
         refine block_ret ?_
         refine then_ret ?_
         refine block_ret ?_
         refine then_ret ?_
         -- outcome 6
         refine ret_ret (res1 rfl (rv_tmp rfl)) ⟨rfl, ?_⟩
         refine qcast hq ?_
         congr 1
         first | exact chkC_yes ⟨hg, hcq, hcl, fun j h => hI j h (by omega)⟩ | exact (chkC_yes ⟨hg, hcq, hcl, fun j h => hI j h (by omega)⟩).symm | exact (chkC_no (fun h => by have := h.p i (by omega); omega)).symm | exact (chkC_no (fun h => by have := h.hg; omega)).symm | exact (chkC_no (fun h => by have := h.l; omega)).symm | exact (chkC_no (fun h => by have := h.q; simp_all)).symm | trace_state
        ·try simp only [bs] at g6_19
         refine OW_fa rfl rfl rfl ?_
         refine OW_loadR hS4 (k := 0) rfl rfl rfl rfl rfl (by first | exact part_whole rfl rfl rfl | rfl) ?_
         refine EN56_CF2 rfl ?_
         refine OW_mv rfl rfl ?_
         first
         | refine OW_conv rfl rfl (conv_in rfl rfl rfl (IntWalk.u64_in _ (by omega))) ?_
         | refine OW_conv rfl rfl rfl ?_
         refine OW_bin rfl rfl rfl rfl rfl ?_
         refine EN56_CF2 rfl ?_
         refine OW_pick rfl rfl rfl ?_
         refine EZ56_CF2 rfl ?_
         refine XW_if rfl (fun h6 => ?_) (fun h6 => ?_)
         ·try simp only [bs] at h6
          refine XW_sr ?_
          refine OW_as rfl rfl ?_
          refine EZ56_CF2 rfl ?_
          refine XW_ret ?_
          refine block_ret ?_
          refine then_ret ?_
          refine block_ret ?_
          refine then_ret ?_
          -- outcome 7
          refine ret_ret (res1 rfl (rv_tmp rfl)) ⟨rfl, ?_⟩
          refine qcast hq ?_
          congr 1
          first | exact chkC_yes ⟨hg, hcq, hcl, fun j h => hI j h (by omega)⟩ | exact (chkC_yes ⟨hg, hcq, hcl, fun j h => hI j h (by omega)⟩).symm | exact (chkC_no (fun h => by have := h.p i (by omega); omega)).symm | exact (chkC_no (fun h => by have := h.hg; omega)).symm | exact (chkC_no (fun h => by have := h.l; omega)).symm | exact (chkC_no (fun h => by have := h.q; simp_all)).symm | trace_state
         ·try simp only [bs] at h6
          refine XW_skip ?_
          refine block_norm ?_
          refine then_norm ?_
          refine XW_region ?_
          first
          | refine OW_bin rfl rfl rfl rfl (add_w64 (by first | omega | assumption | (simp only [ss]; omega))) ?_
          | refine OW_bin rfl rfl rfl rfl rfl ?_
          refine OW_mv rfl rfl ?_
          refine EZ56_CF2 rfl ?_
          have hSd1 : Own _ _ _ ([_]) := (Own.drop hS4 (k := 0) rfl)
          -- round 0.1
          refine ⟨_, ?_, i + 1, rfl, under_in hU1, Own.cast (Own.mono (hSd1) (le_lit (ν := ν1) (a := [6, 0, 0, 1, 1, 0]) (b := [1]) (by decide))) (rfl), ?_, env_g rfl⟩
          · first | omega | (simp; omega)
          · exact ⟨by omega, hg, hcq, hcl, fun j h hj => by by_cases e : j = i; (subst e; exact ⟨by omega, by omega, by omega, by omega⟩); exact hI j h (by omega)⟩
     ·try simp only [bs] at h4
      refine XW_exit ?_
      refine then_exit ?_
      refine block_exit ?_
      refine then_norm ?_
      refine XW_sr ?_
      refine OW_as rfl rfl ?_
      refine EZ56_CF2 rfl ?_
      refine XW_ret ?_
      -- outcome 8
      refine ret_ret (res1 rfl (rv_tmp rfl)) ⟨rfl, ?_⟩
      refine qcast hq ?_
      congr 1
      first | exact chkC_yes ⟨hg, hcq, hcl, fun j h => hI j h (by omega)⟩ | exact (chkC_yes ⟨hg, hcq, hcl, fun j h => hI j h (by omega)⟩).symm | exact (chkC_no (fun h => by have := h.p i (by omega); omega)).symm | exact (chkC_no (fun h => by have := h.hg; omega)).symm | exact (chkC_no (fun h => by have := h.l; omega)).symm | exact (chkC_no (fun h => by have := h.q; simp_all)).symm | trace_state
end Go.Proofs.Ytealccnfnpkngaa.X
