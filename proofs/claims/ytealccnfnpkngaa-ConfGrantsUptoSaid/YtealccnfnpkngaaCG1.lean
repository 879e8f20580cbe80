/- Layer 14: Grant of the program and of the document's answer. -/
import Derived.Test.YtealccnfnpkngaaCG0
import Derived.Test.YtealccnfnpkngaaTA
set_option linter.unusedVariables false
set_option linter.unusedSimpArgs false
set_option maxRecDepth 100000
namespace Go.Proofs.Ytealccnfnpkngaa.X
open Go Go.RowKit WM
variable {ν β ps pos' : Nm} {H : Heap} {Q : AVal → Heap → Prop} {L : List Asr} {k : Nat} {q : Nm} {c : Cf} {S : Rf}
/-- A grant: the token, the code, the oracle's state. -/
def gntS (S : Rf) (key : Int) (c : Cf) (vo tn ri : Int) : (Tk × Int) × Rf := match c.ps[(atP vo c.ps).toNat]? with
  | some p => if atP vo c.ps < 0 then ((Tk.z, 142), S) else if p.te ≠ tn then ((Tk.z, 141), S) else (((S.issue key ⟨tn, vo, p.ep, ri, 0⟩).1, 0), (S.issue key ⟨tn, vo, p.ep, ri, 0⟩).2)
  | none => ((Tk.z, 142), S)
theorem gnt_cases (S : Rf) (key : Int) (hf : c.fit) (vo tn ri : Int) : (atP vo c.ps = -1 ∧ gntS S key c vo tn ri = ((Tk.z, 142), S)) ∨ ∃ h : (atP vo c.ps).toNat < c.ps.length, 0 ≤ atP vo c.ps ∧ c.ps[(atP vo c.ps).toNat].fit ∧ c.ps[(atP vo c.ps).toNat].vo = vo ∧ gntS S key c vo tn ri = if c.ps[(atP vo c.ps).toNat].te ≠ tn then ((Tk.z, 141), S) else (((S.issue key ⟨tn, vo, c.ps[(atP vo c.ps).toNat].ep, ri, 0⟩).1, 0), (S.issue key ⟨tn, vo, c.ps[(atP vo c.ps).toNat].ep, ri, 0⟩).2) := by
  rcases atP_cases vo c.ps with ⟨h1, h2⟩ | ⟨i, hi, h1, h2⟩
  · refine .inl ⟨h1, ?_⟩
    unfold gntS
    rw [h1]
    split <;> rfl
  · refine .inr ⟨by omega, by omega, hf.p _ (List.getElem_mem (by omega)), ?_, ?_⟩
    · have e : (atP vo c.ps).toNat = i := by omega
      simp only [e]; exact h2
    · unfold gntS
      rw [List.getElem?_eq_getElem (by omega)]
      simp only
      rw [if_neg (by omega)]
theorem cGrant (hS : Own β ps H L) (hL : L[k]? = some (orc q S.of)) (hle : le ps ν) (hβ : under β ν = true) (hp : before ν pos') (hn : S.rows.length ≤ 4294960000) (hf : c.fit) (key vo tn ri : Int) (hvo : U64 vo) (htn : U64 tn) (hri : U64 ri)
    (hq : ∀ H1, Own β pos' H1 (L.set k (orc q (gntS S key c vo tn ri).2.of)) → Q (.tup [(gntS S key c vo tn ri).1.1.enc, .int .i64 (gntS S key c vo tn ri).1.2]) H1) : CW cfg ν 17 [.ptr q 0 0, .int .u64 key, c.enc, .int .u64 vo, .int .u64 tn, .int .u64 ri] H Q := by
  have hlp := hf.lp
  have hr := gnt_cases S key hf vo tn ri
  replace hS := hS.pick hL
  refine CW_keep g17 F17 rfl ?_
  replace hS := Own.mono hS hle
  refine XW_sr ?_
  refine OW_boxR hS (le_app (p := ν) (b := [0, 0])) (under_app [0, 0] hβ) rfl rfl rfl ⟨rfl, rfl⟩ fun H1 hS1 => ?_
  replace hS1 : Own _ _ _ (_ :: _ :: L.eraseIdx k) := hS1
  refine OW_allocR hS1 le_refl (under_app [1, 0] hβ) rfl rfl rfl rfl fun H2 hS2 => ?_
  replace hS2 : Own _ _ _ (_ :: _ :: _ :: L.eraseIdx k) := hS2
  refine OW_as rfl rfl ?_
  refine OW_nilE (e' := [_,_,_,_,_,_,_,_,_,_,_,_,_,_,_,_,_,_,_,_,_,_,_,_,_,_,_,_,_,_,_,_,_,_,_,_,_,_,_,_,_,_,_,_]) rfl ?_
  refine XW_sr ?_
  refine OW_loadR hS2 (k := 1) rfl rfl rfl rfl rfl (by first | exact part_whole rfl rfl rfl | rfl) ?_
  refine OW_mv rfl rfl ?_
  refine OW_fn rfl rfl (cf_find (c := c) (by first | rfl | assumption) (by omega) _ ?_) 
  refine OW_env (e' := [_,_,_,_,_,_,_,_,_,_,_,_,_,_,_,_,_,_,_,_,_,_,_,_,_,_,_,_,_,_,_,_,_,_,_,_,_,_,_,_,_,_,_,_]) rfl ?_
  refine OW_as rfl rfl ?_
  refine OW_nilE (e' := [_,_,_,_,_,_,_,_,_,_,_,_,_,_,_,_,_,_,_,_,_,_,_,_,_,_,_,_,_,_,_,_,_,_,_,_,_,_,_,_,_,_,_,_]) rfl ?_
  refine XW_seq ?_
  refine XW_block ?_
  refine XW_sr ?_
  generalize atP vo c.ps = at0 at *
  refine OW_mv rfl rfl ?_
  refine OW_bin rfl rfl rfl rfl rfl ?_
  refine OW_as rfl rfl ?_
  refine OW_nilE (e' := [_,_,_,_,_,_,_,_,_,_,_,_,_,_,_,_,_,_,_,_,_,_,_,_,_,_,_,_,_,_,_,_,_,_,_,_,_,_,_,_,_,_,_,_]) rfl ?_
  refine XW_if rfl (fun h2 => ?_) (fun h2 => ?_)
  ·try simp only [bs] at h2
   refine XW_sr ?_
   refine OW_bd rfl rfl (v := .agg [_, _, _, _, _]) rfl ?_
   first
   | refine OW_storeR hS2 (k := 0) rfl (le_lit (ν := ν) (a := [2, 0]) (b := [1, 0, 1, 0, 1, 1]) (by decide)) rfl rfl rfl rfl ⟨rfl, rfl, Nat.le_of_ble_eq_true rfl⟩ (set_whole rfl rfl) fun H3 hS3 => ?_
   | refine OW_storeR hS2 (k := 0) rfl (le_lit (ν := ν) (a := [2, 0]) (b := [1, 0, 1, 0, 1, 1]) (by decide)) rfl rfl rfl rfl ⟨rfl, rfl, Nat.le_of_ble_eq_true rfl⟩ (u2 := .agg [_, _, _, _, _]) rfl fun H3 hS3 => ?_
   replace hS3 : Own _ _ _ (_ :: _ :: _ :: L.eraseIdx k) := hS3
   refine OW_as rfl rfl ?_
   refine OW_nilE (e' := [_,_,_,_,_,_,_,_,_,_,_,_,_,_,_,_,_,_,_,_,_,_,_,_,_,_,_,_,_,_,_,_,_,_,_,_,_,_,_,_,_,_,_,_]) rfl ?_
   refine XW_ret ?_
   refine block_ret ?_
   refine then_ret ?_
   -- outcome 1
   refine ret_ret (res2 rfl (rv_cellR hS3 (k := 0) rfl rfl rfl rfl (by first | exact part_whole rfl rfl rfl | rfl)) (rv_tmp rfl)) ?_
   rcases hr with ⟨h, hg⟩ | ⟨_, h, _⟩ <;> first | omega | (rw [hg] at hq; exact hq _ (Own.unpick (Own.drop0 (Own.drop0 (Own.mono hS3 (le_bef (bef_app (a := [2, 0, 1, 0, 1, 1]) hp))))) hL))
  ·try simp only [bs] at h2
   obtain ⟨hr0, _⟩ | ⟨hlt, hr0, hpf, hvv, hrb⟩ := hr
   · omega
   refine XW_sr ?_
   refine OW_fa rfl rfl rfl ?_
   refine OW_loadR hS2 (k := 1) rfl rfl rfl rfl rfl (by first | exact part_whole rfl rfl rfl | rfl) ?_
   refine OW_mv rfl rfl ?_
   refine OW_env (e' := [_,_,_,_,_,_,_,_,_,_,_,_,_,_,_,_,_,_,_,_,_,_,_,_,_,_,_,_,_,_,_,_,_,_,_,_,_,_,_,_,_,_,_,_]) rfl ?_
   first
   | refine OW_iaL rfl rfl rfl Ls.of rfl rfl rfl (by first | rfl | exact (Int.toNat_of_nonneg (by omega)).symm) (by first | assumption | exact at_map (by first | assumption | omega) | exact at_lst (by omega) | rfl) rfl ?_
   | refine OW_iaL rfl rfl rfl (by assumption) rfl rfl rfl (by first | rfl | exact (Int.toNat_of_nonneg (by omega)).symm) (by first | assumption | exact at_map (by first | assumption | omega) | exact at_lst (by omega) | rfl) rfl ?_
   refine OW_fa rfl rfl rfl ?_
   refine OW_loadE rfl rfl rfl (by first | exact part_whole rfl rfl rfl | rfl) ?_
   refine OW_env (e' := [_,_,_,_,_,_,_,_,_,_,_,_,_,_,_,_,_,_,_,_,_,_,_,_,_,_,_,_,_,_,_,_,_,_,_,_,_,_,_,_,_,_,_,_]) rfl ?_
   refine OW_mv rfl rfl ?_
   refine OW_bin rfl rfl rfl rfl rfl ?_
   refine OW_as rfl rfl ?_
   refine OW_nilE (e' := [_,_,_,_,_,_,_,_,_,_,_,_,_,_,_,_,_,_,_,_,_,_,_,_,_,_,_,_,_,_,_,_,_,_,_,_,_,_,_,_,_,_,_,_]) rfl ?_
   refine XW_if rfl (fun h4 => ?_) (fun h4 => ?_)
   ·try simp only [bs] at h4
    refine XW_sr ?_
    refine OW_bd rfl rfl (v := .agg [_, _, _, _, _]) rfl ?_
    first
    | refine OW_storeR hS2 (k := 0) rfl (le_lit (ν := ν) (a := [2, 0]) (b := [1, 0, 1, 1, 0, 1, 1]) (by decide)) rfl rfl rfl rfl ⟨rfl, rfl, Nat.le_of_ble_eq_true rfl⟩ (set_whole rfl rfl) fun H4 hS4 => ?_
    | refine OW_storeR hS2 (k := 0) rfl (le_lit (ν := ν) (a := [2, 0]) (b := [1, 0, 1, 1, 0, 1, 1]) (by decide)) rfl rfl rfl rfl ⟨rfl, rfl, Nat.le_of_ble_eq_true rfl⟩ (u2 := .agg [_, _, _, _, _]) rfl fun H4 hS4 => ?_
    replace hS4 : Own _ _ _ (_ :: _ :: _ :: L.eraseIdx k) := hS4
    refine OW_as rfl rfl ?_
    refine OW_nilE (e' := [_,_,_,_,_,_,_,_,_,_,_,_,_,_,_,_,_,_,_,_,_,_,_,_,_,_,_,_,_,_,_,_,_,_,_,_,_,_,_,_,_,_,_,_]) rfl ?_
    refine XW_ret ?_
    refine block_ret ?_
    refine then_ret ?_
    -- outcome 2
    refine ret_ret (res2 rfl (rv_cellR hS4 (k := 0) rfl rfl rfl rfl (by first | exact part_whole rfl rfl rfl | rfl)) (rv_tmp rfl)) ?_
    rw [hrb, if_pos (by simpa using h4)] at hq; exact hq _ (Own.unpick (Own.drop0 (Own.drop0 (Own.mono hS4 (le_bef (bef_app (a := [2, 0, 1, 1, 0, 1, 1]) hp))))) hL)
   ·try simp only [bs] at h4
    refine XW_skip ?_
    refine block_norm ?_
    refine then_norm ?_
    refine XW_sr ?_
    refine OW_mv rfl rfl ?_
    refine OW_mv rfl rfl ?_
    refine OW_mv rfl rfl ?_
    refine OW_env (e' := [_,_,_,_,_,_,_,_,_,_,_,_,_,_,_,_,_,_,_,_,_,_,_,_,_,_,_,_,_,_,_,_,_,_,_,_,_,_,_,_,_,_,_,_]) rfl ?_
    refine OW_mv rfl rfl ?_
    refine OW_fa rfl rfl rfl ?_
    refine OW_loadR hS2 (k := 1) rfl rfl rfl rfl rfl (by first | exact part_whole rfl rfl rfl | rfl) ?_
    refine OW_env (e' := [_,_,_,_,_,_,_,_,_,_,_,_,_,_,_,_,_,_,_,_,_,_,_,_,_,_,_,_,_,_,_,_,_,_,_,_,_,_,_,_,_,_,_,_]) rfl ?_
    refine OW_mv rfl rfl ?_
    first
    | refine OW_iaL rfl rfl rfl Ls.of rfl rfl rfl (by first | rfl | exact (Int.toNat_of_nonneg (by omega)).symm) (by first | assumption | exact at_map (by first | assumption | omega) | exact at_lst (by omega) | rfl) rfl ?_
    | refine OW_iaL rfl rfl rfl (by assumption) rfl rfl rfl (by first | rfl | exact (Int.toNat_of_nonneg (by omega)).symm) (by first | assumption | exact at_map (by first | assumption | omega) | exact at_lst (by omega) | rfl) rfl ?_
    refine OW_fa rfl rfl rfl ?_
    refine OW_env (e' := [_,_,_,_,_,_,_,_,_,_,_,_,_,_,_,_,_,_,_,_,_,_,_,_,_,_,_,_,_,_,_,_,_,_,_,_,_,_,_,_,_,_,_,_]) rfl ?_
    refine OW_loadE rfl rfl rfl (by first | exact part_whole rfl rfl rfl | rfl) ?_
    refine OW_mv rfl rfl ?_
    refine OW_fn rfl rfl (issueW hS2 (k := 2) rfl (le_lit (ν := ν) (a := [2, 0]) (b := [11, 0, 1, 1, 1]) (by decide)) (under_app [11, 0, 1, 1, 1] hβ) (before_lit (ν := ν) (a := [11, 0, 1, 1, 1]) (b := [12, 0, 1, 1, 1]) (by decide)) hn key ⟨tn, vo, c.ps[at0.toNat].ep, ri, 0⟩ ⟨htn, hvo, hpf.2.2.2.1, hri, (by decide : U64 0)⟩ fun H5 hS5 => ?_) 
    replace hS5 : Own _ _ _ (_ :: _ :: _ :: L.eraseIdx k) := hS5
    refine OW_env (e' := [_,_,_,_,_,_,_,_,_,_,_,_,_,_,_,_,_,_,_,_,_,_,_,_,_,_,_,_,_,_,_,_,_,_,_,_,_,_,_,_,_,_,_,_]) rfl ?_
    first
    | refine OW_storeR hS5 (k := 0) rfl le_refl rfl rfl rfl rfl ⟨rfl, rfl, Nat.le_of_ble_eq_true rfl⟩ (set_whole rfl rfl) fun H6 hS6 => ?_
    | refine OW_storeR hS5 (k := 0) rfl le_refl rfl rfl rfl rfl ⟨rfl, rfl, Nat.le_of_ble_eq_true rfl⟩ (u2 := .agg [_, _, _, _, _]) rfl fun H6 hS6 => ?_
    replace hS6 : Own _ _ _ (_ :: _ :: _ :: L.eraseIdx k) := hS6
    refine OW_as rfl rfl ?_
    refine OW_nilE (e' := [_,_,_,_,_,_,_,_,_,_,_,_,_,_,_,_,_,_,_,_,_,_,_,_,_,_,_,_,_,_,_,_,_,_,_,_,_,_,_,_,_,_,_,_]) rfl ?_
    refine XW_ret ?_
    -- outcome 3
    refine ret_ret (res2 rfl (rv_cellR hS6 (k := 0) rfl rfl rfl rfl (by first | exact part_whole rfl rfl rfl | rfl)) (rv_tmp rfl)) ?_
    rw [hrb, if_neg (by simpa using h4)] at hq; exact hq _ (Own.unpick (Own.drop0 (Own.drop0 (Own.mono hS6 (le_bef (bef_app (a := [13, 0, 1, 1, 1]) hp))))) hL)
theorem rGrant (hS : Own β ps H L) (hL : L[k]? = some (rorc q S)) (hle : le ps ν) (hβ : under β ν = true) (hp : before ν pos') {N : Nat} (hN : S.le N) (hn : N ≤ 4294960000) (hf : c.fit) (key vo tn ri : Int) (hvo : U64 vo) (htn : U64 tn) (hri : U64 ri)
    (hq : ∀ H1, Own β pos' H1 (L.set k (rorc q (gntS S key c vo tn ri).2)) → Q (.tup [(gntS S key c vo tn ri).1.1.enc, .int .i64 (gntS S key c vo tn ri).1.2]) H1) : CW cfg ν 18 [.ptr q 0 0, .int .u64 key, c.enc, .int .u64 vo, .int .u64 tn, .int .u64 ri] H Q := by
  have hlp := hf.lp
  have hr := gnt_cases S key hf vo tn ri
  replace hS := hS.pick hL
  refine CW_keep g18 F18 rfl ?_
  replace hS := Own.mono hS hle
  refine XW_sr ?_
  refine OW_boxR hS (le_app (p := ν) (b := [0, 0])) (under_app [0, 0] hβ) rfl rfl rfl ⟨rfl, rfl⟩ fun H1 hS1 => ?_
  replace hS1 : Own _ _ _ (_ :: _ :: L.eraseIdx k) := hS1
  refine OW_allocR hS1 le_refl (under_app [1, 0] hβ) rfl rfl rfl rfl fun H2 hS2 => ?_
  replace hS2 : Own _ _ _ (_ :: _ :: _ :: L.eraseIdx k) := hS2
  refine OW_as rfl rfl ?_
  refine OW_nilE (e' := [_,_,_,_,_,_,_,_,_,_,_,_,_,_,_,_,_,_,_,_,_,_,_,_,_,_,_,_,_,_,_,_,_,_,_,_,_,_,_,_,_,_,_]) rfl ?_
  refine XW_sr ?_
  refine OW_loadR hS2 (k := 1) rfl rfl rfl rfl rfl (by first | exact part_whole rfl rfl rfl | rfl) ?_
  refine OW_mv rfl rfl ?_
  refine OW_fn rfl rfl (rf_find (c := c) (by first | rfl | assumption) (by omega) _ ?_) 
  refine OW_env (e' := [_,_,_,_,_,_,_,_,_,_,_,_,_,_,_,_,_,_,_,_,_,_,_,_,_,_,_,_,_,_,_,_,_,_,_,_,_,_,_,_,_,_,_]) rfl ?_
  refine OW_as rfl rfl ?_
  refine OW_nilE (e' := [_,_,_,_,_,_,_,_,_,_,_,_,_,_,_,_,_,_,_,_,_,_,_,_,_,_,_,_,_,_,_,_,_,_,_,_,_,_,_,_,_,_,_]) rfl ?_
  refine XW_seq ?_
  refine XW_sr ?_
  generalize atP vo c.ps = at0 at *
  refine OW_mv rfl rfl ?_
  refine OW_bin rfl rfl rfl rfl rfl ?_
  refine OW_nilE (e' := [_,_,_,_,_,_,_,_,_,_,_,_,_,_,_,_,_,_,_,_,_,_,_,_,_,_,_,_,_,_,_,_,_,_,_,_,_,_,_,_,_,_,_]) rfl ?_
  refine XW_if rfl (fun h2 => ?_) (fun h2 => ?_)
  ·try simp only [bs] at h2
   refine XW_sr ?_
   refine OW_bd rfl rfl (v := .agg [_, _, _, _, _]) rfl ?_
   first
   | refine OW_storeR hS2 (k := 0) rfl (le_lit (ν := ν) (a := [2, 0]) (b := [1, 0, 1, 0, 1, 1]) (by decide)) rfl rfl rfl rfl ⟨rfl, rfl, Nat.le_of_ble_eq_true rfl⟩ (set_whole rfl rfl) fun H3 hS3 => ?_
   | refine OW_storeR hS2 (k := 0) rfl (le_lit (ν := ν) (a := [2, 0]) (b := [1, 0, 1, 0, 1, 1]) (by decide)) rfl rfl rfl rfl ⟨rfl, rfl, Nat.le_of_ble_eq_true rfl⟩ (u2 := .agg [_, _, _, _, _]) rfl fun H3 hS3 => ?_
   replace hS3 : Own _ _ _ (_ :: _ :: _ :: L.eraseIdx k) := hS3
   refine OW_as rfl rfl ?_
   refine OW_nilE (e' := [_,_,_,_,_,_,_,_,_,_,_,_,_,_,_,_,_,_,_,_,_,_,_,_,_,_,_,_,_,_,_,_,_,_,_,_,_,_,_,_,_,_,_]) rfl ?_
   refine XW_ret ?_
   refine then_ret ?_
   -- outcome 1
   refine ret_ret (res2 rfl (rv_cellR hS3 (k := 0) rfl rfl rfl rfl (by first | exact part_whole rfl rfl rfl | rfl)) (rv_tmp rfl)) ?_
   rcases hr with ⟨h, hg⟩ | ⟨_, h, _⟩ <;> first | omega | (rw [hg] at hq; exact hq _ (Own.unpick (Own.drop0 (Own.drop0 (Own.mono hS3 (le_bef (bef_app (a := [2, 0, 1, 0, 1, 1]) hp))))) hL))
  ·try simp only [bs] at h2
   obtain ⟨hr0, _⟩ | ⟨hlt, hr0, hpf, hvv, hrb⟩ := hr
   · omega
   refine XW_skip ?_
   refine then_norm ?_
   refine XW_seq ?_
   refine XW_sr ?_
   refine OW_fa rfl rfl rfl ?_
   refine OW_loadR hS2 (k := 1) rfl rfl rfl rfl rfl (by first | exact part_whole rfl rfl rfl | rfl) ?_
   refine OW_mv rfl rfl ?_
   refine OW_env (e' := [_,_,_,_,_,_,_,_,_,_,_,_,_,_,_,_,_,_,_,_,_,_,_,_,_,_,_,_,_,_,_,_,_,_,_,_,_,_,_,_,_,_,_]) rfl ?_
   first
   | refine OW_iaL rfl rfl rfl Ls.of rfl rfl rfl (by first | rfl | exact (Int.toNat_of_nonneg (by omega)).symm) (by first | assumption | exact at_map (by first | assumption | omega) | exact at_lst (by omega) | rfl) rfl ?_
   | refine OW_iaL rfl rfl rfl (by assumption) rfl rfl rfl (by first | rfl | exact (Int.toNat_of_nonneg (by omega)).symm) (by first | assumption | exact at_map (by first | assumption | omega) | exact at_lst (by omega) | rfl) rfl ?_
   refine OW_fa rfl rfl rfl ?_
   refine OW_loadE rfl rfl rfl (by first | exact part_whole rfl rfl rfl | rfl) ?_
   refine OW_env (e' := [_,_,_,_,_,_,_,_,_,_,_,_,_,_,_,_,_,_,_,_,_,_,_,_,_,_,_,_,_,_,_,_,_,_,_,_,_,_,_,_,_,_,_]) rfl ?_
   refine OW_mv rfl rfl ?_
   refine OW_bin rfl rfl rfl rfl rfl ?_
   refine OW_nilE (e' := [_,_,_,_,_,_,_,_,_,_,_,_,_,_,_,_,_,_,_,_,_,_,_,_,_,_,_,_,_,_,_,_,_,_,_,_,_,_,_,_,_,_,_]) rfl ?_
   refine XW_if rfl (fun h4 => ?_) (fun h4 => ?_)
   ·try simp only [bs] at h4
    refine XW_sr ?_
    refine OW_bd rfl rfl (v := .agg [_, _, _, _, _]) rfl ?_
    first
    | refine OW_storeR hS2 (k := 0) rfl (le_lit (ν := ν) (a := [2, 0]) (b := [1, 0, 1, 0, 1, 1, 1]) (by decide)) rfl rfl rfl rfl ⟨rfl, rfl, Nat.le_of_ble_eq_true rfl⟩ (set_whole rfl rfl) fun H4 hS4 => ?_
    | refine OW_storeR hS2 (k := 0) rfl (le_lit (ν := ν) (a := [2, 0]) (b := [1, 0, 1, 0, 1, 1, 1]) (by decide)) rfl rfl rfl rfl ⟨rfl, rfl, Nat.le_of_ble_eq_true rfl⟩ (u2 := .agg [_, _, _, _, _]) rfl fun H4 hS4 => ?_
    replace hS4 : Own _ _ _ (_ :: _ :: _ :: L.eraseIdx k) := hS4
    refine OW_as rfl rfl ?_
    refine OW_nilE (e' := [_,_,_,_,_,_,_,_,_,_,_,_,_,_,_,_,_,_,_,_,_,_,_,_,_,_,_,_,_,_,_,_,_,_,_,_,_,_,_,_,_,_,_]) rfl ?_
    refine XW_ret ?_
    refine then_ret ?_
    -- outcome 2
    refine ret_ret (res2 rfl (rv_cellR hS4 (k := 0) rfl rfl rfl rfl (by first | exact part_whole rfl rfl rfl | rfl)) (rv_tmp rfl)) ?_
    rw [hrb, if_pos (by simpa using h4)] at hq; exact hq _ (Own.unpick (Own.drop0 (Own.drop0 (Own.mono hS4 (le_bef (bef_app (a := [2, 0, 1, 0, 1, 1, 1]) hp))))) hL)
   ·try simp only [bs] at h4
    refine XW_skip ?_
    refine then_norm ?_
    refine XW_sr ?_
    refine OW_mv rfl rfl ?_
    refine OW_mv rfl rfl ?_
    refine OW_mv rfl rfl ?_
    refine OW_env (e' := [_,_,_,_,_,_,_,_,_,_,_,_,_,_,_,_,_,_,_,_,_,_,_,_,_,_,_,_,_,_,_,_,_,_,_,_,_,_,_,_,_,_,_]) rfl ?_
    refine OW_mv rfl rfl ?_
    refine OW_fa rfl rfl rfl ?_
    refine OW_loadR hS2 (k := 1) rfl rfl rfl rfl rfl (by first | exact part_whole rfl rfl rfl | rfl) ?_
    refine OW_env (e' := [_,_,_,_,_,_,_,_,_,_,_,_,_,_,_,_,_,_,_,_,_,_,_,_,_,_,_,_,_,_,_,_,_,_,_,_,_,_,_,_,_,_,_]) rfl ?_
    refine OW_mv rfl rfl ?_
    first
    | refine OW_iaL rfl rfl rfl Ls.of rfl rfl rfl (by first | rfl | exact (Int.toNat_of_nonneg (by omega)).symm) (by first | assumption | exact at_map (by first | assumption | omega) | exact at_lst (by omega) | rfl) rfl ?_
    | refine OW_iaL rfl rfl rfl (by assumption) rfl rfl rfl (by first | rfl | exact (Int.toNat_of_nonneg (by omega)).symm) (by first | assumption | exact at_map (by first | assumption | omega) | exact at_lst (by omega) | rfl) rfl ?_
    refine OW_fa rfl rfl rfl ?_
    refine OW_env (e' := [_,_,_,_,_,_,_,_,_,_,_,_,_,_,_,_,_,_,_,_,_,_,_,_,_,_,_,_,_,_,_,_,_,_,_,_,_,_,_,_,_,_,_]) rfl ?_
    refine OW_loadE rfl rfl rfl (by first | exact part_whole rfl rfl rfl | rfl) ?_
    refine OW_mv rfl rfl ?_
    refine OW_bd rfl rfl (v := .agg [_, _, _, _, _]) rfl ?_
    refine OW_env (e' := [_,_,_,_,_,_,_,_,_,_,_,_,_,_,_,_,_,_,_,_,_,_,_,_,_,_,_,_,_,_,_,_,_,_,_,_,_,_,_,_,_,_,_]) rfl ?_
    refine OW_fn rfl rfl (rissueW hS2 (k := 2) rfl (le_lit (ν := ν) (a := [2, 0]) (b := [12, 0, 1, 1, 1, 1]) (by decide)) (under_app [12, 0, 1, 1, 1, 1] hβ) (before_lit (ν := ν) (a := [12, 0, 1, 1, 1, 1]) (b := [13, 0, 1, 1, 1, 1]) (by decide)) hN hn key ⟨tn, vo, c.ps[at0.toNat].ep, ri, 0⟩ ⟨htn, hvo, hpf.2.2.2.1, hri, (by decide : U64 0)⟩ fun H5 hS5 => ?_) 
    replace hS5 : Own _ _ _ (_ :: _ :: _ :: L.eraseIdx k) := hS5
    first
    | refine OW_storeR hS5 (k := 0) rfl le_refl rfl rfl rfl rfl ⟨rfl, rfl, Nat.le_of_ble_eq_true rfl⟩ (set_whole rfl rfl) fun H6 hS6 => ?_
    | refine OW_storeR hS5 (k := 0) rfl le_refl rfl rfl rfl rfl ⟨rfl, rfl, Nat.le_of_ble_eq_true rfl⟩ (u2 := .agg [_, _, _, _, _]) rfl fun H6 hS6 => ?_
    replace hS6 : Own _ _ _ (_ :: _ :: _ :: L.eraseIdx k) := hS6
    refine OW_as rfl rfl ?_
    refine OW_nilE (e' := [_,_,_,_,_,_,_,_,_,_,_,_,_,_,_,_,_,_,_,_,_,_,_,_,_,_,_,_,_,_,_,_,_,_,_,_,_,_,_,_,_,_,_]) rfl ?_
    refine XW_ret ?_
    -- outcome 3
    refine ret_ret (res2 rfl (rv_cellR hS6 (k := 0) rfl rfl rfl rfl (by first | exact part_whole rfl rfl rfl | rfl)) (rv_tmp rfl)) ?_
    rw [hrb, if_neg (by simpa using h4)] at hq; exact hq _ (Own.unpick (Own.drop0 (Own.drop0 (Own.mono hS6 (le_bef (bef_app (a := [14, 0, 1, 1, 1, 1]) hp))))) hL)
end Go.Proofs.Ytealccnfnpkngaa.X
