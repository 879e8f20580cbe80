/- What the program's oracle does: any call, a new one. -/
import Derived.Test.YtoljfmghcfdbpaaJ3
set_option linter.unusedVariables false
set_option linter.unusedSimpArgs false
set_option maxRecDepth 100000
namespace Go.Proofs.Ytoljfmghcfdbpaa.X
open Go Go.RowKit
variable {ν β ps pos' : Nm} {H : Heap} {Q : AVal → Heap → Prop} {L : List Asr} {q : Nm} {F : Orf} {k : Nat}
/-- A call of an oracle. -/
structure Ca where
  d : Int
  k : Int
  n : Int
  h : Int
  a : ByteArray
  b : ByteArray
def Ca.enc (c : Ca) : AVal := .agg [.int .i64 c.d, .int .u64 c.k, .int .u64 c.n, .int .u64 c.h, .str c.a, .str c.b]
def Orf.act (F : Orf) (c : Ca) : Int × ByteArray × Bool × Orf :=
  if c.d = 0 then (F.next, ⟨#[]⟩, true, F.fresh)
  else if c.d = 1 then ((F.hash c.a).1, ⟨#[]⟩, true, (F.hash c.a).2)
  else if c.d = 2 then ((F.mac c.k c.a).1, ⟨#[]⟩, true, (F.mac c.k c.a).2)
  else if c.d = 3 then (0, ⟨#[]⟩, (F.verify c.k c.a c.h).1, (F.verify c.k c.a c.h).2)
  else if c.d = 4 then ((F.sealv c.k c.n c.a c.b).1, ⟨#[]⟩, true, (F.sealv c.k c.n c.a c.b).2)
  else if c.d = 5 then (0, (F.opens c.k c.n c.a c.h).1.1, (F.opens c.k c.n c.a c.h).1.2, (F.opens c.k c.n c.a c.h).2)
  else if c.d = 6 then (0, ⟨#[]⟩, false, F.meet c.h)
  else (0, ⟨#[]⟩, false, F)
theorem Orf.act_ok (h : F.ok) (c : Ca) : (F.act c).2.2.2.ok := by
  unfold act
  repeat' split
  all_goals first | exact fresh_ok h | exact hash_ok h _ | exact mac_ok h _ _ | exact verify_ok h _ _ _ | exact sealv_ok h _ _ _ _ | exact opens_ok h _ _ _ _ | exact meet_ok h _ | exact h
theorem Orf.act_n (F : Orf) (c : Ca) : (F.act c).2.2.2.n ≤ F.n + 1 := by
  unfold act
  repeat' split
  all_goals first | exact Nat.le_refl _ | exact hash_n _ | exact mac_n _ _ | exact sealv_n _ _ _ _ | exact Nat.le_succ _ | (simp [verify_n, opens_n, meet_n]; done)
theorem Orf.act0 {c : Ca} (h : c.d = 0) : F.act c = (F.next, ⟨#[]⟩, true, F.fresh) := by simp [Orf.act, h]
theorem Orf.act1 {c : Ca} (h : c.d = 1) : F.act c = ((F.hash c.a).1, ⟨#[]⟩, true, (F.hash c.a).2) := by simp [Orf.act, h]
theorem Orf.act2 {c : Ca} (h : c.d = 2) : F.act c = ((F.mac c.k c.a).1, ⟨#[]⟩, true, (F.mac c.k c.a).2) := by simp [Orf.act, h]
theorem Orf.act3 {c : Ca} (h : c.d = 3) : F.act c = (0, ⟨#[]⟩, (F.verify c.k c.a c.h).1, (F.verify c.k c.a c.h).2) := by simp [Orf.act, h]
theorem Orf.act4 {c : Ca} (h : c.d = 4) : F.act c = ((F.sealv c.k c.n c.a c.b).1, ⟨#[]⟩, true, (F.sealv c.k c.n c.a c.b).2) := by simp [Orf.act, h]
theorem Orf.act5 {c : Ca} (h : c.d = 5) : F.act c = (0, (F.opens c.k c.n c.a c.h).1.1, (F.opens c.k c.n c.a c.h).1.2, (F.opens c.k c.n c.a c.h).2) := by simp [Orf.act, h]
theorem Orf.act6 {c : Ca} (h : c.d = 6) : F.act c = (0, ⟨#[]⟩, false, F.meet c.h) := by simp [Orf.act, h]
theorem Orf.act7 {c : Ca} (h0 : ¬ c.d = 0) (h1 : ¬ c.d = 1) (h2 : ¬ c.d = 2) (h3 : ¬ c.d = 3) (h4 : ¬ c.d = 4) (h5 : ¬ c.d = 5) (h6 : ¬ c.d = 6) : F.act c = (0, ⟨#[]⟩, false, F) := by simp [Orf.act, h0, h1, h2, h3, h4, h5, h6]
abbrev Int.enc (n : Int) : AVal := .int .u64 n
theorem Int.clone {ν β ps pos' : Nm} {H : Heap} {Q : AVal → Heap → Prop} {L : List Asr} {ls : List Int} {S : AVal} (hv : Ls S (ls.map Int.enc)) (hS : Own β ps H L) (hle : le ps ν) (hβ : under β ν = true) (hp : before ν pos') (hn : ls.length ≤ 4294967296)
    (hq : ∀ v H', Own β pos' H' (sl v 1 (ls.map Int.enc) :: L) → Q v H') : CW cfg ν 35 [S] H Q := by
  have body : ∀ S, (S = .nls ∨ S = .nne) → XW cfg ν fi35.body (start fi35 [S]) (fun _ => none) (retW cfg.T fi35 fun v _ => isEmp v = true) := by
    rintro S (rfl | rfl)
    · refine XW_sr ?_
      refine OW_as rfl rfl ?_
      refine OW_nilE (e' := [_, _, _, _, _, _, _, _]) rfl ?_
      refine XW_seq ?_
      refine XW_sr ?_
      refine OW_mv rfl rfl ?_
      first
        | refine OW_bin rfl rfl rfl rfl (eq_yes (by omega)) ?_
        | refine OW_bin rfl rfl rfl rfl (eq_no (by omega)) ?_
        | refine OW_bin rfl rfl rfl rfl rfl ?_
      refine OW_nilE (e' := [_, _, _, _, _, _, _, _]) rfl ?_
      refine XW_yes rfl rfl ?_
      refine XW_sr ?_
      refine OW_as rfl rfl ?_
      refine OW_nilE (e' := [_, _, _, _, _, _, _, _]) rfl ?_
      refine XW_ret ?_
      refine then_ret ?_
      exact ret_ret rfl rfl
    · refine XW_sr ?_
      refine OW_as rfl rfl ?_
      refine OW_nilE (e' := [_, _, _, _, _, _, _, _]) rfl ?_
      refine XW_seq ?_
      refine XW_sr ?_
      refine OW_mv rfl rfl ?_
      first
        | refine OW_bin rfl rfl rfl rfl (eq_yes (by omega)) ?_
        | refine OW_bin rfl rfl rfl rfl (eq_no (by omega)) ?_
        | refine OW_bin rfl rfl rfl rfl rfl ?_
      refine OW_nilE (e' := [_, _, _, _, _, _, _, _]) rfl ?_
      refine XW_no rfl rfl ?_
      refine XW_skip ?_
      refine then_norm ?_
      refine XW_sr ?_
      refine OW_bs rfl rfl rfl ?_
      refine OW_mv rfl rfl ?_
      refine OW_bi rfl rfl rfl ?_
      refine OW_env (e' := [_, _, _, _, _, _, _, _]) rfl ?_
      refine OW_as rfl rfl ?_
      refine OW_nilE (e' := [_, _, _, _, _, _, _, _]) rfl ?_
      refine XW_ret ?_
      exact ret_ret rfl rfl
  by_cases h0 : noneIn [S] = true
  · refine CW_clone0 g35 F35 rfl h0 (body _ (.inl rfl)) (body _ (.inr rfl)) (hq _ _ ?_)
    obtain rfl : ls = [] := by
      rcases hv with rfl | ⟨h, _⟩
      · cases ls with
        | nil => rfl
        | cons x r => simp [noneIn] at h0
      · simpa using h
    exact (hS.mono (hle.trans (le_bef hp))).addE
  · have h0 : noneIn [S] = false := by simpa using h0
    rcases hv with rfl | ⟨h, rfl | rfl⟩
    · obtain ⟨x, r, rfl⟩ : ∃ x r, ls = x :: r := by
        cases ls with
        | nil => simp [noneIn] at h0
        | cons x r => exact ⟨x, r, rfl⟩
      refine CW_clone g35 F35 rfl h0 ?_
      refine XW_sr ?_
      refine OW_as rfl rfl ?_
      refine OW_nilE (e' := [_, _, _, _, _, _, _, _]) rfl ?_
      refine XW_seq ?_
      refine XW_sr ?_
      refine OW_mv rfl rfl ?_
      first
        | refine OW_bin rfl rfl rfl rfl (eq_yes (by omega)) ?_
        | refine OW_bin rfl rfl rfl rfl (eq_no (by omega)) ?_
        | refine OW_bin rfl rfl rfl rfl rfl ?_
      refine OW_nilE (e' := [_, _, _, _, _, _, _, _]) rfl ?_
      refine XW_no rfl rfl ?_
      refine XW_skip ?_
      refine then_norm ?_
      refine XW_sr ?_
      refine OW_bs rfl rfl rfl ?_
      refine OW_mv rfl rfl ?_
      refine OW_appE (hS.mono hle) (le_app (b := [2, 0, 1, 1])) (under_app [2, 0, 1, 1] hβ) rfl rfl rfl rfl rfl rfl rfl rfl (Ls.elems Ls.of) (map_wide (fun _ => rfl)) (by simpa using hn) (by decide) fun O2 H2 hS2 => ?_
      refine OW_env (e' := [_, _, _, _, _, _, _, _]) rfl ?_
      refine OW_as rfl rfl ?_
      refine OW_nilE (e' := [_, _, _, _, _, _, _, _]) rfl ?_
      refine XW_ret ?_
      exact ret_ret rfl (hq _ _ (hS2.mono (le_bef (bef_app (a := [3, 0, 1, 1]) hp))))
    · simp [noneIn] at h0
    · obtain rfl : ls = [] := by simpa using h
      refine CW_clone g35 F35 rfl rfl ?_
      refine XW_sr ?_
      refine OW_as rfl rfl ?_
      refine OW_nilE (e' := [_, _, _, _, _, _, _, _]) rfl ?_
      refine XW_seq ?_
      refine XW_sr ?_
      refine OW_mv rfl rfl ?_
      first
        | refine OW_bin rfl rfl rfl rfl (eq_yes (by omega)) ?_
        | refine OW_bin rfl rfl rfl rfl (eq_no (by omega)) ?_
        | refine OW_bin rfl rfl rfl rfl rfl ?_
      refine OW_nilE (e' := [_, _, _, _, _, _, _, _]) rfl ?_
      refine XW_yes rfl rfl ?_
      refine XW_sr ?_
      refine OW_as rfl rfl ?_
      refine OW_nilE (e' := [_, _, _, _, _, _, _, _]) rfl ?_
      refine XW_ret ?_
      refine then_ret ?_
      exact ret_ret rfl (hq _ _ (hS.mono (hle.trans (le_bef hp))).addN)

/-- A copy of an own slice. -/
theorem Int.cloneO {ν β ps pos' : Nm} {H : Heap} {Q : AVal → Heap → Prop} {L : List Asr} {ls : List Int} {S : AVal} {k : Nat} (hS : Own β ps H L) (hL : L[k]? = some (sl S 1 (ls.map Int.enc))) (hle : le ps ν) (hβ : under β ν = true) (hp : before ν pos') (hn : ls.length ≤ 4294967296)
    (hq : ∀ v H', Own β pos' H' (sl v 1 (ls.map Int.enc) :: L) → Q v H') : CW cfg ν 35 [S] H Q := by
  obtain ⟨f, hf, _⟩ := hS.get hL
  have hf : Sl H 1 (ls.map Int.enc) S f := hf
  cases hf with
  | emp h => exact Int.clone (.inr ⟨h, .inl rfl⟩) hS hle hβ hp hn hq
  | nls h => exact Int.clone (.inr ⟨h, .inr rfl⟩) hS hle hβ hp hn hq
  | row h1 h2 h3 =>
    refine CW_clone g35 F35 rfl rfl ?_
    refine XW_sr ?_
    refine OW_as rfl rfl ?_
    refine OW_nilE (e' := [_, _, _, _, _, _, _, _]) rfl ?_
    refine XW_seq ?_
    refine XW_sr ?_
    refine OW_mv rfl rfl ?_
    first
      | refine OW_bin rfl rfl rfl rfl (eq_yes (by omega)) ?_
      | refine OW_bin rfl rfl rfl rfl (eq_no (by omega)) ?_
      | refine OW_bin rfl rfl rfl rfl rfl ?_
    refine OW_nilE (e' := [_, _, _, _, _, _, _, _]) rfl ?_
    refine XW_no rfl rfl ?_
    refine XW_skip ?_
    refine then_norm ?_
    refine XW_sr ?_
    refine OW_bs rfl rfl rfl ?_
    refine OW_mv rfl rfl ?_
    refine OW_appE (hS.mono hle) (le_app (b := [2, 0, 1, 1])) (under_app [2, 0, 1, 1] hβ) rfl rfl rfl rfl rfl rfl rfl rfl (hS.elems hL) (map_wide (fun _ => rfl)) (by simpa using hn) (by decide) fun O2 H2 hS2 => ?_
    refine OW_env (e' := [_, _, _, _, _, _, _, _]) rfl ?_
    refine OW_as rfl rfl ?_
    refine OW_nilE (e' := [_, _, _, _, _, _, _, _]) rfl ?_
    refine XW_ret ?_
    exact ret_ret rfl (hq _ _ (hS2.mono (le_bef (bef_app (a := [3, 0, 1, 1]) hp))))
theorem iNew (hS : Own β ps H L) (hle : le ps ν) (hβ : under β ν = true) (hp : before ν pos') {v : AVal} {d : List Int} (hv : Ls v (d.map Int.enc)) (hd : d.length ≤ 4294967000)
    (hq : ∀ q H1, Own β pos' H1 (orc q (Orf.new d) :: L) → Q (.ptr q 0 0) H1) : CW cfg ν 28 [v] H Q := by
  refine CW_keep g28 F28 rfl ?_
  replace hS := Own.mono hS hle
  refine XW_sr ?_
  refine OW_as rfl rfl ?_
  refine OW_nilE (e' := [_, _, _, _, _, _, _, _, _, _, _, _, _]) rfl ?_
  refine XW_sr ?_
  refine OW_mv rfl rfl ?_
  refine OW_fn rfl rfl (Int.clone (by assumption) hS (le_app (p := ν) (b := [1, 0, 1])) (under_app [1, 0, 1] hβ) (before_lit (ν := ν) (a := [1, 0, 1]) (b := [2, 0, 1]) (by decide)) (by omega) fun O1 H1 hS1 => ?_) 
  replace hS1 : Own _ _ _ (_ :: L) := hS1
  refine OW_makeM eU eI hS1 le_refl (under_app [2, 0, 1] hβ) rfl fun H2 hS2 => ?_
  replace hS2 : Own _ _ _ (_ :: _ :: L) := hS2
  refine OW_env (e' := [_, _, _, _, _, _, _, _, _, _, _, _, _]) rfl ?_
  refine OW_makeM eU eI hS2 le_refl (under_app [3, 0, 1] hβ) rfl fun H3 hS3 => ?_
  replace hS3 : Own _ _ _ (_ :: _ :: _ :: L) := hS3
  refine OW_makeM eS eU hS3 le_refl (under_app [4, 0, 1] hβ) rfl fun H4 hS4 => ?_
  replace hS4 : Own _ _ _ (_ :: _ :: _ :: _ :: L) := hS4
  refine OW_makeM eTag eU hS4 le_refl (under_app [5, 0, 1] hβ) rfl fun H5 hS5 => ?_
  replace hS5 : Own _ _ _ (_ :: _ :: _ :: _ :: _ :: L) := hS5
  refine OW_env (e' := [_, _, _, _, _, _, _, _, _, _, _, _, _]) rfl ?_
  refine OW_makeM eSeal eU hS5 le_refl (under_app [6, 0, 1] hβ) rfl fun H6 hS6 => ?_
  replace hS6 : Own _ _ _ (_ :: _ :: _ :: _ :: _ :: _ :: L) := hS6
  refine OW_makeM eTold eI hS6 le_refl (under_app [7, 0, 1] hβ) rfl fun H7 hS7 => ?_
  replace hS7 : Own _ _ _ (_ :: _ :: _ :: _ :: _ :: _ :: _ :: L) := hS7
  refine OW_bdP rfl (pcons rfl (hS7.one (k := 6) rfl).1 (pcons rfl rfl (pcons rfl rfl (pcons rfl rfl (pcons rfl rfl (pcons rfl rfl (pcons rfl rfl rfl))))))) rfl rfl rfl (cs := [_, _, _, _, _, _, _, _, _, _]) (fill1 rfl (hS7.one (k := 6) rfl).2 rfl (Nat.le_of_ble_eq_true rfl) rfl (fill1 rfl rfl rfl (Nat.le_of_ble_eq_true rfl) rfl (fill1 rfl rfl rfl (Nat.le_of_ble_eq_true rfl) rfl (fill1 rfl rfl rfl (Nat.le_of_ble_eq_true rfl) rfl (fill1 rfl rfl rfl (Nat.le_of_ble_eq_true rfl) rfl (fill1 rfl rfl rfl (Nat.le_of_ble_eq_true rfl) rfl (fill1 rfl rfl rfl (Nat.le_of_ble_eq_true rfl) rfl rfl))))))) ?_
  refine OW_env (e' := [_, _, _, _, _, _, _, _, _, _, _, _, _]) rfl ?_
  refine OW_boxR hS7 (le_lit (ν := ν) (a := [8, 0, 1]) (b := [9, 0, 1]) (by decide)) (under_app [9, 0, 1] hβ) rfl rfl rfl ⟨rfl, rfl⟩ fun H8 hS8 => ?_
  replace hS8 : Own _ _ _ (_ :: _ :: _ :: _ :: _ :: _ :: _ :: _ :: L) := hS8
  refine OW_as rfl rfl ?_
  refine OW_nilE (e' := [_, _, _, _, _, _, _, _, _, _, _, _, _]) rfl ?_
  refine XW_ret ?_
  -- outcome 1
  refine ret_ret (res1 rfl (rv_tmp rfl)) ?_
  exact hq _ _ (Own.mk_orc (m := 0) (d := d) (pl := []) (Own.tor (A := [_, _, _, _, _, _, _, _]) (Own.tor (A := [_, _, _, _, _, _, _, _]) (Own.addE (w := 1) (Own.tor (A := [_, _, _, _, _, _]) (Own.tor (A := [_, _, _, _, _]) (Own.tor (A := [_, _, _, _]) (Own.tor (A := [_, _, _]) (Own.tor (A := [_, _]) (Own.tor (A := [_]) (Own.mono hS8 (le_bef (bef_app (a := [10, 0, 1]) hp)))))))))))) rfl rfl)
theorem iNewO {v : AVal} {d : List Int} {k : Nat} (hS : Own β ps H L) (hL : L[k]? = some (sl v 1 (d.map Int.enc))) (hle : le ps ν) (hβ : under β ν = true) (hp : before ν pos') (hd : d.length ≤ 4294967000)
    (hq : ∀ q H1, Own β pos' H1 (orc q (Orf.new d) :: L) → Q (.ptr q 0 0) H1) : CW cfg ν 28 [v] H Q := by
  refine CW_keep g28 F28 rfl ?_
  replace hS := Own.mono hS hle
  refine XW_sr ?_
  refine OW_as rfl rfl ?_
  refine OW_nilE (e' := [_, _, _, _, _, _, _, _, _, _, _, _, _]) rfl ?_
  refine XW_sr ?_
  refine OW_mv rfl rfl ?_
  refine OW_fn rfl rfl (Int.cloneO hS (k := k) hL (le_app (p := ν) (b := [1, 0, 1])) (under_app [1, 0, 1] hβ) (before_lit (ν := ν) (a := [1, 0, 1]) (b := [2, 0, 1]) (by decide)) (by omega) fun O1 H1 hS1 => ?_) 
  replace hS1 : Own _ _ _ (_ :: L) := hS1
  refine OW_makeM eU eI hS1 le_refl (under_app [2, 0, 1] hβ) rfl fun H2 hS2 => ?_
  replace hS2 : Own _ _ _ (_ :: _ :: L) := hS2
  refine OW_env (e' := [_, _, _, _, _, _, _, _, _, _, _, _, _]) rfl ?_
  refine OW_makeM eU eI hS2 le_refl (under_app [3, 0, 1] hβ) rfl fun H3 hS3 => ?_
  replace hS3 : Own _ _ _ (_ :: _ :: _ :: L) := hS3
  refine OW_makeM eS eU hS3 le_refl (under_app [4, 0, 1] hβ) rfl fun H4 hS4 => ?_
  replace hS4 : Own _ _ _ (_ :: _ :: _ :: _ :: L) := hS4
  refine OW_makeM eTag eU hS4 le_refl (under_app [5, 0, 1] hβ) rfl fun H5 hS5 => ?_
  replace hS5 : Own _ _ _ (_ :: _ :: _ :: _ :: _ :: L) := hS5
  refine OW_env (e' := [_, _, _, _, _, _, _, _, _, _, _, _, _]) rfl ?_
  refine OW_makeM eSeal eU hS5 le_refl (under_app [6, 0, 1] hβ) rfl fun H6 hS6 => ?_
  replace hS6 : Own _ _ _ (_ :: _ :: _ :: _ :: _ :: _ :: L) := hS6
  refine OW_makeM eTold eI hS6 le_refl (under_app [7, 0, 1] hβ) rfl fun H7 hS7 => ?_
  replace hS7 : Own _ _ _ (_ :: _ :: _ :: _ :: _ :: _ :: _ :: L) := hS7
  refine OW_bdP rfl (pcons rfl (hS7.one (k := 6) rfl).1 (pcons rfl rfl (pcons rfl rfl (pcons rfl rfl (pcons rfl rfl (pcons rfl rfl (pcons rfl rfl rfl))))))) rfl rfl rfl (cs := [_, _, _, _, _, _, _, _, _, _]) (fill1 rfl (hS7.one (k := 6) rfl).2 rfl (Nat.le_of_ble_eq_true rfl) rfl (fill1 rfl rfl rfl (Nat.le_of_ble_eq_true rfl) rfl (fill1 rfl rfl rfl (Nat.le_of_ble_eq_true rfl) rfl (fill1 rfl rfl rfl (Nat.le_of_ble_eq_true rfl) rfl (fill1 rfl rfl rfl (Nat.le_of_ble_eq_true rfl) rfl (fill1 rfl rfl rfl (Nat.le_of_ble_eq_true rfl) rfl (fill1 rfl rfl rfl (Nat.le_of_ble_eq_true rfl) rfl rfl))))))) ?_
  refine OW_env (e' := [_, _, _, _, _, _, _, _, _, _, _, _, _]) rfl ?_
  refine OW_boxR hS7 (le_lit (ν := ν) (a := [8, 0, 1]) (b := [9, 0, 1]) (by decide)) (under_app [9, 0, 1] hβ) rfl rfl rfl ⟨rfl, rfl⟩ fun H8 hS8 => ?_
  replace hS8 : Own _ _ _ (_ :: _ :: _ :: _ :: _ :: _ :: _ :: _ :: L) := hS8
  refine OW_as rfl rfl ?_
  refine OW_nilE (e' := [_, _, _, _, _, _, _, _, _, _, _, _, _]) rfl ?_
  refine XW_ret ?_
  -- outcome 1
  refine ret_ret (res1 rfl (rv_tmp rfl)) ?_
  exact hq _ _ (Own.mk_orc (m := 0) (d := d) (pl := []) (Own.tor (A := [_, _, _, _, _, _, _, _]) (Own.tor (A := [_, _, _, _, _, _, _, _]) (Own.addE (w := 1) (Own.tor (A := [_, _, _, _, _, _]) (Own.tor (A := [_, _, _, _, _]) (Own.tor (A := [_, _, _, _]) (Own.tor (A := [_, _, _]) (Own.tor (A := [_, _]) (Own.tor (A := [_]) (Own.mono hS8 (le_bef (bef_app (a := [10, 0, 1]) hp)))))))))))) rfl rfl)
end Go.Proofs.Ytoljfmghcfdbpaa.X
