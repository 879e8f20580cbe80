import Derived.Test.YtfkgdlfponfimaaGreatU32
import Derived.Test.YtfkgdlfponfimaaGreatU26
import Derived.Test.YtfkgdlfponfimaaGreatU27
import Derived.Test.YtfkgdlfponfimaaGreatU28
import Derived.Test.YtfkgdlfponfimaaGreatU29
import Derived.KernelRfl
/- Layer 11: functions over slices of sessions. -/
set_option linter.unusedVariables false
set_option linter.unusedSimpArgs false
set_option maxRecDepth 100000
namespace Go.Proofs.YtfkgdlfponfimaaGreat.X.SE
open Go Go.RowKit
structure Se where
  id : Int
  nr : Int
  an : ByteArray
  deriving DecidableEq
def Se.enc (l : Se) : AVal := .agg [.int .u64 l.id, .int .u64 l.nr, .str l.an]
def Se.FnP (f : FuncId) (caps : List AVal) (bs : List Nm) (H0 : Heap) (p : Se → Bool) : Prop :=
  ∀ ν x H Q, (∀ b ∈ bs, H b = H0 b ∧ under ν b = false) → Q (.bool (p x)) H → CW cfg ν f (x.enc :: caps) H Q
theorem Se.idx {ν : Nm} {H : Heap} {Q : AVal → Heap → Prop} {ls : List Se} {S : AVal} {f : FuncId} {caps : List AVal} {bs : List Nm} {p : Se → Bool} (hf : Se.FnP f caps bs H p) (hbs : ∀ b ∈ bs, under ν b = false) (h : Rd H 3 (ls.map Se.enc) S) (hn : ls.length ≤ 4611686018427387904) (hq : Q (.int .i64 (firstI p ls 0)) H) : CW cfg ν 90 [S, .fn f caps] H Q := by
  have h2 : lenOf H S = some ls.length := by rw [h.len, List.length_map]
  have h3 : lenKind cfg.T [23] S = true := h.kind T23 rfl
  refine CW_fullS g90 F90 rfl ?_
  refine XW_sr (OW_as rfl rfl ?_)
  refine OW_nilE (e' := [_, _, _, _, _, _, _, _, _, _, _, _, _, _, _, _, _, _, _]) rfl ?_
  refine XW_seq (XW_sr (OW_mv rfl rfl ?_))
  refine OW_bi rfl rfl (aLen h3 h2) ?_
  refine OW_env (e' := [_, _, _, _, _, _, _, _, _, _, _, _, _, _, _, _, _, _, _]) rfl ?_
  refine OW_mv rfl rfl ?_
  refine OW_nilE (e' := [_, _, _, _, _, _, _, _, _, _, _, _, _, _, _, _, _, _, _]) rfl ?_
  refine XW_block ?_
  refine XW_whileN (I := fun ν' n e H' => H' = H ∧ (∀ p, under ν p = false → under ν' p = false) ∧ ∃ (i : Nat), n = ls.length - i ∧ i ≤ ls.length ∧ firstI p ls 0 = firstI p (ls.drop i) i ∧ ∃ g : Nat → AVal, e = [S, .fn f caps, g 2, g 3, .int .i64 0, g 5, g 6, .int .i64 ls.length, .int .i64 i, g 9, g 10, g 11, g 12, g 13, g 14, g 15, g 16, g 17, g 18]) ?_ _ _ _ _ ⟨rfl, fun p hp => by repeat (first | exact hp | apply under_dn), 0, rfl, by omega, rfl, env_g rfl⟩
  rintro ν' n e H' ⟨rfl, hsub, i, rfl, hi, hfs, g, rfl⟩
  refine XW_sr ?_
  refine OW_bin rfl rfl rfl rfl rfl ?_
  refine OW_nilE (e' := [_, _, _, _, _, _, _, _, _, _, _, _, _, _, _, _, _, _, _]) rfl ?_
  refine XW_seq ?_
  refine XW_if rfl (fun ht => ?_) (fun ht => ?_)
  · have hlt : i < ls.length := by simpa using ht
    have hxi : (ls.map Se.enc)[i]? = some (ls[i].enc) := by simp [hlt]
    obtain ⟨P, k1, k2⟩ := h.at (kk := .i64) T23 rfl T135 rfl hxi rfl rfl
    refine XW_skip (then_norm (XW_seq (XW_block (XW_sr (OW_mv rfl rfl (OW_as rfl rfl ?_))))))
    refine OW_nilE (e' := [_, _, _, _, _, _, _, _, _, _, _, _, _, _, _, _, _, _, _]) rfl ?_
    refine XW_sr (OW_mv rfl rfl (OW_mv rfl rfl (OW_mv rfl rfl ?_)))
    refine OW_ia rfl rfl rfl k1 ?_
    refine OW_load rfl rfl k2 ?_
    refine OW_fv rfl rfl rfl (hf _ ls[i] _ _ (fun b hb => ⟨rfl, by have := hsub b (hbs b hb); repeat (first | exact this | apply under_dn)⟩) ?_)
    refine OW_nilE (e' := [_, _, _, _, _, _, _, _, _, _, _, _, _, _, _, _, _, _, _]) rfl ?_
    refine XW_if rfl (fun hp => ?_) (fun hp => ?_)
    · refine XW_sr ?_
      refine OW_mv rfl rfl (OW_as rfl rfl ?_)
      refine OW_nilE (e' := [_, _, _, _, _, _, _, _, _, _, _, _, _, _, _, _, _, _, _]) rfl ?_
      refine XW_ret (block_ret (then_ret (block_ret (then_ret ?_))))
      refine ret_ret rfl ⟨fun _ _ => rfl, ?_⟩
      rw [List.drop_eq_getElem_cons hlt, firstI, if_pos hp] at hfs
      rw [hfs] at hq; exact hq
    refine XW_skip (block_norm (then_norm (XW_region ?_)))
    refine OW_bin rfl rfl rfl rfl (add64 (by omega)) ?_
    refine OW_mv rfl rfl ?_
    refine OW_nilE (e' := [_, _, _, _, _, _, _, _, _, _, _, _, _, _, _, _, _, _, _]) rfl ?_
    refine ⟨ls.length - (i + 1), by omega, rfl, fun p hp => under_dn (hsub p hp), i + 1, rfl, by omega, ?_, env_g rfl⟩
    rw [List.drop_eq_getElem_cons hlt, firstI, if_neg (by simp [hp])] at hfs
    exact hfs
  have hge : ls.length ≤ i := by simpa using ht
  refine XW_exit (then_exit (block_exit (then_norm (XW_sr (OW_as rfl rfl ?_)))))
  refine OW_nilE (e' := [_, _, _, _, _, _, _, _, _, _, _, _, _, _, _, _, _, _, _]) rfl ?_
  refine XW_ret ?_
  refine ret_ret rfl ⟨fun _ _ => rfl, ?_⟩
  rw [List.drop_eq_nil_of_le hge, firstI] at hfs
  rw [hfs] at hq; exact hq
theorem Se.has {ν : Nm} {H : Heap} {Q : AVal → Heap → Prop} {ls : List Se} {S : AVal} {f : FuncId} {caps : List AVal} {bs : List Nm} {p : Se → Bool} (hf : Se.FnP f caps bs H p) (hbs : ∀ b ∈ bs, under ν b = false) (h : Rd H 3 (ls.map Se.enc) S) (hn : ls.length ≤ 4611686018427387904) (hq : Q (.bool (ls.any p)) H) : CW cfg ν 109 [S, .fn f caps] H Q := by
  refine CW_fullS g109 F109 rfl ?_
  refine XW_sr (OW_as rfl rfl ?_)
  refine OW_nilE (e' := [_, _, _, _, _, _, _, _, _]) rfl ?_
  refine XW_sr (OW_mv rfl rfl (OW_mv rfl rfl ?_))
  refine OW_fn rfl rfl (Se.idx hf (fun b hb => by have := hbs b hb; repeat (first | exact this | apply under_dn)) h hn ?_)
  refine OW_env (e' := [_, _, _, _, _, _, _, _, _]) rfl ?_
  refine OW_bin rfl rfl rfl rfl rfl ?_
  refine OW_as rfl rfl ?_
  refine OW_nilE (e' := [_, _, _, _, _, _, _, _, _]) rfl ?_
  refine XW_ret ?_
  refine ret_ret rfl ⟨fun _ _ => rfl, ?_⟩
  have : decide (firstI p ls 0 ≥ 0) = ls.any p := firstI_any p ls 0 (by omega)
  show Q (.bool (decide (firstI p ls 0 ≥ 0))) H
  rw [this]; exact hq
theorem Se.store {H : Heap} {q : Nm} {i : Nat} {ys : List AVal} {l l0 : Se} (hq : H q = some (.row 3 ys)) (hi : ys[i]? = some l0.enc) : aStore cfg.T H 135 (.ptr q i 0) l.enc = some (H.put q (some (.row 3 (ys.set i l.enc)))) :=
  aStore_ptr T135 hq hi ⟨rfl, rfl, Nat.le_refl 3⟩
theorem Se.clone {ν β ps pos' : Nm} {H : Heap} {Q : AVal → Heap → Prop} {L : List Asr} {ls : List Se} {S : AVal} (hv : Ls S (ls.map Se.enc)) (hS : Own β ps H L) (hle : le ps ν) (hβ : under β ν = true) (hp : before ν pos') (hn : ls.length ≤ 4294967296)
    (hq : ∀ v H', Own β pos' H' (sl v 3 (ls.map Se.enc) :: L) → Q v H') : CW cfg ν 92 [S] H Q := by
  have body : ∀ S, (S = .nls ∨ S = .nne) → XW cfg ν fi92.body (start fi92 [S]) (fun _ => none) (retW cfg.T fi92 fun v _ => isEmp v = true) := by
    rintro S (rfl | rfl)
    · refine XW_sr ?_
      refine OW_as rfl rfl ?_
      refine OW_nilE (e' := [_, _, _, _, _, _, _, _]) rfl ?_
      refine XW_seq (XW_sr (OW_mv rfl rfl ?_))
      refine OW_bin rfl rfl rfl rfl rfl ?_
      refine OW_nilE (e' := [_, _, _, _, _, _, _, _]) rfl ?_
      refine XW_yes rfl rfl ?_
      refine XW_sr (OW_as rfl rfl ?_)
      refine OW_nilE (e' := [_, _, _, _, _, _, _, _]) rfl ?_
      refine XW_ret (then_ret ?_)
      exact ret_ret rfl rfl
    refine XW_sr (OW_as rfl rfl ?_)
    refine OW_nilE (e' := [_, _, _, _, _, _, _, _]) rfl ?_
    refine XW_seq (XW_sr (OW_mv rfl rfl ?_))
    refine OW_bin rfl rfl rfl rfl rfl ?_
    refine OW_nilE (e' := [_, _, _, _, _, _, _, _]) rfl ?_
    refine XW_no rfl rfl ?_
    refine XW_skip (then_norm (XW_sr ?_))
    refine OW_bs rfl rfl rfl ?_
    refine OW_mv rfl rfl (OW_bi rfl rfl rfl ?_)
    refine OW_env (e' := [_, _, _, _, _, _, _, _]) rfl ?_
    refine OW_as rfl rfl ?_
    refine OW_nilE (e' := [_, _, _, _, _, _, _, _]) rfl ?_
    refine XW_ret ?_
    exact ret_ret rfl rfl
  by_cases h0 : noneIn [S] = true
  · refine CW_clone0 g92 F92 rfl h0 (body _ (.inl rfl)) (body _ (.inr rfl)) (hq _ _ ?_)
    obtain rfl : ls = [] := by
      rcases hv with rfl | ⟨h, _⟩
      · cases ls with
        | nil => rfl
        | cons x r => simp [noneIn] at h0
      simpa using h
    exact (hS.mono (hle.trans (le_bef hp))).addE
  have h0 : noneIn [S] = false := by simpa using h0
  rcases hv with rfl | ⟨h, rfl | rfl⟩
  · obtain ⟨x, r, rfl⟩ : ∃ x r, ls = x :: r := by
      cases ls with
      | nil => simp [noneIn] at h0
      | cons x r => exact ⟨x, r, rfl⟩
    refine CW_clone g92 F92 rfl h0 ?_
    refine XW_sr (OW_as rfl rfl ?_)
    refine OW_nilE (e' := [_, _, _, _, _, _, _, _]) rfl ?_
    refine XW_seq (XW_sr (OW_mv rfl rfl ?_))
    refine OW_bin rfl rfl rfl rfl rfl ?_
    refine OW_nilE (e' := [_, _, _, _, _, _, _, _]) rfl ?_
    refine XW_no rfl rfl ?_
    refine XW_skip (then_norm (XW_sr ?_))
    refine OW_bs rfl rfl rfl ?_
    refine OW_mv rfl rfl ?_
    refine OW_appE (hS.mono hle) (le_app (b := [2, 0, 1, 1])) (under_app [2, 0, 1, 1] hβ) rfl rfl rfl rfl rfl rfl rfl rfl (Ls.elems Ls.of) (map_wide (fun _ => rfl)) (by simpa using hn) (by decide) fun O2 H2 hS2 => ?_
    refine OW_env (e' := [_, _, _, _, _, _, _, _]) rfl ?_
    refine OW_as rfl rfl ?_
    refine OW_nilE (e' := [_, _, _, _, _, _, _, _]) rfl ?_
    refine XW_ret ?_
    exact ret_ret rfl (hq _ _ (hS2.mono (le_bef (bef_app (a := [3, 0, 1, 1]) hp))))
  · simp [noneIn] at h0
  obtain rfl : ls = [] := by simpa using h
  refine CW_clone g92 F92 rfl rfl ?_
  refine XW_sr (OW_as rfl rfl ?_)
  refine OW_nilE (e' := [_, _, _, _, _, _, _, _]) rfl ?_
  refine XW_seq (XW_sr (OW_mv rfl rfl ?_))
  refine OW_bin rfl rfl rfl rfl rfl ?_
  refine OW_nilE (e' := [_, _, _, _, _, _, _, _]) rfl ?_
  refine XW_yes rfl rfl ?_
  refine XW_sr (OW_as rfl rfl ?_)
  refine OW_nilE (e' := [_, _, _, _, _, _, _, _]) rfl ?_
  refine XW_ret (then_ret ?_)
  exact ret_ret rfl (hq _ _ (hS.mono (hle.trans (le_bef hp))).addN)
end Go.Proofs.YtfkgdlfponfimaaGreat.X.SE

/- Layer 11: what the functions of a session's table do. -/
set_option linter.unusedVariables false
set_option linter.unusedSimpArgs false
set_option maxRecDepth 100000
namespace Go.Proofs.YtfkgdlfponfimaaGreat.X.SE
open Go Go.RowKit
variable {ν : Nm} {H : Heap} {Q : AVal → Heap → Prop}
theorem neSe (a b : Se) : aBin cfg.T .neq 135 a.enc b.enc = some (.bool (decide (a ≠ b))) := by
  have e : (decide (a ≠ b)) = !(decide (a.id = b.id) && (decide (a.nr = b.nr) && (decide (a.an = b.an) && true))) := by
    obtain ⟨a1, a2, a3⟩ := a; obtain ⟨b1, b2, b3⟩ := b
    simp only [ne_eq, Se.mk.injEq]
    by_cases h1 : a1 = b1 <;> by_cases h2 : a2 = b2 <;> by_cases h3 : a3 = b3 <;> simp [h1, h2, h3]
  rw [e]; rfl
theorem c_of {id : Int} {β ps pos' : Nm} {L : List Asr} (hS : Own β ps H L) (hle : le ps ν) (hβ : under β ν = true) (hp : before ν pos')
    (hq : ∀ b H2, Own β pos' H2 (row b 1 [.int .u64 id] :: L) → Se.FnP 117 [.ptr b 0 0] [b] H2 (fun x => decide (x.id = id)) → Q (.fn 117 [.ptr b 0 0]) H2) : CW cfg ν 91 [.int .u64 id] H Q := by
  have key : ∀ b H2, H2 b = some (.row 1 [.int .u64 id]) → Se.FnP 117 [.ptr b 0 0] [b] H2 (fun x => decide (x.id = id)) := by
    intro b H2 hb ν x H Q hbs hq
    obtain ⟨h1, h2⟩ := hbs b (by simp)
    rw [hb] at h1
    refine CW_fullS g117 F117 rfl ?_
    refine XW_sr ?_
    refine OW_box rfl rfl rfl ?_
    refine OW_as rfl rfl ?_
    refine OW_nilE (e' := [_, _, _, _, _, _, _, _]) rfl ?_
    refine XW_sr (OW_fa rfl rfl rfl ?_)
    refine OW_load rfl rfl (aLoad_ptr rfl put_same rfl rfl) ?_
    refine OW_load rfl rfl (aLoad_ptr rfl (by rw [put_ne (far h2 (by repeat (first | exact under_me | apply under_in)))]; exact h1) rfl rfl) ?_
    refine OW_env (e' := [_, _, _, _, _, _, _, _]) rfl ?_
    refine OW_bin rfl rfl rfl rfl rfl ?_
    refine OW_as rfl rfl ?_
    refine OW_nilE (e' := [_, _, _, _, _, _, _, _]) rfl ?_
    refine XW_ret ?_
    exact ret_ret rfl ⟨fun p hp => put_ne (far hp (by repeat (first | exact under_me | apply under_in))), hq⟩
  refine CW_keep g91 F91 rfl ?_
  replace hS := Own.mono hS hle
  refine XW_sr ?_
  refine OW_boxR hS (le_app (p := ν) (b := [0, 0])) (under_app [0, 0] hβ) rfl rfl rfl ⟨rfl, rfl⟩ fun H1 hS1 => ?_
  replace hS1 : Own _ _ _ (_ :: L) := hS1
  refine OW_as rfl rfl ?_
  refine OW_nilE (e' := [_,_,_,_]) rfl ?_
  refine XW_sr ?_
  refine OW_mf rfl rfl ?_
  refine OW_as rfl rfl ?_
  refine OW_nilE (e' := [_,_,_,_]) rfl ?_
  refine XW_ret ?_
  refine ret_ret (res1 rfl (rv_tmp rfl)) ?_
  exact hq _ _ (Own.mono hS1 (le_bef (bef_app (a := [1, 0]) hp))) (key _ _ (by obtain ⟨f, ⟨_, h⟩, _⟩ := hS1.get (k := 0) rfl; exact h))
def seekL (id nr : Int) : List Se → Int × ByteArray
  | [] => (0, ⟨#[]⟩)
  | x :: r => if x.id = id then (if x.nr = nr then (1, x.an) else if x.nr > nr then (2, ⟨#[]⟩) else (0, ⟨#[]⟩)) else seekL id nr r
end Go.Proofs.YtfkgdlfponfimaaGreat.X.SE

/- Layer 11: Note, Is, has, Check. -/
set_option linter.unusedVariables false
set_option linter.unusedSimpArgs false
set_option maxRecDepth 100000
namespace Go.Proofs.YtfkgdlfponfimaaGreat.X.SE
open Go Go.RowKit
variable {ν : Nm} {H : Heap} {Q : AVal → Heap → Prop}
def cutA (a : ByteArray) : ByteArray := a.extract 0 (min a.size 256)
def keepL (id : Int) (t : List Se) : List Se := t.filter (fun x => !decide (x.id = id))
def lastL (l : List Se) : List Se := l.drop (l.length - 16)
def noteL (t : List Se) (id nr : Int) (a : ByteArray) : List Se := lastL (keepL id t ++ [⟨id, nr, cutA a⟩])
theorem c_Is {v w : AVal} {s t : List Se} (hv : Ls v (s.map Se.enc)) (hw : Ls w (t.map Se.enc)) (hn : s.length ≤ 4294967296) (hm : t.length ≤ 4294967296) (hq : Q (.bool (decide (s = t))) H) : CW cfg ν 48 [v, w] H Q := by
  refine CW_pure g48 F48 rfl ?_
  refine XW_sr (OW_as rfl rfl ?_)
  refine EZ26 rfl ?_
  refine XW_seq (XW_sr (OW_mv rfl rfl ?_))
  refine OW_lenL rfl rfl (by assumption) rfl rfl rfl (by exact List.length_map _) ?_
  refine OW_mv rfl rfl ?_
  refine OW_env (e' := [_,_,_,_,_,_,_,_,_,_,_,_,_,_,_,_,_,_,_,_,_,_,_,_,_,_]) rfl ?_
  refine OW_lenL rfl rfl (by assumption) rfl rfl rfl (by exact List.length_map _) ?_
  refine OW_bin rfl rfl rfl rfl rfl ?_
  refine EZ26 rfl ?_
  refine XW_if rfl (fun h1 => ?_) (fun h1 => ?_)
  ·try simp only [bs] at h1
   refine XW_sr (OW_as rfl rfl ?_)
   refine EZ26 rfl ?_
   refine XW_ret (then_ret ?_)
   refine ret_ret (res1 rfl (rv_tmp rfl)) (frz1 (Q := Q) (by exact freeze_plain rfl) ?_)
   refine qcast hq ?_
   congr 1
   exact (decide_eq_false (fun e => h1 (by rw [e]))).symm
  try simp only [bs] at h1
  refine XW_skip (then_norm (XW_seq (XW_sr (OW_as rfl rfl ?_))))
  refine EZ26 rfl ?_
  refine XW_block ?_
  refine XW_whileN (I := fun ν' mm ee H' => ∃ (i : Nat), mm = s.length - i ∧ under (1 :: 0 :: 1 :: 1 :: ν) ν' = true ∧ (i ≤ s.length ∧ s.length = t.length ∧ s.take i = t.take i) ∧ ∃ g : Nat → AVal, ee = [v, w, g 2, g 3, g 4, .int .i64 i, g 6, g 7, g 8, g 9, g 10, g 11, g 12, g 13, g 14, g 15, g 16, g 17, g 18, g 19, g 20, g 21, g 22, g 23, g 24, g 25]) ?_ _ _ _ _ ⟨0, rfl, under_me, (⟨by omega, by omega, rfl⟩), env_g rfl⟩
  rintro ν1 mm ee H1 ⟨i, rfl, hU1, ⟨hi, hl, hI⟩, g1, rfl⟩
  refine XW_seq (XW_sr (OW_mv rfl rfl (OW_mv rfl rfl ?_)))
  refine OW_lenL rfl rfl (by assumption) rfl rfl rfl (by exact List.length_map _) ?_
  refine OW_env (e' := [_,_,_,_,_,_,_,_,_,_,_,_,_,_,_,_,_,_,_,_,_,_,_,_,_,_]) rfl ?_
  refine OW_bin rfl rfl rfl rfl rfl ?_
  refine EZ26 rfl ?_
  refine XW_if rfl (fun h4 => ?_) (fun h4 => ?_)
  ·try simp only [bs] at h4
   refine XW_skip (then_norm (XW_seq (XW_block (XW_sr (OW_mv rfl rfl (OW_mv rfl rfl ?_))))))
   refine OW_iaL rfl rfl rfl (by assumption) rfl rfl rfl (by rfl) (by exact at_map (by omega)) rfl ?_
   refine OW_env (e' := [_,_,_,_,_,_,_,_,_,_,_,_,_,_,_,_,_,_,_,_,_,_,_,_,_,_]) rfl ?_
   refine OW_loadE rfl rfl rfl (by exact part_whole rfl rfl rfl) ?_
   refine OW_mv rfl rfl (OW_mv rfl rfl ?_)
   refine OW_env (e' := [_,_,_,_,_,_,_,_,_,_,_,_,_,_,_,_,_,_,_,_,_,_,_,_,_,_]) rfl ?_
   refine OW_iaL rfl rfl rfl (by assumption) rfl rfl rfl (by rfl) (by exact at_map (by omega)) rfl ?_
   refine OW_loadE rfl rfl rfl (by exact part_whole rfl rfl rfl) ?_
   refine OW_bin rfl rfl rfl rfl (neSe _ _) ?_
   refine EZ26 rfl ?_
   refine XW_if rfl (fun h6 => ?_) (fun h6 => ?_)
   ·try simp only [bs] at h6
    refine XW_sr (OW_as rfl rfl ?_)
    refine EZ26 rfl ?_
    refine XW_ret (block_ret (then_ret (block_ret (then_ret ?_))))
    refine ret_ret (res1 rfl (rv_tmp rfl)) (frz1 (Q := Q) (by exact freeze_plain rfl) ?_)
    refine qcast hq ?_
    congr 1
    exact (decide_eq_false (fun e => by subst e; exact h6 rfl)).symm
   try simp only [bs] at h6
   refine XW_skip (block_norm (then_norm (XW_region (OW_mv rfl rfl ?_))))
   refine OW_bin rfl rfl rfl rfl (add_w64 (by omega)) ?_
   refine OW_as rfl rfl ?_
   refine EZ26 rfl ?_
   refine ⟨_, ?_, i + 1, rfl, under_in hU1, ?_, env_g rfl⟩
   · omega
   exact ⟨by omega, hl, by rw [List.take_succ_eq_append_getElem (by omega), List.take_succ_eq_append_getElem (by omega), hI, h6]⟩
  try simp only [bs] at h4
  refine XW_exit (then_exit (block_exit (then_norm (XW_sr (OW_as rfl rfl ?_)))))
  refine EZ26 rfl ?_
  refine XW_ret ?_
  refine ret_ret (res1 rfl (rv_tmp rfl)) (frz1 (Q := Q) (by exact freeze_plain rfl) ?_)
  refine qcast hq ?_
  congr 1
  exact (decide_eq_true (by rw [List.take_of_length_le (by omega), List.take_of_length_le (by omega)] at hI; exact hI)).symm
end Go.Proofs.YtfkgdlfponfimaaGreat.X.SE

/- Layer 12: tables of quotas, and functions over them. -/
set_option linter.unusedVariables false
set_option linter.unusedSimpArgs false
set_option maxRecDepth 100000
namespace Go.Proofs.YtfkgdlfponfimaaGreat.X
open Go Go.RowKit
structure Qu where
  tn : Int
  us : Int
  li : Int
  deriving DecidableEq
def Qu.enc (l : Qu) : AVal := .agg [.int .u64 l.tn, .int .u64 l.us, .int .u64 l.li]
theorem Qu.ne (a b : Qu) : aBin cfg.T .neq 138 a.enc b.enc = some (.bool (decide (a ≠ b))) := by
  have e : (decide (a ≠ b)) = !(decide (a.tn = b.tn) && (decide (a.us = b.us) && (decide (a.li = b.li) && true))) := by
    obtain ⟨a1, a2, a3⟩ := a; obtain ⟨b1, b2, b3⟩ := b
    simp only [ne_eq, Qu.mk.injEq]
    by_cases h1 : a1 = b1 <;> by_cases h2 : a2 = b2 <;> by_cases h3 : a3 = b3 <;> simp [h1, h2, h3]
  rw [e]; rfl
def Qu.FnP (f : FuncId) (caps : List AVal) (bs : List Nm) (H0 : Heap) (p : Qu → Bool) : Prop :=
  ∀ ν x H Q, (∀ b ∈ bs, H b = H0 b ∧ under ν b = false) → Q (.bool (p x)) H → CW cfg ν f (x.enc :: caps) H Q
theorem Qu.idx {ν : Nm} {H : Heap} {Q : AVal → Heap → Prop} {ls : List Qu} {S : AVal} {f : FuncId} {caps : List AVal} {bs : List Nm} {p : Qu → Bool} (hf : Qu.FnP f caps bs H p) (hbs : ∀ b ∈ bs, under ν b = false) (h : Rd H 3 (ls.map Qu.enc) S) (hn : ls.length ≤ 4611686018427387904) (hq : Q (.int .i64 (firstI p ls 0)) H) : CW cfg ν 123 [S, .fn f caps] H Q := by
  have h2 : lenOf H S = some ls.length := by rw [h.len, List.length_map]
  have h3 : lenKind cfg.T [24] S = true := h.kind T24 rfl
  refine CW_fullS g123 F123 rfl ?_
  refine XW_sr (OW_as rfl rfl ?_)
  refine OW_nilE (e' := [_, _, _, _, _, _, _, _, _, _, _, _, _, _, _, _, _, _, _]) rfl ?_
  refine XW_seq (XW_sr (OW_mv rfl rfl ?_))
  refine OW_bi rfl rfl (aLen h3 h2) ?_
  refine OW_env (e' := [_, _, _, _, _, _, _, _, _, _, _, _, _, _, _, _, _, _, _]) rfl ?_
  refine OW_mv rfl rfl ?_
  refine OW_nilE (e' := [_, _, _, _, _, _, _, _, _, _, _, _, _, _, _, _, _, _, _]) rfl ?_
  refine XW_block ?_
  refine XW_whileN (I := fun ν' n e H' => H' = H ∧ (∀ p, under ν p = false → under ν' p = false) ∧ ∃ (i : Nat), n = ls.length - i ∧ i ≤ ls.length ∧ firstI p ls 0 = firstI p (ls.drop i) i ∧ ∃ g : Nat → AVal, e = [S, .fn f caps, g 2, g 3, .int .i64 0, g 5, g 6, .int .i64 ls.length, .int .i64 i, g 9, g 10, g 11, g 12, g 13, g 14, g 15, g 16, g 17, g 18]) ?_ _ _ _ _ ⟨rfl, fun p hp => by repeat (first | exact hp | apply under_dn), 0, rfl, by omega, rfl, env_g rfl⟩
  rintro ν' n e H' ⟨rfl, hsub, i, rfl, hi, hfs, g, rfl⟩
  refine XW_sr ?_
  refine OW_bin rfl rfl rfl rfl rfl ?_
  refine OW_nilE (e' := [_, _, _, _, _, _, _, _, _, _, _, _, _, _, _, _, _, _, _]) rfl ?_
  refine XW_seq ?_
  refine XW_if rfl (fun ht => ?_) (fun ht => ?_)
  · have hlt : i < ls.length := by simpa using ht
    have hxi : (ls.map Qu.enc)[i]? = some (ls[i].enc) := by simp [hlt]
    obtain ⟨P, k1, k2⟩ := h.at (kk := .i64) T24 rfl T138 rfl hxi rfl rfl
    refine XW_skip (then_norm (XW_seq (XW_block (XW_sr (OW_mv rfl rfl (OW_as rfl rfl ?_))))))
    refine OW_nilE (e' := [_, _, _, _, _, _, _, _, _, _, _, _, _, _, _, _, _, _, _]) rfl ?_
    refine XW_sr (OW_mv rfl rfl (OW_mv rfl rfl (OW_mv rfl rfl ?_)))
    refine OW_ia rfl rfl rfl k1 ?_
    refine OW_load rfl rfl k2 ?_
    refine OW_fv rfl rfl rfl (hf _ ls[i] _ _ (fun b hb => ⟨rfl, by have := hsub b (hbs b hb); repeat (first | exact this | apply under_dn)⟩) ?_)
    refine OW_nilE (e' := [_, _, _, _, _, _, _, _, _, _, _, _, _, _, _, _, _, _, _]) rfl ?_
    refine XW_if rfl (fun hp => ?_) (fun hp => ?_)
    · refine XW_sr ?_
      refine OW_mv rfl rfl (OW_as rfl rfl ?_)
      refine OW_nilE (e' := [_, _, _, _, _, _, _, _, _, _, _, _, _, _, _, _, _, _, _]) rfl ?_
      refine XW_ret (block_ret (then_ret (block_ret (then_ret ?_))))
      refine ret_ret rfl ⟨fun _ _ => rfl, ?_⟩
      rw [List.drop_eq_getElem_cons hlt, firstI, if_pos hp] at hfs
      rw [hfs] at hq; exact hq
    refine XW_skip (block_norm (then_norm (XW_region ?_)))
    refine OW_bin rfl rfl rfl rfl (add64 (by omega)) ?_
    refine OW_mv rfl rfl ?_
    refine OW_nilE (e' := [_, _, _, _, _, _, _, _, _, _, _, _, _, _, _, _, _, _, _]) rfl ?_
    refine ⟨ls.length - (i + 1), by omega, rfl, fun p hp => under_dn (hsub p hp), i + 1, rfl, by omega, ?_, env_g rfl⟩
    rw [List.drop_eq_getElem_cons hlt, firstI, if_neg (by simp [hp])] at hfs
    exact hfs
  have hge : ls.length ≤ i := by simpa using ht
  refine XW_exit (then_exit (block_exit (then_norm (XW_sr (OW_as rfl rfl ?_)))))
  refine OW_nilE (e' := [_, _, _, _, _, _, _, _, _, _, _, _, _, _, _, _, _, _, _]) rfl ?_
  refine XW_ret ?_
  refine ret_ret rfl ⟨fun _ _ => rfl, ?_⟩
  rw [List.drop_eq_nil_of_le hge, firstI] at hfs
  rw [hfs] at hq; exact hq
theorem Qu.clone {ν β ps pos' : Nm} {H : Heap} {Q : AVal → Heap → Prop} {L : List Asr} {ls : List Qu} {S : AVal} (hv : Ls S (ls.map Qu.enc)) (hS : Own β ps H L) (hle : le ps ν) (hβ : under β ν = true) (hp : before ν pos') (hn : ls.length ≤ 4294967296)
    (hq : ∀ v H', Own β pos' H' (sl v 3 (ls.map Qu.enc) :: L) → Q v H') : CW cfg ν 93 [S] H Q := by
  have body : ∀ S, (S = .nls ∨ S = .nne) → XW cfg ν fi93.body (start fi93 [S]) (fun _ => none) (retW cfg.T fi93 fun v _ => isEmp v = true) := by
    rintro S (rfl | rfl)
    · refine XW_sr ?_
      refine OW_as rfl rfl ?_
      refine OW_nilE (e' := [_, _, _, _, _, _, _, _]) rfl ?_
      refine XW_seq (XW_sr (OW_mv rfl rfl ?_))
      refine OW_bin rfl rfl rfl rfl rfl ?_
      refine OW_nilE (e' := [_, _, _, _, _, _, _, _]) rfl ?_
      refine XW_yes rfl rfl ?_
      refine XW_sr (OW_as rfl rfl ?_)
      refine OW_nilE (e' := [_, _, _, _, _, _, _, _]) rfl ?_
      refine XW_ret (then_ret ?_)
      exact ret_ret rfl rfl
    refine XW_sr (OW_as rfl rfl ?_)
    refine OW_nilE (e' := [_, _, _, _, _, _, _, _]) rfl ?_
    refine XW_seq (XW_sr (OW_mv rfl rfl ?_))
    refine OW_bin rfl rfl rfl rfl rfl ?_
    refine OW_nilE (e' := [_, _, _, _, _, _, _, _]) rfl ?_
    refine XW_no rfl rfl ?_
    refine XW_skip (then_norm (XW_sr ?_))
    refine OW_bs rfl rfl rfl ?_
    refine OW_mv rfl rfl (OW_bi rfl rfl rfl ?_)
    refine OW_env (e' := [_, _, _, _, _, _, _, _]) rfl ?_
    refine OW_as rfl rfl ?_
    refine OW_nilE (e' := [_, _, _, _, _, _, _, _]) rfl ?_
    refine XW_ret ?_
    exact ret_ret rfl rfl
  by_cases h0 : noneIn [S] = true
  · refine CW_clone0 g93 F93 rfl h0 (body _ (.inl rfl)) (body _ (.inr rfl)) (hq _ _ ?_)
    obtain rfl : ls = [] := by
      rcases hv with rfl | ⟨h, _⟩
      · cases ls with
        | nil => rfl
        | cons x r => simp [noneIn] at h0
      simpa using h
    exact (hS.mono (hle.trans (le_bef hp))).addE
  have h0 : noneIn [S] = false := by simpa using h0
  rcases hv with rfl | ⟨h, rfl | rfl⟩
  · obtain ⟨x, r, rfl⟩ : ∃ x r, ls = x :: r := by
      cases ls with
      | nil => simp [noneIn] at h0
      | cons x r => exact ⟨x, r, rfl⟩
    refine CW_clone g93 F93 rfl h0 ?_
    refine XW_sr (OW_as rfl rfl ?_)
    refine OW_nilE (e' := [_, _, _, _, _, _, _, _]) rfl ?_
    refine XW_seq (XW_sr (OW_mv rfl rfl ?_))
    refine OW_bin rfl rfl rfl rfl rfl ?_
    refine OW_nilE (e' := [_, _, _, _, _, _, _, _]) rfl ?_
    refine XW_no rfl rfl ?_
    refine XW_skip (then_norm (XW_sr ?_))
    refine OW_bs rfl rfl rfl ?_
    refine OW_mv rfl rfl ?_
    refine OW_appE (hS.mono hle) (le_app (b := [2, 0, 1, 1])) (under_app [2, 0, 1, 1] hβ) rfl rfl rfl rfl rfl rfl rfl rfl (Ls.elems Ls.of) (map_wide (fun _ => rfl)) (by simpa using hn) (by decide) fun O2 H2 hS2 => ?_
    refine OW_env (e' := [_, _, _, _, _, _, _, _]) rfl ?_
    refine OW_as rfl rfl ?_
    refine OW_nilE (e' := [_, _, _, _, _, _, _, _]) rfl ?_
    refine XW_ret ?_
    exact ret_ret rfl (hq _ _ (hS2.mono (le_bef (bef_app (a := [3, 0, 1, 1]) hp))))
  · simp [noneIn] at h0
  obtain rfl : ls = [] := by simpa using h
  refine CW_clone g93 F93 rfl rfl ?_
  refine XW_sr (OW_as rfl rfl ?_)
  refine OW_nilE (e' := [_, _, _, _, _, _, _, _]) rfl ?_
  refine XW_seq (XW_sr (OW_mv rfl rfl ?_))
  refine OW_bin rfl rfl rfl rfl rfl ?_
  refine OW_nilE (e' := [_, _, _, _, _, _, _, _]) rfl ?_
  refine XW_yes rfl rfl ?_
  refine XW_sr (OW_as rfl rfl ?_)
  refine OW_nilE (e' := [_, _, _, _, _, _, _, _]) rfl ?_
  refine XW_ret (then_ret ?_)
  exact ret_ret rfl (hq _ _ (hS.mono (hle.trans (le_bef hp))).addN)
theorem Qu.is {ν : Nm} {H : Heap} {Q : AVal → Heap → Prop} {v w : AVal} {s t : List Qu} (hv : Ls v (s.map Qu.enc)) (hw : Ls w (t.map Qu.enc)) (hn : s.length ≤ 4294967296) (hm : t.length ≤ 4294967296) (hq : Q (.bool (decide (s = t))) H) : CW cfg ν 49 [v, w] H Q := by
  refine CW_pure g49 F49 rfl ?_
  refine XW_sr (OW_as rfl rfl ?_)
  refine EZ26 rfl ?_
  refine XW_seq (XW_sr (OW_mv rfl rfl ?_))
  refine OW_lenL rfl rfl (by assumption) rfl rfl rfl (by exact List.length_map _) ?_
  refine OW_mv rfl rfl ?_
  refine OW_env (e' := [_,_,_,_,_,_,_,_,_,_,_,_,_,_,_,_,_,_,_,_,_,_,_,_,_,_]) rfl ?_
  refine OW_lenL rfl rfl (by assumption) rfl rfl rfl (by exact List.length_map _) ?_
  refine OW_bin rfl rfl rfl rfl rfl ?_
  refine EZ26 rfl ?_
  refine XW_if rfl (fun h1 => ?_) (fun h1 => ?_)
  ·try simp only [bs] at h1
   refine XW_sr (OW_as rfl rfl ?_)
   refine EZ26 rfl ?_
   refine XW_ret (then_ret ?_)
   refine ret_ret (res1 rfl (rv_tmp rfl)) (frz1 (Q := Q) (by exact freeze_plain rfl) ?_)
   refine qcast hq ?_
   congr 1
   exact (decide_eq_false (fun e => h1 (by rw [e]))).symm
  try simp only [bs] at h1
  refine XW_skip (then_norm (XW_seq (XW_sr (OW_as rfl rfl ?_))))
  refine EZ26 rfl ?_
  refine XW_block ?_
  refine XW_whileN (I := fun ν' mm ee H' => ∃ (i : Nat), mm = s.length - i ∧ under (1 :: 0 :: 1 :: 1 :: ν) ν' = true ∧ (i ≤ s.length ∧ s.length = t.length ∧ s.take i = t.take i) ∧ ∃ g : Nat → AVal, ee = [v, w, g 2, g 3, g 4, .int .i64 i, g 6, g 7, g 8, g 9, g 10, g 11, g 12, g 13, g 14, g 15, g 16, g 17, g 18, g 19, g 20, g 21, g 22, g 23, g 24, g 25]) ?_ _ _ _ _ ⟨0, rfl, under_me, (⟨by omega, by omega, rfl⟩), env_g rfl⟩
  rintro ν1 mm ee H1 ⟨i, rfl, hU1, ⟨hi, hl, hI⟩, g1, rfl⟩
  refine XW_seq (XW_sr (OW_mv rfl rfl (OW_mv rfl rfl ?_)))
  refine OW_lenL rfl rfl (by assumption) rfl rfl rfl (by exact List.length_map _) ?_
  refine OW_env (e' := [_,_,_,_,_,_,_,_,_,_,_,_,_,_,_,_,_,_,_,_,_,_,_,_,_,_]) rfl ?_
  refine OW_bin rfl rfl rfl rfl rfl ?_
  refine EZ26 rfl ?_
  refine XW_if rfl (fun h4 => ?_) (fun h4 => ?_)
  ·try simp only [bs] at h4
   refine XW_skip (then_norm (XW_seq (XW_block (XW_sr (OW_mv rfl rfl (OW_mv rfl rfl ?_))))))
   refine OW_iaL rfl rfl rfl (by assumption) rfl rfl rfl (by rfl) (by exact at_map (by omega)) rfl ?_
   refine OW_env (e' := [_,_,_,_,_,_,_,_,_,_,_,_,_,_,_,_,_,_,_,_,_,_,_,_,_,_]) rfl ?_
   refine OW_loadE rfl rfl rfl (by exact part_whole rfl rfl rfl) ?_
   refine OW_mv rfl rfl (OW_mv rfl rfl ?_)
   refine OW_env (e' := [_,_,_,_,_,_,_,_,_,_,_,_,_,_,_,_,_,_,_,_,_,_,_,_,_,_]) rfl ?_
   refine OW_iaL rfl rfl rfl (by assumption) rfl rfl rfl (by rfl) (by exact at_map (by omega)) rfl ?_
   refine OW_loadE rfl rfl rfl (by exact part_whole rfl rfl rfl) ?_
   refine OW_bin rfl rfl rfl rfl (Qu.ne _ _) ?_
   refine EZ26 rfl ?_
   refine XW_if rfl (fun h6 => ?_) (fun h6 => ?_)
   ·try simp only [bs] at h6
    refine XW_sr (OW_as rfl rfl ?_)
    refine EZ26 rfl ?_
    refine XW_ret (block_ret (then_ret (block_ret (then_ret ?_))))
    refine ret_ret (res1 rfl (rv_tmp rfl)) (frz1 (Q := Q) (by exact freeze_plain rfl) ?_)
    refine qcast hq ?_
    congr 1
    exact (decide_eq_false (fun e => by subst e; exact h6 rfl)).symm
   try simp only [bs] at h6
   refine XW_skip (block_norm (then_norm (XW_region (OW_mv rfl rfl ?_))))
   refine OW_bin rfl rfl rfl rfl (add_w64 (by omega)) ?_
   refine OW_as rfl rfl ?_
   refine EZ26 rfl ?_
   refine ⟨_, ?_, i + 1, rfl, under_in hU1, ?_, env_g rfl⟩
   · omega
   exact ⟨by omega, hl, by rw [List.take_succ_eq_append_getElem (by omega), List.take_succ_eq_append_getElem (by omega), hI, h6]⟩
  try simp only [bs] at h4
  refine XW_exit (then_exit (block_exit (then_norm (XW_sr (OW_as rfl rfl ?_)))))
  refine EZ26 rfl ?_
  refine XW_ret ?_
  refine ret_ret (res1 rfl (rv_tmp rfl)) (frz1 (Q := Q) (by exact freeze_plain rfl) ?_)
  refine qcast hq ?_
  congr 1
  exact (decide_eq_true (by rw [List.take_of_length_le (by omega), List.take_of_length_le (by omega)] at hI; exact hI)).symm
def isT (tn : Int) : Qu → Bool := fun x => decide (x.tn = tn)
def atQ (tn : Int) (t : List Qu) : Int := firstI (isT tn) t 0
def getQ (tn : Int) (t : List Qu) : Option Qu := t.find? (isT tn)
def modQ (tn : Int) (f : Qu → Qu) : List Qu → List Qu
  | [] => []
  | x :: r => if x.tn = tn then f x :: r else x :: modQ tn f r
theorem atQ_cases (tn : Int) (t : List Qu) : (atQ tn t = -1 ∧ getQ tn t = none) ∨ ∃ (i : Nat) (h : i < t.length), atQ tn t = i ∧ getQ tn t = some t[i] ∧ t[i].tn = tn ∧ ∀ f, modQ tn f t = t.set i (f t[i]) := by
  rcases firstI_cases (isT tn) t with ⟨h1, h2⟩ | ⟨i, h0, h1, h2, h3⟩
  · exact .inl ⟨h1, by rw [getQ, List.find?_eq_none]; intro x hx; simp [h2 x hx]⟩
  refine .inr ⟨i, h0, h1, ?_, by simpa [isT] using h2, ?_⟩
  · clear h1
    induction t generalizing i with
    | nil => simp at h0
    | cons x r ih =>
      cases i with
      | zero => simp only [List.getElem_cons_zero] at h2 ⊢; simp [getQ, List.find?_cons, h2]
      | succ i =>
        have hx : isT tn x = false := h3 x (by simp [List.take_succ_cons])
        have := ih i (by simpa using h0) (by simpa using h2) (fun y hy => h3 y (by simp [List.take_succ_cons, hy]))
        simp only [getQ, List.find?_cons, hx] at this ⊢
        simpa using this
  intro f
  clear h1
  induction t generalizing i with
  | nil => simp at h0
  | cons x r ih =>
    cases i with
    | zero => have : x.tn = tn := by simpa [isT] using h2
              simp [modQ, this]
    | succ i =>
      have hx : ¬ x.tn = tn := by have := h3 x (by simp [List.take_succ_cons]); simpa [isT] using this
      simp only [modQ, if_neg hx, List.set_cons_succ, List.getElem_cons_succ]
      rw [ih i (by simpa using h0) (by simpa using h2) (fun y hy => h3 y (by simp [List.take_succ_cons, hy]))]
def setQ (t : List Qu) (tn li : Int) : List Qu × Bool := match getQ tn t with
  | some _ => (modQ tn (fun r => { r with li := li }) t, true)
  | none => if t.length < 16 then (t ++ [⟨tn, 0, li⟩], true) else ([], false)
def takeQ (t : List Qu) (tn n : Int) : List Qu × Int := match getQ tn t with
  | some r => if r.us ≤ r.li ∧ n ≤ r.li - r.us then (modQ tn (fun r => { r with us := r.us + n }) t, 0) else ([], 121)
  | none => ([], 120)
def giveQ (t : List Qu) (tn n : Int) : List Qu × Int := match getQ tn t with
  | some _ => (modQ tn (fun r => { r with us := r.us - min n r.us }) t, 0)
  | none => ([], 120)
def Qu.fit (x : Qu) : Prop := (0 ≤ x.tn ∧ x.tn ≤ 18446744073709551615) ∧ (0 ≤ x.us ∧ x.us ≤ 18446744073709551615) ∧ 0 ≤ x.li ∧ x.li ≤ 18446744073709551615
def Fit (t : List Qu) : Prop := ∀ x ∈ t, x.fit
end Go.Proofs.YtfkgdlfponfimaaGreat.X

/- Layer 12: what the functions of quotas do. -/
set_option linter.unusedVariables false
set_option linter.unusedSimpArgs false
set_option maxRecDepth 100000
namespace Go.Proofs.YtfkgdlfponfimaaGreat.X
open Go Go.RowKit
variable {ν : Nm} {H : Heap} {Q : AVal → Heap → Prop}
theorem find_fn {b : Nm} {H2 : Heap} {tn : Int} (hb : H2 b = some (.row 1 [.int .u64 tn])) : Qu.FnP 124 [.ptr b 0 0] [b] H2 (isT tn) := by
  intro ν x H Q hbs hq
  obtain ⟨h1, h2⟩ := hbs b (by simp)
  rw [hb] at h1
  refine CW_fullS g124 F124 rfl ?_
  refine XW_sr ?_
  refine OW_box rfl rfl rfl ?_
  refine OW_as rfl rfl ?_
  refine OW_nilE (e' := [_, _, _, _, _, _, _, _]) rfl ?_
  refine XW_sr (OW_fa rfl rfl rfl ?_)
  refine OW_load rfl rfl (aLoad_ptr rfl put_same rfl rfl) ?_
  refine OW_load rfl rfl (aLoad_ptr rfl (by rw [put_ne (far h2 (by repeat (first | exact under_me | apply under_in)))]; exact h1) rfl rfl) ?_
  refine OW_env (e' := [_, _, _, _, _, _, _, _]) rfl ?_
  refine OW_bin rfl rfl rfl rfl rfl ?_
  refine OW_as rfl rfl ?_
  refine OW_nilE (e' := [_, _, _, _, _, _, _, _]) rfl ?_
  refine XW_ret ?_
  exact ret_ret rfl ⟨fun p hp => put_ne (far hp (by repeat (first | exact under_me | apply under_in))), hq⟩
theorem c_findB {v : AVal} {t : List Qu} (hv : freeze [] H 8 v = .lst (t.map Qu.enc)) (hn : t.length ≤ 4294967296) (tn : Int) (hq : Q (.int .i64 (atQ tn t)) H) : CW cfg ν 110 [v, .int .u64 tn] H Q := by
  refine CW_borrowL (args' := [.lst (t.map Qu.enc), .int .u64 tn]) g110 F110 rfl (fz_cons (by assumption) (fz_cons (by exact freeze_plain rfl) fz_nil)) ?_
  have hS0 : Own ν ν (fun _ => none) [] := Own.nil
  refine XW_sr ?_
  refine OW_boxR hS0 (le_app (p := ν) (b := [0, 0])) (under_app [0, 0] under_me) rfl rfl rfl ⟨rfl, rfl⟩ fun H1 hS1 => ?_
  replace hS1 : Own _ _ _ ([_]) := hS1
  refine OW_as rfl rfl ?_
  refine OW_nilE (e' := [_,_,_,_,_,_,_,_]) rfl ?_
  refine XW_sr (OW_mv rfl rfl ?_)
  refine OW_mf rfl rfl ?_
  refine OW_fn rfl rfl (Qu.idx (find_fn (by obtain ⟨f, ⟨_, h⟩, _⟩ := hS1.get (k := 0) rfl; exact h)) (fun b hb => (by rw [List.mem_singleton] at hb; rw [hb]; obtain ⟨f, ⟨h0, _⟩, h⟩ := hS1.get (k := 0) rfl; exact ((le_lit (ν := ν) (a := [1, 0]) (b := [2, 0, 1]) (by decide)) _ (h _ (by rw [h0]; simp)).1).under)) (.ls Ls.of) (by omega) ?_) 
  refine OW_env (e' := [_,_,_,_,_,_,_,_]) rfl ?_
  refine OW_as rfl rfl ?_
  refine OW_nilE (e' := [_,_,_,_,_,_,_,_]) rfl ?_
  refine XW_ret ?_
  refine ret_ret (res1 rfl (rv_tmp rfl)) ⟨rfl, ?_⟩
  exact hq
theorem c_Find {v : AVal} {t : List Qu} (hv : freeze [] H 8 v = .lst (t.map Qu.enc)) (hn : t.length ≤ 4294967296) (tn : Int) (hq : Q (.int .i64 (atQ tn t)) H) : CW cfg ν 87 [v, .int .u64 tn] H Q := by
  refine CW_borrowL (args' := [.lst (t.map Qu.enc), .int .u64 tn]) g87 F87 rfl (fz_cons (by assumption) (fz_cons (by exact freeze_plain rfl) fz_nil)) ?_
  refine XW_sr (OW_as rfl rfl ?_)
  refine OW_nilE (e' := [_,_,_,_,_,_,_,_,_,_,_,_,_,_,_,_,_,_,_,_]) rfl ?_
  refine XW_seq (XW_sr (OW_as rfl rfl ?_))
  refine OW_nilE (e' := [_,_,_,_,_,_,_,_,_,_,_,_,_,_,_,_,_,_,_,_]) rfl ?_
  refine XW_block ?_
  refine XW_whileN (I := fun ν' mm ee H' => ∃ (i : Nat), mm = t.length - i ∧ under (1 :: 0 :: 1 :: ν) ν' = true ∧ (i ≤ t.length ∧ atQ tn t = firstI (isT tn) (t.drop i) i) ∧ ∃ g : Nat → AVal, ee = [.lst (t.map Qu.enc), .int .u64 tn, g 2, g 3, g 4, .int .i64 i, g 6, g 7, g 8, g 9, g 10, g 11, g 12, g 13, g 14, g 15, g 16, g 17, g 18, g 19]) ?_ _ _ _ _ ⟨0, rfl, under_me, (⟨by omega, rfl⟩), env_g rfl⟩
  rintro ν1 mm ee H1 ⟨i, rfl, hU1, ⟨hi, hI⟩, g1, rfl⟩
  refine XW_seq (XW_sr (OW_mv rfl rfl (OW_mv rfl rfl ?_)))
  refine OW_lenL rfl rfl (by exact Ls.of) rfl rfl rfl (by exact List.length_map _) ?_
  refine OW_env (e' := [_,_,_,_,_,_,_,_,_,_,_,_,_,_,_,_,_,_,_,_]) rfl ?_
  refine OW_bin rfl rfl rfl rfl rfl ?_
  refine OW_nilE (e' := [_,_,_,_,_,_,_,_,_,_,_,_,_,_,_,_,_,_,_,_]) rfl ?_
  refine XW_if rfl (fun h2 => ?_) (fun h2 => ?_)
  ·try simp only [bs] at h2
   refine XW_skip (then_norm (XW_seq (XW_block (XW_sr (OW_mv rfl rfl (OW_mv rfl rfl ?_))))))
   refine OW_iaL rfl rfl rfl Ls.of rfl rfl rfl (by rfl) (by exact at_map (by omega)) rfl ?_
   refine OW_env (e' := [_,_,_,_,_,_,_,_,_,_,_,_,_,_,_,_,_,_,_,_]) rfl ?_
   refine OW_fa rfl rfl rfl ?_
   refine OW_loadE rfl rfl rfl (by rfl) ?_
   refine OW_mv rfl rfl ?_
   refine OW_env (e' := [_,_,_,_,_,_,_,_,_,_,_,_,_,_,_,_,_,_,_,_]) rfl ?_
   refine OW_bin rfl rfl rfl rfl rfl ?_
   refine OW_nilE (e' := [_,_,_,_,_,_,_,_,_,_,_,_,_,_,_,_,_,_,_,_]) rfl ?_
   refine XW_if rfl (fun h4 => ?_) (fun h4 => ?_)
   ·try simp only [bs] at h4
    refine XW_sr (OW_mv rfl rfl (OW_as rfl rfl ?_))
    refine OW_nilE (e' := [_,_,_,_,_,_,_,_,_,_,_,_,_,_,_,_,_,_,_,_]) rfl ?_
    refine XW_ret (block_ret (then_ret (block_ret (then_ret ?_))))
    refine ret_ret (res1 rfl (rv_tmp rfl)) ⟨rfl, ?_⟩
    (rw [hI, List.drop_eq_getElem_cons (by omega), firstI, if_pos (by simpa [isT] using h4)] at hq; exact hq)
   try simp only [bs] at h4
   refine XW_skip (block_norm (then_norm (XW_region (OW_mv rfl rfl ?_))))
   refine OW_bin rfl rfl rfl rfl (add_w64 (by omega)) ?_
   refine OW_as rfl rfl ?_
   refine OW_nilE (e' := [_,_,_,_,_,_,_,_,_,_,_,_,_,_,_,_,_,_,_,_]) rfl ?_
   refine ⟨_, ?_, i + 1, rfl, under_in hU1, ?_, env_g rfl⟩
   · omega
   exact ⟨by omega, by rw [hI, List.drop_eq_getElem_cons (by omega), firstI, if_neg (by simpa [isT] using h4)]; rfl⟩
  try simp only [bs] at h2
  refine XW_exit (then_exit (block_exit (then_norm (XW_sr (OW_as rfl rfl ?_)))))
  refine OW_nilE (e' := [_,_,_,_,_,_,_,_,_,_,_,_,_,_,_,_,_,_,_,_]) rfl ?_
  refine XW_ret ?_
  refine ret_ret (res1 rfl (rv_tmp rfl)) ⟨rfl, ?_⟩
  (rw [hI, List.drop_eq_nil_of_le (by omega)] at hq; exact hq)
end Go.Proofs.YtfkgdlfponfimaaGreat.X

/- Layer 12: the laws QuotaChanges, QuotaBack, QuotaLimits. -/
set_option linter.unusedVariables false
set_option linter.unusedSimpArgs false
set_option maxRecDepth 100000
namespace Go.Proofs.YtfkgdlfponfimaaGreat.X
open Go Go.RowKit
variable {ν : Nm} {H : Heap} {Q : AVal → Heap → Prop}
theorem modQ_len (tn : Int) (f : Qu → Qu) (t : List Qu) : (modQ tn f t).length = t.length := by
  induction t with
  | nil => rfl
  | cons x r ih => simp only [modQ]; split <;> simp [ih]
theorem getQ_mod {tn : Int} {f : Qu → Qu} (hf : ∀ x, (f x).tn = x.tn) (t : List Qu) : getQ tn (modQ tn f t) = (getQ tn t).map f := by
  induction t with
  | nil => rfl
  | cons x r ih =>
    by_cases h : x.tn = tn
    · have h2 : (f x).tn = tn := by rw [hf, h]
      simp [modQ, h, getQ, List.find?_cons, isT, h2]
    simp only [getQ] at ih
    simp [modQ, h, getQ, List.find?_cons, isT]
    exact ih
theorem modQ_mod {tn : Int} {f g : Qu → Qu} (hg : ∀ x, (g x).tn = x.tn) (t : List Qu) : modQ tn f (modQ tn g t) = modQ tn (fun x => f (g x)) t := by
  induction t with
  | nil => rfl
  | cons x r ih =>
    by_cases h : x.tn = tn
    · have h2 : (g x).tn = tn := by rw [hg, h]
      simp [modQ, h, h2]
    simp [modQ, h, ih]
theorem modQ_congr {tn : Int} {f g : Qu → Qu} (t : List Qu) (h : ∀ x, getQ tn t = some x → f x = g x) : modQ tn f t = modQ tn g t := by
  induction t with
  | nil => rfl
  | cons x r ih =>
    by_cases hx : x.tn = tn
    · simp only [modQ, if_pos hx]
      rw [h x (by simp [getQ, List.find?_cons, isT, hx])]
    simp only [modQ, if_neg hx]
    rw [ih (fun y hy => h y (by simp only [getQ, List.find?_cons, isT, hx, decide_false]; exact hy))]
theorem modQ_id {tn : Int} (t : List Qu) : modQ tn (fun x => x) t = t := by
  induction t with
  | nil => rfl
  | cons x r ih => simp only [modQ]; split <;> simp [ih]
theorem getQ_mem {tn : Int} {t : List Qu} {r : Qu} (h : getQ tn t = some r) : r ∈ t ∧ r.tn = tn := ⟨List.mem_of_find?_eq_some h, by have := List.find?_some h; simpa [isT] using this⟩
theorem modQ_mem {tn : Int} {f : Qu → Qu} {t : List Qu} {x : Qu} (h : x ∈ modQ tn f t) : x ∈ t ∨ ∃ r, getQ tn t = some r ∧ x = f r := by
  induction t with
  | nil => simp [modQ] at h
  | cons y r ih =>
    by_cases hy : y.tn = tn
    · simp only [modQ, if_pos hy, List.mem_cons] at h
      rcases h with rfl | h
      · exact .inr ⟨y, by simp [getQ, List.find?_cons, isT, hy], rfl⟩
      exact .inl (by simp [h])
    simp only [modQ, if_neg hy, List.mem_cons] at h
    rcases h with rfl | h
    · exact .inl (by simp)
    rcases ih h with h | ⟨r', h1, h2⟩
    · exact .inl (by simp [h])
    refine .inr ⟨r', ?_, h2⟩
    simp only [getQ, List.find?_cons, isT, hy, decide_false]; exact h1
theorem take_ok {t : List Qu} {tn n : Int} (h : (takeQ t tn n).2 = 0) : ∃ r, getQ tn t = some r ∧ r.us ≤ r.li ∧ n ≤ r.li - r.us ∧ (takeQ t tn n).1 = modQ tn (fun r => { r with us := r.us + n }) t := by
  unfold takeQ at h ⊢
  cases hg : getQ tn t with
  | none => rw [hg] at h; simp at h
  | some r =>
    rw [hg] at h
    simp only at h ⊢
    by_cases hc : r.us ≤ r.li ∧ n ≤ r.li - r.us
    · rw [if_pos hc]; exact ⟨r, rfl, hc.1, hc.2, rfl⟩
    rw [if_neg hc] at h; simp at h
theorem take_fit {t : List Qu} {tn n : Int} (hf : Fit t) (h0 : 0 ≤ n) : Fit (takeQ t tn n).1 := by
  unfold takeQ
  cases hg : getQ tn t with
  | none => intro x hx; simp at hx
  | some r =>
    simp only
    split
    · rename_i hc
      intro x hx
      rcases modQ_mem hx with h | ⟨r', h1, rfl⟩
      · exact hf x h
      rw [hg] at h1
      obtain rfl := Option.some.inj h1
      obtain ⟨f1, f2, f3⟩ := hf r (getQ_mem hg).1
      exact ⟨f1, ⟨by show 0 ≤ r.us + n; omega, by show r.us + n ≤ _; omega⟩, f3⟩
    intro x hx; simp at hx
theorem set_fit {t : List Qu} {tn li : Int} (hf : Fit t) (ht : 0 ≤ tn ∧ tn ≤ 18446744073709551615) (h0 : 0 ≤ li ∧ li ≤ 18446744073709551615) : Fit (setQ t tn li).1 := by
  unfold setQ
  split
  · intro x hx
    rcases modQ_mem hx with h | ⟨r', h1, rfl⟩
    · exact hf x h
    obtain ⟨f1, f2, f3⟩ := hf r' (getQ_mem h1).1
    exact ⟨f1, f2, h0⟩
  split
  · intro x hx
    rcases List.mem_append.1 hx with h | h
    · exact hf x h
    obtain rfl := List.mem_singleton.1 h
    exact ⟨ht, ⟨Int.le_refl 0, by show (0 : Int) ≤ 18446744073709551615; decide⟩, h0⟩
  intro x hx; simp at hx
theorem give_take {t : List Qu} {tn n : Int} (hf : Fit t) (h0 : 0 ≤ n) (h : (takeQ t tn n).2 = 0) : giveQ (takeQ t tn n).1 tn n = (t, 0) := by
  obtain ⟨r, h1, h2, h3, h4⟩ := take_ok h
  rw [h4, giveQ, getQ_mod (f := fun r => { r with us := r.us + n }) (fun _ => rfl), h1]
  simp only [Option.map_some, modQ_mod (g := fun r => { r with us := r.us + n }) (fun _ => rfl)]
  congr 1
  rw [modQ_congr (g := fun x => x) t ?_, modQ_id]
  intro x hx
  obtain ⟨f1, f2, f3⟩ := hf x (getQ_mem hx).1
  have : min n (x.us + n) = n := by omega
  show (⟨x.tn, x.us + n - min n (x.us + n), x.li⟩ : Qu) = x
  rw [this, Int.add_sub_cancel]
theorem take_take {t : List Qu} {tn n m : Int} (h : (takeQ t tn n).2 = 0) (hm : 0 ≤ m) : takeQ (takeQ t tn n).1 tn m = takeQ t tn (n + m) ∧ ∃ r, getQ tn t = some r ∧ (r.li < n + m + r.us → takeQ t tn (n + m) = ([], 121)) := by
  obtain ⟨r, h1, h2, h3, h4⟩ := take_ok h
  rw [h4]
  refine ⟨?_, r, h1, fun hl => by rw [takeQ, h1]; simp only; rw [if_neg (by omega)]⟩
  rw [takeQ, getQ_mod (f := fun r => { r with us := r.us + n }) (fun _ => rfl), h1, takeQ, h1]
  simp only [Option.map_some]
  by_cases hc : r.us + n ≤ r.li ∧ m ≤ r.li - (r.us + n)
  · rw [if_pos hc, if_pos (by omega), modQ_mod (g := fun r => { r with us := r.us + n }) (fun _ => rfl)]
    congr 1
    refine modQ_congr t fun x _ => ?_
    show (⟨x.tn, x.us + n + m, x.li⟩ : Qu) = ⟨x.tn, x.us + (n + m), x.li⟩
    rw [Int.add_assoc]
  rw [if_neg hc, if_neg (by omega)]
theorem back {t : List Qu} {tn n : Int} (hfit : Fit t) (hn0 : 0 ≤ n) (h : (takeQ t tn n).2 = 0) : ∃ (A : List Qu) (i0 : Nat) (hi0 : i0 < t.length), takeQ t tn n = (A, 0) ∧ giveQ A tn n = (t, 0) ∧ A.length = t.length ∧ Fit A ∧ atQ tn t = i0 ∧ A[i0]? = some ⟨t[i0].tn, t[i0].us + n, t[i0].li⟩ ∧ t[i0].us ≤ t[i0].li ∧ n ≤ t[i0].li - t[i0].us ∧ (∀ i, i ≠ i0 → A[i]? = t[i]?) ∧
    ∀ m, 0 ≤ m → takeQ A tn m = takeQ t tn (n + m) ∧ (18446744073709551615 < n + m → takeQ t tn (n + m) = ([], 121)) := by
  obtain ⟨r, hg, hr1, hr2, ha⟩ := take_ok h
  obtain ⟨i0, hi0, hat, hg2, htn, hset⟩ : ∃ (i : Nat) (h : i < t.length), atQ tn t = i ∧ getQ tn t = some t[i] ∧ t[i].tn = tn ∧ ∀ f, modQ tn f t = t.set i (f t[i]) := by
    rcases atQ_cases tn t with ⟨_, h⟩ | h
    · rw [hg] at h; cases h
    exact h
  obtain rfl : r = t[i0] := by rw [hg] at hg2; exact Option.some.inj hg2
  refine ⟨(takeQ t tn n).1, i0, hi0, by rw [← h], give_take hfit hn0 h, by rw [ha, modQ_len], take_fit hfit hn0, hat, ?_, hr1, hr2, ?_, ?_⟩
  · rw [ha, hset, List.getElem?_set_self hi0]
  · intro i hi; rw [ha, hset, List.getElem?_set_ne (fun e => hi e.symm)]
  intro m hm
  obtain ⟨h1, r', h2, h3⟩ := take_take h hm
  refine ⟨h1, fun hov => h3 ?_⟩
  obtain rfl : t[i0] = r' := by rw [hg] at h2; exact Option.some.inj h2
  obtain ⟨_, f2, f3⟩ := hfit _ (List.getElem_mem hi0)
  omega
end Go.Proofs.YtfkgdlfponfimaaGreat.X

/- Layer 12: Check; the laws QuotaLimits and QuotaStays. -/
set_option linter.unusedVariables false
set_option linter.unusedSimpArgs false
set_option maxRecDepth 100000
namespace Go.Proofs.YtfkgdlfponfimaaGreat.X
open Go Go.RowKit
variable {ν : Nm} {H : Heap} {Q : AVal → Heap → Prop}
theorem getQ_some {tn : Int} {t : List Qu} (h : ∃ x ∈ t, x.tn = tn) : getQ tn t ≠ none := by
  intro hn
  rw [getQ, List.find?_eq_none] at hn
  obtain ⟨x, hx, he⟩ := h
  exact hn x hx (by simp [isT, he])
def chkQ (t : List Qu) : Bool := decide (t.length ≤ 16 ∧ (t.map Qu.tn).Nodup)
theorem nodup_at {t : List Qu} (h : (t.map Qu.tn).Nodup) {i : Nat} (hi : i < t.length) : atQ t[i].tn t = i := by
  rcases atQ_cases t[i].tn t with ⟨_, h2⟩ | ⟨k, hk, h1, _, h3, _⟩
  · exact absurd h2 (getQ_some ⟨t[i], List.getElem_mem hi, rfl⟩)
  rw [h1]
  have := (List.getElem_inj (i := k) (j := i) (h₀ := by simpa using hk) (h₁ := by simpa using hi) h).1 (by simpa using h3)
  rw [this]
theorem at_nodup {t : List Qu} (h : ∀ i (hi : i < t.length), atQ t[i].tn t = i) : (t.map Qu.tn).Nodup := by
  rw [List.Nodup, List.pairwise_iff_getElem]
  intro i j hi hj hij he
  simp only [List.length_map] at hi hj
  simp only [List.getElem_map] at he
  have h1 := h i hi
  have h2 := h j hj
  rw [he] at h1
  omega
theorem c_check {v : AVal} {t : List Qu} (hv : freeze [] H 8 v = .lst (t.map Qu.enc)) (hn : t.length ≤ 4294967296) (hq : Q (.bool (chkQ t)) H) : CW cfg ν 72 [v] H Q := by
  refine CW_borrowL (args' := [.lst (t.map Qu.enc)]) g72 F72 rfl (fz_cons (by assumption) fz_nil) ?_
  have hS0 : Own ν ν (fun _ => none) [] := Own.nil
  refine XW_sr (OW_as rfl rfl ?_)
  refine EZ22 rfl ?_
  refine XW_seq (XW_sr (OW_mv rfl rfl ?_))
  refine OW_lenL rfl rfl (by exact Ls.of) rfl rfl rfl (by exact List.length_map _) ?_
  refine OW_bin rfl rfl rfl rfl rfl ?_
  refine EZ22 rfl ?_
  refine XW_if rfl (fun h1 => ?_) (fun h1 => ?_)
  ·try simp only [bs] at h1
   refine XW_sr (OW_as rfl rfl ?_)
   refine EZ22 rfl ?_
   refine XW_ret (then_ret ?_)
   refine ret_ret (res1 rfl (rv_tmp rfl)) ⟨rfl, ?_⟩
   refine qcast hq ?_
   congr 1
   exact (decide_eq_false (fun e => by have := e.1; omega)).symm
  try simp only [bs] at h1
  refine XW_skip (then_norm (XW_seq (XW_sr (OW_mv rfl rfl ?_))))
  refine OW_lenL rfl rfl (by exact Ls.of) rfl rfl rfl (by exact List.length_map _) ?_
  refine OW_mv rfl rfl ?_
  refine EZ22 rfl ?_
  refine XW_block ?_
  refine XW_whileN (I := fun ν' mm ee H' => ∃ (i : Nat), mm = t.length - i ∧ under (1 :: 0 :: 1 :: 1 :: ν) ν' = true ∧ Own ν ν' H' ([]) ∧ (i ≤ t.length ∧ t.length ≤ 16 ∧ ∀ j (hj : j < t.length), j < i → atQ t[j].tn t = j) ∧ ∃ g : Nat → AVal, ee = [.lst (t.map Qu.enc), g 1, g 2, g 3, g 4, g 5, g 6, g 7, .lst (t.map Qu.enc), .int .i64 t.length, .int .i64 i, g 11, g 12, g 13, g 14, g 15, g 16, g 17, g 18, g 19, g 20, g 21]) ?_ _ _ _ _ ⟨0, rfl, under_me, Own.cast (Own.mono (hS0) (le_app (p := ν) (b := [1, 0, 1, 1]))) (rfl), (⟨by omega, by omega, fun j hj h => by omega⟩), env_g rfl⟩
  rintro ν1 mm ee H1 ⟨i, rfl, hU1, hS1, ⟨hi, hl, hI⟩, g1, rfl⟩
  refine XW_sr ?_
  refine OW_bin rfl rfl rfl rfl rfl ?_
  refine EZ22 rfl ?_
  refine XW_seq ?_
  refine XW_if rfl (fun h4 => ?_) (fun h4 => ?_)
  ·try simp only [bs] at h4
   refine XW_skip (then_norm (XW_seq (XW_block (XW_sr (OW_mv rfl rfl ?_)))))
   refine OW_iaL rfl rfl rfl Ls.of rfl rfl rfl (by rfl) (by exact at_map (by omega)) rfl ?_
   refine OW_loadE rfl rfl rfl (by exact part_whole rfl rfl rfl) ?_
   refine OW_env (e' := [_,_,_,_,_,_,_,_,_,_,_,_,_,_,_,_,_,_,_,_,_,_]) rfl ?_
   refine OW_allocR hS1 (le_app (p := ν1) (b := [3, 0, 0, 1, 1, 0])) (under_app [3, 0, 0, 1, 1, 0] (under_trans (under_app [1, 0, 1, 1] under_me) hU1)) rfl rfl rfl rfl fun H2 hS2 => ?_
   replace hS2 : Own _ _ _ ([_]) := hS2
   refine OW_as rfl rfl ?_
   refine OW_storeR hS2 (k := 0) rfl (le_lit (ν := ν1) (a := [4, 0, 0, 1, 1, 0]) (b := [5, 0, 0, 1, 1, 0]) (by decide)) rfl rfl rfl rfl ⟨rfl, rfl, Nat.le_of_ble_eq_true rfl⟩ (u2 := .agg [_, _, _]) rfl fun H3 hS3 => ?_
   replace hS3 : Own _ _ _ ([_]) := hS3
   refine EZ22 rfl ?_
   refine XW_sr (OW_mv rfl rfl (OW_fa rfl rfl rfl ?_))
   refine OW_loadR hS3 (k := 0) rfl rfl rfl rfl rfl (by rfl) ?_
   refine OW_env (e' := [_,_,_,_,_,_,_,_,_,_,_,_,_,_,_,_,_,_,_,_,_,_]) rfl ?_
   refine OW_fn rfl rfl (c_findB (Ls.freeze Ls.of) (by omega) _ ?_) 
   refine OW_mv rfl rfl ?_
   refine OW_bin rfl rfl rfl rfl rfl ?_
   refine EZ22 rfl ?_
   refine XW_if rfl (fun h6 => ?_) (fun h6 => ?_)
   ·try simp only [bs] at h6
    refine XW_sr (OW_as rfl rfl ?_)
    refine EZ22 rfl ?_
    refine XW_ret (block_ret (then_ret (block_ret (then_ret ?_))))
    refine ret_ret (res1 rfl (rv_tmp rfl)) ⟨rfl, ?_⟩
    refine qcast hq ?_
    congr 1
    exact (decide_eq_false (fun e => by have := nodup_at e.2 (i := i) (by omega); omega)).symm
   try simp only [bs] at h6
   refine XW_skip (block_norm (then_norm (XW_region ?_)))
   refine OW_bin rfl rfl rfl rfl (add_w64 (by omega)) ?_
   refine OW_mv rfl rfl ?_
   refine EZ22 rfl ?_
   have hSd1 : Own _ _ _ ([]) := (Own.drop hS3 (k := 0) rfl)
   refine ⟨_, ?_, i + 1, rfl, under_in hU1, Own.cast (Own.mono (hSd1) (le_lit (ν := ν1) (a := [6, 0, 0, 1, 1, 0]) (b := [1]) (by decide))) (rfl), ?_, env_g rfl⟩
   · omega
   exact ⟨by omega, hl, fun j hj h => by by_cases e : j = i; (subst e; omega); exact hI j hj (by omega)⟩
  try simp only [bs] at h4
  refine XW_exit (then_exit (block_exit (then_norm (XW_sr (OW_as rfl rfl ?_)))))
  refine EZ22 rfl ?_
  refine XW_ret ?_
  refine ret_ret (res1 rfl (rv_tmp rfl)) ⟨rfl, ?_⟩
  refine qcast hq ?_
  congr 1
  exact (decide_eq_true ⟨hl, at_nodup (fun j hj => hI j hj (by omega))⟩).symm
def GoodQ (t A : List Qu) : Prop := chkQ A = true ∧ t.length ≤ A.length ∧ ∀ i (h : i < t.length) (h2 : i < A.length), A[i].tn = t[i].tn
theorem modQ_tn {tn : Int} {f : Qu → Qu} (hf : ∀ x, (f x).tn = x.tn) (t : List Qu) : (modQ tn f t).map Qu.tn = t.map Qu.tn := by
  induction t with
  | nil => rfl
  | cons x r ih => simp only [modQ]; split <;> simp [hf, ih]
theorem good_mod {tn : Int} {f : Qu → Qu} (hf : ∀ x, (f x).tn = x.tn) {t : List Qu} (h : chkQ t = true) : GoodQ t (modQ tn f t) := by
  have h := of_decide_eq_true h
  refine ⟨decide_eq_true ?_, by rw [modQ_len]; omega, fun i h1 h2 => ?_⟩
  · rw [modQ_len, modQ_tn hf]; exact h
  have e := modQ_tn (tn := tn) hf t
  have := congrArg (fun l => l[i]?) e
  simp only [List.getElem?_map, List.getElem?_eq_getElem h1, List.getElem?_eq_getElem h2, Option.map_some] at this
  exact Option.some.inj this
theorem good_set {t : List Qu} {tn li : Int} (h : chkQ t = true) (hok : (setQ t tn li).2 = true) : GoodQ t (setQ t tn li).1 := by
  unfold setQ at hok ⊢
  cases hg : getQ tn t with
  | some r => simp only; refine good_mod ?_ h; intro _; rfl
  | none =>
    rw [hg] at hok
    simp only at hok ⊢
    split at hok
    · rename_i hl
      rw [if_pos hl]
      have h := of_decide_eq_true h
      refine ⟨decide_eq_true ⟨by simp; omega, ?_⟩, by simp, fun i h1 h2 => ?_⟩
      · rw [List.map_append, List.nodup_append]
        refine ⟨h.2, by simp, ?_⟩
        intro a ha b hb e
        obtain ⟨x, hx, rfl⟩ := List.mem_map.1 ha
        simp only [List.map_cons, List.map_nil, List.mem_singleton] at hb
        exact getQ_some ⟨x, hx, by rw [e, hb]⟩ hg
      simp only [List.getElem_append_left h1]
    cases hok
theorem good_take {t : List Qu} {tn n : Int} (h : chkQ t = true) (hok : (takeQ t tn n).2 = 0) : GoodQ t (takeQ t tn n).1 := by
  obtain ⟨r, _, _, _, ha⟩ := take_ok hok
  rw [ha]; refine good_mod ?_ h; intro _; rfl
theorem good_give {t : List Qu} {tn n : Int} (h : chkQ t = true) (hok : (giveQ t tn n).2 = 0) : GoodQ t (giveQ t tn n).1 := by
  unfold giveQ at hok ⊢
  cases hg : getQ tn t with
  | some r => simp only; refine good_mod ?_ h; intro _; rfl
  | none => rw [hg] at hok; simp at hok
theorem r_check {v : AVal} {t : List Qu} (hv : freeze [] H 8 v = .lst (t.map Qu.enc)) (hn : t.length ≤ 4294967296) (hq : Q (.bool (chkQ t)) H) : CW cfg ν 34 [v] H Q := by
  refine CW_borrowL (args' := [.lst (t.map Qu.enc)]) g34 F34 rfl (fz_cons (by assumption) fz_nil) ?_
  refine XW_sr (OW_as rfl rfl ?_)
  refine EZ22 rfl ?_
  refine XW_seq (XW_sr (OW_as rfl rfl ?_))
  refine EZ22 rfl ?_
  refine XW_block ?_
  refine XW_whileN (I := fun ν' mm ee H' => ∃ (i : Nat), mm = t.length - i ∧ under (1 :: 0 :: 1 :: ν) ν' = true ∧ (i ≤ t.length ∧ ∀ j (hj : j < t.length), j < i → atQ t[j].tn t = j) ∧ ∃ g : Nat → AVal, ee = [.lst (t.map Qu.enc), g 1, g 2, .int .i64 i, g 4, g 5, g 6, g 7, g 8, g 9, g 10, g 11, g 12, g 13, g 14, g 15, g 16, g 17, g 18, g 19, g 20, g 21]) ?_ _ _ _ _ ⟨0, rfl, under_me, (⟨by omega, fun j hj h => by omega⟩), env_g rfl⟩
  rintro ν1 mm ee H1 ⟨i, rfl, hU1, ⟨hi, hI⟩, g1, rfl⟩
  refine XW_seq (XW_sr (OW_mv rfl rfl (OW_mv rfl rfl ?_)))
  refine OW_lenL rfl rfl (by exact Ls.of) rfl rfl rfl (by exact List.length_map _) ?_
  refine OW_env (e' := [_,_,_,_,_,_,_,_,_,_,_,_,_,_,_,_,_,_,_,_,_,_]) rfl ?_
  refine OW_bin rfl rfl rfl rfl rfl ?_
  refine EZ22 rfl ?_
  refine XW_if rfl (fun h2 => ?_) (fun h2 => ?_)
  ·try simp only [bs] at h2
   refine XW_skip (then_norm (XW_seq (XW_block (XW_sr (OW_mv rfl rfl (OW_mv rfl rfl (OW_mv rfl rfl ?_)))))))
   refine OW_env (e' := [_,_,_,_,_,_,_,_,_,_,_,_,_,_,_,_,_,_,_,_,_,_]) rfl ?_
   refine OW_iaL rfl rfl rfl Ls.of rfl rfl rfl (by rfl) (by exact at_map (by omega)) rfl ?_
   refine OW_fa rfl rfl rfl ?_
   refine OW_loadE rfl rfl rfl (by rfl) ?_
   refine OW_env (e' := [_,_,_,_,_,_,_,_,_,_,_,_,_,_,_,_,_,_,_,_,_,_]) rfl ?_
   refine OW_fn rfl rfl (c_Find (Ls.freeze Ls.of) (by omega) _ ?_) 
   refine OW_mv rfl rfl ?_
   refine OW_bin rfl rfl rfl rfl rfl ?_
   refine EZ22 rfl ?_
   refine XW_if rfl (fun h4 => ?_) (fun h4 => ?_)
   ·try simp only [bs] at h4
    refine XW_sr (OW_as rfl rfl ?_)
    refine EZ22 rfl ?_
    refine XW_ret (block_ret (then_ret (block_ret (then_ret ?_))))
    refine ret_ret (res1 rfl (rv_tmp rfl)) ⟨rfl, ?_⟩
    refine qcast hq ?_
    congr 1
    exact (decide_eq_false (fun e => by have := nodup_at e.2 (i := i) (by omega); omega)).symm
   try simp only [bs] at h4
   refine XW_skip (block_norm (then_norm (XW_region (OW_mv rfl rfl ?_))))
   refine OW_bin rfl rfl rfl rfl (add_w64 (by omega)) ?_
   refine OW_as rfl rfl ?_
   refine EZ22 rfl ?_
   refine ⟨_, ?_, i + 1, rfl, under_in hU1, ?_, env_g rfl⟩
   · omega
   exact ⟨by omega, fun j hj h => by by_cases e : j = i; (subst e; omega); exact hI j hj (by omega)⟩
  try simp only [bs] at h2
  refine XW_exit (then_exit (block_exit (then_norm (XW_sr (OW_mv rfl rfl ?_)))))
  refine OW_lenL rfl rfl (by exact Ls.of) rfl rfl rfl (by exact List.length_map _) ?_
  refine OW_bin rfl rfl rfl rfl rfl ?_
  refine OW_env (e' := [_,_,_,_,_,_,_,_,_,_,_,_,_,_,_,_,_,_,_,_,_,_]) rfl ?_
  refine OW_as rfl rfl ?_
  refine EZ22 rfl ?_
  refine XW_ret ?_
  refine ret_ret (res1 rfl (rv_tmp rfl)) ⟨rfl, ?_⟩
  refine qcast hq ?_
  congr 1
  (have hnd := at_nodup (fun j hj => hI j hj (by omega)); exact decide_eq_decide.2 ⟨fun h => ⟨by omega, hnd⟩, fun h => by have := h.1; omega⟩)
end Go.Proofs.YtfkgdlfponfimaaGreat.X

/- Layer 13: states of the chunk service: volumes, sessions, quotas; find. -/
set_option linter.unusedVariables false
set_option linter.unusedSimpArgs false
set_option maxRecDepth 100000
namespace Go.Proofs.YtfkgdlfponfimaaGreat.X
open Go Go.RowKit WM
variable {ν β ps pos' : Nm} {H : Heap} {Q : AVal → Heap → Prop} {L : List Asr} {k : Nat}
structure Vo where
  vo : Int
  tn : Int
  ep : Int
  de : Int
  lv : List ByteArray
  deriving DecidableEq
def Vo.row (x : Vo) (U : AVal) : AVal := .agg [.int .u64 x.vo, .int .u64 x.tn, .int .u64 x.ep, .int .i64 x.de, U]
def Vo.enc (x : Vo) : AVal := .agg [.int .u64 x.vo, .int .u64 x.tn, .int .u64 x.ep, .int .i64 x.de, .lst (x.lv.map .str)]
structure Ck where
  vs : List Vo
  ss : List SE.Se
  qs : List Qu
  deriving DecidableEq
abbrev Ck.enc (c : Ck) : AVal := .agg [.lst (c.vs.map Vo.enc), .lst (c.ss.map SE.Se.enc), .lst (c.qs.map Qu.enc)]
def Vo.FnP (f : FuncId) (caps : List AVal) (bs : List Nm) (H0 : Heap) (p : Vo → Bool) : Prop :=
  ∀ ν x H Q, (∀ b ∈ bs, H b = H0 b ∧ under ν b = false) → Q (.bool (p x)) H → CW cfg ν f (x.enc :: caps) H Q
theorem Vo.idx {ν : Nm} {H : Heap} {Q : AVal → Heap → Prop} {ls : List Vo} {S : AVal} {f : FuncId} {caps : List AVal} {bs : List Nm} {p : Vo → Bool} (hf : Vo.FnP f caps bs H p) (hbs : ∀ b ∈ bs, under ν b = false) (h : Rd H 5 (ls.map Vo.enc) S) (hn : ls.length ≤ 4611686018427387904) (hq : Q (.int .i64 (firstI p ls 0)) H) : CW cfg ν 111 [S, .fn f caps] H Q := by
  have h2 : lenOf H S = some ls.length := by rw [h.len, List.length_map]
  have h3 : lenKind cfg.T [22] S = true := h.kind T22 rfl
  refine CW_fullS g111 F111 rfl ?_
  refine XW_sr (OW_as rfl rfl ?_)
  refine OW_nilE (e' := [_, _, _, _, _, _, _, _, _, _, _, _, _, _, _, _, _, _, _]) rfl ?_
  refine XW_seq (XW_sr (OW_mv rfl rfl ?_))
  refine OW_bi rfl rfl (aLen h3 h2) ?_
  refine OW_env (e' := [_, _, _, _, _, _, _, _, _, _, _, _, _, _, _, _, _, _, _]) rfl ?_
  refine OW_mv rfl rfl ?_
  refine OW_nilE (e' := [_, _, _, _, _, _, _, _, _, _, _, _, _, _, _, _, _, _, _]) rfl ?_
  refine XW_block ?_
  refine XW_whileN (I := fun ν' n e H' => H' = H ∧ (∀ p, under ν p = false → under ν' p = false) ∧ ∃ (i : Nat), n = ls.length - i ∧ i ≤ ls.length ∧ firstI p ls 0 = firstI p (ls.drop i) i ∧ ∃ g : Nat → AVal, e = [S, .fn f caps, g 2, g 3, .int .i64 0, g 5, g 6, .int .i64 ls.length, .int .i64 i, g 9, g 10, g 11, g 12, g 13, g 14, g 15, g 16, g 17, g 18]) ?_ _ _ _ _ ⟨rfl, fun p hp => by repeat (first | exact hp | apply under_dn), 0, rfl, by omega, rfl, env_g rfl⟩
  rintro ν' n e H' ⟨rfl, hsub, i, rfl, hi, hfs, g, rfl⟩
  refine XW_sr ?_
  refine OW_bin rfl rfl rfl rfl rfl ?_
  refine OW_nilE (e' := [_, _, _, _, _, _, _, _, _, _, _, _, _, _, _, _, _, _, _]) rfl ?_
  refine XW_seq ?_
  refine XW_if rfl (fun ht => ?_) (fun ht => ?_)
  · have hlt : i < ls.length := by simpa using ht
    have hxi : (ls.map Vo.enc)[i]? = some (ls[i].enc) := by simp [hlt]
    obtain ⟨P, k1, k2⟩ := h.at (kk := .i64) T22 rfl T69 rfl hxi rfl rfl
    refine XW_skip (then_norm (XW_seq (XW_block (XW_sr (OW_mv rfl rfl (OW_as rfl rfl ?_))))))
    refine OW_nilE (e' := [_, _, _, _, _, _, _, _, _, _, _, _, _, _, _, _, _, _, _]) rfl ?_
    refine XW_sr (OW_mv rfl rfl (OW_mv rfl rfl (OW_mv rfl rfl ?_)))
    refine OW_ia rfl rfl rfl k1 ?_
    refine OW_load rfl rfl k2 ?_
    refine OW_fv rfl rfl rfl (hf _ ls[i] _ _ (fun b hb => ⟨rfl, by have := hsub b (hbs b hb); repeat (first | exact this | apply under_dn)⟩) ?_)
    refine OW_nilE (e' := [_, _, _, _, _, _, _, _, _, _, _, _, _, _, _, _, _, _, _]) rfl ?_
    refine XW_if rfl (fun hp => ?_) (fun hp => ?_)
    · refine XW_sr ?_
      refine OW_mv rfl rfl (OW_as rfl rfl ?_)
      refine OW_nilE (e' := [_, _, _, _, _, _, _, _, _, _, _, _, _, _, _, _, _, _, _]) rfl ?_
      refine XW_ret (block_ret (then_ret (block_ret (then_ret ?_))))
      refine ret_ret rfl ⟨fun _ _ => rfl, ?_⟩
      rw [List.drop_eq_getElem_cons hlt, firstI, if_pos hp] at hfs
      rw [hfs] at hq; exact hq
    refine XW_skip (block_norm (then_norm (XW_region ?_)))
    refine OW_bin rfl rfl rfl rfl (add64 (by omega)) ?_
    refine OW_mv rfl rfl ?_
    refine OW_nilE (e' := [_, _, _, _, _, _, _, _, _, _, _, _, _, _, _, _, _, _, _]) rfl ?_
    refine ⟨ls.length - (i + 1), by omega, rfl, fun p hp => under_dn (hsub p hp), i + 1, rfl, by omega, ?_, env_g rfl⟩
    rw [List.drop_eq_getElem_cons hlt, firstI, if_neg (by simp [hp])] at hfs
    exact hfs
  have hge : ls.length ≤ i := by simpa using ht
  refine XW_exit (then_exit (block_exit (then_norm (XW_sr (OW_as rfl rfl ?_)))))
  refine OW_nilE (e' := [_, _, _, _, _, _, _, _, _, _, _, _, _, _, _, _, _, _, _]) rfl ?_
  refine XW_ret ?_
  refine ret_ret rfl ⟨fun _ _ => rfl, ?_⟩
  rw [List.drop_eq_nil_of_le hge, firstI] at hfs
  rw [hfs] at hq; exact hq
def isV (vo : Int) : Vo → Bool := fun x => decide (x.vo = vo)
def atP (vo : Int) (t : List Vo) : Int := firstI (isV vo) t 0
theorem atP_cases (vo : Int) (t : List Vo) : (atP vo t = -1 ∧ ∀ x ∈ t, x.vo ≠ vo) ∨ ∃ (i : Nat) (h : i < t.length), atP vo t = i ∧ t[i].vo = vo := by
  rcases firstI_cases (isV vo) t with ⟨h1, h2⟩ | ⟨i, h0, h1, h2, h3⟩
  · exact .inl ⟨h1, fun x hx => by have := h2 x hx; simpa [isV] using this⟩
  exact .inr ⟨i, h0, h1, by simpa [isV] using h2⟩
theorem vol_fn {b : Nm} {H2 : Heap} {vo : Int} (hb : H2 b = some (.row 1 [.int .u64 vo])) : Vo.FnP 112 [.ptr b 0 0] [b] H2 (isV vo) := by
  intro ν x H Q hbs hq
  obtain ⟨h1, h2⟩ := hbs b (by simp)
  rw [hb] at h1
  refine CW_fullS g112 F112 rfl ?_
  refine XW_sr ?_
  refine OW_box rfl rfl rfl ?_
  refine OW_as rfl rfl ?_
  refine OW_nilE (e' := [_, _, _, _, _, _, _, _]) rfl ?_
  refine XW_sr (OW_fa rfl rfl rfl ?_)
  refine OW_load rfl rfl (aLoad_ptr rfl put_same rfl rfl) ?_
  refine OW_load rfl rfl (aLoad_ptr rfl (by rw [put_ne (far h2 (by repeat (first | exact under_me | apply under_in)))]; exact h1) rfl rfl) ?_
  refine OW_env (e' := [_, _, _, _, _, _, _, _]) rfl ?_
  refine OW_bin rfl rfl rfl rfl rfl ?_
  refine OW_as rfl rfl ?_
  refine OW_nilE (e' := [_, _, _, _, _, _, _, _]) rfl ?_
  refine XW_ret ?_
  exact ret_ret rfl ⟨fun p hp => put_ne (far hp (by repeat (first | exact under_me | apply under_in))), hq⟩
theorem ck_find {v : AVal} {c : Ck} (hv : freeze [] H 8 v = c.enc) (hn : c.vs.length ≤ 4294967296) (vo : Int) (hq : Q (.int .i64 (atP vo c.vs)) H) : CW cfg ν 73 [v, .int .u64 vo] H Q := by
  refine CW_borrowL (args' := [.agg [.lst (c.vs.map Vo.enc), .lst (c.ss.map SE.Se.enc), .lst (c.qs.map Qu.enc)], .int .u64 vo]) g73 F73 rfl (fz_cons (by assumption) (fz_cons (by exact freeze_plain rfl) fz_nil)) ?_
  have hS0 : Own ν ν (fun _ => none) [] := Own.nil
  refine XW_sr ?_
  refine OW_boxR hS0 (le_app (p := ν) (b := [0, 0])) (under_app [0, 0] under_me) rfl rfl rfl ⟨rfl, rfl⟩ fun H1 hS1 => ?_
  replace hS1 : Own _ _ _ ([_]) := hS1
  refine OW_boxR hS1 le_refl (under_app [1, 0] under_me) rfl rfl rfl ⟨rfl, rfl⟩ fun H2 hS2 => ?_
  replace hS2 : Own _ _ _ ([_, _]) := hS2
  refine OW_as rfl rfl ?_
  refine OW_nilE (e' := [_,_,_,_,_,_,_,_,_]) rfl ?_
  refine XW_sr (OW_fa rfl rfl rfl ?_)
  refine OW_loadR hS2 (k := 1) rfl rfl rfl rfl rfl (by rfl) ?_
  refine OW_mf rfl rfl ?_
  refine OW_env (e' := [_,_,_,_,_,_,_,_,_]) rfl ?_
  refine OW_fn rfl rfl (Vo.idx (vol_fn (by obtain ⟨f, ⟨_, h⟩, _⟩ := hS2.get (k := 0) rfl; exact h)) (fun b hb => (by rw [List.mem_singleton] at hb; rw [hb]; obtain ⟨f, ⟨h0, _⟩, h⟩ := hS2.get (k := 0) rfl; exact ((le_lit (ν := ν) (a := [2, 0]) (b := [3, 0, 1]) (by decide)) _ (h _ (by rw [h0]; simp)).1).under)) (.ls Ls.of) (by omega) ?_) 
  refine OW_as rfl rfl ?_
  refine OW_nilE (e' := [_,_,_,_,_,_,_,_,_]) rfl ?_
  refine XW_ret ?_
  refine ret_ret (res1 rfl (rv_tmp rfl)) ⟨rfl, ?_⟩
  exact hq
theorem rk_find {v : AVal} {c : Ck} (hv : X.freeze [] H 8 v = c.enc) (hn : c.vs.length ≤ 4294967296) (vo : Int) (hq : Q (.int .i64 (atP vo c.vs)) H) : CW cfg ν 31 [v, .int .u64 vo] H Q := by
  refine CW_borrowL (args' := [c.enc, .int .u64 vo]) g31 F31 rfl (fz_cons (by assumption) (fz_cons (by exact freeze_plain rfl) fz_nil)) ?_
  have hS0 : Own ν ν (fun _ => none) [] := Own.nil
  refine XW_sr ?_
  refine OW_boxR hS0 (le_app (p := ν) (b := [0, 0])) (under_app [0, 0] under_me) rfl rfl rfl ⟨rfl, rfl⟩ fun H1 hS1 => ?_
  replace hS1 : Own _ _ _ ([_]) := hS1
  refine OW_as rfl rfl ?_
  refine OW_nilE (e' := [_,_,_,_,_,_,_,_,_,_,_,_,_,_,_,_,_,_,_,_,_,_]) rfl ?_
  refine XW_seq (XW_sr (OW_as rfl rfl ?_))
  refine OW_nilE (e' := [_,_,_,_,_,_,_,_,_,_,_,_,_,_,_,_,_,_,_,_,_,_]) rfl ?_
  refine XW_block ?_
  refine XW_whileN (I := fun ν' mm ee H' => ∃ (i : Nat), mm = c.vs.length - i ∧ under (1 :: 0 :: 1 :: ν) ν' = true ∧ Own ν ν' H' ([row (0 :: 0 :: ν) 3 [.agg [.lst (c.vs.map Vo.enc), .lst (c.ss.map SE.Se.enc), .lst (c.qs.map Qu.enc)]]]) ∧ (i ≤ c.vs.length ∧ atP vo c.vs = firstI (isV vo) (c.vs.drop i) i) ∧ ∃ g : Nat → AVal, ee = [g 0, .int .u64 vo, .ptr (0 :: 0 :: ν) 0 0, g 3, g 4, .int .i64 i, g 6, g 7, g 8, g 9, g 10, g 11, g 12, g 13, g 14, g 15, g 16, g 17, g 18, g 19, g 20, g 21]) ?_ _ _ _ _ ⟨0, rfl, under_me, Own.cast (Own.mono (hS1) (le_lit (ν := ν) (a := [1, 0]) (b := [1, 0, 1]) (by decide))) (rfl), (⟨by omega, rfl⟩), env_g rfl⟩
  rintro ν1 mm ee H2 ⟨i, rfl, hU1, hS2, ⟨hi, hI⟩, g1, rfl⟩
  refine XW_seq (XW_sr (OW_mv rfl rfl (OW_fa rfl rfl rfl ?_)))
  refine OW_loadR hS2 (k := 0) rfl rfl rfl rfl rfl (by rfl) ?_
  refine OW_env (e' := [_,_,_,_,_,_,_,_,_,_,_,_,_,_,_,_,_,_,_,_,_,_]) rfl ?_
  refine OW_lenL rfl rfl (by exact Ls.of) rfl rfl rfl (by exact List.length_map _) ?_
  refine OW_bin rfl rfl rfl rfl rfl ?_
  refine OW_nilE (e' := [_,_,_,_,_,_,_,_,_,_,_,_,_,_,_,_,_,_,_,_,_,_]) rfl ?_
  refine XW_if rfl (fun h2 => ?_) (fun h2 => ?_)
  ·try simp only [bs] at h2
   refine XW_skip (then_norm (XW_seq (XW_block (XW_sr (OW_fa rfl rfl rfl ?_)))))
   refine OW_loadR hS2 (k := 0) rfl rfl rfl rfl rfl (by rfl) ?_
   refine OW_mv rfl rfl ?_
   refine OW_env (e' := [_,_,_,_,_,_,_,_,_,_,_,_,_,_,_,_,_,_,_,_,_,_]) rfl ?_
   refine OW_iaL rfl rfl rfl Ls.of rfl rfl rfl (by rfl) (by exact at_map (by omega)) rfl ?_
   refine OW_fa rfl rfl rfl ?_
   refine OW_loadE rfl rfl rfl (by rfl) ?_
   refine OW_env (e' := [_,_,_,_,_,_,_,_,_,_,_,_,_,_,_,_,_,_,_,_,_,_]) rfl ?_
   refine OW_mv rfl rfl ?_
   refine OW_bin rfl rfl rfl rfl rfl ?_
   refine OW_nilE (e' := [_,_,_,_,_,_,_,_,_,_,_,_,_,_,_,_,_,_,_,_,_,_]) rfl ?_
   refine XW_if rfl (fun h4 => ?_) (fun h4 => ?_)
   ·try simp only [bs] at h4
    refine XW_sr (OW_mv rfl rfl (OW_as rfl rfl ?_))
    refine OW_nilE (e' := [_,_,_,_,_,_,_,_,_,_,_,_,_,_,_,_,_,_,_,_,_,_]) rfl ?_
    refine XW_ret (block_ret (then_ret (block_ret (then_ret ?_))))
    refine ret_ret (res1 rfl (rv_tmp rfl)) ⟨rfl, ?_⟩
    (rw [hI, List.drop_eq_getElem_cons (by omega), firstI, if_pos (by simpa [isV] using h4)] at hq; exact hq)
   try simp only [bs] at h4
   refine XW_skip (block_norm (then_norm (XW_region (OW_mv rfl rfl ?_))))
   refine OW_bin rfl rfl rfl rfl (add_w64 (by omega)) ?_
   refine OW_as rfl rfl ?_
   refine OW_nilE (e' := [_,_,_,_,_,_,_,_,_,_,_,_,_,_,_,_,_,_,_,_,_,_]) rfl ?_
   refine ⟨_, ?_, i + 1, rfl, under_in hU1, Own.cast (Own.mono (hS2) (le_app (p := ν1) (b := [1]))) (rfl), ?_, env_g rfl⟩
   · omega
   exact ⟨by omega, by rw [hI, List.drop_eq_getElem_cons (by omega), firstI, if_neg (by simpa [isV] using h4)]; rfl⟩
  try simp only [bs] at h2
  refine XW_exit (then_exit (block_exit (then_norm (XW_sr (OW_as rfl rfl ?_)))))
  refine OW_nilE (e' := [_,_,_,_,_,_,_,_,_,_,_,_,_,_,_,_,_,_,_,_,_,_]) rfl ?_
  refine XW_ret ?_
  refine ret_ret (res1 rfl (rv_tmp rfl)) ⟨rfl, ?_⟩
  (rw [hI, List.drop_eq_nil_of_le (by omega)] at hq; exact hq)
end Go.Proofs.YtfkgdlfponfimaaGreat.X

/- Layer 13: volumes in own slices, their leaves in own slices too. -/
set_option linter.unusedVariables false
set_option linter.unusedSimpArgs false
set_option maxRecDepth 100000
namespace Go.Proofs.YtfkgdlfponfimaaGreat.X
open Go Go.RowKit WM
variable {ν β ps pos pos' : Nm} {H H1 : Heap} {Q : AVal → Heap → Prop} {L : List Asr} {k : Nat}
def rowsOf (Us : List AVal) (vs : List Vo) : List AVal := (vs.zip Us).map fun p => p.1.row p.2
def lvsOf (Us : List AVal) (vs : List Vo) : List Asr := (vs.zip Us).map fun p => sl p.2 1 (p.1.lv.map AVal.str)
def vols (V : AVal) (vs : List Vo) : Asr := Asr.ex fun Us : { Us : List AVal // Us.length = vs.length } => Asr.all (sl V 5 (rowsOf Us.1 vs) :: lvsOf Us.1 vs)
def stO (V S T : AVal) (c : Ck) : Asr := Asr.all [vols V c.vs, sl S 3 (c.ss.map SE.Se.enc), sl T 3 (c.qs.map Qu.enc)]
end Go.Proofs.YtfkgdlfponfimaaGreat.X

/- Layer 13: copied. -/
set_option linter.unusedVariables false
set_option linter.unusedSimpArgs false
set_option maxRecDepth 100000
namespace Go.Proofs.YtfkgdlfponfimaaGreat.X
open Go Go.RowKit WM
variable {ν β ps pos pos' : Nm} {H H1 : Heap} {Q : AVal → Heap → Prop} {L : List Asr} {k : Nat}
abbrev ByteArray.enc (s : ByteArray) : AVal := .str s
theorem ByteArray.clone {ν β ps pos' : Nm} {H : Heap} {Q : AVal → Heap → Prop} {L : List Asr} {ls : List ByteArray} {S : AVal} (hv : Ls S (ls.map ByteArray.enc)) (hS : Own β ps H L) (hle : le ps ν) (hβ : under β ν = true) (hp : before ν pos') (hn : ls.length ≤ 4294967296)
    (hq : ∀ v H', Own β pos' H' (sl v 1 (ls.map ByteArray.enc) :: L) → Q v H') : CW cfg ν 94 [S] H Q := by
  have body : ∀ S, (S = .nls ∨ S = .nne) → XW cfg ν fi94.body (start fi94 [S]) (fun _ => none) (retW cfg.T fi94 fun v _ => isEmp v = true) := by
    rintro S (rfl | rfl)
    · refine XW_sr ?_
      refine OW_as rfl rfl ?_
      refine OW_nilE (e' := [_, _, _, _, _, _, _, _]) rfl ?_
      refine XW_seq (XW_sr (OW_mv rfl rfl ?_))
      refine OW_bin rfl rfl rfl rfl rfl ?_
      refine OW_nilE (e' := [_, _, _, _, _, _, _, _]) rfl ?_
      refine XW_yes rfl rfl ?_
      refine XW_sr (OW_as rfl rfl ?_)
      refine OW_nilE (e' := [_, _, _, _, _, _, _, _]) rfl ?_
      refine XW_ret (then_ret ?_)
      exact ret_ret rfl rfl
    refine XW_sr (OW_as rfl rfl ?_)
    refine OW_nilE (e' := [_, _, _, _, _, _, _, _]) rfl ?_
    refine XW_seq (XW_sr (OW_mv rfl rfl ?_))
    refine OW_bin rfl rfl rfl rfl rfl ?_
    refine OW_nilE (e' := [_, _, _, _, _, _, _, _]) rfl ?_
    refine XW_no rfl rfl ?_
    refine XW_skip (then_norm (XW_sr ?_))
    refine OW_bs rfl rfl rfl ?_
    refine OW_mv rfl rfl (OW_bi rfl rfl rfl ?_)
    refine OW_env (e' := [_, _, _, _, _, _, _, _]) rfl ?_
    refine OW_as rfl rfl ?_
    refine OW_nilE (e' := [_, _, _, _, _, _, _, _]) rfl ?_
    refine XW_ret ?_
    exact ret_ret rfl rfl
  by_cases h0 : noneIn [S] = true
  · refine CW_clone0 g94 F94 rfl h0 (body _ (.inl rfl)) (body _ (.inr rfl)) (hq _ _ ?_)
    obtain rfl : ls = [] := by
      rcases hv with rfl | ⟨h, _⟩
      · cases ls with
        | nil => rfl
        | cons x r => simp [noneIn] at h0
      simpa using h
    exact (hS.mono (hle.trans (le_bef hp))).addE
  have h0 : noneIn [S] = false := by simpa using h0
  rcases hv with rfl | ⟨h, rfl | rfl⟩
  · obtain ⟨x, r, rfl⟩ : ∃ x r, ls = x :: r := by
      cases ls with
      | nil => simp [noneIn] at h0
      | cons x r => exact ⟨x, r, rfl⟩
    refine CW_clone g94 F94 rfl h0 ?_
    refine XW_sr (OW_as rfl rfl ?_)
    refine OW_nilE (e' := [_, _, _, _, _, _, _, _]) rfl ?_
    refine XW_seq (XW_sr (OW_mv rfl rfl ?_))
    refine OW_bin rfl rfl rfl rfl rfl ?_
    refine OW_nilE (e' := [_, _, _, _, _, _, _, _]) rfl ?_
    refine XW_no rfl rfl ?_
    refine XW_skip (then_norm (XW_sr ?_))
    refine OW_bs rfl rfl rfl ?_
    refine OW_mv rfl rfl ?_
    refine OW_appE (hS.mono hle) (le_app (b := [2, 0, 1, 1])) (under_app [2, 0, 1, 1] hβ) rfl rfl rfl rfl rfl rfl rfl rfl (Ls.elems Ls.of) (map_wide (fun _ => rfl)) (by simpa using hn) (by decide) fun O2 H2 hS2 => ?_
    refine OW_env (e' := [_, _, _, _, _, _, _, _]) rfl ?_
    refine OW_as rfl rfl ?_
    refine OW_nilE (e' := [_, _, _, _, _, _, _, _]) rfl ?_
    refine XW_ret ?_
    exact ret_ret rfl (hq _ _ (hS2.mono (le_bef (bef_app (a := [3, 0, 1, 1]) hp))))
  · simp [noneIn] at h0
  obtain rfl : ls = [] := by simpa using h
  refine CW_clone g94 F94 rfl rfl ?_
  refine XW_sr (OW_as rfl rfl ?_)
  refine OW_nilE (e' := [_, _, _, _, _, _, _, _]) rfl ?_
  refine XW_seq (XW_sr (OW_mv rfl rfl ?_))
  refine OW_bin rfl rfl rfl rfl rfl ?_
  refine OW_nilE (e' := [_, _, _, _, _, _, _, _]) rfl ?_
  refine XW_yes rfl rfl ?_
  refine XW_sr (OW_as rfl rfl ?_)
  refine OW_nilE (e' := [_, _, _, _, _, _, _, _]) rfl ?_
  refine XW_ret (then_ret ?_)
  exact ret_ret rfl (hq _ _ (hS.mono (hle.trans (le_bef hp))).addN)
def lvA (Us : List AVal) (vs : List Vo) : Asr := Asr.all (lvsOf Us vs)
structure Ck.sm (c : Ck) : Prop where
  v : c.vs.length ≤ 1048577
  s : c.ss.length ≤ 1048577
  q : c.qs.length ≤ 1048577
  l : ∀ x ∈ c.vs, x.lv.length ≤ 1048577
end Go.Proofs.YtfkgdlfponfimaaGreat.X

/- Numbers and texts as bytes: what the wire's functions, and the reference's, put. -/
set_option linter.unusedVariables false
set_option linter.unusedSimpArgs false
set_option maxRecDepth 100000
namespace Go.Proofs.YtfkgdlfponfimaaGreat.X
open Go Go.RowKit WM
variable {ν β ps pos' : Nm} {H : Heap} {Q : AVal → Heap → Prop} {L : List Asr}
theorem or_128 {T : TT} {t : TypeId} (n : Nat) : aBin T .or t (.int .u8 (IntKind.u8.wrap (n : Int))) (.int .u8 128) = some (byt (UInt8.ofNat (n % 128 + 128))) := by
  have h := WM.or128 n
  have e : aBin T .or t (.int .u8 (IntKind.u8.wrap (n : Int))) (.int .u8 128) = some (.int .u8 (Go.bits .or .u8 (IntKind.u8.wrap (n : Int)) 128)) := rfl
  rw [e, show IntKind.u8.wrap (n : Int) = (n : Int) % 256 by rw [IntKind.wrap_u8], h, byt, u8_toNat (by omega)]
theorem snoc_small {l : List UInt8} {m : Nat} (h : m < 256) : l.map byt ++ [.int .u8 (m : Int)] = (l ++ [UInt8.ofNat m]).map byt := by
  rw [List.map_append, List.map_cons, List.map_nil, byt, u8_toNat h]
theorem putW {O : AVal} {xs : List UInt8} {n : Nat} (hS : Own β ps H (sl O 1 (xs.map byt) :: L)) (hle : le ps ν) (hβ : under β ν = true) (hp : before ν pos') (hn : n < 18446744073709551616) (hx : xs.length ≤ 4294967000)
    (hq : ∀ v H1, Own β pos' H1 (sl v 1 ((xs ++ encU n).map byt) :: L) → Q v H1) : CW cfg ν 97 [O, .int .u64 (n : Int)] H Q := by
  have hlen := encU_le10 hn
  refine CW_keep g97 F97 rfl ?_
  replace hS := Own.mono hS hle
  refine XW_sr (OW_as rfl rfl ?_)
  refine OW_nilE (e' := [_,_,_,_,_,_,_,_,_,_,_,_,_,_,_,_,_,_,_,_]) rfl ?_
  refine XW_seq (XW_block ?_)
  refine XW_whileN (I := fun ν' mm ee H' => ∃ (m : Nat) (O : AVal) (pre : List UInt8), mm = m + 1 ∧ under (0 :: 1 :: ν) ν' = true ∧ Own β ν' H' (sl O 1 ((xs ++ pre).map byt) :: L) ∧ (encU n = pre ++ encU m ∧ m < 18446744073709551616) ∧ ∃ g : Nat → AVal, ee = [O, .int .u64 m, g 2, g 3, g 4, g 5, g 6, g 7, g 8, g 9, g 10, g 11, g 12, g 13, g 14, g 15, g 16, g 17, g 18, g 19]) ?_ _ _ _ _ ⟨n, O, [], rfl, under_me, Own.cast (Own.mono (hS) (le_app (p := ν) (b := [0, 1]))) (by simp), (⟨rfl, hn⟩), env_g rfl⟩
  rintro ν1 mm ee H1 ⟨m, O, pre, rfl, hU1, hS1, ⟨hI, hm⟩, g1, rfl⟩
  have hpl : pre.length + 1 ≤ 10 := by have := congrArg List.length hI; have := encU_pos m; simp at *; omega
  refine XW_seq (XW_sr (OW_mv rfl rfl ?_))
  refine OW_bin rfl rfl rfl rfl rfl ?_
  refine OW_nilE (e' := [_,_,_,_,_,_,_,_,_,_,_,_,_,_,_,_,_,_,_,_]) rfl ?_
  refine XW_if rfl (fun h1 => ?_) (fun h1 => ?_)
  ·try simp only [bs] at h1
   refine XW_skip (then_norm (XW_block (XW_sr (OW_mv rfl rfl (OW_mv rfl rfl ?_)))))
   refine OW_conv rfl rfl rfl ?_
   refine OW_env (e' := [_,_,_,_,_,_,_,_,_,_,_,_,_,_,_,_,_,_,_,_]) rfl ?_
   try rw [show IntKind.u8.wrap ((m : Nat) : Int) = IntKind.u8.wrap (m : Int) from rfl]
   refine OW_bin rfl rfl rfl rfl (or_128 _) ?_
   refine OW_bs rfl rfl (v := .lst [_]) rfl ?_
   refine OW_app hS1 (k := 0) rfl (le_app (p := ν1) (b := [5, 0, 1, 0])) (under_app [5, 0, 1, 0] (under_trans (under_app [0, 1] hβ) hU1)) rfl rfl rfl rfl rfl rfl rfl rfl (by rfl) (by exact one_wide rfl) (by (simp only [ss]; omega)) (by decide) fun O1 H2 hS2 => ?_
   replace hS2 : Own _ _ _ (_ :: L) := hS2
   refine OW_env (e' := [_,_,_,_,_,_,_,_,_,_,_,_,_,_,_,_,_,_,_,_]) rfl ?_
   refine OW_as rfl rfl ?_
   refine OW_nilE (e' := [_,_,_,_,_,_,_,_,_,_,_,_,_,_,_,_,_,_,_,_]) rfl ?_
   refine XW_region (OW_mv rfl rfl ?_)
   refine OW_bin rfl rfl rfl rfl (shr_u64 (m := 7) (by decide)) ?_
   refine OW_as rfl rfl ?_
   refine OW_nilE (e' := [_,_,_,_,_,_,_,_,_,_,_,_,_,_,_,_,_,_,_,_]) rfl ?_
   refine block_norm ?_
   refine ⟨_, ?_, m / 128, O1, pre ++ [UInt8.ofNat (m % 128 + 128)], rfl, under_in hU1, Own.cast (Own.mono (hS2) (le_lit (ν := ν1) (a := [6, 0, 1, 0]) (b := [1]) (by decide))) (by simp), ?_, env_g rfl⟩
   · omega
   exact ⟨by rw [hI, encU_big (by omega)]; simp, by omega⟩
  try simp only [bs] at h1
  refine XW_exit (then_exit (block_exit (then_norm (XW_sr (OW_mv rfl rfl (OW_mv rfl rfl ?_))))))
  refine OW_conv rfl rfl (conv_in rfl rfl rfl (IntWalk.u8_in _ (by omega))) ?_
  refine OW_env (e' := [_,_,_,_,_,_,_,_,_,_,_,_,_,_,_,_,_,_,_,_]) rfl ?_
  refine OW_bs rfl rfl (v := .lst [_]) rfl ?_
  refine OW_app hS1 (k := 0) rfl (le_bef (bef_under (a := []) hU1 (before_lit (ν := ν) (a := [0, 1]) (b := [4, 0, 1, 1]) (by decide)))) (under_app [4, 0, 1, 1] hβ) rfl rfl rfl rfl rfl rfl rfl rfl (by rfl) (by exact one_wide rfl) (by (simp only [ss]; omega)) (by decide) fun O2 H3 hS3 => ?_
  replace hS3 : Own _ _ _ (_ :: L) := hS3
  refine OW_as rfl rfl ?_
  refine OW_nilE (e' := [_,_,_,_,_,_,_,_,_,_,_,_,_,_,_,_,_,_,_,_]) rfl ?_
  refine XW_ret ?_
  refine ret_ret (res1 rfl (rv_tmp rfl)) ?_
  refine hq _ _ (Own.cast (Own.mono hS3 (le_bef (bef_app (a := [5, 0, 1, 1]) hp))) ?_)
  rw [snoc_small (by omega), hI, encU_small (by omega), List.append_assoc]
theorem putU {n : Nat} (hn : n < 18446744073709551616) (hq : Q (.str (ba (encU n))) H) : CW cfg ν 40 [.int .u64 (n : Int)] H Q := by
  refine CW_pure g40 F40 rfl ?_
  have hS0 : Own ν ν (fun _ => none) [] := Own.nil
  refine XW_sr (OW_as rfl rfl ?_)
  refine OW_nilE (e' := [_,_,_,_,_,_]) rfl ?_
  refine XW_sr (OW_mv rfl rfl ?_)
  refine OW_fn rfl rfl (putW (xs := []) hS0.addN (le_app (p := ν) (b := [1, 0, 1])) (under_app [1, 0, 1] under_me) (before_lit (ν := ν) (a := [1, 0, 1]) (b := [2, 0, 1]) (by decide)) hn (by decide) fun O1 H1 hS1 => ?_) 
  replace hS1 : Own _ _ _ ([_]) := hS1
  refine OW_bytesO hS1 (k := 0) rfl rfl rfl rfl rfl rfl rfl rfl rfl rfl ?_
  refine OW_env (e' := [_,_,_,_,_,_]) rfl ?_
  refine OW_as rfl rfl ?_
  refine OW_nilE (e' := [_,_,_,_,_,_]) rfl ?_
  refine XW_ret ?_
  refine ret_ret (res1 rfl (rv_tmp rfl)) (frz1 (Q := Q) (by exact freeze_plain rfl) ?_)
  exact hq
theorem rputU {n : Nat} (hn : n < 18446744073709551616) (hq : Q (.str (ba (encU n))) H) : CW cfg ν 46 [.int .u64 (n : Int)] H Q := by
  have hlen := encU_le10 hn
  refine CW_pure g46 F46 rfl ?_
  have hS0 : Own ν ν (fun _ => none) [] := Own.nil
  refine XW_sr (OW_as rfl rfl ?_)
  refine OW_nilE (e' := [_,_,_,_,_,_,_,_,_,_,_,_,_,_,_,_,_,_,_,_,_,_,_]) rfl ?_
  refine XW_sr ?_
  refine OW_bs rfl rfl rfl ?_
  refine OW_as rfl rfl ?_
  refine OW_nilE (e' := [_,_,_,_,_,_,_,_,_,_,_,_,_,_,_,_,_,_,_,_,_,_,_]) rfl ?_
  refine XW_seq (XW_block ?_)
  refine XW_whileN (I := fun ν' mm ee H' => ∃ (m : Nat) (O : AVal) (pre : List UInt8), mm = m + 1 ∧ under (0 :: 1 :: 1 :: ν) ν' = true ∧ Own ν ν' H' ([sl O 1 (pre.map byt)]) ∧ (encU n = pre ++ encU m ∧ m < 18446744073709551616) ∧ ∃ g : Nat → AVal, ee = [.int .u64 m, g 1, g 2, O, g 4, g 5, g 6, g 7, g 8, g 9, g 10, g 11, g 12, g 13, g 14, g 15, g 16, g 17, g 18, g 19, g 20, g 21, g 22]) ?_ _ _ _ _ ⟨n, .emp, [], rfl, under_me, Own.cast (Own.mono (hS0.addE) (le_app (p := ν) (b := [0, 1, 1]))) (rfl), (⟨rfl, hn⟩), env_g rfl⟩
  rintro ν1 mm ee H1 ⟨m, O, pre, rfl, hU1, hS1, ⟨hI, hm⟩, g1, rfl⟩
  have hpl : pre.length + 1 ≤ 10 := by have := congrArg List.length hI; have := encU_pos m; simp at *; omega
  refine XW_seq (XW_sr (OW_mv rfl rfl ?_))
  refine OW_bin rfl rfl rfl rfl rfl ?_
  refine OW_nilE (e' := [_,_,_,_,_,_,_,_,_,_,_,_,_,_,_,_,_,_,_,_,_,_,_]) rfl ?_
  refine XW_if rfl (fun h2 => ?_) (fun h2 => ?_)
  ·try simp only [bs] at h2
   refine XW_skip (then_norm (XW_block (XW_sr (OW_mv rfl rfl (OW_mv rfl rfl ?_)))))
   refine OW_bin rfl rfl rfl rfl (rem_inu64 (by omega)) ?_
   refine OW_env (e' := [_,_,_,_,_,_,_,_,_,_,_,_,_,_,_,_,_,_,_,_,_,_,_]) rfl ?_
   refine OW_bin rfl rfl rfl rfl (add_wu64 (by omega)) ?_
   refine OW_conv rfl rfl (conv_in rfl rfl rfl (IntWalk.u8_in _ (by omega))) ?_
   rw [show ((m : Int) % 128 + 128) = ((UInt8.ofNat (m % 128 + 128)).toNat : Int) by rw [u8_toNat (by omega)]; omega]
   refine OW_bs rfl rfl (v := .lst [_]) rfl ?_
   refine OW_env (e' := [_,_,_,_,_,_,_,_,_,_,_,_,_,_,_,_,_,_,_,_,_,_,_]) rfl ?_
   refine OW_app hS1 (k := 0) rfl (le_app (p := ν1) (b := [6, 0, 1, 0])) (under_app [6, 0, 1, 0] (under_trans (under_app [0, 1, 1] under_me) hU1)) rfl rfl rfl rfl rfl rfl rfl rfl (by rfl) (by exact one_wide rfl) (by (simp only [ss]; omega)) (by decide) fun O1 H2 hS2 => ?_
   replace hS2 : Own _ _ _ ([_]) := hS2
   refine OW_as rfl rfl ?_
   refine OW_nilE (e' := [_,_,_,_,_,_,_,_,_,_,_,_,_,_,_,_,_,_,_,_,_,_,_]) rfl ?_
   refine XW_region ?_
   replace hS2 := hS2.reS (k := 0) rfl (map_snoc (f := byt) (a := UInt8.ofNat (m % 128 + 128)))
   refine OW_mv rfl rfl ?_
   refine OW_bin rfl rfl rfl rfl (quo_inu64 (by omega)) ?_
   refine OW_as rfl rfl ?_
   refine OW_nilE (e' := [_,_,_,_,_,_,_,_,_,_,_,_,_,_,_,_,_,_,_,_,_,_,_]) rfl ?_
   refine block_norm ?_
   refine ⟨_, ?_, m / 128, O1, pre ++ [UInt8.ofNat (m % 128 + 128)], rfl, under_in hU1, Own.cast (Own.mono (hS2) (le_lit (ν := ν1) (a := [7, 0, 1, 0]) (b := [1]) (by decide))) (rfl), ?_, env_g rfl⟩
   · omega
   exact ⟨by rw [hI, encU_big (by omega)]; simp, by omega⟩
  try simp only [bs] at h2
  refine XW_exit (then_exit (block_exit (then_norm (XW_sr (OW_mv rfl rfl (OW_mv rfl rfl ?_))))))
  refine OW_conv rfl rfl (conv_in rfl rfl rfl (IntWalk.u8_in _ (by omega))) ?_
  refine OW_env (e' := [_,_,_,_,_,_,_,_,_,_,_,_,_,_,_,_,_,_,_,_,_,_,_]) rfl ?_
  refine OW_bs rfl rfl (v := .lst [_]) rfl ?_
  refine OW_app hS1 (k := 0) rfl (le_bef (bef_under (a := []) hU1 (before_lit (ν := ν) (a := [0, 1, 1]) (b := [4, 0, 1, 1, 1]) (by decide)))) (under_app [4, 0, 1, 1, 1] under_me) rfl rfl rfl rfl rfl rfl rfl rfl (by rfl) (by exact one_wide rfl) (by (simp only [ss]; omega)) (by decide) fun O2 H3 hS3 => ?_
  replace hS3 : Own _ _ _ ([_]) := hS3
  refine OW_as rfl rfl ?_
  refine OW_nilE (e' := [_,_,_,_,_,_,_,_,_,_,_,_,_,_,_,_,_,_,_,_,_,_,_]) rfl ?_
  refine XW_sr ?_
  replace hS3 := hS3.reS (k := 0) rfl (snoc_small (by omega))
  refine OW_mv rfl rfl ?_
  refine OW_bytesO hS3 (k := 0) rfl rfl rfl rfl rfl rfl rfl rfl rfl rfl ?_
  refine OW_as rfl rfl ?_
  refine OW_nilE (e' := [_,_,_,_,_,_,_,_,_,_,_,_,_,_,_,_,_,_,_,_,_,_,_]) rfl ?_
  refine XW_ret ?_
  refine ret_ret (res1 rfl (rv_tmp rfl)) (frz1 (Q := Q) (by exact freeze_plain rfl) ?_)
  rw [hI, encU_small (by omega)] at hq; exact hq
end Go.Proofs.YtfkgdlfponfimaaGreat.X

/- Numbers and texts as bytes: what the wire's functions, and the reference's, take. -/
set_option linter.unusedVariables false
set_option linter.unusedSimpArgs false
set_option maxRecDepth 100000
namespace Go.Proofs.YtfkgdlfponfimaaGreat.X
open Go Go.RowKit WM
variable {ν β ps pos' : Nm} {H : Heap} {Q : AVal → Heap → Prop} {L : List Asr}
def noU : Int × ByteArray × Bool := (0, (⟨#[]⟩ : ByteArray), false)
def resU (s : ByteArray) : Int × ByteArray × Bool := match takeU 64 s.data.toList with
  | some (n, r) => ((n : Int), ba r, true)
  | none => noU
def tupU (x : Int × ByteArray × Bool) : AVal := .tup [.int .u64 x.1, .str x.2.1, .bool x.2.2]
def contU (i acc : Nat) (l : List UInt8) : Int × ByteArray × Bool := match takeU (64 - 7 * i) l with
  | some (v, r) => if 0 < i ∧ v = 0 then noU else (((acc + v * 2 ^ (7 * i) : Nat) : Int), ba r, true)
  | none => noU
theorem contU_first (s : ByteArray) : resU s = contU 0 0 s.data.toList := by
  unfold resU contU
  simp only [Nat.mul_zero, Nat.sub_zero, Nat.lt_irrefl, false_and, if_false, Nat.zero_add, Nat.pow_zero, Nat.mul_one]
theorem contU_nil {i acc : Nat} : contU i acc [] = noU := by simp [contU, takeU]
theorem contU_small {i acc : Nat} {c : UInt8} {t : List UInt8} (hi : i ≤ 9) (hc : c.toNat < 128) (h9 : i = 9 → c.toNat ≤ 1) : contU i acc (c :: t) = if 0 < i ∧ c.toNat = 0 then noU else (((acc + c.toNat * 2 ^ (7 * i) : Nat) : Int), ba t, true) := by
  have : c.toNat < 2 ^ (64 - 7 * i) := by
    by_cases e : i = 9
    · subst e; have := h9 rfl; show c.toNat < 2 ^ 1; omega
    have : 2 ^ 8 ≤ 2 ^ (64 - 7 * i) := Nat.pow_le_pow_right (by decide) (by omega)
    omega
  simp only [contU, takeU, if_pos hc, if_pos this]
theorem takeU_zero {l : List UInt8} {v : Nat} {r : List UInt8} (h : takeU 0 l = some (v, r)) : v = 0 := by
  have := (takeU_some _ _ _ _ h).2
  simpa using this
theorem contU_nine {acc : Nat} {c : UInt8} {t : List UInt8} (hc : 1 < c.toNat) : contU 9 acc (c :: t) = noU := by
  unfold contU
  simp only [takeU, show 64 - 7 * 9 = 1 from rfl]
  by_cases h : c.toNat < 128
  · rw [if_pos h, if_neg (by show ¬ c.toNat < 2 ^ 1; omega)]
  rw [if_neg h, show 1 - 7 = 0 from rfl]
  cases ht : takeU 0 t with
  | none => rfl
  | some p => obtain ⟨v, r⟩ := p; simp only [takeU_zero ht, if_true]
theorem contU_big {i acc : Nat} {c : UInt8} {t : List UInt8} (hi : i ≤ 8) (hc : ¬ c.toNat < 128) : contU i acc (c :: t) = contU (i + 1) (acc + c.toNat % 128 * 2 ^ (7 * i)) t := by
  have hl := c.toNat_lt
  unfold contU
  simp only [takeU, if_neg hc, show 64 - 7 * i - 7 = 64 - 7 * (i + 1) by omega]
  cases ht : takeU (64 - 7 * (i + 1)) t with
  | none => rfl
  | some p =>
    obtain ⟨v, r⟩ := p
    simp only
    by_cases hv : v = 0
    · rw [if_pos hv, if_pos ⟨by omega, hv⟩]
    rw [if_neg hv, if_neg (by omega)]
    simp only
    rw [if_neg (by omega)]
    congr 2
    rw [show 7 * (i + 1) = 7 + 7 * i by omega, Nat.pow_add, show (2 : Nat) ^ 7 = 128 from rfl, Nat.add_mul, Nat.add_assoc]
    rw [show c.toNat - 128 = c.toNat % 128 by omega]
    congr 2
    rw [Nat.mul_comm 128 v, Nat.mul_assoc]
theorem and_127 {T : TT} {t : TypeId} (c : UInt8) : aBin T .and t (byt c) (.int .u8 127) = some (.int .u8 ((c.toNat % 128 : Nat) : Int)) := by
  have e : aBin T .and t (byt c) (.int .u8 127) = some (.int .u8 (Go.bits .and .u8 (c.toNat : Int) 127)) := rfl
  rw [e, WM.and127]
theorem shl_le {i c : Nat} (hi : i ≤ 9) (hc : c < 128) (h9 : i = 9 → c ≤ 1) : (c + 1) * 2 ^ (7 * i) ≤ 18446744073709551616 := by
  by_cases e : i = 9
  · subst e; have := h9 rfl
    have : (c + 1) * 2 ^ (7 * 9) ≤ 2 * 2 ^ (7 * 9) := Nat.mul_le_mul_right _ (by omega)
    exact Nat.le_trans this (by decide)
  have h1 : (c + 1) * 2 ^ (7 * i) ≤ 128 * 2 ^ (7 * 8) := Nat.mul_le_mul (by omega) (Nat.pow_le_pow_right (by decide) (by omega))
  exact Nat.le_trans h1 (by decide)
theorem shl_u64 {T : TT} {t : TypeId} {d i : Nat} (hi : i ≤ 9) (h : d * 2 ^ (7 * i) < 18446744073709551616) : aBin T .shl t (.int .u64 (d : Int)) (.int .i64 (7 * (i : Int))) = some (.int .u64 ((d * 2 ^ (7 * i) : Nat) : Int)) := by
  show (if (7 * (i : Int)) < 0 then none else some (AVal.int .u64 (IntKind.u64.wrap ((d : Int) * 2 ^ (min (7 * (i : Int)).toNat 64))))) = _
  rw [if_neg (by omega), show min (7 * (i : Int)).toNat 64 = 7 * i by omega]
  have e : ((d : Int) * 2 ^ (7 * i)) = ((d * 2 ^ (7 * i) : Nat) : Int) := by simp
  rw [e, IntWalk.u64_in _ (by omega)]
theorem or_u64 {T : TT} {t : TypeId} {acc d i : Nat} (ha : acc < 2 ^ (7 * i)) (hd : acc + d * 2 ^ (7 * i) < 18446744073709551616) : aBin T .or t (.int .u64 (acc : Int)) (.int .u64 ((d * 2 ^ (7 * i) : Nat) : Int)) = some (.int .u64 ((acc + d * 2 ^ (7 * i) : Nat) : Int)) := by
  have e : aBin T .or t (.int .u64 (acc : Int)) (.int .u64 ((d * 2 ^ (7 * i) : Nat) : Int)) = some (.int .u64 (Go.bits .or .u64 (acc : Int) ((d * 2 ^ (7 * i) : Nat) : Int))) := rfl
  rw [e, WM.or_shift _ _ _ ha hd]
theorem str_drop {s : ByteArray} {i : Nat} (h : i < s.size) : s.data.toList.drop i = s.data.toList.getD i 0 :: s.data.toList.drop (i + 1) := by
  have h' : i < s.data.toList.length := h
  rw [List.drop_eq_getElem_cons h', List.getD_eq_getElem?_getD, List.getElem?_eq_getElem h', Option.getD_some]
theorem ext_tail (s : ByteArray) (i : Nat) : s.extract i s.size = ba (s.data.toList.drop i) := by rw [← ba_drop]; rfl
theorem ext_head (s : ByteArray) (i : Nat) : s.extract 0 i = ba (s.data.toList.take i) := by rw [← ba_take]; rfl
theorem enc_head {c : UInt8} {t r : List UInt8} {v : Nat} (h : c :: t = encU v ++ r) : c.toNat % 128 = v % 128 ∧ (c.toNat < 128 ↔ v < 128) ∧ (v < 128 → t = r ∧ (encU v).length = 1) ∧ (¬ v < 128 → t = encU (v / 128) ++ r ∧ (encU v).length = (encU (v / 128)).length + 1) := by
  by_cases hv : v < 128
  · rw [encU_small hv] at h
    obtain ⟨rfl, rfl⟩ := List.cons.inj h
    rw [u8_toNat (by omega)]
    exact ⟨rfl, Iff.rfl, fun _ => ⟨rfl, by rw [encU_small hv]; rfl⟩, fun h => absurd hv h⟩
  rw [encU_big hv] at h
  obtain ⟨rfl, rfl⟩ := List.cons.inj h
  rw [u8_toNat (by omega)]
  exact ⟨by omega, by omega, fun h => absurd h hv, fun _ => ⟨rfl, by rw [encU_big hv]; rfl⟩⟩
theorem mul_cast {a b m : Nat} (h : a * b ≤ m) : 0 ≤ (a : Int) * (b : Int) ∧ (a : Int) * (b : Int) ≤ (m : Int) := by
  rw [← Int.natCast_mul]; omega
theorem takeU_c {s : ByteArray} (hs : s.size ≤ 4611686018427387904) (hq : Q (tupU (resU s)) H) : CW cfg ν 95 [.str s] H Q := by
  rw [contU_first] at hq
  refine CW_pure g95 F95 rfl ?_
  refine XW_sr (OW_as rfl rfl (OW_as rfl rfl (OW_as rfl rfl ?_)))
  refine EZ44 rfl ?_
  refine XW_sr (OW_as rfl rfl ?_)
  refine EZ44 rfl ?_
  refine XW_seq (XW_sr (OW_mv rfl rfl ?_))
  refine OW_lenS rfl rfl rfl ?_
  refine OW_mv rfl rfl ?_
  refine EZ44 rfl ?_
  refine XW_block ?_
  refine XW_whileN (I := fun ν' mm ee H' => ∃ (i : Nat) (acc : Nat), mm = s.size - i ∧ under (1 :: 0 :: 1 :: 1 :: ν) ν' = true ∧ (i ≤ s.size ∧ i ≤ 9 ∧ acc < 2 ^ (7 * i) ∧ contU 0 0 s.data.toList = contU i acc (s.data.toList.drop i)) ∧ ∃ g : Nat → AVal, ee = [.str s, g 1, .int .u64 0, .str ⟨#[]⟩, .bool false, .int .u64 acc, g 6, g 7, g 8, .int .i64 s.size, .int .i64 i, g 11, g 12, g 13, g 14, g 15, g 16, g 17, g 18, g 19, g 20, g 21, g 22, g 23, g 24, g 25, g 26, g 27, g 28, g 29, g 30, g 31, g 32, g 33, g 34, g 35, g 36, g 37, g 38, g 39, g 40, g 41, g 42, g 43]) ?_ _ _ _ _ ⟨0, 0, rfl, under_me, (⟨by omega, by omega, by decide, rfl⟩), env_g rfl⟩
  rintro ν1 mm ee H1 ⟨i, acc, rfl, hU1, ⟨hi, hi9, ha, hI⟩, g1, rfl⟩
  refine XW_sr ?_
  refine OW_bin rfl rfl rfl rfl rfl ?_
  refine EZ44 rfl ?_
  refine XW_seq ?_
  refine XW_if rfl (fun h3 => ?_) (fun h3 => ?_)
  ·try simp only [bs] at h3
   refine XW_skip (then_norm (XW_seq (XW_block (XW_sr (OW_mv rfl rfl (OW_as rfl rfl ?_))))))
   refine EZ44 rfl ?_
   refine XW_sr (OW_mv rfl rfl (OW_mv rfl rfl ?_))
   refine OW_ix rfl rfl rfl (str_ix rfl rfl (by omega) (by omega)) ?_
   refine EN44 rfl ?_
   have hdr := str_drop (s := s) (i := i) (by omega)
   rw [Int.toNat_natCast]
   generalize s.data.toList.getD i 0 = c at hdr ⊢
   have hcl := c.toNat_lt
   rw [show AVal.int .u8 ((c.toNat : Nat) : Int) = byt c from rfl]
   refine OW_as rfl rfl ?_
   refine EZ44 rfl ?_
   refine XW_seq (XW_sr (OW_mv rfl rfl ?_))
   refine OW_bin rfl rfl rfl rfl rfl ?_
   refine OW_mv rfl rfl (EN44 rfl ?_)
   refine OW_split (tt := 18) rfl (fun g6_3 => ?_) (fun g6_3 => ?_)
   ·try simp only [bs] at g6_3
    refine OW_mv rfl rfl ?_
    refine OW_bin rfl rfl rfl rfl rfl ?_
    refine EN44 rfl (OW_pick rfl rfl rfl ?_)
    refine EZ44 rfl ?_
    refine XW_if rfl (fun h6 => ?_) (fun h6 => ?_)
    ·try simp only [bs] at h6
     refine XW_exit (then_exit (block_exit_ne rfl (then_exit (block_exit (then_norm (XW_sr (OW_as rfl rfl (OW_as rfl rfl (OW_as rfl rfl ?_)))))))))
     refine EZ44 rfl ?_
     refine XW_ret ?_
     refine ret_ret (res3 rfl (rv_tmp rfl) (rv_tmp rfl) (rv_tmp rfl)) (frz3 (Q := Q) (by exact freeze_plain rfl) (by exact freeze_plain rfl) (by exact freeze_plain rfl) ?_)
     (rw [hI, hdr, show i = 9 by omega, contU_nine (by omega)] at hq; exact hq)
    try simp only [bs] at h6
    refine XW_skip (then_norm (XW_sr ?_))
    have hc1 : i = 9 → c.toNat % 128 ≤ 1 := by intro e; omega
    have hle := shl_le hi9 (show c.toNat % 128 < 128 by omega) hc1
    rw [Nat.add_mul, Nat.one_mul] at hle
    have hpp : 0 < 2 ^ (7 * i) := Nat.pow_pos (by decide)
    have hd : c.toNat % 128 * 2 ^ (7 * i) < 18446744073709551616 := by omega
    have hod : acc + c.toNat % 128 * 2 ^ (7 * i) < 18446744073709551616 := by omega
    refine OW_mv rfl rfl (OW_mv rfl rfl ?_)
    refine OW_bin rfl rfl rfl rfl (and_127 _) ?_
    refine EN44 rfl ?_
    refine OW_conv rfl rfl (conv_in rfl rfl rfl (IntWalk.u64_in _ (by omega))) ?_
    refine OW_mv rfl rfl ?_
    refine OW_bin rfl rfl rfl rfl (mul_w64 (by omega)) ?_
    refine EN44 rfl ?_
    refine OW_bin rfl rfl rfl rfl (shl_u64 hi9 hd) ?_
    refine OW_bin rfl rfl rfl rfl (or_u64 ha hod) ?_
    refine OW_as rfl rfl ?_
    refine EZ44 rfl ?_
    refine XW_sr (OW_mv rfl rfl ?_)
    refine OW_bin rfl rfl rfl rfl rfl ?_
    refine EZ44 rfl ?_
    refine XW_if rfl (fun h8 => ?_) (fun h8 => ?_)
    ·try simp only [bs] at h8
     refine XW_seq (XW_sr (OW_mv rfl rfl ?_))
     refine OW_bin rfl rfl rfl rfl rfl ?_
     refine OW_mv rfl rfl (EN44 rfl ?_)
     refine OW_split (tt := 34) rfl (fun g9_3 => ?_) (fun g9_3 => ?_)
     ·try simp only [bs] at g9_3
      refine OW_mv rfl rfl ?_
      refine OW_bin rfl rfl rfl rfl rfl ?_
      refine EN44 rfl (OW_pick rfl rfl rfl ?_)
      refine EZ44 rfl ?_
      refine XW_if rfl (fun h9 => ?_) (fun h9 => ?_)
      ·try simp only [bs] at h9
       refine XW_exit (then_exit (block_exit_ne rfl (then_exit (block_exit (then_norm (XW_sr (OW_as rfl rfl (OW_as rfl rfl (OW_as rfl rfl ?_)))))))))
       refine EZ44 rfl ?_
       refine XW_ret ?_
       refine ret_ret (res3 rfl (rv_tmp rfl) (rv_tmp rfl) (rv_tmp rfl)) (frz3 (Q := Q) (by exact freeze_plain rfl) (by exact freeze_plain rfl) (by exact freeze_plain rfl) ?_)
       (rw [hI, hdr, contU_small hi9 (by omega) (by omega), if_pos ⟨by omega, by omega⟩] at hq; exact hq)
      try simp only [bs] at h9
      refine XW_skip (then_norm (XW_sr (OW_mv rfl rfl (OW_mv rfl rfl (OW_mv rfl rfl (EN44 rfl ?_))))))
      refine OW_bin rfl rfl rfl rfl (add_w64 (by omega)) ?_
      refine OW_sl rfl rfl rfl rfl rfl (str_lo rfl rfl (by omega) (by omega)) ?_
      refine OW_as rfl rfl (EN44 rfl (OW_as rfl rfl (OW_as rfl rfl ?_)))
      refine EZ44 rfl ?_
      refine XW_ret (block_ret (then_ret (block_ret (then_ret ?_))))
      refine ret_ret (res3 rfl (rv_tmp rfl) (rv_tmp rfl) (rv_tmp rfl)) (frz3 (Q := Q) (by exact freeze_plain rfl) (by exact freeze_plain rfl) (by exact freeze_plain rfl) ?_)
      (rw [hI, hdr, contU_small hi9 (by omega) (by omega), if_neg (by omega), ← ext_tail] at hq; rw [show c.toNat % 128 = c.toNat by omega, show ((i : Int) + 1).toNat = i + 1 by omega]; exact hq)
     try simp only [bs] at g9_3
     refine OW_no rfl (OW_no rfl (EN44 rfl (OW_pick rfl rfl rfl ?_)))
     refine EZ44 rfl ?_
     refine XW_no rfl rfl ?_
     refine XW_skip (then_norm (XW_sr (OW_mv rfl rfl (OW_mv rfl rfl (OW_mv rfl rfl (EN44 rfl ?_))))))
     refine OW_bin rfl rfl rfl rfl (add_w64 (by omega)) ?_
     refine OW_sl rfl rfl rfl rfl rfl (str_lo rfl rfl (by omega) (by omega)) ?_
     refine OW_as rfl rfl (EN44 rfl (OW_as rfl rfl (OW_as rfl rfl ?_)))
     refine EZ44 rfl ?_
     refine XW_ret (block_ret (then_ret (block_ret (then_ret ?_))))
     refine ret_ret (res3 rfl (rv_tmp rfl) (rv_tmp rfl) (rv_tmp rfl)) (frz3 (Q := Q) (by exact freeze_plain rfl) (by exact freeze_plain rfl) (by exact freeze_plain rfl) ?_)
     (rw [hI, hdr, contU_small hi9 (by omega) (by omega), if_neg (by omega), ← ext_tail] at hq; rw [show c.toNat % 128 = c.toNat by omega, show ((i : Int) + 1).toNat = i + 1 by omega]; exact hq)
    try simp only [bs] at h8
    refine XW_skip (block_norm (then_norm (XW_region ?_)))
    refine OW_bin rfl rfl rfl rfl (add_w64 (by omega)) ?_
    refine OW_mv rfl rfl ?_
    refine EZ44 rfl ?_
    refine ⟨_, ?_, i + 1, _, rfl, under_in hU1, ?_, env_g rfl⟩
    · omega
    exact ⟨by omega, by omega, by have e : 2 ^ (7 * (i + 1)) = 128 * 2 ^ (7 * i) := (by rw [show 7 * (i + 1) = 7 + 7 * i by omega, Nat.pow_add]); have h2 : (c.toNat % 128 + 1) * 2 ^ (7 * i) ≤ 128 * 2 ^ (7 * i) := Nat.mul_le_mul_right _ (by omega); rw [Nat.add_mul, Nat.one_mul] at h2; omega, by rw [hI, hdr, contU_big (by omega) (by omega)]⟩
   try simp only [bs] at g6_3
   refine OW_no rfl (OW_no rfl (EN44 rfl (OW_pick rfl rfl rfl ?_)))
   refine EZ44 rfl ?_
   refine XW_no rfl rfl ?_
   refine XW_skip (then_norm (XW_sr ?_))
   have hc1 : i = 9 → c.toNat % 128 ≤ 1 := by intro e; omega
   have hle := shl_le hi9 (show c.toNat % 128 < 128 by omega) hc1
   rw [Nat.add_mul, Nat.one_mul] at hle
   have hpp : 0 < 2 ^ (7 * i) := Nat.pow_pos (by decide)
   have hd : c.toNat % 128 * 2 ^ (7 * i) < 18446744073709551616 := by omega
   have hod : acc + c.toNat % 128 * 2 ^ (7 * i) < 18446744073709551616 := by omega
   refine OW_mv rfl rfl (OW_mv rfl rfl ?_)
   refine OW_bin rfl rfl rfl rfl (and_127 _) ?_
   refine EN44 rfl ?_
   refine OW_conv rfl rfl (conv_in rfl rfl rfl (IntWalk.u64_in _ (by omega))) ?_
   refine OW_mv rfl rfl ?_
   refine OW_bin rfl rfl rfl rfl (mul_w64 (by omega)) ?_
   refine EN44 rfl ?_
   refine OW_bin rfl rfl rfl rfl (shl_u64 hi9 hd) ?_
   refine OW_bin rfl rfl rfl rfl (or_u64 ha hod) ?_
   refine OW_as rfl rfl ?_
   refine EZ44 rfl ?_
   refine XW_sr (OW_mv rfl rfl ?_)
   refine OW_bin rfl rfl rfl rfl rfl ?_
   refine EZ44 rfl ?_
   refine XW_if rfl (fun h8 => ?_) (fun h8 => ?_)
   ·try simp only [bs] at h8
    refine XW_seq (XW_sr (OW_mv rfl rfl ?_))
    refine OW_bin rfl rfl rfl rfl rfl ?_
    refine OW_mv rfl rfl (EN44 rfl ?_)
    refine OW_split (tt := 34) rfl (fun g9_3 => ?_) (fun g9_3 => ?_)
    ·try simp only [bs] at g9_3
     refine OW_mv rfl rfl ?_
     refine OW_bin rfl rfl rfl rfl rfl ?_
     refine EN44 rfl (OW_pick rfl rfl rfl ?_)
     refine EZ44 rfl ?_
     refine XW_if rfl (fun h9 => ?_) (fun h9 => ?_)
     ·try simp only [bs] at h9
      refine XW_exit (then_exit (block_exit_ne rfl (then_exit (block_exit (then_norm (XW_sr (OW_as rfl rfl (OW_as rfl rfl (OW_as rfl rfl ?_)))))))))
      refine EZ44 rfl ?_
      refine XW_ret ?_
      refine ret_ret (res3 rfl (rv_tmp rfl) (rv_tmp rfl) (rv_tmp rfl)) (frz3 (Q := Q) (by exact freeze_plain rfl) (by exact freeze_plain rfl) (by exact freeze_plain rfl) ?_)
      (rw [hI, hdr, contU_small hi9 (by omega) (by omega), if_pos ⟨by omega, by omega⟩] at hq; exact hq)
     try simp only [bs] at h9
     refine XW_skip (then_norm (XW_sr (OW_mv rfl rfl (OW_mv rfl rfl (OW_mv rfl rfl (EN44 rfl ?_))))))
     refine OW_bin rfl rfl rfl rfl (add_w64 (by omega)) ?_
     refine OW_sl rfl rfl rfl rfl rfl (str_lo rfl rfl (by omega) (by omega)) ?_
     refine OW_as rfl rfl (EN44 rfl (OW_as rfl rfl (OW_as rfl rfl ?_)))
     refine EZ44 rfl ?_
     refine XW_ret (block_ret (then_ret (block_ret (then_ret ?_))))
     refine ret_ret (res3 rfl (rv_tmp rfl) (rv_tmp rfl) (rv_tmp rfl)) (frz3 (Q := Q) (by exact freeze_plain rfl) (by exact freeze_plain rfl) (by exact freeze_plain rfl) ?_)
     (rw [hI, hdr, contU_small hi9 (by omega) (by omega), if_neg (by omega), ← ext_tail] at hq; rw [show c.toNat % 128 = c.toNat by omega, show ((i : Int) + 1).toNat = i + 1 by omega]; exact hq)
    try simp only [bs] at g9_3
    refine OW_no rfl (OW_no rfl (EN44 rfl (OW_pick rfl rfl rfl ?_)))
    refine EZ44 rfl ?_
    refine XW_no rfl rfl ?_
    refine XW_skip (then_norm (XW_sr (OW_mv rfl rfl (OW_mv rfl rfl (OW_mv rfl rfl (EN44 rfl ?_))))))
    refine OW_bin rfl rfl rfl rfl (add_w64 (by omega)) ?_
    refine OW_sl rfl rfl rfl rfl rfl (str_lo rfl rfl (by omega) (by omega)) ?_
    refine OW_as rfl rfl (EN44 rfl (OW_as rfl rfl (OW_as rfl rfl ?_)))
    refine EZ44 rfl ?_
    refine XW_ret (block_ret (then_ret (block_ret (then_ret ?_))))
    refine ret_ret (res3 rfl (rv_tmp rfl) (rv_tmp rfl) (rv_tmp rfl)) (frz3 (Q := Q) (by exact freeze_plain rfl) (by exact freeze_plain rfl) (by exact freeze_plain rfl) ?_)
    (rw [hI, hdr, contU_small hi9 (by omega) (by omega), if_neg (by omega), ← ext_tail] at hq; rw [show c.toNat % 128 = c.toNat by omega, show ((i : Int) + 1).toNat = i + 1 by omega]; exact hq)
   try simp only [bs] at h8
   refine XW_skip (block_norm (then_norm (XW_region ?_)))
   refine OW_bin rfl rfl rfl rfl (add_w64 (by omega)) ?_
   refine OW_mv rfl rfl ?_
   refine EZ44 rfl ?_
   refine ⟨_, ?_, i + 1, _, rfl, under_in hU1, ?_, env_g rfl⟩
   · omega
   exact ⟨by omega, by omega, by have e : 2 ^ (7 * (i + 1)) = 128 * 2 ^ (7 * i) := (by rw [show 7 * (i + 1) = 7 + 7 * i by omega, Nat.pow_add]); have h2 : (c.toNat % 128 + 1) * 2 ^ (7 * i) ≤ 128 * 2 ^ (7 * i) := Nat.mul_le_mul_right _ (by omega); rw [Nat.add_mul, Nat.one_mul] at h2; omega, by rw [hI, hdr, contU_big (by omega) (by omega)]⟩
  try simp only [bs] at h3
  refine XW_exit (then_exit (block_exit (then_norm (XW_sr (OW_as rfl rfl (OW_as rfl rfl (OW_as rfl rfl ?_)))))))
  refine EZ44 rfl ?_
  refine XW_ret ?_
  refine ret_ret (res3 rfl (rv_tmp rfl) (rv_tmp rfl) (rv_tmp rfl)) (frz3 (Q := Q) (by exact freeze_plain rfl) (by exact freeze_plain rfl) (by exact freeze_plain rfl) ?_)
  (rw [hI, List.drop_eq_nil_of_le (show s.data.toList.length ≤ i by show s.size ≤ i; omega), contU_nil] at hq; exact hq)
theorem resU_some {s : ByteArray} {n : Nat} {r : List UInt8} (h : takeU 64 s.data.toList = some (n, r)) : resU s = ((n : Int), ba r, true) := by unfold resU; rw [h]
theorem resU_none {s : ByteArray} (h : takeU 64 s.data.toList = none) : resU s = noU := by unfold resU; rw [h]
theorem bytes_size (s : ByteArray) : s.data.toList.length = s.size := rfl
theorem rtake_found {s : ByteArray} {n : Nat} {r : List UInt8} (hs : s.size ≤ 4611686018427387904) (hn : n < 18446744073709551616) (e : s.data.toList = encU n ++ r) (hq : Q (.tup [.int .u64 (n : Int), .str (ba r), .bool true]) H) : CW cfg ν 43 [.str s] H Q := by
  have hn10 := encU_le10 hn
  have hsz : s.size = (encU n).length + r.length := by have := congrArg List.length e; rw [List.length_append] at this; exact this
  refine CW_pure g43 F43 rfl ?_
  refine XW_sr (OW_as rfl rfl (OW_as rfl rfl (OW_as rfl rfl ?_)))
  refine EZ45 rfl ?_
  refine XW_sr (OW_as rfl rfl ?_)
  refine EZ45 rfl ?_
  refine XW_sr (OW_as rfl rfl ?_)
  refine EZ45 rfl ?_
  refine XW_seq (XW_sr (OW_as rfl rfl ?_))
  refine EZ45 rfl ?_
  refine XW_block ?_
  refine XW_whileN (I := fun ν' mm ee H' => ∃ (i : Nat) (acc : Nat) (K : Nat) (v : Nat), mm = s.size - i ∧ under (1 :: 0 :: 1 :: 1 :: 1 :: ν) ν' = true ∧ (i + (encU v).length = (encU n).length ∧ s.data.toList.drop i = encU v ++ r ∧ K = 2 ^ (7 * i) ∧ acc < K ∧ acc + K * v = n) ∧ ∃ g : Nat → AVal, ee = [.str s, g 1, .int .u64 0, .str ⟨#[]⟩, .bool false, .int .u64 acc, .int .u64 K, .int .i64 i, g 8, g 9, g 10, g 11, g 12, g 13, g 14, g 15, g 16, g 17, g 18, g 19, g 20, g 21, g 22, g 23, g 24, g 25, g 26, g 27, g 28, g 29, g 30, g 31, g 32, g 33, g 34, g 35, g 36, g 37, g 38, g 39, g 40, g 41, g 42, g 43, g 44]) ?_ _ _ _ _ ⟨0, 0, 1, n, rfl, under_me, (⟨by omega, e, rfl, by decide, by omega⟩), env_g rfl⟩
  rintro ν1 mm ee H1 ⟨i, acc, K, v, rfl, hU1, ⟨hil, hdr, hK, ha, hv⟩, g1, rfl⟩
  have hvp := encU_pos v
  have hpow : K ≤ 9223372036854775808 := by (rw [hK]; exact Nat.le_trans (Nat.pow_le_pow_right (by decide) (show 7 * i ≤ 63 by omega)) (by decide))
  have hdr2 := str_drop (s := s) (i := i) (by omega)
  refine XW_seq (XW_sr (OW_mv rfl rfl (OW_mv rfl rfl ?_)))
  refine OW_lenS rfl rfl rfl ?_
  refine EN45 rfl ?_
  refine OW_bin rfl rfl rfl rfl rfl ?_
  refine OW_mv rfl rfl ?_
  refine OW_split (tt := 13) rfl (fun g4_5 => ?_) (fun g4_5 => ?_)
  ·try simp only [bs] at g4_5
   refine EN45 rfl (OW_mv rfl rfl ?_)
   refine OW_bin rfl rfl rfl rfl rfl ?_
   refine OW_pick rfl rfl rfl ?_
   refine EZ45 rfl ?_
   refine XW_if rfl (fun h4 => ?_) (fun h4 => ?_)
   ·try simp only [bs] at h4
    refine XW_skip (then_norm (XW_seq (XW_block (XW_sr (OW_mv rfl rfl (OW_mv rfl rfl ?_))))))
    refine OW_ix rfl rfl rfl (str_ix rfl rfl (by omega) (by omega)) ?_
    refine EN45 rfl ?_
    rw [Int.toNat_natCast]
    generalize s.data.toList.getD i 0 = c at hdr2 ⊢
    have hcl := c.toNat_lt
    rw [hdr2] at hdr
    have hcv : c.toNat % 128 = v % 128 ∧ (c.toNat < 128 ↔ v < 128) ∧ (v < 128 → s.data.toList.drop (i + 1) = r ∧ (encU v).length = 1) ∧ (¬ v < 128 → s.data.toList.drop (i + 1) = encU (v / 128) ++ r ∧ (encU v).length = (encU (v / 128)).length + 1) := enc_head hdr
    refine OW_conv rfl rfl (conv_in rfl rfl rfl (IntWalk.u64_in _ (by omega))) ?_
    refine OW_as rfl rfl ?_
    refine EZ45 rfl ?_
    refine XW_sr (OW_mv rfl rfl (OW_mv rfl rfl (OW_mv rfl rfl (EN45 rfl ?_))))
    refine OW_bin rfl rfl rfl rfl (rem_inu64 (by omega)) ?_
    have hmul : 0 ≤ (K : Int) * ((c.toNat % 128 : Nat) : Int) ∧ (K : Int) * ((c.toNat % 128 : Nat) : Int) ≤ 18446744073709551615 := mul_cast (m := 18446744073709551615) (by have : K * (v % 128) ≤ K * v := Nat.mul_le_mul_left _ (Nat.mod_le _ _); rw [hcv.1]; omega)
    rw [show ((c.toNat : Int) % 128) = ((c.toNat % 128 : Nat) : Int) from rfl]
    refine OW_bin rfl rfl rfl rfl (mul_wu64 (by omega)) ?_
    obtain ⟨X, hX⟩ : ∃ X, X = K * (v % 128) := ⟨_, rfl⟩
    rw [hcv.1, ← Int.natCast_mul, ← hX]
    have hkv : K * v = X + K * 128 * (v / 128) := by rw [hX, Nat.mul_assoc, ← Nat.mul_add]; congr 1; omega
    have hXn : acc + X ≤ n := by omega
    refine OW_bin rfl rfl rfl rfl (add_wu64 (by omega)) ?_
    refine EN45 rfl (OW_as rfl rfl ?_)
    refine EZ45 rfl ?_
    refine XW_sr (OW_mv rfl rfl ?_)
    refine OW_bin rfl rfl rfl rfl rfl ?_
    refine OW_as rfl rfl ?_
    refine EZ45 rfl ?_
    refine XW_sr (OW_mv rfl rfl ?_)
    refine OW_bin rfl rfl rfl rfl rfl ?_
    refine EZ45 rfl ?_
    refine XW_if rfl (fun h9 => ?_) (fun h9 => ?_)
    ·try simp only [bs] at h9
     have hXe : acc + X = n := by rw [hX, Nat.mod_eq_of_lt (by omega)]; exact hv
     refine XW_seq (XW_sr (OW_mv rfl rfl ?_))
     rw [show ((acc : Int) + (X : Int)) = (n : Int) by omega]
     refine OW_fn rfl rfl (rputU hn ?_) 
     refine OW_mv rfl rfl (EN45 rfl (OW_mv rfl rfl ?_))
     refine OW_bin rfl rfl rfl rfl (add_w64 (by omega)) ?_
     refine OW_sl rfl rfl rfl rfl rfl (str_hi rfl rfl (by omega) (by omega)) ?_
     refine EN45 rfl ?_
     refine OW_bin rfl rfl rfl rfl rfl ?_
     refine EZ45 rfl ?_
     refine XW_if rfl (fun h10 => ?_) (fun h10 => ?_)
     · exfalso; (try simp only [bs] at h10) <;> (exact h10 (by obtain ⟨_, k2⟩ := hcv.2.2.1 (by omega); rw [show ((i : Int) + 1).toNat = (encU n).length by omega, ext_head, e, List.take_left]))
     try simp only [bs] at h10
     refine XW_skip (then_norm (XW_sr (OW_mv rfl rfl (OW_mv rfl rfl (OW_mv rfl rfl (EN45 rfl ?_))))))
     refine OW_bin rfl rfl rfl rfl (add_w64 (by omega)) ?_
     refine OW_sl rfl rfl rfl rfl rfl (str_lo rfl rfl (by omega) (by omega)) ?_
     refine OW_as rfl rfl (EN45 rfl (OW_as rfl rfl (OW_as rfl rfl ?_)))
     refine EZ45 rfl ?_
     refine XW_ret (block_ret (then_ret (block_ret (then_ret ?_))))
     refine ret_ret (res3 rfl (rv_tmp rfl) (rv_tmp rfl) (rv_tmp rfl)) (frz3 (Q := Q) (by exact freeze_plain rfl) (by exact freeze_plain rfl) (by exact freeze_plain rfl) ?_)
     obtain ⟨hdr3, _⟩ := hcv.2.2.1 (by omega); rw [show ((i : Int) + 1).toNat = i + 1 by omega, ext_tail, hdr3]; exact hq
    try simp only [bs] at h9
    have hKn : K * 128 ≤ n := by have : K * 128 * 1 ≤ K * 128 * (v / 128) := Nat.mul_le_mul_left _ (by omega); omega
    rw [wu64 (n := (K : Int) * 128) (by omega)]
    refine XW_skip (block_norm (then_norm (XW_region (OW_mv rfl rfl ?_))))
    refine OW_bin rfl rfl rfl rfl (add_w64 (by omega)) ?_
    refine OW_as rfl rfl ?_
    refine EZ45 rfl ?_
    obtain ⟨hdr3, hlen3⟩ := hcv.2.2.2 (by omega)
    refine ⟨_, ?_, i + 1, acc + X, K * 128, v / 128, rfl, under_in hU1, ?_, env_g rfl⟩
    · omega
    exact ⟨by omega, hdr3, by rw [hK, show 7 * (i + 1) = 7 * i + 7 by omega, Nat.pow_add], by have : X ≤ K * 127 := (by rw [hX]; exact Nat.mul_le_mul_left _ (by omega)); omega, by omega⟩
   exfalso; (try simp only [bs] at h4) <;> (omega)
  exfalso; (try simp only [bs] at g4_5) <;> (omega)
theorem wrapu_range (n : Int) : 0 ≤ IntKind.u64.wrap n ∧ IntKind.u64.wrap n ≤ 18446744073709551615 := by rw [IntKind.wrap_u64]; omega
theorem rtake_none {s : ByteArray} (hs : s.size ≤ 4611686018427387904) (h : takeU 64 s.data.toList = none) (hq : Q (.tup [.int .u64 0, .str ⟨#[]⟩, .bool false]) H) : CW cfg ν 43 [.str s] H Q := by
  refine CW_pure g43 F43 rfl ?_
  refine XW_sr (OW_as rfl rfl (OW_as rfl rfl (OW_as rfl rfl ?_)))
  refine EZ45 rfl ?_
  refine XW_sr (OW_as rfl rfl ?_)
  refine EZ45 rfl ?_
  refine XW_sr (OW_as rfl rfl ?_)
  refine EZ45 rfl ?_
  refine XW_seq (XW_sr (OW_as rfl rfl ?_))
  refine EZ45 rfl ?_
  refine XW_block ?_
  refine XW_whileN (I := fun ν' mm ee H' => ∃ (i : Nat) (acc : Int) (K : Int), mm = s.size - i ∧ under (1 :: 0 :: 1 :: 1 :: 1 :: ν) ν' = true ∧ (i ≤ s.size ∧ 0 ≤ acc ∧ acc ≤ 18446744073709551615) ∧ ∃ g : Nat → AVal, ee = [.str s, g 1, .int .u64 0, .str ⟨#[]⟩, .bool false, .int .u64 acc, .int .u64 K, .int .i64 i, g 8, g 9, g 10, g 11, g 12, g 13, g 14, g 15, g 16, g 17, g 18, g 19, g 20, g 21, g 22, g 23, g 24, g 25, g 26, g 27, g 28, g 29, g 30, g 31, g 32, g 33, g 34, g 35, g 36, g 37, g 38, g 39, g 40, g 41, g 42, g 43, g 44]) ?_ _ _ _ _ ⟨0, 0, 1, rfl, under_me, (⟨by omega, by decide, by decide⟩), env_g rfl⟩
  rintro ν1 mm ee H1 ⟨i, acc, K, rfl, hU1, ⟨hil, ha1, ha2⟩, g1, rfl⟩
  refine XW_seq (XW_sr (OW_mv rfl rfl (OW_mv rfl rfl ?_)))
  refine OW_lenS rfl rfl rfl ?_
  refine EN45 rfl ?_
  refine OW_bin rfl rfl rfl rfl rfl ?_
  refine OW_mv rfl rfl ?_
  refine OW_split (tt := 13) rfl (fun g4_5 => ?_) (fun g4_5 => ?_)
  ·try simp only [bs] at g4_5
   refine EN45 rfl (OW_mv rfl rfl ?_)
   refine OW_bin rfl rfl rfl rfl rfl ?_
   refine OW_pick rfl rfl rfl ?_
   refine EZ45 rfl ?_
   refine XW_if rfl (fun h4 => ?_) (fun h4 => ?_)
   ·try simp only [bs] at h4
    refine XW_skip (then_norm (XW_seq (XW_block (XW_sr (OW_mv rfl rfl (OW_mv rfl rfl ?_))))))
    refine OW_ix rfl rfl rfl (str_ix rfl rfl (by omega) (by omega)) ?_
    refine EN45 rfl ?_
    refine OW_conv rfl rfl rfl ?_
    refine OW_as rfl rfl ?_
    refine EZ45 rfl ?_
    refine XW_sr (OW_mv rfl rfl (OW_mv rfl rfl (OW_mv rfl rfl (EN45 rfl ?_))))
    refine OW_bin rfl rfl rfl rfl (rem_in (by omega)) ?_
    refine OW_bin rfl rfl rfl rfl rfl ?_
    refine OW_bin rfl rfl rfl rfl rfl ?_
    refine EN45 rfl ?_
    generalize hN : IntKind.u64.wrap (acc + IntKind.u64.wrap (K * _)) = N
    have hN0 : 0 ≤ N ∧ N ≤ 18446744073709551615 := by rw [← hN]; exact wrapu_range _
    refine OW_as rfl rfl ?_
    refine EZ45 rfl ?_
    refine XW_sr (OW_mv rfl rfl ?_)
    skip
    refine OW_bin rfl rfl rfl rfl rfl ?_
    refine OW_as rfl rfl ?_
    refine EZ45 rfl ?_
    refine XW_sr (OW_mv rfl rfl ?_)
    refine OW_bin rfl rfl rfl rfl rfl ?_
    refine EZ45 rfl ?_
    refine XW_if rfl (fun h9 => ?_) (fun h9 => ?_)
    ·try simp only [bs] at h9
     refine XW_seq (XW_sr (OW_mv rfl rfl ?_))
     rw [show (N : Int) = ((N.toNat : Nat) : Int) by omega]
     refine OW_fn rfl rfl (rputU (show N.toNat < 18446744073709551616 by omega) ?_) 
     refine OW_mv rfl rfl (EN45 rfl (OW_mv rfl rfl ?_))
     refine OW_bin rfl rfl rfl rfl (add_w64 (by omega)) ?_
     refine OW_sl rfl rfl rfl rfl rfl (str_hi rfl rfl (by omega) (by omega)) ?_
     refine EN45 rfl ?_
     refine OW_bin rfl rfl rfl rfl rfl ?_
     refine EZ45 rfl ?_
     refine XW_if rfl (fun h10 => ?_) (fun h10 => ?_)
     ·try simp only [bs] at h10
      refine XW_exit (then_exit (block_exit_ne rfl (then_exit (block_exit (then_norm (XW_sr (OW_as rfl rfl (OW_as rfl rfl (OW_as rfl rfl ?_)))))))))
      refine EZ45 rfl ?_
      refine XW_ret ?_
      refine ret_ret (res3 rfl (rv_tmp rfl) (rv_tmp rfl) (rv_tmp rfl)) (frz3 (Q := Q) (by exact freeze_plain rfl) (by exact freeze_plain rfl) (by exact freeze_plain rfl) ?_)
      exact hq
     exfalso; (try simp only [bs] at h10) <;> (have h10 := h10; rw [show ((i : Int) + 1).toNat = i + 1 by omega, ext_head, ba_inj] at h10; have := takeU_enc N.toNat 64 (s.data.toList.drop (i + 1)) (by show N.toNat < 18446744073709551616; omega); rw [h10, List.take_append_drop, h] at this; cases this)
    try simp only [bs] at h9
    refine XW_skip (block_norm (then_norm (XW_region (OW_mv rfl rfl ?_))))
    refine OW_bin rfl rfl rfl rfl (add_w64 (by omega)) ?_
    refine OW_as rfl rfl ?_
    refine EZ45 rfl ?_
    refine ⟨_, ?_, i + 1, _, _, rfl, under_in hU1, ?_, env_g rfl⟩
    · omega
    exact ⟨by omega, hN0.1, hN0.2⟩
   try simp only [bs] at h4
   refine XW_exit (then_exit (block_exit (then_norm (XW_sr (OW_as rfl rfl (OW_as rfl rfl (OW_as rfl rfl ?_)))))))
   refine EZ45 rfl ?_
   refine XW_ret ?_
   refine ret_ret (res3 rfl (rv_tmp rfl) (rv_tmp rfl) (rv_tmp rfl)) (frz3 (Q := Q) (by exact freeze_plain rfl) (by exact freeze_plain rfl) (by exact freeze_plain rfl) ?_)
   exact hq
  try simp only [bs] at g4_5
  refine EN45 rfl (OW_no rfl (OW_no rfl (OW_pick rfl rfl rfl ?_)))
  refine EZ45 rfl ?_
  refine XW_no rfl rfl ?_
  refine XW_exit (then_exit (block_exit (then_norm (XW_sr (OW_as rfl rfl (OW_as rfl rfl (OW_as rfl rfl ?_)))))))
  refine EZ45 rfl ?_
  refine XW_ret ?_
  refine ret_ret (res3 rfl (rv_tmp rfl) (rv_tmp rfl) (rv_tmp rfl)) (frz3 (Q := Q) (by exact freeze_plain rfl) (by exact freeze_plain rfl) (by exact freeze_plain rfl) ?_)
  exact hq
theorem rtakeU {s : ByteArray} (hs : s.size ≤ 4611686018427387904) (hq : Q (tupU (resU s)) H) : CW cfg ν 43 [.str s] H Q := by
  cases h : takeU 64 s.data.toList with
  | none => rw [resU_none h] at hq; exact rtake_none hs h hq
  | some p =>
    obtain ⟨n, r⟩ := p
    rw [resU_some h] at hq
    obtain ⟨e, hn⟩ := (takeU_iff _ _ _).1 h
    exact rtake_found hs hn e hq
end Go.Proofs.YtfkgdlfponfimaaGreat.X

/- Texts as bytes. -/
set_option linter.unusedVariables false
set_option linter.unusedSimpArgs false
set_option maxRecDepth 100000
namespace Go.Proofs.YtfkgdlfponfimaaGreat.X
open Go Go.RowKit WM
variable {ν β ps pos' : Nm} {H : Heap} {Q : AVal → Heap → Prop} {L : List Asr}
def encS (s : ByteArray) : ByteArray := ba (encT s.data.toList)
theorem encS_eq (s : ByteArray) : ba (encU s.size) ++ s = encS s := by
  unfold encS encT
  rw [← ba_append, ba_of]; rfl
theorem encS_size {s : ByteArray} (hs : s.size ≤ 4611686018427387904) : (encS s).size ≤ s.size + 10 := by
  have h := encU_le10 (n := s.size) (by omega)
  unfold encS encT
  rw [ba_size, List.length_append, bytes_size]; omega
theorem putTx {s : ByteArray} (hs : s.size ≤ 4611686018427387904) (hq : Q (.str (encS s)) H) : CW cfg ν 41 [.str s] H Q := by
  have h := encU_le10 (n := s.size) (by omega)
  have hb : (ba (encU s.size)).size + s.size ≤ 9223372036854775807 := by rw [ba_size]; omega
  refine CW_pure g41 F41 rfl ?_
  refine XW_sr (OW_as rfl rfl ?_)
  refine OW_nilE (e' := [_,_,_,_,_,_,_,_,_]) rfl ?_
  refine XW_sr (OW_mv rfl rfl ?_)
  refine OW_lenS rfl rfl rfl ?_
  refine OW_conv rfl rfl (conv_in rfl rfl rfl (IntWalk.u64_in _ (by omega))) ?_
  refine OW_env (e' := [_,_,_,_,_,_,_,_,_]) rfl ?_
  refine OW_fn rfl rfl (putU (n := s.size) (by omega) ?_) 
  refine OW_mv rfl rfl ?_
  refine OW_bin rfl rfl rfl rfl (cat (by omega)) ?_
  refine OW_env (e' := [_,_,_,_,_,_,_,_,_]) rfl ?_
  refine OW_as rfl rfl ?_
  refine OW_nilE (e' := [_,_,_,_,_,_,_,_,_]) rfl ?_
  refine XW_ret ?_
  refine ret_ret (res1 rfl (rv_tmp rfl)) (frz1 (Q := Q) (by exact freeze_plain rfl) ?_)
  rw [encS_eq]; exact hq
theorem rputTx {s : ByteArray} (hs : s.size ≤ 4611686018427387904) (hq : Q (.str (encS s)) H) : CW cfg ν 47 [.str s] H Q := by
  have h := encU_le10 (n := s.size) (by omega)
  have hb : (ba (encU s.size)).size + s.size ≤ 9223372036854775807 := by rw [ba_size]; omega
  refine CW_pure g47 F47 rfl ?_
  refine XW_sr (OW_as rfl rfl ?_)
  refine OW_nilE (e' := [_,_,_,_,_,_,_,_,_]) rfl ?_
  refine XW_sr (OW_mv rfl rfl ?_)
  refine OW_lenS rfl rfl rfl ?_
  refine OW_conv rfl rfl (conv_in rfl rfl rfl (IntWalk.u64_in _ (by omega))) ?_
  refine OW_env (e' := [_,_,_,_,_,_,_,_,_]) rfl ?_
  refine OW_fn rfl rfl (rputU (n := s.size) (by omega) ?_) 
  refine OW_mv rfl rfl ?_
  refine OW_bin rfl rfl rfl rfl (cat (by omega)) ?_
  refine OW_env (e' := [_,_,_,_,_,_,_,_,_]) rfl ?_
  refine OW_as rfl rfl ?_
  refine OW_nilE (e' := [_,_,_,_,_,_,_,_,_]) rfl ?_
  refine XW_ret ?_
  refine ret_ret (res1 rfl (rv_tmp rfl)) (frz1 (Q := Q) (by exact freeze_plain rfl) ?_)
  rw [encS_eq]; exact hq
theorem takeU_e {s b : ByteArray} {a : Int} {d : Bool} (hs : s.size ≤ 4611686018427387904) (he : resU s = (a, b, d)) (hq : Q (.tup [.int .u64 a, .str b, .bool d]) H) : CW cfg ν 95 [.str s] H Q := takeU_c hs (by rw [he]; exact hq)
theorem rtakeU_e {s b : ByteArray} {a : Int} {d : Bool} (hs : s.size ≤ 4611686018427387904) (he : resU s = (a, b, d)) (hq : Q (.tup [.int .u64 a, .str b, .bool d]) H) : CW cfg ν 43 [.str s] H Q := rtakeU hs (by rw [he]; exact hq)
def resT (most : Int) (s : ByteArray) : ByteArray × ByteArray × Bool := match WM.takeT most s.data.toList with
  | some (t, r) => (ba t, ba r, true)
  | none => (⟨#[]⟩, ⟨#[]⟩, false)
theorem resU_cases (s : ByteArray) : (takeU 64 s.data.toList = none ∧ resU s = (0, ⟨#[]⟩, false)) ∨ ∃ n r, takeU 64 s.data.toList = some (n, r) ∧ resU s = ((n : Int), ba r, true) ∧ n < 18446744073709551616 ∧ r.length < s.size := by
  cases h : takeU 64 s.data.toList with
  | none => exact .inl ⟨rfl, resU_none h⟩
  | some p => obtain ⟨n, r⟩ := p; exact .inr ⟨n, r, rfl, resU_some h, ((takeU_iff _ _ _).1 h).2, takeU_short h⟩
theorem takeT_c {s : ByteArray} {most : Int} (hs : s.size ≤ 4611686018427387904) (hm : most ≤ 9223372036854775807) (hq : Q (.tup [.str (resT most s).1, .str (resT most s).2.1, .bool (resT most s).2.2]) H) : CW cfg ν 61 [.str s, .int .i64 most] H Q := by
  rcases resU_cases s with ⟨h1, h2⟩ | ⟨n, r, h1, h2, hn, hr⟩
  · rw [resT, WM.takeT, h1] at hq
    refine CW_pure g61 F61 rfl ?_
    refine XW_sr (OW_as rfl rfl (OW_as rfl rfl (OW_as rfl rfl ?_)))
    refine EZ41 rfl ?_
    refine XW_sr (OW_mv rfl rfl ?_)
    refine OW_fn rfl rfl (takeU_e hs h2 ?_) 
    refine OW_mv rfl rfl (EN41 rfl (OW_ex rfl rfl rfl (OW_ex rfl rfl rfl (OW_ex rfl rfl rfl (EN41 rfl (OW_as rfl rfl (OW_as rfl rfl (OW_as rfl rfl ?_))))))))
    refine EZ41 rfl ?_
    refine XW_seq (XW_sr (OW_mv rfl rfl (OW_un rfl rfl rfl (OW_mv rfl rfl (EN41 rfl ?_)))))
    refine OW_split (tt := 18) rfl (fun g2_3 => ?_) (fun g2_3 => ?_)
    ·first
     |skip
      try simp only [bs] at g2_3
      refine OW_no rfl (OW_no rfl (EN41 rfl (OW_pick rfl rfl rfl (OW_mv rfl rfl (OW_no rfl (EN41 rfl (OW_no rfl (OW_no rfl (OW_no rfl ?_)))))))))
      refine EN41 rfl (OW_pick rfl rfl rfl (OW_mv rfl rfl (OW_no rfl (EN41 rfl (OW_no rfl (OW_no rfl (OW_no rfl (EN41 rfl (OW_no rfl ?_)))))))))
      refine OW_pick rfl rfl rfl ?_
      refine EZ41 rfl ?_
      refine XW_yes rfl rfl ?_
      refine XW_sr (OW_as rfl rfl (OW_as rfl rfl (OW_as rfl rfl ?_)))
      refine EZ41 rfl ?_
      refine XW_ret (then_ret ?_)
      refine ret_ret (res3 rfl (rv_tmp rfl) (rv_tmp rfl) (rv_tmp rfl)) (frz3 (Q := Q) (by exact freeze_plain rfl) (by exact freeze_plain rfl) (by exact freeze_plain rfl) ?_)
      exact hq
    (exfalso; (try simp only [bs] at g2_3) <;> ((simp at g2_3; done)); done)
  have hbr : (ba r).size = r.length := ba_size r
  rw [resT, WM.takeT, h1] at hq
  simp only at hq
  refine CW_pure g61 F61 rfl ?_
  refine XW_sr (OW_as rfl rfl (OW_as rfl rfl (OW_as rfl rfl ?_)))
  refine EZ41 rfl ?_
  refine XW_sr (OW_mv rfl rfl ?_)
  refine OW_fn rfl rfl (takeU_e hs h2 ?_) 
  refine OW_mv rfl rfl (EN41 rfl (OW_ex rfl rfl rfl (OW_ex rfl rfl rfl (OW_ex rfl rfl rfl (EN41 rfl (OW_as rfl rfl (OW_as rfl rfl (OW_as rfl rfl ?_))))))))
  refine EZ41 rfl ?_
  refine XW_seq (XW_sr (OW_mv rfl rfl (OW_un rfl rfl rfl (OW_mv rfl rfl (EN41 rfl ?_)))))
  refine OW_split (tt := 18) rfl (fun g2_3 => ?_) (fun g2_3 => ?_)
  ·(exfalso; (try simp only [bs] at g2_3) <;> ((simp at g2_3; done)); done)
  first
  |skip
   try simp only [bs] at g2_3
   refine OW_mv rfl rfl ?_
   refine OW_bin rfl rfl rfl rfl rfl ?_
   refine EN41 rfl (OW_pick rfl rfl rfl (OW_mv rfl rfl ?_))
   refine OW_split (tt := 22) rfl (fun g2_7 => ?_) (fun g2_7 => ?_)
   ·first
    |skip
     try simp only [bs] at g2_7
     refine EN41 rfl (OW_no rfl (OW_no rfl (OW_no rfl (EN41 rfl (OW_no rfl (OW_pick rfl rfl rfl (OW_mv rfl rfl (EN41 rfl (OW_no rfl ?_)))))))))
     refine OW_no rfl (OW_no rfl (EN41 rfl (OW_no rfl (OW_no rfl (OW_pick rfl rfl rfl ?_)))))
     refine EZ41 rfl ?_
     refine XW_yes rfl rfl ?_
     refine XW_sr (OW_as rfl rfl (OW_as rfl rfl (OW_as rfl rfl ?_)))
     refine EZ41 rfl ?_
     refine XW_ret (then_ret ?_)
     refine ret_ret (res3 rfl (rv_tmp rfl) (rv_tmp rfl) (rv_tmp rfl)) (frz3 (Q := Q) (by exact freeze_plain rfl) (by exact freeze_plain rfl) (by exact freeze_plain rfl) ?_)
     (rw [if_neg (by omega)] at hq; exact hq)
   first
   |skip
    try simp only [bs] at g2_7
    refine EN41 rfl (OW_mv rfl rfl (OW_mv rfl rfl ?_))
    refine OW_conv rfl rfl (conv_in rfl rfl rfl (IntWalk.u64_in _ (by omega))) ?_
    refine EN41 rfl ?_
    refine OW_bin rfl rfl rfl rfl rfl ?_
    refine OW_pick rfl rfl rfl (OW_mv rfl rfl (EN41 rfl ?_))
    refine OW_split (tt := 28) rfl (fun g2_13 => ?_) (fun g2_13 => ?_)
    ·first
     |skip
      try simp only [bs] at g2_13
      refine OW_no rfl (OW_no rfl (EN41 rfl (OW_no rfl (OW_no rfl (OW_no rfl (EN41 rfl (OW_pick rfl rfl rfl ?_)))))))
      refine EZ41 rfl ?_
      refine XW_yes rfl rfl ?_
      refine XW_sr (OW_as rfl rfl (OW_as rfl rfl (OW_as rfl rfl ?_)))
      refine EZ41 rfl ?_
      refine XW_ret (then_ret ?_)
      refine ret_ret (res3 rfl (rv_tmp rfl) (rv_tmp rfl) (rv_tmp rfl)) (frz3 (Q := Q) (by exact freeze_plain rfl) (by exact freeze_plain rfl) (by exact freeze_plain rfl) ?_)
      (rw [if_neg (by omega)] at hq; exact hq)
    first
    |skip
     try simp only [bs] at g2_13
     refine OW_mv rfl rfl (OW_mv rfl rfl (EN41 rfl ?_))
     refine OW_lenS rfl rfl rfl ?_
     refine OW_conv rfl rfl (conv_in rfl rfl rfl (IntWalk.u64_in _ (by omega))) ?_
     refine OW_bin rfl rfl rfl rfl rfl ?_
     refine EN41 rfl (OW_pick rfl rfl rfl ?_)
     refine EZ41 rfl ?_
     refine XW_if rfl (fun h2 => ?_) (fun h2 => ?_)
     ·first
      |skip
       try simp only [bs] at h2
       refine XW_sr (OW_as rfl rfl (OW_as rfl rfl (OW_as rfl rfl ?_)))
       refine EZ41 rfl ?_
       refine XW_ret (then_ret ?_)
       refine ret_ret (res3 rfl (rv_tmp rfl) (rv_tmp rfl) (rv_tmp rfl)) (frz3 (Q := Q) (by exact freeze_plain rfl) (by exact freeze_plain rfl) (by exact freeze_plain rfl) ?_)
       (rw [if_neg (by omega)] at hq; exact hq)
     first
     |skip
      try simp only [bs] at h2
      refine XW_skip (then_norm (XW_sr (OW_mv rfl rfl (OW_mv rfl rfl ?_))))
      refine OW_sl rfl rfl rfl rfl rfl (str_hi rfl rfl (by omega) (by omega)) ?_
      refine EN41 rfl (OW_mv rfl rfl (OW_mv rfl rfl ?_))
      refine OW_sl rfl rfl rfl rfl rfl (str_lo rfl rfl (by omega) (by omega)) ?_
      refine EN41 rfl (OW_as rfl rfl (OW_as rfl rfl (OW_as rfl rfl ?_)))
      refine EZ41 rfl ?_
      refine XW_ret ?_
      refine ret_ret (res3 rfl (rv_tmp rfl) (rv_tmp rfl) (rv_tmp rfl)) (frz3 (Q := Q) (by exact freeze_plain rfl) (by exact freeze_plain rfl) (by exact freeze_plain rfl) ?_)
      (rw [if_pos ⟨by omega, by omega, by omega⟩] at hq; rw [Int.toNat_natCast, ba_take, ba_drop]; exact hq)
theorem rtakeT_c {s : ByteArray} {most : Int} (hs : s.size ≤ 4611686018427387904) (hm : most ≤ 9223372036854775807) (hq : Q (.tup [.str (resT most s).1, .str (resT most s).2.1, .bool (resT most s).2.2]) H) : CW cfg ν 44 [.str s, .int .i64 most] H Q := by
  rcases resU_cases s with ⟨h1, h2⟩ | ⟨n, r, h1, h2, hn, hr⟩
  · rw [resT, WM.takeT, h1] at hq
    refine CW_pure g44 F44 rfl ?_
    refine XW_sr (OW_as rfl rfl (OW_as rfl rfl (OW_as rfl rfl ?_)))
    refine EZ43 rfl ?_
    refine XW_sr (OW_mv rfl rfl ?_)
    refine OW_fn rfl rfl (rtakeU_e hs h2 ?_) 
    refine OW_mv rfl rfl (EN43 rfl (OW_ex rfl rfl rfl (OW_ex rfl rfl rfl (OW_ex rfl rfl rfl (EN43 rfl (OW_as rfl rfl (OW_as rfl rfl (OW_as rfl rfl ?_))))))))
    refine EZ43 rfl ?_
    refine XW_seq (XW_sr (OW_mv rfl rfl (OW_un rfl rfl rfl (OW_mv rfl rfl (EN43 rfl ?_)))))
    refine OW_split (tt := 18) rfl (fun g2_3 => ?_) (fun g2_3 => ?_)
    ·first
     |skip
      try simp only [bs] at g2_3
      refine OW_no rfl (OW_no rfl (EN43 rfl (OW_pick rfl rfl rfl (OW_mv rfl rfl (OW_no rfl (EN43 rfl (OW_no rfl (OW_no rfl (OW_no rfl ?_)))))))))
      refine EN43 rfl (OW_pick rfl rfl rfl (OW_mv rfl rfl (OW_no rfl (EN43 rfl (OW_no rfl (OW_no rfl (OW_no rfl (EN43 rfl (OW_no rfl ?_)))))))))
      refine OW_pick rfl rfl rfl ?_
      refine EZ43 rfl ?_
      refine XW_yes rfl rfl ?_
      refine XW_sr (OW_as rfl rfl (OW_as rfl rfl (OW_as rfl rfl ?_)))
      refine EZ43 rfl ?_
      refine XW_ret (then_ret ?_)
      refine ret_ret (res3 rfl (rv_tmp rfl) (rv_tmp rfl) (rv_tmp rfl)) (frz3 (Q := Q) (by exact freeze_plain rfl) (by exact freeze_plain rfl) (by exact freeze_plain rfl) ?_)
      exact hq
    (exfalso; (try simp only [bs] at g2_3) <;> ((simp at g2_3; done)); done)
  have hbr : (ba r).size = r.length := ba_size r
  rw [resT, WM.takeT, h1] at hq
  simp only at hq
  refine CW_pure g44 F44 rfl ?_
  refine XW_sr (OW_as rfl rfl (OW_as rfl rfl (OW_as rfl rfl ?_)))
  refine EZ43 rfl ?_
  refine XW_sr (OW_mv rfl rfl ?_)
  refine OW_fn rfl rfl (rtakeU_e hs h2 ?_) 
  refine OW_mv rfl rfl (EN43 rfl (OW_ex rfl rfl rfl (OW_ex rfl rfl rfl (OW_ex rfl rfl rfl (EN43 rfl (OW_as rfl rfl (OW_as rfl rfl (OW_as rfl rfl ?_))))))))
  refine EZ43 rfl ?_
  refine XW_seq (XW_sr (OW_mv rfl rfl (OW_un rfl rfl rfl (OW_mv rfl rfl (EN43 rfl ?_)))))
  refine OW_split (tt := 18) rfl (fun g2_3 => ?_) (fun g2_3 => ?_)
  ·(exfalso; (try simp only [bs] at g2_3) <;> ((simp at g2_3; done)); done)
  first
  |skip
   try simp only [bs] at g2_3
   refine OW_mv rfl rfl ?_
   refine OW_bin rfl rfl rfl rfl rfl ?_
   refine EN43 rfl (OW_pick rfl rfl rfl (OW_mv rfl rfl ?_))
   refine OW_split (tt := 22) rfl (fun g2_7 => ?_) (fun g2_7 => ?_)
   ·first
    |skip
     try simp only [bs] at g2_7
     refine EN43 rfl (OW_no rfl (OW_no rfl (OW_no rfl (EN43 rfl (OW_no rfl (OW_pick rfl rfl rfl (OW_mv rfl rfl (EN43 rfl (OW_no rfl ?_)))))))))
     refine OW_no rfl (OW_no rfl (EN43 rfl (OW_no rfl (OW_no rfl (OW_pick rfl rfl rfl ?_)))))
     refine EZ43 rfl ?_
     refine XW_yes rfl rfl ?_
     refine XW_sr (OW_as rfl rfl (OW_as rfl rfl (OW_as rfl rfl ?_)))
     refine EZ43 rfl ?_
     refine XW_ret (then_ret ?_)
     refine ret_ret (res3 rfl (rv_tmp rfl) (rv_tmp rfl) (rv_tmp rfl)) (frz3 (Q := Q) (by exact freeze_plain rfl) (by exact freeze_plain rfl) (by exact freeze_plain rfl) ?_)
     (rw [if_neg (by omega)] at hq; exact hq)
   first
   |skip
    try simp only [bs] at g2_7
    refine EN43 rfl (OW_mv rfl rfl (OW_mv rfl rfl ?_))
    refine OW_conv rfl rfl (conv_in rfl rfl rfl (IntWalk.u64_in _ (by omega))) ?_
    refine EN43 rfl ?_
    refine OW_bin rfl rfl rfl rfl rfl ?_
    refine OW_pick rfl rfl rfl (OW_mv rfl rfl (EN43 rfl ?_))
    refine OW_split (tt := 28) rfl (fun g2_13 => ?_) (fun g2_13 => ?_)
    ·first
     |skip
      try simp only [bs] at g2_13
      refine OW_no rfl (OW_no rfl (EN43 rfl (OW_no rfl (OW_no rfl (OW_no rfl (EN43 rfl (OW_pick rfl rfl rfl ?_)))))))
      refine EZ43 rfl ?_
      refine XW_yes rfl rfl ?_
      refine XW_sr (OW_as rfl rfl (OW_as rfl rfl (OW_as rfl rfl ?_)))
      refine EZ43 rfl ?_
      refine XW_ret (then_ret ?_)
      refine ret_ret (res3 rfl (rv_tmp rfl) (rv_tmp rfl) (rv_tmp rfl)) (frz3 (Q := Q) (by exact freeze_plain rfl) (by exact freeze_plain rfl) (by exact freeze_plain rfl) ?_)
      (rw [if_neg (by omega)] at hq; exact hq)
    first
    |skip
     try simp only [bs] at g2_13
     refine OW_mv rfl rfl (OW_mv rfl rfl (EN43 rfl ?_))
     refine OW_lenS rfl rfl rfl ?_
     refine OW_conv rfl rfl (conv_in rfl rfl rfl (IntWalk.u64_in _ (by omega))) ?_
     refine OW_bin rfl rfl rfl rfl rfl ?_
     refine EN43 rfl (OW_pick rfl rfl rfl ?_)
     refine EZ43 rfl ?_
     refine XW_if rfl (fun h2 => ?_) (fun h2 => ?_)
     ·first
      |skip
       try simp only [bs] at h2
       refine XW_sr (OW_as rfl rfl (OW_as rfl rfl (OW_as rfl rfl ?_)))
       refine EZ43 rfl ?_
       refine XW_ret (then_ret ?_)
       refine ret_ret (res3 rfl (rv_tmp rfl) (rv_tmp rfl) (rv_tmp rfl)) (frz3 (Q := Q) (by exact freeze_plain rfl) (by exact freeze_plain rfl) (by exact freeze_plain rfl) ?_)
       (rw [if_neg (by omega)] at hq; exact hq)
     first
     |skip
      try simp only [bs] at h2
      refine XW_skip (then_norm (XW_sr (OW_mv rfl rfl (OW_mv rfl rfl ?_))))
      refine OW_conv rfl rfl (conv_in rfl rfl rfl (IntWalk.i64_in _ (by omega))) ?_
      refine EN43 rfl ?_
      refine OW_sl rfl rfl rfl rfl rfl (str_hi rfl rfl (by omega) (by omega)) ?_
      refine OW_mv rfl rfl (OW_mv rfl rfl (EN43 rfl ?_))
      refine OW_conv rfl rfl (conv_in rfl rfl rfl (IntWalk.i64_in _ (by omega))) ?_
      refine OW_sl rfl rfl rfl rfl rfl (str_lo rfl rfl (by omega) (by omega)) ?_
      refine OW_as rfl rfl (EN43 rfl (OW_as rfl rfl (OW_as rfl rfl ?_)))
      refine EZ43 rfl ?_
      refine XW_ret ?_
      refine ret_ret (res3 rfl (rv_tmp rfl) (rv_tmp rfl) (rv_tmp rfl)) (frz3 (Q := Q) (by exact freeze_plain rfl) (by exact freeze_plain rfl) (by exact freeze_plain rfl) ?_)
      (rw [if_pos ⟨by omega, by omega, by omega⟩] at hq; rw [Int.toNat_natCast, ba_take, ba_drop]; exact hq)
theorem putUi {a : Int} (h : 0 ≤ a ∧ a ≤ 18446744073709551615) (hq : Q (.str (ba (encU a.toNat))) H) : CW cfg ν 40 [.int .u64 a] H Q := by
  have e : a = ((a.toNat : Nat) : Int) := by omega
  rw [e]
  exact putU (by omega) hq
theorem rputUi {a : Int} (h : 0 ≤ a ∧ a ≤ 18446744073709551615) (hq : Q (.str (ba (encU a.toNat))) H) : CW cfg ν 46 [.int .u64 a] H Q := by
  have e : a = ((a.toNat : Nat) : Int) := by omega
  rw [e]
  exact rputU (by omega) hq
theorem encU_i {a : Int} (h : 0 ≤ a ∧ a ≤ 18446744073709551615) : (ba (encU a.toNat)).size ≤ 10 := by
  rw [ba_size]; exact encU_le10 (by omega)
theorem resU_size (s : ByteArray) : (resU s).2.1.size ≤ s.size := by
  rcases resU_cases s with ⟨_, h⟩ | ⟨n, r, _, h, _, hr⟩
  · rw [h]; exact Nat.zero_le _
  rw [h]; show (ba r).size ≤ _; rw [ba_size]; omega
theorem resT_size (m : Int) (s : ByteArray) : (resT m s).2.1.size ≤ s.size := by
  unfold resT
  cases h : WM.takeT m s.data.toList with
  | none => exact Nat.zero_le _
  | some p => obtain ⟨t, r⟩ := p; have := takeT_short h; show (ba r).size ≤ _; rw [ba_size]; have e : s.data.toList.length = s.size := rfl; omega
theorem cI_res (s : ByteArray) : ((resU s).2.2 = false ∧ resU s = (0, ⟨#[]⟩, false) ∧ cI.tk s.data.toList = none) ∨ ((resU s).2.2 = true ∧ cI.tk s.data.toList = some ((resU s).1, (resU s).2.1.data.toList)) := by
  rcases resU_cases s with ⟨h1, h2⟩ | ⟨n, r, h1, h2, _, _⟩
  · rw [h2]; exact .inl ⟨rfl, rfl, cI_tk1 h1⟩
  rw [h2]; exact .inr ⟨rfl, cI_tk2 h1⟩
theorem cT_res (m : Nat) (hm : m < 18446744073709551616) (s : ByteArray) : ((resT m s).2.2 = false ∧ resT m s = (⟨#[]⟩, ⟨#[]⟩, false) ∧ (cT m hm).tk s.data.toList = none) ∨ ((resT m s).2.2 = true ∧ (cT m hm).tk s.data.toList = some ((resT m s).1, (resT m s).2.1.data.toList)) := by
  unfold resT
  cases h : WM.takeT (m : Int) s.data.toList with
  | none => exact .inl ⟨rfl, rfl, cT_tk1 h⟩
  | some p => exact .inr ⟨rfl, cT_tk2 h⟩
end Go.Proofs.YtfkgdlfponfimaaGreat.X

/- Layer 13: noted. -/
set_option linter.unusedVariables false
set_option linter.unusedSimpArgs false
set_option maxRecDepth 100000
namespace Go.Proofs.YtfkgdlfponfimaaGreat.X
open Go Go.RowKit WM
variable {ν : Nm} {H : Heap} {Q : AVal → Heap → Prop}
def ntS (s : ByteArray) : Int × ByteArray := (IntKind.i64.wrap (resU s).1, (resT ((resU s).2.1.size : Int) (resU s).2.1).1)
end Go.Proofs.YtfkgdlfponfimaaGreat.X

/- Layer 13: the reference's Copy. -/
set_option linter.unusedVariables false
set_option linter.unusedSimpArgs false
set_option maxRecDepth 100000
namespace Go.Proofs.YtfkgdlfponfimaaGreat.X
open Go Go.RowKit WM
variable {ν β ps pos pos' : Nm} {H H1 : Heap} {Q : AVal → Heap → Prop} {L : List Asr} {k : Nat}
end Go.Proofs.YtfkgdlfponfimaaGreat.X

/- Layer 12: Check of the reference, Text, Parse; the law QuotaTexts. -/
set_option linter.unusedVariables false
set_option linter.unusedSimpArgs false
set_option maxRecDepth 100000
namespace Go.Proofs.YtfkgdlfponfimaaGreat.X
open Go Go.RowKit WM
variable {ν : Nm} {H : Heap} {Q : AVal → Heap → Prop}
def cQu : Cod Qu := (cI.pair (cI.pair cI)).iso (fun p => ⟨p.1, p.2.1, p.2.2⟩) (fun x => (x.tn, x.us, x.li)) (fun _ => rfl) (fun _ => rfl)
def textS (t : List Qu) : ByteArray := ba (encU t.length ++ (t.map cQu.enc).flatten)
theorem enc_len {x : Qu} (h : x.fit) : (cQu.enc x).length ≤ 30 := by
  obtain ⟨f1, f2, f3⟩ := h
  have h1 := encU_le10 (n := x.tn.toNat) (by omega)
  have h2 := encU_le10 (n := x.us.toNat) (by omega)
  have h3 := encU_le10 (n := x.li.toNat) (by omega)
  show (encU x.tn.toNat ++ (encU x.us.toNat ++ encU x.li.toNat)).length ≤ _
  simp only [List.length_append]; omega
theorem flat_len {t : List Qu} (h : Fit t) : ((t.map cQu.enc).flatten).length ≤ 30 * t.length := by
  induction t with
  | nil => simp
  | cons x r ih =>
    have h1 := enc_len (h x (by simp))
    have h2 := ih (fun y hy => h y (by simp [hy]))
    simp only [List.map_cons, List.flatten_cons, List.length_append, List.length_cons] at *
    omega
theorem text_step {t : List Qu} {i : Nat} (hi : i < t.length) (n : Nat) : ba (encU n ++ ((t.take i).map cQu.enc).flatten) ++ (ba (encU t[i].tn.toNat) ++ ba (encU t[i].us.toNat) ++ ba (encU t[i].li.toNat)) = ba (encU n ++ ((t.take (i + 1)).map cQu.enc).flatten) := by
  rw [List.take_succ_eq_append_getElem hi, ba_append, ba_append, ba_append, List.map_append, List.flatten_append]
  congr 1
  simp only [List.map_cons, List.map_nil, List.flatten_cons, List.flatten_nil, List.append_nil, List.append_assoc]
  rfl
theorem text_B {t : List Qu} (hf : Fit t) (hn : t.length ≤ 1048577) : ∀ i, (ba (encU t.length ++ ((t.take i).map cQu.enc).flatten)).size ≤ 32 * t.length + 10 := by
  intro i
  have h1 := flat_len (t := t.take i) (fun x hx => hf x (List.mem_of_mem_take hx))
  have h2 := encU_le10 (n := t.length) (by omega)
  rw [ba_size, List.length_append]
  rw [List.length_take] at h1; omega
theorem p_text {v : AVal} {t : List Qu} (hv : Ls v (t.map Qu.enc)) (hn : t.length ≤ 1048577) (hf : Fit t) (hq : Q (.str (textS t)) H) : CW cfg ν 79 [v] H Q := by
  have hB := text_B hf hn
  refine CW_pure g79 F79 rfl ?_
  have hS0 : Own ν ν (fun _ => none) [] := Own.nil
  refine XW_sr (OW_as rfl rfl ?_)
  refine EZ31 rfl ?_
  refine XW_sr ?_
  refine OW_allocB hS0 (le_app (p := ν) (b := [0, 0, 1])) (under_app [0, 0, 1] under_me) rfl rfl rfl fun H1 hS1 => ?_
  replace hS1 : Own _ _ _ ([_]) := hS1
  refine EZ31 rfl ?_
  refine XW_sr (OW_mv rfl rfl ?_)
  refine OW_lenL rfl rfl (by assumption) rfl rfl rfl (by exact List.length_map _) ?_
  refine OW_conv rfl rfl (conv_in rfl rfl rfl (IntWalk.u64_in _ (by omega))) ?_
  refine OW_env (e' := [_,_,_,_,_,_,_,_,_,_,_,_,_,_,_,_,_,_,_,_,_,_,_,_,_,_,_,_,_,_,_]) rfl ?_
  refine OW_fn rfl rfl (putUi (by omega) ?_) 
  have hz : (⟨#[]⟩ : ByteArray).size + (ba (encU ((t.length : Nat) : Int).toNat)).size ≤ 1099511627776 := by have := encU_i (a := (t.length : Int)) (by omega); show 0 + _ ≤ _; omega
  refine OW_fn rfl rfl (W_write rfl hS1 (k := 0) rfl (le_lit (ν := ν) (a := [1, 0, 1]) (b := [4, 0, 1, 1]) (by decide)) (before_lit (ν := ν) (a := [4, 0, 1, 1]) (b := [5, 0, 1, 1]) (by decide)) (by omega) fun H2 hS2 => ?_) 
  replace hS2 : Own _ _ _ ([_]) := hS2
  refine EZ31 rfl ?_
  refine XW_seq (XW_sr (OW_mv rfl rfl ?_))
  refine OW_lenL rfl rfl (by assumption) rfl rfl rfl (by exact List.length_map _) ?_
  refine OW_mv rfl rfl ?_
  refine EZ31 rfl ?_
  refine XW_block ?_
  refine XW_whileN (I := fun ν' mm ee H' => ∃ (i : Nat), mm = t.length - i ∧ under (1 :: 0 :: 1 :: 1 :: 1 :: ν) ν' = true ∧ Own ν ν' H' ([bld (0 :: 0 :: 1 :: ν) (ba (encU t.length ++ ((t.take i).map cQu.enc).flatten))]) ∧ (i ≤ t.length) ∧ ∃ g : Nat → AVal, ee = [v, g 1, g 2, .ptr (0 :: 0 :: 1 :: ν) 0 0, g 4, g 5, g 6, g 7, g 8, g 9, g 10, v, .int .i64 t.length, .int .i64 i, g 14, g 15, g 16, g 17, g 18, g 19, g 20, g 21, g 22, g 23, g 24, g 25, g 26, g 27, g 28, g 29, g 30]) ?_ _ _ _ _ ⟨0, rfl, under_me, Own.cast (Own.mono (hS2) (le_lit (ν := ν) (a := [5, 0, 1, 1]) (b := [1, 0, 1, 1, 1]) (by decide))) (by rw [Int.toNat_natCast, ← ba_nil, ba_append]; simp), (by omega), env_g rfl⟩
  rintro ν1 mm ee H3 ⟨i, rfl, hU1, hS3, hi, g1, rfl⟩
  refine XW_sr ?_
  refine OW_bin rfl rfl rfl rfl rfl ?_
  refine EZ31 rfl ?_
  refine XW_seq ?_
  refine XW_if rfl (fun h4 => ?_) (fun h4 => ?_)
  ·try simp only [bs] at h4
   refine XW_skip (then_norm (XW_seq (XW_block (XW_sr ?_))))
   obtain ⟨f1, f2, f3⟩ := hf t[i] (List.getElem_mem (by omega))
   have hs1 := encU_i f1; have hs2 := encU_i f2; have hs3 := encU_i f3; have hBi := hB i
   refine OW_iaL rfl rfl rfl (by assumption) rfl rfl rfl (by rfl) (by exact at_map (by omega)) rfl ?_
   refine OW_loadE rfl rfl rfl (by exact part_whole rfl rfl rfl) ?_
   refine OW_allocR hS3 (le_app (p := ν1) (b := [2, 0, 0, 1, 1, 0])) (under_app [2, 0, 0, 1, 1, 0] (under_trans (under_app [1, 0, 1, 1, 1] under_me) hU1)) rfl rfl rfl rfl fun H4 hS4 => ?_
   replace hS4 : Own _ _ _ ([_, _]) := hS4
   refine OW_env (e' := [_,_,_,_,_,_,_,_,_,_,_,_,_,_,_,_,_,_,_,_,_,_,_,_,_,_,_,_,_,_,_]) rfl ?_
   refine OW_storeR hS4 (k := 0) rfl le_refl rfl rfl rfl rfl ⟨rfl, rfl, Nat.le_of_ble_eq_true rfl⟩ (u2 := .agg [_, _, _]) rfl fun H5 hS5 => ?_
   replace hS5 : Own _ _ _ ([_, _]) := hS5
   refine EZ31 rfl ?_
   refine XW_region (OW_fa rfl rfl rfl ?_)
   refine OW_loadR hS5 (k := 0) rfl rfl rfl rfl rfl (by rfl) ?_
   refine OW_fn rfl rfl (putUi (by omega) ?_) 
   refine OW_env (e' := [_,_,_,_,_,_,_,_,_,_,_,_,_,_,_,_,_,_,_,_,_,_,_,_,_,_,_,_,_,_,_]) rfl ?_
   refine OW_fa rfl rfl rfl ?_
   refine OW_loadR hS5 (k := 0) rfl rfl rfl rfl rfl (by rfl) ?_
   refine OW_fn rfl rfl (putUi (by omega) ?_) 
   refine OW_env (e' := [_,_,_,_,_,_,_,_,_,_,_,_,_,_,_,_,_,_,_,_,_,_,_,_,_,_,_,_,_,_,_]) rfl ?_
   refine OW_bin rfl rfl rfl rfl (cat (by omega)) ?_
   refine OW_fa rfl rfl rfl ?_
   refine OW_loadR hS5 (k := 0) rfl rfl rfl rfl rfl (by rfl) ?_
   refine OW_env (e' := [_,_,_,_,_,_,_,_,_,_,_,_,_,_,_,_,_,_,_,_,_,_,_,_,_,_,_,_,_,_,_]) rfl ?_
   refine OW_fn rfl rfl (putUi (by omega) ?_) 
   refine OW_bin rfl rfl rfl rfl (cat (by (simp only [ss]; omega))) ?_
   refine OW_fn rfl rfl (W_write rfl hS5 (k := 1) rfl (le_lit (ν := ν1) (a := [4, 0, 0, 1, 1, 0]) (b := [11, 1, 0, 1, 1, 0]) (by decide)) (before_lit (ν := ν1) (a := [11, 1, 0, 1, 1, 0]) (b := [12, 1, 0, 1, 1, 0]) (by decide)) (by (simp only [ByteArray.size_append]; omega)) fun H6 hS6 => ?_) 
   replace hS6 : Own _ _ _ ([_, _]) := hS6
   refine EZ31 rfl ?_
   refine block_norm (then_norm (XW_region ?_))
   refine OW_bin rfl rfl rfl rfl (add_w64 (by omega)) ?_
   refine OW_mv rfl rfl ?_
   refine EZ31 rfl ?_
   have hSd1 : Own _ _ _ ([_]) := (Own.drop hS6 (k := 0) rfl)
   refine ⟨_, ?_, i + 1, rfl, under_in hU1, Own.cast (Own.mono (hSd1) (le_lit (ν := ν1) (a := [12, 1, 0, 1, 1, 0]) (b := [1]) (by decide))) (by rw [text_step (by omega)]), ?_, env_g rfl⟩
   · omega
   omega
  try simp only [bs] at h4
  refine XW_exit (then_exit (block_exit (then_norm (XW_sr ?_))))
  rw [List.take_of_length_le (by omega)] at hS3
  refine OW_fn rfl rfl (W_string rfl hS3 (k := 0) rfl (le_bef (bef_under (a := []) hU1 (before_lit (ν := ν) (a := [1, 0, 1, 1, 1]) (b := [0, 0, 1, 1, 1, 1]) (by decide)))) (before_lit (ν := ν) (a := [0, 0, 1, 1, 1, 1]) (b := [1, 0, 1, 1, 1, 1]) (by decide)) fun H7 hS7 => ?_) 
  replace hS7 : Own _ _ _ ([]) := hS7
  refine OW_as rfl rfl ?_
  refine EZ31 rfl ?_
  refine XW_ret ?_
  refine ret_ret (res1 rfl (rv_tmp rfl)) (frz1 (Q := Q) (by exact freeze_plain rfl) ?_)
  exact hq
theorem r_text {v : AVal} {t : List Qu} (hv : Ls v (t.map Qu.enc)) (hn : t.length ≤ 1048577) (hf : Fit t) (hq : Q (.str (textS t)) H) : CW cfg ν 83 [v] H Q := by
  have hB := text_B hf hn
  refine CW_pure g83 F83 rfl ?_
  refine XW_sr (OW_as rfl rfl ?_)
  refine OW_nilE (e' := [_,_,_,_,_,_,_,_,_,_,_,_,_,_,_,_,_,_,_,_,_,_,_,_,_,_,_,_,_,_,_,_,_,_,_,_,_,_]) rfl ?_
  refine XW_sr (OW_mv rfl rfl ?_)
  refine OW_lenL rfl rfl (by assumption) rfl rfl rfl (by exact List.length_map _) ?_
  refine OW_conv rfl rfl (conv_in rfl rfl rfl (IntWalk.u64_in _ (by omega))) ?_
  refine EN38 rfl ?_
  refine OW_fn rfl rfl (rputUi (by omega) ?_) 
  refine OW_as rfl rfl ?_
  refine OW_nilE (e' := [_,_,_,_,_,_,_,_,_,_,_,_,_,_,_,_,_,_,_,_,_,_,_,_,_,_,_,_,_,_,_,_,_,_,_,_,_,_]) rfl ?_
  refine XW_seq (XW_sr ?_)
  rw [Int.toNat_natCast, show encU t.length = encU t.length ++ ((t.take 0).map cQu.enc).flatten by simp]
  refine OW_as rfl rfl ?_
  refine OW_nilE (e' := [_,_,_,_,_,_,_,_,_,_,_,_,_,_,_,_,_,_,_,_,_,_,_,_,_,_,_,_,_,_,_,_,_,_,_,_,_,_]) rfl ?_
  refine XW_block ?_
  refine XW_whileN (I := fun ν' mm ee H' => ∃ (i : Nat), mm = t.length - i ∧ under (1 :: 0 :: 1 :: 1 :: ν) ν' = true ∧ (i ≤ t.length) ∧ ∃ g : Nat → AVal, ee = [v, g 1, g 2, .str (ba (encU t.length ++ ((t.take i).map cQu.enc).flatten)), .int .i64 i, g 5, g 6, g 7, g 8, g 9, g 10, g 11, g 12, g 13, g 14, g 15, g 16, g 17, g 18, g 19, g 20, g 21, g 22, g 23, g 24, g 25, g 26, g 27, g 28, g 29, g 30, g 31, g 32, g 33, g 34, g 35, g 36, g 37]) ?_ _ _ _ _ ⟨0, rfl, under_me, (by omega), env_g rfl⟩
  rintro ν1 mm ee H1 ⟨i, rfl, hU1, hi, g1, rfl⟩
  refine XW_seq (XW_sr (OW_mv rfl rfl (OW_mv rfl rfl ?_)))
  refine OW_lenL rfl rfl (by assumption) rfl rfl rfl (by exact List.length_map _) ?_
  refine EN38 rfl ?_
  refine OW_bin rfl rfl rfl rfl rfl ?_
  refine OW_nilE (e' := [_,_,_,_,_,_,_,_,_,_,_,_,_,_,_,_,_,_,_,_,_,_,_,_,_,_,_,_,_,_,_,_,_,_,_,_,_,_]) rfl ?_
  refine XW_if rfl (fun h3 => ?_) (fun h3 => ?_)
  ·try simp only [bs] at h3
   refine XW_skip (then_norm (XW_seq (XW_block (XW_region ?_))))
   obtain ⟨f1, f2, f3⟩ := hf t[i] (List.getElem_mem (by omega))
   have hs1 := encU_i f1; have hs2 := encU_i f2; have hs3 := encU_i f3; have hBi := hB i
   refine OW_mv rfl rfl (OW_mv rfl rfl (OW_mv rfl rfl (EN38 rfl ?_)))
   refine OW_iaL rfl rfl rfl (by assumption) rfl rfl rfl (by rfl) (by exact at_map (by omega)) rfl ?_
   refine OW_fa rfl rfl rfl ?_
   refine OW_loadE rfl rfl rfl (by rfl) ?_
   refine EN38 rfl ?_
   refine OW_fn rfl rfl (rputUi (by omega) ?_) 
   refine OW_mv rfl rfl (OW_mv rfl rfl (EN38 rfl ?_))
   refine OW_iaL rfl rfl rfl (by assumption) rfl rfl rfl (by rfl) (by exact at_map (by omega)) rfl ?_
   refine OW_fa rfl rfl rfl ?_
   refine OW_loadE rfl rfl rfl (by rfl) ?_
   refine EN38 rfl ?_
   refine OW_fn rfl rfl (rputUi (by omega) ?_) 
   refine OW_bin rfl rfl rfl rfl (cat (by omega)) ?_
   refine OW_mv rfl rfl (EN38 rfl (OW_mv rfl rfl ?_))
   refine OW_iaL rfl rfl rfl (by assumption) rfl rfl rfl (by rfl) (by exact at_map (by omega)) rfl ?_
   refine OW_fa rfl rfl rfl (EN38 rfl ?_)
   refine OW_loadE rfl rfl rfl (by rfl) ?_
   refine OW_fn rfl rfl (rputUi (by omega) ?_) 
   refine OW_bin rfl rfl rfl rfl (cat (by (simp only [ss]; omega))) ?_
   refine EN38 rfl ?_
   refine OW_bin rfl rfl rfl rfl (cat (by (simp only [ss]; omega))) ?_
   rw [text_step (by omega)]
   refine OW_as rfl rfl ?_
   refine OW_nilE (e' := [_,_,_,_,_,_,_,_,_,_,_,_,_,_,_,_,_,_,_,_,_,_,_,_,_,_,_,_,_,_,_,_,_,_,_,_,_,_]) rfl ?_
   refine block_norm (then_norm (XW_region (OW_mv rfl rfl ?_)))
   refine OW_bin rfl rfl rfl rfl (add_w64 (by omega)) ?_
   refine OW_as rfl rfl ?_
   refine OW_nilE (e' := [_,_,_,_,_,_,_,_,_,_,_,_,_,_,_,_,_,_,_,_,_,_,_,_,_,_,_,_,_,_,_,_,_,_,_,_,_,_]) rfl ?_
   refine ⟨_, ?_, i + 1, rfl, under_in hU1, ?_, env_g rfl⟩
   · omega
   omega
  try simp only [bs] at h3
  refine XW_exit (then_exit (block_exit (then_norm (XW_sr ?_))))
  rw [List.take_of_length_le (by omega)]
  refine OW_mv rfl rfl (OW_as rfl rfl ?_)
  refine OW_nilE (e' := [_,_,_,_,_,_,_,_,_,_,_,_,_,_,_,_,_,_,_,_,_,_,_,_,_,_,_,_,_,_,_,_,_,_,_,_,_,_]) rfl ?_
  refine XW_ret ?_
  refine ret_ret (res1 rfl (rv_tmp rfl)) (frz1 (Q := Q) (by exact freeze_plain rfl) ?_)
  exact hq
def parS (s : ByteArray) : Option (List Qu) := match (cQu.list 16 (by decide)).all s.data.toList with
  | some l => if chkQ l then some l else none
  | none => none
def resP (s : ByteArray) : List Qu × Bool := match parS s with
  | some l => (l, true)
  | none => ([], false)
theorem tk_row (s : ByteArray) : cQu.tk s.data.toList = if (resU s).2.2 = true ∧ (resU (resU s).2.1).2.2 = true ∧ (resU (resU (resU s).2.1).2.1).2.2 = true then some (⟨(resU s).1, (resU (resU s).2.1).1, (resU (resU (resU s).2.1).2.1).1⟩, (resU (resU (resU s).2.1).2.1).2.1.data.toList) else none := by
  rcases cI_res s with ⟨h1, _, h2⟩ | ⟨h1, h2⟩
  · rw [if_neg (by rw [h1]; simp)]
    exact Cod.iso_tk1 (Cod.pair_tk1 h2)
  rcases cI_res (resU s).2.1 with ⟨h3, _, h4⟩ | ⟨h3, h4⟩
  · rw [if_neg (by rw [h3]; simp)]
    exact Cod.iso_tk1 (Cod.pair_tk2 h2 (Cod.pair_tk1 h4))
  rcases cI_res (resU (resU s).2.1).2.1 with ⟨h5, _, h6⟩ | ⟨h5, h6⟩
  · rw [if_neg (by rw [h5]; simp)]
    exact Cod.iso_tk1 (Cod.pair_tk2 h2 (Cod.pair_tk2 h4 h6))
  rw [if_pos ⟨h1, h3, h5⟩]
  exact Cod.iso_tk2 (Cod.pair_tk3 h2 (Cod.pair_tk3 h4 h6))
theorem parS_far {s : ByteArray} {n : Nat} {r : List UInt8} (h : takeU 64 s.data.toList = some (n, r)) : parS s = if n ≤ 16 then (match cQu.manyT n r with
    | some (l, q) => if q = [] ∧ chkQ l = true then some l else none
    | none => none) else none := by
  unfold parS
  have hl := Cod.list_tk (c := cQu) (hm := (by decide : 16 < 18446744073709551616)) h
  by_cases hn : n ≤ 16
  · rw [if_pos hn] at hl
    rw [if_pos hn]
    cases hm : cQu.manyT n r with
    | none => rw [hm] at hl; rw [Cod.all_none hl]
    | some p =>
      obtain ⟨l, q⟩ := p
      rw [hm] at hl
      rw [Cod.all_of hl]
      by_cases hq : q = []
      · simp [hq]
      simp [hq]
  rw [if_neg hn] at hl
  rw [Cod.all_none hl, if_neg hn]
theorem parS_none {s : ByteArray} (h : takeU 64 s.data.toList = none) : parS s = none := by
  unfold parS
  rw [Cod.all_none (Cod.list_none h)]
theorem str_nil {s : ByteArray} (h : s = ⟨#[]⟩) : s.data.toList = [] := by rw [h]
theorem nil_str {s : ByteArray} (h : s.data.toList = []) : s = ⟨#[]⟩ := by rw [← ba_of s, h]; rfl
theorem p_parse {s : ByteArray} (hs : s.size ≤ 4611686018427387904) (hq : Q (.tup [.lst ((resP s).1.map Qu.enc), .bool (resP s).2]) H) : CW cfg ν 65 [.str s] H Q := by
  rcases resU_cases s with ⟨h1, h2⟩ | ⟨n, r, h1, h2, hn, hr⟩
  · rw [resP, parS_none h1] at hq
    refine CW_pure g65 F65 rfl ?_
    have hS0 : Own ν ν (fun _ => none) [] := Own.nil
    refine XW_sr (OW_as rfl rfl (OW_as rfl rfl ?_))
    refine EZ59 rfl ?_
    refine XW_sr (OW_mv rfl rfl ?_)
    refine OW_fn rfl rfl (takeU_e hs h2 ?_) 
    refine OW_mv rfl rfl (EN59 rfl (OW_ex rfl rfl rfl (OW_ex rfl rfl rfl (OW_ex rfl rfl rfl (EN59 rfl (OW_as rfl rfl (OW_as rfl rfl (OW_as rfl rfl ?_))))))))
    refine EZ59 rfl ?_
    refine XW_seq (XW_sr (OW_mv rfl rfl (OW_un rfl rfl rfl (OW_mv rfl rfl (EN59 rfl (OW_no rfl (OW_no rfl (OW_pick rfl rfl rfl ?_))))))))
    refine EZ59 rfl ?_
    refine XW_yes rfl rfl ?_
    refine XW_sr (OW_as rfl rfl (OW_as rfl rfl ?_))
    refine EZ59 rfl ?_
    refine XW_ret (then_ret ?_)
    refine ret_ret (res2 rfl (rv_tmp rfl) (rv_tmp rfl)) (frz2 (Q := Q) (by exact Ls.freeze Ls.nls) (by exact freeze_plain rfl) ?_)
    exact hq
  rw [resP, parS_far h1] at hq
  have hbr : (ba r).size = r.length := ba_size r
  refine CW_pure g65 F65 rfl ?_
  have hS0 : Own ν ν (fun _ => none) [] := Own.nil
  refine XW_sr (OW_as rfl rfl (OW_as rfl rfl ?_))
  refine EZ59 rfl ?_
  refine XW_sr (OW_mv rfl rfl ?_)
  refine OW_fn rfl rfl (takeU_e hs h2 ?_) 
  refine OW_mv rfl rfl (EN59 rfl (OW_ex rfl rfl rfl (OW_ex rfl rfl rfl (OW_ex rfl rfl rfl (EN59 rfl (OW_as rfl rfl (OW_as rfl rfl (OW_as rfl rfl ?_))))))))
  refine EZ59 rfl ?_
  refine XW_seq (XW_sr (OW_mv rfl rfl (OW_un rfl rfl rfl (OW_mv rfl rfl (EN59 rfl (OW_mv rfl rfl ?_))))))
  refine OW_bin rfl rfl rfl rfl rfl ?_
  refine OW_pick rfl rfl rfl ?_
  refine EZ59 rfl ?_
  refine XW_if rfl (fun h2 => ?_) (fun h2 => ?_)
  ·try simp only [bs] at h2
   refine XW_sr ?_
   rw [if_neg (by omega)] at hq
   refine OW_as rfl rfl (OW_as rfl rfl ?_)
   refine EZ59 rfl ?_
   refine XW_ret (then_ret ?_)
   refine ret_ret (res2 rfl (rv_tmp rfl) (rv_tmp rfl)) (frz2 (Q := Q) (by exact Ls.freeze Ls.nls) (by exact freeze_plain rfl) ?_)
   exact hq
  try simp only [bs] at h2
  refine XW_skip (then_norm (XW_sr ?_))
  rw [if_pos (by omega)] at hq
  refine OW_as rfl rfl ?_
  refine EZ59 rfl ?_
  refine XW_seq (XW_sr (OW_mv rfl rfl (OW_mv rfl rfl ?_)))
  refine EZ59 rfl ?_
  refine XW_block ?_
  refine XW_whileN (I := fun ν' mm ee H' => ∃ (i : Nat) (O : AVal) (acc : List Qu) (rest : ByteArray), mm = n - i ∧ under (1 :: 0 :: 1 :: 1 :: 1 :: 1 :: ν) ν' = true ∧ Own ν ν' H' ([sl O 3 (acc.map Qu.enc)]) ∧ (cQu.Far n r i acc rest.data.toList ∧ rest.size ≤ s.size) ∧ ∃ g : Nat → AVal, ee = [g 0, g 1, .nls, .bool false, g 4, .str rest, g 6, O, g 8, g 9, g 10, g 11, g 12, g 13, g 14, g 15, g 16, g 17, g 18, g 19, g 20, g 21, g 22, .int .u64 (n : Int), .int .u64 (i : Int), g 25, g 26, g 27, g 28, g 29, g 30, g 31, g 32, g 33, g 34, g 35, g 36, g 37, g 38, g 39, g 40, g 41, g 42, g 43, g 44, g 45, g 46, g 47, g 48, g 49, g 50, g 51, g 52, g 53, g 54, g 55, g 56, g 57, g 58]) ?_ _ _ _ _ ⟨0, .nls, [], ba r, rfl, under_me, Own.cast (Own.mono (hS0.addN) (le_app (p := ν) (b := [1, 0, 1, 1, 1, 1]))) (rfl), (⟨by rw [ba_data]; exact cQu.far0 n r, by omega⟩), env_g rfl⟩
  rintro ν1 mm ee H1 ⟨i, O, acc, rest, rfl, hU1, hS1, ⟨hF, hrs⟩, g1, rfl⟩
  refine XW_sr ?_
  refine OW_bin rfl rfl rfl rfl rfl ?_
  refine EZ59 rfl ?_
  refine XW_seq ?_
  refine XW_if rfl (fun h6 => ?_) (fun h6 => ?_)
  ·try simp only [bs] at h6
   refine XW_skip (then_norm (XW_seq (XW_block (XW_sr ?_))))
   have z1 := resU_size rest; have z2 := resU_size (resU rest).2.1; have z3 := resU_size (resU (resU rest).2.1).2.1; have hal := hF.2.1
   refine OW_allocR hS1 (le_app (p := ν1) (b := [0, 0, 0, 1, 1, 0])) (under_app [0, 0, 0, 1, 1, 0] (under_trans (under_app [1, 0, 1, 1, 1, 1] under_me) hU1)) rfl rfl rfl rfl fun H2 hS2 => ?_
   replace hS2 : Own _ _ _ ([_, _]) := hS2
   refine EZ59 rfl ?_
   refine XW_seq (XW_sr (OW_fa rfl rfl rfl (OW_fa rfl rfl rfl (OW_fa rfl rfl rfl (EN59 rfl ?_)))))
   refine OW_bs rfl rfl (v := .lst [_, _, _]) rfl ?_
   refine OW_lenL rfl rfl (by exact Ls.of) rfl rfl rfl (by rfl) ?_
   refine OW_mv rfl rfl ?_
   refine EZ59 rfl ?_
   refine XW_block ?_
   refine XW_loop ?_
   refine XW_sr ?_
   refine OW_bin rfl rfl rfl rfl rfl ?_
   refine EZ59 rfl ?_
   refine XW_seq ?_
   refine XW_yes rfl (by rfl) ?_
   refine XW_skip (then_norm (XW_seq (XW_block (XW_sr ?_))))
   refine OW_iaL rfl rfl rfl Ls.of rfl rfl rfl (by rfl) (by rfl) rfl ?_
   refine OW_loadE rfl rfl rfl (by rfl) ?_
   refine OW_as rfl rfl ?_
   refine EZ59 rfl ?_
   refine XW_sr (OW_mv rfl rfl (OW_mv rfl rfl ?_))
   refine OW_fn rfl rfl (takeU_c (by omega) ?_) 
   refine EN59 rfl (OW_mv rfl rfl (OW_ex rfl rfl rfl (OW_ex rfl rfl rfl (EN59 rfl (OW_ex rfl rfl rfl (OW_nc rfl rfl ?_))))))
   refine OW_storeR hS2 (k := 0) rfl (le_lit (ν := ν1) (a := [1, 0, 0, 1, 1, 0]) (b := [8, 0, 1, 0, 1, 1, 0, 1, 0, 1, 0, 1, 1, 0]) (by decide)) rfl rfl rfl rfl ⟨rfl, rfl, Nat.le_of_ble_eq_true rfl⟩ (u2 := .agg [_, _, _]) rfl fun H3 hS3 => ?_
   replace hS3 : Own _ _ _ ([_, _]) := hS3
   refine EN59 rfl (OW_as rfl rfl (OW_as rfl rfl ?_))
   refine EZ59 rfl ?_
   refine XW_sr (OW_mv rfl rfl (OW_un rfl rfl rfl ?_))
   refine EZ59 rfl ?_
   refine XW_if rfl (fun h12 => ?_) (fun h12 => ?_)
   ·try simp only [bs] at h12
    refine XW_sr (OW_as rfl rfl (OW_as rfl rfl ?_))
    refine EZ59 rfl ?_
    refine XW_ret (block_ret (then_ret (then_ret (block_ret (then_ret (block_ret (then_ret (block_ret (then_ret ?_)))))))))
    refine ret_ret (res2 rfl (rv_tmp rfl) (rv_tmp rfl)) (frz2 (Q := Q) (by exact Ls.freeze Ls.nls) (by exact freeze_plain rfl) ?_)
    (rw [Cod.far_none hF (by omega) (by rw [tk_row, if_neg (by rintro ⟨a1, a2, a3⟩; simp_all)])] at hq; exact hq)
   try simp only [bs] at h12
   refine XW_skip (block_norm (then_norm (XW_region ?_)))
   refine OW_bin rfl rfl rfl rfl (add_w64 (by omega)) ?_
   refine OW_mv rfl rfl ?_
   refine EZ59 rfl ?_
   refine then_norm ?_
   refine XW_loop ?_
   refine XW_sr ?_
   refine OW_bin rfl rfl rfl rfl rfl ?_
   refine EZ59 rfl ?_
   refine XW_seq ?_
   refine XW_yes rfl (by rfl) ?_
   refine XW_skip (then_norm (XW_seq (XW_block (XW_sr ?_))))
   refine OW_iaL rfl rfl rfl Ls.of rfl rfl rfl (by rfl) (by rfl) rfl ?_
   refine OW_loadE rfl rfl rfl (by rfl) ?_
   refine OW_as rfl rfl ?_
   refine EZ59 rfl ?_
   refine XW_sr (OW_mv rfl rfl (OW_mv rfl rfl ?_))
   refine OW_fn rfl rfl (takeU_c (by omega) ?_) 
   refine EN59 rfl (OW_mv rfl rfl (OW_ex rfl rfl rfl (OW_ex rfl rfl rfl (EN59 rfl (OW_ex rfl rfl rfl (OW_nc rfl rfl ?_))))))
   refine OW_storeR hS3 (k := 0) rfl (le_lit (ν := ν1) (a := [9, 0, 1, 0, 1, 1, 0, 1, 0, 1, 0, 1, 1, 0]) (b := [8, 0, 1, 0, 1, 1, 0, 1, 1, 0, 1, 0, 1, 1, 0]) (by decide)) rfl rfl rfl rfl ⟨rfl, rfl, Nat.le_of_ble_eq_true rfl⟩ (u2 := .agg [_, _, _]) rfl fun H4 hS4 => ?_
   replace hS4 : Own _ _ _ ([_, _]) := hS4
   refine EN59 rfl (OW_as rfl rfl (OW_as rfl rfl ?_))
   refine EZ59 rfl ?_
   refine XW_sr (OW_mv rfl rfl (OW_un rfl rfl rfl ?_))
   refine EZ59 rfl ?_
   refine XW_if rfl (fun h12 => ?_) (fun h12 => ?_)
   ·try simp only [bs] at h12
    refine XW_sr (OW_as rfl rfl (OW_as rfl rfl ?_))
    refine EZ59 rfl ?_
    refine XW_ret (block_ret (then_ret (then_ret (block_ret (then_ret (block_ret (then_ret (block_ret (then_ret ?_)))))))))
    refine ret_ret (res2 rfl (rv_tmp rfl) (rv_tmp rfl)) (frz2 (Q := Q) (by exact Ls.freeze Ls.nls) (by exact freeze_plain rfl) ?_)
    (rw [Cod.far_none hF (by omega) (by rw [tk_row, if_neg (by rintro ⟨a1, a2, a3⟩; simp_all)])] at hq; exact hq)
   try simp only [bs] at h12
   refine XW_skip (block_norm (then_norm (XW_region ?_)))
   refine OW_bin rfl rfl rfl rfl (add_w64 (by omega)) ?_
   refine OW_mv rfl rfl ?_
   refine EZ59 rfl ?_
   refine then_norm ?_
   refine XW_loop ?_
   refine XW_sr ?_
   refine OW_bin rfl rfl rfl rfl rfl ?_
   refine EZ59 rfl ?_
   refine XW_seq ?_
   refine XW_yes rfl (by rfl) ?_
   refine XW_skip (then_norm (XW_seq (XW_block (XW_sr ?_))))
   refine OW_iaL rfl rfl rfl Ls.of rfl rfl rfl (by rfl) (by rfl) rfl ?_
   refine OW_loadE rfl rfl rfl (by rfl) ?_
   refine OW_as rfl rfl ?_
   refine EZ59 rfl ?_
   refine XW_sr (OW_mv rfl rfl (OW_mv rfl rfl ?_))
   refine OW_fn rfl rfl (takeU_c (by omega) ?_) 
   refine EN59 rfl (OW_mv rfl rfl (OW_ex rfl rfl rfl (OW_ex rfl rfl rfl (EN59 rfl (OW_ex rfl rfl rfl (OW_nc rfl rfl ?_))))))
   refine OW_storeR hS4 (k := 0) rfl (le_lit (ν := ν1) (a := [9, 0, 1, 0, 1, 1, 0, 1, 1, 0, 1, 0, 1, 1, 0]) (b := [8, 0, 1, 0, 1, 1, 0, 1, 1, 1, 0, 1, 0, 1, 1, 0]) (by decide)) rfl rfl rfl rfl ⟨rfl, rfl, Nat.le_of_ble_eq_true rfl⟩ (u2 := .agg [_, _, _]) rfl fun H5 hS5 => ?_
   replace hS5 : Own _ _ _ ([_, _]) := hS5
   refine EN59 rfl (OW_as rfl rfl (OW_as rfl rfl ?_))
   refine EZ59 rfl ?_
   refine XW_sr (OW_mv rfl rfl (OW_un rfl rfl rfl ?_))
   refine EZ59 rfl ?_
   refine XW_if rfl (fun h12 => ?_) (fun h12 => ?_)
   ·try simp only [bs] at h12
    refine XW_sr (OW_as rfl rfl (OW_as rfl rfl ?_))
    refine EZ59 rfl ?_
    refine XW_ret (block_ret (then_ret (then_ret (block_ret (then_ret (block_ret (then_ret (block_ret (then_ret ?_)))))))))
    refine ret_ret (res2 rfl (rv_tmp rfl) (rv_tmp rfl)) (frz2 (Q := Q) (by exact Ls.freeze Ls.nls) (by exact freeze_plain rfl) ?_)
    (rw [Cod.far_none hF (by omega) (by rw [tk_row, if_neg (by rintro ⟨a1, a2, a3⟩; simp_all)])] at hq; exact hq)
   try simp only [bs] at h12
   refine XW_skip (block_norm (then_norm (XW_region ?_)))
   refine OW_bin rfl rfl rfl rfl (add_w64 (by omega)) ?_
   refine OW_mv rfl rfl ?_
   refine EZ59 rfl ?_
   refine then_norm ?_
   refine XW_loop ?_
   refine XW_sr ?_
   refine OW_bin rfl rfl rfl rfl rfl ?_
   refine EZ59 rfl ?_
   refine XW_seq ?_
   refine XW_no rfl (by rfl) ?_
   refine XW_exit (then_exit (then_exit (block_exit (then_norm (XW_region (OW_mv rfl rfl ?_))))))
   refine OW_loadR hS5 (k := 0) rfl rfl rfl rfl rfl (by exact part_whole rfl rfl rfl) ?_
   refine OW_bs rfl rfl (v := .lst [_]) rfl ?_
   refine EN59 rfl ?_
   refine OW_app hS5 (k := 1) rfl (le_lit (ν := ν1) (a := [9, 0, 1, 0, 1, 1, 0, 1, 1, 1, 0, 1, 0, 1, 1, 0]) (b := [3, 1, 1, 0, 1, 1, 0]) (by decide)) (under_app [3, 1, 1, 0, 1, 1, 0] (under_trans (under_app [1, 0, 1, 1, 1, 1] under_me) hU1)) rfl rfl rfl rfl rfl rfl rfl rfl (by rfl) (by exact one_wide rfl) (by (simp only [ss]; omega)) (by decide) fun O1 H6 hS6 => ?_
   replace hS6 : Own _ _ _ ([_, _]) := hS6
   refine OW_as rfl rfl ?_
   refine EZ59 rfl ?_
   refine block_norm (then_norm (XW_region ?_))
   refine OW_bin rfl rfl rfl rfl (add_wu64 (by omega)) ?_
   refine OW_mv rfl rfl ?_
   refine EZ59 rfl ?_
   have hSd1 : Own _ _ _ ([_]) := (Own.drop hS6 (k := 0) rfl)
   refine ⟨_, ?_, i + 1, O1, acc ++ [⟨(resU rest).1, (resU (resU rest).2.1).1, (resU (resU (resU rest).2.1).2.1).1⟩], _, rfl, under_in hU1, Own.cast (Own.mono (hSd1) (le_lit (ν := ν1) (a := [4, 1, 1, 0, 1, 1, 0]) (b := [1]) (by decide))) (by simp [Qu.enc]), ?_, env_g rfl⟩
   · omega
   exact ⟨Cod.far_step hF (by omega) (by rw [tk_row, if_pos ⟨by assumption, by assumption, by assumption⟩]), by omega⟩
  try simp only [bs] at h6
  refine XW_exit (then_exit (block_exit (then_norm (XW_seq (XW_sr ?_)))))
  have hal := hF.2.1; have hin := hF.1
  refine OW_mv rfl rfl ?_
  refine OW_bin rfl rfl rfl rfl rfl ?_
  refine OW_mv rfl rfl (EN59 rfl ?_)
  refine OW_split (tt := 53) rfl (fun g17_3 => ?_) (fun g17_3 => ?_)
  ·try simp only [bs] at g17_3
   refine OW_no rfl (OW_no rfl (EN59 rfl (OW_no rfl (OW_pick rfl rfl rfl ?_))))
   refine EZ59 rfl ?_
   refine XW_yes rfl rfl ?_
   refine XW_sr (OW_as rfl rfl (OW_as rfl rfl ?_))
   refine EZ59 rfl ?_
   refine XW_ret (then_ret ?_)
   refine ret_ret (res2 rfl (rv_tmp rfl) (rv_tmp rfl)) (frz2 (Q := Q) (by exact Ls.freeze Ls.nls) (by exact freeze_plain rfl) ?_)
   (rw [Cod.far_end hF (by omega)] at hq; simp only at hq; (rw [if_neg (by rintro ⟨a1, a2⟩; exact g17_3 (nil_str a1))] at hq; exact hq))
  try simp only [bs] at g17_3
  refine OW_mv rfl rfl ?_
  refine OW_fn rfl rfl (c_check (hS1.freeze0 (k := 0) rfl (map_plain (fun _ => rfl))) (by omega) ?_) 
  refine EN59 rfl (OW_un rfl rfl rfl (OW_pick rfl rfl rfl ?_))
  refine EZ59 rfl ?_
  refine XW_if rfl (fun h17 => ?_) (fun h17 => ?_)
  ·try simp only [bs] at h17
   refine XW_sr (OW_as rfl rfl (OW_as rfl rfl ?_))
   refine EZ59 rfl ?_
   refine XW_ret (then_ret ?_)
   refine ret_ret (res2 rfl (rv_tmp rfl) (rv_tmp rfl)) (frz2 (Q := Q) (by exact Ls.freeze Ls.nls) (by exact freeze_plain rfl) ?_)
   (rw [Cod.far_end hF (by omega)] at hq; simp only at hq; (rw [if_neg (by rintro ⟨a1, a2⟩; simp_all)] at hq; exact hq))
  try simp only [bs] at h17
  refine XW_skip (then_norm (XW_sr (OW_mv rfl rfl (OW_as rfl rfl (OW_as rfl rfl ?_)))))
  refine EZ59 rfl ?_
  refine XW_ret ?_
  refine ret_ret (res2 rfl (rv_tmp rfl) (rv_tmp rfl)) (frz2 (Q := Q) (by exact hS1.frz (k := 0) rfl (by exact map_plain (fun _ => rfl))) (by exact freeze_plain rfl) ?_)
  (rw [Cod.far_end hF (by omega)] at hq; simp only at hq; (rw [if_pos ⟨str_nil (by assumption), by assumption⟩] at hq; exact hq))
theorem r_parse {s : ByteArray} (hs : s.size ≤ 4611686018427387904) (hq : Q (.tup [.lst ((resP s).1.map Qu.enc), .bool (resP s).2]) H) : CW cfg ν 68 [.str s] H Q := by
  rcases resU_cases s with ⟨h1, h2⟩ | ⟨n, r, h1, h2, hn, hr⟩
  · rw [resP, parS_none h1] at hq
    refine CW_pure g68 F68 rfl ?_
    have hS0 : Own ν ν (fun _ => none) [] := Own.nil
    refine XW_sr (OW_as rfl rfl (OW_as rfl rfl ?_))
    refine EZ80 rfl ?_
    refine XW_sr (OW_mv rfl rfl ?_)
    refine OW_fn rfl rfl (rtakeU_e hs h2 ?_) 
    refine OW_mv rfl rfl (EN80 rfl (OW_ex rfl rfl rfl (OW_ex rfl rfl rfl (OW_ex rfl rfl rfl (EN80 rfl (OW_as rfl rfl (OW_as rfl rfl (OW_as rfl rfl ?_))))))))
    refine EZ80 rfl ?_
    refine XW_seq (XW_sr (OW_mv rfl rfl (OW_un rfl rfl rfl (OW_mv rfl rfl (EN80 rfl (OW_no rfl (OW_no rfl (OW_pick rfl rfl rfl ?_))))))))
    refine EZ80 rfl ?_
    refine XW_yes rfl rfl ?_
    refine XW_sr (OW_as rfl rfl (OW_as rfl rfl ?_))
    refine EZ80 rfl ?_
    refine XW_ret (then_ret ?_)
    refine ret_ret (res2 rfl (rv_tmp rfl) (rv_tmp rfl)) (frz2 (Q := Q) (by exact Ls.freeze Ls.nls) (by exact freeze_plain rfl) ?_)
    exact hq
  rw [resP, parS_far h1] at hq
  have hbr : (ba r).size = r.length := ba_size r
  refine CW_pure g68 F68 rfl ?_
  have hS0 : Own ν ν (fun _ => none) [] := Own.nil
  refine XW_sr (OW_as rfl rfl (OW_as rfl rfl ?_))
  refine EZ80 rfl ?_
  refine XW_sr (OW_mv rfl rfl ?_)
  refine OW_fn rfl rfl (rtakeU_e hs h2 ?_) 
  refine OW_mv rfl rfl (EN80 rfl (OW_ex rfl rfl rfl (OW_ex rfl rfl rfl (OW_ex rfl rfl rfl (EN80 rfl (OW_as rfl rfl (OW_as rfl rfl (OW_as rfl rfl ?_))))))))
  refine EZ80 rfl ?_
  refine XW_seq (XW_sr (OW_mv rfl rfl (OW_un rfl rfl rfl (OW_mv rfl rfl (EN80 rfl (OW_mv rfl rfl ?_))))))
  refine OW_bin rfl rfl rfl rfl rfl ?_
  refine OW_pick rfl rfl rfl ?_
  refine EZ80 rfl ?_
  refine XW_if rfl (fun h2 => ?_) (fun h2 => ?_)
  ·try simp only [bs] at h2
   refine XW_sr ?_
   rw [if_neg (by omega)] at hq
   refine OW_as rfl rfl (OW_as rfl rfl ?_)
   refine EZ80 rfl ?_
   refine XW_ret (then_ret ?_)
   refine ret_ret (res2 rfl (rv_tmp rfl) (rv_tmp rfl)) (frz2 (Q := Q) (by exact Ls.freeze Ls.nls) (by exact freeze_plain rfl) ?_)
   exact hq
  try simp only [bs] at h2
  refine XW_skip (then_norm (XW_sr ?_))
  rw [if_pos (by omega)] at hq
  refine OW_bs rfl rfl rfl ?_
  refine OW_as rfl rfl ?_
  refine EZ80 rfl ?_
  refine XW_seq (XW_sr (OW_as rfl rfl ?_))
  refine EZ80 rfl ?_
  refine XW_block ?_
  refine XW_whileN (I := fun ν' mm ee H' => ∃ (i : Nat) (O : AVal) (acc : List Qu) (rest : ByteArray), mm = n - i ∧ under (1 :: 0 :: 1 :: 1 :: 1 :: 1 :: ν) ν' = true ∧ Own ν ν' H' ([sl O 3 (acc.map Qu.enc)]) ∧ (cQu.Far n r i acc rest.data.toList ∧ rest.size ≤ s.size) ∧ ∃ g : Nat → AVal, ee = [g 0, g 1, .nls, .bool false, .int .u64 (n : Int), .str rest, g 6, O, .int .u64 (i : Int), g 9, g 10, g 11, g 12, g 13, g 14, g 15, g 16, g 17, g 18, g 19, g 20, g 21, g 22, g 23, g 24, g 25, g 26, g 27, g 28, g 29, g 30, g 31, g 32, g 33, g 34, g 35, g 36, g 37, g 38, g 39, g 40, g 41, g 42, g 43, g 44, g 45, g 46, g 47, g 48, g 49, g 50, g 51, g 52, g 53, g 54, g 55, g 56, g 57, g 58, g 59, g 60, g 61, g 62, g 63, g 64, g 65, g 66, g 67, g 68, g 69, g 70, g 71, g 72, g 73, g 74, g 75, g 76, g 77, g 78, g 79]) ?_ _ _ _ _ ⟨0, .emp, [], ba r, rfl, under_me, Own.cast (Own.mono (hS0.addE) (le_app (p := ν) (b := [1, 0, 1, 1, 1, 1]))) (rfl), (⟨by rw [ba_data]; exact cQu.far0 n r, by omega⟩), env_g rfl⟩
  rintro ν1 mm ee H1 ⟨i, O, acc, rest, rfl, hU1, hS1, ⟨hF, hrs⟩, g1, rfl⟩
  refine XW_seq (XW_sr (OW_mv rfl rfl (OW_mv rfl rfl ?_)))
  refine OW_bin rfl rfl rfl rfl rfl ?_
  refine EZ80 rfl ?_
  refine XW_if rfl (fun h6 => ?_) (fun h6 => ?_)
  ·try simp only [bs] at h6
   refine XW_skip (then_norm (XW_seq (XW_block (XW_sr ?_))))
   have z1 := resU_size rest; have z2 := resU_size (resU rest).2.1; have z3 := resU_size (resU (resU rest).2.1).2.1; have hal := hF.2.1
   refine OW_mv rfl rfl ?_
   refine OW_fn rfl rfl (rtakeU (by omega) ?_) 
   refine OW_mv rfl rfl (EN80 rfl (OW_ex rfl rfl rfl (OW_ex rfl rfl rfl (OW_ex rfl rfl rfl (EN80 rfl (OW_as rfl rfl (OW_as rfl rfl (OW_as rfl rfl ?_))))))))
   refine EZ80 rfl ?_
   refine XW_sr (OW_mv rfl rfl ?_)
   refine OW_fn rfl rfl (rtakeU (by omega) ?_) 
   refine OW_mv rfl rfl (EN80 rfl (OW_ex rfl rfl rfl (OW_ex rfl rfl rfl (OW_ex rfl rfl rfl (EN80 rfl (OW_as rfl rfl (OW_as rfl rfl (OW_as rfl rfl ?_))))))))
   refine EZ80 rfl ?_
   refine XW_sr (OW_mv rfl rfl ?_)
   refine OW_fn rfl rfl (rtakeU (by omega) ?_) 
   refine OW_mv rfl rfl (EN80 rfl (OW_ex rfl rfl rfl (OW_ex rfl rfl rfl (OW_ex rfl rfl rfl (EN80 rfl (OW_as rfl rfl (OW_as rfl rfl (OW_as rfl rfl ?_))))))))
   refine EZ80 rfl ?_
   refine XW_seq (XW_sr (OW_mv rfl rfl (OW_un rfl rfl rfl (OW_mv rfl rfl (EN80 rfl ?_)))))
   refine OW_split (tt := 56) rfl (fun g11_3 => ?_) (fun g11_3 => ?_)
   ·try simp only [bs] at g11_3
    refine OW_no rfl (OW_no rfl (EN80 rfl (OW_pick rfl rfl rfl (OW_mv rfl rfl (OW_no rfl (EN80 rfl (OW_no rfl (OW_pick rfl rfl rfl ?_))))))))
    refine EZ80 rfl ?_
    refine XW_yes rfl rfl ?_
    refine XW_sr (OW_as rfl rfl (OW_as rfl rfl ?_))
    refine EZ80 rfl ?_
    refine XW_ret (then_ret (block_ret (then_ret (block_ret (then_ret ?_)))))
    refine ret_ret (res2 rfl (rv_tmp rfl) (rv_tmp rfl)) (frz2 (Q := Q) (by exact Ls.freeze Ls.nls) (by exact freeze_plain rfl) ?_)
    (rw [Cod.far_none hF (by omega) (by rw [tk_row, if_neg (by rintro ⟨a1, a2, a3⟩; simp_all)])] at hq; exact hq)
   try simp only [bs] at g11_3
   refine OW_mv rfl rfl (OW_un rfl rfl rfl (EN80 rfl (OW_pick rfl rfl rfl (OW_mv rfl rfl ?_))))
   refine OW_split (tt := 60) rfl (fun g11_7 => ?_) (fun g11_7 => ?_)
   ·try simp only [bs] at g11_7
    refine EN80 rfl (OW_no rfl (OW_no rfl (OW_pick rfl rfl rfl ?_)))
    refine EZ80 rfl ?_
    refine XW_yes rfl rfl ?_
    refine XW_sr (OW_as rfl rfl (OW_as rfl rfl ?_))
    refine EZ80 rfl ?_
    refine XW_ret (then_ret (block_ret (then_ret (block_ret (then_ret ?_)))))
    refine ret_ret (res2 rfl (rv_tmp rfl) (rv_tmp rfl)) (frz2 (Q := Q) (by exact Ls.freeze Ls.nls) (by exact freeze_plain rfl) ?_)
    (rw [Cod.far_none hF (by omega) (by rw [tk_row, if_neg (by rintro ⟨a1, a2, a3⟩; simp_all)])] at hq; exact hq)
   try simp only [bs] at g11_7
   refine EN80 rfl (OW_mv rfl rfl (OW_un rfl rfl rfl (OW_pick rfl rfl rfl ?_)))
   refine EZ80 rfl ?_
   refine XW_if rfl (fun h11 => ?_) (fun h11 => ?_)
   ·try simp only [bs] at h11
    refine XW_sr (OW_as rfl rfl (OW_as rfl rfl ?_))
    refine EZ80 rfl ?_
    refine XW_ret (then_ret (block_ret (then_ret (block_ret (then_ret ?_)))))
    refine ret_ret (res2 rfl (rv_tmp rfl) (rv_tmp rfl)) (frz2 (Q := Q) (by exact Ls.freeze Ls.nls) (by exact freeze_plain rfl) ?_)
    (rw [Cod.far_none hF (by omega) (by rw [tk_row, if_neg (by rintro ⟨a1, a2, a3⟩; simp_all)])] at hq; exact hq)
   try simp only [bs] at h11
   refine XW_skip (then_norm (XW_sr (OW_mv rfl rfl (OW_mv rfl rfl (OW_mv rfl rfl (EN80 rfl (OW_mv rfl rfl ?_)))))))
   refine OW_bd rfl rfl (v := .agg [_, _, _]) rfl ?_
   refine OW_bs rfl rfl (v := .lst [_]) rfl ?_
   refine EN80 rfl ?_
   refine OW_app hS1 (k := 0) rfl (le_app (p := ν1) (b := [6, 0, 1, 1, 1, 1, 0, 1, 0])) (under_app [6, 0, 1, 1, 1, 1, 0, 1, 0] (under_trans (under_app [1, 0, 1, 1, 1, 1] under_me) hU1)) rfl rfl rfl rfl rfl rfl rfl rfl (by rfl) (by exact one_wide rfl) (by (simp only [ss]; omega)) (by decide) fun O1 H2 hS2 => ?_
   replace hS2 : Own _ _ _ ([_]) := hS2
   refine OW_as rfl rfl ?_
   refine EZ80 rfl ?_
   refine XW_region (OW_mv rfl rfl (OW_as rfl rfl ?_))
   refine EZ80 rfl ?_
   refine block_norm (then_norm (XW_region (OW_mv rfl rfl ?_)))
   refine OW_bin rfl rfl rfl rfl (add_wu64 (by omega)) ?_
   refine OW_as rfl rfl ?_
   refine EZ80 rfl ?_
   refine ⟨_, ?_, i + 1, O1, acc ++ [⟨(resU rest).1, (resU (resU rest).2.1).1, (resU (resU (resU rest).2.1).2.1).1⟩], _, rfl, under_in hU1, Own.cast (Own.mono (hS2) (le_lit (ν := ν1) (a := [7, 0, 1, 1, 1, 1, 0, 1, 0]) (b := [1]) (by decide))) (by simp [Qu.enc]), ?_, env_g rfl⟩
   · omega
   exact ⟨Cod.far_step hF (by omega) (by rw [tk_row, if_pos ⟨by simpa using g11_3, by simpa using g11_7, by simpa using h11⟩]), by omega⟩
  try simp only [bs] at h6
  refine XW_exit (then_exit (block_exit (then_norm (XW_seq (XW_sr ?_)))))
  have hal := hF.2.1; have hin := hF.1
  refine OW_mv rfl rfl ?_
  refine OW_bin rfl rfl rfl rfl rfl ?_
  refine OW_mv rfl rfl (EN80 rfl ?_)
  refine OW_split (tt := 74) rfl (fun g15_3 => ?_) (fun g15_3 => ?_)
  ·try simp only [bs] at g15_3
   refine OW_no rfl (OW_no rfl (EN80 rfl (OW_no rfl (OW_pick rfl rfl rfl ?_))))
   refine EZ80 rfl ?_
   refine XW_yes rfl rfl ?_
   refine XW_sr (OW_as rfl rfl (OW_as rfl rfl ?_))
   refine EZ80 rfl ?_
   refine XW_ret (then_ret ?_)
   refine ret_ret (res2 rfl (rv_tmp rfl) (rv_tmp rfl)) (frz2 (Q := Q) (by exact Ls.freeze Ls.nls) (by exact freeze_plain rfl) ?_)
   (rw [Cod.far_end hF (by omega)] at hq; simp only at hq; (rw [if_neg (by rintro ⟨a1, a2⟩; exact g15_3 (nil_str a1))] at hq; exact hq))
  try simp only [bs] at g15_3
  refine OW_mv rfl rfl ?_
  refine OW_fn rfl rfl (r_check (hS1.freeze0 (k := 0) rfl (map_plain (fun _ => rfl))) (by omega) ?_) 
  refine EN80 rfl (OW_un rfl rfl rfl (OW_pick rfl rfl rfl ?_))
  refine EZ80 rfl ?_
  refine XW_if rfl (fun h15 => ?_) (fun h15 => ?_)
  ·try simp only [bs] at h15
   refine XW_sr (OW_as rfl rfl (OW_as rfl rfl ?_))
   refine EZ80 rfl ?_
   refine XW_ret (then_ret ?_)
   refine ret_ret (res2 rfl (rv_tmp rfl) (rv_tmp rfl)) (frz2 (Q := Q) (by exact Ls.freeze Ls.nls) (by exact freeze_plain rfl) ?_)
   (rw [Cod.far_end hF (by omega)] at hq; simp only at hq; (rw [if_neg (by rintro ⟨a1, a2⟩; simp_all)] at hq; exact hq))
  try simp only [bs] at h15
  refine XW_skip (then_norm (XW_sr (OW_mv rfl rfl (OW_as rfl rfl (OW_as rfl rfl ?_)))))
  refine EZ80 rfl ?_
  refine XW_ret ?_
  refine ret_ret (res2 rfl (rv_tmp rfl) (rv_tmp rfl)) (frz2 (Q := Q) (by exact hS1.frz (k := 0) rfl (by exact map_plain (fun _ => rfl))) (by exact freeze_plain rfl) ?_)
  (rw [Cod.far_end hF (by omega)] at hq; simp only at hq; (rw [if_pos ⟨str_nil (by assumption), by assumption⟩] at hq; exact hq))
theorem parS_iff (s : ByteArray) (l : List Qu) : parS s = some l ↔ chkQ l = true ∧ Fit l ∧ s = textS l := by
  unfold parS
  constructor
  · intro h
    cases ha : (cQu.list 16 (by decide)).all s.data.toList with
    | none => rw [ha] at h; cases h
    | some l' =>
      rw [ha] at h
      simp only at h
      split at h
      · rename_i hc
        cases h
        obtain ⟨⟨h1, h2⟩, h3⟩ := (Cod.all_iff _ _ _).1 ha
        exact ⟨hc, h2, by rw [← ba_of s, h3]; rfl⟩
      cases h
  rintro ⟨h1, h2, rfl⟩
  have hc := of_decide_eq_true h1
  have : (cQu.list 16 (by decide)).all (textS l).data.toList = some l := (Cod.all_iff _ _ _).2 ⟨⟨hc.1, h2⟩, rfl⟩
  rw [this]
  simp only [h1, if_true]
theorem resP_len (s : ByteArray) : (resP s).1.length ≤ 16 := by
  unfold resP
  cases h : parS s with
  | none => simp
  | some l => exact (of_decide_eq_true ((parS_iff _ _).1 h).1).1
end Go.Proofs.YtfkgdlfponfimaaGreat.X

/- Quotas in own slices: Set, Take, of the program and of the document's answer (layers 13, 14). -/
set_option linter.unusedVariables false
set_option linter.unusedSimpArgs false
set_option maxRecDepth 100000
namespace Go.Proofs.YtfkgdlfponfimaaGreat.X
open Go Go.RowKit WM
variable {ν β ps pos' : Nm} {H : Heap} {Q : AVal → Heap → Prop} {L : List Asr} {k : Nat} {O : AVal} {t : List Qu}
end Go.Proofs.YtfkgdlfponfimaaGreat.X

/- Layer 13: quota.Give in own slices (Set and Take stand in CF1). -/
set_option linter.unusedVariables false
set_option linter.unusedSimpArgs false
set_option maxRecDepth 100000
namespace Go.Proofs.YtfkgdlfponfimaaGreat.X
open Go Go.RowKit WM
variable {ν β ps pos' : Nm} {H : Heap} {Q : AVal → Heap → Prop} {L : List Asr} {k : Nat} {O : AVal} {t : List Qu}
end Go.Proofs.YtfkgdlfponfimaaGreat.X

/- Layer 13: slices.Repeat of an empty text. -/
set_option linter.unusedVariables false
set_option linter.unusedSimpArgs false
set_option maxRecDepth 100000
namespace Go.Proofs.YtfkgdlfponfimaaGreat.X
open Go Go.RowKit WM
variable {ν β ps pos pos' : Nm} {H H1 : Heap} {Q : AVal → Heap → Prop} {L : List Asr} {k : Nat}
def few (n : Int) : Prop := n = 1 ∨ n = 2 ∨ n = 4 ∨ n = 8 ∨ n = 16
end Go.Proofs.YtfkgdlfponfimaaGreat.X

/- The oracle: plain words for what it keeps, and its map-wise state. -/
set_option linter.unusedVariables false
set_option linter.unusedSimpArgs false
set_option maxRecDepth 100000
namespace Go.Proofs.YtfkgdlfponfimaaGreat.X
open Go Go.RowKit
variable {ν β ps pos' : Nm} {H : Heap} {Q : AVal → Heap → Prop} {L : List Asr}
abbrev eU (n : Int) : AVal := .int .u64 n
abbrev eI (n : Int) : AVal := .int .i64 n
abbrev eS (s : ByteArray) : AVal := .str s
abbrev eTag (p : Int × ByteArray) : AVal := .agg [.int .u64 p.1, .str p.2]
abbrev eSeal (p : Int × Int × ByteArray × ByteArray) : AVal := .agg [.int .u64 p.1, .int .u64 p.2.1, .str p.2.2.1, .str p.2.2.2]
abbrev eTold (p : Int × Int × Int × ByteArray) : AVal := .agg [.int .u64 p.1, .int .u64 p.2.1, .int .u64 p.2.2.1, .str p.2.2.2]
structure Orf where
  draws : List Int
  n : Nat
  bad : Bool
  iss : Int → Option Int
  met : Int → Option Int
  hs : ByteArray → Option Int
  tg : Int × ByteArray → Option Int
  se : Int × Int × ByteArray × ByteArray → Option Int
  op : Int × Int × Int × ByteArray → Option Int
  pl : List ByteArray
namespace Orf
structure ok (F : Orf) : Prop where
  iss : ∀ h, 0 ≤ (F.iss h).getD 0 ∧ (F.iss h).getD 0 ≤ F.n
  op : ∀ k, 0 ≤ (F.op k).getD 0 ∧ (F.op k).getD 0 ≤ F.pl.length
  pl : F.pl.length ≤ F.n
def next (F : Orf) : Int := match F.draws[F.n]? with
  | some h => h
  | none => 9223372036854775808 + (F.n : Int)
def isBad (F : Orf) (h : Int) : Bool := F.bad || (decide (h = 0) || decide ((F.iss h).getD 0 > 0) || decide ((F.met h).getD 0 > 0))
def fresh (F : Orf) : Orf := ⟨F.draws, F.n + 1, F.isBad F.next, fun x => if x = F.next then some ((F.iss F.next).getD 0 + 1) else F.iss x, F.met, F.hs, F.tg, F.se, F.op, F.pl⟩
def hash (F : Orf) (a : ByteArray) : Int × Orf := if (F.hs a).isSome then ((F.hs a).getD 0, F) else (F.next, { F.fresh with hs := fun x => if x = a then some F.next else F.fresh.hs x })
def mac (F : Orf) (k : Int) (a : ByteArray) : Int × Orf := if (F.tg (k, a)).isSome then ((F.tg (k, a)).getD 0, F) else (F.next, { F.fresh with tg := fun x => if x = (k, a) then some F.next else F.fresh.tg x })
def sealv (F : Orf) (k n : Int) (a b : ByteArray) : Int × Orf := if (F.se (k, n, a, b)).isSome then ((F.se (k, n, a, b)).getD 0, F) else (F.next, ⟨F.fresh.draws, F.fresh.n, F.fresh.bad, F.fresh.iss, F.fresh.met, F.fresh.hs, F.fresh.tg, (fun x => if x = (k, n, a, b) then some F.next else F.fresh.se x),
  (if (F.op (k, n, F.next, a)).getD 0 = 0 then (fun x => if x = (k, n, F.next, a) then some ((F.pl.length : Int) + 1) else F.op x) else F.op), F.pl ++ [b]⟩)
def meet (F : Orf) (h : Int) : Orf := if (F.iss h).getD 0 = 0 then ⟨F.draws, F.n, F.bad, F.iss, fun x => if x = h then some 1 else F.met x, F.hs, F.tg, F.se, F.op, F.pl⟩ else F
def verify (F : Orf) (k : Int) (a : ByteArray) (t : Int) : Bool × Orf := if (F.tg (k, a)).isSome ∧ (F.tg (k, a)).getD 0 = t then (true, F) else (false, F.meet t)
def opens (F : Orf) (k n : Int) (ad : ByteArray) (v : Int) : (ByteArray × Bool) × Orf := if (F.op (k, n, v, ad)).getD 0 > 0 then ((F.pl.getD (((F.op (k, n, v, ad)).getD 0).toNat - 1) ⟨#[]⟩, true), F) else ((⟨#[]⟩, false), F.meet v)
def new (d : List Int) : Orf := ⟨d, 0, false, fun _ => none, fun _ => none, fun _ => none, fun _ => none, fun _ => none, fun _ => none, []⟩
end Orf
def orc (q : Nm) (F : Orf) : Asr := Asr.ex fun v : AVal × AVal × Nm × Nm × Nm × Nm × Nm × Nm =>
  Asr.all [row q 10 [.agg [v.1, .int .i64 F.n, .bool F.bad, .map v.2.2.1, .map v.2.2.2.1, .map v.2.2.2.2.1, .map v.2.2.2.2.2.1, .map v.2.2.2.2.2.2.1, .map v.2.2.2.2.2.2.2, v.2.1]],
    sl v.1 1 (F.draws.map eU), sl v.2.1 1 (F.pl.map eS), mpF v.2.2.1 eU eI F.iss, mpF v.2.2.2.1 eU eI F.met, mpF v.2.2.2.2.1 eS eU F.hs, mpF v.2.2.2.2.2.1 eTag eU F.tg, mpF v.2.2.2.2.2.2.1 eSeal eU F.se, mpF v.2.2.2.2.2.2.2 eTold eI F.op]
end Go.Proofs.YtfkgdlfponfimaaGreat.X

/- What the program's oracle does. -/
set_option linter.unusedVariables false
set_option linter.unusedSimpArgs false
set_option maxRecDepth 100000
namespace Go.Proofs.YtfkgdlfponfimaaGreat.X
open Go Go.RowKit
variable {ν β ps pos' : Nm} {H : Heap} {Q : AVal → Heap → Prop} {L : List Asr} {q : Nm} {F : Orf} {k : Nat}
end Go.Proofs.YtfkgdlfponfimaaGreat.X

/- What the program's oracle does: the rest. -/
set_option linter.unusedVariables false
set_option linter.unusedSimpArgs false
set_option maxRecDepth 100000
namespace Go.Proofs.YtfkgdlfponfimaaGreat.X
open Go Go.RowKit
variable {ν β ps pos' : Nm} {H : Heap} {Q : AVal → Heap → Prop} {L : List Asr} {q : Nm} {F : Orf} {k : Nat}
end Go.Proofs.YtfkgdlfponfimaaGreat.X

/- What the program's oracle does: any call, a new one. -/
set_option linter.unusedVariables false
set_option linter.unusedSimpArgs false
set_option maxRecDepth 100000
namespace Go.Proofs.YtfkgdlfponfimaaGreat.X
open Go Go.RowKit
variable {ν β ps pos' : Nm} {H : Heap} {Q : AVal → Heap → Prop} {L : List Asr} {q : Nm} {F : Orf} {k : Nat}
structure Ca where
  d : Int
  k : Int
  n : Int
  h : Int
  a : ByteArray
  b : ByteArray
def Ca.enc (c : Ca) : AVal := .agg [.int .i64 c.d, .int .u64 c.k, .int .u64 c.n, .int .u64 c.h, .str c.a, .str c.b]
def Orf.act (F : Orf) (c : Ca) : Int × ByteArray × Bool × Orf :=
  if c.d = 0 then (F.next, ⟨#[]⟩, true, F.fresh)
  else if c.d = 1 then ((F.hash c.a).1, ⟨#[]⟩, true, (F.hash c.a).2)
  else if c.d = 2 then ((F.mac c.k c.a).1, ⟨#[]⟩, true, (F.mac c.k c.a).2)
  else if c.d = 3 then (0, ⟨#[]⟩, (F.verify c.k c.a c.h).1, (F.verify c.k c.a c.h).2)
  else if c.d = 4 then ((F.sealv c.k c.n c.a c.b).1, ⟨#[]⟩, true, (F.sealv c.k c.n c.a c.b).2)
  else if c.d = 5 then (0, (F.opens c.k c.n c.a c.h).1.1, (F.opens c.k c.n c.a c.h).1.2, (F.opens c.k c.n c.a c.h).2)
  else if c.d = 6 then (0, ⟨#[]⟩, false, F.meet c.h)
  else (0, ⟨#[]⟩, false, F)
abbrev Int.enc (n : Int) : AVal := .int .u64 n
theorem Int.clone {ν β ps pos' : Nm} {H : Heap} {Q : AVal → Heap → Prop} {L : List Asr} {ls : List Int} {S : AVal} (hv : Ls S (ls.map Int.enc)) (hS : Own β ps H L) (hle : le ps ν) (hβ : under β ν = true) (hp : before ν pos') (hn : ls.length ≤ 4294967296)
    (hq : ∀ v H', Own β pos' H' (sl v 1 (ls.map Int.enc) :: L) → Q v H') : CW cfg ν 84 [S] H Q := by
  have body : ∀ S, (S = .nls ∨ S = .nne) → XW cfg ν fi84.body (start fi84 [S]) (fun _ => none) (retW cfg.T fi84 fun v _ => isEmp v = true) := by
    rintro S (rfl | rfl)
    · refine XW_sr ?_
      refine OW_as rfl rfl ?_
      refine OW_nilE (e' := [_, _, _, _, _, _, _, _]) rfl ?_
      refine XW_seq (XW_sr (OW_mv rfl rfl ?_))
      refine OW_bin rfl rfl rfl rfl rfl ?_
      refine OW_nilE (e' := [_, _, _, _, _, _, _, _]) rfl ?_
      refine XW_yes rfl rfl ?_
      refine XW_sr (OW_as rfl rfl ?_)
      refine OW_nilE (e' := [_, _, _, _, _, _, _, _]) rfl ?_
      refine XW_ret (then_ret ?_)
      exact ret_ret rfl rfl
    refine XW_sr (OW_as rfl rfl ?_)
    refine OW_nilE (e' := [_, _, _, _, _, _, _, _]) rfl ?_
    refine XW_seq (XW_sr (OW_mv rfl rfl ?_))
    refine OW_bin rfl rfl rfl rfl rfl ?_
    refine OW_nilE (e' := [_, _, _, _, _, _, _, _]) rfl ?_
    refine XW_no rfl rfl ?_
    refine XW_skip (then_norm (XW_sr ?_))
    refine OW_bs rfl rfl rfl ?_
    refine OW_mv rfl rfl (OW_bi rfl rfl rfl ?_)
    refine OW_env (e' := [_, _, _, _, _, _, _, _]) rfl ?_
    refine OW_as rfl rfl ?_
    refine OW_nilE (e' := [_, _, _, _, _, _, _, _]) rfl ?_
    refine XW_ret ?_
    exact ret_ret rfl rfl
  by_cases h0 : noneIn [S] = true
  · refine CW_clone0 g84 F84 rfl h0 (body _ (.inl rfl)) (body _ (.inr rfl)) (hq _ _ ?_)
    obtain rfl : ls = [] := by
      rcases hv with rfl | ⟨h, _⟩
      · cases ls with
        | nil => rfl
        | cons x r => simp [noneIn] at h0
      simpa using h
    exact (hS.mono (hle.trans (le_bef hp))).addE
  have h0 : noneIn [S] = false := by simpa using h0
  rcases hv with rfl | ⟨h, rfl | rfl⟩
  · obtain ⟨x, r, rfl⟩ : ∃ x r, ls = x :: r := by
      cases ls with
      | nil => simp [noneIn] at h0
      | cons x r => exact ⟨x, r, rfl⟩
    refine CW_clone g84 F84 rfl h0 ?_
    refine XW_sr (OW_as rfl rfl ?_)
    refine OW_nilE (e' := [_, _, _, _, _, _, _, _]) rfl ?_
    refine XW_seq (XW_sr (OW_mv rfl rfl ?_))
    refine OW_bin rfl rfl rfl rfl rfl ?_
    refine OW_nilE (e' := [_, _, _, _, _, _, _, _]) rfl ?_
    refine XW_no rfl rfl ?_
    refine XW_skip (then_norm (XW_sr ?_))
    refine OW_bs rfl rfl rfl ?_
    refine OW_mv rfl rfl ?_
    refine OW_appE (hS.mono hle) (le_app (b := [2, 0, 1, 1])) (under_app [2, 0, 1, 1] hβ) rfl rfl rfl rfl rfl rfl rfl rfl (Ls.elems Ls.of) (map_wide (fun _ => rfl)) (by simpa using hn) (by decide) fun O2 H2 hS2 => ?_
    refine OW_env (e' := [_, _, _, _, _, _, _, _]) rfl ?_
    refine OW_as rfl rfl ?_
    refine OW_nilE (e' := [_, _, _, _, _, _, _, _]) rfl ?_
    refine XW_ret ?_
    exact ret_ret rfl (hq _ _ (hS2.mono (le_bef (bef_app (a := [3, 0, 1, 1]) hp))))
  · simp [noneIn] at h0
  obtain rfl : ls = [] := by simpa using h
  refine CW_clone g84 F84 rfl rfl ?_
  refine XW_sr (OW_as rfl rfl ?_)
  refine OW_nilE (e' := [_, _, _, _, _, _, _, _]) rfl ?_
  refine XW_seq (XW_sr (OW_mv rfl rfl ?_))
  refine OW_bin rfl rfl rfl rfl rfl ?_
  refine OW_nilE (e' := [_, _, _, _, _, _, _, _]) rfl ?_
  refine XW_yes rfl rfl ?_
  refine XW_sr (OW_as rfl rfl ?_)
  refine OW_nilE (e' := [_, _, _, _, _, _, _, _]) rfl ?_
  refine XW_ret (then_ret ?_)
  exact ret_ret rfl (hq _ _ (hS.mono (hle.trans (le_bef hp))).addN)
end Go.Proofs.YtfkgdlfponfimaaGreat.X

/- What the reference's oracle does. -/
set_option linter.unusedVariables false
set_option linter.unusedSimpArgs false
set_option maxRecDepth 100000
namespace Go.Proofs.YtfkgdlfponfimaaGreat.X
open Go Go.RowKit
variable {ν β ps pos' : Nm} {H : Heap} {Q : AVal → Heap → Prop} {L : List Asr} {q : Nm} {k : Nat}
structure Rw where
  t : Int
  k : Int
  n : Int
  a : ByteArray
  b : ByteArray
  h : Int
def Rw.enc (x : Rw) : AVal := .agg [.int .i64 x.t, .int .u64 x.k, .int .u64 x.n, .str x.a, .str x.b, .int .u64 x.h]
structure Rf where
  draws : List Int
  rows : List Rw
  met : List Int
  bads : Nat
def Rw.same (x y : Rw) : Bool := decide (x.t ≠ 0) && decide (y.t = x.t) && decide (y.k = x.k) && decide (y.n = x.n) && decide (y.a = x.a) && decide (y.b = x.b)
namespace Rf
structure le (S : Rf) (N : Nat) : Prop where
  rows : S.rows.length ≤ N
  met : S.met.length ≤ N
  bads : S.bads ≤ N
def issued (S : Rf) (h : Int) : Bool := S.rows.any fun x => decide (x.h = h)
def shown (S : Rf) (h : Int) : Bool := S.met.any fun x => decide (x = h)
def next (S : Rf) : Int := match S.draws[S.rows.length]? with
  | some h => h
  | none => 9223372036854775808 + (S.rows.length : Int)
def isBad (S : Rf) (h : Int) : Bool := decide (h = 0) || S.issued h || S.shown h
def draw (S : Rf) (x : Rw) : Rf := ⟨S.draws, S.rows ++ [⟨x.t, x.k, x.n, x.a, x.b, S.next⟩], S.met, S.bads + if S.isBad S.next then 1 else 0⟩
def at_ (S : Rf) (x : Rw) : Int := firstI (fun y => x.same y) S.rows 0
def value (S : Rf) (x : Rw) : Int × Rf := match S.rows.find? (fun y => x.same y) with
  | some y => (y.h, S)
  | none => (S.next, S.draw x)
def meet (S : Rf) (h : Int) : Rf := if S.issued h then S else ⟨S.draws, S.rows, S.met ++ [h], S.bads⟩
def verify (S : Rf) (k : Int) (a : ByteArray) (t : Int) : Bool × Rf := match S.rows.find? (fun y => (Rw.mk 2 k 0 a ⟨#[]⟩ 0).same y) with
  | some y => if y.h = t then (true, S) else (false, S.meet t)
  | none => (false, S.meet t)
def isOpen (k n : Int) (a : ByteArray) (c : Int) (y : Rw) : Bool := decide (y.t = 3) && decide (y.k = k) && decide (y.n = n) && decide (y.a = a) && decide (y.h = c)
def opens (S : Rf) (k n : Int) (a : ByteArray) (c : Int) : (ByteArray × Bool) × Rf := match S.rows.find? (isOpen k n a c) with
  | some y => ((y.b, true), S)
  | none => ((⟨#[]⟩, false), S.meet c)
def fresh (S : Rf) : Rf := S.draw ⟨0, 0, 0, ⟨#[]⟩, ⟨#[]⟩, 0⟩
def hash (S : Rf) (a : ByteArray) := S.value ⟨1, 0, 0, a, ⟨#[]⟩, 0⟩
def mac (S : Rf) (k : Int) (a : ByteArray) := S.value ⟨2, k, 0, a, ⟨#[]⟩, 0⟩
def sealv (S : Rf) (k n : Int) (a b : ByteArray) := S.value ⟨3, k, n, a, b, 0⟩
end Rf
def rorc (q : Nm) (S : Rf) : Asr := Asr.ex fun v : AVal × AVal × AVal => Asr.all [row q 4 [.agg [v.1, v.2.1, v.2.2, .int .i64 S.bads]], sl v.1 1 (S.draws.map eU), sl v.2.1 6 (S.rows.map Rw.enc), sl v.2.2 1 (S.met.map eU)]
variable {S : Rf}
section
variable {D R M B : AVal} {k0 k1 : Nat}
end
end Go.Proofs.YtfkgdlfponfimaaGreat.X

/- What the reference's oracle does: the writers. -/
set_option linter.unusedVariables false
set_option linter.unusedSimpArgs false
set_option maxRecDepth 100000
namespace Go.Proofs.YtfkgdlfponfimaaGreat.X
open Go Go.RowKit
variable {ν β ps pos' : Nm} {H : Heap} {Q : AVal → Heap → Prop} {L : List Asr} {q : Nm} {k : Nat} {S : Rf}
end Go.Proofs.YtfkgdlfponfimaaGreat.X

/- What the reference's oracle does: any call, a new one. -/
set_option linter.unusedVariables false
set_option linter.unusedSimpArgs false
set_option maxRecDepth 100000
namespace Go.Proofs.YtfkgdlfponfimaaGreat.X
open Go Go.RowKit
variable {ν β ps pos' : Nm} {H : Heap} {Q : AVal → Heap → Prop} {L : List Asr} {q : Nm} {k : Nat} {S : Rf}
def Rf.act (S : Rf) (c : Ca) : Int × ByteArray × Bool × Rf :=
  if c.d = 0 then (S.next, ⟨#[]⟩, true, S.fresh)
  else if c.d = 1 then ((S.hash c.a).1, ⟨#[]⟩, true, (S.hash c.a).2)
  else if c.d = 2 then ((S.mac c.k c.a).1, ⟨#[]⟩, true, (S.mac c.k c.a).2)
  else if c.d = 3 then (0, ⟨#[]⟩, (S.verify c.k c.a c.h).1, (S.verify c.k c.a c.h).2)
  else if c.d = 4 then ((S.sealv c.k c.n c.a c.b).1, ⟨#[]⟩, true, (S.sealv c.k c.n c.a c.b).2)
  else if c.d = 5 then (0, (S.opens c.k c.n c.a c.h).1.1, (S.opens c.k c.n c.a c.h).1.2, (S.opens c.k c.n c.a c.h).2)
  else if c.d = 6 then (0, ⟨#[]⟩, false, S.meet c.h)
  else (0, ⟨#[]⟩, false, S)
def Rf.new (d : List Int) : Rf := ⟨d, [], [], 0⟩
end Go.Proofs.YtfkgdlfponfimaaGreat.X

/- The program's oracle and the reference's: the same, call by call. -/
set_option linter.unusedVariables false
set_option linter.unusedSimpArgs false
namespace Go.Proofs.YtfkgdlfponfimaaGreat.X
open Go Go.RowKit
namespace Rf
variable {S : Rf}
def t3 (y : Rw) : Bool := decide (y.t = 3)
def hsF (S : Rf) (a : ByteArray) : Option Int := (S.rows.find? fun y => (Rw.mk 1 0 0 a ⟨#[]⟩ 0).same y).map (·.h)
def tgF (S : Rf) (p : Int × ByteArray) : Option Int := (S.rows.find? fun y => (Rw.mk 2 p.1 0 p.2 ⟨#[]⟩ 0).same y).map (·.h)
def seF (S : Rf) (p : Int × Int × ByteArray × ByteArray) : Option Int := (S.rows.find? fun y => (Rw.mk 3 p.1 p.2.1 p.2.2.1 p.2.2.2 0).same y).map (·.h)
def opI (S : Rf) (p : Int × Int × Int × ByteArray) : Int := firstI (isOpen p.1 p.2.1 p.2.2.2 p.2.2.1) (S.rows.filter t3) 0
def opF (S : Rf) (p : Int × Int × Int × ByteArray) : Option Int := if S.opI p < 0 then none else some (S.opI p + 1)
def issF (S : Rf) (h : Int) : Option Int := if S.rows.countP (fun x => decide (x.h = h)) = 0 then none else some (S.rows.countP (fun x => decide (x.h = h)) : Nat)
def metF (S : Rf) (h : Int) : Option Int := if h ∈ S.met then some 1 else none
def of (S : Rf) : Orf := ⟨S.draws, S.rows.length, decide (S.bads > 0), S.issF, S.metF, S.hsF, S.tgF, S.seF, S.opF, (S.rows.filter t3).map (·.b)⟩
end Rf
end Go.Proofs.YtfkgdlfponfimaaGreat.X

/- The reference's oracle: bounds. -/
set_option linter.unusedVariables false
set_option linter.unusedSimpArgs false
set_option maxRecDepth 100000
namespace Go.Proofs.YtfkgdlfponfimaaGreat.X
open Go Go.RowKit
variable {ν β ps pos' : Nm} {H : Heap} {Q : AVal → Heap → Prop} {L : List Asr} {q : Nm} {k : Nat} {S : Rf}
theorem Rf.le.mono {N M : Nat} (h : S.le N) (hm : N ≤ M) : S.le M := ⟨Nat.le_trans h.rows hm, Nat.le_trans h.met hm, Nat.le_trans h.bads hm⟩
end Go.Proofs.YtfkgdlfponfimaaGreat.X

/- The reference's oracle: what holds where nothing bad happened. -/
set_option linter.unusedVariables false
set_option linter.unusedSimpArgs false
namespace Go.Proofs.YtfkgdlfponfimaaGreat.X
open Go Go.RowKit
namespace Rf
variable {S : Rf}
structure Good (S : Rf) : Prop where
  nd : S.rows.Pairwise fun x y => x.h ≠ y.h
  nz : ∀ x ∈ S.rows, x.h ≠ 0
  mt : ∀ h ∈ S.met, S.issued h = false
structure Inv (S : Rf) : Prop where
  good : S.bads = 0 → S.Good
  uniq : S.rows.Pairwise fun x y => x.same y = false
def run (S : Rf) : List Ca → Rf
  | [] => S
  | c :: l => (S.act c).2.2.2.run l
end Rf
end Go.Proofs.YtfkgdlfponfimaaGreat.X

/- The program's oracle, told by the reference's state. -/
set_option linter.unusedVariables false
set_option linter.unusedSimpArgs false
set_option maxRecDepth 100000
namespace Go.Proofs.YtfkgdlfponfimaaGreat.X
open Go Go.RowKit
variable {ν β ps pos' : Nm} {H : Heap} {Q : AVal → Heap → Prop} {L : List Asr} {q : Nm} {k : Nat} {S : Rf}
section
variable (hS : Own β ps H L) (hL : L[k]? = some (orc q S.of)) (hle : le ps ν) (hβ : under β ν = true) (hp : before ν pos')
include hS hL hle hβ hp
end
namespace Rf
end Rf
end Go.Proofs.YtfkgdlfponfimaaGreat.X

/- What values an oracle gives, where nothing bad happened; contracts with the states named. -/
set_option linter.unusedVariables false
set_option linter.unusedSimpArgs false
set_option maxRecDepth 100000
namespace Go.Proofs.YtfkgdlfponfimaaGreat.X
open Go Go.RowKit
variable {ν β ps pos' : Nm} {H : Heap} {Q : AVal → Heap → Prop} {L : List Asr} {q : Nm} {k : Nat} {S T : Rf}
namespace Rf
theorem pair_once {α : Type} {r : α → α → Prop} : ∀ {l : List α} {x y : α}, l.Pairwise r → x ∈ l → y ∈ l → ¬ r x y → ¬ r y x → x = y
  | [], _, _, _, h, _, _, _ => by simp at h
  | a :: l, x, y, hp, hx, hy, h1, h2 => by
    rw [List.pairwise_cons] at hp
    rcases List.mem_cons.1 hx with ex | hx'
    · rcases List.mem_cons.1 hy with ey | hy'
      · rw [ex, ey]
      subst ex; exact absurd (hp.1 y hy') h1
    rcases List.mem_cons.1 hy with ey | hy'
    · subst ey; exact absurd (hp.1 x hx') h2
    exact pair_once hp.2 hx' hy' h1 h2
theorem Good.one (hg : S.Good) {x y : Rw} (hx : x ∈ S.rows) (hy : y ∈ S.rows) (h : x.h = y.h) : x = y := pair_once hg.nd hx hy (fun e => e h) (fun e => e h.symm)
theorem same_iff {x y : Rw} : x.same y = true ↔ x.t ≠ 0 ∧ y.t = x.t ∧ y.k = x.k ∧ y.n = x.n ∧ y.a = x.a ∧ y.b = x.b := by
  simp only [Rw.same, Bool.and_eq_true, decide_eq_true_eq]
  constructor
  · rintro ⟨⟨⟨⟨⟨a, b⟩, c⟩, d⟩, e⟩, f⟩; exact ⟨a, b, c, d, e, f⟩
  rintro ⟨a, b, c, d, e, f⟩; exact ⟨⟨⟨⟨⟨a, b⟩, c⟩, d⟩, e⟩, f⟩
theorem Inv.key (hi : S.Inv) {x y z : Rw} (hy : y ∈ S.rows) (hz : z ∈ S.rows) (h1 : x.same y = true) (h2 : x.same z = true) : y = z := by
  rw [same_iff] at h1 h2
  have e1 : y.same z = true := same_iff.2 ⟨by rw [h1.2.1]; exact h1.1, by rw [h2.2.1, h1.2.1], by rw [h2.2.2.1, h1.2.2.1], by rw [h2.2.2.2.1, h1.2.2.2.1], by rw [h2.2.2.2.2.1, h1.2.2.2.2.1], by rw [h2.2.2.2.2.2, h1.2.2.2.2.2]⟩
  have e2 : z.same y = true := same_iff.2 ⟨by rw [h2.2.1]; exact h2.1, by rw [h2.2.1, h1.2.1], by rw [h2.2.2.1, h1.2.2.1], by rw [h2.2.2.2.1, h1.2.2.2.1], by rw [h2.2.2.2.2.1, h1.2.2.2.2.1], by rw [h2.2.2.2.2.2, h1.2.2.2.2.2]⟩
  exact pair_once hi.uniq hy hz (fun e => by rw [e1] at e; cases e) (fun e => by rw [e2] at e; cases e)
theorem Inv.find (hi : S.Inv) {x y : Rw} (hy : y ∈ S.rows) (h : x.same y = true) : S.rows.find? (fun z => x.same z) = some y := by
  cases hf : S.rows.find? (fun z => x.same z) with
  | none => rw [List.find?_eq_none] at hf; exact absurd h (hf y hy)
  | some z => rw [hi.key (List.mem_of_find?_eq_some hf) hy (List.find?_some hf) h]
structure Up (S T : Rf) : Prop where
  inv : S.Inv → T.Inv
  sub : ∀ x ∈ S.rows, x ∈ T.rows
  bads : S.bads ≤ T.bads
  len : S.rows.length ≤ T.rows.length
  draws : T.draws = S.draws
theorem Up.trans {U : Rf} (h : S.Up T) (h2 : T.Up U) : S.Up U := ⟨fun i => h2.inv (h.inv i), fun x hx => h2.sub x (h.sub x hx), Nat.le_trans h.bads h2.bads, Nat.le_trans h.len h2.len, h2.draws.trans h.draws⟩
theorem Up.refl : S.Up S := ⟨id, fun _ h => h, Nat.le_refl _, Nat.le_refl _, rfl⟩
end Rf
section
variable (hS : Own β ps H L) (hL : L[k]? = some (orc q S.of)) (hle : le ps ν) (hβ : under β ν = true) (hp : before ν pos')
include hS hL hle hβ hp
end
end Go.Proofs.YtfkgdlfponfimaaGreat.X

/- Layer 07: tokens: their texts, issuing and checking; what the functions of token and of the reference do. -/
set_option linter.unusedVariables false
set_option linter.unusedSimpArgs false
set_option maxRecDepth 100000
namespace Go.Proofs.YtfkgdlfponfimaaGreat.X
open Go Go.RowKit WM
variable {ν β ps pos' : Nm} {H : Heap} {Q : AVal → Heap → Prop} {L : List Asr} {q : Nm} {k : Nat} {S T : Rf}
abbrev U64 (n : Int) : Prop := 0 ≤ n ∧ n ≤ 18446744073709551615
structure Tk where
  tn : Int
  vo : Int
  ep : Int
  ri : Int
  tag : Int
  deriving DecidableEq
def Tk.enc (x : Tk) : AVal := .agg [.int .u64 x.tn, .int .u64 x.vo, .int .u64 x.ep, .int .u64 x.ri, .int .u64 x.tag]
def Tk.fit (x : Tk) : Prop := U64 x.tn ∧ U64 x.vo ∧ U64 x.ep ∧ U64 x.ri ∧ U64 x.tag
def Tk.z : Tk := ⟨0, 0, 0, 0, 0⟩
def cFd : Cod (Int × Int × Int × Int) := cI.pair (cI.pair (cI.pair cI))
def cTk : Cod Tk := (cI.pair (cI.pair (cI.pair (cI.pair cI)))).iso (fun p => ⟨p.1, p.2.1, p.2.2.1, p.2.2.2.1, p.2.2.2.2⟩) (fun x => (x.tn, x.vo, x.ep, x.ri, x.tag)) (fun _ => rfl) (fun _ => rfl)
def fdB (t : Tk) : ByteArray := ba (cFd.enc (t.tn, t.vo, t.ep, t.ri))
def tkB (t : Tk) : ByteArray := (⟨#[116, 111, 107, 101, 110]⟩ : ByteArray) ++ fdB t
def pkB (t : Tk) : ByteArray := ba (cTk.enc t)
theorem fdB_eq (t : Tk) : ba (encU t.tn.toNat) ++ ba (encU t.vo.toNat) ++ ba (encU t.ep.toNat) ++ ba (encU t.ri.toNat) = fdB t := by
  rw [ba_append, ba_append, ba_append, List.append_assoc, List.append_assoc]; rfl
theorem pkB_eq (t : Tk) : fdB t ++ ba (encU t.tag.toNat) = pkB t := by
  rw [← fdB_eq, ba_append, ba_append, ba_append, ba_append, List.append_assoc, List.append_assoc, List.append_assoc]; rfl
theorem fdB_size {t : Tk} (h : t.fit) : (fdB t).size ≤ 40 := by
  have h1 := encU_i h.1; have h2 := encU_i h.2.1; have h3 := encU_i h.2.2.1; have h4 := encU_i h.2.2.2.1
  rw [← fdB_eq]; simp only [ByteArray.size_append]; omega
theorem pkB_size {t : Tk} (h : t.fit) : (pkB t).size ≤ 50 := by
  have h1 := encU_i h.2.2.2.2; have h2 := fdB_size h
  rw [← pkB_eq]; simp only [ByteArray.size_append]; omega
def resK (s : ByteArray) : Tk × Bool := match cTk.all s.data.toList with
  | some l => (l, true)
  | none => (Tk.z, false)
abbrev r1 (s : ByteArray) := resU s
abbrev r2 (s : ByteArray) := resU (r1 s).2.1
abbrev r3 (s : ByteArray) := resU (r2 s).2.1
abbrev r4 (s : ByteArray) := resU (r3 s).2.1
abbrev r5 (s : ByteArray) := resU (r4 s).2.1
theorem fieldsW {t : Tk} (h : t.fit) (hq : Q (.str (fdB t)) H) : CW cfg ν 108 [t.enc] H Q := by
  obtain ⟨ha, hb, hc, hd, he⟩ := h
  have h1 := encU_i ha; have h2 := encU_i hb; have h3 := encU_i hc; have h4 := encU_i hd
  rw [← fdB_eq] at hq
  refine CW_pure g108 F108 rfl ?_
  have hS0 : Own ν ν (fun _ => none) [] := Own.nil
  refine XW_sr ?_
  refine OW_boxR hS0 (le_app (p := ν) (b := [0, 0])) (under_app [0, 0] under_me) rfl rfl rfl ⟨rfl, rfl⟩ fun H1 hS1 => ?_
  replace hS1 : Own _ _ _ ([_]) := hS1
  refine OW_as rfl rfl ?_
  refine OW_nilE (e' := [_,_,_,_,_,_,_,_,_,_,_,_,_,_,_,_,_,_]) rfl ?_
  refine XW_sr (OW_fa rfl rfl rfl ?_)
  refine OW_loadR hS1 (k := 0) rfl rfl rfl rfl rfl (by rfl) ?_
  refine OW_fn rfl rfl (putUi (by assumption) ?_) 
  refine EN18 rfl (OW_fa rfl rfl rfl ?_)
  refine OW_loadR hS1 (k := 0) rfl rfl rfl rfl rfl (by rfl) ?_
  refine OW_fn rfl rfl (putUi (by assumption) ?_) 
  refine EN18 rfl ?_
  refine OW_bin rfl rfl rfl rfl (cat (by omega)) ?_
  refine OW_fa rfl rfl rfl ?_
  refine OW_loadR hS1 (k := 0) rfl rfl rfl rfl rfl (by rfl) ?_
  refine EN18 rfl ?_
  refine OW_fn rfl rfl (putUi (by assumption) ?_) 
  refine OW_bin rfl rfl rfl rfl (cat (by (simp only [ss]; omega))) ?_
  refine OW_fa rfl rfl rfl (EN18 rfl ?_)
  refine OW_loadR hS1 (k := 0) rfl rfl rfl rfl rfl (by rfl) ?_
  refine OW_fn rfl rfl (putUi (by assumption) ?_) 
  refine OW_bin rfl rfl rfl rfl (cat (by (simp only [ss]; omega))) ?_
  refine EN18 rfl (OW_as rfl rfl ?_)
  refine OW_nilE (e' := [_,_,_,_,_,_,_,_,_,_,_,_,_,_,_,_,_,_]) rfl ?_
  refine XW_ret ?_
  refine ret_ret (res1 rfl (rv_tmp rfl)) (frz1 (Q := Q) (by exact freeze_plain rfl) ?_)
  exact hq
theorem packW {t : Tk} (h : t.fit) (hq : Q (.str (pkB t)) H) : CW cfg ν 69 [t.enc] H Q := by
  have hz := fdB_size h
  have hh := h
  obtain ⟨ha, hb, hc, hd, he⟩ := h
  have h1 := encU_i he
  rw [← pkB_eq] at hq
  refine CW_pure g69 F69 rfl ?_
  have hS0 : Own ν ν (fun _ => none) [] := Own.nil
  refine XW_sr ?_
  refine OW_boxR hS0 (le_app (p := ν) (b := [0, 0])) (under_app [0, 0] under_me) rfl rfl rfl ⟨rfl, rfl⟩ fun H1 hS1 => ?_
  replace hS1 : Own _ _ _ ([_]) := hS1
  refine OW_as rfl rfl ?_
  refine OW_nilE (e' := [_,_,_,_,_,_,_,_,_]) rfl ?_
  refine XW_sr ?_
  refine OW_loadR hS1 (k := 0) rfl rfl rfl rfl rfl (by exact part_whole rfl rfl rfl) ?_
  refine OW_fn rfl rfl (fieldsW (by assumption) ?_) 
  refine OW_fa rfl rfl rfl ?_
  refine OW_env (e' := [_,_,_,_,_,_,_,_,_]) rfl ?_
  refine OW_loadR hS1 (k := 0) rfl rfl rfl rfl rfl (by rfl) ?_
  refine OW_fn rfl rfl (putUi (by assumption) ?_) 
  refine OW_bin rfl rfl rfl rfl (cat (by omega)) ?_
  refine OW_env (e' := [_,_,_,_,_,_,_,_,_]) rfl ?_
  refine OW_as rfl rfl ?_
  refine OW_nilE (e' := [_,_,_,_,_,_,_,_,_]) rfl ?_
  refine XW_ret ?_
  refine ret_ret (res1 rfl (rv_tmp rfl)) (frz1 (Q := Q) (by exact freeze_plain rfl) ?_)
  exact hq
theorem saidW {t : Tk} (h : t.fit) (hq : Q (.str (fdB t)) H) : CW cfg ν 89 [t.enc] H Q := by
  obtain ⟨ha, hb, hc, hd, he⟩ := h
  have h1 := encU_i ha; have h2 := encU_i hb; have h3 := encU_i hc; have h4 := encU_i hd
  rw [← fdB_eq] at hq
  refine CW_pure g89 F89 rfl ?_
  have hS0 : Own ν ν (fun _ => none) [] := Own.nil
  refine XW_sr ?_
  refine OW_boxR hS0 (le_app (p := ν) (b := [0, 0])) (under_app [0, 0] under_me) rfl rfl rfl ⟨rfl, rfl⟩ fun H1 hS1 => ?_
  replace hS1 : Own _ _ _ ([_]) := hS1
  refine OW_as rfl rfl ?_
  refine OW_nilE (e' := [_,_,_,_,_,_,_,_,_,_,_,_,_,_,_,_,_,_]) rfl ?_
  refine XW_sr (OW_fa rfl rfl rfl ?_)
  refine OW_loadR hS1 (k := 0) rfl rfl rfl rfl rfl (by rfl) ?_
  refine OW_fn rfl rfl (rputUi (by assumption) ?_) 
  refine EN18 rfl (OW_fa rfl rfl rfl ?_)
  refine OW_loadR hS1 (k := 0) rfl rfl rfl rfl rfl (by rfl) ?_
  refine OW_fn rfl rfl (rputUi (by assumption) ?_) 
  refine EN18 rfl ?_
  refine OW_bin rfl rfl rfl rfl (cat (by omega)) ?_
  refine OW_fa rfl rfl rfl ?_
  refine OW_loadR hS1 (k := 0) rfl rfl rfl rfl rfl (by rfl) ?_
  refine EN18 rfl ?_
  refine OW_fn rfl rfl (rputUi (by assumption) ?_) 
  refine OW_bin rfl rfl rfl rfl (cat (by (simp only [ss]; omega))) ?_
  refine OW_fa rfl rfl rfl (EN18 rfl ?_)
  refine OW_loadR hS1 (k := 0) rfl rfl rfl rfl rfl (by rfl) ?_
  refine OW_fn rfl rfl (rputUi (by assumption) ?_) 
  refine OW_bin rfl rfl rfl rfl (cat (by (simp only [ss]; omega))) ?_
  refine EN18 rfl (OW_as rfl rfl ?_)
  refine OW_nilE (e' := [_,_,_,_,_,_,_,_,_,_,_,_,_,_,_,_,_,_]) rfl ?_
  refine XW_ret ?_
  refine ret_ret (res1 rfl (rv_tmp rfl)) (frz1 (Q := Q) (by exact freeze_plain rfl) ?_)
  exact hq
theorem rpackW {t : Tk} (h : t.fit) (hq : Q (.str (pkB t)) H) : CW cfg ν 70 [t.enc] H Q := by
  have hz := fdB_size h
  have hh := h
  obtain ⟨ha, hb, hc, hd, he⟩ := h
  have h1 := encU_i he
  rw [← pkB_eq] at hq
  refine CW_pure g70 F70 rfl ?_
  have hS0 : Own ν ν (fun _ => none) [] := Own.nil
  refine XW_sr ?_
  refine OW_boxR hS0 (le_app (p := ν) (b := [0, 0])) (under_app [0, 0] under_me) rfl rfl rfl ⟨rfl, rfl⟩ fun H1 hS1 => ?_
  replace hS1 : Own _ _ _ ([_]) := hS1
  refine OW_as rfl rfl ?_
  refine OW_nilE (e' := [_,_,_,_,_,_,_,_,_]) rfl ?_
  refine XW_sr ?_
  refine OW_loadR hS1 (k := 0) rfl rfl rfl rfl rfl (by exact part_whole rfl rfl rfl) ?_
  refine OW_fn rfl rfl (saidW (by assumption) ?_) 
  refine OW_fa rfl rfl rfl ?_
  refine OW_env (e' := [_,_,_,_,_,_,_,_,_]) rfl ?_
  refine OW_loadR hS1 (k := 0) rfl rfl rfl rfl rfl (by rfl) ?_
  refine OW_fn rfl rfl (rputUi (by assumption) ?_) 
  refine OW_bin rfl rfl rfl rfl (cat (by omega)) ?_
  refine OW_env (e' := [_,_,_,_,_,_,_,_,_]) rfl ?_
  refine OW_as rfl rfl ?_
  refine OW_nilE (e' := [_,_,_,_,_,_,_,_,_]) rfl ?_
  refine XW_ret ?_
  refine ret_ret (res1 rfl (rv_tmp rfl)) (frz1 (Q := Q) (by exact freeze_plain rfl) ?_)
  exact hq
end Go.Proofs.YtfkgdlfponfimaaGreat.X

/- Layer 07: issuing and checking, walked. -/
set_option linter.unusedVariables false
set_option linter.unusedSimpArgs false
set_option maxRecDepth 100000
namespace Go.Proofs.YtfkgdlfponfimaaGreat.X
open Go Go.RowKit WM
variable {ν β ps pos' : Nm} {H : Heap} {Q : AVal → Heap → Prop} {L : List Asr} {q : Nm} {k : Nat} {S T : Rf}
def andN (w r : Int) : Int := IntKind.u64.wrap (((BitVec.ofInt 64 w &&& ~~~ BitVec.ofInt 64 r).toNat : Nat) : Int)
namespace Rf
def issue (S : Rf) (key : Int) (t : Tk) : Tk × Rf := (⟨t.tn, t.vo, t.ep, t.ri, (S.mac key (tkB t)).1⟩, (S.mac key (tkB t)).2)
def ans (b : Bool) (t : Tk) (vol ep want : Int) : Int := if b = false then 70 else if t.vo ≠ vol then 71 else if t.ep < ep then 72 else if andN want t.ri ≠ 0 then 73 else 0
def check (S : Rf) (key : Int) (t : Tk) (vol ep want : Int) : Int × Rf := (ans (S.verify key (tkB t) t.tag).1 t vol ep want, (S.verify key (tkB t) t.tag).2)
def issues (S : Rf) (key : Int) : List Tk → List Tk × Rf
  | [] => ([], S)
  | t :: l => ((S.issue key t).1 :: ((S.issue key t).2.issues key l).1, ((S.issue key t).2.issues key l).2)
end Rf
structure Us where
  d : List Int
  key : Int
  iss : List Tk
def Us.enc (x : Us) : AVal := .agg [.lst (x.d.map (fun a : Int => AVal.int .u64 a)), .int .u64 x.key, .lst (x.iss.map Tk.enc)]
structure Us.good (x : Us) : Prop where
  d : x.d.length ≤ 1048576
  iss : x.iss.length ≤ 1048576
  fit : ∀ t ∈ x.iss, t.fit
def Us.ts (x : Us) : List Tk × Rf := (Rf.new x.d).issues x.key (x.iss.take 100)
end Go.Proofs.YtfkgdlfponfimaaGreat.X

/- Layer 11: Check, Text, Parse. -/
set_option linter.unusedVariables false
set_option linter.unusedSimpArgs false
set_option maxRecDepth 100000
namespace Go.Proofs.YtfkgdlfponfimaaGreat.X.SE
open Go Go.RowKit WM
variable {ν : Nm} {H : Heap} {Q : AVal → Heap → Prop}
def chkL (t : List Se) : Bool := decide (t.length ≤ 16 ∧ (∀ x ∈ t, x.an.size ≤ 256) ∧ (t.map Se.id).Nodup)
theorem chk_step {t : List Se} {i : Nat} (hi : i < t.length) (h : ((t.take i).map Se.id).Nodup) : (((t.take (i + 1)).map Se.id).Nodup ↔ ¬ ∃ x ∈ t.take i, x.id = t[i].id) := by
  rw [List.take_succ_eq_append_getElem hi, List.map_append, List.nodup_append]
  constructor
  · rintro ⟨_, _, h3⟩ ⟨x, hx, he⟩
    exact h3 x.id (List.mem_map.2 ⟨x, hx, rfl⟩) t[i].id (by simp) he
  intro hn
  refine ⟨h, by simp, ?_⟩
  intro a ha b hb e
  obtain ⟨x, hx, rfl⟩ := List.mem_map.1 ha
  simp only [List.map_cons, List.map_nil, List.mem_singleton] at hb
  exact hn ⟨x, hx, by rw [e, hb]⟩
theorem nodup_take {t : List Se} (i : Nat) (h : (t.map Se.id).Nodup) : ((t.take i).map Se.id).Nodup := by
  rw [List.map_take]; exact h.sublist (List.take_sublist _ _)
theorem p_check {v : AVal} {t : List Se} (hv : freeze [] H 8 v = .lst (t.map Se.enc)) (hn : t.length ≤ 4294967296) (hq : Q (.bool (chkL t)) H) : CW cfg ν 71 [v] H Q := by
  refine CW_borrowL (args' := [.lst (t.map Se.enc)]) g71 F71 rfl (fz_cons (by assumption) fz_nil) ?_
  have hS0 : Own ν ν (fun _ => none) [] := Own.nil
  refine XW_sr (OW_as rfl rfl ?_)
  refine EZ29 rfl ?_
  refine XW_seq (XW_sr (OW_mv rfl rfl ?_))
  refine OW_lenL rfl rfl (by exact Ls.of) rfl rfl rfl (by exact List.length_map _) ?_
  refine OW_bin rfl rfl rfl rfl rfl ?_
  refine EZ29 rfl ?_
  refine XW_if rfl (fun h1 => ?_) (fun h1 => ?_)
  ·try simp only [bs] at h1
   refine XW_sr (OW_as rfl rfl ?_)
   refine EZ29 rfl ?_
   refine XW_ret (then_ret ?_)
   refine ret_ret (res1 rfl (rv_tmp rfl)) ⟨rfl, ?_⟩
   refine qcast hq ?_
   congr 1
   exact (decide_eq_false (fun e => by have := e.1; omega)).symm
  try simp only [bs] at h1
  refine XW_skip (then_norm (XW_seq (XW_sr (OW_mv rfl rfl ?_))))
  refine OW_lenL rfl rfl (by exact Ls.of) rfl rfl rfl (by exact List.length_map _) ?_
  refine OW_mv rfl rfl ?_
  refine EZ29 rfl ?_
  refine XW_block ?_
  refine XW_whileN (I := fun ν' mm ee H' => ∃ (i : Nat), mm = t.length - i ∧ under (1 :: 0 :: 1 :: 1 :: ν) ν' = true ∧ Own ν ν' H' ([]) ∧ (i ≤ t.length ∧ t.length ≤ 16 ∧ (∀ x ∈ t.take i, x.an.size ≤ 256) ∧ ((t.take i).map Se.id).Nodup) ∧ ∃ g : Nat → AVal, ee = [.lst (t.map Se.enc), g 1, g 2, g 3, g 4, g 5, g 6, g 7, .lst (t.map Se.enc), .int .i64 t.length, .int .i64 i, g 11, g 12, g 13, g 14, g 15, g 16, g 17, g 18, g 19, g 20, g 21, g 22, g 23, g 24, g 25, g 26, g 27, g 28]) ?_ _ _ _ _ ⟨0, rfl, under_me, Own.cast (Own.mono (hS0) (le_app (p := ν) (b := [1, 0, 1, 1]))) (rfl), (⟨by omega, by omega, by simp, by simp⟩), env_g rfl⟩
  rintro ν1 mm ee H1 ⟨i, rfl, hU1, hS1, ⟨hi, hl, hA, hN⟩, g1, rfl⟩
  refine XW_sr ?_
  refine OW_bin rfl rfl rfl rfl rfl ?_
  refine EZ29 rfl ?_
  refine XW_seq ?_
  refine XW_if rfl (fun h4 => ?_) (fun h4 => ?_)
  ·try simp only [bs] at h4
   refine XW_skip (then_norm (XW_seq (XW_block (XW_sr (OW_mv rfl rfl ?_)))))
   refine OW_iaL rfl rfl rfl Ls.of rfl rfl rfl (by rfl) (by exact at_map (by omega)) rfl ?_
   refine OW_loadE rfl rfl rfl (by exact part_whole rfl rfl rfl) ?_
   refine EN29 rfl ?_
   refine OW_allocR hS1 (le_app (p := ν1) (b := [3, 0, 0, 1, 1, 0])) (under_app [3, 0, 0, 1, 1, 0] (under_trans (under_app [1, 0, 1, 1] under_me) hU1)) rfl rfl rfl rfl fun H2 hS2 => ?_
   replace hS2 : Own _ _ _ ([_]) := hS2
   refine OW_as rfl rfl ?_
   refine OW_storeR hS2 (k := 0) rfl (le_lit (ν := ν1) (a := [4, 0, 0, 1, 1, 0]) (b := [5, 0, 0, 1, 1, 0]) (by decide)) rfl rfl rfl rfl ⟨rfl, rfl, Nat.le_of_ble_eq_true rfl⟩ (u2 := .agg [_, _, _]) rfl fun H3 hS3 => ?_
   replace hS3 : Own _ _ _ ([_]) := hS3
   refine EZ29 rfl ?_
   refine XW_sr (OW_fa rfl rfl rfl ?_)
   refine OW_loadR hS3 (k := 0) rfl rfl rfl rfl rfl (by rfl) ?_
   refine OW_lenS rfl rfl rfl ?_
   refine EN29 rfl ?_
   refine OW_bin rfl rfl rfl rfl rfl ?_
   refine OW_mv rfl rfl ?_
   refine OW_split (tt := 19) rfl (fun g6_5 => ?_) (fun g6_5 => ?_)
   ·try simp only [bs] at g6_5
    refine EN29 rfl (OW_no rfl (OW_no rfl (OW_no rfl (EN29 rfl (OW_no rfl (OW_no rfl (OW_no rfl (EN29 rfl (OW_no rfl ?_)))))))))
    refine OW_pick rfl rfl rfl ?_
    refine EZ29 rfl ?_
    refine XW_yes rfl rfl ?_
    refine XW_sr (OW_as rfl rfl ?_)
    refine EZ29 rfl ?_
    refine XW_ret (block_ret (then_ret (block_ret (then_ret ?_))))
    refine ret_ret (res1 rfl (rv_tmp rfl)) ⟨rfl, ?_⟩
    refine qcast hq ?_
    congr 1
    exact (decide_eq_false (fun e => by have := e.2.1 t[i] (List.getElem_mem (by omega)); omega)).symm
   try simp only [bs] at g6_5
   refine EN29 rfl (OW_mv rfl rfl (OW_mv rfl rfl ?_))
   refine OW_sl rfl rfl rfl rfl rfl (lst_hiI rfl rfl rfl (by exact map_wide (fun _ => rfl)) (by rfl) (by (simp only [List.length_map]; omega)) ) ?_
   refine EN29 rfl (OW_fa rfl rfl rfl ?_)
   refine OW_loadR hS3 (k := 0) rfl rfl rfl rfl rfl (by rfl) ?_
   refine OW_fn rfl rfl (c_of hS3 (le_lit (ν := ν1) (a := [6, 0, 0, 1, 1, 0]) (b := [10, 0, 1, 0, 1, 1, 0]) (by decide)) (under_app [10, 0, 1, 0, 1, 1, 0] (under_trans (under_app [1, 0, 1, 1] under_me) hU1)) (before_lit (ν := ν1) (a := [10, 0, 1, 0, 1, 1, 0]) (b := [11, 0, 1, 0, 1, 1, 0]) (by decide)) fun b1 H4 hS4 hf1 => ?_) 
   replace hS4 : Own _ _ _ ([_, _]) := hS4
   refine EN29 rfl ?_
   refine OW_fn rfl rfl (Se.has (ls := t.take i) (by assumption) (fun b hb => (by rw [List.mem_singleton] at hb; rw [hb]; obtain ⟨f, ⟨h0, _⟩, h⟩ := hS4.get (k := 0) rfl; exact (le_refl _ (h _ (by rw [h0]; simp)).1).under)) (.ls (by rw [List.map_take]; exact Ls.of)) (by simp; omega) ?_) 
   refine OW_pick rfl rfl rfl ?_
   refine EZ29 rfl ?_
   refine XW_if rfl (fun h6 => ?_) (fun h6 => ?_)
   ·try simp only [bs] at h6
    refine XW_sr (OW_as rfl rfl ?_)
    refine EZ29 rfl ?_
    refine XW_ret (block_ret (then_ret (block_ret (then_ret ?_))))
    refine ret_ret (res1 rfl (rv_tmp rfl)) ⟨rfl, ?_⟩
    refine qcast hq ?_
    congr 1
    exact (decide_eq_false (fun e => by obtain ⟨x, hx, he⟩ := List.any_eq_true.1 h6; exact (chk_step (by omega) hN).1 (nodup_take (i + 1) e.2.2) ⟨x, hx, by simpa using he⟩)).symm
   try simp only [bs] at h6
   refine XW_skip (block_norm (then_norm (XW_region ?_)))
   refine OW_bin rfl rfl rfl rfl (add_w64 (by omega)) ?_
   refine OW_mv rfl rfl ?_
   refine EZ29 rfl ?_
   have hSd1 : Own _ _ _ ([]) := (Own.drop (Own.drop hS4 (k := 0) rfl) (k := 0) rfl)
   refine ⟨_, ?_, i + 1, rfl, under_in hU1, Own.cast (Own.mono (hSd1) (le_lit (ν := ν1) (a := [11, 0, 1, 0, 1, 1, 0]) (b := [1]) (by decide))) (rfl), ?_, env_g rfl⟩
   · omega
   exact ⟨by omega, hl, fun x hx => by rw [List.take_succ_eq_append_getElem (by omega)] at hx; rcases List.mem_append.1 hx with h | h; (exact hA x h); (rw [List.mem_singleton.1 h]; omega), (chk_step (by omega) hN).2 (by rintro ⟨x, hx, he⟩; exact Bool.false_ne_true (h6.symm.trans (List.any_eq_true.2 ⟨x, hx, by simpa using he⟩)))⟩
  try simp only [bs] at h4
  refine XW_exit (then_exit (block_exit (then_norm (XW_sr (OW_as rfl rfl ?_)))))
  refine EZ29 rfl ?_
  refine XW_ret ?_
  refine ret_ret (res1 rfl (rv_tmp rfl)) ⟨rfl, ?_⟩
  refine qcast hq ?_
  congr 1
  exact (decide_eq_true ⟨hl, by rw [List.take_of_length_le (by omega)] at hA; exact hA, by rw [List.take_of_length_le (by omega)] at hN; exact hN⟩).symm
theorem r_check {v : AVal} {t : List Se} (hv : freeze [] H 8 v = .lst (t.map Se.enc)) (hn : t.length ≤ 4294967296) (hq : Q (.bool (chkL t)) H) : CW cfg ν 33 [v] H Q := by
  refine CW_borrowL (args' := [.lst (t.map Se.enc)]) g33 F33 rfl (fz_cons (by assumption) fz_nil) ?_
  refine XW_sr (OW_as rfl rfl ?_)
  refine EZ37 rfl ?_
  refine XW_seq (XW_sr (OW_mv rfl rfl ?_))
  refine OW_lenL rfl rfl (by exact Ls.of) rfl rfl rfl (by exact List.length_map _) ?_
  refine OW_bin rfl rfl rfl rfl rfl ?_
  refine EZ37 rfl ?_
  refine XW_if rfl (fun h1 => ?_) (fun h1 => ?_)
  ·try simp only [bs] at h1
   refine XW_sr (OW_as rfl rfl ?_)
   refine EZ37 rfl ?_
   refine XW_ret (then_ret ?_)
   refine ret_ret (res1 rfl (rv_tmp rfl)) ⟨rfl, ?_⟩
   refine qcast hq ?_
   congr 1
   exact (decide_eq_false (fun e => by have := e.1; omega)).symm
  try simp only [bs] at h1
  refine XW_skip (then_norm (XW_seq (XW_sr (OW_as rfl rfl ?_))))
  refine EZ37 rfl ?_
  refine XW_block ?_
  refine XW_whileN (I := fun ν' mm ee H' => ∃ (i : Nat), mm = t.length - i ∧ under (1 :: 0 :: 1 :: 1 :: ν) ν' = true ∧ (i ≤ t.length ∧ t.length ≤ 16 ∧ (∀ x ∈ t.take i, x.an.size ≤ 256) ∧ ((t.take i).map Se.id).Nodup) ∧ ∃ g : Nat → AVal, ee = [.lst (t.map Se.enc), g 1, g 2, .int .i64 i, g 4, g 5, g 6, g 7, g 8, g 9, g 10, g 11, g 12, g 13, g 14, g 15, g 16, g 17, g 18, g 19, g 20, g 21, g 22, g 23, g 24, g 25, g 26, g 27, g 28, g 29, g 30, g 31, g 32, g 33, g 34, g 35, g 36]) ?_ _ _ _ _ ⟨0, rfl, under_me, (⟨by omega, by omega, by simp, by simp⟩), env_g rfl⟩
  rintro ν1 mm ee H1 ⟨i, rfl, hU1, ⟨hi, hl, hA, hN⟩, g1, rfl⟩
  refine XW_seq (XW_sr (OW_mv rfl rfl (OW_mv rfl rfl ?_)))
  refine OW_lenL rfl rfl (by exact Ls.of) rfl rfl rfl (by exact List.length_map _) ?_
  refine OW_env (e' := [_,_,_,_,_,_,_,_,_,_,_,_,_,_,_,_,_,_,_,_,_,_,_,_,_,_,_,_,_,_,_,_,_,_,_,_,_]) rfl ?_
  refine OW_bin rfl rfl rfl rfl rfl ?_
  refine EZ37 rfl ?_
  refine XW_if rfl (fun h4 => ?_) (fun h4 => ?_)
  ·try simp only [bs] at h4
   refine XW_skip (then_norm (XW_seq (XW_block (XW_seq (XW_sr (OW_mv rfl rfl (OW_mv rfl rfl ?_)))))))
   refine OW_iaL rfl rfl rfl Ls.of rfl rfl rfl (by rfl) (by exact at_map (by omega)) rfl ?_
   refine OW_env (e' := [_,_,_,_,_,_,_,_,_,_,_,_,_,_,_,_,_,_,_,_,_,_,_,_,_,_,_,_,_,_,_,_,_,_,_,_,_]) rfl ?_
   refine OW_fa rfl rfl rfl ?_
   refine OW_loadE rfl rfl rfl (by rfl) ?_
   refine OW_lenS rfl rfl rfl ?_
   refine OW_env (e' := [_,_,_,_,_,_,_,_,_,_,_,_,_,_,_,_,_,_,_,_,_,_,_,_,_,_,_,_,_,_,_,_,_,_,_,_,_]) rfl ?_
   refine OW_bin rfl rfl rfl rfl rfl ?_
   refine EZ37 rfl ?_
   refine XW_if rfl (fun h6 => ?_) (fun h6 => ?_)
   ·try simp only [bs] at h6
    refine XW_sr (OW_as rfl rfl ?_)
    refine EZ37 rfl ?_
    refine XW_ret (then_ret (block_ret (then_ret (block_ret (then_ret ?_)))))
    refine ret_ret (res1 rfl (rv_tmp rfl)) ⟨rfl, ?_⟩
    refine qcast hq ?_
    congr 1
    exact (decide_eq_false (fun e => by have := e.2.1 t[i] (List.getElem_mem (by omega)); omega)).symm
   try simp only [bs] at h6
   refine XW_skip (then_norm (XW_sr (OW_as rfl rfl ?_)))
   refine EZ37 rfl ?_
   refine XW_block ?_
   refine XW_whileN (I := fun ν' mm ee H' => ∃ (k : Nat), mm = i - k ∧ under (1 :: 1 :: 0 :: 1 :: 0 :: ν1) ν' = true ∧ (k ≤ i ∧ ∀ j (hj : j < t.length), j < k → ¬ t[j].id = t[i].id) ∧ ∃ g : Nat → AVal, ee = [.lst (t.map Se.enc), g 1, g 2, .int .i64 i, .int .i64 k, g 5, g 6, g 7, g 8, g 9, g 10, g 11, g 12, g 13, g 14, g 15, g 16, g 17, g 18, g 19, g 20, g 21, g 22, g 23, g 24, g 25, g 26, g 27, g 28, g 29, g 30, g 31, g 32, g 33, g 34, g 35, g 36]) ?_ _ _ _ _ ⟨0, rfl, under_me, (⟨by omega, fun j hj h => by omega⟩), env_g rfl⟩
   rintro ν2 mm ee H2 ⟨k, rfl, hU2, ⟨hk, hK⟩, g2, rfl⟩
   refine XW_seq (XW_sr (OW_mv rfl rfl (OW_mv rfl rfl ?_)))
   refine OW_bin rfl rfl rfl rfl rfl ?_
   refine EZ37 rfl ?_
   refine XW_if rfl (fun h9 => ?_) (fun h9 => ?_)
   ·try simp only [bs] at h9
    refine XW_skip (then_norm (XW_seq (XW_block (XW_sr (OW_mv rfl rfl (OW_mv rfl rfl ?_))))))
    refine OW_iaL rfl rfl rfl Ls.of rfl rfl rfl (by rfl) (by exact at_map (by omega)) rfl ?_
    refine OW_env (e' := [_,_,_,_,_,_,_,_,_,_,_,_,_,_,_,_,_,_,_,_,_,_,_,_,_,_,_,_,_,_,_,_,_,_,_,_,_]) rfl ?_
    refine OW_fa rfl rfl rfl ?_
    refine OW_loadE rfl rfl rfl (by rfl) ?_
    refine OW_mv rfl rfl ?_
    refine OW_env (e' := [_,_,_,_,_,_,_,_,_,_,_,_,_,_,_,_,_,_,_,_,_,_,_,_,_,_,_,_,_,_,_,_,_,_,_,_,_]) rfl ?_
    refine OW_mv rfl rfl ?_
    refine OW_iaL rfl rfl rfl Ls.of rfl rfl rfl (by rfl) (by exact at_map (by omega)) rfl ?_
    refine OW_fa rfl rfl rfl ?_
    refine OW_env (e' := [_,_,_,_,_,_,_,_,_,_,_,_,_,_,_,_,_,_,_,_,_,_,_,_,_,_,_,_,_,_,_,_,_,_,_,_,_]) rfl ?_
    refine OW_loadE rfl rfl rfl (by rfl) ?_
    refine OW_bin rfl rfl rfl rfl rfl ?_
    refine EZ37 rfl ?_
    refine XW_if rfl (fun h11 => ?_) (fun h11 => ?_)
    ·try simp only [bs] at h11
     refine XW_sr (OW_as rfl rfl ?_)
     refine EZ37 rfl ?_
     refine XW_ret (block_ret (then_ret (block_ret (block_ret (then_ret (block_ret (then_ret ?_)))))))
     refine ret_ret (res1 rfl (rv_tmp rfl)) ⟨rfl, ?_⟩
     refine qcast hq ?_
     congr 1
     exact (decide_eq_false (fun e => (chk_step (by omega) hN).1 (nodup_take (i + 1) e.2.2) ⟨t[k], List.mem_take_iff_getElem.2 ⟨k, by omega, rfl⟩, h11⟩)).symm
    try simp only [bs] at h11
    refine XW_skip (block_norm (then_norm (XW_region (OW_mv rfl rfl ?_))))
    refine OW_bin rfl rfl rfl rfl (add_w64 (by omega)) ?_
    refine OW_as rfl rfl ?_
    refine EZ37 rfl ?_
    refine ⟨_, ?_, k + 1, rfl, under_in hU2, ?_, env_g rfl⟩
    · omega
    exact ⟨by omega, fun j hj h => by by_cases e : j = k; (subst e; exact h11); exact hK j hj (by omega)⟩
   try simp only [bs] at h9
   refine XW_exit (then_exit (block_exit (block_norm (then_norm (XW_region (OW_mv rfl rfl ?_))))))
   refine OW_bin rfl rfl rfl rfl (add_w64 (by omega)) ?_
   refine OW_as rfl rfl ?_
   refine EZ37 rfl ?_
   refine ⟨_, ?_, i + 1, rfl, under_in hU1, ?_, env_g rfl⟩
   · omega
   exact ⟨by omega, hl, fun x hx => by rw [List.take_succ_eq_append_getElem (by omega)] at hx; rcases List.mem_append.1 hx with h | h; (exact hA x h); (rw [List.mem_singleton.1 h]; omega), (chk_step (by omega) hN).2 (by rintro ⟨x, hx, he⟩; obtain ⟨j, hj, rfl⟩ := List.mem_take_iff_getElem.1 hx; exact hK j (by omega) (by omega) he)⟩
  try simp only [bs] at h4
  refine XW_exit (then_exit (block_exit (then_norm (XW_sr (OW_as rfl rfl ?_)))))
  refine EZ37 rfl ?_
  refine XW_ret ?_
  refine ret_ret (res1 rfl (rv_tmp rfl)) ⟨rfl, ?_⟩
  refine qcast hq ?_
  congr 1
  exact (decide_eq_true ⟨hl, by rw [List.take_of_length_le (by omega)] at hA; exact hA, by rw [List.take_of_length_le (by omega)] at hN; exact hN⟩).symm
def cSe : Cod Se := (cI.pair (cI.pair (cT 256 (by decide)))).iso (fun p => ⟨p.1, p.2.1, p.2.2⟩) (fun x => (x.id, x.nr, x.an)) (fun _ => rfl) (fun _ => rfl)
def Se.fit (x : Se) : Prop := (0 ≤ x.id ∧ x.id ≤ 18446744073709551615) ∧ 0 ≤ x.nr ∧ x.nr ≤ 18446744073709551615
def sumA (t : List Se) : Nat := (t.map fun x => x.an.size).sum
def textS (t : List Se) : ByteArray := ba (encU t.length ++ (t.map cSe.enc).flatten)
theorem enc_len {x : Se} (h : x.fit) (ha : x.an.size ≤ 4611686018427387904) : (cSe.enc x).length ≤ 30 + x.an.size := by
  have h1 := encU_le10 (n := x.id.toNat) (by have := h.1; omega)
  have h2 := encU_le10 (n := x.nr.toNat) (by have := h.2; omega)
  have h3 := encU_le10 (n := x.an.size) (by omega)
  show (encU x.id.toNat ++ (encU x.nr.toNat ++ encT x.an.data.toList)).length ≤ _
  simp only [List.length_append, encT, bytes_size]; omega
theorem flat_len {t : List Se} (h : ∀ x ∈ t, x.fit ∧ x.an.size ≤ 4611686018427387904) : ((t.map cSe.enc).flatten).length ≤ 30 * t.length + sumA t := by
  induction t with
  | nil => simp
  | cons x r ih =>
    have h1 := enc_len (h x (by simp)).1 (h x (by simp)).2
    have h2 := ih (fun y hy => h y (by simp [hy]))
    simp only [List.map_cons, List.flatten_cons, List.length_append, List.length_cons, sumA, List.sum_cons] at *
    omega
theorem sumA_take (t : List Se) (i : Nat) : sumA (t.take i) ≤ sumA t := by
  induction t generalizing i with
  | nil => simp [sumA]
  | cons x r ih =>
    cases i with
    | zero => simp [sumA]
    | succ i => have := ih i; simp only [List.take_succ_cons, sumA, List.map_cons, List.sum_cons] at *; omega
theorem sumA_mem {t : List Se} {x : Se} (h : x ∈ t) : x.an.size ≤ sumA t := by
  induction t with
  | nil => simp at h
  | cons y r ih =>
    simp only [sumA, List.map_cons, List.sum_cons] at *
    rcases List.mem_cons.1 h with rfl | h
    · omega
    have := ih h; omega
theorem text_step {t : List Se} {i : Nat} (hi : i < t.length) (n : Nat) : ba (encU n ++ ((t.take i).map cSe.enc).flatten) ++ (ba (encU t[i].id.toNat) ++ ba (encU t[i].nr.toNat) ++ encS t[i].an) = ba (encU n ++ ((t.take (i + 1)).map cSe.enc).flatten) := by
  rw [List.take_succ_eq_append_getElem hi, encS, ba_append, ba_append, ba_append, List.map_append, List.flatten_append]
  congr 1
  simp only [List.map_cons, List.map_nil, List.flatten_cons, List.flatten_nil, List.append_nil, List.append_assoc]
  rfl
theorem p_text {v : AVal} {t : List Se} (hv : Ls v (t.map Se.enc)) (hn : t.length ≤ 1048576) (hf : ∀ x ∈ t, x.fit) (hsum : sumA t ≤ 1073741824) (hq : Q (.str (textS t)) H) : CW cfg ν 78 [v] H Q := by
  have hB : ∀ i, (ba (encU t.length ++ ((t.take i).map cSe.enc).flatten)).size ≤ 32 * t.length + sumA t + 10 := by
    intro i
    have h1 := flat_len (t := t.take i) (fun x hx => ⟨hf x (List.mem_of_mem_take hx), by have := sumA_mem (List.mem_of_mem_take hx); omega⟩)
    have h2 := encU_le10 (n := t.length) (by omega)
    have h3 := sumA_take t i
    rw [ba_size, List.length_append]
    rw [List.length_take] at h1; omega
  have hB0 := hB 0
  simp only [List.take_zero, List.map_nil, List.flatten_nil, List.append_nil] at hB0
  refine CW_pure g78 F78 rfl ?_
  have hS0 : Own ν ν (fun _ => none) [] := Own.nil
  refine XW_sr (OW_as rfl rfl ?_)
  refine EZ31 rfl ?_
  refine XW_sr ?_
  refine OW_allocB hS0 (le_app (p := ν) (b := [0, 0, 1])) (under_app [0, 0, 1] under_me) rfl rfl rfl fun H1 hS1 => ?_
  replace hS1 : Own _ _ _ ([_]) := hS1
  refine EZ31 rfl ?_
  refine XW_sr (OW_mv rfl rfl ?_)
  refine OW_lenL rfl rfl (by assumption) rfl rfl rfl (by exact List.length_map _) ?_
  refine OW_conv rfl rfl (conv_in rfl rfl rfl (IntWalk.u64_in _ (by omega))) ?_
  refine OW_env (e' := [_,_,_,_,_,_,_,_,_,_,_,_,_,_,_,_,_,_,_,_,_,_,_,_,_,_,_,_,_,_,_]) rfl ?_
  refine OW_fn rfl rfl (putUi (by omega) ?_) 
  have hz : (⟨#[]⟩ : ByteArray).size + (ba (encU ((t.length : Nat) : Int).toNat)).size ≤ 1099511627776 := by have := encU_i (a := (t.length : Int)) (by omega); show 0 + _ ≤ _; omega
  refine OW_fn rfl rfl (W_write rfl hS1 (k := 0) rfl (le_lit (ν := ν) (a := [1, 0, 1]) (b := [4, 0, 1, 1]) (by decide)) (before_lit (ν := ν) (a := [4, 0, 1, 1]) (b := [5, 0, 1, 1]) (by decide)) (by omega) fun H2 hS2 => ?_) 
  replace hS2 : Own _ _ _ ([_]) := hS2
  refine EZ31 rfl ?_
  refine XW_seq (XW_sr (OW_mv rfl rfl ?_))
  refine OW_lenL rfl rfl (by assumption) rfl rfl rfl (by exact List.length_map _) ?_
  refine OW_mv rfl rfl ?_
  refine EZ31 rfl ?_
  refine XW_block ?_
  refine XW_whileN (I := fun ν' mm ee H' => ∃ (i : Nat), mm = t.length - i ∧ under (1 :: 0 :: 1 :: 1 :: 1 :: ν) ν' = true ∧ Own ν ν' H' ([bld (0 :: 0 :: 1 :: ν) (ba (encU t.length ++ ((t.take i).map cSe.enc).flatten))]) ∧ (i ≤ t.length) ∧ ∃ g : Nat → AVal, ee = [v, g 1, g 2, .ptr (0 :: 0 :: 1 :: ν) 0 0, g 4, g 5, g 6, g 7, g 8, g 9, g 10, v, .int .i64 t.length, .int .i64 i, g 14, g 15, g 16, g 17, g 18, g 19, g 20, g 21, g 22, g 23, g 24, g 25, g 26, g 27, g 28, g 29, g 30]) ?_ _ _ _ _ ⟨0, rfl, under_me, Own.cast (Own.mono (hS2) (le_lit (ν := ν) (a := [5, 0, 1, 1]) (b := [1, 0, 1, 1, 1]) (by decide))) (by rw [Int.toNat_natCast, ← ba_nil, ba_append]; simp), (by omega), env_g rfl⟩
  rintro ν1 mm ee H3 ⟨i, rfl, hU1, hS3, hi, g1, rfl⟩
  refine XW_sr ?_
  refine OW_bin rfl rfl rfl rfl rfl ?_
  refine EZ31 rfl ?_
  refine XW_seq ?_
  refine XW_if rfl (fun h4 => ?_) (fun h4 => ?_)
  ·try simp only [bs] at h4
   refine XW_skip (then_norm (XW_seq (XW_block (XW_sr ?_))))
   have hxi := hf t[i] (List.getElem_mem (by omega)); obtain ⟨f1, f2⟩ := hxi
   have hs1 := encU_i f1; have hs2 := encU_i f2; have hsa := sumA_mem (List.getElem_mem (l := t) (n := i) (by omega)); have hs3 := encS_size (s := t[i].an) (by omega); have hBi := hB i
   refine OW_iaL rfl rfl rfl (by assumption) rfl rfl rfl (by rfl) (by exact at_map (by omega)) rfl ?_
   refine OW_loadE rfl rfl rfl (by exact part_whole rfl rfl rfl) ?_
   refine OW_allocR hS3 (le_app (p := ν1) (b := [2, 0, 0, 1, 1, 0])) (under_app [2, 0, 0, 1, 1, 0] (under_trans (under_app [1, 0, 1, 1, 1] under_me) hU1)) rfl rfl rfl rfl fun H4 hS4 => ?_
   replace hS4 : Own _ _ _ ([_, _]) := hS4
   refine OW_env (e' := [_,_,_,_,_,_,_,_,_,_,_,_,_,_,_,_,_,_,_,_,_,_,_,_,_,_,_,_,_,_,_]) rfl ?_
   refine OW_storeR hS4 (k := 0) rfl le_refl rfl rfl rfl rfl ⟨rfl, rfl, Nat.le_of_ble_eq_true rfl⟩ (u2 := .agg [_, _, _]) rfl fun H5 hS5 => ?_
   replace hS5 : Own _ _ _ ([_, _]) := hS5
   refine EZ31 rfl ?_
   refine XW_region (OW_fa rfl rfl rfl ?_)
   refine OW_loadR hS5 (k := 0) rfl rfl rfl rfl rfl (by rfl) ?_
   refine OW_fn rfl rfl (putUi (by omega) ?_) 
   refine OW_env (e' := [_,_,_,_,_,_,_,_,_,_,_,_,_,_,_,_,_,_,_,_,_,_,_,_,_,_,_,_,_,_,_]) rfl ?_
   refine OW_fa rfl rfl rfl ?_
   refine OW_loadR hS5 (k := 0) rfl rfl rfl rfl rfl (by rfl) ?_
   refine OW_fn rfl rfl (putUi (by omega) ?_) 
   refine OW_env (e' := [_,_,_,_,_,_,_,_,_,_,_,_,_,_,_,_,_,_,_,_,_,_,_,_,_,_,_,_,_,_,_]) rfl ?_
   refine OW_bin rfl rfl rfl rfl (cat (by omega)) ?_
   refine OW_fa rfl rfl rfl ?_
   refine OW_loadR hS5 (k := 0) rfl rfl rfl rfl rfl (by rfl) ?_
   refine OW_env (e' := [_,_,_,_,_,_,_,_,_,_,_,_,_,_,_,_,_,_,_,_,_,_,_,_,_,_,_,_,_,_,_]) rfl ?_
   refine OW_fn rfl rfl (putTx (by omega) ?_) 
   refine OW_bin rfl rfl rfl rfl (cat (by (simp only [ss]; omega))) ?_
   refine OW_fn rfl rfl (W_write rfl hS5 (k := 1) rfl (le_lit (ν := ν1) (a := [4, 0, 0, 1, 1, 0]) (b := [11, 1, 0, 1, 1, 0]) (by decide)) (before_lit (ν := ν1) (a := [11, 1, 0, 1, 1, 0]) (b := [12, 1, 0, 1, 1, 0]) (by decide)) (by (simp only [ByteArray.size_append]; omega)) fun H6 hS6 => ?_) 
   replace hS6 : Own _ _ _ ([_, _]) := hS6
   refine EZ31 rfl ?_
   refine block_norm (then_norm (XW_region ?_))
   refine OW_bin rfl rfl rfl rfl (add_w64 (by omega)) ?_
   refine OW_mv rfl rfl ?_
   refine EZ31 rfl ?_
   have hSd1 : Own _ _ _ ([_]) := (Own.drop hS6 (k := 0) rfl)
   refine ⟨_, ?_, i + 1, rfl, under_in hU1, Own.cast (Own.mono (hSd1) (le_lit (ν := ν1) (a := [12, 1, 0, 1, 1, 0]) (b := [1]) (by decide))) (by rw [text_step (by omega)]), ?_, env_g rfl⟩
   · omega
   omega
  try simp only [bs] at h4
  refine XW_exit (then_exit (block_exit (then_norm (XW_sr ?_))))
  rw [List.take_of_length_le (by omega)] at hS3
  refine OW_fn rfl rfl (W_string rfl hS3 (k := 0) rfl (le_bef (bef_under (a := []) hU1 (before_lit (ν := ν) (a := [1, 0, 1, 1, 1]) (b := [0, 0, 1, 1, 1, 1]) (by decide)))) (before_lit (ν := ν) (a := [0, 0, 1, 1, 1, 1]) (b := [1, 0, 1, 1, 1, 1]) (by decide)) fun H7 hS7 => ?_) 
  replace hS7 : Own _ _ _ ([]) := hS7
  refine OW_as rfl rfl ?_
  refine EZ31 rfl ?_
  refine XW_ret ?_
  refine ret_ret (res1 rfl (rv_tmp rfl)) (frz1 (Q := Q) (by exact freeze_plain rfl) ?_)
  exact hq
theorem r_text {v : AVal} {t : List Se} (hv : Ls v (t.map Se.enc)) (hn : t.length ≤ 1048576) (hf : ∀ x ∈ t, x.fit) (hsum : sumA t ≤ 1073741824) (hq : Q (.str (textS t)) H) : CW cfg ν 82 [v] H Q := by
  have hB : ∀ i, (ba (encU t.length ++ ((t.take i).map cSe.enc).flatten)).size ≤ 32 * t.length + sumA t + 10 := by
    intro i
    have h1 := flat_len (t := t.take i) (fun x hx => ⟨hf x (List.mem_of_mem_take hx), by have := sumA_mem (List.mem_of_mem_take hx); omega⟩)
    have h2 := encU_le10 (n := t.length) (by omega)
    have h3 := sumA_take t i
    rw [ba_size, List.length_append]
    rw [List.length_take] at h1; omega
  refine CW_pure g82 F82 rfl ?_
  refine XW_sr (OW_as rfl rfl ?_)
  refine OW_nilE (e' := [_,_,_,_,_,_,_,_,_,_,_,_,_,_,_,_,_,_,_,_,_,_,_,_,_,_,_,_,_,_,_,_,_,_,_,_,_,_]) rfl ?_
  refine XW_sr (OW_mv rfl rfl ?_)
  refine OW_lenL rfl rfl (by assumption) rfl rfl rfl (by exact List.length_map _) ?_
  refine OW_conv rfl rfl (conv_in rfl rfl rfl (IntWalk.u64_in _ (by omega))) ?_
  refine EN38 rfl ?_
  refine OW_fn rfl rfl (rputUi (by omega) ?_) 
  refine OW_as rfl rfl ?_
  refine OW_nilE (e' := [_,_,_,_,_,_,_,_,_,_,_,_,_,_,_,_,_,_,_,_,_,_,_,_,_,_,_,_,_,_,_,_,_,_,_,_,_,_]) rfl ?_
  refine XW_seq (XW_sr ?_)
  rw [Int.toNat_natCast, show encU t.length = encU t.length ++ ((t.take 0).map cSe.enc).flatten by simp]
  refine OW_as rfl rfl ?_
  refine OW_nilE (e' := [_,_,_,_,_,_,_,_,_,_,_,_,_,_,_,_,_,_,_,_,_,_,_,_,_,_,_,_,_,_,_,_,_,_,_,_,_,_]) rfl ?_
  refine XW_block ?_
  refine XW_whileN (I := fun ν' mm ee H' => ∃ (i : Nat), mm = t.length - i ∧ under (1 :: 0 :: 1 :: 1 :: ν) ν' = true ∧ (i ≤ t.length) ∧ ∃ g : Nat → AVal, ee = [v, g 1, g 2, .str (ba (encU t.length ++ ((t.take i).map cSe.enc).flatten)), .int .i64 i, g 5, g 6, g 7, g 8, g 9, g 10, g 11, g 12, g 13, g 14, g 15, g 16, g 17, g 18, g 19, g 20, g 21, g 22, g 23, g 24, g 25, g 26, g 27, g 28, g 29, g 30, g 31, g 32, g 33, g 34, g 35, g 36, g 37]) ?_ _ _ _ _ ⟨0, rfl, under_me, (by omega), env_g rfl⟩
  rintro ν1 mm ee H1 ⟨i, rfl, hU1, hi, g1, rfl⟩
  refine XW_seq (XW_sr (OW_mv rfl rfl (OW_mv rfl rfl ?_)))
  refine OW_lenL rfl rfl (by assumption) rfl rfl rfl (by exact List.length_map _) ?_
  refine EN38 rfl ?_
  refine OW_bin rfl rfl rfl rfl rfl ?_
  refine OW_nilE (e' := [_,_,_,_,_,_,_,_,_,_,_,_,_,_,_,_,_,_,_,_,_,_,_,_,_,_,_,_,_,_,_,_,_,_,_,_,_,_]) rfl ?_
  refine XW_if rfl (fun h3 => ?_) (fun h3 => ?_)
  ·try simp only [bs] at h3
   refine XW_skip (then_norm (XW_seq (XW_block (XW_region ?_))))
   have hxi := hf t[i] (List.getElem_mem (by omega)); obtain ⟨f1, f2⟩ := hxi
   have hs1 := encU_i f1; have hs2 := encU_i f2; have hsa := sumA_mem (List.getElem_mem (l := t) (n := i) (by omega)); have hs3 := encS_size (s := t[i].an) (by omega); have hBi := hB i
   refine OW_mv rfl rfl (OW_mv rfl rfl (OW_mv rfl rfl (EN38 rfl ?_)))
   refine OW_iaL rfl rfl rfl (by assumption) rfl rfl rfl (by rfl) (by exact at_map (by omega)) rfl ?_
   refine OW_fa rfl rfl rfl ?_
   refine OW_loadE rfl rfl rfl (by rfl) ?_
   refine EN38 rfl ?_
   refine OW_fn rfl rfl (rputUi (by omega) ?_) 
   refine OW_mv rfl rfl (OW_mv rfl rfl (EN38 rfl ?_))
   refine OW_iaL rfl rfl rfl (by assumption) rfl rfl rfl (by rfl) (by exact at_map (by omega)) rfl ?_
   refine OW_fa rfl rfl rfl ?_
   refine OW_loadE rfl rfl rfl (by rfl) ?_
   refine EN38 rfl ?_
   refine OW_fn rfl rfl (rputUi (by omega) ?_) 
   refine OW_bin rfl rfl rfl rfl (cat (by omega)) ?_
   refine OW_mv rfl rfl (EN38 rfl (OW_mv rfl rfl ?_))
   refine OW_iaL rfl rfl rfl (by assumption) rfl rfl rfl (by rfl) (by exact at_map (by omega)) rfl ?_
   refine OW_fa rfl rfl rfl (EN38 rfl ?_)
   refine OW_loadE rfl rfl rfl (by rfl) ?_
   refine OW_fn rfl rfl (rputTx (by omega) ?_) 
   refine OW_bin rfl rfl rfl rfl (cat (by (simp only [ss]; omega))) ?_
   refine EN38 rfl ?_
   refine OW_bin rfl rfl rfl rfl (cat (by (simp only [ss]; omega))) ?_
   rw [text_step (by omega)]
   refine OW_as rfl rfl ?_
   refine OW_nilE (e' := [_,_,_,_,_,_,_,_,_,_,_,_,_,_,_,_,_,_,_,_,_,_,_,_,_,_,_,_,_,_,_,_,_,_,_,_,_,_]) rfl ?_
   refine block_norm (then_norm (XW_region (OW_mv rfl rfl ?_)))
   refine OW_bin rfl rfl rfl rfl (add_w64 (by omega)) ?_
   refine OW_as rfl rfl ?_
   refine OW_nilE (e' := [_,_,_,_,_,_,_,_,_,_,_,_,_,_,_,_,_,_,_,_,_,_,_,_,_,_,_,_,_,_,_,_,_,_,_,_,_,_]) rfl ?_
   refine ⟨_, ?_, i + 1, rfl, under_in hU1, ?_, env_g rfl⟩
   · omega
   omega
  try simp only [bs] at h3
  refine XW_exit (then_exit (block_exit (then_norm (XW_sr ?_))))
  rw [List.take_of_length_le (by omega)]
  refine OW_mv rfl rfl (OW_as rfl rfl ?_)
  refine OW_nilE (e' := [_,_,_,_,_,_,_,_,_,_,_,_,_,_,_,_,_,_,_,_,_,_,_,_,_,_,_,_,_,_,_,_,_,_,_,_,_,_]) rfl ?_
  refine XW_ret ?_
  refine ret_ret (res1 rfl (rv_tmp rfl)) (frz1 (Q := Q) (by exact freeze_plain rfl) ?_)
  exact hq
def parS (s : ByteArray) : Option (List Se) := match (cSe.list 16 (by decide)).all s.data.toList with
  | some l => if chkL l then some l else none
  | none => none
def resP (s : ByteArray) : List Se × Bool := match parS s with
  | some l => (l, true)
  | none => ([], false)
theorem tk_row (s : ByteArray) : cSe.tk s.data.toList = if (resU s).2.2 = true ∧ (resU (resU s).2.1).2.2 = true ∧ (resT 256 (resU (resU s).2.1).2.1).2.2 = true then some (⟨(resU s).1, (resU (resU s).2.1).1, (resT 256 (resU (resU s).2.1).2.1).1⟩, (resT 256 (resU (resU s).2.1).2.1).2.1.data.toList) else none := by
  rcases cI_res s with ⟨h1, _, h2⟩ | ⟨h1, h2⟩
  · rw [if_neg (by rw [h1]; simp)]
    exact Cod.iso_tk1 (Cod.pair_tk1 h2)
  rcases cI_res (resU s).2.1 with ⟨h3, _, h4⟩ | ⟨h3, h4⟩
  · rw [if_neg (by rw [h3]; simp)]
    exact Cod.iso_tk1 (Cod.pair_tk2 h2 (Cod.pair_tk1 h4))
  rcases cT_res 256 (by decide) (resU (resU s).2.1).2.1 with ⟨h5, _, h6⟩ | ⟨h5, h6⟩
  · have h5 : (resT 256 (resU (resU s).2.1).2.1).2.2 = false := h5
    rw [if_neg (by rw [h5]; simp)]
    exact Cod.iso_tk1 (Cod.pair_tk2 h2 (Cod.pair_tk2 h4 h6))
  have h5 : (resT 256 (resU (resU s).2.1).2.1).2.2 = true := h5
  rw [if_pos ⟨h1, h3, h5⟩]
  exact Cod.iso_tk2 (Cod.pair_tk3 h2 (Cod.pair_tk3 h4 h6))
theorem parS_far {s : ByteArray} {n : Nat} {r : List UInt8} (h : takeU 64 s.data.toList = some (n, r)) : parS s = if n ≤ 16 then (match cSe.manyT n r with
    | some (l, q) => if q = [] ∧ chkL l = true then some l else none
    | none => none) else none := by
  unfold parS
  have hl := Cod.list_tk (c := cSe) (hm := (by decide : 16 < 18446744073709551616)) h
  by_cases hn : n ≤ 16
  · rw [if_pos hn] at hl
    rw [if_pos hn]
    cases hm : cSe.manyT n r with
    | none => rw [hm] at hl; rw [Cod.all_none hl]
    | some p =>
      obtain ⟨l, q⟩ := p
      rw [hm] at hl
      rw [Cod.all_of hl]
      by_cases hq : q = []
      · simp [hq]
      simp [hq]
  rw [if_neg hn] at hl
  rw [Cod.all_none hl, if_neg hn]
theorem parS_none {s : ByteArray} (h : takeU 64 s.data.toList = none) : parS s = none := by
  unfold parS
  rw [Cod.all_none (Cod.list_none h)]
theorem str_nil {s : ByteArray} (h : s = ⟨#[]⟩) : s.data.toList = [] := by rw [h]
theorem nil_str {s : ByteArray} (h : s.data.toList = []) : s = ⟨#[]⟩ := by rw [← ba_of s, h]; rfl
theorem p_parse {s : ByteArray} (hs : s.size ≤ 4611686018427387904) (hq : Q (.tup [.lst ((resP s).1.map Se.enc), .bool (resP s).2]) H) : CW cfg ν 64 [.str s] H Q := by
  rcases resU_cases s with ⟨h1, h2⟩ | ⟨n, r, h1, h2, hn, hr⟩
  · rw [resP, parS_none h1] at hq
    refine CW_pure g64 F64 rfl ?_
    have hS0 : Own ν ν (fun _ => none) [] := Own.nil
    refine XW_sr (OW_as rfl rfl (OW_as rfl rfl ?_))
    refine EZ71 rfl ?_
    refine XW_sr (OW_mv rfl rfl ?_)
    refine OW_fn rfl rfl (takeU_e hs h2 ?_) 
    refine OW_mv rfl rfl (EN71 rfl (OW_ex rfl rfl rfl (OW_ex rfl rfl rfl (OW_ex rfl rfl rfl (EN71 rfl (OW_as rfl rfl (OW_as rfl rfl (OW_as rfl rfl ?_))))))))
    refine EZ71 rfl ?_
    refine XW_seq (XW_sr (OW_mv rfl rfl (OW_un rfl rfl rfl (OW_mv rfl rfl (EN71 rfl (OW_no rfl (OW_no rfl (OW_pick rfl rfl rfl ?_))))))))
    refine EZ71 rfl ?_
    refine XW_yes rfl rfl ?_
    refine XW_sr (OW_as rfl rfl (OW_as rfl rfl ?_))
    refine EZ71 rfl ?_
    refine XW_ret (then_ret ?_)
    refine ret_ret (res2 rfl (rv_tmp rfl) (rv_tmp rfl)) (frz2 (Q := Q) (by exact Ls.freeze Ls.nls) (by exact freeze_plain rfl) ?_)
    exact hq
  rw [resP, parS_far h1] at hq
  have hbr : (ba r).size = r.length := ba_size r
  refine CW_pure g64 F64 rfl ?_
  have hS0 : Own ν ν (fun _ => none) [] := Own.nil
  refine XW_sr (OW_as rfl rfl (OW_as rfl rfl ?_))
  refine EZ71 rfl ?_
  refine XW_sr (OW_mv rfl rfl ?_)
  refine OW_fn rfl rfl (takeU_e hs h2 ?_) 
  refine OW_mv rfl rfl (EN71 rfl (OW_ex rfl rfl rfl (OW_ex rfl rfl rfl (OW_ex rfl rfl rfl (EN71 rfl (OW_as rfl rfl (OW_as rfl rfl (OW_as rfl rfl ?_))))))))
  refine EZ71 rfl ?_
  refine XW_seq (XW_sr (OW_mv rfl rfl (OW_un rfl rfl rfl (OW_mv rfl rfl (EN71 rfl (OW_mv rfl rfl ?_))))))
  refine OW_bin rfl rfl rfl rfl rfl ?_
  refine OW_pick rfl rfl rfl ?_
  refine EZ71 rfl ?_
  refine XW_if rfl (fun h2 => ?_) (fun h2 => ?_)
  ·try simp only [bs] at h2
   refine XW_sr ?_
   rw [if_neg (by omega)] at hq
   refine OW_as rfl rfl (OW_as rfl rfl ?_)
   refine EZ71 rfl ?_
   refine XW_ret (then_ret ?_)
   refine ret_ret (res2 rfl (rv_tmp rfl) (rv_tmp rfl)) (frz2 (Q := Q) (by exact Ls.freeze Ls.nls) (by exact freeze_plain rfl) ?_)
   exact hq
  try simp only [bs] at h2
  refine XW_skip (then_norm (XW_sr ?_))
  rw [if_pos (by omega)] at hq
  refine OW_as rfl rfl ?_
  refine EZ71 rfl ?_
  refine XW_seq (XW_sr (OW_mv rfl rfl (OW_mv rfl rfl ?_)))
  refine EZ71 rfl ?_
  refine XW_block ?_
  refine XW_whileN (I := fun ν' mm ee H' => ∃ (i : Nat) (O : AVal) (acc : List Se) (rest : ByteArray), mm = n - i ∧ under (1 :: 0 :: 1 :: 1 :: 1 :: 1 :: ν) ν' = true ∧ Own ν ν' H' ([sl O 3 (acc.map Se.enc)]) ∧ (cSe.Far n r i acc rest.data.toList ∧ rest.size ≤ s.size) ∧ ∃ g : Nat → AVal, ee = [g 0, g 1, .nls, .bool false, g 4, .str rest, g 6, O, g 8, g 9, g 10, g 11, g 12, g 13, g 14, g 15, g 16, g 17, g 18, g 19, g 20, g 21, g 22, g 23, .int .u64 (n : Int), .int .u64 (i : Int), g 26, g 27, g 28, g 29, g 30, g 31, g 32, g 33, g 34, g 35, g 36, g 37, g 38, g 39, g 40, g 41, g 42, g 43, g 44, g 45, g 46, g 47, g 48, g 49, g 50, g 51, g 52, g 53, g 54, g 55, g 56, g 57, g 58, g 59, g 60, g 61, g 62, g 63, g 64, g 65, g 66, g 67, g 68, g 69, g 70]) ?_ _ _ _ _ ⟨0, .nls, [], ba r, rfl, under_me, Own.cast (Own.mono (hS0.addN) (le_app (p := ν) (b := [1, 0, 1, 1, 1, 1]))) (rfl), (⟨by rw [ba_data]; exact cSe.far0 n r, by omega⟩), env_g rfl⟩
  rintro ν1 mm ee H1 ⟨i, O, acc, rest, rfl, hU1, hS1, ⟨hF, hrs⟩, g1, rfl⟩
  refine XW_sr ?_
  refine OW_bin rfl rfl rfl rfl rfl ?_
  refine EZ71 rfl ?_
  refine XW_seq ?_
  refine XW_if rfl (fun h6 => ?_) (fun h6 => ?_)
  ·try simp only [bs] at h6
   refine XW_skip (then_norm (XW_seq (XW_block (XW_sr ?_))))
   refine OW_allocR hS1 (le_app (p := ν1) (b := [0, 0, 0, 1, 1, 0])) (under_app [0, 0, 0, 1, 1, 0] (under_trans (under_app [1, 0, 1, 1, 1, 1] under_me) hU1)) rfl rfl rfl rfl fun H2 hS2 => ?_
   replace hS2 : Own _ _ _ ([_, _]) := hS2
   refine EZ71 rfl ?_
   refine XW_sr (OW_as rfl rfl (OW_as rfl rfl (OW_as rfl rfl ?_)))
   refine EZ71 rfl ?_
   refine XW_sr ?_
   have z1 := resU_size rest; have z2 := resU_size (resU rest).2.1; have z3 := resT_size 256 (resU (resU rest).2.1).2.1; have hal := hF.2.1
   refine OW_mv rfl rfl ?_
   refine OW_fn rfl rfl (takeU_c (by omega) ?_) 
   refine OW_mv rfl rfl (EN71 rfl (OW_ex rfl rfl rfl (OW_ex rfl rfl rfl (OW_ex rfl rfl rfl (EN71 rfl (OW_fa rfl rfl rfl ?_))))))
   refine OW_storeR hS2 (k := 0) rfl (le_lit (ν := ν1) (a := [1, 0, 0, 1, 1, 0]) (b := [7, 0, 1, 1, 0, 1, 1, 0]) (by decide)) rfl rfl rfl rfl ⟨rfl, rfl, Nat.le_of_ble_eq_true rfl⟩ (u2 := .agg [_, _, _]) rfl fun H3 hS3 => ?_
   replace hS3 : Own _ _ _ ([_, _]) := hS3
   refine OW_as rfl rfl (EN71 rfl (OW_as rfl rfl ?_))
   refine EZ71 rfl ?_
   refine XW_sr (OW_mv rfl rfl ?_)
   refine OW_fn rfl rfl (takeU_c (by omega) ?_) 
   refine OW_mv rfl rfl (EN71 rfl (OW_ex rfl rfl rfl (OW_ex rfl rfl rfl (OW_ex rfl rfl rfl (EN71 rfl (OW_fa rfl rfl rfl ?_))))))
   refine OW_storeR hS3 (k := 0) rfl (le_lit (ν := ν1) (a := [8, 0, 1, 1, 0, 1, 1, 0]) (b := [7, 0, 1, 1, 1, 0, 1, 1, 0]) (by decide)) rfl rfl rfl rfl ⟨rfl, rfl, Nat.le_of_ble_eq_true rfl⟩ (u2 := .agg [_, _, _]) rfl fun H4 hS4 => ?_
   replace hS4 : Own _ _ _ ([_, _]) := hS4
   refine OW_as rfl rfl (EN71 rfl (OW_as rfl rfl ?_))
   refine EZ71 rfl ?_
   refine XW_sr (OW_mv rfl rfl ?_)
   refine OW_fn rfl rfl (takeT_c (by omega) (by decide) ?_) 
   refine OW_mv rfl rfl (EN71 rfl (OW_ex rfl rfl rfl (OW_ex rfl rfl rfl (OW_ex rfl rfl rfl (EN71 rfl (OW_fa rfl rfl rfl ?_))))))
   refine OW_storeR hS4 (k := 0) rfl (le_lit (ν := ν1) (a := [8, 0, 1, 1, 1, 0, 1, 1, 0]) (b := [7, 0, 1, 1, 1, 1, 0, 1, 1, 0]) (by decide)) rfl rfl rfl rfl ⟨rfl, rfl, Nat.le_of_ble_eq_true rfl⟩ (u2 := .agg [_, _, _]) rfl fun H5 hS5 => ?_
   replace hS5 : Own _ _ _ ([_, _]) := hS5
   refine OW_as rfl rfl (EN71 rfl (OW_as rfl rfl ?_))
   refine EZ71 rfl ?_
   refine XW_seq (XW_sr (OW_mv rfl rfl (OW_un rfl rfl rfl (OW_mv rfl rfl (EN71 rfl ?_)))))
   refine OW_split (tt := 50) rfl (fun g12_3 => ?_) (fun g12_3 => ?_)
   ·try simp only [bs] at g12_3
    refine OW_no rfl (OW_no rfl (EN71 rfl (OW_pick rfl rfl rfl (OW_mv rfl rfl (OW_no rfl (EN71 rfl (OW_no rfl (OW_pick rfl rfl rfl ?_))))))))
    refine EZ71 rfl ?_
    refine XW_yes rfl rfl ?_
    refine XW_sr (OW_as rfl rfl (OW_as rfl rfl ?_))
    refine EZ71 rfl ?_
    refine XW_ret (then_ret (block_ret (then_ret (block_ret (then_ret ?_)))))
    refine ret_ret (res2 rfl (rv_tmp rfl) (rv_tmp rfl)) (frz2 (Q := Q) (by exact Ls.freeze Ls.nls) (by exact freeze_plain rfl) ?_)
    (rw [Cod.far_none hF (by omega) (by rw [tk_row, if_neg (by rintro ⟨a1, a2, a3⟩; simp_all)])] at hq; exact hq)
   try simp only [bs] at g12_3
   refine OW_mv rfl rfl (OW_un rfl rfl rfl (EN71 rfl (OW_pick rfl rfl rfl (OW_mv rfl rfl ?_))))
   refine OW_split (tt := 54) rfl (fun g12_7 => ?_) (fun g12_7 => ?_)
   ·try simp only [bs] at g12_7
    refine EN71 rfl (OW_no rfl (OW_no rfl (OW_pick rfl rfl rfl ?_)))
    refine EZ71 rfl ?_
    refine XW_yes rfl rfl ?_
    refine XW_sr (OW_as rfl rfl (OW_as rfl rfl ?_))
    refine EZ71 rfl ?_
    refine XW_ret (then_ret (block_ret (then_ret (block_ret (then_ret ?_)))))
    refine ret_ret (res2 rfl (rv_tmp rfl) (rv_tmp rfl)) (frz2 (Q := Q) (by exact Ls.freeze Ls.nls) (by exact freeze_plain rfl) ?_)
    (rw [Cod.far_none hF (by omega) (by rw [tk_row, if_neg (by rintro ⟨a1, a2, a3⟩; simp_all)])] at hq; exact hq)
   try simp only [bs] at g12_7
   refine EN71 rfl (OW_mv rfl rfl (OW_un rfl rfl rfl (OW_pick rfl rfl rfl ?_)))
   refine EZ71 rfl ?_
   refine XW_if rfl (fun h12 => ?_) (fun h12 => ?_)
   ·try simp only [bs] at h12
    refine XW_sr (OW_as rfl rfl (OW_as rfl rfl ?_))
    refine EZ71 rfl ?_
    refine XW_ret (then_ret (block_ret (then_ret (block_ret (then_ret ?_)))))
    refine ret_ret (res2 rfl (rv_tmp rfl) (rv_tmp rfl)) (frz2 (Q := Q) (by exact Ls.freeze Ls.nls) (by exact freeze_plain rfl) ?_)
    (rw [Cod.far_none hF (by omega) (by rw [tk_row, if_neg (by rintro ⟨a1, a2, a3⟩; simp_all)])] at hq; exact hq)
   try simp only [bs] at h12
   refine XW_skip (then_norm (XW_region (OW_mv rfl rfl ?_)))
   refine OW_loadR hS5 (k := 0) rfl rfl rfl rfl rfl (by exact part_whole rfl rfl rfl) ?_
   refine OW_bs rfl rfl (v := .lst [_]) rfl ?_
   refine EN71 rfl ?_
   refine OW_app hS5 (k := 1) rfl (le_lit (ν := ν1) (a := [8, 0, 1, 1, 1, 1, 0, 1, 1, 0]) (b := [3, 1, 1, 1, 1, 1, 1, 0, 1, 1, 0]) (by decide)) (under_app [3, 1, 1, 1, 1, 1, 1, 0, 1, 1, 0] (under_trans (under_app [1, 0, 1, 1, 1, 1] under_me) hU1)) rfl rfl rfl rfl rfl rfl rfl rfl (by rfl) (by exact one_wide rfl) (by (simp only [ss]; omega)) (by decide) fun O1 H6 hS6 => ?_
   replace hS6 : Own _ _ _ ([_, _]) := hS6
   refine OW_as rfl rfl ?_
   refine EZ71 rfl ?_
   refine block_norm (then_norm (XW_region ?_))
   refine OW_bin rfl rfl rfl rfl (add_wu64 (by omega)) ?_
   refine OW_mv rfl rfl ?_
   refine EZ71 rfl ?_
   have hSd1 : Own _ _ _ ([_]) := (Own.drop hS6 (k := 0) rfl)
   refine ⟨_, ?_, i + 1, O1, acc ++ [⟨(resU rest).1, (resU (resU rest).2.1).1, (resT 256 (resU (resU rest).2.1).2.1).1⟩], _, rfl, under_in hU1, Own.cast (Own.mono (hSd1) (le_lit (ν := ν1) (a := [4, 1, 1, 1, 1, 1, 1, 0, 1, 1, 0]) (b := [1]) (by decide))) (by simp [Se.enc]), ?_, env_g rfl⟩
   · omega
   exact ⟨Cod.far_step hF (by omega) (by rw [tk_row, if_pos ⟨by simpa using g12_3, by simpa using g12_7, by simpa using h12⟩]), by omega⟩
  try simp only [bs] at h6
  refine XW_exit (then_exit (block_exit (then_norm (XW_seq (XW_sr ?_)))))
  have hal := hF.2.1; have hin := hF.1
  refine OW_mv rfl rfl ?_
  refine OW_bin rfl rfl rfl rfl rfl ?_
  refine OW_mv rfl rfl (EN71 rfl ?_)
  refine OW_split (tt := 65) rfl (fun g16_3 => ?_) (fun g16_3 => ?_)
  ·try simp only [bs] at g16_3
   refine OW_no rfl (OW_no rfl (EN71 rfl (OW_no rfl (OW_pick rfl rfl rfl ?_))))
   refine EZ71 rfl ?_
   refine XW_yes rfl rfl ?_
   refine XW_sr (OW_as rfl rfl (OW_as rfl rfl ?_))
   refine EZ71 rfl ?_
   refine XW_ret (then_ret ?_)
   refine ret_ret (res2 rfl (rv_tmp rfl) (rv_tmp rfl)) (frz2 (Q := Q) (by exact Ls.freeze Ls.nls) (by exact freeze_plain rfl) ?_)
   (rw [Cod.far_end hF (by omega)] at hq; simp only at hq; (rw [if_neg (by rintro ⟨a1, a2⟩; exact g16_3 (nil_str a1))] at hq; exact hq))
  try simp only [bs] at g16_3
  refine OW_mv rfl rfl ?_
  refine OW_fn rfl rfl (p_check (hS1.freeze0 (k := 0) rfl (map_plain (fun _ => rfl))) (by omega) ?_) 
  refine EN71 rfl (OW_un rfl rfl rfl (OW_pick rfl rfl rfl ?_))
  refine EZ71 rfl ?_
  refine XW_if rfl (fun h16 => ?_) (fun h16 => ?_)
  ·try simp only [bs] at h16
   refine XW_sr (OW_as rfl rfl (OW_as rfl rfl ?_))
   refine EZ71 rfl ?_
   refine XW_ret (then_ret ?_)
   refine ret_ret (res2 rfl (rv_tmp rfl) (rv_tmp rfl)) (frz2 (Q := Q) (by exact Ls.freeze Ls.nls) (by exact freeze_plain rfl) ?_)
   (rw [Cod.far_end hF (by omega)] at hq; simp only at hq; (rw [if_neg (by rintro ⟨a1, a2⟩; simp_all)] at hq; exact hq))
  try simp only [bs] at h16
  refine XW_skip (then_norm (XW_sr (OW_mv rfl rfl (OW_as rfl rfl (OW_as rfl rfl ?_)))))
  refine EZ71 rfl ?_
  refine XW_ret ?_
  refine ret_ret (res2 rfl (rv_tmp rfl) (rv_tmp rfl)) (frz2 (Q := Q) (by exact hS1.frz (k := 0) rfl (by exact map_plain (fun _ => rfl))) (by exact freeze_plain rfl) ?_)
  (rw [Cod.far_end hF (by omega)] at hq; simp only at hq; (rw [if_pos ⟨str_nil (by assumption), by assumption⟩] at hq; exact hq))
end Go.Proofs.YtfkgdlfponfimaaGreat.X.SE

/- Layer 13: what a command makes of a state that may be; a job's resources. -/
set_option linter.unusedVariables false
set_option linter.unusedSimpArgs false
set_option maxRecDepth 100000
namespace Go.Proofs.YtfkgdlfponfimaaGreat.X
open Go Go.RowKit WM
variable {ν β ps pos pos' : Nm} {H H1 : Heap} {Q : AVal → Heap → Prop} {L : List Asr} {k : Nat} {S T : Rf} {c : Ck}
structure Cm where
  d : Int
  t : Tk
  vo : Int
  se : Int
  a : Int
  b : Int
  lf : ByteArray
  deriving DecidableEq
abbrev Cm.cells (m : Cm) : List AVal := [.int .i64 m.d, .int .u64 m.t.tn, .int .u64 m.t.vo, .int .u64 m.t.ep, .int .u64 m.t.ri, .int .u64 m.t.tag, .int .u64 m.vo, .int .u64 m.se, .int .u64 m.a, .int .u64 m.b, .str m.lf]
def Cm.enc (m : Cm) : AVal := .agg m.cells
structure Cm.fit (m : Cm) : Prop where
  d : -9223372036854775808 ≤ m.d ∧ m.d ≤ 9223372036854775807
  t : m.t.fit
  vo : U64 m.vo
  se : U64 m.se
  a : U64 m.a
  b : U64 m.b
  lf : m.lf.size ≤ 1099511627776
structure Vo.good (x : Vo) : Prop where
  vo : U64 x.vo
  tn : U64 x.tn
  ep : U64 x.ep
  de : 0 ≤ x.de ∧ x.de ≤ 4
  ll : x.lv.length = 2 ^ x.de.toNat
  lv : ∀ s ∈ x.lv, s.size ≤ 64
structure Ck.good (c : Ck) : Prop where
  vl : c.vs.length ≤ 8
  vg : ∀ x ∈ c.vs, x.good
  nd : (c.vs.map Vo.vo).Nodup
  sc : SE.chkL c.ss = true
  sf : ∀ x ∈ c.ss, x.fit
  qc : chkQ c.qs = true
  qf : Fit c.qs
theorem Vo.good.len {x : Vo} (h : x.good) : x.lv.length ≤ 16 := by
  rw [h.ll]
  have := h.de
  obtain ⟨n, hn⟩ := Int.eq_ofNat_of_zero_le this.1
  rw [hn, Int.toNat_natCast]
  have : n ≤ 4 := by omega
  exact Nat.le_trans (Nat.pow_le_pow_right (by decide) this) (by decide)
theorem Ck.good.ql {c : Ck} (h : c.good) : c.qs.length ≤ 16 := (of_decide_eq_true h.qc).1
theorem Ck.good.sl {c : Ck} (h : c.good) : c.ss.length ≤ 16 := (of_decide_eq_true h.sc).1
theorem Ck.good.sm {c : Ck} (h : c.good) : c.sm :=
  ⟨Nat.le_trans h.vl (by decide), Nat.le_trans h.sl (by decide), Nat.le_trans h.ql (by decide), fun x hx => Nat.le_trans (h.vg x hx).len (by decide)⟩
structure Rs where
  c : Ck
  e : Int
  an : ByteArray
def err (c : Ck) (e : Int) : Rs := ⟨c, e, ⟨#[]⟩⟩
def v0 : Vo := ⟨0, 0, 0, 0, []⟩
def makeR (c : Ck) (m : Cm) : Rs :=
  if 0 ≤ atP m.vo c.vs then err c 134 else if 8 ≤ c.vs.length then err c 135 else if 4 < m.b then err c 133
  else err { c with vs := c.vs ++ [⟨m.vo, m.a, m.se, m.b, List.replicate (2 ^ m.b.toNat) ⟨#[]⟩⟩] } 0
def Ck.at (c : Ck) (m : Cm) : Vo := c.vs.getD (atP m.vo c.vs).toNat v0
def Ck.setV (c : Ck) (m : Cm) (x : Vo) : Ck := { c with vs := c.vs.set (atP m.vo c.vs).toNat x }
def epochR (c : Ck) (m : Cm) : Rs := if atP m.vo c.vs < 0 then err c 132 else err (c.setV m { c.at m with ep := max (c.at m).ep m.a }) 0
def limitR (c : Ck) (m : Cm) : Rs := if (setQ c.qs m.a m.b).2 = false then err c 135 else err { c with qs := (setQ c.qs m.a m.b).1 } 0
def leafE (S : Rf) (key : Int) (c : Ck) (m : Cm) (want : Int) : Int × Rf :=
  if atP m.vo c.vs < 0 then (132, S) else if (S.check key m.t m.vo (c.at m).ep want).1 ≠ 0 then S.check key m.t m.vo (c.at m).ep want
  else if ((c.at m).lv.length : Int) ≤ m.se then (133, (S.check key m.t m.vo (c.at m).ep want).2) else (0, (S.check key m.t m.vo (c.at m).ep want).2)
def Ck.old (c : Ck) (m : Cm) : ByteArray := (c.at m).lv.getD m.se.toNat ⟨#[]⟩
def Ck.setL (c : Ck) (m : Cm) (s : ByteArray) : Ck := c.setV m { c.at m with lv := (c.at m).lv.set m.se.toNat s }
def putR (c : Ck) (m : Cm) : Rs :=
  if 64 < m.lf.size ∨ m.lf = ⟨#[]⟩ then err c 136
  else if c.old m = ⟨#[]⟩ then (if (takeQ c.qs (c.at m).tn 1).2 ≠ 0 then err c (takeQ c.qs (c.at m).tn 1).2 else err { c.setL m m.lf with qs := (takeQ c.qs (c.at m).tn 1).1 } 0)
  else err (c.setL m m.lf) 0
def getR (c : Ck) (m : Cm) : Rs := ⟨c, 0, c.old m⟩
def trimR (c : Ck) (m : Cm) : Rs :=
  if c.old m = ⟨#[]⟩ then err c 0
  else if (giveQ c.qs (c.at m).tn 1).2 = 0 then err { c.setL m ⟨#[]⟩ with qs := (giveQ c.qs (c.at m).tn 1).1 } 0 else err (c.setL m ⟨#[]⟩) 0
def leafR (S : Rf) (key : Int) (c : Ck) (m : Cm) (want : Int) (f : Ck → Cm → Rs) : Rs × Rf :=
  if (leafE S key c m want).1 ≠ 0 then (err c (leafE S key c m want).1, (leafE S key c m want).2) else (f c m, (leafE S key c m want).2)
def runR (S : Rf) (key : Int) (c : Ck) (m : Cm) : Rs × Rf :=
  if m.d = 0 then (makeR c m, S) else if m.d = 1 then (epochR c m, S) else if m.d = 2 then (limitR c m, S)
  else if m.d = 3 then leafR S key c m 2 putR else if m.d = 4 then leafR S key c m 1 getR else if m.d = 5 then leafR S key c m 2 trimR
  else (err c 130, S)
def lvX (i : Nat) (Us : List AVal) (vs : List Vo) : Asr := Asr.all ((lvsOf Us vs).eraseIdx i)
variable {q qo : Nm} {key : Int} {m : Cm}
def jrow (q qo : Nm) (key : Int) (V S T : AVal) (m : Cm) : Asr := row q 16 [.agg [.ptr qo 0 0, .int .u64 key, V, S, T, .int .i64 m.d, .int .u64 m.t.tn, .int .u64 m.t.vo, .int .u64 m.t.ep, .int .u64 m.t.ri, .int .u64 m.t.tag, .int .u64 m.vo, .int .u64 m.se, .int .u64 m.a, .int .u64 m.b, .str m.lf]]
def jobO (q qo : Nm) (key : Int) (c : Ck) (m : Cm) : Asr := Asr.ex fun z : AVal × AVal × AVal => Asr.all [jrow q qo key z.1 z.2.1 z.2.2 m, vols z.1 c.vs, sl z.2.1 3 (c.ss.map SE.Se.enc), sl z.2.2 3 (c.qs.map Qu.enc)]
def slF (O : AVal) (w : Nat) (xs : List AVal) : Asr := ⟨fun H fp => Sl H w xs O fp ∨ (O = .lst xs ∧ fp = []), fun h hf => h.elim (fun h => .inl (h.frame hf)) .inr⟩
def lvsF (Us : List AVal) (vs : List Vo) : List Asr := (vs.zip Us).map fun p => slF p.2 1 (p.1.lv.map AVal.str)
def volsF (V : AVal) (vs : List Vo) : Asr := Asr.ex fun Us : { Us : List AVal // Us.length = vs.length } => Asr.all (sl V 5 (rowsOf Us.1 vs) :: lvsF Us.1 vs)
def stF (V S T : AVal) (c : Ck) : Asr := Asr.all [volsF V c.vs, sl S 3 (c.ss.map SE.Se.enc), sl T 3 (c.qs.map Qu.enc)]
def lvFA (Us : List AVal) (vs : List Vo) : Asr := Asr.all (lvsF Us vs)
def jobF (q qo : Nm) (key : Int) (c : Ck) (m : Cm) : Asr := Asr.ex fun z : AVal × AVal × AVal => Asr.all [jrow q qo key z.1 z.2.1 z.2.2 m, stF z.1 z.2.1 z.2.2 c]
end Go.Proofs.YtfkgdlfponfimaaGreat.X

/- Layer 13: a job's methods: epoch, limit, make. -/
set_option linter.unusedVariables false
set_option linter.unusedSimpArgs false
set_option maxRecDepth 100000
namespace Go.Proofs.YtfkgdlfponfimaaGreat.X
open Go Go.RowKit WM
section
variable {c : Cfg} {ν β ps : Nm} {all : Array Oper} {r : List Oper} {i w n k : Nat} {e : Env} {H : Heap} {Q : Env → Heap → Prop} {L : List Asr} {xs : List AVal} {q : Nm} {dst : Option Tmp} {t : TypeId} {x : Operand} {ti : TI} {u v : AVal}
end
variable {ν β ps pos pos' : Nm} {H H1 : Heap} {Q : AVal → Heap → Prop} {L : List Asr} {k : Nat} {S T : Rf} {c : Ck} {q qo : Nm} {key : Int} {m : Cm}
theorem atP_some {at0 : Int} {c : Ck} (h : atP m.vo c.vs = at0) (h0 : ¬ at0 < 0) : ∃ (i : Nat) (hi : i < c.vs.length), at0 = i ∧ c.vs[i].vo = m.vo := by
  rcases atP_cases m.vo c.vs with ⟨h1, _⟩ | ⟨i, hi, h1, h2⟩
  · omega
  exact ⟨i, hi, by omega, h2⟩
theorem at_eq {c : Ck} {i : Nat} (h : atP m.vo c.vs = i) (hi : i < c.vs.length) : c.at m = c.vs[i] := by
  unfold Ck.at; rw [h, Int.toNat_natCast]; simp [List.getD_eq_getElem?_getD, hi]
theorem setV_eq {c : Ck} {i : Nat} {x : Vo} (h : atP m.vo c.vs = i) : c.setV m x = { c with vs := c.vs.set i x } := by
  unfold Ck.setV; rw [h, Int.toNat_natCast]
end Go.Proofs.YtfkgdlfponfimaaGreat.X

/- Layer 13: a job's leaf. -/
set_option linter.unusedVariables false
set_option linter.unusedSimpArgs false
set_option maxRecDepth 100000
namespace Go.Proofs.YtfkgdlfponfimaaGreat.X
open Go Go.RowKit WM
variable {ν β ps pos pos' : Nm} {H H1 : Heap} {Q : AVal → Heap → Prop} {L : List Asr} {k : Nat} {S : Rf} {c : Ck} {q qo : Nm} {key want : Int} {m : Cm}
theorem leafE_at {i : Nat} (h : atP m.vo c.vs = i) (hi : i < c.vs.length) : leafE S key c m want = if (S.check key m.t m.vo c.vs[i].ep want).1 ≠ 0 then S.check key m.t m.vo c.vs[i].ep want
  else if (c.vs[i].lv.length : Int) ≤ m.se then (133, (S.check key m.t m.vo c.vs[i].ep want).2) else (0, (S.check key m.t m.vo c.vs[i].ep want).2) := by
  unfold leafE; rw [at_eq h hi, if_neg (by omega)]
end Go.Proofs.YtfkgdlfponfimaaGreat.X

/- Layer 13: a job's put, get, trim. -/
set_option linter.unusedVariables false
set_option linter.unusedSimpArgs false
set_option maxRecDepth 100000
namespace Go.Proofs.YtfkgdlfponfimaaGreat.X
open Go Go.RowKit WM
variable {ν β ps pos pos' : Nm} {H H1 : Heap} {Q : AVal → Heap → Prop} {L : List Asr} {k : Nat} {S : Rf} {c : Ck} {q qo : Nm} {key want : Int} {m : Cm}
theorem long_c {s : ByteArray} (hq : Q (.bool (decide (64 < s.size))) H) : CW cfg ν 75 [.str s] H Q := by
  refine CW_pure g75 F75 rfl ?_
  refine XW_sr (OW_as rfl rfl ?_)
  refine OW_nilE (e' := [_,_,_,_,_,_]) rfl ?_
  refine XW_sr (OW_mv rfl rfl ?_)
  refine OW_lenS rfl rfl rfl ?_
  refine OW_bin rfl rfl rfl rfl rfl ?_
  refine OW_env (e' := [_,_,_,_,_,_]) rfl ?_
  refine OW_as rfl rfl ?_
  refine OW_nilE (e' := [_,_,_,_,_,_]) rfl ?_
  refine XW_ret ?_
  refine ret_ret (res1 rfl (rv_tmp rfl)) (frz1 (Q := Q) (by exact freeze_plain rfl) ?_)
  refine qcast hq ?_; congr 1; exact decide_eq_decide.2 (by simp only [gt_iff_lt]; omega)
theorem setL_at {i : Nat} {s : ByteArray} (h : atP m.vo c.vs = i) (hi : i < c.vs.length) : c.setL m s = ⟨c.vs.set i { c.vs[i] with lv := c.vs[i].lv.set m.se.toNat s }, c.ss, c.qs⟩ := by
  unfold Ck.setL; rw [at_eq h hi, setV_eq h]
end Go.Proofs.YtfkgdlfponfimaaGreat.X

/- Layer 13: chunk.Run. -/
set_option linter.unusedVariables false
set_option linter.unusedSimpArgs false
set_option maxRecDepth 100000
namespace Go.Proofs.YtfkgdlfponfimaaGreat.X
open Go Go.RowKit WM
variable {ν β ps pos pos' : Nm} {H H1 : Heap} {Q : AVal → Heap → Prop} {L : List Asr} {k : Nat} {S : Rf} {c : Ck} {q qo : Nm} {key want : Int} {m : Cm} {V0 S0 T0 v0 : AVal}
theorem leafR_err {f : Ck → Cm → Rs} (h : (leafE S key c m want).1 ≠ 0) : leafR S key c m want f = (err c (leafE S key c m want).1, (leafE S key c m want).2) := if_pos h
theorem leafR_ok {f : Ck → Cm → Rs} (h : (leafE S key c m want).1 = 0) : leafR S key c m want f = (f c m, (leafE S key c m want).2) := if_neg (fun e => e h)
end Go.Proofs.YtfkgdlfponfimaaGreat.X

/- So many numbers of a text (layers 13, 14). -/
set_option linter.unusedVariables false
set_option linter.unusedSimpArgs false
set_option maxRecDepth 100000
namespace Go.Proofs.YtfkgdlfponfimaaGreat.X
open Go Go.RowKit WM
variable {ν : Nm} {H : Heap} {Q : AVal → Heap → Prop}
def encN (n : Int) : AVal := .int .u64 n
def resN (m : Nat) (s : ByteArray) : List Int × ByteArray × Bool := match cI.manyT m s.data.toList with
  | some (l, r) => (l, ba r, true)
  | none => ([], ⟨#[]⟩, false)
theorem cI_yes {s : ByteArray} (h : (resU s).2.2 = true) : cI.tk s.data.toList = some ((resU s).1, (resU s).2.1.data.toList) := by
  rcases cI_res s with ⟨h1, _⟩ | ⟨_, h2⟩
  · rw [h1] at h; cases h
  exact h2
theorem cI_no {s : ByteArray} (h : (resU s).2.2 = false) : cI.tk s.data.toList = none := by
  rcases cI_res s with ⟨_, _, h2⟩ | ⟨h1, _⟩
  · exact h2
  rw [h1] at h; cases h
theorem takeK_c {s : ByteArray} {m : Nat} (hs : s.size ≤ 4611686018427387904) (hm : m ≤ 16) (hq : Q (.tup [.lst ((resN m s).1.map encN), .str (resN m s).2.1, .bool (resN m s).2.2]) H) : CW cfg ν 60 [.str s, .int .i64 m] H Q := by
  refine CW_pure g60 F60 rfl ?_
  have hS0 : Own ν ν (fun _ => none) [] := Own.nil
  refine XW_sr (OW_as rfl rfl (OW_as rfl rfl (OW_as rfl rfl ?_)))
  refine EZ30 rfl ?_
  refine XW_sr (OW_as rfl rfl ?_)
  refine EZ30 rfl ?_
  refine XW_seq (XW_sr (OW_mv rfl rfl (OW_mv rfl rfl ?_)))
  refine EZ30 rfl ?_
  refine XW_block ?_
  refine XW_whileN (I := fun ν' mm ee H' => ∃ (i : Nat) (O : AVal) (acc : List Int) (rest : ByteArray), mm = m - i ∧ under (1 :: 0 :: 1 :: 1 :: ν) ν' = true ∧ Own ν ν' H' ([sl O 1 (acc.map encN)]) ∧ (cI.Far m s.data.toList i acc rest.data.toList ∧ rest.size ≤ s.size) ∧ ∃ g : Nat → AVal, ee = [.str rest, .int .i64 m, g 2, g 3, g 4, g 5, g 6, O, g 8, g 9, g 10, .int .i64 m, .int .i64 i, g 13, g 14, g 15, g 16, g 17, g 18, g 19, g 20, g 21, g 22, g 23, g 24, g 25, g 26, g 27, g 28, g 29]) ?_ _ _ _ _ ⟨0, .nls, [], s, rfl, under_me, Own.cast (Own.mono (hS0.addN (w := 1)) (le_app (p := ν) (b := [1, 0, 1, 1]))) (rfl), (⟨cI.far0 m _, Nat.le_refl _⟩), env_g rfl⟩
  rintro ν1 mm ee H1 ⟨i, O, acc, rest, rfl, hU1, hS1, ⟨hF, hrs⟩, g1, rfl⟩
  refine XW_sr ?_
  refine OW_bin rfl rfl rfl rfl rfl ?_
  refine EZ30 rfl ?_
  refine XW_seq ?_
  refine XW_if rfl (fun h3 => ?_) (fun h3 => ?_)
  ·try simp only [bs] at h3
   refine XW_skip (then_norm (XW_seq (XW_block (XW_sr ?_))))
   have hal := hF.2.1; have hz := resU_size rest
   refine OW_mv rfl rfl ?_
   refine OW_fn rfl rfl (takeU_c (by omega) ?_) 
   refine OW_mv rfl rfl ?_
   refine OW_env (e' := [_,_,_,_,_,_,_,_,_,_,_,_,_,_,_,_,_,_,_,_,_,_,_,_,_,_,_,_,_,_]) rfl ?_
   refine OW_ex rfl rfl rfl (OW_ex rfl rfl rfl (OW_ex rfl rfl rfl ?_))
   refine OW_env (e' := [_,_,_,_,_,_,_,_,_,_,_,_,_,_,_,_,_,_,_,_,_,_,_,_,_,_,_,_,_,_]) rfl ?_
   refine OW_as rfl rfl (OW_as rfl rfl (OW_as rfl rfl ?_))
   refine EZ30 rfl ?_
   refine XW_seq (XW_sr (OW_mv rfl rfl (OW_un rfl rfl rfl ?_)))
   refine EZ30 rfl ?_
   refine XW_if rfl (fun h5 => ?_) (fun h5 => ?_)
   ·try simp only [bs] at h5
    refine XW_sr (OW_as rfl rfl (OW_as rfl rfl (OW_as rfl rfl ?_)))
    refine EZ30 rfl ?_
    refine XW_ret (then_ret (block_ret (then_ret (block_ret (then_ret ?_)))))
    refine ret_ret (res3 rfl (rv_tmp rfl) (rv_tmp rfl) (rv_tmp rfl)) (frz3 (Q := Q) (by exact Ls.freeze Ls.nls) (by exact freeze_plain rfl) (by exact freeze_plain rfl) ?_)
    (rw [resN, Cod.far_none hF (by omega) (cI_no (by assumption))] at hq; exact hq)
   try simp only [bs] at h5
   refine XW_skip (then_norm (XW_region (OW_mv rfl rfl (OW_mv rfl rfl ?_))))
   refine OW_bs rfl rfl (v := .lst [_]) rfl ?_
   refine OW_env (e' := [_,_,_,_,_,_,_,_,_,_,_,_,_,_,_,_,_,_,_,_,_,_,_,_,_,_,_,_,_,_]) rfl ?_
   refine OW_app hS1 (k := 0) rfl (le_app (p := ν1) (b := [3, 1, 1, 0, 1, 1, 0])) (under_app [3, 1, 1, 0, 1, 1, 0] (under_trans (under_app [1, 0, 1, 1] under_me) hU1)) rfl rfl rfl rfl rfl rfl rfl rfl (by rfl) (by exact one_wide rfl) (by (simp only [ss]; omega)) (by decide) fun O1 H2 hS2 => ?_
   replace hS2 : Own _ _ _ ([_]) := hS2
   refine OW_mv rfl rfl (OW_as rfl rfl ?_)
   refine OW_env (e' := [_,_,_,_,_,_,_,_,_,_,_,_,_,_,_,_,_,_,_,_,_,_,_,_,_,_,_,_,_,_]) rfl ?_
   refine OW_as rfl rfl ?_
   refine EZ30 rfl ?_
   refine block_norm (then_norm (XW_region ?_))
   refine OW_bin rfl rfl rfl rfl (add_w64 (by omega)) ?_
   refine OW_mv rfl rfl ?_
   refine EZ30 rfl ?_
   refine ⟨_, ?_, i + 1, O1, acc ++ [(resU rest).1], (resU rest).2.1, rfl, under_in hU1, Own.cast (Own.mono (hS2) (le_lit (ν := ν1) (a := [4, 1, 1, 0, 1, 1, 0]) (b := [1]) (by decide))) (by rw [List.map_append]; rfl), ?_, env_g rfl⟩
   · omega
   exact ⟨Cod.far_step hF (by omega) (cI_yes (by assumption)), by omega⟩
  try simp only [bs] at h3
  refine XW_exit (then_exit (block_exit (then_norm (XW_sr (OW_mv rfl rfl (OW_mv rfl rfl (OW_as rfl rfl ?_)))))))
  refine OW_env (e' := [_,_,_,_,_,_,_,_,_,_,_,_,_,_,_,_,_,_,_,_,_,_,_,_,_,_,_,_,_,_]) rfl ?_
  refine OW_as rfl rfl (OW_as rfl rfl ?_)
  refine EZ30 rfl ?_
  refine XW_ret ?_
  refine ret_ret (res3 rfl (rv_tmp rfl) (rv_tmp rfl) (rv_tmp rfl)) (frz3 (Q := Q) (by exact hS1.frz (k := 0) rfl (by exact map_plain (fun _ => rfl))) (by exact freeze_plain rfl) (by exact freeze_plain rfl) ?_)
  (rw [resN, Cod.far_end hF (by omega)] at hq; exact hq)
theorem rnums_c {s : ByteArray} {m : Nat} (hs : s.size ≤ 4611686018427387904) (hm : m ≤ 16) (hq : Q (.tup [.lst ((resN m s).1.map encN), .str (resN m s).2.1, .bool (resN m s).2.2]) H) : CW cfg ν 62 [.str s, .int .i64 m] H Q := by
  refine CW_pure g62 F62 rfl ?_
  have hS0 : Own ν ν (fun _ => none) [] := Own.nil
  refine XW_sr (OW_as rfl rfl (OW_as rfl rfl (OW_as rfl rfl ?_)))
  refine EZ31 rfl ?_
  refine XW_sr ?_
  refine OW_bs rfl rfl rfl ?_
  refine OW_as rfl rfl ?_
  refine EZ31 rfl ?_
  refine XW_seq (XW_block ?_)
  refine XW_whileN (I := fun ν' mm ee H' => ∃ (i : Nat) (O : AVal) (acc : List Int) (rest : ByteArray), mm = m - i ∧ under (0 :: 1 :: 1 :: ν) ν' = true ∧ Own ν ν' H' ([sl O 1 (acc.map encN)]) ∧ (cI.Far m s.data.toList i acc rest.data.toList ∧ rest.size ≤ s.size ∧ acc.length = i) ∧ ∃ g : Nat → AVal, ee = [.str rest, .int .i64 m, g 2, g 3, g 4, g 5, g 6, O, g 8, g 9, g 10, g 11, g 12, g 13, g 14, g 15, g 16, g 17, g 18, g 19, g 20, g 21, g 22, g 23, g 24, g 25, g 26, g 27, g 28, g 29, g 30]) ?_ _ _ _ _ ⟨0, .emp, [], s, rfl, under_me, Own.cast (Own.mono (hS0.addE (w := 1)) (le_app (p := ν) (b := [0, 1, 1]))) (rfl), (⟨cI.far0 m _, Nat.le_refl _, rfl⟩), env_g rfl⟩
  rintro ν1 mm ee H1 ⟨i, O, acc, rest, rfl, hU1, hS1, ⟨hF, hrs, hal⟩, g1, rfl⟩
  refine XW_seq (XW_sr (OW_mv rfl rfl ?_))
  refine OW_lenO hS1 (k := 0) rfl rfl rfl rfl rfl rfl (by exact List.length_map _) ?_
  refine OW_mv rfl rfl ?_
  refine OW_env (e' := [_,_,_,_,_,_,_,_,_,_,_,_,_,_,_,_,_,_,_,_,_,_,_,_,_,_,_,_,_,_,_]) rfl ?_
  refine OW_bin rfl rfl rfl rfl rfl ?_
  refine EZ31 rfl ?_
  refine XW_if rfl (fun h2 => ?_) (fun h2 => ?_)
  ·try simp only [bs] at h2
   refine XW_skip (then_norm (XW_block (XW_sr ?_)))
   have hz := resU_size rest
   refine OW_mv rfl rfl ?_
   refine OW_fn rfl rfl (rtakeU (by omega) ?_) 
   refine OW_mv rfl rfl ?_
   refine OW_env (e' := [_,_,_,_,_,_,_,_,_,_,_,_,_,_,_,_,_,_,_,_,_,_,_,_,_,_,_,_,_,_,_]) rfl ?_
   refine OW_ex rfl rfl rfl (OW_ex rfl rfl rfl (OW_ex rfl rfl rfl ?_))
   refine OW_env (e' := [_,_,_,_,_,_,_,_,_,_,_,_,_,_,_,_,_,_,_,_,_,_,_,_,_,_,_,_,_,_,_]) rfl ?_
   refine OW_as rfl rfl (OW_as rfl rfl (OW_as rfl rfl ?_))
   refine EZ31 rfl ?_
   refine XW_seq (XW_sr (OW_mv rfl rfl (OW_un rfl rfl rfl ?_)))
   refine EZ31 rfl ?_
   refine XW_if rfl (fun h4 => ?_) (fun h4 => ?_)
   ·try simp only [bs] at h4
    refine XW_sr (OW_as rfl rfl (OW_as rfl rfl (OW_as rfl rfl ?_)))
    refine EZ31 rfl ?_
    refine XW_ret (then_ret (block_ret (block_ret (then_ret ?_))))
    refine ret_ret (res3 rfl (rv_tmp rfl) (rv_tmp rfl) (rv_tmp rfl)) (frz3 (Q := Q) (by exact Ls.freeze Ls.nls) (by exact freeze_plain rfl) (by exact freeze_plain rfl) ?_)
    (rw [resN, Cod.far_none hF (by omega) (cI_no (by assumption))] at hq; exact hq)
   try simp only [bs] at h4
   refine XW_skip (then_norm (XW_sr (OW_mv rfl rfl (OW_mv rfl rfl ?_))))
   refine OW_bs rfl rfl (v := .lst [_]) rfl ?_
   refine OW_env (e' := [_,_,_,_,_,_,_,_,_,_,_,_,_,_,_,_,_,_,_,_,_,_,_,_,_,_,_,_,_,_,_]) rfl ?_
   refine OW_app hS1 (k := 0) rfl (le_app (p := ν1) (b := [3, 0, 1, 1, 1, 0])) (under_app [3, 0, 1, 1, 1, 0] (under_trans (under_app [0, 1, 1] under_me) hU1)) rfl rfl rfl rfl rfl rfl rfl rfl (by rfl) (by exact one_wide rfl) (by (simp only [ss]; omega)) (by decide) fun O1 H2 hS2 => ?_
   replace hS2 : Own _ _ _ ([_]) := hS2
   refine OW_as rfl rfl ?_
   refine EZ31 rfl ?_
   refine XW_region (OW_mv rfl rfl (OW_as rfl rfl ?_))
   refine EZ31 rfl ?_
   refine block_norm ?_
   refine ⟨_, ?_, i + 1, O1, acc ++ [(resU rest).1], (resU rest).2.1, rfl, under_in hU1, Own.cast (Own.mono (hS2) (le_lit (ν := ν1) (a := [4, 0, 1, 1, 1, 0]) (b := [1]) (by decide))) (by rw [List.map_append]; rfl), ?_, env_g rfl⟩
   · omega
   exact ⟨Cod.far_step hF (by omega) (cI_yes (by assumption)), by omega, by rw [List.length_append, hal]; rfl⟩
  try simp only [bs] at h2
  refine XW_exit (then_exit (block_exit (then_norm (XW_sr (OW_mv rfl rfl (OW_mv rfl rfl (OW_as rfl rfl ?_)))))))
  refine OW_env (e' := [_,_,_,_,_,_,_,_,_,_,_,_,_,_,_,_,_,_,_,_,_,_,_,_,_,_,_,_,_,_,_]) rfl ?_
  refine OW_as rfl rfl (OW_as rfl rfl ?_)
  refine EZ31 rfl ?_
  refine XW_ret ?_
  refine ret_ret (res3 rfl (rv_tmp rfl) (rv_tmp rfl) (rv_tmp rfl)) (frz3 (Q := Q) (by exact hS1.frz (k := 0) rfl (by exact map_plain (fun _ => rfl))) (by exact freeze_plain rfl) (by exact freeze_plain rfl) ?_)
  (rw [resN, Cod.far_end hF (by omega)] at hq; exact hq)
end Go.Proofs.YtfkgdlfponfimaaGreat.X
