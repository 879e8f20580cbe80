import Derived.Test.YtfkgdlfponfimaaGreatU32
import Derived.Test.YtfkgdlfponfimaaGreatU26
import Derived.Test.YtfkgdlfponfimaaGreatU27
import Derived.Test.YtfkgdlfponfimaaGreatU28
import Derived.Test.YtfkgdlfponfimaaGreatU29
import Derived.KernelRfl
/- Layer 11: functions over slices of sessions. -/
set_option maxRecDepth 100000
namespace Go.Proofs.YtfkgdlfponfimaaGreat.X.SE
open Go Go.RowKit
structure Se where
  id : Int
  nr : Int
  an : ByteArray
  deriving DecidableEq
def Se.enc (l : Se) : AVal := .agg [.int .u64 l.id, .int .u64 l.nr, .str l.an]
def Se.FnP (f : FuncId) (caps : List AVal) (bs : List Nm) (H0 : Heap) (p : Se → Bool) : Prop :=
  ∀ ν x H Q, (∀ b ∈ bs, H b = H0 b ∧ under ν b = false) → Q (.bool (p x)) H → CW cfg ν f (x.enc :: caps) H Q
theorem Se.idx {ν : Nm} {H : Heap} {Q : AVal → Heap → Prop} {ls : List Se} {S : AVal} {f : FuncId} {caps : List AVal} {bs : List Nm} {p : Se → Bool} (hf : Se.FnP f caps bs H p) (hbs : ∀ b ∈ bs, under ν b = false) (h : Rd H 3 (ls.map Se.enc) S) (hn : ls.length ≤ 4611686018427387904) (hq : Q (.int .i64 (firstI p ls 0)) H) : CW cfg ν 90 [S, .fn f caps] H Q := by
  have h2 : lenOf H S = some ls.length := by rw [h.len, List.length_map]
  have h3 : lenKind cfg.T [23] S = true := h.kind T23 rfl
  refine CW_fullS g90 F90 Z (Ac (Ab Z Z (Am (e' := [_, _, _, _, _, _, _, _, _, _, _, _, _, _, _, _, _, _, _]) Z (Aq (Ac (Aa Z Z (BL Z Z (aLen h3 h2) (Ay (e' := [_, _, _, _, _, _, _, _, _, _, _, _, _, _, _, _, _, _, _]) Z (Aa Z Z (Am (e' := [_, _, _, _, _, _, _, _, _, _, _, _, _, _, _, _, _, _, _]) Z (AD (AV (I := fun ν' n e H' => H' = H ∧ (∀ p, under ν p = false → under ν' p = false) ∧ ∃ (i : Nat), n = ls.length - i ∧ i ≤ ls.length ∧ firstI p ls 0 = firstI p (ls.drop i) i ∧ ∃ g : Nat → AVal, e = [S, .fn f caps, g 2, g 3, .int .i64 0, g 5, g 6, .int .i64 ls.length, .int .i64 i, g 9, g 10, g 11, g 12, g 13, g 14, g 15, g 16, g 17, g 18]) ?_ _ _ _ _ ⟨Z, fun p hp => by repeat (first | exact hp | apply under_dn), 0, Z, by omega, Z, AU Z⟩))))))))))))
  rintro ν' n e H' ⟨rfl, hsub, i, rfl, hi, hfs, g, rfl⟩
  refine Ac (Ah Z Z Z Z Z (Am (e' := [_, _, _, _, _, _, _, _, _, _, _, _, _, _, _, _, _, _, _]) Z (Aq (AH Z (fun ht => ?_) (fun ht => ?_)))))
  · have hlt : i < ls.length := by simpa using ht
    have hxi : (ls.map Se.enc)[i]? = some (ls[i].enc) := by simp [hlt]
    obtain ⟨P, k1, k2⟩ := h.at (kk := .i64) T23 rfl T135 rfl hxi rfl rfl
    refine At (Ag (Aq (AD (Ac (Aa Z Z (Ab Z Z (Am (e' := [_, _, _, _, _, _, _, _, _, _, _, _, _, _, _, _, _, _, _]) Z (Ac (Aa Z Z (Aa Z Z (Aa Z Z (OW_ia Z Z Z k1 (BD Z Z k2 (OW_fv Z Z Z (hf _ ls[i] _ _ (fun b hb => ⟨Z, by have := hsub b (hbs b hb); repeat (first | exact this | apply under_dn)⟩) (Am (e' := [_, _, _, _, _, _, _, _, _, _, _, _, _, _, _, _, _, _, _]) Z (AH Z (fun hp => ?_) (fun hp => ?_))))))))))))))))))
    · refine Ac ?_
      refine Aa Z Z (Ab Z Z (Am (e' := [_, _, _, _, _, _, _, _, _, _, _, _, _, _, _, _, _, _, _]) Z (Ap (AA (Ao (AA (Ao (Ak Z ⟨fun _ _ => Z, ?_⟩))))))))
      rw [List.drop_eq_getElem_cons hlt, firstI, if_pos hp] at hfs
      rw [hfs] at hq; exact hq
    refine At (AJ (Ag (AC (Ah Z Z Z Z (add64 (by omega)) (Aa Z Z (Am (e' := [_, _, _, _, _, _, _, _, _, _, _, _, _, _, _, _, _, _, _]) Z (⟨ls.length - (i + 1), by omega, Z, fun p hp => under_dn (hsub p hp), i + 1, Z, by omega, ?_, AU Z⟩)))))))
    rw [List.drop_eq_getElem_cons hlt, firstI, if_neg (by simp [hp])] at hfs
    exact hfs
  have hge : ls.length ≤ i := by simpa using ht
  refine AY (AQ (AN (Ag (Ac (Ab Z Z (Am (e' := [_, _, _, _, _, _, _, _, _, _, _, _, _, _, _, _, _, _, _]) Z (Ap (Ak Z ⟨fun _ _ => Z, ?_⟩))))))))
  rw [List.drop_eq_nil_of_le hge, firstI] at hfs
  rw [hfs] at hq; exact hq
theorem Se.store {H : Heap} {q : Nm} {i : Nat} {ys : List AVal} {l l0 : Se} (hq : H q = some (.row 3 ys)) (hi : ys[i]? = some l0.enc) : aStore cfg.T H 135 (.ptr q i 0) l.enc = some (H.put q (some (.row 3 (ys.set i l.enc)))) :=
  aStore_ptr T135 hq hi ⟨rfl, rfl, Nat.le_refl 3⟩
theorem Se.delF {ν : Nm} {H : Heap} {Q : AVal → Heap → Prop} {ls : List Se} {S : AVal} {fp : List Nm} {f : FuncId} {caps : List AVal} {bs : List Nm} {p : Se → Bool} (hf : Se.FnP f caps bs H p) (hbs : ∀ b ∈ bs, b ∉ fp ∧ under ν b = false) (hfp : ∀ q ∈ fp, under ν q = false) (h : Sl H 3 (ls.map Se.enc) S fp) (hn : ls.length ≤ 4611686018427387904)
    (hq : ∀ v H', Sl H' 3 ((ls.filter fun x => !p x).map Se.enc) v fp → (∀ p, p ∉ fp → under ν p = false → H' p = H p) → Q v H') : CW cfg ν 96 [S, .fn f caps] H Q := by
  refine AX g96 F96 Z (Ac (Ab Z Z (Am (e' := [_, _, _, _, _, _, _, _, _, _, _, _, _, _, _, _, _, _, _, _, _, _, _, _, _, _, _, _, _, _, _, _, _, _, _, _, _, _, _, _, _, _]) Z (Ac (Aa Z Z (Aa Z Z (AB Z Z (Se.idx hf (fun b hb => by have := (hbs b hb).2; repeat (first | exact this | apply under_dn)) (.own h) hn (Ay (e' := [_, _, _, _, _, _, _, _, _, _, _, _, _, _, _, _, _, _, _, _, _, _, _, _, _, _, _, _, _, _, _, _, _, _, _, _, _, _, _, _, _, _]) Z (Ab Z Z (Am (e' := [_, _, _, _, _, _, _, _, _, _, _, _, _, _, _, _, _, _, _, _, _, _, _, _, _, _, _, _, _, _, _, _, _, _, _, _, _, _, _, _, _, _]) Z (Aq (Ac (Aa Z Z (Ah Z Z Z Z Z (Am (e' := [_, _, _, _, _, _, _, _, _, _, _, _, _, _, _, _, _, _, _, _, _, _, _, _, _, _, _, _, _, _, _, _, _, _, _, _, _, _, _, _, _, _]) Z (AH Z (fun ht => ?_) (fun ht => ?_))))))))))))))))))
  · refine Ac ?_
    refine Aa Z Z (Ab Z Z (Am (e' := [_, _, _, _, _, _, _, _, _, _, _, _, _, _, _, _, _, _, _, _, _, _, _, _, _, _, _, _, _, _, _, _, _, _, _, _, _, _, _, _, _, _]) Z (Ap (Ao (Ak Z (hq _ _ ?_ (fun _ _ _ => Z)))))))
    have ht : firstI p ls 0 = -1 := by simpa using ht
    rcases firstI_spec p ls 0 with ⟨_, h2⟩ | ⟨i, _, h2, _⟩
    · rw [h2]; exact h
    omega
  have ht : firstI p ls 0 ≠ -1 := by simpa using ht
  obtain ⟨i0, hi0, he0, hfi⟩ : ∃ i, i < ls.length ∧ firstI p ls 0 = i ∧ (ls.take (i + 1)).filter (fun x => !p x) = ls.take i := by
    rcases firstI_spec p ls 0 with ⟨h2, _⟩ | ⟨i, h1, h2, h3⟩
    · exact absurd h2 ht
    exact ⟨i, h1, by omega, h3⟩
  rw [he0]
  obtain ⟨q, ys, rfl, rfl, hqr, _, _, htk⟩ := h.at' (i := i0) (x := ls[i0].enc) (by simp [hi0])
  rw [List.length_map] at htk ⊢
  have hqν := hfp q (by simp)
  have hys : ls.length ≤ ys.length := by
    have := congrArg List.length htk
    simp only [List.length_take, List.length_map] at this; omega
  refine At (Ag (Aq (Ac (Aa Z Z (Ah Z Z Z Z (add64 (by omega)) (Ab Z Z (Am (e' := [_, _, _, _, _, _, _, _, _, _, _, _, _, _, _, _, _, _, _, _, _, _, _, _, _, _, _, _, _, _, _, _, _, _, _, _, _, _, _, _, _, _]) Z (AD ?_))))))))
  refine AV (I := fun ν' n e H' => ∃ (i j : Nat) (zs : List AVal) (ks : List Se), n = ls.length - j ∧ i < j ∧ j ≤ ls.length ∧ (∀ p, under ν p = false → under ν' p = false) ∧ H' q = some (.row 3 zs) ∧ zs.length = ys.length ∧ zs.take ls.length = ks.map Se.enc ∧ ks.length = ls.length ∧
    ks.take i = (ls.take j).filter (fun x => !p x) ∧ ks.drop j = ls.drop j ∧ (∀ p, p ≠ q → under ν p = false → H' p = H p) ∧ ∃ g : Nat → AVal, e = [.slc q 3 0 ls.length, .fn f caps, g 2, g 3, g 4, .int .i64 i, .int .i64 j, g 7, g 8, g 9, g 10, g 11, g 12, g 13, g 14, g 15, g 16, g 17, g 18, g 19, g 20, g 21, g 22, g 23, g 24, g 25, g 26, g 27, g 28, g 29, g 30, g 31, g 32, g 33, g 34, g 35, g 36, g 37, g 38, g 39, g 40, g 41]) ?_ _ _ _ _ ⟨i0, i0 + 1, ys, ls, rfl, by omega, by omega, fun p hp => by repeat (first | exact hp | apply under_dn), hqr, rfl, htk, rfl, hfi.symm, rfl, fun _ _ _ => rfl, AU rfl⟩
  rintro ν' n e H' ⟨i, j, zs, ks, rfl, hij, hjn, hsub, hqz, hzl, hzk, hkl, hki, hkj, hfr, g, rfl⟩
  refine Aq (Ac (Aa Z Z (Aa Z Z (BL Z Z (aLen Z Z) (Ay (e' := [_, _, _, _, _, _, _, _, _, _, _, _, _, _, _, _, _, _, _, _, _, _, _, _, _, _, _, _, _, _, _, _, _, _, _, _, _, _, _, _, _, _]) Z (Ah Z Z Z Z Z (Am (e' := [_, _, _, _, _, _, _, _, _, _, _, _, _, _, _, _, _, _, _, _, _, _, _, _, _, _, _, _, _, _, _, _, _, _, _, _, _, _, _, _, _, _]) Z (AH Z (fun ht => ?_) (fun ht => ?_)))))))))
  · have hlt : j < ls.length := by simpa using ht
    have hkj2 : ks[j]? = some ls[j] := by
      have := congrArg (fun l => l[0]?) hkj
      simp only [List.getElem?_drop, Nat.add_zero] at this
      rw [this]; simp [hlt]
    have hzj : zs[j]? = some ls[j].enc := by
      have := congrArg (fun l => l[j]?) hzk
      simp only [List.getElem?_take, if_pos hlt, List.getElem?_map, hkj2, Option.map_some] at this
      exact this
    obtain ⟨l0, hl0⟩ : ∃ l0 : Se, zs[i]? = some l0.enc := by
      have := congrArg (fun l => l[i]?) hzk
      simp only [List.getElem?_take, if_pos (show i < ls.length by omega), List.getElem?_map] at this
      have hk : i < ks.length := by omega
      rw [List.getElem?_eq_getElem hk, Option.map_some] at this
      exact ⟨_, this⟩
    refine At (Ag (Aq (AD (Ac (Aa Z Z (Aa Z Z (OW_ia Z Z Z (ia_slc0 T23 Z T135 Z hlt) (BD Z Z (aLoad_ptr T135 hqz hzj Z) (OW_alloc Z Z (OW_store Z Z Z (aStore_ptr T135 put_same Z ⟨Z, Z, by decide⟩) (Am (e' := [_, _, _, _, _, _, _, _, _, _, _, _, _, _, _, _, _, _, _, _, _, _, _, _, _, _, _, _, _, _, _, _, _, _, _, _, _, _, _, _, _, _]) Z ?_)))))))))))
    have hqa : ∀ {l : Nm}, under ν' l = true → q ≠ l := fun hl => far (hsub q hqν) hl
    refine Ac (Aa Z Z (BD Z Z (aLoad_ptr T135 put_same Z Z) (OW_fv Z Z Z (hf _ ls[j] _ _ ?_ ?_))))
    · intro b hb
      have hb2 := hsub b (hbs b hb).2
      have hne : b ≠ 4 :: 0 :: 0 :: 1 :: 0 :: ν' := far hb2 (AM (AM (AM (AM (AM AI)))))
      rw [put_ne hne, put_ne hne]
      exact ⟨hfr b (fun e => (hbs b hb).1 (by simp [e])) (hbs b hb).2, by repeat (first | exact hb2 | apply under_dn)⟩
    refine Ay (e' := [_, _, _, _, _, _, _, _, _, _, _, _, _, _, _, _, _, _, _, _, _, _, _, _, _, _, _, _, _, _, _, _, _, _, _, _, _, _, _, _, _, _]) Z (BE Z Z Z (Am (e' := [_, _, _, _, _, _, _, _, _, _, _, _, _, _, _, _, _, _, _, _, _, _, _, _, _, _, _, _, _, _, _, _, _, _, _, _, _, _, _, _, _, _]) Z ?_))
    have hfl : (ls.take (j + 1)).filter (fun x => !p x) = (ls.take j).filter (fun x => !p x) ++ (if p ls[j] then [] else [ls[j]]) := by
      rw [List.take_succ_eq_append_getElem hlt, List.filter_append]
      congr 1
      by_cases hp : p ls[j] = true <;> simp [hp]
    refine AH Z (fun hp => ?_) (fun hp => ?_)
    · have hp : p ls[j] = false := by simpa using hp
      refine Ac (Aa Z Z (Aa Z Z (BD Z Z (aLoad_ptr T135 put_same Z Z) (OW_ia Z Z Z (ia_slc0 T23 Z T135 Z (show i < ls.length by omega)) (OW_store Z Z Z (Se.store (l := ls[j]) (l0 := l0) (by rw [put_ne (hqa (by repeat (first | exact AI | apply AM))), put_ne (hqa (by repeat (first | exact AI | apply AM)))]; exact hqz) hl0) (Am (e' := [_, _, _, _, _, _, _, _, _, _, _, _, _, _, _, _, _, _, _, _, _, _, _, _, _, _, _, _, _, _, _, _, _, _, _, _, _, _, _, _, _, _]) Z (AC (Aa Z Z (Ah Z Z Z Z (add64 (by omega)) (Ab Z Z (Am (e' := [_, _, _, _, _, _, _, _, _, _, _, _, _, _, _, _, _, _, _, _, _, _, _, _, _, _, _, _, _, _, _, _, _, _, _, _, _, _, _, _, _, _]) Z (AJ (Ag (AC (Aa Z Z (Ah Z Z Z Z (add64 (by omega)) (Ab Z Z (Am (e' := [_, _, _, _, _, _, _, _, _, _, _, _, _, _, _, _, _, _, _, _, _, _, _, _, _, _, _, _, _, _, _, _, _, _, _, _, _, _, _, _, _, _]) Z ?_))))))))))))))))))
      have hil : i < ks.length := by omega
      have hki2 : (ks.set i ls[j]).take (i + 1) = (ls.take (j + 1)).filter (fun x => !p x) := by
        rw [hfl, ← hki, if_neg (by simp [hp]), List.take_set, List.take_succ_eq_append_getElem hil, List.set_append_right _ _ (by rw [List.length_take]; omega), List.length_take, Nat.min_eq_left (by omega), Nat.sub_self, List.set_cons_zero]
      refine ⟨ls.length - (j + 1), by omega, i + 1, j + 1, zs.set i ls[j].enc, ks.set i ls[j], Z, by omega, by omega, fun p hp => under_dn (hsub p hp), put_same, by simpa using hzl, ?_, by simpa using hkl, hki2, ?_, ?_, AU Z⟩
      · rw [List.take_set, hzk, List.map_set]
      · rw [List.drop_set_of_lt (by omega), ← List.drop_drop, hkj, List.drop_drop]
      intro p' hp1 hp2
      have hpa : ∀ {l : Nm}, under ν' l = true → p' ≠ l := fun hl => far (hsub p' hp2) hl
      rw [put_ne hp1, put_ne (hpa (by repeat (first | exact AI | apply AM))), put_ne (hpa (by repeat (first | exact AI | apply AM)))]
      exact hfr p' hp1 hp2
    have hp : p ls[j] = true := by simpa using hp
    refine At (AJ (Ag (AC (Aa Z Z (Ah Z Z Z Z (add64 (by omega)) (Ab Z Z (Am (e' := [_, _, _, _, _, _, _, _, _, _, _, _, _, _, _, _, _, _, _, _, _, _, _, _, _, _, _, _, _, _, _, _, _, _, _, _, _, _, _, _, _, _]) Z (⟨ls.length - (j + 1), by omega, i, j + 1, zs, ks, Z, by omega, by omega, fun p hp => under_dn (hsub p hp), ?_, hzl, hzk, hkl, ?_, ?_, ?_, AU Z⟩))))))))
    · rw [put_ne (hqa (by repeat (first | exact AI | apply AM))), put_ne (hqa (by repeat (first | exact AI | apply AM)))]; exact hqz
    · rw [hki, hfl, if_pos hp, List.append_nil]
    · rw [← List.drop_drop, hkj, List.drop_drop]
    intro p' hp1 hp2
    have hpa : ∀ {l : Nm}, under ν' l = true → p' ≠ l := fun hl => far (hsub p' hp2) hl
    rw [put_ne (hpa (by repeat (first | exact AI | apply AM))), put_ne (hpa (by repeat (first | exact AI | apply AM)))]
    exact hfr p' hp1 hp2
  have hge : ls.length ≤ j := by simpa using ht
  obtain rfl : j = ls.length := by omega
  refine AY (AQ (AN (Ag (Ac (Aa Z Z (Aa Z Z (BM Z Z Z Z Z (slc_lo (i := i) T23 Z T135 Z (by omega)) (BL Z Z (clear_slc T23 Z T135 Z hqz (by omega) Z) (Am (e' := [_, _, _, _, _, _, _, _, _, _, _, _, _, _, _, _, _, _, _, _, _, _, _, _, _, _, _, _, _, _, _, _, _, _, _, _, _, _, _, _, _, _]) Z (Ac (Aa Z Z (Aa Z Z (BM Z Z Z Z Z (slc_hi (i := i) T23 Z T135 Z (by omega)) (Ay (e' := [_, _, _, _, _, _, _, _, _, _, _, _, _, _, _, _, _, _, _, _, _, _, _, _, _, _, _, _, _, _, _, _, _, _, _, _, _, _, _, _, _, _]) Z (Ab Z Z (Am (e' := [_, _, _, _, _, _, _, _, _, _, _, _, _, _, _, _, _, _, _, _, _, _, _, _, _, _, _, _, _, _, _, _, _, _, _, _, _, _, _, _, _, _]) Z (Ap ?_)))))))))))))))))
  rw [List.take_length] at hki
  refine Ak Z (hq _ _ ?_ ?_)
  · have hzi : zs.take i = (ls.filter fun x => !p x).map Se.enc := by
      rw [← hki, List.map_take, ← hzk, List.take_take]; congr 1; omega
    refine .row put_same ?_ ?_
    · rw [List.length_map, ← hki, List.length_take]; omega
    rw [Nat.zero_add, List.append_assoc, List.take_append_of_le_length (by simp; omega), List.take_take, Nat.min_self]; exact hzi
  intro p hp hp2
  have hp' : p ≠ q := by simpa using hp
  rw [put_ne hp']; exact hfr p hp' hp2
theorem Se.delS {ν β ps pos' : Nm} {H : Heap} {Q : AVal → Heap → Prop} {L : List Asr} {k kb : Nat} {ls : List Se} {S u : AVal} {b : Nm} {f : FuncId} {caps : List AVal} {p : Se → Bool} (hf : Se.FnP f caps [b] H p) (hS : Own β ps H L) (hle : le ps ν) (hk : L[k]? = some (sl S 3 (ls.map Se.enc))) (hkb : L[kb]? = some (row b 1 [u])) (hne : k ≠ kb) (hpos : before ν pos') (hn : ls.length ≤ 4611686018427387904)
    (hq : ∀ v H', Own β pos' H' (L.set k (sl v 3 ((ls.filter fun x => !p x).map Se.enc))) → Q v H') : CW cfg ν 96 [S, .fn f caps] H Q := by
  obtain ⟨fp, g, hs, hg, hd, hfp, hgp, hup⟩ := hS.two hk hkb hne
  have hs : Sl H 3 (ls.map Se.enc) S fp := hs
  obtain ⟨rfl, hb⟩ : g = [b] ∧ H b = some (.row 1 [u]) := hg
  refine Se.delF hf (fun b' hb' => ?_) (fun q hq => (hle _ (hfp q hq).1).under) hs hn fun v H' hs' hfr => ?_
  · obtain rfl : b' = b := by simpa using hb'
    exact ⟨fun hm => hd _ hm (by simp), (hle _ (hgp _ (by simp)).1).under⟩
  exact hq v H' (hup H' fp (sl v 3 ((ls.filter fun x => !p x).map Se.enc)) pos' (hle.trans (Ax hpos)) hs' (fun p hp hb => hfr p hp (hle _ hb).under) (fun p hp => .inl hp) (fun p hp => ⟨(hle _ (hfp p hp).1).trans hpos, (hfp p hp).2⟩))
theorem Se.clone {ν β ps pos' : Nm} {H : Heap} {Q : AVal → Heap → Prop} {L : List Asr} {ls : List Se} {S : AVal} (hv : Ls S (ls.map Se.enc)) (hS : Own β ps H L) (hle : le ps ν) (hβ : under β ν = true) (hp : before ν pos') (hn : ls.length ≤ 4294967296)
    (hq : ∀ v H', Own β pos' H' (sl v 3 (ls.map Se.enc) :: L) → Q v H') : CW cfg ν 92 [S] H Q := by
  have body : ∀ S, (S = .nls ∨ S = .nne) → XW cfg ν fi92.body (start fi92 [S]) (fun _ => none) (retW cfg.T fi92 fun v _ => isEmp v = true) := by
    rintro S (rfl | rfl)
    · refine Ac ?_
      refine Ab Z Z (Am (e' := [_, _, _, _, _, _, _, _]) Z (Aq (Ac (Aa Z Z (Ah Z Z Z Z Z (Am (e' := [_, _, _, _, _, _, _, _]) Z (AZ Z Z (Ac (Ab Z Z (Am (e' := [_, _, _, _, _, _, _, _]) Z (Ap (Ao ?_))))))))))))
      exact Ak rfl rfl
    refine Ac (Ab Z Z (Am (e' := [_, _, _, _, _, _, _, _]) Z (Aq (Ac (Aa Z Z (Ah Z Z Z Z Z (Am (e' := [_, _, _, _, _, _, _, _]) Z (Bd Z Z (At (Ag (Ac (Bq Z Z Z (Aa Z Z (BL Z Z Z (Ay (e' := [_, _, _, _, _, _, _, _]) Z (Ab Z Z (Am (e' := [_, _, _, _, _, _, _, _]) Z (Ap ?_))))))))))))))))))
    exact Ak rfl rfl
  by_cases h0 : noneIn [S] = true
  · refine CW_clone0 g92 F92 rfl h0 (body _ (.inl rfl)) (body _ (.inr rfl)) (hq _ _ ?_)
    obtain rfl : ls = [] := by
      rcases hv with rfl | ⟨h, _⟩
      · cases ls with
        | nil => rfl
        | cons x r => simp [noneIn] at h0
      simpa using h
    exact (hS.mono (hle.trans (Ax hp))).addE
  have h0 : noneIn [S] = false := by simpa using h0
  rcases hv with rfl | ⟨h, rfl | rfl⟩
  · obtain ⟨x, r, rfl⟩ : ∃ x r, ls = x :: r := by
      cases ls with
      | nil => simp [noneIn] at h0
      | cons x r => exact ⟨x, r, rfl⟩
    refine BI g92 F92 Z h0 (Ac (Ab Z Z (Am (e' := [_, _, _, _, _, _, _, _]) Z (Aq (Ac (Aa Z Z (Ah Z Z Z Z Z (Am (e' := [_, _, _, _, _, _, _, _]) Z (Bd Z Z (At (Ag (Ac (Bq Z Z Z (Aa Z Z (BG (hS.mono hle) (AE (b := [2, 0, 1, 1])) (Af [2, 0, 1, 1] hβ) Z Z Z Z Z Z Z Z (Ls.elems Ls.of) (BA (fun _ => Z)) (by simpa using hn) (by decide) fun O2 H2 hS2 => Ay (e' := [_, _, _, _, _, _, _, _]) Z (Ab Z Z (Am (e' := [_, _, _, _, _, _, _, _]) Z (Ap ?_))))))))))))))))))
    exact Ak rfl (hq _ _ (hS2.mono (Ax (Az (a := [3, 0, 1, 1]) hp))))
  · simp [noneIn] at h0
  obtain rfl : ls = [] := by simpa using h
  refine BI g92 F92 Z Z (Ac (Ab Z Z (Am (e' := [_, _, _, _, _, _, _, _]) Z (Aq (Ac (Aa Z Z (Ah Z Z Z Z Z (Am (e' := [_, _, _, _, _, _, _, _]) Z (AZ Z Z (Ac (Ab Z Z (Am (e' := [_, _, _, _, _, _, _, _]) Z (Ap (Ao ?_))))))))))))))
  exact Ak rfl (hq _ _ (hS.mono (hle.trans (Ax hp))).addN)
theorem Se.cloneO {ν β ps pos' : Nm} {H : Heap} {Q : AVal → Heap → Prop} {L : List Asr} {ls : List Se} {S : AVal} {k : Nat} (hS : Own β ps H L) (hL : L[k]? = some (sl S 3 (ls.map Se.enc))) (hle : le ps ν) (hβ : under β ν = true) (hp : before ν pos') (hn : ls.length ≤ 4294967296)
    (hq : ∀ v H', Own β pos' H' (sl v 3 (ls.map Se.enc) :: L) → Q v H') : CW cfg ν 92 [S] H Q := by
  obtain ⟨f, hf, _⟩ := hS.get hL
  have hf : Sl H 3 (ls.map Se.enc) S f := hf
  cases hf with
  | emp h => exact Se.clone (.inr ⟨h, .inl rfl⟩) hS hle hβ hp hn hq
  | nls h => exact Se.clone (.inr ⟨h, .inr rfl⟩) hS hle hβ hp hn hq
  | row h1 h2 h3 =>
    refine BI g92 F92 Z Z (Ac (Ab Z Z (Am (e' := [_, _, _, _, _, _, _, _]) Z (Aq (Ac (Aa Z Z (Ah Z Z Z Z Z (Am (e' := [_, _, _, _, _, _, _, _]) Z (Bd Z Z (At (Ag (Ac (Bq Z Z Z (Aa Z Z (BG (hS.mono hle) (AE (b := [2, 0, 1, 1])) (Af [2, 0, 1, 1] hβ) Z Z Z Z Z Z Z Z (hS.elems hL) (BA (fun _ => Z)) (by simpa using hn) (by decide) fun O2 H2 hS2 => Ay (e' := [_, _, _, _, _, _, _, _]) Z (Ab Z Z (Am (e' := [_, _, _, _, _, _, _, _]) Z (Ap ?_))))))))))))))))))
    exact Ak rfl (hq _ _ (hS2.mono (Ax (Az (a := [3, 0, 1, 1]) hp))))
end Go.Proofs.YtfkgdlfponfimaaGreat.X.SE
/- Layer 11: what the functions of a session's table do. -/
set_option maxRecDepth 100000
namespace Go.Proofs.YtfkgdlfponfimaaGreat.X.SE
open Go Go.RowKit
variable {ν : Nm} {H : Heap} {Q : AVal → Heap → Prop}
theorem neSe (a b : Se) : aBin cfg.T .neq 135 a.enc b.enc = some (.bool (decide (a ≠ b))) := by
  have e : (decide (a ≠ b)) = !(decide (a.id = b.id) && (decide (a.nr = b.nr) && (decide (a.an = b.an) && true))) := by
    obtain ⟨a1, a2, a3⟩ := a; obtain ⟨b1, b2, b3⟩ := b
    simp only [ne_eq, Se.mk.injEq]
    by_cases h1 : a1 = b1 <;> by_cases h2 : a2 = b2 <;> by_cases h3 : a3 = b3 <;> simp [h1, h2, h3]
  rw [e]; rfl
theorem c_of {id : Int} {β ps pos' : Nm} {L : List Asr} (hS : Own β ps H L) (hle : le ps ν) (hβ : under β ν = true) (hp : before ν pos')
    (hq : ∀ b H2, Own β pos' H2 (row b 1 [.int .u64 id] :: L) → Se.FnP 117 [.ptr b 0 0] [b] H2 (fun x => decide (x.id = id)) → Q (.fn 117 [.ptr b 0 0]) H2) : CW cfg ν 91 [.int .u64 id] H Q := by
  have key : ∀ b H2, H2 b = some (.row 1 [.int .u64 id]) → Se.FnP 117 [.ptr b 0 0] [b] H2 (fun x => decide (x.id = id)) := by
    intro b H2 hb ν x H Q hbs hq
    obtain ⟨h1, h2⟩ := hbs b (by simp)
    rw [hb] at h1
    refine CW_fullS g117 F117 Z (Ac (OW_box Z Z Z (Ab Z Z (Am (e' := [_, _, _, _, _, _, _, _]) Z (Ac (Al Z Z Z (BD Z Z (aLoad_ptr Z put_same Z Z) (BD Z Z (aLoad_ptr Z (by rw [put_ne (far h2 (by repeat (first | exact AI | apply AM)))]; exact h1) Z Z) (Ay (e' := [_, _, _, _, _, _, _, _]) Z (Ah Z Z Z Z Z (Ab Z Z (Am (e' := [_, _, _, _, _, _, _, _]) Z (Ap ?_)))))))))))))
    exact Ak rfl ⟨fun p hp => put_ne (far hp (by repeat (first | exact AI | apply AM))), hq⟩
  refine AX g91 F91 Z ?_
  replace hS := Own.mono hS hle
  refine Ac (AR hS (AE (p := ν) (b := [0, 0])) (Af [0, 0] hβ) Z Z Z ⟨Z, Z⟩ fun H1 (hS1 : Own _ _ _ (_ :: L)) => Ab Z Z (Am (e' := [_,_,_,_]) Z (Ac (OW_mf Z Z (Ab Z Z (Am (e' := [_,_,_,_]) Z (Ap (Ak (res1 Z (Ai Z)) ?_))))))))
  exact hq _ _ (Own.mono hS1 (Ax (Az (a := [1, 0]) hp))) (key _ _ (by obtain ⟨f, ⟨_, h⟩, _⟩ := hS1.get (k := 0) Z; exact h))
def seekL (id nr : Int) : List Se → Int × ByteArray
  | [] => (0, ⟨#[]⟩)
  | x :: r => if x.id = id then (if x.nr = nr then (1, x.an) else if x.nr > nr then (2, ⟨#[]⟩) else (0, ⟨#[]⟩)) else seekL id nr r
theorem seekL_firstI (id nr : Int) (t : List Se) : seekL id nr t = (if firstI (fun x : Se => decide (x.id = id)) t 0 < 0 then ((0, ⟨#[]⟩) : Int × ByteArray) else match t[(firstI (fun x : Se => decide (x.id = id)) t 0).toNat]? with
    | some x => if x.nr < nr then (0, ⟨#[]⟩) else if x.nr > nr then (2, ⟨#[]⟩) else (1, x.an)
    | none => (0, ⟨#[]⟩)) := by
  rcases firstI_cases (fun x : Se => decide (x.id = id)) t with ⟨h1, h2⟩ | ⟨i, h0, h1, h2, h3⟩
  · rw [h1, if_pos (by decide)]
    induction t with
    | nil => rfl
    | cons x r ih =>
      have hx : ¬ x.id = id := by simpa using h2 x (by simp)
      rw [seekL, if_neg hx]
      refine ih ?_ (fun y hy => h2 y (by simp [hy]))
      have : ∀ (r : List Se) (k : Int), (∀ y ∈ r, decide (y.id = id) = false) → firstI (fun x : Se => decide (x.id = id)) r k = -1 := by
        intro r
        induction r with
        | nil => intros; rfl
        | cons y r ih => intro k h; rw [firstI, if_neg (by simp [h y (by simp)])]; exact ih _ (fun z hz => h z (by simp [hz]))
      exact this r 0 (fun y hy => h2 y (by simp [hy]))
  rw [h1, if_neg (by omega), Int.toNat_natCast, List.getElem?_eq_getElem h0]
  clear h1
  induction t generalizing i with
  | nil => simp at h0
  | cons x r ih =>
    cases i with
    | zero =>
      have hx : x.id = id := by simpa using h2
      rw [seekL, if_pos hx]
      simp only [List.getElem_cons_zero]
      by_cases a : x.nr = nr
      · simp [a]
      by_cases b : x.nr < nr
      · rw [if_neg a, if_pos b, if_neg (by omega)]
      rw [if_neg a, if_neg b]
      have : x.nr > nr := by omega
      rw [if_pos this, if_pos this]
    | succ i =>
      have hx : ¬ x.id = id := by have := h3 x (by simp [List.take_succ_cons]); simpa using this
      rw [seekL, if_neg hx]
      exact ih i (by simpa using h0) (by simpa using h2) (fun y hy => h3 y (by simp [List.take_succ_cons, hy]))
theorem pSeek {v : AVal} {t : List Se} (hv : Ls v (t.map Se.enc)) (hn : t.length ≤ 4294967296) (id nr : Int) (hq : Q (.tup [.int .i64 (seekL id nr t).1, .str (seekL id nr t).2]) H) : CW cfg ν 36 [v, .int .u64 id, .int .u64 nr] H Q := by
  rw [seekL_firstI] at hq
  refine Be g36 F36 Z ?_
  have hS0 : Own ν ν (fun _ => none) [] := Own.nil
  refine Ac (Ab Z Z (Ab Z Z (EZ (c38 ..) Z (Ac (Aa Z Z (Aa Z Z (AB Z Z (c_of hS0 (AE (p := ν) (b := [2, 0, 1])) (Af [2, 0, 1] AI) (Au (ν := ν) (a := [2, 0, 1]) (b := [3, 0, 1]) (by decide)) fun b1 H1 hS1 hf1 => ?_) )))))))
  replace hS1 : Own _ _ _ ([_]) := hS1
  refine EN (c38 ..) Z ?_
  have hSb : ∀ p, p = b1 → before p (3 :: 0 :: 1 :: ν) := fun p hp => by subst hp; obtain ⟨f, ⟨h0, _⟩, h⟩ := hS1.get (k := 0) Z; exact le_refl _ (h _ (by rw [h0]; simp)).1
  have hb1 : b1 = b1 := rfl
  refine AB Z Z (Se.idx hf1 (fun b hb => (by rw [List.mem_singleton] at hb; rw [hb]; exact (hSb _ hb1).under)) (.ls hv) (by omega) ?_) 
  have hat := firstI_range (fun x : Se => decide (x.id = id)) t
  generalize firstI (fun x : Se => decide (x.id = id)) t 0 = at0 at hat hq ⊢
  refine Ab Z Z (EZ (c38 ..) Z (Aq (AD (Ac (Aa Z Z (Ah Z Z Z Z Z (Aa Z Z (EN (c38 ..) Z (AT (tt := 16) Z (fun g2_3 => ?_) (fun g2_3 => ?_))))))))))
  ·try simp only [bs] at g2_3
   refine An Z (An Z (EN (c38 ..) Z (An Z (An Z (An Z (EN (c38 ..) Z (An Z (An Z (Aw Z Z Z (EN (c38 ..) Z (Ab Z Z (EZ (c38 ..) Z (AZ Z Z (Ac (Ab Z Z (Ab Z Z (EZ (c38 ..) Z (Ap (AA (Ao (Ak (res2 Z (Ai Z) (Ai Z)) (frz2 (Q := Q) (Ae Z) (Ae Z) ?_))))))))))))))))))))))
   (rw [if_pos (by omega)] at hq; exact hq)
  try simp only [bs] at g2_3
  refine Aa Z Z (Aa Z Z (EN (c38 ..) Z (Bb Z Z Z (by assumption) Z Z Z ((Int.toNat_of_nonneg (by omega)).symm) (Ba (by omega)) Z ?_)))
  refine Al Z Z Z (AS Z Z Z Z (EN (c38 ..) Z (Aa Z Z (Ah Z Z Z Z Z (Aw Z Z Z (EN (c38 ..) Z (Ab Z Z (EZ (c38 ..) Z (AH Z (fun h2 => ?_) (fun h2 => ?_))))))))))
  ·try simp only [bs] at h2
   refine Ac (Ab Z Z (Ab Z Z (EZ (c38 ..) Z (Ap (AA (Ao (Ak (res2 Z (Ai Z) (Ai Z)) (frz2 (Q := Q) (Ae Z) (Ae Z) ?_))))))))
   (rw [if_neg (by omega), List.getElem?_eq_getElem (show at0.toNat < t.length by omega)] at hq; simp only [*, if_true, if_false, reduceIte, gt_iff_lt] at hq; exact hq)
  try simp only [bs] at h2
  refine Ac (Aa Z Z (Aa Z Z (Bb Z Z Z (by assumption) Z Z Z ((Int.toNat_of_nonneg (by omega)).symm) (Ba (by omega)) Z ?_)))
  refine EN (c38 ..) Z (Al Z Z Z (AS Z Z Z Z (Aa Z Z (EN (c38 ..) Z (Ah Z Z Z Z Z (Ab Z Z (EZ (c38 ..) Z (AH Z (fun h4 => ?_) (fun h4 => ?_)))))))))
  ·try simp only [bs] at h4
   refine Ac (Ab Z Z (Ab Z Z (EZ (c38 ..) Z (Ap (AA (Ao (Ak (res2 Z (Ai Z) (Ai Z)) (frz2 (Q := Q) (Ae Z) (Ae Z) ?_))))))))
   (rw [if_neg (by omega), List.getElem?_eq_getElem (show at0.toNat < t.length by omega)] at hq; simp only [*, if_true, if_false, reduceIte, gt_iff_lt] at hq; exact hq)
  try simp only [bs] at h4
  refine At (AJ (Ag (Ac (Aa Z Z (Aa Z Z (Bb Z Z Z (by assumption) Z Z Z ((Int.toNat_of_nonneg (by omega)).symm) (Ba (by omega)) Z ?_))))))
  refine EN (c38 ..) Z (Al Z Z Z (AS Z Z Z Z (Ab Z Z (EN (c38 ..) Z (Ab Z Z (EZ (c38 ..) Z (Ap (Ak (res2 Z (Ai Z) (Ai Z)) (frz2 (Q := Q) (Ae Z) (Ae Z) ?_)))))))))
  (rw [if_neg (by omega), List.getElem?_eq_getElem (show at0.toNat < t.length by omega)] at hq; simp only [*, if_true, if_false, reduceIte, gt_iff_lt] at hq; exact hq)
theorem rSeek {v : AVal} {t : List Se} (hv : freeze [] H 8 v = .lst (t.map Se.enc)) (hn : t.length ≤ 4294967296) (id nr : Int) (hq : Q (.tup [.int .i64 (seekL id nr t).1, .str (seekL id nr t).2]) H) : CW cfg ν 42 [v, .int .u64 id, .int .u64 nr] H Q := by
  refine BJ (args' := [.lst (t.map Se.enc), .int .u64 id, .int .u64 nr]) g42 F42 Z (AF (by assumption) (AF (Ae Z) (AF (Ae Z) Bw))) ?_
  refine Ac (Ab Z Z (Ab Z Z (EZ (c41 ..) Z (Aq (Ac (Ab Z Z (EZ (c41 ..) Z (AD (AV (I := fun ν' mm ee H' => ∃ (i : Nat), mm = t.length - i ∧ under (1 :: 0 :: 1 :: ν) ν' = true ∧ (i ≤ t.length ∧ seekL id nr t = seekL id nr (t.drop i)) ∧ ∃ g : Nat → AVal, ee = [.lst (t.map Se.enc), .int .u64 id, .int .u64 nr, g 3, g 4, g 5, g 6, g 7, .int .i64 i, g 9, g 10, g 11, g 12, g 13, g 14, g 15, g 16, g 17, g 18, g 19, g 20, g 21, g 22, g 23, g 24, g 25, g 26, g 27, g 28, g 29, g 30, g 31, g 32, g 33, g 34, g 35, g 36, g 37, g 38, g 39, g 40]) ?_ _ _ _ _ ⟨0, Z, AI, (⟨by omega, Z⟩), AU Z⟩)))))))))
  rintro ν1 mm ee H1 ⟨i, rfl, hU1, ⟨hi, hI⟩, g1, rfl⟩
  refine Aq (Ac (Aa Z Z (Aa Z Z (Bj Z Z Ls.of Z Z Z (List.length_map _) (EN (c41 ..) Z (Ah Z Z Z Z Z (EZ (c41 ..) Z (AH Z (fun h2 => ?_) (fun h2 => ?_)))))))))
  ·try simp only [bs] at h2
   refine At (Ag (Aq (AD (Aq (Ac (Aa Z Z (Aa Z Z (Bb Z Z Z Ls.of Z Z Z Z (Ba (by omega)) Z (EN (c41 ..) Z (Al Z Z Z (AS Z Z Z Z (Aa Z Z (EN (c41 ..) Z (Ah Z Z Z Z Z (EZ (c41 ..) Z (AH Z (fun h4 => ?_) (fun h4 => ?_)))))))))))))))))
   ·try simp only [bs] at h4
    refine AY (AQ (AN (Ag (AC (Aa Z Z (Ah Z Z Z Z (AW (by omega)) (Ab Z Z (EZ (c41 ..) Z (⟨_, ?_, i + 1, Z, AM hU1, ?_, AU Z⟩)))))))))
    · omega
    exact ⟨by omega, by rw [hI, List.drop_eq_getElem_cons (by omega), seekL, if_neg (by assumption)]⟩
   try simp only [bs] at h4
   refine At (Ag (Aq (Ac (Aa Z Z (Aa Z Z (Bb Z Z Z Ls.of Z Z Z Z (Ba (by omega)) Z (EN (c41 ..) Z (Al Z Z Z (AS Z Z Z Z (Aa Z Z (EN (c41 ..) Z (Ah Z Z Z Z Z (EZ (c41 ..) Z (AH Z (fun h5 => ?_) (fun h5 => ?_)))))))))))))))
   ·try simp only [bs] at h5
    refine Ac (Aa Z Z (Aa Z Z (Bb Z Z Z Ls.of Z Z Z Z (Ba (by omega)) Z (EN (c41 ..) Z (Al Z Z Z (AS Z Z Z Z (Ab Z Z (EN (c41 ..) Z (Ab Z Z (EZ (c41 ..) Z (Ap (Ao (AA (Ao (AA (Ao (Ak (res2 Z (Ai Z) (Ai Z)) ⟨Z, ?_⟩)))))))))))))))))
    (rw [hI, List.drop_eq_getElem_cons (by omega), seekL, if_pos (by omega)] at hq; simp only [*, if_true, if_false, reduceIte, gt_iff_lt] at hq; exact hq)
   try simp only [bs] at h5
   refine At (Ag (Aq (Ac (Aa Z Z (Aa Z Z (Bb Z Z Z Ls.of Z Z Z Z (Ba (by omega)) Z (EN (c41 ..) Z (Al Z Z Z (AS Z Z Z Z (Aa Z Z (EN (c41 ..) Z (Ah Z Z Z Z Z (EZ (c41 ..) Z (AH Z (fun h7 => ?_) (fun h7 => ?_)))))))))))))))
   ·try simp only [bs] at h7
    refine Ac (Ab Z Z (Ab Z Z (EZ (c41 ..) Z (Ap (Ao (AA (Ao (AA (Ao (Ak (res2 Z (Ai Z) (Ai Z)) ⟨Z, ?_⟩))))))))))
    (rw [hI, List.drop_eq_getElem_cons (by omega), seekL, if_pos (by omega)] at hq; simp only [*, if_true, if_false, reduceIte, gt_iff_lt] at hq; exact hq)
   try simp only [bs] at h7
   refine At (Ag (Ac (Ab Z Z (Ab Z Z (EZ (c41 ..) Z (Ap (AA (Ao (AA (Ao (Ak (res2 Z (Ai Z) (Ai Z)) ⟨Z, ?_⟩)))))))))))
   (rw [hI, List.drop_eq_getElem_cons (by omega), seekL, if_pos (by omega)] at hq; simp only [*, if_true, if_false, reduceIte, gt_iff_lt] at hq; exact hq)
  try simp only [bs] at h2
  refine AY (AQ (AN (Ag (Ac (Ab Z Z (Ab Z Z (EZ (c41 ..) Z (Ap (Ak (res2 Z (Ai Z) (Ai Z)) ⟨Z, ?_⟩)))))))))
  (rw [hI, List.drop_eq_nil_of_le (by omega)] at hq; exact hq)
end Go.Proofs.YtfkgdlfponfimaaGreat.X.SE
/- Layer 11: Note, Is, has, Check. -/
set_option maxRecDepth 100000
namespace Go.Proofs.YtfkgdlfponfimaaGreat.X.SE
open Go Go.RowKit
variable {ν : Nm} {H : Heap} {Q : AVal → Heap → Prop}
def cutA (a : ByteArray) : ByteArray := a.extract 0 (min a.size 256)
theorem cutA_id {a : ByteArray} (h : a.size ≤ 256) : cutA a = a := by
  unfold cutA; rw [Nat.min_eq_left h]; simp
def keepL (id : Int) (t : List Se) : List Se := t.filter (fun x => !decide (x.id = id))
def lastL (l : List Se) : List Se := l.drop (l.length - 16)
def noteL (t : List Se) (id nr : Int) (a : ByteArray) : List Se := lastL (keepL id t ++ [⟨id, nr, cutA a⟩])
theorem keepL_le (id : Int) (t : List Se) : (keepL id t).length ≤ t.length := List.length_filter_le _ _
theorem keepL_cons (id : Int) (x : Se) (r : List Se) : keepL id (x :: r) = if x.id = id then keepL id r else x :: keepL id r := by
  by_cases h : x.id = id <;> simp [keepL, h]
theorem Sv.reachP {w : Nat} {xs : List AVal} {O : AVal} {fp : List Nm} (h : Sv H w xs O fp) (hp : ∀ x ∈ xs, plain x = true) {n : Nat} : ∀ q ∈ reach [] H n O, q ∈ fp := by
  have rp : ∀ (m : Nat) (v : AVal), plain v = true → reach [] H m v = [] := by
    have leaf : ∀ (m : Nat) (c : AVal), (match c with
      | .bool _ | .int _ _ | .str _ | .nilp | .ptr _ _ _ | .nilm | .map _ | .nilf | .nili | .nne | .lst _ => true
      | _ => false) = true → reach [] H m c = [] := by
      intro m c hc
      cases m with
      | zero => rfl
      | succ m => cases c <;> first | rfl | (cases hc; done)
    intro m v hv
    cases m with
    | zero => rfl
    | succ m =>
      cases v with
      | agg cs =>
        simp only [plain, List.all_eq_true] at hv
        simp only [reach, List.flatten_eq_nil_iff, List.mem_map]
        rintro _ ⟨c, hc, rfl⟩
        exact leaf m c (hv c hc)
      | _ => first | rfl | (cases hv; done)
  intro q hq
  cases n with
  | zero => simp [reach] at hq
  | succ n =>
    cases h with
    | emp h => simp [reach] at hq
    | @row p off m ys h1 h2 h3 h4 =>
      simp only [reach, show under [] p = true by simp [under], if_true, h1, if_pos h3, h4, List.mem_cons] at hq
      rcases hq with hq | hq
      · simp [hq]
      obtain ⟨t, ht, hq⟩ := List.mem_flatten.1 hq
      obtain ⟨x, hx, rfl⟩ := List.mem_map.1 ht
      rw [rp _ _ (hp x hx)] at hq
      simp at hq
theorem Own.castV {β pos : Nm} {L : List Asr} {k w : Nat} {O : AVal} {xs : List AVal} (h : Own β pos H L) (hk : L[k]? = some (sv O w xs)) (hp : ∀ x ∈ xs, plain x = true) : X.freeze [] H 8 O = .lst xs ∧ Own β pos (X.lose (reach [] H 8 O) H) (L.eraseIdx k) := by
  have h1 := h.pick hk
  obtain ⟨f, hf, _⟩ := h1.get (k := 0) Z
  have hf : Sv H w xs O f := hf
  refine ⟨hf.freeze (fun q _ => Bh) hp, ?_⟩
  obtain ⟨fp, ⟨f1, f2, rfl, g1, g2, g3⟩, g4⟩ := h1
  have g2 : Sv H w xs O f1 := g2
  refine ⟨f2, g3.framed fun p hp' => ?_, fun p hp' => g4 p (by simp [hp'])⟩
  unfold X.lose
  rw [if_neg]
  intro hm
  exact g1 p (Sv.reachP g2 hp p (by simpa using hm)) hp'
theorem pNoteL {v : AVal} {t : List Se} {β ps pos' : Nm} {L : List Asr} (hv : Ls v (t.map Se.enc)) (hS : Own β ps H L)  (hle : le ps ν) (hβ : under β ν = true) (hp : before ν pos') (hn : t.length ≤ 4294967290) (id nr : Int) (a : ByteArray) (ha : a.size ≤ 140737488355328) (hq : ∀ H1, Own β pos' H1 L → Q (.lst ((noteL t id nr a).map Se.enc)) H1) : CW cfg ν 39 [v, .int .u64 id, .int .u64 nr, .str a] H Q := by
  have hk := keepL_le id t
  refine CW_cast g39 F39 Z ?_
  replace hS := Own.mono hS hle
  refine Ac (Ab Z Z (EZ (c32 ..) Z (Ac (Aa Z Z (AB Z Z (Se.clone hv hS (AE (p := ν) (b := [1, 0, 1])) (Af [1, 0, 1] hβ) (Au (ν := ν) (a := [1, 0, 1]) (b := [2, 0, 1]) (by decide)) (by omega) fun O1 H1 hS1 => ?_) )))))
  replace hS1 : Own _ _ _ (_ :: L) := hS1
  refine Aa Z Z (EN (c32 ..) Z (AB Z Z (c_of hS1 (Ar (ν := ν) (a := [2, 0, 1]) (b := [3, 0, 1]) (by decide)) (Af [3, 0, 1] hβ) (Au (ν := ν) (a := [3, 0, 1]) (b := [4, 0, 1]) (by decide)) fun b1 H2 hS2 hf1 => ?_) ))
  replace hS2 : Own _ _ _ (_ :: _ :: L) := hS2
  refine AB Z Z (Se.delS (by assumption) hS2 le_refl (k := 1) (kb := 0) Z Z (by decide) (Au (ν := ν) (a := [4, 0, 1]) (b := [5, 0, 1]) (by decide)) (by omega) fun O2 H3 hS3 => ?_) 
  replace hS3 : Own _ _ _ (_ :: _ :: L) := hS3
  change Own _ _ _ (_ :: sl _ 3 ((keepL id t).map Se.enc) :: L) at hS3
  refine Ab Z Z (EZ (c32 ..) Z (Ac (Aa Z Z (Aa Z Z (Aa Z Z (EN (c32 ..) Z (Aa Z Z (Aa Z Z (By Z Z Z (EN (c32 ..) Z (BL Z Z mn64 (BM Z Z Z Z Z (str_hi Z Z (by omega) (by omega)) ?_))))))))))))
  rw [show (min (a.size : Int) 256).toNat = min a.size 256 by omega]
  refine BF Z Z (v := .agg [_, _, _]) Z (EN (c32 ..) Z (Bq Z Z (v := .lst [_]) Z (Bz hS3 (k := 1) Z (Ar (ν := ν) (a := [5, 0, 1]) (b := [10, 0, 1, 1]) (by decide)) (Af [10, 0, 1, 1] hβ) Z Z Z Z Z Z Z Z Z (Br Z) (by (simp only [ss]; omega)) (by decide) fun O3 H4 (hS4 : Own _ _ _ (_ :: _ :: L)) => Ab Z Z (EZ (c32 ..) Z (Ac ?_)))))
  replace hS4 := hS4.reS (k := 1) Z (map_snoc (a := (⟨id, nr, cutA a⟩ : Se)))
  refine Aa Z Z (Aa Z Z (BC hS4 (k := 1) Z Z Z Z Z Z (List.length_map _) (EN (c32 ..) Z (Ah Z Z Z Z (sub_w64 (by (simp only [ss]; omega))) (BL Z Z mx64 (OW_slO_lo hS4 (k := 1) Z (Ar (ν := ν) (a := [11, 0, 1, 1]) (b := [5, 0, 1, 1, 1]) (by decide)) Z Z Z Z Z Z Z ((Int.toNat_of_nonneg (by omega)).symm) (by (simp; done)) (by (simp only [ss]; omega)) trivial fun O4 (hS5 : Own _ _ _ (_ :: _ :: L)) => EN (c32 ..) Z (Ab Z Z (EZ (c32 ..) Z (Ap ?_)))))))))
  replace hS5 := hS5.reV (k := 1) Z List.map_drop.symm
  refine Ak (res1 Z (Ai Z)) ?_
  rw [show (max 0 (((keepL id t ++ [(⟨id, nr, cutA a⟩ : Se)]).length : Int) - 16)).toNat = (keepL id t ++ [(⟨id, nr, cutA a⟩ : Se)]).length - 16 by omega] at *
  obtain ⟨hz1, hz2⟩ := Own.castV (Own.mono hS5 (Ax (Az (a := [6, 0, 1, 1, 1]) hp))) (k := 1) Z (Bx fun _ => rfl)
  rw [hz1]; exact hq _ (Own.drop0 hz2)
theorem pNoteO {v : AVal} {t : List Se} {β ps pos' : Nm} {L : List Asr} {k : Nat}  (hS : Own β ps H L) (hL : L[k]? = some (sl v 3 (t.map Se.enc))) (hle : le ps ν) (hβ : under β ν = true) (hp : before ν pos') (hn : t.length ≤ 4294967290) (id nr : Int) (a : ByteArray) (ha : a.size ≤ 140737488355328) (hq : ∀ H1, Own β pos' H1 L → Q (.lst ((noteL t id nr a).map Se.enc)) H1) : CW cfg ν 39 [v, .int .u64 id, .int .u64 nr, .str a] H Q := by
  have hk := keepL_le id t
  refine CW_cast g39 F39 Z ?_
  replace hS := Own.mono hS hle
  refine Ac (Ab Z Z (EZ (c32 ..) Z (Ac (Aa Z Z (AB Z Z (Se.cloneO hS hL (AE (p := ν) (b := [1, 0, 1])) (Af [1, 0, 1] hβ) (Au (ν := ν) (a := [1, 0, 1]) (b := [2, 0, 1]) (by decide)) (by omega) fun O1 H1 hS1 => ?_) )))))
  replace hS1 : Own _ _ _ (_ :: L) := hS1
  refine Aa Z Z (EN (c32 ..) Z (AB Z Z (c_of hS1 (Ar (ν := ν) (a := [2, 0, 1]) (b := [3, 0, 1]) (by decide)) (Af [3, 0, 1] hβ) (Au (ν := ν) (a := [3, 0, 1]) (b := [4, 0, 1]) (by decide)) fun b1 H2 hS2 hf1 => ?_) ))
  replace hS2 : Own _ _ _ (_ :: _ :: L) := hS2
  refine AB Z Z (Se.delS (by assumption) hS2 le_refl (k := 1) (kb := 0) Z Z (by decide) (Au (ν := ν) (a := [4, 0, 1]) (b := [5, 0, 1]) (by decide)) (by omega) fun O2 H3 hS3 => ?_) 
  replace hS3 : Own _ _ _ (_ :: _ :: L) := hS3
  change Own _ _ _ (_ :: sl _ 3 ((keepL id t).map Se.enc) :: L) at hS3
  refine Ab Z Z (EZ (c32 ..) Z (Ac (Aa Z Z (Aa Z Z (Aa Z Z (EN (c32 ..) Z (Aa Z Z (Aa Z Z (By Z Z Z (EN (c32 ..) Z (BL Z Z mn64 (BM Z Z Z Z Z (str_hi Z Z (by omega) (by omega)) ?_))))))))))))
  rw [show (min (a.size : Int) 256).toNat = min a.size 256 by omega]
  refine BF Z Z (v := .agg [_, _, _]) Z (EN (c32 ..) Z (Bq Z Z (v := .lst [_]) Z (Bz hS3 (k := 1) Z (Ar (ν := ν) (a := [5, 0, 1]) (b := [10, 0, 1, 1]) (by decide)) (Af [10, 0, 1, 1] hβ) Z Z Z Z Z Z Z Z Z (Br Z) (by (simp only [ss]; omega)) (by decide) fun O3 H4 (hS4 : Own _ _ _ (_ :: _ :: L)) => Ab Z Z (EZ (c32 ..) Z (Ac ?_)))))
  replace hS4 := hS4.reS (k := 1) Z (map_snoc (a := (⟨id, nr, cutA a⟩ : Se)))
  refine Aa Z Z (Aa Z Z (BC hS4 (k := 1) Z Z Z Z Z Z (List.length_map _) (EN (c32 ..) Z (Ah Z Z Z Z (sub_w64 (by (simp only [ss]; omega))) (BL Z Z mx64 (OW_slO_lo hS4 (k := 1) Z (Ar (ν := ν) (a := [11, 0, 1, 1]) (b := [5, 0, 1, 1, 1]) (by decide)) Z Z Z Z Z Z Z ((Int.toNat_of_nonneg (by omega)).symm) (by (simp; done)) (by (simp only [ss]; omega)) trivial fun O4 (hS5 : Own _ _ _ (_ :: _ :: L)) => EN (c32 ..) Z (Ab Z Z (EZ (c32 ..) Z (Ap ?_)))))))))
  replace hS5 := hS5.reV (k := 1) Z List.map_drop.symm
  refine Ak (res1 Z (Ai Z)) ?_
  rw [show (max 0 (((keepL id t ++ [(⟨id, nr, cutA a⟩ : Se)]).length : Int) - 16)).toNat = (keepL id t ++ [(⟨id, nr, cutA a⟩ : Se)]).length - 16 by omega] at *
  obtain ⟨hz1, hz2⟩ := Own.castV (Own.mono hS5 (Ax (Az (a := [6, 0, 1, 1, 1]) hp))) (k := 1) Z (Bx fun _ => rfl)
  rw [hz1]; exact hq _ (Own.drop0 hz2)
theorem rNote {v : AVal} {t : List Se} {β ps pos' : Nm} {L : List Asr} (hf : X.freeze [] H 8 v = .lst (t.map Se.enc)) (hS : Own β ps (X.lose (X.reach [] H 8 v) H) L) (hle : le ps ν) (hβ : under β ν = true) (hp : before ν pos') (hn : t.length ≤ 4294967290) (id nr : Int) (a : ByteArray) (ha : a.size ≤ 140737488355328) (hq : ∀ H1, Own β pos' H1 L → Q (.lst ((noteL t id nr a).map Se.enc)) H1) : CW cfg ν 45 [v, .int .u64 id, .int .u64 nr, .str a] H Q := by
  have hk := keepL_le id t
  have hR : X.reach [] H 9 (.tup [v, .int .u64 id, .int .u64 nr, .str a]) = X.reach [] H 8 v := by simp [X.reach]
  rw [← hR] at hS
  refine Bu (args' := [.lst (t.map Se.enc), .int .u64 id, .int .u64 nr, .str a]) g45 F45 Z (AF (by assumption) (AF (Ae Z) (AF (Ae Z) (AF (Ae Z) Bw)))) ?_
  replace hS := Own.mono hS hle
  refine Ac (Ab Z Z (EZ (c50 ..) Z (Ac (Bq Z Z Z (Ab Z Z (EZ (c50 ..) Z (Aq (Ac (Ab Z Z (EZ (c50 ..) Z (AD (AV (I := fun ν' mm ee H' => ∃ (i : Nat) (O : AVal) (acc : List Se), mm = t.length - i ∧ under (1 :: 0 :: 1 :: 1 :: ν) ν' = true ∧ Own β ν' H' (sl O 3 (acc.map Se.enc) :: L) ∧ (i ≤ t.length ∧ keepL id t = acc ++ keepL id (t.drop i)) ∧ ∃ g : Nat → AVal, ee = [.lst (t.map Se.enc), .int .u64 id, .int .u64 nr, .str a, g 4, g 5, g 6, g 7, g 8, O, .int .i64 i, g 11, g 12, g 13, g 14, g 15, g 16, g 17, g 18, g 19, g 20, g 21, g 22, g 23, g 24, g 25, g 26, g 27, g 28, g 29, g 30, g 31, g 32, g 33, g 34, g 35, g 36, g 37, g 38, g 39, g 40, g 41, g 42, g 43, g 44, g 45, g 46, g 47, g 48, g 49]) ?_ _ _ _ _ ⟨0, .emp, [], Z, AI, Own.cast (Own.mono (hS.addE) (AE (p := ν) (b := [1, 0, 1, 1]))) (Z), (⟨by omega, Z⟩), AU Z⟩))))))))))))
  rintro ν1 mm ee H1 ⟨i, O, acc, rfl, hU1, hS1, ⟨hi, hI⟩, g1, rfl⟩
  have hal : acc.length ≤ t.length := by have := congrArg List.length hI; simp at this; omega
  refine Aq (Ac (Aa Z Z (Aa Z Z (Bj Z Z Ls.of Z Z Z (List.length_map _) (Ay (e' := [_,_,_,_,_,_,_,_,_,_,_,_,_,_,_,_,_,_,_,_,_,_,_,_,_,_,_,_,_,_,_,_,_,_,_,_,_,_,_,_,_,_,_,_,_,_,_,_,_,_]) Z (Ah Z Z Z Z Z (EZ (c50 ..) Z (AH Z (fun h3 => ?_) (fun h3 => ?_)))))))))
  ·try simp only [bs] at h3
   refine At (Ag (Aq (AD (Ac (Aa Z Z (Aa Z Z (Bb Z Z Z Ls.of Z Z Z Z (Ba (by omega)) Z (Ay (e' := [_,_,_,_,_,_,_,_,_,_,_,_,_,_,_,_,_,_,_,_,_,_,_,_,_,_,_,_,_,_,_,_,_,_,_,_,_,_,_,_,_,_,_,_,_,_,_,_,_,_]) Z (Al Z Z Z (AS Z Z Z Z (Aa Z Z (Ay (e' := [_,_,_,_,_,_,_,_,_,_,_,_,_,_,_,_,_,_,_,_,_,_,_,_,_,_,_,_,_,_,_,_,_,_,_,_,_,_,_,_,_,_,_,_,_,_,_,_,_,_]) Z (Ah Z Z Z Z Z (EZ (c50 ..) Z (AH Z (fun h5 => ?_) (fun h5 => ?_))))))))))))))))
   ·try simp only [bs] at h5
    refine AC (Aa Z Z (Aa Z Z (Aa Z Z (Ay (e' := [_,_,_,_,_,_,_,_,_,_,_,_,_,_,_,_,_,_,_,_,_,_,_,_,_,_,_,_,_,_,_,_,_,_,_,_,_,_,_,_,_,_,_,_,_,_,_,_,_,_]) Z (Bb Z Z Z Ls.of Z Z Z Z (Ba (by omega)) Z (AS Z Z Z (Aj Z Z Z) (Bq Z Z (v := .lst [_]) Z (Ay (e' := [_,_,_,_,_,_,_,_,_,_,_,_,_,_,_,_,_,_,_,_,_,_,_,_,_,_,_,_,_,_,_,_,_,_,_,_,_,_,_,_,_,_,_,_,_,_,_,_,_,_]) Z (Bz hS1 (k := 0) Z (AE (p := ν1) (b := [6, 1, 0, 1, 0])) (Af [6, 1, 0, 1, 0] (Bk (Af [1, 0, 1, 1] hβ) hU1)) Z Z Z Z Z Z Z Z Z (Br Z) (by (simp only [ss]; omega)) (by decide) fun O1 H2 (hS2 : Own _ _ _ (_ :: L)) => Ab Z Z (EZ (c50 ..) Z (AJ (Ag (AC (Aa Z Z (Ah Z Z Z Z (AW (by omega)) (Ab Z Z (EZ (c50 ..) Z (⟨_, ?_, i + 1, O1, acc ++ [t[i]], Z, AM hU1, Own.cast (Own.mono (hS2) (Ar (ν := ν1) (a := [7, 1, 0, 1, 0]) (b := [1]) (by decide))) (by simp [Se.enc]), ?_, AU Z⟩))))))))))))))))))
    · omega
    exact ⟨by omega, by rw [hI, List.drop_eq_getElem_cons (by omega), keepL_cons]; simp only [*, if_true, if_false, reduceIte, List.append_assoc, List.singleton_append]⟩
   try simp only [bs] at h5
   refine At (AJ (Ag (AC (Aa Z Z (Ah Z Z Z Z (AW (by omega)) (Ab Z Z (EZ (c50 ..) Z (⟨_, ?_, i + 1, O, acc, Z, AM hU1, Own.cast (Own.mono (hS1) (AE (p := ν1) (b := [1]))) (Z), ?_, AU Z⟩))))))))
   · omega
   exact ⟨by omega, by rw [hI, List.drop_eq_getElem_cons (by omega), keepL_cons]; simp only [*, if_true, if_false, reduceIte, List.append_assoc, List.singleton_append]⟩
  try simp only [bs] at h3
  refine AY (AQ (AN (Ag (XW_mid (M := fun ee H' => ∃ (a2 : ByteArray) (O : AVal), Own β (1 :: 1 :: 1 :: 1 :: ν) H' (sl O 3 ((keepL id t).map Se.enc) :: L) ∧ (a2 = cutA a) ∧ ∃ g : Nat → AVal, ee = [.lst (t.map Se.enc), .int .u64 id, .int .u64 nr, .str a2, g 4, g 5, g 6, g 7, g 8, O, g 10, g 11, g 12, g 13, g 14, g 15, g 16, g 17, g 18, g 19, g 20, g 21, g 22, g 23, g 24, g 25, g 26, g 27, g 28, g 29, g 30, g 31, g 32, g 33, g 34, g 35, g 36, g 37, g 38, g 39, g 40, g 41, g 42, g 43, g 44, g 45, g 46, g 47, g 48, g 49]) ?_ ?_))))
  ·skip
   refine Ac (Aa Z Z (By Z Z Z (Ah Z Z Z Z Z (EZ (c50 ..) Z (AH Z (fun h7 => ?_) (fun h7 => ?_))))))
   ·try simp only [bs] at h7
    refine AC (Aa Z Z (BM Z Z Z Z Z (str_hi Z Z (by omega) (by omega)) (Ab Z Z (EZ (c50 ..) Z (⟨_, O, Own.cast (Own.mono (hS1) (Ax (Bg (a := []) hU1 (Au (ν := ν) (a := [1, 0, 1, 1]) (b := [1, 1, 1, 1]) (by decide))))) (by rw [hI, List.drop_eq_nil_of_le (by omega)]; simp [keepL]), ?_, AU Z⟩)))))
    (unfold cutA; congr 1; omega)
   try simp only [bs] at h7
   refine At (⟨_, O, Own.cast (Own.mono (hS1) (Ax (Bg (a := []) hU1 (Au (ν := ν) (a := [1, 0, 1, 1]) (b := [1, 1, 1, 1]) (by decide))))) (by rw [hI, List.drop_eq_nil_of_le (by omega)]; simp [keepL]), ?_, AU Z⟩)
   exact (cutA_id (by omega)).symm
  rintro ee H3 ⟨a2, O, hS3, rfl, g2, rfl⟩
  refine Ac (Aa Z Z (Aa Z Z (Aa Z Z (Ay (e' := [_,_,_,_,_,_,_,_,_,_,_,_,_,_,_,_,_,_,_,_,_,_,_,_,_,_,_,_,_,_,_,_,_,_,_,_,_,_,_,_,_,_,_,_,_,_,_,_,_,_]) Z (Aa Z Z (BF Z Z (v := .agg [_, _, _]) Z (Bq Z Z (v := .lst [_]) Z (Ay (e' := [_,_,_,_,_,_,_,_,_,_,_,_,_,_,_,_,_,_,_,_,_,_,_,_,_,_,_,_,_,_,_,_,_,_,_,_,_,_,_,_,_,_,_,_,_,_,_,_,_,_]) Z (Bz hS3 (k := 0) Z (AE (p := 1 :: 1 :: 1 :: 1 :: ν) (b := [6, 0])) (Af [6, 0, 1, 1, 1, 1] hβ) Z Z Z Z Z Z Z Z Z (Br Z) (by (simp only [ss]; omega)) (by decide) fun O2 H4 (hS4 : Own _ _ _ (_ :: L)) => Ab Z Z (EZ (c50 ..) Z (Aq (AD (AV (I := fun ν' mm ee H' => ∃ (O : AVal) (j : Nat), mm = (keepL id t).length + 1 - j ∧ under (0 :: 1 :: 1 :: 1 :: 1 :: 1 :: ν) ν' = true ∧ Own β ν' H' (sv O 3 (((keepL id t ++ [(⟨id, nr, cutA a⟩ : Se)]).drop j).map Se.enc) :: L) ∧ (j ≤ (keepL id t).length + 1 ∧ (0 < j → 16 ≤ (keepL id t).length + 1 - j)) ∧ ∃ g : Nat → AVal, ee = [.lst (t.map Se.enc), .int .u64 id, .int .u64 nr, g 3, g 4, g 5, g 6, g 7, g 8, O, g 10, g 11, g 12, g 13, g 14, g 15, g 16, g 17, g 18, g 19, g 20, g 21, g 22, g 23, g 24, g 25, g 26, g 27, g 28, g 29, g 30, g 31, g 32, g 33, g 34, g 35, g 36, g 37, g 38, g 39, g 40, g 41, g 42, g 43, g 44, g 45, g 46, g 47, g 48, g 49]) ?_ _ _ _ _ ⟨_, 0, Z, AI, Own.cast (Own.mono (hS4.toV (k := 0) Z (by simp)) (Ar (ν := ν) (a := [7, 0, 1, 1, 1, 1]) (b := [0, 1, 1, 1, 1, 1]) (by decide))) (by simp [Se.enc]), (⟨by omega, by omega⟩), AU Z⟩)))))))))))))
  rintro ν2 mm ee H5 ⟨O, j, rfl, hU2, hS5, ⟨hj, hj2⟩, g3, rfl⟩
  refine Aq (Ac (Aa Z Z (OW_lenV hS5 (k := 0) Z Z Z Z Z Z (List.length_map _) (Ah Z Z Z Z Z (EZ (c50 ..) Z (AH Z (fun h10 => ?_) (fun h10 => ?_)))))))
  ·try simp only [bs] at h10
   refine At (Ag (AD (AC (Aa Z Z (OW_slV_lo hS5 (k := 0) Z (AE (p := ν2) (b := [1, 1, 0])) Z Z Z Z Z Z Z Z trivial (by (simp only [ss]; omega)) trivial fun O3 (hS6 : Own _ _ _ (_ :: L)) => Ab Z Z (EZ (c50 ..) Z (AJ (⟨_, ?_, O3, j + 1, Z, AM hU2, Own.cast (Own.mono (hS6) (Ar (ν := ν2) (a := [2, 1, 0]) (b := [1]) (by decide))) (by simp), ?_, AU Z⟩))))))))
   · omega
   exact ⟨by omega, by omega⟩
  try simp only [bs] at h10
  refine AY (AQ (AN (Ag (Ac (Aa Z Z (Ab Z Z (EZ (c50 ..) Z (Ap (Ak (res1 Z (Ai Z)) ?_)))))))))
  rw [noteL, lastL, show (keepL id t ++ [(⟨id, nr, cutA a⟩ : Se)]).length - 16 = j by simp; omega] at hq
  obtain ⟨hz1, hz2⟩ := Own.castV (Own.mono hS5 (Ax (Bg (a := []) hU2 (Az (a := [0, 1, 1, 1, 1, 1]) hp)))) (k := 0) Z (Bx fun _ => rfl)
  rw [hz1]; exact hq _ hz2
theorem c_Is {v w : AVal} {s t : List Se} (hv : Ls v (s.map Se.enc)) (hw : Ls w (t.map Se.enc)) (hn : s.length ≤ 4294967296) (hm : t.length ≤ 4294967296) (hq : Q (.bool (decide (s = t))) H) : CW cfg ν 48 [v, w] H Q := by
  refine Be g48 F48 Z (Ac (Ab Z Z (EZ (c26 ..) Z (Aq (Ac (Aa Z Z (Bj Z Z (by assumption) Z Z Z (List.length_map _) ?_)))))))
  refine Aa Z Z (Ay (e' := [_,_,_,_,_,_,_,_,_,_,_,_,_,_,_,_,_,_,_,_,_,_,_,_,_,_]) Z (Bj Z Z (by assumption) Z Z Z (List.length_map _) ?_))
  refine Ah Z Z Z Z Z (EZ (c26 ..) Z (AH Z (fun h1 => ?_) (fun h1 => ?_)))
  ·try simp only [bs] at h1
   refine Ac (Ab Z Z (EZ (c26 ..) Z (Ap (Ao (Ak (res1 Z (Ai Z)) (frz1 (Q := Q) (Ae Z) (qcast hq ?_)))))))
   congr 1
   exact (decide_eq_false (fun e => h1 (by rw [e]))).symm
  try simp only [bs] at h1
  refine At (Ag (Aq (Ac (Ab Z Z (EZ (c26 ..) Z (AD (AV (I := fun ν' mm ee H' => ∃ (i : Nat), mm = s.length - i ∧ under (1 :: 0 :: 1 :: 1 :: ν) ν' = true ∧ (i ≤ s.length ∧ s.length = t.length ∧ s.take i = t.take i) ∧ ∃ g : Nat → AVal, ee = [v, w, g 2, g 3, g 4, .int .i64 i, g 6, g 7, g 8, g 9, g 10, g 11, g 12, g 13, g 14, g 15, g 16, g 17, g 18, g 19, g 20, g 21, g 22, g 23, g 24, g 25]) ?_ _ _ _ _ ⟨0, Z, AI, (⟨by omega, by omega, Z⟩), AU Z⟩)))))))
  rintro ν1 mm ee H1 ⟨i, rfl, hU1, ⟨hi, hl, hI⟩, g1, rfl⟩
  refine Aq (Ac (Aa Z Z (Aa Z Z (Bj Z Z (by assumption) Z Z Z (List.length_map _) ?_))))
  refine Ay (e' := [_,_,_,_,_,_,_,_,_,_,_,_,_,_,_,_,_,_,_,_,_,_,_,_,_,_]) Z (Ah Z Z Z Z Z (EZ (c26 ..) Z (AH Z (fun h4 => ?_) (fun h4 => ?_))))
  ·try simp only [bs] at h4
   refine At (Ag (Aq (AD (Ac (Aa Z Z (Aa Z Z (Bb Z Z Z (by assumption) Z Z Z Z (Ba (by omega)) Z ?_)))))))
   refine Ay (e' := [_,_,_,_,_,_,_,_,_,_,_,_,_,_,_,_,_,_,_,_,_,_,_,_,_,_]) Z (AS Z Z Z (Aj Z Z Z) (Aa Z Z (Aa Z Z (Ay (e' := [_,_,_,_,_,_,_,_,_,_,_,_,_,_,_,_,_,_,_,_,_,_,_,_,_,_]) Z (Bb Z Z Z (by assumption) Z Z Z Z (Ba (by omega)) Z ?_)))))
   refine AS Z Z Z (Aj Z Z Z) (Ah Z Z Z Z (neSe _ _) (EZ (c26 ..) Z (AH Z (fun h6 => ?_) (fun h6 => ?_))))
   ·try simp only [bs] at h6
    refine Ac (Ab Z Z (EZ (c26 ..) Z (Ap (AA (Ao (AA (Ao (Ak (res1 Z (Ai Z)) (frz1 (Q := Q) (Ae Z) (qcast hq ?_))))))))))
    congr 1
    exact (decide_eq_false (fun e => by subst e; exact h6 rfl)).symm
   try simp only [bs] at h6
   refine At (AJ (Ag (AC (Aa Z Z (Ah Z Z Z Z (AW (by omega)) (Ab Z Z (EZ (c26 ..) Z (⟨_, ?_, i + 1, Z, AM hU1, ?_, AU Z⟩))))))))
   · omega
   exact ⟨by omega, hl, by rw [List.take_succ_eq_append_getElem (by omega), List.take_succ_eq_append_getElem (by omega), hI, h6]⟩
  try simp only [bs] at h4
  refine AY (AQ (AN (Ag (Ac (Ab Z Z (EZ (c26 ..) Z (Ap (Ak (res1 Z (Ai Z)) (frz1 (Q := Q) (Ae Z) (qcast hq ?_))))))))))
  congr 1
  exact (decide_eq_true (by rw [List.take_of_length_le (by omega), List.take_of_length_le (by omega)] at hI; exact hI)).symm
end Go.Proofs.YtfkgdlfponfimaaGreat.X.SE
/- Layer 12: tables of quotas, and functions over them. -/
set_option maxRecDepth 100000
namespace Go.Proofs.YtfkgdlfponfimaaGreat.X
open Go Go.RowKit
structure Qu where
  tn : Int
  us : Int
  li : Int
  deriving DecidableEq
def Qu.enc (l : Qu) : AVal := .agg [.int .u64 l.tn, .int .u64 l.us, .int .u64 l.li]
theorem Qu.ne (a b : Qu) : aBin cfg.T .neq 138 a.enc b.enc = some (.bool (decide (a ≠ b))) := by
  have e : (decide (a ≠ b)) = !(decide (a.tn = b.tn) && (decide (a.us = b.us) && (decide (a.li = b.li) && true))) := by
    obtain ⟨a1, a2, a3⟩ := a; obtain ⟨b1, b2, b3⟩ := b
    simp only [ne_eq, Qu.mk.injEq]
    by_cases h1 : a1 = b1 <;> by_cases h2 : a2 = b2 <;> by_cases h3 : a3 = b3 <;> simp [h1, h2, h3]
  rw [e]; rfl
def Qu.FnP (f : FuncId) (caps : List AVal) (bs : List Nm) (H0 : Heap) (p : Qu → Bool) : Prop :=
  ∀ ν x H Q, (∀ b ∈ bs, H b = H0 b ∧ under ν b = false) → Q (.bool (p x)) H → CW cfg ν f (x.enc :: caps) H Q
theorem Qu.idx {ν : Nm} {H : Heap} {Q : AVal → Heap → Prop} {ls : List Qu} {S : AVal} {f : FuncId} {caps : List AVal} {bs : List Nm} {p : Qu → Bool} (hf : Qu.FnP f caps bs H p) (hbs : ∀ b ∈ bs, under ν b = false) (h : Rd H 3 (ls.map Qu.enc) S) (hn : ls.length ≤ 4611686018427387904) (hq : Q (.int .i64 (firstI p ls 0)) H) : CW cfg ν 123 [S, .fn f caps] H Q := by
  have h2 : lenOf H S = some ls.length := by rw [h.len, List.length_map]
  have h3 : lenKind cfg.T [24] S = true := h.kind T24 rfl
  refine CW_fullS g123 F123 Z (Ac (Ab Z Z (Am (e' := [_, _, _, _, _, _, _, _, _, _, _, _, _, _, _, _, _, _, _]) Z (Aq (Ac (Aa Z Z (BL Z Z (aLen h3 h2) (Ay (e' := [_, _, _, _, _, _, _, _, _, _, _, _, _, _, _, _, _, _, _]) Z (Aa Z Z (Am (e' := [_, _, _, _, _, _, _, _, _, _, _, _, _, _, _, _, _, _, _]) Z (AD (AV (I := fun ν' n e H' => H' = H ∧ (∀ p, under ν p = false → under ν' p = false) ∧ ∃ (i : Nat), n = ls.length - i ∧ i ≤ ls.length ∧ firstI p ls 0 = firstI p (ls.drop i) i ∧ ∃ g : Nat → AVal, e = [S, .fn f caps, g 2, g 3, .int .i64 0, g 5, g 6, .int .i64 ls.length, .int .i64 i, g 9, g 10, g 11, g 12, g 13, g 14, g 15, g 16, g 17, g 18]) ?_ _ _ _ _ ⟨Z, fun p hp => by repeat (first | exact hp | apply under_dn), 0, Z, by omega, Z, AU Z⟩))))))))))))
  rintro ν' n e H' ⟨rfl, hsub, i, rfl, hi, hfs, g, rfl⟩
  refine Ac (Ah Z Z Z Z Z (Am (e' := [_, _, _, _, _, _, _, _, _, _, _, _, _, _, _, _, _, _, _]) Z (Aq (AH Z (fun ht => ?_) (fun ht => ?_)))))
  · have hlt : i < ls.length := by simpa using ht
    have hxi : (ls.map Qu.enc)[i]? = some (ls[i].enc) := by simp [hlt]
    obtain ⟨P, k1, k2⟩ := h.at (kk := .i64) T24 rfl T138 rfl hxi rfl rfl
    refine At (Ag (Aq (AD (Ac (Aa Z Z (Ab Z Z (Am (e' := [_, _, _, _, _, _, _, _, _, _, _, _, _, _, _, _, _, _, _]) Z (Ac (Aa Z Z (Aa Z Z (Aa Z Z (OW_ia Z Z Z k1 (BD Z Z k2 (OW_fv Z Z Z (hf _ ls[i] _ _ (fun b hb => ⟨Z, by have := hsub b (hbs b hb); repeat (first | exact this | apply under_dn)⟩) (Am (e' := [_, _, _, _, _, _, _, _, _, _, _, _, _, _, _, _, _, _, _]) Z (AH Z (fun hp => ?_) (fun hp => ?_))))))))))))))))))
    · refine Ac ?_
      refine Aa Z Z (Ab Z Z (Am (e' := [_, _, _, _, _, _, _, _, _, _, _, _, _, _, _, _, _, _, _]) Z (Ap (AA (Ao (AA (Ao (Ak Z ⟨fun _ _ => Z, ?_⟩))))))))
      rw [List.drop_eq_getElem_cons hlt, firstI, if_pos hp] at hfs
      rw [hfs] at hq; exact hq
    refine At (AJ (Ag (AC (Ah Z Z Z Z (add64 (by omega)) (Aa Z Z (Am (e' := [_, _, _, _, _, _, _, _, _, _, _, _, _, _, _, _, _, _, _]) Z (⟨ls.length - (i + 1), by omega, Z, fun p hp => under_dn (hsub p hp), i + 1, Z, by omega, ?_, AU Z⟩)))))))
    rw [List.drop_eq_getElem_cons hlt, firstI, if_neg (by simp [hp])] at hfs
    exact hfs
  have hge : ls.length ≤ i := by simpa using ht
  refine AY (AQ (AN (Ag (Ac (Ab Z Z (Am (e' := [_, _, _, _, _, _, _, _, _, _, _, _, _, _, _, _, _, _, _]) Z (Ap (Ak Z ⟨fun _ _ => Z, ?_⟩))))))))
  rw [List.drop_eq_nil_of_le hge, firstI] at hfs
  rw [hfs] at hq; exact hq
theorem Qu.clone {ν β ps pos' : Nm} {H : Heap} {Q : AVal → Heap → Prop} {L : List Asr} {ls : List Qu} {S : AVal} (hv : Ls S (ls.map Qu.enc)) (hS : Own β ps H L) (hle : le ps ν) (hβ : under β ν = true) (hp : before ν pos') (hn : ls.length ≤ 4294967296)
    (hq : ∀ v H', Own β pos' H' (sl v 3 (ls.map Qu.enc) :: L) → Q v H') : CW cfg ν 93 [S] H Q := by
  have body : ∀ S, (S = .nls ∨ S = .nne) → XW cfg ν fi93.body (start fi93 [S]) (fun _ => none) (retW cfg.T fi93 fun v _ => isEmp v = true) := by
    rintro S (rfl | rfl)
    · refine Ac ?_
      refine Ab Z Z (Am (e' := [_, _, _, _, _, _, _, _]) Z (Aq (Ac (Aa Z Z (Ah Z Z Z Z Z (Am (e' := [_, _, _, _, _, _, _, _]) Z (AZ Z Z (Ac (Ab Z Z (Am (e' := [_, _, _, _, _, _, _, _]) Z (Ap (Ao ?_))))))))))))
      exact Ak rfl rfl
    refine Ac (Ab Z Z (Am (e' := [_, _, _, _, _, _, _, _]) Z (Aq (Ac (Aa Z Z (Ah Z Z Z Z Z (Am (e' := [_, _, _, _, _, _, _, _]) Z (Bd Z Z (At (Ag (Ac (Bq Z Z Z (Aa Z Z (BL Z Z Z (Ay (e' := [_, _, _, _, _, _, _, _]) Z (Ab Z Z (Am (e' := [_, _, _, _, _, _, _, _]) Z (Ap ?_))))))))))))))))))
    exact Ak rfl rfl
  by_cases h0 : noneIn [S] = true
  · refine CW_clone0 g93 F93 rfl h0 (body _ (.inl rfl)) (body _ (.inr rfl)) (hq _ _ ?_)
    obtain rfl : ls = [] := by
      rcases hv with rfl | ⟨h, _⟩
      · cases ls with
        | nil => rfl
        | cons x r => simp [noneIn] at h0
      simpa using h
    exact (hS.mono (hle.trans (Ax hp))).addE
  have h0 : noneIn [S] = false := by simpa using h0
  rcases hv with rfl | ⟨h, rfl | rfl⟩
  · obtain ⟨x, r, rfl⟩ : ∃ x r, ls = x :: r := by
      cases ls with
      | nil => simp [noneIn] at h0
      | cons x r => exact ⟨x, r, rfl⟩
    refine BI g93 F93 Z h0 (Ac (Ab Z Z (Am (e' := [_, _, _, _, _, _, _, _]) Z (Aq (Ac (Aa Z Z (Ah Z Z Z Z Z (Am (e' := [_, _, _, _, _, _, _, _]) Z (Bd Z Z (At (Ag (Ac (Bq Z Z Z (Aa Z Z (BG (hS.mono hle) (AE (b := [2, 0, 1, 1])) (Af [2, 0, 1, 1] hβ) Z Z Z Z Z Z Z Z (Ls.elems Ls.of) (BA (fun _ => Z)) (by simpa using hn) (by decide) fun O2 H2 hS2 => Ay (e' := [_, _, _, _, _, _, _, _]) Z (Ab Z Z (Am (e' := [_, _, _, _, _, _, _, _]) Z (Ap ?_))))))))))))))))))
    exact Ak rfl (hq _ _ (hS2.mono (Ax (Az (a := [3, 0, 1, 1]) hp))))
  · simp [noneIn] at h0
  obtain rfl : ls = [] := by simpa using h
  refine BI g93 F93 Z Z (Ac (Ab Z Z (Am (e' := [_, _, _, _, _, _, _, _]) Z (Aq (Ac (Aa Z Z (Ah Z Z Z Z Z (Am (e' := [_, _, _, _, _, _, _, _]) Z (AZ Z Z (Ac (Ab Z Z (Am (e' := [_, _, _, _, _, _, _, _]) Z (Ap (Ao ?_))))))))))))))
  exact Ak rfl (hq _ _ (hS.mono (hle.trans (Ax hp))).addN)
theorem Qu.cloneO {ν β ps pos' : Nm} {H : Heap} {Q : AVal → Heap → Prop} {L : List Asr} {ls : List Qu} {S : AVal} {k : Nat} (hS : Own β ps H L) (hL : L[k]? = some (sl S 3 (ls.map Qu.enc))) (hle : le ps ν) (hβ : under β ν = true) (hp : before ν pos') (hn : ls.length ≤ 4294967296)
    (hq : ∀ v H', Own β pos' H' (sl v 3 (ls.map Qu.enc) :: L) → Q v H') : CW cfg ν 93 [S] H Q := by
  obtain ⟨f, hf, _⟩ := hS.get hL
  have hf : Sl H 3 (ls.map Qu.enc) S f := hf
  cases hf with
  | emp h => exact Qu.clone (.inr ⟨h, .inl rfl⟩) hS hle hβ hp hn hq
  | nls h => exact Qu.clone (.inr ⟨h, .inr rfl⟩) hS hle hβ hp hn hq
  | row h1 h2 h3 =>
    refine BI g93 F93 Z Z (Ac (Ab Z Z (Am (e' := [_, _, _, _, _, _, _, _]) Z (Aq (Ac (Aa Z Z (Ah Z Z Z Z Z (Am (e' := [_, _, _, _, _, _, _, _]) Z (Bd Z Z (At (Ag (Ac (Bq Z Z Z (Aa Z Z (BG (hS.mono hle) (AE (b := [2, 0, 1, 1])) (Af [2, 0, 1, 1] hβ) Z Z Z Z Z Z Z Z (hS.elems hL) (BA (fun _ => Z)) (by simpa using hn) (by decide) fun O2 H2 hS2 => Ay (e' := [_, _, _, _, _, _, _, _]) Z (Ab Z Z (Am (e' := [_, _, _, _, _, _, _, _]) Z (Ap ?_))))))))))))))))))
    exact Ak rfl (hq _ _ (hS2.mono (Ax (Az (a := [3, 0, 1, 1]) hp))))
theorem Qu.is {ν : Nm} {H : Heap} {Q : AVal → Heap → Prop} {v w : AVal} {s t : List Qu} (hv : Ls v (s.map Qu.enc)) (hw : Ls w (t.map Qu.enc)) (hn : s.length ≤ 4294967296) (hm : t.length ≤ 4294967296) (hq : Q (.bool (decide (s = t))) H) : CW cfg ν 49 [v, w] H Q := by
  refine Be g49 F49 Z (Ac (Ab Z Z (EZ (c26 ..) Z (Aq (Ac (Aa Z Z (Bj Z Z (by assumption) Z Z Z (List.length_map _) ?_)))))))
  refine Aa Z Z (Ay (e' := [_,_,_,_,_,_,_,_,_,_,_,_,_,_,_,_,_,_,_,_,_,_,_,_,_,_]) Z (Bj Z Z (by assumption) Z Z Z (List.length_map _) ?_))
  refine Ah Z Z Z Z Z (EZ (c26 ..) Z (AH Z (fun h1 => ?_) (fun h1 => ?_)))
  ·try simp only [bs] at h1
   refine Ac (Ab Z Z (EZ (c26 ..) Z (Ap (Ao (Ak (res1 Z (Ai Z)) (frz1 (Q := Q) (Ae Z) (qcast hq ?_)))))))
   congr 1
   exact (decide_eq_false (fun e => h1 (by rw [e]))).symm
  try simp only [bs] at h1
  refine At (Ag (Aq (Ac (Ab Z Z (EZ (c26 ..) Z (AD (AV (I := fun ν' mm ee H' => ∃ (i : Nat), mm = s.length - i ∧ under (1 :: 0 :: 1 :: 1 :: ν) ν' = true ∧ (i ≤ s.length ∧ s.length = t.length ∧ s.take i = t.take i) ∧ ∃ g : Nat → AVal, ee = [v, w, g 2, g 3, g 4, .int .i64 i, g 6, g 7, g 8, g 9, g 10, g 11, g 12, g 13, g 14, g 15, g 16, g 17, g 18, g 19, g 20, g 21, g 22, g 23, g 24, g 25]) ?_ _ _ _ _ ⟨0, Z, AI, (⟨by omega, by omega, Z⟩), AU Z⟩)))))))
  rintro ν1 mm ee H1 ⟨i, rfl, hU1, ⟨hi, hl, hI⟩, g1, rfl⟩
  refine Aq (Ac (Aa Z Z (Aa Z Z (Bj Z Z (by assumption) Z Z Z (List.length_map _) ?_))))
  refine Ay (e' := [_,_,_,_,_,_,_,_,_,_,_,_,_,_,_,_,_,_,_,_,_,_,_,_,_,_]) Z (Ah Z Z Z Z Z (EZ (c26 ..) Z (AH Z (fun h4 => ?_) (fun h4 => ?_))))
  ·try simp only [bs] at h4
   refine At (Ag (Aq (AD (Ac (Aa Z Z (Aa Z Z (Bb Z Z Z (by assumption) Z Z Z Z (Ba (by omega)) Z ?_)))))))
   refine Ay (e' := [_,_,_,_,_,_,_,_,_,_,_,_,_,_,_,_,_,_,_,_,_,_,_,_,_,_]) Z (AS Z Z Z (Aj Z Z Z) (Aa Z Z (Aa Z Z (Ay (e' := [_,_,_,_,_,_,_,_,_,_,_,_,_,_,_,_,_,_,_,_,_,_,_,_,_,_]) Z (Bb Z Z Z (by assumption) Z Z Z Z (Ba (by omega)) Z ?_)))))
   refine AS Z Z Z (Aj Z Z Z) (Ah Z Z Z Z (Qu.ne _ _) (EZ (c26 ..) Z (AH Z (fun h6 => ?_) (fun h6 => ?_))))
   ·try simp only [bs] at h6
    refine Ac (Ab Z Z (EZ (c26 ..) Z (Ap (AA (Ao (AA (Ao (Ak (res1 Z (Ai Z)) (frz1 (Q := Q) (Ae Z) (qcast hq ?_))))))))))
    congr 1
    exact (decide_eq_false (fun e => by subst e; exact h6 rfl)).symm
   try simp only [bs] at h6
   refine At (AJ (Ag (AC (Aa Z Z (Ah Z Z Z Z (AW (by omega)) (Ab Z Z (EZ (c26 ..) Z (⟨_, ?_, i + 1, Z, AM hU1, ?_, AU Z⟩))))))))
   · omega
   exact ⟨by omega, hl, by rw [List.take_succ_eq_append_getElem (by omega), List.take_succ_eq_append_getElem (by omega), hI, h6]⟩
  try simp only [bs] at h4
  refine AY (AQ (AN (Ag (Ac (Ab Z Z (EZ (c26 ..) Z (Ap (Ak (res1 Z (Ai Z)) (frz1 (Q := Q) (Ae Z) (qcast hq ?_))))))))))
  congr 1
  exact (decide_eq_true (by rw [List.take_of_length_le (by omega), List.take_of_length_le (by omega)] at hI; exact hI)).symm
def isT (tn : Int) : Qu → Bool := fun x => decide (x.tn = tn)
def atQ (tn : Int) (t : List Qu) : Int := firstI (isT tn) t 0
def getQ (tn : Int) (t : List Qu) : Option Qu := t.find? (isT tn)
def modQ (tn : Int) (f : Qu → Qu) : List Qu → List Qu
  | [] => []
  | x :: r => if x.tn = tn then f x :: r else x :: modQ tn f r
theorem atQ_cases (tn : Int) (t : List Qu) : (atQ tn t = -1 ∧ getQ tn t = none) ∨ ∃ (i : Nat) (h : i < t.length), atQ tn t = i ∧ getQ tn t = some t[i] ∧ t[i].tn = tn ∧ ∀ f, modQ tn f t = t.set i (f t[i]) := by
  rcases firstI_cases (isT tn) t with ⟨h1, h2⟩ | ⟨i, h0, h1, h2, h3⟩
  · exact .inl ⟨h1, by rw [getQ, List.find?_eq_none]; intro x hx; simp [h2 x hx]⟩
  refine .inr ⟨i, h0, h1, ?_, by simpa [isT] using h2, ?_⟩
  · clear h1
    induction t generalizing i with
    | nil => simp at h0
    | cons x r ih =>
      cases i with
      | zero => simp only [List.getElem_cons_zero] at h2 ⊢; simp [getQ, List.find?_cons, h2]
      | succ i =>
        have hx : isT tn x = false := h3 x (by simp [List.take_succ_cons])
        have := ih i (by simpa using h0) (by simpa using h2) (fun y hy => h3 y (by simp [List.take_succ_cons, hy]))
        simp only [getQ, List.find?_cons, hx] at this ⊢
        simpa using this
  intro f
  clear h1
  induction t generalizing i with
  | nil => simp at h0
  | cons x r ih =>
    cases i with
    | zero => have : x.tn = tn := by simpa [isT] using h2
              simp [modQ, this]
    | succ i =>
      have hx : ¬ x.tn = tn := by have := h3 x (by simp [List.take_succ_cons]); simpa [isT] using this
      simp only [modQ, if_neg hx, List.set_cons_succ, List.getElem_cons_succ]
      rw [ih i (by simpa using h0) (by simpa using h2) (fun y hy => h3 y (by simp [List.take_succ_cons, hy]))]
def setQ (t : List Qu) (tn li : Int) : List Qu × Bool := match getQ tn t with
  | some _ => (modQ tn (fun r => { r with li := li }) t, true)
  | none => if t.length < 16 then (t ++ [⟨tn, 0, li⟩], true) else ([], false)
def takeQ (t : List Qu) (tn n : Int) : List Qu × Int := match getQ tn t with
  | some r => if r.us ≤ r.li ∧ n ≤ r.li - r.us then (modQ tn (fun r => { r with us := r.us + n }) t, 0) else ([], 121)
  | none => ([], 120)
def giveQ (t : List Qu) (tn n : Int) : List Qu × Int := match getQ tn t with
  | some _ => (modQ tn (fun r => { r with us := r.us - min n r.us }) t, 0)
  | none => ([], 120)
def Qu.fit (x : Qu) : Prop := (0 ≤ x.tn ∧ x.tn ≤ 18446744073709551615) ∧ (0 ≤ x.us ∧ x.us ≤ 18446744073709551615) ∧ 0 ≤ x.li ∧ x.li ≤ 18446744073709551615
def Fit (t : List Qu) : Prop := ∀ x ∈ t, x.fit
theorem set_enc {t : List Qu} {i : Nat} {a : AVal} {x : Qu} (h : x.enc = a) : (t.map Qu.enc).set i a = (t.set i x).map Qu.enc := by rw [← h, List.map_set]
end Go.Proofs.YtfkgdlfponfimaaGreat.X
/- Layer 12: what the functions of quotas do. -/
set_option maxRecDepth 100000
namespace Go.Proofs.YtfkgdlfponfimaaGreat.X
open Go Go.RowKit
variable {ν : Nm} {H : Heap} {Q : AVal → Heap → Prop}
theorem find_fn {b : Nm} {H2 : Heap} {tn : Int} (hb : H2 b = some (.row 1 [.int .u64 tn])) : Qu.FnP 124 [.ptr b 0 0] [b] H2 (isT tn) := by
  intro ν x H Q hbs hq
  obtain ⟨h1, h2⟩ := hbs b (by simp)
  rw [hb] at h1
  refine CW_fullS g124 F124 Z (Ac (OW_box Z Z Z (Ab Z Z (Am (e' := [_, _, _, _, _, _, _, _]) Z (Ac (Al Z Z Z (BD Z Z (aLoad_ptr Z put_same Z Z) (BD Z Z (aLoad_ptr Z (by rw [put_ne (far h2 (by repeat (first | exact AI | apply AM)))]; exact h1) Z Z) (Ay (e' := [_, _, _, _, _, _, _, _]) Z (Ah Z Z Z Z Z (Ab Z Z (Am (e' := [_, _, _, _, _, _, _, _]) Z (Ap ?_)))))))))))))
  exact Ak rfl ⟨fun p hp => put_ne (far hp (by repeat (first | exact AI | apply AM))), hq⟩
theorem c_findB {v : AVal} {t : List Qu} (hv : freeze [] H 8 v = .lst (t.map Qu.enc)) (hn : t.length ≤ 4294967296) (tn : Int) (hq : Q (.int .i64 (atQ tn t)) H) : CW cfg ν 110 [v, .int .u64 tn] H Q := by
  refine BJ (args' := [.lst (t.map Qu.enc), .int .u64 tn]) g110 F110 Z (AF (by assumption) (AF (Ae Z) Bw)) ?_
  have hS0 : Own ν ν (fun _ => none) [] := Own.nil
  refine Ac (AR hS0 (AE (p := ν) (b := [0, 0])) (Af [0, 0] AI) Z Z Z ⟨Z, Z⟩ fun H1 (hS1 : Own _ _ _ ([_])) => Ab Z Z (Am (e' := [_,_,_,_,_,_,_,_]) Z (Ac (Aa Z Z (OW_mf Z Z (AB Z Z (Qu.idx (find_fn (by obtain ⟨f, ⟨_, h⟩, _⟩ := hS1.get (k := 0) Z; exact h)) (fun b hb => (by rw [List.mem_singleton] at hb; rw [hb]; obtain ⟨f, ⟨h0, _⟩, h⟩ := hS1.get (k := 0) Z; exact ((Ar (ν := ν) (a := [1, 0]) (b := [2, 0, 1]) (by decide)) _ (h _ (by rw [h0]; simp)).1).under)) (.ls Ls.of) (by omega) ?_) ))))))
  refine Ay (e' := [_,_,_,_,_,_,_,_]) Z (Ab Z Z (Am (e' := [_,_,_,_,_,_,_,_]) Z (Ap (Ak (res1 Z (Ai Z)) ⟨Z, ?_⟩))))
  exact hq
theorem c_Find {v : AVal} {t : List Qu} (hv : freeze [] H 8 v = .lst (t.map Qu.enc)) (hn : t.length ≤ 4294967296) (tn : Int) (hq : Q (.int .i64 (atQ tn t)) H) : CW cfg ν 87 [v, .int .u64 tn] H Q := by
  refine BJ (args' := [.lst (t.map Qu.enc), .int .u64 tn]) g87 F87 Z (AF (by assumption) (AF (Ae Z) Bw)) ?_
  refine Ac (Ab Z Z (Am (e' := [_,_,_,_,_,_,_,_,_,_,_,_,_,_,_,_,_,_,_,_]) Z (Aq (Ac (Ab Z Z (Am (e' := [_,_,_,_,_,_,_,_,_,_,_,_,_,_,_,_,_,_,_,_]) Z (AD (AV (I := fun ν' mm ee H' => ∃ (i : Nat), mm = t.length - i ∧ under (1 :: 0 :: 1 :: ν) ν' = true ∧ (i ≤ t.length ∧ atQ tn t = firstI (isT tn) (t.drop i) i) ∧ ∃ g : Nat → AVal, ee = [.lst (t.map Qu.enc), .int .u64 tn, g 2, g 3, g 4, .int .i64 i, g 6, g 7, g 8, g 9, g 10, g 11, g 12, g 13, g 14, g 15, g 16, g 17, g 18, g 19]) ?_ _ _ _ _ ⟨0, Z, AI, (⟨by omega, Z⟩), AU Z⟩))))))))
  rintro ν1 mm ee H1 ⟨i, rfl, hU1, ⟨hi, hI⟩, g1, rfl⟩
  refine Aq (Ac (Aa Z Z (Aa Z Z (Bj Z Z Ls.of Z Z Z (List.length_map _) (Ay (e' := [_,_,_,_,_,_,_,_,_,_,_,_,_,_,_,_,_,_,_,_]) Z (Ah Z Z Z Z Z (Am (e' := [_,_,_,_,_,_,_,_,_,_,_,_,_,_,_,_,_,_,_,_]) Z (AH Z (fun h2 => ?_) (fun h2 => ?_)))))))))
  ·try simp only [bs] at h2
   refine At (Ag (Aq (AD (Ac (Aa Z Z (Aa Z Z (Bb Z Z Z Ls.of Z Z Z Z (Ba (by omega)) Z (Ay (e' := [_,_,_,_,_,_,_,_,_,_,_,_,_,_,_,_,_,_,_,_]) Z (Al Z Z Z (AS Z Z Z Z (Aa Z Z (Ay (e' := [_,_,_,_,_,_,_,_,_,_,_,_,_,_,_,_,_,_,_,_]) Z (Ah Z Z Z Z Z (Am (e' := [_,_,_,_,_,_,_,_,_,_,_,_,_,_,_,_,_,_,_,_]) Z (AH Z (fun h4 => ?_) (fun h4 => ?_))))))))))))))))
   ·try simp only [bs] at h4
    refine Ac (Aa Z Z (Ab Z Z (Am (e' := [_,_,_,_,_,_,_,_,_,_,_,_,_,_,_,_,_,_,_,_]) Z (Ap (AA (Ao (AA (Ao (Ak (res1 Z (Ai Z)) ⟨Z, ?_⟩)))))))))
    (rw [hI, List.drop_eq_getElem_cons (by omega), firstI, if_pos (by simpa [isT] using h4)] at hq; exact hq)
   try simp only [bs] at h4
   refine At (AJ (Ag (AC (Aa Z Z (Ah Z Z Z Z (AW (by omega)) (Ab Z Z (Am (e' := [_,_,_,_,_,_,_,_,_,_,_,_,_,_,_,_,_,_,_,_]) Z (⟨_, ?_, i + 1, Z, AM hU1, ?_, AU Z⟩))))))))
   · omega
   exact ⟨by omega, by rw [hI, List.drop_eq_getElem_cons (by omega), firstI, if_neg (by simpa [isT] using h4)]; rfl⟩
  try simp only [bs] at h2
  refine AY (AQ (AN (Ag (Ac (Ab Z Z (Am (e' := [_,_,_,_,_,_,_,_,_,_,_,_,_,_,_,_,_,_,_,_]) Z (Ap (Ak (res1 Z (Ai Z)) ⟨Z, ?_⟩))))))))
  (rw [hI, List.drop_eq_nil_of_le (by omega)] at hq; exact hq)
theorem wrapu_add {a b : Int} (ha : 0 ≤ a ∧ a ≤ 18446744073709551615) (hb : 0 ≤ b ∧ b ≤ 18446744073709551615) : (IntKind.u64.wrap (a + b) = a + b ∧ a + b ≤ 18446744073709551615) ∨ (IntKind.u64.wrap (a + b) = a + b - 18446744073709551616 ∧ 18446744073709551615 < a + b) := by
  rw [IntKind.wrap_u64]; omega
end Go.Proofs.YtfkgdlfponfimaaGreat.X
/- Layer 12: the laws QuotaChanges, QuotaBack, QuotaLimits. -/
set_option maxRecDepth 100000
namespace Go.Proofs.YtfkgdlfponfimaaGreat.X
open Go Go.RowKit
variable {ν : Nm} {H : Heap} {Q : AVal → Heap → Prop}
theorem modQ_len (tn : Int) (f : Qu → Qu) (t : List Qu) : (modQ tn f t).length = t.length := by
  induction t with
  | nil => rfl
  | cons x r ih => simp only [modQ]; split <;> simp [ih]
theorem getQ_mod {tn : Int} {f : Qu → Qu} (hf : ∀ x, (f x).tn = x.tn) (t : List Qu) : getQ tn (modQ tn f t) = (getQ tn t).map f := by
  induction t with
  | nil => rfl
  | cons x r ih =>
    by_cases h : x.tn = tn
    · have h2 : (f x).tn = tn := by rw [hf, h]
      simp [modQ, h, getQ, List.find?_cons, isT, h2]
    simp only [getQ] at ih
    simp [modQ, h, getQ, List.find?_cons, isT]
    exact ih
theorem modQ_mod {tn : Int} {f g : Qu → Qu} (hg : ∀ x, (g x).tn = x.tn) (t : List Qu) : modQ tn f (modQ tn g t) = modQ tn (fun x => f (g x)) t := by
  induction t with
  | nil => rfl
  | cons x r ih =>
    by_cases h : x.tn = tn
    · have h2 : (g x).tn = tn := by rw [hg, h]
      simp [modQ, h, h2]
    simp [modQ, h, ih]
theorem modQ_congr {tn : Int} {f g : Qu → Qu} (t : List Qu) (h : ∀ x, getQ tn t = some x → f x = g x) : modQ tn f t = modQ tn g t := by
  induction t with
  | nil => rfl
  | cons x r ih =>
    by_cases hx : x.tn = tn
    · simp only [modQ, if_pos hx]
      rw [h x (by simp [getQ, List.find?_cons, isT, hx])]
    simp only [modQ, if_neg hx]
    rw [ih (fun y hy => h y (by simp only [getQ, List.find?_cons, isT, hx, decide_false]; exact hy))]
theorem modQ_id {tn : Int} (t : List Qu) : modQ tn (fun x => x) t = t := by
  induction t with
  | nil => rfl
  | cons x r ih => simp only [modQ]; split <;> simp [ih]
theorem getQ_mem {tn : Int} {t : List Qu} {r : Qu} (h : getQ tn t = some r) : r ∈ t ∧ r.tn = tn := ⟨List.mem_of_find?_eq_some h, by have := List.find?_some h; simpa [isT] using this⟩
theorem modQ_mem {tn : Int} {f : Qu → Qu} {t : List Qu} {x : Qu} (h : x ∈ modQ tn f t) : x ∈ t ∨ ∃ r, getQ tn t = some r ∧ x = f r := by
  induction t with
  | nil => simp [modQ] at h
  | cons y r ih =>
    by_cases hy : y.tn = tn
    · simp only [modQ, if_pos hy, List.mem_cons] at h
      rcases h with rfl | h
      · exact .inr ⟨y, by simp [getQ, List.find?_cons, isT, hy], rfl⟩
      exact .inl (by simp [h])
    simp only [modQ, if_neg hy, List.mem_cons] at h
    rcases h with rfl | h
    · exact .inl (by simp)
    rcases ih h with h | ⟨r', h1, h2⟩
    · exact .inl (by simp [h])
    refine .inr ⟨r', ?_, h2⟩
    simp only [getQ, List.find?_cons, isT, hy, decide_false]; exact h1
theorem take_ok {t : List Qu} {tn n : Int} (h : (takeQ t tn n).2 = 0) : ∃ r, getQ tn t = some r ∧ r.us ≤ r.li ∧ n ≤ r.li - r.us ∧ (takeQ t tn n).1 = modQ tn (fun r => { r with us := r.us + n }) t := by
  unfold takeQ at h ⊢
  cases hg : getQ tn t with
  | none => rw [hg] at h; simp at h
  | some r =>
    rw [hg] at h
    simp only at h ⊢
    by_cases hc : r.us ≤ r.li ∧ n ≤ r.li - r.us
    · rw [if_pos hc]; exact ⟨r, rfl, hc.1, hc.2, rfl⟩
    rw [if_neg hc] at h; simp at h
theorem take_fit {t : List Qu} {tn n : Int} (hf : Fit t) (h0 : 0 ≤ n) : Fit (takeQ t tn n).1 := by
  unfold takeQ
  cases hg : getQ tn t with
  | none => intro x hx; simp at hx
  | some r =>
    simp only
    split
    · rename_i hc
      intro x hx
      rcases modQ_mem hx with h | ⟨r', h1, rfl⟩
      · exact hf x h
      rw [hg] at h1
      obtain rfl := Option.some.inj h1
      obtain ⟨f1, f2, f3⟩ := hf r (getQ_mem hg).1
      exact ⟨f1, ⟨by show 0 ≤ r.us + n; omega, by show r.us + n ≤ _; omega⟩, f3⟩
    intro x hx; simp at hx
theorem set_fit {t : List Qu} {tn li : Int} (hf : Fit t) (ht : 0 ≤ tn ∧ tn ≤ 18446744073709551615) (h0 : 0 ≤ li ∧ li ≤ 18446744073709551615) : Fit (setQ t tn li).1 := by
  unfold setQ
  split
  · intro x hx
    rcases modQ_mem hx with h | ⟨r', h1, rfl⟩
    · exact hf x h
    obtain ⟨f1, f2, f3⟩ := hf r' (getQ_mem h1).1
    exact ⟨f1, f2, h0⟩
  split
  · intro x hx
    rcases List.mem_append.1 hx with h | h
    · exact hf x h
    obtain rfl := List.mem_singleton.1 h
    exact ⟨ht, ⟨Int.le_refl 0, by show (0 : Int) ≤ 18446744073709551615; decide⟩, h0⟩
  intro x hx; simp at hx
theorem give_take {t : List Qu} {tn n : Int} (hf : Fit t) (h0 : 0 ≤ n) (h : (takeQ t tn n).2 = 0) : giveQ (takeQ t tn n).1 tn n = (t, 0) := by
  obtain ⟨r, h1, h2, h3, h4⟩ := take_ok h
  rw [h4, giveQ, getQ_mod (f := fun r => { r with us := r.us + n }) (fun _ => rfl), h1]
  simp only [Option.map_some, modQ_mod (g := fun r => { r with us := r.us + n }) (fun _ => rfl)]
  congr 1
  rw [modQ_congr (g := fun x => x) t ?_, modQ_id]
  intro x hx
  obtain ⟨f1, f2, f3⟩ := hf x (getQ_mem hx).1
  have : min n (x.us + n) = n := by omega
  show (⟨x.tn, x.us + n - min n (x.us + n), x.li⟩ : Qu) = x
  rw [this, Int.add_sub_cancel]
theorem take_take {t : List Qu} {tn n m : Int} (h : (takeQ t tn n).2 = 0) (hm : 0 ≤ m) : takeQ (takeQ t tn n).1 tn m = takeQ t tn (n + m) ∧ ∃ r, getQ tn t = some r ∧ (r.li < n + m + r.us → takeQ t tn (n + m) = ([], 121)) := by
  obtain ⟨r, h1, h2, h3, h4⟩ := take_ok h
  rw [h4]
  refine ⟨?_, r, h1, fun hl => by rw [takeQ, h1]; simp only; rw [if_neg (by omega)]⟩
  rw [takeQ, getQ_mod (f := fun r => { r with us := r.us + n }) (fun _ => rfl), h1, takeQ, h1]
  simp only [Option.map_some]
  by_cases hc : r.us + n ≤ r.li ∧ m ≤ r.li - (r.us + n)
  · rw [if_pos hc, if_pos (by omega), modQ_mod (g := fun r => { r with us := r.us + n }) (fun _ => rfl)]
    congr 1
    refine modQ_congr t fun x _ => ?_
    show (⟨x.tn, x.us + n + m, x.li⟩ : Qu) = ⟨x.tn, x.us + (n + m), x.li⟩
    rw [Int.add_assoc]
  rw [if_neg hc, if_neg (by omega)]
theorem back {t : List Qu} {tn n : Int} (hfit : Fit t) (hn0 : 0 ≤ n) (h : (takeQ t tn n).2 = 0) : ∃ (A : List Qu) (i0 : Nat) (hi0 : i0 < t.length), takeQ t tn n = (A, 0) ∧ giveQ A tn n = (t, 0) ∧ A.length = t.length ∧ Fit A ∧ atQ tn t = i0 ∧ A[i0]? = some ⟨t[i0].tn, t[i0].us + n, t[i0].li⟩ ∧ t[i0].us ≤ t[i0].li ∧ n ≤ t[i0].li - t[i0].us ∧ (∀ i, i ≠ i0 → A[i]? = t[i]?) ∧
    ∀ m, 0 ≤ m → takeQ A tn m = takeQ t tn (n + m) ∧ (18446744073709551615 < n + m → takeQ t tn (n + m) = ([], 121)) := by
  obtain ⟨r, hg, hr1, hr2, ha⟩ := take_ok h
  obtain ⟨i0, hi0, hat, hg2, htn, hset⟩ : ∃ (i : Nat) (h : i < t.length), atQ tn t = i ∧ getQ tn t = some t[i] ∧ t[i].tn = tn ∧ ∀ f, modQ tn f t = t.set i (f t[i]) := by
    rcases atQ_cases tn t with ⟨_, h⟩ | h
    · rw [hg] at h; cases h
    exact h
  obtain rfl : r = t[i0] := by rw [hg] at hg2; exact Option.some.inj hg2
  refine ⟨(takeQ t tn n).1, i0, hi0, by rw [← h], give_take hfit hn0 h, by rw [ha, modQ_len], take_fit hfit hn0, hat, ?_, hr1, hr2, ?_, ?_⟩
  · rw [ha, hset, List.getElem?_set_self hi0]
  · intro i hi; rw [ha, hset, List.getElem?_set_ne (fun e => hi e.symm)]
  intro m hm
  obtain ⟨h1, r', h2, h3⟩ := take_take h hm
  refine ⟨h1, fun hov => h3 ?_⟩
  obtain rfl : t[i0] = r' := by rw [hg] at h2; exact Option.some.inj h2
  obtain ⟨_, f2, f3⟩ := hfit _ (List.getElem_mem hi0)
  omega
end Go.Proofs.YtfkgdlfponfimaaGreat.X
/- Layer 12: Check; the laws QuotaLimits and QuotaStays. -/
set_option maxRecDepth 100000
namespace Go.Proofs.YtfkgdlfponfimaaGreat.X
open Go Go.RowKit
variable {ν : Nm} {H : Heap} {Q : AVal → Heap → Prop}
theorem getQ_some {tn : Int} {t : List Qu} (h : ∃ x ∈ t, x.tn = tn) : getQ tn t ≠ none := by
  intro hn
  rw [getQ, List.find?_eq_none] at hn
  obtain ⟨x, hx, he⟩ := h
  exact hn x hx (by simp [isT, he])
def chkQ (t : List Qu) : Bool := decide (t.length ≤ 16 ∧ (t.map Qu.tn).Nodup)
theorem nodup_at {t : List Qu} (h : (t.map Qu.tn).Nodup) {i : Nat} (hi : i < t.length) : atQ t[i].tn t = i := by
  rcases atQ_cases t[i].tn t with ⟨_, h2⟩ | ⟨k, hk, h1, _, h3, _⟩
  · exact absurd h2 (getQ_some ⟨t[i], List.getElem_mem hi, rfl⟩)
  rw [h1]
  have := (List.getElem_inj (i := k) (j := i) (h₀ := by simpa using hk) (h₁ := by simpa using hi) h).1 (by simpa using h3)
  rw [this]
theorem at_nodup {t : List Qu} (h : ∀ i (hi : i < t.length), atQ t[i].tn t = i) : (t.map Qu.tn).Nodup := by
  rw [List.Nodup, List.pairwise_iff_getElem]
  intro i j hi hj hij he
  simp only [List.length_map] at hi hj
  simp only [List.getElem_map] at he
  have h1 := h i hi
  have h2 := h j hj
  rw [he] at h1
  omega
def GoodQ (t A : List Qu) : Prop := chkQ A = true ∧ t.length ≤ A.length ∧ ∀ i (h : i < t.length) (h2 : i < A.length), A[i].tn = t[i].tn
theorem modQ_tn {tn : Int} {f : Qu → Qu} (hf : ∀ x, (f x).tn = x.tn) (t : List Qu) : (modQ tn f t).map Qu.tn = t.map Qu.tn := by
  induction t with
  | nil => rfl
  | cons x r ih => simp only [modQ]; split <;> simp [hf, ih]
theorem good_mod {tn : Int} {f : Qu → Qu} (hf : ∀ x, (f x).tn = x.tn) {t : List Qu} (h : chkQ t = true) : GoodQ t (modQ tn f t) := by
  have h := of_decide_eq_true h
  refine ⟨decide_eq_true ?_, by rw [modQ_len]; omega, fun i h1 h2 => ?_⟩
  · rw [modQ_len, modQ_tn hf]; exact h
  have e := modQ_tn (tn := tn) hf t
  have := congrArg (fun l => l[i]?) e
  simp only [List.getElem?_map, List.getElem?_eq_getElem h1, List.getElem?_eq_getElem h2, Option.map_some] at this
  exact Option.some.inj this
theorem good_set {t : List Qu} {tn li : Int} (h : chkQ t = true) (hok : (setQ t tn li).2 = true) : GoodQ t (setQ t tn li).1 := by
  unfold setQ at hok ⊢
  cases hg : getQ tn t with
  | some r => simp only; refine good_mod ?_ h; intro _; rfl
  | none =>
    rw [hg] at hok
    simp only at hok ⊢
    split at hok
    · rename_i hl
      rw [if_pos hl]
      have h := of_decide_eq_true h
      refine ⟨decide_eq_true ⟨by simp; omega, ?_⟩, by simp, fun i h1 h2 => ?_⟩
      · rw [List.map_append, List.nodup_append]
        refine ⟨h.2, by simp, ?_⟩
        intro a ha b hb e
        obtain ⟨x, hx, rfl⟩ := List.mem_map.1 ha
        simp only [List.map_cons, List.map_nil, List.mem_singleton] at hb
        exact getQ_some ⟨x, hx, by rw [e, hb]⟩ hg
      simp only [List.getElem_append_left h1]
    cases hok
theorem good_take {t : List Qu} {tn n : Int} (h : chkQ t = true) (hok : (takeQ t tn n).2 = 0) : GoodQ t (takeQ t tn n).1 := by
  obtain ⟨r, _, _, _, ha⟩ := take_ok hok
  rw [ha]; refine good_mod ?_ h; intro _; rfl
theorem good_give {t : List Qu} {tn n : Int} (h : chkQ t = true) (hok : (giveQ t tn n).2 = 0) : GoodQ t (giveQ t tn n).1 := by
  unfold giveQ at hok ⊢
  cases hg : getQ tn t with
  | some r => simp only; refine good_mod ?_ h; intro _; rfl
  | none => rw [hg] at hok; simp at hok
theorem r_check {v : AVal} {t : List Qu} (hv : freeze [] H 8 v = .lst (t.map Qu.enc)) (hn : t.length ≤ 4294967296) (hq : Q (.bool (chkQ t)) H) : CW cfg ν 34 [v] H Q := by
  refine BJ (args' := [.lst (t.map Qu.enc)]) g34 F34 Z (AF (by assumption) Bw) ?_
  refine Ac (Ab Z Z (EZ (c22 ..) Z (Aq (Ac (Ab Z Z (EZ (c22 ..) Z (AD (AV (I := fun ν' mm ee H' => ∃ (i : Nat), mm = t.length - i ∧ under (1 :: 0 :: 1 :: ν) ν' = true ∧ (i ≤ t.length ∧ ∀ j (hj : j < t.length), j < i → atQ t[j].tn t = j) ∧ ∃ g : Nat → AVal, ee = [.lst (t.map Qu.enc), g 1, g 2, .int .i64 i, g 4, g 5, g 6, g 7, g 8, g 9, g 10, g 11, g 12, g 13, g 14, g 15, g 16, g 17, g 18, g 19, g 20, g 21]) ?_ _ _ _ _ ⟨0, Z, AI, (⟨by omega, fun j hj h => by omega⟩), AU Z⟩))))))))
  rintro ν1 mm ee H1 ⟨i, rfl, hU1, ⟨hi, hI⟩, g1, rfl⟩
  refine Aq (Ac (Aa Z Z (Aa Z Z (Bj Z Z Ls.of Z Z Z (List.length_map _) (Ay (e' := [_,_,_,_,_,_,_,_,_,_,_,_,_,_,_,_,_,_,_,_,_,_]) Z (Ah Z Z Z Z Z (EZ (c22 ..) Z (AH Z (fun h2 => ?_) (fun h2 => ?_)))))))))
  ·try simp only [bs] at h2
   refine At (Ag (Aq (AD (Ac (Aa Z Z (Aa Z Z (Aa Z Z (Ay (e' := [_,_,_,_,_,_,_,_,_,_,_,_,_,_,_,_,_,_,_,_,_,_]) Z (Bb Z Z Z Ls.of Z Z Z Z (Ba (by omega)) Z (Al Z Z Z (AS Z Z Z Z (Ay (e' := [_,_,_,_,_,_,_,_,_,_,_,_,_,_,_,_,_,_,_,_,_,_]) Z (AB Z Z (c_Find (Ls.freeze Ls.of) (by omega) _ ?_) )))))))))))))
   refine Aa Z Z (Ah Z Z Z Z Z (EZ (c22 ..) Z (AH Z (fun h4 => ?_) (fun h4 => ?_))))
   ·try simp only [bs] at h4
    refine Ac (Ab Z Z (EZ (c22 ..) Z (Ap (AA (Ao (AA (Ao (Ak (res1 Z (Ai Z)) ⟨Z, ?_⟩))))))))
    refine qcast hq ?_
    congr 1
    exact (decide_eq_false (fun e => by have := nodup_at e.2 (i := i) (by omega); omega)).symm
   try simp only [bs] at h4
   refine At (AJ (Ag (AC (Aa Z Z (Ah Z Z Z Z (AW (by omega)) (Ab Z Z (EZ (c22 ..) Z (⟨_, ?_, i + 1, Z, AM hU1, ?_, AU Z⟩))))))))
   · omega
   exact ⟨by omega, fun j hj h => by by_cases e : j = i; (subst e; omega); exact hI j hj (by omega)⟩
  try simp only [bs] at h2
  refine AY (AQ (AN (Ag (Ac (Aa Z Z (Bj Z Z Ls.of Z Z Z (List.length_map _) (Ah Z Z Z Z Z (Ay (e' := [_,_,_,_,_,_,_,_,_,_,_,_,_,_,_,_,_,_,_,_,_,_]) Z (Ab Z Z (EZ (c22 ..) Z (Ap (Ak (res1 Z (Ai Z)) ⟨Z, ?_⟩))))))))))))
  refine qcast hq ?_
  congr 1
  (have hnd := at_nodup (fun j hj => hI j hj (by omega)); exact decide_eq_decide.2 ⟨fun h => ⟨by omega, hnd⟩, fun h => by have := h.1; omega⟩)
end Go.Proofs.YtfkgdlfponfimaaGreat.X
/- Layer 13: states of the chunk service: volumes, sessions, quotas; find. -/
set_option maxRecDepth 100000
namespace Go.Proofs.YtfkgdlfponfimaaGreat.X
open Go Go.RowKit WM
variable {ν β ps pos' : Nm} {H : Heap} {Q : AVal → Heap → Prop} {L : List Asr} {k : Nat}
structure Vo where
  vo : Int
  tn : Int
  ep : Int
  de : Int
  lv : List ByteArray
  deriving DecidableEq
def Vo.row (x : Vo) (U : AVal) : AVal := .agg [.int .u64 x.vo, .int .u64 x.tn, .int .u64 x.ep, .int .i64 x.de, U]
def Vo.enc (x : Vo) : AVal := .agg [.int .u64 x.vo, .int .u64 x.tn, .int .u64 x.ep, .int .i64 x.de, .lst (x.lv.map .str)]
structure Ck where
  vs : List Vo
  ss : List SE.Se
  qs : List Qu
  deriving DecidableEq
abbrev Ck.enc (c : Ck) : AVal := .agg [.lst (c.vs.map Vo.enc), .lst (c.ss.map SE.Se.enc), .lst (c.qs.map Qu.enc)]
def Vo.FnP (f : FuncId) (caps : List AVal) (bs : List Nm) (H0 : Heap) (p : Vo → Bool) : Prop :=
  ∀ ν x H Q, (∀ b ∈ bs, H b = H0 b ∧ under ν b = false) → Q (.bool (p x)) H → CW cfg ν f (x.enc :: caps) H Q
theorem Vo.idx {ν : Nm} {H : Heap} {Q : AVal → Heap → Prop} {ls : List Vo} {S : AVal} {f : FuncId} {caps : List AVal} {bs : List Nm} {p : Vo → Bool} (hf : Vo.FnP f caps bs H p) (hbs : ∀ b ∈ bs, under ν b = false) (h : Rd H 5 (ls.map Vo.enc) S) (hn : ls.length ≤ 4611686018427387904) (hq : Q (.int .i64 (firstI p ls 0)) H) : CW cfg ν 111 [S, .fn f caps] H Q := by
  have h2 : lenOf H S = some ls.length := by rw [h.len, List.length_map]
  have h3 : lenKind cfg.T [22] S = true := h.kind T22 rfl
  refine CW_fullS g111 F111 Z (Ac (Ab Z Z (Am (e' := [_, _, _, _, _, _, _, _, _, _, _, _, _, _, _, _, _, _, _]) Z (Aq (Ac (Aa Z Z (BL Z Z (aLen h3 h2) (Ay (e' := [_, _, _, _, _, _, _, _, _, _, _, _, _, _, _, _, _, _, _]) Z (Aa Z Z (Am (e' := [_, _, _, _, _, _, _, _, _, _, _, _, _, _, _, _, _, _, _]) Z (AD (AV (I := fun ν' n e H' => H' = H ∧ (∀ p, under ν p = false → under ν' p = false) ∧ ∃ (i : Nat), n = ls.length - i ∧ i ≤ ls.length ∧ firstI p ls 0 = firstI p (ls.drop i) i ∧ ∃ g : Nat → AVal, e = [S, .fn f caps, g 2, g 3, .int .i64 0, g 5, g 6, .int .i64 ls.length, .int .i64 i, g 9, g 10, g 11, g 12, g 13, g 14, g 15, g 16, g 17, g 18]) ?_ _ _ _ _ ⟨Z, fun p hp => by repeat (first | exact hp | apply under_dn), 0, Z, by omega, Z, AU Z⟩))))))))))))
  rintro ν' n e H' ⟨rfl, hsub, i, rfl, hi, hfs, g, rfl⟩
  refine Ac (Ah Z Z Z Z Z (Am (e' := [_, _, _, _, _, _, _, _, _, _, _, _, _, _, _, _, _, _, _]) Z (Aq (AH Z (fun ht => ?_) (fun ht => ?_)))))
  · have hlt : i < ls.length := by simpa using ht
    have hxi : (ls.map Vo.enc)[i]? = some (ls[i].enc) := by simp [hlt]
    obtain ⟨P, k1, k2⟩ := h.at (kk := .i64) T22 rfl T69 rfl hxi rfl rfl
    refine At (Ag (Aq (AD (Ac (Aa Z Z (Ab Z Z (Am (e' := [_, _, _, _, _, _, _, _, _, _, _, _, _, _, _, _, _, _, _]) Z (Ac (Aa Z Z (Aa Z Z (Aa Z Z (OW_ia Z Z Z k1 (BD Z Z k2 (OW_fv Z Z Z (hf _ ls[i] _ _ (fun b hb => ⟨Z, by have := hsub b (hbs b hb); repeat (first | exact this | apply under_dn)⟩) (Am (e' := [_, _, _, _, _, _, _, _, _, _, _, _, _, _, _, _, _, _, _]) Z (AH Z (fun hp => ?_) (fun hp => ?_))))))))))))))))))
    · refine Ac ?_
      refine Aa Z Z (Ab Z Z (Am (e' := [_, _, _, _, _, _, _, _, _, _, _, _, _, _, _, _, _, _, _]) Z (Ap (AA (Ao (AA (Ao (Ak Z ⟨fun _ _ => Z, ?_⟩))))))))
      rw [List.drop_eq_getElem_cons hlt, firstI, if_pos hp] at hfs
      rw [hfs] at hq; exact hq
    refine At (AJ (Ag (AC (Ah Z Z Z Z (add64 (by omega)) (Aa Z Z (Am (e' := [_, _, _, _, _, _, _, _, _, _, _, _, _, _, _, _, _, _, _]) Z (⟨ls.length - (i + 1), by omega, Z, fun p hp => under_dn (hsub p hp), i + 1, Z, by omega, ?_, AU Z⟩)))))))
    rw [List.drop_eq_getElem_cons hlt, firstI, if_neg (by simp [hp])] at hfs
    exact hfs
  have hge : ls.length ≤ i := by simpa using ht
  refine AY (AQ (AN (Ag (Ac (Ab Z Z (Am (e' := [_, _, _, _, _, _, _, _, _, _, _, _, _, _, _, _, _, _, _]) Z (Ap (Ak Z ⟨fun _ _ => Z, ?_⟩))))))))
  rw [List.drop_eq_nil_of_le hge, firstI] at hfs
  rw [hfs] at hq; exact hq
def isV (vo : Int) : Vo → Bool := fun x => decide (x.vo = vo)
def atP (vo : Int) (t : List Vo) : Int := firstI (isV vo) t 0
theorem atP_cases (vo : Int) (t : List Vo) : (atP vo t = -1 ∧ ∀ x ∈ t, x.vo ≠ vo) ∨ ∃ (i : Nat) (h : i < t.length), atP vo t = i ∧ t[i].vo = vo := by
  rcases firstI_cases (isV vo) t with ⟨h1, h2⟩ | ⟨i, h0, h1, h2, h3⟩
  · exact .inl ⟨h1, fun x hx => by have := h2 x hx; simpa [isV] using this⟩
  exact .inr ⟨i, h0, h1, by simpa [isV] using h2⟩
theorem vol_fn {b : Nm} {H2 : Heap} {vo : Int} (hb : H2 b = some (.row 1 [.int .u64 vo])) : Vo.FnP 112 [.ptr b 0 0] [b] H2 (isV vo) := by
  intro ν x H Q hbs hq
  obtain ⟨h1, h2⟩ := hbs b (by simp)
  rw [hb] at h1
  refine CW_fullS g112 F112 Z (Ac (OW_box Z Z Z (Ab Z Z (Am (e' := [_, _, _, _, _, _, _, _]) Z (Ac (Al Z Z Z (BD Z Z (aLoad_ptr Z put_same Z Z) (BD Z Z (aLoad_ptr Z (by rw [put_ne (far h2 (by repeat (first | exact AI | apply AM)))]; exact h1) Z Z) (Ay (e' := [_, _, _, _, _, _, _, _]) Z (Ah Z Z Z Z Z (Ab Z Z (Am (e' := [_, _, _, _, _, _, _, _]) Z (Ap ?_)))))))))))))
  exact Ak rfl ⟨fun p hp => put_ne (far hp (by repeat (first | exact AI | apply AM))), hq⟩
theorem ck_find {v : AVal} {c : Ck} (hv : freeze [] H 8 v = c.enc) (hn : c.vs.length ≤ 4294967296) (vo : Int) (hq : Q (.int .i64 (atP vo c.vs)) H) : CW cfg ν 73 [v, .int .u64 vo] H Q := by
  refine BJ (args' := [.agg [.lst (c.vs.map Vo.enc), .lst (c.ss.map SE.Se.enc), .lst (c.qs.map Qu.enc)], .int .u64 vo]) g73 F73 Z (AF (by assumption) (AF (Ae Z) Bw)) ?_
  have hS0 : Own ν ν (fun _ => none) [] := Own.nil
  refine Ac (AR hS0 (AE (p := ν) (b := [0, 0])) (Af [0, 0] AI) Z Z Z ⟨Z, Z⟩ fun H1 (hS1 : Own _ _ _ ([_])) => AR hS1 le_refl (Af [1, 0] AI) Z Z Z ⟨Z, Z⟩ fun H2 (hS2 : Own _ _ _ ([_, _])) => Ab Z Z (Am (e' := [_,_,_,_,_,_,_,_,_]) Z (Ac (Al Z Z Z (Ad hS2 (k := 1) Z Z Z Z Z Z (OW_mf Z Z (Ay (e' := [_,_,_,_,_,_,_,_,_]) Z (AB Z Z (Vo.idx (vol_fn (by obtain ⟨f, ⟨_, h⟩, _⟩ := hS2.get (k := 0) Z; exact h)) (fun b hb => (by rw [List.mem_singleton] at hb; rw [hb]; obtain ⟨f, ⟨h0, _⟩, h⟩ := hS2.get (k := 0) Z; exact ((Ar (ν := ν) (a := [2, 0]) (b := [3, 0, 1]) (by decide)) _ (h _ (by rw [h0]; simp)).1).under)) (.ls Ls.of) (by omega) ?_) ))))))))
  refine Ab Z Z (Am (e' := [_,_,_,_,_,_,_,_,_]) Z (Ap (Ak (res1 Z (Ai Z)) ⟨Z, ?_⟩)))
  exact hq
theorem rk_find {v : AVal} {c : Ck} (hv : X.freeze [] H 8 v = c.enc) (hn : c.vs.length ≤ 4294967296) (vo : Int) (hq : Q (.int .i64 (atP vo c.vs)) H) : CW cfg ν 31 [v, .int .u64 vo] H Q := by
  refine BJ (args' := [c.enc, .int .u64 vo]) g31 F31 Z (AF (by assumption) (AF (Ae Z) Bw)) ?_
  have hS0 : Own ν ν (fun _ => none) [] := Own.nil
  refine Ac (AR hS0 (AE (p := ν) (b := [0, 0])) (Af [0, 0] AI) Z Z Z ⟨Z, Z⟩ fun H1 (hS1 : Own _ _ _ ([_])) => Ab Z Z (Am (e' := [_,_,_,_,_,_,_,_,_,_,_,_,_,_,_,_,_,_,_,_,_,_]) Z (Aq (Ac (Ab Z Z (Am (e' := [_,_,_,_,_,_,_,_,_,_,_,_,_,_,_,_,_,_,_,_,_,_]) Z (AD (AV (I := fun ν' mm ee H' => ∃ (i : Nat), mm = c.vs.length - i ∧ under (1 :: 0 :: 1 :: ν) ν' = true ∧ Own ν ν' H' ([row (0 :: 0 :: ν) 3 [.agg [.lst (c.vs.map Vo.enc), .lst (c.ss.map SE.Se.enc), .lst (c.qs.map Qu.enc)]]]) ∧ (i ≤ c.vs.length ∧ atP vo c.vs = firstI (isV vo) (c.vs.drop i) i) ∧ ∃ g : Nat → AVal, ee = [g 0, .int .u64 vo, .ptr (0 :: 0 :: ν) 0 0, g 3, g 4, .int .i64 i, g 6, g 7, g 8, g 9, g 10, g 11, g 12, g 13, g 14, g 15, g 16, g 17, g 18, g 19, g 20, g 21]) ?_ _ _ _ _ ⟨0, Z, AI, Own.cast (Own.mono (hS1) (Ar (ν := ν) (a := [1, 0]) (b := [1, 0, 1]) (by decide))) (Z), (⟨by omega, Z⟩), AU Z⟩))))))))
  rintro ν1 mm ee H2 ⟨i, rfl, hU1, hS2, ⟨hi, hI⟩, g1, rfl⟩
  refine Aq (Ac (Aa Z Z (Al Z Z Z (Ad hS2 (k := 0) Z Z Z Z Z Z (Ay (e' := [_,_,_,_,_,_,_,_,_,_,_,_,_,_,_,_,_,_,_,_,_,_]) Z (Bj Z Z Ls.of Z Z Z (List.length_map _) (Ah Z Z Z Z Z (Am (e' := [_,_,_,_,_,_,_,_,_,_,_,_,_,_,_,_,_,_,_,_,_,_]) Z (AH Z (fun h2 => ?_) (fun h2 => ?_))))))))))
  ·try simp only [bs] at h2
   refine At (Ag (Aq (AD (Ac (Al Z Z Z (Ad hS2 (k := 0) Z Z Z Z Z Z (Aa Z Z (Ay (e' := [_,_,_,_,_,_,_,_,_,_,_,_,_,_,_,_,_,_,_,_,_,_]) Z (Bb Z Z Z Ls.of Z Z Z Z (Ba (by omega)) Z (Al Z Z Z (AS Z Z Z Z (Ay (e' := [_,_,_,_,_,_,_,_,_,_,_,_,_,_,_,_,_,_,_,_,_,_]) Z (Aa Z Z (Ah Z Z Z Z Z (Am (e' := [_,_,_,_,_,_,_,_,_,_,_,_,_,_,_,_,_,_,_,_,_,_]) Z (AH Z (fun h4 => ?_) (fun h4 => ?_)))))))))))))))))
   ·try simp only [bs] at h4
    refine Ac (Aa Z Z (Ab Z Z (Am (e' := [_,_,_,_,_,_,_,_,_,_,_,_,_,_,_,_,_,_,_,_,_,_]) Z (Ap (AA (Ao (AA (Ao (Ak (res1 Z (Ai Z)) ⟨Z, ?_⟩)))))))))
    (rw [hI, List.drop_eq_getElem_cons (by omega), firstI, if_pos (by simpa [isV] using h4)] at hq; exact hq)
   try simp only [bs] at h4
   refine At (AJ (Ag (AC (Aa Z Z (Ah Z Z Z Z (AW (by omega)) (Ab Z Z (Am (e' := [_,_,_,_,_,_,_,_,_,_,_,_,_,_,_,_,_,_,_,_,_,_]) Z (⟨_, ?_, i + 1, Z, AM hU1, Own.cast (Own.mono (hS2) (AE (p := ν1) (b := [1]))) (Z), ?_, AU Z⟩))))))))
   · omega
   exact ⟨by omega, by rw [hI, List.drop_eq_getElem_cons (by omega), firstI, if_neg (by simpa [isV] using h4)]; rfl⟩
  try simp only [bs] at h2
  refine AY (AQ (AN (Ag (Ac (Ab Z Z (Am (e' := [_,_,_,_,_,_,_,_,_,_,_,_,_,_,_,_,_,_,_,_,_,_]) Z (Ap (Ak (res1 Z (Ai Z)) ⟨Z, ?_⟩))))))))
  (rw [hI, List.drop_eq_nil_of_le (by omega)] at hq; exact hq)
end Go.Proofs.YtfkgdlfponfimaaGreat.X
/- Layer 13: volumes in own slices, their leaves in own slices too. -/
set_option maxRecDepth 100000
namespace Go.Proofs.YtfkgdlfponfimaaGreat.X
open Go Go.RowKit WM
variable {ν β ps pos pos' : Nm} {H H1 : Heap} {Q : AVal → Heap → Prop} {L : List Asr} {k : Nat}
theorem Own.lose {a : Asr} {D : List Nm} (h : Own β pos H (a :: L)) (hD : ∀ f, a.holds H f → ∀ q ∈ D, q ∈ f) : Own β pos (X.lose D H) L := by
  obtain ⟨fp, ⟨f1, f2, rfl, h1, h2, h3⟩, h4⟩ := h
  refine ⟨f2, h3.framed fun p hp => ?_, fun p hp => h4 p (by simp [hp])⟩
  unfold X.lose
  rw [if_neg]
  intro hm
  exact h1 p (hD f1 h2 p (by simpa using hm)) hp
theorem Sl.freezeN {w : Nat} {xs : List AVal} {S : AVal} {fp : List Nm} (h : Sl H w xs S fp) {n : Nat} : X.freeze [] H (n + 1) S = .lst (xs.map (X.freeze [] H n)) := by
  cases h with
  | emp h => subst h; rfl
  | nls h => subst h; rfl
  | @row q m ys h1 h2 h3 =>
    have hm : 0 + m ≤ ys.length := by
      have := congrArg List.length h3
      simp only [List.length_take] at this; omega
    simp only [X.freeze, show under [] q = true by simp [under], if_true, h1, if_pos hm, List.drop_zero, h3]
theorem Sl.freezeP {w : Nat} {xs : List AVal} {S : AVal} {fp : List Nm} (h : Sl H w xs S fp) (hp : ∀ x ∈ xs, plain x = true) {n : Nat} : X.freeze [] H (n + 1) S = .lst xs :=
  h.freeze (fun q _ => by simp [under]) hp
theorem reach_plain {n : Nat} {v : AVal} (h : plain v = true) : reach ν H n v = [] := by
  have leaf : ∀ (m : Nat) (c : AVal), (match c with
    | .bool _ | .int _ _ | .str _ | .nilp | .ptr _ _ _ | .nilm | .map _ | .nilf | .nili | .nne | .lst _ => true
    | _ => false) = true → reach ν H m c = [] := by
    intro m c hc
    cases m with
    | zero => rfl
    | succ m => cases c <;> first | rfl | (cases hc; done)
  cases n with
  | zero => rfl
  | succ n =>
    cases v with
    | agg cs =>
      simp only [plain, List.all_eq_true] at h
      simp only [reach, List.flatten_eq_nil_iff, List.mem_map]
      rintro _ ⟨c, hc, rfl⟩
      exact leaf n c (h c hc)
    | _ => first | rfl | (cases h; done)
theorem Sl.reachN {w : Nat} {xs : List AVal} {S : AVal} {fp : List Nm} (h : Sl H w xs S fp) {n : Nat} : ∀ q ∈ reach [] H (n + 1) S, q ∈ fp ∨ q ∈ (xs.map (reach [] H n)).flatten := by
  intro q hq
  cases h with
  | emp h => simp [reach] at hq
  | nls h => simp [reach] at hq
  | @row p m ys h1 h2 h3 =>
    have hm : 0 + m ≤ ys.length := by
      have := congrArg List.length h3
      simp only [List.length_take] at this; omega
    simp only [reach, show under [] p = true by simp [under], if_true, h1, if_pos hm, List.drop_zero, h3, List.mem_cons] at hq
    rcases hq with hq | hq
    · exact .inl (by simp [hq])
    exact .inr hq
theorem Sl.reachP {w : Nat} {xs : List AVal} {S : AVal} {fp : List Nm} (h : Sl H w xs S fp) (hp : ∀ x ∈ xs, plain x = true) {n : Nat} : ∀ q ∈ reach [] H n S, q ∈ fp := by
  intro q hq
  cases n with
  | zero => simp [reach] at hq
  | succ n =>
    rcases h.reachN q hq with h1 | h1
    · exact h1
    obtain ⟨t, ht, hq⟩ := List.mem_flatten.1 h1
    obtain ⟨x, hx, rfl⟩ := List.mem_map.1 ht
    rw [reach_plain (hp x hx)] at hq
    simp at hq
def rowsOf (Us : List AVal) (vs : List Vo) : List AVal := (vs.zip Us).map fun p => p.1.row p.2
def lvsOf (Us : List AVal) (vs : List Vo) : List Asr := (vs.zip Us).map fun p => sl p.2 1 (p.1.lv.map AVal.str)
def vols (V : AVal) (vs : List Vo) : Asr := Asr.ex fun Us : { Us : List AVal // Us.length = vs.length } => Asr.all (sl V 5 (rowsOf Us.1 vs) :: lvsOf Us.1 vs)
theorem str_plain {l : List ByteArray} : ∀ x ∈ l.map AVal.str, plain x = true := fun x hx => by
  obtain ⟨s, _, rfl⟩ := List.mem_map.1 hx; rfl
theorem rows_freeze {n : Nat} : ∀ (vs : List Vo) (Us : List AVal) (f : List Nm), Us.length = vs.length → hold (lvsOf Us vs) H f → (rowsOf Us vs).map (X.freeze [] H (n + 2)) = vs.map Vo.enc
  | [], Us, f, _, _ => by simp [rowsOf]
  | v :: vs, [], f, h, _ => by simp at h
  | v :: vs, U :: Us, f, h, ⟨f1, f2, h0, h1, h2, h3⟩ => by
    have ih := rows_freeze (n := n) vs Us f2 (by simpa using h) h3
    have e : X.freeze [] H (n + 2) (v.row U) = v.enc := by
      have h4 : X.freeze [] H (n + 1) U = _ := Sl.freezeP (n := n) h2 str_plain
      show AVal.agg [.int .u64 v.vo, .int .u64 v.tn, .int .u64 v.ep, .int .i64 v.de, X.freeze [] H (n + 1) U] = _
      rw [h4]; rfl
    simp only [rowsOf, List.zip_cons_cons, List.map_cons, e] at ih ⊢
    rw [ih]
theorem rows_reach {n : Nat} : ∀ (vs : List Vo) (Us : List AVal) (f : List Nm), hold (lvsOf Us vs) H f → ∀ q ∈ ((rowsOf Us vs).map (reach [] H n)).flatten, q ∈ f
  | [], Us, f, _, q, hq => by simp [rowsOf] at hq
  | v :: vs, [], f, _, q, hq => by simp [rowsOf] at hq
  | v :: vs, U :: Us, f, ⟨f1, f2, h0, h1, h2, h3⟩, q, hq => by
    have ih := rows_reach (n := n) vs Us f2 h3
    simp only [rowsOf, List.zip_cons_cons, List.map_cons, List.flatten_cons, List.mem_append] at hq ih
    rw [h0]
    rcases hq with hq | hq
    · refine List.mem_append_left _ ?_
      cases n with
      | zero => simp [reach] at hq
      | succ n =>
        simp only [Vo.row, reach, List.map_cons, List.map_nil, List.flatten_cons, List.flatten_nil, List.append_nil, List.mem_append] at hq
        have nil : ∀ (c : AVal), plain c = true → q ∈ reach [] H n c → False := fun c hc hm => by rw [reach_plain hc] at hm; simp at hm
        rcases hq with hq | hq | hq | hq | hq
        · exact (nil _ rfl hq).elim
        · exact (nil _ rfl hq).elim
        · exact (nil _ rfl hq).elim
        · exact (nil _ rfl hq).elim
        exact h2.reachP str_plain q hq
    exact List.mem_append_right _ (ih q hq)
theorem vols_freeze {V : AVal} {vs : List Vo} {f : List Nm} {n : Nat} (h : (vols V vs).holds H f) : X.freeze [] H (n + 3) V = .lst (vs.map Vo.enc) := by
  obtain ⟨⟨Us, hU⟩, f1, f2, h0, h1, h2, h3⟩ := h
  have h4 : Sl H 5 (rowsOf Us vs) V f1 := h2
  rw [h4.freezeN, rows_freeze vs Us f2 hU h3]
theorem vols_reach {V : AVal} {vs : List Vo} {f : List Nm} {n : Nat} (h : (vols V vs).holds H f) : ∀ q ∈ reach [] H n V, q ∈ f := by
  obtain ⟨⟨Us, hU⟩, f1, f2, h0, h1, h2, h3⟩ := h
  have h4 : Sl H 5 (rowsOf Us vs) V f1 := h2
  intro q hq
  cases n with
  | zero => simp [reach] at hq
  | succ n =>
    rw [h0]
    rcases h4.reachN q hq with h5 | h5
    · exact List.mem_append_left _ h5
    exact List.mem_append_right _ (rows_reach vs Us f2 h3 q h5)
def stO (V S T : AVal) (c : Ck) : Asr := Asr.all [vols V c.vs, sl S 3 (c.ss.map SE.Se.enc), sl T 3 (c.qs.map Qu.enc)]
theorem se_plain {l : List SE.Se} : ∀ x ∈ l.map SE.Se.enc, plain x = true := Bx fun _ => rfl
theorem qu_plain {l : List Qu} : ∀ x ∈ l.map Qu.enc, plain x = true := Bx fun _ => rfl
theorem st_freeze {V S T : AVal} {c : Ck} {f : List Nm} {n : Nat} (h : (stO V S T c).holds H f) : X.freeze [] H (n + 4) (.agg [V, S, T]) = c.enc := by
  obtain ⟨f1, f2, h0, h1, h2, f3, f4, k0, k1, k2, f5, f6, m0, m1, m2, m3⟩ := h
  have e1 := vols_freeze (n := n) h2
  have e2 : X.freeze [] H (n + 3) S = _ := Sl.freezeP (n := n + 2) k2 se_plain
  have e3 : X.freeze [] H (n + 3) T = _ := Sl.freezeP (n := n + 2) m2 qu_plain
  show AVal.agg [X.freeze [] H (n + 3) V, X.freeze [] H (n + 3) S, X.freeze [] H (n + 3) T] = _
  rw [e1, e2, e3]
theorem st_reach {V S T : AVal} {c : Ck} {f : List Nm} {n : Nat} (h : (stO V S T c).holds H f) : ∀ q ∈ reach [] H n (.agg [V, S, T]), q ∈ f := by
  obtain ⟨f1, f2, h0, h1, h2, f3, f4, k0, k1, k2, f5, f6, m0, m1, m2, m3⟩ := h
  intro q hq
  cases n with
  | zero => simp [reach] at hq
  | succ n =>
    simp only [reach, List.map_cons, List.map_nil, List.flatten_cons, List.flatten_nil, List.append_nil, List.mem_append] at hq
    rw [h0, k0, m0]
    rcases hq with hq | hq | hq
    · simp [vols_reach h2 q hq]
    · simp [Sl.reachP k2 se_plain q hq]
    simp [Sl.reachP m2 qu_plain q hq]
end Go.Proofs.YtfkgdlfponfimaaGreat.X
/- Layer 13: copied. -/
set_option maxRecDepth 100000
namespace Go.Proofs.YtfkgdlfponfimaaGreat.X
open Go Go.RowKit WM
variable {ν β ps pos pos' : Nm} {H H1 : Heap} {Q : AVal → Heap → Prop} {L : List Asr} {k : Nat}
abbrev ByteArray.enc (s : ByteArray) : AVal := .str s
theorem ByteArray.clone {ν β ps pos' : Nm} {H : Heap} {Q : AVal → Heap → Prop} {L : List Asr} {ls : List ByteArray} {S : AVal} (hv : Ls S (ls.map ByteArray.enc)) (hS : Own β ps H L) (hle : le ps ν) (hβ : under β ν = true) (hp : before ν pos') (hn : ls.length ≤ 4294967296)
    (hq : ∀ v H', Own β pos' H' (sl v 1 (ls.map ByteArray.enc) :: L) → Q v H') : CW cfg ν 94 [S] H Q := by
  have body : ∀ S, (S = .nls ∨ S = .nne) → XW cfg ν fi94.body (start fi94 [S]) (fun _ => none) (retW cfg.T fi94 fun v _ => isEmp v = true) := by
    rintro S (rfl | rfl)
    · refine Ac ?_
      refine Ab Z Z (Am (e' := [_, _, _, _, _, _, _, _]) Z (Aq (Ac (Aa Z Z (Ah Z Z Z Z Z (Am (e' := [_, _, _, _, _, _, _, _]) Z (AZ Z Z (Ac (Ab Z Z (Am (e' := [_, _, _, _, _, _, _, _]) Z (Ap (Ao ?_))))))))))))
      exact Ak rfl rfl
    refine Ac (Ab Z Z (Am (e' := [_, _, _, _, _, _, _, _]) Z (Aq (Ac (Aa Z Z (Ah Z Z Z Z Z (Am (e' := [_, _, _, _, _, _, _, _]) Z (Bd Z Z (At (Ag (Ac (Bq Z Z Z (Aa Z Z (BL Z Z Z (Ay (e' := [_, _, _, _, _, _, _, _]) Z (Ab Z Z (Am (e' := [_, _, _, _, _, _, _, _]) Z (Ap ?_))))))))))))))))))
    exact Ak rfl rfl
  by_cases h0 : noneIn [S] = true
  · refine CW_clone0 g94 F94 rfl h0 (body _ (.inl rfl)) (body _ (.inr rfl)) (hq _ _ ?_)
    obtain rfl : ls = [] := by
      rcases hv with rfl | ⟨h, _⟩
      · cases ls with
        | nil => rfl
        | cons x r => simp [noneIn] at h0
      simpa using h
    exact (hS.mono (hle.trans (Ax hp))).addE
  have h0 : noneIn [S] = false := by simpa using h0
  rcases hv with rfl | ⟨h, rfl | rfl⟩
  · obtain ⟨x, r, rfl⟩ : ∃ x r, ls = x :: r := by
      cases ls with
      | nil => simp [noneIn] at h0
      | cons x r => exact ⟨x, r, rfl⟩
    refine BI g94 F94 Z h0 (Ac (Ab Z Z (Am (e' := [_, _, _, _, _, _, _, _]) Z (Aq (Ac (Aa Z Z (Ah Z Z Z Z Z (Am (e' := [_, _, _, _, _, _, _, _]) Z (Bd Z Z (At (Ag (Ac (Bq Z Z Z (Aa Z Z (BG (hS.mono hle) (AE (b := [2, 0, 1, 1])) (Af [2, 0, 1, 1] hβ) Z Z Z Z Z Z Z Z (Ls.elems Ls.of) (BA (fun _ => Z)) (by simpa using hn) (by decide) fun O2 H2 hS2 => Ay (e' := [_, _, _, _, _, _, _, _]) Z (Ab Z Z (Am (e' := [_, _, _, _, _, _, _, _]) Z (Ap ?_))))))))))))))))))
    exact Ak rfl (hq _ _ (hS2.mono (Ax (Az (a := [3, 0, 1, 1]) hp))))
  · simp [noneIn] at h0
  obtain rfl : ls = [] := by simpa using h
  refine BI g94 F94 Z Z (Ac (Ab Z Z (Am (e' := [_, _, _, _, _, _, _, _]) Z (Aq (Ac (Aa Z Z (Ah Z Z Z Z Z (Am (e' := [_, _, _, _, _, _, _, _]) Z (AZ Z Z (Ac (Ab Z Z (Am (e' := [_, _, _, _, _, _, _, _]) Z (Ap (Ao ?_))))))))))))))
  exact Ak rfl (hq _ _ (hS.mono (hle.trans (Ax hp))).addN)
theorem ByteArray.cloneO {ν β ps pos' : Nm} {H : Heap} {Q : AVal → Heap → Prop} {L : List Asr} {ls : List ByteArray} {S : AVal} {k : Nat} (hS : Own β ps H L) (hL : L[k]? = some (sl S 1 (ls.map ByteArray.enc))) (hle : le ps ν) (hβ : under β ν = true) (hp : before ν pos') (hn : ls.length ≤ 4294967296)
    (hq : ∀ v H', Own β pos' H' (sl v 1 (ls.map ByteArray.enc) :: L) → Q v H') : CW cfg ν 94 [S] H Q := by
  obtain ⟨f, hf, _⟩ := hS.get hL
  have hf : Sl H 1 (ls.map ByteArray.enc) S f := hf
  cases hf with
  | emp h => exact ByteArray.clone (.inr ⟨h, .inl rfl⟩) hS hle hβ hp hn hq
  | nls h => exact ByteArray.clone (.inr ⟨h, .inr rfl⟩) hS hle hβ hp hn hq
  | row h1 h2 h3 =>
    refine BI g94 F94 Z Z (Ac (Ab Z Z (Am (e' := [_, _, _, _, _, _, _, _]) Z (Aq (Ac (Aa Z Z (Ah Z Z Z Z Z (Am (e' := [_, _, _, _, _, _, _, _]) Z (Bd Z Z (At (Ag (Ac (Bq Z Z Z (Aa Z Z (BG (hS.mono hle) (AE (b := [2, 0, 1, 1])) (Af [2, 0, 1, 1] hβ) Z Z Z Z Z Z Z Z (hS.elems hL) (BA (fun _ => Z)) (by simpa using hn) (by decide) fun O2 H2 hS2 => Ay (e' := [_, _, _, _, _, _, _, _]) Z (Ab Z Z (Am (e' := [_, _, _, _, _, _, _, _]) Z (Ap ?_))))))))))))))))))
    exact Ak rfl (hq _ _ (hS2.mono (Ax (Az (a := [3, 0, 1, 1]) hp))))
def lvA (Us : List AVal) (vs : List Vo) : Asr := Asr.all (lvsOf Us vs)
theorem Own.lv_nil (h : Own β ps H L) : Own β ps H (lvA [] [] :: L) := Own.mk_all (L1 := lvsOf [] []) h
theorem Own.lv_snoc {Us : List AVal} {vs : List Vo} {U : AVal} {x : Vo} (h : Own β ps H (sl U 1 (x.lv.map AVal.str) :: lvA Us vs :: L)) (hl : Us.length = vs.length) : Own β ps H (lvA (Us ++ [U]) (vs ++ [x]) :: L) := by
  have h1 := (Own.rot (A := [lvA Us vs]) h).un_all
  refine Own.mk_all (L1 := lvsOf (Us ++ [U]) (vs ++ [x])) ?_
  have e : lvsOf (Us ++ [U]) (vs ++ [x]) = lvsOf Us vs ++ [sl U 1 (x.lv.map AVal.str)] := by
    unfold lvsOf
    rw [List.zip_append hl.symm, List.map_append]; rfl
  rw [e, List.append_assoc]; exact h1
theorem rows_snoc {Us : List AVal} {vs : List Vo} {U : AVal} {x : Vo} (hl : Us.length = vs.length) : rowsOf Us vs ++ [x.row U] = rowsOf (Us ++ [U]) (vs ++ [x]) := by
  unfold rowsOf
  rw [List.zip_append hl.symm, List.map_append]; rfl
theorem rows_len (Us : List AVal) (vs : List Vo) : (rowsOf Us vs).length ≤ vs.length := by
  unfold rowsOf; rw [List.length_map, List.length_zip]; omega
theorem Own.mk_vols {Us : List AVal} {vs : List Vo} {V : AVal} (h : Own β ps H (sl V 5 (rowsOf Us vs) :: lvA Us vs :: L)) (hl : Us.length = vs.length) : Own β ps H (vols V vs :: L) := by
  have h1 := (Own.rot (A := [lvA Us vs]) h).un_all
  have h2 : Own β ps H (sl V 5 (rowsOf Us vs) :: (lvsOf Us vs ++ L)) := Own.tor (A := lvsOf Us vs) h1
  exact Own.mk_ex (f := fun Us : { Us : List AVal // Us.length = vs.length } => Asr.all (sl V 5 (rowsOf Us.1 vs) :: lvsOf Us.1 vs)) ⟨Us, hl⟩ (Own.mk_all (L1 := sl V 5 (rowsOf Us vs) :: lvsOf Us vs) h2)
theorem Own.un_vols {vs : List Vo} {V : AVal} (h : Own β ps H (vols V vs :: L)) : ∃ Us : List AVal, Us.length = vs.length ∧ Own β ps H (sl V 5 (rowsOf Us vs) :: lvA Us vs :: L) := by
  obtain ⟨⟨Us, hl⟩, h1⟩ := Own.un_ex h
  have h2 := h1.un_all
  exact ⟨Us, hl, Own.tor (A := [lvA Us vs]) (Own.mk_all (L1 := lvsOf Us vs) (Own.rot (A := lvsOf Us vs) h2))⟩
structure Ck.sm (c : Ck) : Prop where
  v : c.vs.length ≤ 1048577
  s : c.ss.length ≤ 1048577
  q : c.qs.length ≤ 1048577
  l : ∀ x ∈ c.vs, x.lv.length ≤ 1048577
theorem copied_c {c : Ck} {V0 S0 T0 : AVal} (hV0 : Ls V0 (c.vs.map Vo.enc)) (hS0 : Ls S0 (c.ss.map SE.Se.enc)) (hT0 : Ls T0 (c.qs.map Qu.enc)) (hS : Own β ps H L) (hle : le ps ν) (hβ : under β ν = true) (hp : before ν pos') (hm : c.sm)
    (hq : ∀ H1 V S T, Own β pos' H1 (stO V S T c :: L) → Q (.agg [V, S, T]) H1) : CW cfg ν 37 [.agg [V0, S0, T0]] H Q := by
  obtain ⟨hm1, hm2, hm3, hm4⟩ := hm
  refine AX g37 F37 rfl ?_
  replace hS := Own.mono hS hle
  refine Ac ?_
  refine AR hS (AE (p := ν) (b := [0, 0])) (Af [0, 0] hβ) rfl rfl rfl ⟨rfl, rfl⟩ fun H1 hS1 => ?_
  replace hS1 : Own _ _ _ (_ :: L) := hS1
  refine AG hS1 le_refl (Af [1, 0] hβ) rfl rfl rfl rfl fun H2 hS2 => ?_
  replace hS2 : Own _ _ _ (_ :: _ :: L) := hS2
  refine EZ (c32 ..) rfl ?_
  refine XW_srF (qs := [0 :: 0 :: ν]) rfl rfl ?_
  have hSF1 : Own _ _ _ (_ :: _ :: L) := (Own.hide (Own.hide0 hS2) (k := 1) rfl)
  refine Bf rfl (Al rfl rfl rfl (AL (OWF_fl rfl ?_)))
  refine BN hS2 (k := 1) rfl (by simp) rfl rfl rfl rfl (by rfl) ?_
  refine AL (Bf rfl ?_)
  refine AB rfl rfl (SE.Se.clone hS0 hSF1 (Ar (ν := ν) (a := [2, 0]) (b := [2, 0, 1]) (by decide)) (Af [2, 0, 1] hβ) (Au (ν := ν) (a := [2, 0, 1]) (b := [3, 0, 1]) (by decide)) (by omega) fun O1 H3 hS3 => ?_) 
  replace hS3 : Own _ _ _ (_ :: _ :: _ :: L) := hS3
  refine AL ?_
  refine BK (e' := [_,_,_,_,_,_,_,_,_,_,_,_,_,_,_,_,_,_,_,_,_,_,_,_,_,_,_,_,_,_,_,_]) rfl ?_
  refine Bf rfl (Al rfl rfl rfl (AL (OWF_fl rfl ?_)))
  refine BN hS2 (k := 1) rfl (by simp) rfl rfl rfl rfl (by rfl) ?_
  refine AL (Bf rfl ?_)
  refine AB rfl rfl (Qu.clone hT0 hS3 (Ar (ν := ν) (a := [3, 0, 1]) (b := [5, 0, 1]) (by decide)) (Af [5, 0, 1] hβ) (Au (ν := ν) (a := [5, 0, 1]) (b := [6, 0, 1]) (by decide)) (by omega) fun O2 H4 hS4 => ?_) 
  replace hS4 : Own _ _ _ (_ :: _ :: _ :: _ :: L) := hS4
  refine AL ?_
  refine BK (e' := [_,_,_,_,_,_,_,_,_,_,_,_,_,_,_,_,_,_,_,_,_,_,_,_,_,_,_,_,_,_,_,_]) rfl ?_
  refine Bf rfl ?_
  refine OW_bdP rfl (pcons rfl (hS4.one (k := 1) rfl).1 (pcons rfl (hS4.one (k := 0) rfl).1 rfl)) rfl rfl rfl (cs := [_, _, _]) (fill1 rfl (hS4.one (k := 1) rfl).2 rfl (Nat.le_of_ble_eq_true rfl) rfl (fill1 rfl (hS4.one (k := 0) rfl).2 rfl (Nat.le_of_ble_eq_true rfl) rfl rfl)) ?_
  refine AL (Bf rfl ?_)
  refine AG hS4 (Ar (ν := ν) (a := [6, 0, 1]) (b := [7, 0, 1]) (by decide)) (Af [7, 0, 1] hβ) rfl rfl rfl rfl fun H5 hS5 => ?_
  replace hS5 : Own _ _ _ (_ :: _ :: _ :: _ :: _ :: L) := hS5
  refine AL (Bf rfl ?_)
  refine Av hS5 (k := 0) rfl le_refl rfl rfl rfl rfl ⟨rfl, rfl, Nat.le_of_ble_eq_true rfl⟩ (u2 := .agg [_, _, _]) rfl fun H6 hS6 => ?_
  replace hS6 : Own _ _ _ (_ :: _ :: _ :: _ :: _ :: L) := hS6
  refine AL ?_
  refine OWF_nilE (e' := [_,_,_,_,_,_,_,_,_,_,_,_,_,_,_,_,_,_,_,_,_,_,_,_,_,_,_,_,_,_,_,_]) rfl ?_
  have hSB1 : Own _ _ _ (_ :: _ :: _ :: _ :: _ :: L) := (Own.back hS2 (k := 1) rfl (Own.back0 hS6) (k' := 4) rfl)
  refine Aq (Ac (Al rfl rfl rfl ?_))
  refine Ad hSB1 (k := 4) rfl rfl rfl rfl rfl (by rfl) ?_
  refine Bj rfl rfl (by assumption) rfl rfl rfl (by exact List.length_map _) ?_
  refine Ay (e' := [_,_,_,_,_,_,_,_,_,_,_,_,_,_,_,_,_,_,_,_,_,_,_,_,_,_,_,_,_,_,_,_]) rfl ?_
  refine Aa rfl rfl ?_
  refine EZ (c32 ..) rfl ?_
  refine AD ?_
  refine AV (I := fun ν' mm ee H' => ∃ (i : Nat) (V : AVal) (Us : (List AVal)), mm = c.vs.length - i ∧ under (1 :: 0 :: 1 :: 1 :: ν) ν' = true ∧ Own β ν' H' (row (7 :: 0 :: 1 :: ν) 3 [.agg [V, O1, O2]] :: sl V 5 (rowsOf Us (c.vs.take i)) :: lvA Us (c.vs.take i) :: sl O2 3 (c.qs.map Qu.enc) :: sl O1 3 (c.ss.map SE.Se.enc) :: row (1 :: 0 :: ν) 3 [.agg [.emp, .emp, .emp]] :: row (0 :: 0 :: ν) 3 [.agg [V0, S0, T0]] :: L) ∧ (i ≤ c.vs.length ∧ Us.length = (c.vs.take i).length) ∧ ∃ g : Nat → AVal, ee = [g 0, .ptr (0 :: 0 :: ν) 0 0, .ptr (1 :: 0 :: ν) 0 0, .ptr (7 :: 0 :: 1 :: ν) 0 0, g 4, g 5, g 6, g 7, g 8, g 9, g 10, g 11, g 12, g 13, V0, .int .i64 c.vs.length, .int .i64 i, g 17, g 18, g 19, g 20, g 21, g 22, g 23, g 24, g 25, g 26, g 27, g 28, g 29, g 30, g 31]) ?_ _ _ _ _ ⟨0, .emp, [], rfl, AI, Own.cast (Own.mono (Own.rot (A := [_]) (Own.addE (Own.rot (A := [_]) (Own.lv_nil hSB1)))) (Ar (ν := ν) (a := [9, 0, 1]) (b := [1, 0, 1, 1]) (by decide))) (rfl), (⟨by omega, rfl⟩), AU rfl⟩
  rintro ν1 mm ee H7 ⟨i, V, Us, rfl, hU1, hS7, ⟨hi, hu⟩, g1, rfl⟩
  refine Ac ?_
  refine Ah rfl rfl rfl rfl rfl ?_
  refine EZ (c32 ..) rfl ?_
  refine Aq ?_
  refine AH rfl (fun h3 => ?_) (fun h3 => ?_)
  ·try simp only [bs] at h3
   refine At (Ag (Aq (AD (Ac ?_))))
   refine Bb rfl rfl rfl (by assumption) rfl rfl rfl (by rfl) (by exact Ba (by omega)) rfl ?_
   refine AS rfl rfl rfl (by exact Aj rfl rfl rfl) ?_
   refine AG hS7 (AE (p := ν1) (b := [2, 0, 0, 1, 1, 0])) (Af [2, 0, 0, 1, 1, 0] (Bk (Af [1, 0, 1, 1] hβ) hU1)) rfl rfl rfl rfl fun H8 hS8 => ?_
   replace hS8 : Own _ _ _ (_ :: _ :: _ :: _ :: _ :: _ :: _ :: _ :: L) := hS8
   refine Ay (e' := [_,_,_,_,_,_,_,_,_,_,_,_,_,_,_,_,_,_,_,_,_,_,_,_,_,_,_,_,_,_,_,_]) rfl ?_
   refine Av hS8 (k := 0) rfl le_refl rfl rfl rfl rfl ⟨rfl, rfl, Nat.le_of_ble_eq_true rfl⟩ (u2 := .agg [_, _, _, _, _]) rfl fun H9 hS9 => ?_
   replace hS9 : Own _ _ _ (_ :: _ :: _ :: _ :: _ :: _ :: _ :: _ :: L) := hS9
   refine EZ (c32 ..) rfl ?_
   refine Ac (Al rfl rfl rfl ?_)
   refine Ad hS9 (k := 0) rfl rfl rfl rfl rfl (by rfl) ?_
   refine AB rfl rfl (ByteArray.clone (ls := c.vs[i].lv) Ls.of hS9 (Ar (ν := ν1) (a := [4, 0, 0, 1, 1, 0]) (b := [2, 0, 1, 0, 1, 1, 0]) (by decide)) (Af [2, 0, 1, 0, 1, 1, 0] (Bk (Af [1, 0, 1, 1] hβ) hU1)) (Au (ν := ν1) (a := [2, 0, 1, 0, 1, 1, 0]) (b := [3, 0, 1, 0, 1, 1, 0]) (by decide)) (by have := hm4 c.vs[i] (List.getElem_mem (by omega)); omega) fun O3 H10 hS10 => ?_) 
   replace hS10 : Own _ _ _ (_ :: _ :: _ :: _ :: _ :: _ :: _ :: _ :: _ :: L) := hS10
   refine Ay (e' := [_,_,_,_,_,_,_,_,_,_,_,_,_,_,_,_,_,_,_,_,_,_,_,_,_,_,_,_,_,_,_,_]) rfl ?_
   refine Al rfl rfl rfl ?_
   refine Bs hS10 (k := 1) rfl (Ar (ν := ν1) (a := [3, 0, 1, 0, 1, 1, 0]) (b := [4, 0, 1, 0, 1, 1, 0]) (by decide)) rfl rfl rfl (hS10.one (k := 0) rfl) rfl rfl (Nat.le_of_ble_eq_true rfl) (u2 := .agg [_, _, _, _, _]) rfl fun H11 hS11 => ?_
   replace hS11 : Own _ _ _ (_ :: _ :: _ :: _ :: _ :: _ :: _ :: _ :: _ :: L) := hS11
   refine EZ (c32 ..) rfl ?_
   refine AC ?_
   have hrl : (rowsOf Us (c.vs.take i)).length ≤ 1048577 := by have := rows_len Us (c.vs.take i); rw [List.length_take] at this; omega
   refine Al rfl rfl rfl ?_
   refine Ad hS11 (k := 2) rfl rfl rfl rfl rfl (by rfl) ?_
   refine Ad hS11 (k := 1) rfl rfl rfl rfl rfl (by exact Aj rfl rfl rfl) ?_
   refine Ay (e' := [_,_,_,_,_,_,_,_,_,_,_,_,_,_,_,_,_,_,_,_,_,_,_,_,_,_,_,_,_,_,_,_]) rfl ?_
   refine Bq rfl rfl (v := .lst [_]) rfl ?_
   refine Bz hS11 (k := 3) rfl (Ar (ν := ν1) (a := [5, 0, 1, 0, 1, 1, 0]) (b := [4, 1, 1, 0, 1, 1, 0]) (by decide)) (Af [4, 1, 1, 0, 1, 1, 0] (Bk (Af [1, 0, 1, 1] hβ) hU1)) rfl rfl rfl rfl rfl rfl rfl rfl (by rfl) (by exact Br rfl) (by (simp only [ss]; omega)) (by decide) fun O4 H12 hS12 => ?_
   replace hS12 : Own _ _ _ (_ :: _ :: _ :: _ :: _ :: _ :: _ :: _ :: _ :: L) := hS12
   refine Al rfl rfl rfl ?_
   refine Ay (e' := [_,_,_,_,_,_,_,_,_,_,_,_,_,_,_,_,_,_,_,_,_,_,_,_,_,_,_,_,_,_,_,_]) rfl ?_
   refine Bs hS12 (k := 2) rfl (Ar (ν := ν1) (a := [5, 1, 1, 0, 1, 1, 0]) (b := [6, 1, 1, 0, 1, 1, 0]) (by decide)) rfl rfl rfl (hS12.one (k := 3) rfl) rfl rfl (Nat.le_of_ble_eq_true rfl) (u2 := .agg [_, _, _]) rfl fun H13 hS13 => ?_
   replace hS13 : Own _ _ _ (_ :: _ :: _ :: _ :: _ :: _ :: _ :: _ :: _ :: L) := hS13
   refine EZ (c32 ..) rfl ?_
   refine AJ (Ag (AC ?_))
   replace hS13 := Own.rot (A := [_, _]) (Own.lv_snoc (x := c.vs[i]) (Own.rot (A := [_]) (Own.pick (Own.drop hS13 (k := 1) rfl) (k := 3) rfl)) hu)
   refine Ah rfl rfl rfl rfl (AW (by omega)) ?_
   refine Aa rfl rfl ?_
   refine EZ (c32 ..) rfl ?_
   refine ⟨_, ?_, i + 1, O4, Us ++ [O3], rfl, AM hU1, Own.cast (Own.mono (hS13) (Ar (ν := ν1) (a := [7, 1, 1, 0, 1, 1, 0]) (b := [1]) (by decide))) ((by rw [List.take_succ_eq_append_getElem (by omega), ← rows_snoc hu]; rfl)), ?_, AU rfl⟩
   · omega
   exact ⟨by omega, by rw [List.take_succ_eq_append_getElem (by omega), List.length_append, List.length_append, hu]; rfl⟩
  try simp only [bs] at h3
  refine AY (AQ (AN (Ag (Ac ?_))))
  refine Ad hS7 (k := 0) rfl rfl rfl rfl rfl (by exact Aj rfl rfl rfl) ?_
  refine Av hS7 (k := 5) rfl (Ax (Bg (a := []) hU1 (Au (ν := ν) (a := [1, 0, 1, 1]) (b := [1, 0, 1, 1, 1]) (by decide)))) rfl rfl rfl rfl ⟨rfl, rfl, Nat.le_of_ble_eq_true rfl⟩ (u2 := .agg [_, _, _]) rfl fun H14 hS14 => ?_
  replace hS14 : Own _ _ _ (_ :: _ :: _ :: _ :: _ :: _ :: _ :: L) := hS14
  refine EZ (c32 ..) rfl ?_
  refine Ap ?_
  refine Ak (res1 rfl (AP hS14 (k := 5) rfl rfl rfl rfl (by exact Aj rfl rfl rfl))) ?_
  have hie : c.vs.take i = c.vs := List.take_of_length_le (by omega)
  rw [hie] at hu
  have hz := Own.drop (Own.drop (Own.drop0 (Own.mono hS14 (Ax (Az (a := [2, 0, 1, 1, 1]) hp)))) (k := 4) rfl) (k := 4) rfl
  replace hz := Own.mk_vols (Us := Us) (vs := c.vs) (Own.cast hz (by rw [hie]; rfl)) hu
  exact hq _ _ _ _ (Own.mk_all (L1 := [vols V c.vs, sl O1 3 (c.ss.map SE.Se.enc), sl O2 3 (c.qs.map Qu.enc)]) (Own.rot (A := [_]) (Own.pick hz (k := 2) rfl)))
end Go.Proofs.YtfkgdlfponfimaaGreat.X
/- Numbers and texts as bytes: what the wire's functions, and the reference's, put. -/
set_option maxRecDepth 100000
namespace Go.Proofs.YtfkgdlfponfimaaGreat.X
open Go Go.RowKit WM
variable {ν β ps pos' : Nm} {H : Heap} {Q : AVal → Heap → Prop} {L : List Asr}
theorem or_128 {T : TT} {t : TypeId} (n : Nat) : aBin T .or t (.int .u8 (IntKind.u8.wrap (n : Int))) (.int .u8 128) = some (byt (UInt8.ofNat (n % 128 + 128))) := by
  have h := WM.or128 n
  have e : aBin T .or t (.int .u8 (IntKind.u8.wrap (n : Int))) (.int .u8 128) = some (.int .u8 (Go.bits .or .u8 (IntKind.u8.wrap (n : Int)) 128)) := rfl
  rw [e, show IntKind.u8.wrap (n : Int) = (n : Int) % 256 by rw [IntKind.wrap_u8], h, byt, u8_toNat (by omega)]
theorem snoc_small {l : List UInt8} {m : Nat} (h : m < 256) : l.map byt ++ [.int .u8 (m : Int)] = (l ++ [UInt8.ofNat m]).map byt := by
  rw [List.map_append, List.map_cons, List.map_nil, byt, u8_toNat h]
theorem putW {O : AVal} {xs : List UInt8} {n : Nat} (hS : Own β ps H (sl O 1 (xs.map byt) :: L)) (hle : le ps ν) (hβ : under β ν = true) (hp : before ν pos') (hn : n < 18446744073709551616) (hx : xs.length ≤ 4294967000)
    (hq : ∀ v H1, Own β pos' H1 (sl v 1 ((xs ++ encU n).map byt) :: L) → Q v H1) : CW cfg ν 97 [O, .int .u64 (n : Int)] H Q := by
  have hlen := encU_le10 hn
  refine AX g97 F97 Z ?_
  replace hS := Own.mono hS hle
  refine Ac (Ab Z Z (Am (e' := [_,_,_,_,_,_,_,_,_,_,_,_,_,_,_,_,_,_,_,_]) Z (Aq (AD (AV (I := fun ν' mm ee H' => ∃ (m : Nat) (O : AVal) (pre : List UInt8), mm = m + 1 ∧ under (0 :: 1 :: ν) ν' = true ∧ Own β ν' H' (sl O 1 ((xs ++ pre).map byt) :: L) ∧ (encU n = pre ++ encU m ∧ m < 18446744073709551616) ∧ ∃ g : Nat → AVal, ee = [O, .int .u64 m, g 2, g 3, g 4, g 5, g 6, g 7, g 8, g 9, g 10, g 11, g 12, g 13, g 14, g 15, g 16, g 17, g 18, g 19]) ?_ _ _ _ _ ⟨n, O, [], Z, AI, Own.cast (Own.mono (hS) (AE (p := ν) (b := [0, 1]))) (by simp), (⟨Z, hn⟩), AU Z⟩)))))
  rintro ν1 mm ee H1 ⟨m, O, pre, rfl, hU1, hS1, ⟨hI, hm⟩, g1, rfl⟩
  have hpl : pre.length + 1 ≤ 10 := by have := congrArg List.length hI; have := encU_pos m; simp at *; omega
  refine Aq (Ac (Aa Z Z (Ah Z Z Z Z Z (Am (e' := [_,_,_,_,_,_,_,_,_,_,_,_,_,_,_,_,_,_,_,_]) Z (AH Z (fun h1 => ?_) (fun h1 => ?_))))))
  ·try simp only [bs] at h1
   refine At (Ag (AD (Ac (Aa Z Z (Aa Z Z (Bc Z Z Z (Ay (e' := [_,_,_,_,_,_,_,_,_,_,_,_,_,_,_,_,_,_,_,_]) Z ?_)))))))
   try rw [show IntKind.u8.wrap ((m : Nat) : Int) = IntKind.u8.wrap (m : Int) from rfl]
   refine Ah Z Z Z Z (or_128 _) (Bq Z Z (v := .lst [_]) Z (Bz hS1 (k := 0) Z (AE (p := ν1) (b := [5, 0, 1, 0])) (Af [5, 0, 1, 0] (Bk (Af [0, 1] hβ) hU1)) Z Z Z Z Z Z Z Z Z (Br Z) (by (simp only [ss]; omega)) (by decide) fun O1 H2 (hS2 : Own _ _ _ (_ :: L)) => Ay (e' := [_,_,_,_,_,_,_,_,_,_,_,_,_,_,_,_,_,_,_,_]) Z (Ab Z Z (Am (e' := [_,_,_,_,_,_,_,_,_,_,_,_,_,_,_,_,_,_,_,_]) Z (AC (Aa Z Z (Ah Z Z Z Z (shr_u64 (m := 7) (by decide)) (Ab Z Z (Am (e' := [_,_,_,_,_,_,_,_,_,_,_,_,_,_,_,_,_,_,_,_]) Z (AJ (⟨_, ?_, m / 128, O1, pre ++ [UInt8.ofNat (m % 128 + 128)], Z, AM hU1, Own.cast (Own.mono (hS2) (Ar (ν := ν1) (a := [6, 0, 1, 0]) (b := [1]) (by decide))) (by simp), ?_, AU Z⟩)))))))))))
   · omega
   exact ⟨by rw [hI, encU_big (by omega)]; simp, by omega⟩
  try simp only [bs] at h1
  refine AY (AQ (AN (Ag (Ac (Aa Z Z (Aa Z Z (Bc Z Z (Bm Z Z Z (IntWalk.u8_in _ (by omega))) (Ay (e' := [_,_,_,_,_,_,_,_,_,_,_,_,_,_,_,_,_,_,_,_]) Z (Bq Z Z (v := .lst [_]) Z (Bz hS1 (k := 0) Z (Ax (Bg (a := []) hU1 (Au (ν := ν) (a := [0, 1]) (b := [4, 0, 1, 1]) (by decide)))) (Af [4, 0, 1, 1] hβ) Z Z Z Z Z Z Z Z Z (Br Z) (by (simp only [ss]; omega)) (by decide) fun O2 H3 (hS3 : Own _ _ _ (_ :: L)) => Ab Z Z (Am (e' := [_,_,_,_,_,_,_,_,_,_,_,_,_,_,_,_,_,_,_,_]) Z (Ap (Ak (res1 Z (Ai Z)) (hq _ _ (Own.cast (Own.mono hS3 (Ax (Az (a := [5, 0, 1, 1]) hp))) ?_)))))))))))))))
  rw [snoc_small (by omega), hI, encU_small (by omega), List.append_assoc]
theorem putU {n : Nat} (hn : n < 18446744073709551616) (hq : Q (.str (ba (encU n))) H) : CW cfg ν 40 [.int .u64 (n : Int)] H Q := by
  refine Be g40 F40 Z ?_
  have hS0 : Own ν ν (fun _ => none) [] := Own.nil
  refine Ac (Ab Z Z (Am (e' := [_,_,_,_,_,_]) Z (Ac (Aa Z Z (AB Z Z (putW (xs := []) hS0.addN (AE (p := ν) (b := [1, 0, 1])) (Af [1, 0, 1] AI) (Au (ν := ν) (a := [1, 0, 1]) (b := [2, 0, 1]) (by decide)) hn (by decide) fun O1 H1 hS1 => ?_) )))))
  replace hS1 : Own _ _ _ ([_]) := hS1
  refine OW_bytesO hS1 (k := 0) Z Z Z Z Z Z Z Z Z Z (Ay (e' := [_,_,_,_,_,_]) Z (Ab Z Z (Am (e' := [_,_,_,_,_,_]) Z (Ap (Ak (res1 Z (Ai Z)) (frz1 (Q := Q) (Ae Z) ?_))))))
  exact hq
theorem rputU {n : Nat} (hn : n < 18446744073709551616) (hq : Q (.str (ba (encU n))) H) : CW cfg ν 46 [.int .u64 (n : Int)] H Q := by
  have hlen := encU_le10 hn
  refine Be g46 F46 Z ?_
  have hS0 : Own ν ν (fun _ => none) [] := Own.nil
  refine Ac (Ab Z Z (Am (e' := [_,_,_,_,_,_,_,_,_,_,_,_,_,_,_,_,_,_,_,_,_,_,_]) Z (Ac (Bq Z Z Z (Ab Z Z (Am (e' := [_,_,_,_,_,_,_,_,_,_,_,_,_,_,_,_,_,_,_,_,_,_,_]) Z (Aq (AD (AV (I := fun ν' mm ee H' => ∃ (m : Nat) (O : AVal) (pre : List UInt8), mm = m + 1 ∧ under (0 :: 1 :: 1 :: ν) ν' = true ∧ Own ν ν' H' ([sl O 1 (pre.map byt)]) ∧ (encU n = pre ++ encU m ∧ m < 18446744073709551616) ∧ ∃ g : Nat → AVal, ee = [.int .u64 m, g 1, g 2, O, g 4, g 5, g 6, g 7, g 8, g 9, g 10, g 11, g 12, g 13, g 14, g 15, g 16, g 17, g 18, g 19, g 20, g 21, g 22]) ?_ _ _ _ _ ⟨n, .emp, [], Z, AI, Own.cast (Own.mono (hS0.addE) (AE (p := ν) (b := [0, 1, 1]))) (Z), (⟨Z, hn⟩), AU Z⟩)))))))))
  rintro ν1 mm ee H1 ⟨m, O, pre, rfl, hU1, hS1, ⟨hI, hm⟩, g1, rfl⟩
  have hpl : pre.length + 1 ≤ 10 := by have := congrArg List.length hI; have := encU_pos m; simp at *; omega
  refine Aq (Ac (Aa Z Z (Ah Z Z Z Z Z (Am (e' := [_,_,_,_,_,_,_,_,_,_,_,_,_,_,_,_,_,_,_,_,_,_,_]) Z (AH Z (fun h2 => ?_) (fun h2 => ?_))))))
  ·try simp only [bs] at h2
   refine At (Ag (AD (Ac (Aa Z Z (Aa Z Z (Ah Z Z Z Z (rem_inu64 (by omega)) (Ay (e' := [_,_,_,_,_,_,_,_,_,_,_,_,_,_,_,_,_,_,_,_,_,_,_]) Z (Ah Z Z Z Z (add_wu64 (by omega)) (Bc Z Z (Bm Z Z Z (IntWalk.u8_in _ (by omega))) ?_)))))))))
   rw [show ((m : Int) % 128 + 128) = ((UInt8.ofNat (m % 128 + 128)).toNat : Int) by rw [u8_toNat (by omega)]; omega]
   refine Bq Z Z (v := .lst [_]) Z (Ay (e' := [_,_,_,_,_,_,_,_,_,_,_,_,_,_,_,_,_,_,_,_,_,_,_]) Z (Bz hS1 (k := 0) Z (AE (p := ν1) (b := [6, 0, 1, 0])) (Af [6, 0, 1, 0] (Bk (Af [0, 1, 1] AI) hU1)) Z Z Z Z Z Z Z Z Z (Br Z) (by (simp only [ss]; omega)) (by decide) fun O1 H2 (hS2 : Own _ _ _ ([_])) => Ab Z Z (Am (e' := [_,_,_,_,_,_,_,_,_,_,_,_,_,_,_,_,_,_,_,_,_,_,_]) Z (AC ?_))))
   replace hS2 := hS2.reS (k := 0) Z (map_snoc (f := byt) (a := UInt8.ofNat (m % 128 + 128)))
   refine Aa Z Z (Ah Z Z Z Z (quo_inu64 (by omega)) (Ab Z Z (Am (e' := [_,_,_,_,_,_,_,_,_,_,_,_,_,_,_,_,_,_,_,_,_,_,_]) Z (AJ (⟨_, ?_, m / 128, O1, pre ++ [UInt8.ofNat (m % 128 + 128)], Z, AM hU1, Own.cast (Own.mono (hS2) (Ar (ν := ν1) (a := [7, 0, 1, 0]) (b := [1]) (by decide))) (Z), ?_, AU Z⟩)))))
   · omega
   exact ⟨by rw [hI, encU_big (by omega)]; simp, by omega⟩
  try simp only [bs] at h2
  refine AY (AQ (AN (Ag (Ac (Aa Z Z (Aa Z Z (Bc Z Z (Bm Z Z Z (IntWalk.u8_in _ (by omega))) (Ay (e' := [_,_,_,_,_,_,_,_,_,_,_,_,_,_,_,_,_,_,_,_,_,_,_]) Z (Bq Z Z (v := .lst [_]) Z (Bz hS1 (k := 0) Z (Ax (Bg (a := []) hU1 (Au (ν := ν) (a := [0, 1, 1]) (b := [4, 0, 1, 1, 1]) (by decide)))) (Af [4, 0, 1, 1, 1] AI) Z Z Z Z Z Z Z Z Z (Br Z) (by (simp only [ss]; omega)) (by decide) fun O2 H3 (hS3 : Own _ _ _ ([_])) => Ab Z Z (Am (e' := [_,_,_,_,_,_,_,_,_,_,_,_,_,_,_,_,_,_,_,_,_,_,_]) Z (Ac ?_))))))))))))
  replace hS3 := hS3.reS (k := 0) Z (snoc_small (by omega))
  refine Aa Z Z (OW_bytesO hS3 (k := 0) Z Z Z Z Z Z Z Z Z Z (Ab Z Z (Am (e' := [_,_,_,_,_,_,_,_,_,_,_,_,_,_,_,_,_,_,_,_,_,_,_]) Z (Ap (Ak (res1 Z (Ai Z)) (frz1 (Q := Q) (Ae Z) ?_))))))
  rw [hI, encU_small (by omega)] at hq; exact hq
end Go.Proofs.YtfkgdlfponfimaaGreat.X
/- Numbers and texts as bytes: what the wire's functions, and the reference's, take. -/
set_option maxRecDepth 100000
namespace Go.Proofs.YtfkgdlfponfimaaGreat.X
open Go Go.RowKit WM
variable {ν β ps pos' : Nm} {H : Heap} {Q : AVal → Heap → Prop} {L : List Asr}
def noU : Int × ByteArray × Bool := (0, (⟨#[]⟩ : ByteArray), false)
def resU (s : ByteArray) : Int × ByteArray × Bool := match takeU 64 s.data.toList with
  | some (n, r) => ((n : Int), ba r, true)
  | none => noU
def tupU (x : Int × ByteArray × Bool) : AVal := .tup [.int .u64 x.1, .str x.2.1, .bool x.2.2]
def contU (i acc : Nat) (l : List UInt8) : Int × ByteArray × Bool := match takeU (64 - 7 * i) l with
  | some (v, r) => if 0 < i ∧ v = 0 then noU else (((acc + v * 2 ^ (7 * i) : Nat) : Int), ba r, true)
  | none => noU
theorem contU_first (s : ByteArray) : resU s = contU 0 0 s.data.toList := by
  unfold resU contU
  simp only [Nat.mul_zero, Nat.sub_zero, Nat.lt_irrefl, false_and, if_false, Nat.zero_add, Nat.pow_zero, Nat.mul_one]
theorem contU_nil {i acc : Nat} : contU i acc [] = noU := by simp [contU, takeU]
theorem contU_small {i acc : Nat} {c : UInt8} {t : List UInt8} (hi : i ≤ 9) (hc : c.toNat < 128) (h9 : i = 9 → c.toNat ≤ 1) : contU i acc (c :: t) = if 0 < i ∧ c.toNat = 0 then noU else (((acc + c.toNat * 2 ^ (7 * i) : Nat) : Int), ba t, true) := by
  have : c.toNat < 2 ^ (64 - 7 * i) := by
    by_cases e : i = 9
    · subst e; have := h9 rfl; show c.toNat < 2 ^ 1; omega
    have : 2 ^ 8 ≤ 2 ^ (64 - 7 * i) := Nat.pow_le_pow_right (by decide) (by omega)
    omega
  simp only [contU, takeU, if_pos hc, if_pos this]
theorem takeU_zero {l : List UInt8} {v : Nat} {r : List UInt8} (h : takeU 0 l = some (v, r)) : v = 0 := by
  have := (takeU_some _ _ _ _ h).2
  simpa using this
theorem contU_nine {acc : Nat} {c : UInt8} {t : List UInt8} (hc : 1 < c.toNat) : contU 9 acc (c :: t) = noU := by
  unfold contU
  simp only [takeU, show 64 - 7 * 9 = 1 from rfl]
  by_cases h : c.toNat < 128
  · rw [if_pos h, if_neg (by show ¬ c.toNat < 2 ^ 1; omega)]
  rw [if_neg h, show 1 - 7 = 0 from rfl]
  cases ht : takeU 0 t with
  | none => rfl
  | some p => obtain ⟨v, r⟩ := p; simp only [takeU_zero ht, if_true]
theorem contU_big {i acc : Nat} {c : UInt8} {t : List UInt8} (hi : i ≤ 8) (hc : ¬ c.toNat < 128) : contU i acc (c :: t) = contU (i + 1) (acc + c.toNat % 128 * 2 ^ (7 * i)) t := by
  have hl := c.toNat_lt
  unfold contU
  simp only [takeU, if_neg hc, show 64 - 7 * i - 7 = 64 - 7 * (i + 1) by omega]
  cases ht : takeU (64 - 7 * (i + 1)) t with
  | none => rfl
  | some p =>
    obtain ⟨v, r⟩ := p
    simp only
    by_cases hv : v = 0
    · rw [if_pos hv, if_pos ⟨by omega, hv⟩]
    rw [if_neg hv, if_neg (by omega)]
    simp only
    rw [if_neg (by omega)]
    congr 2
    rw [show 7 * (i + 1) = 7 + 7 * i by omega, Nat.pow_add, show (2 : Nat) ^ 7 = 128 from rfl, Nat.add_mul, Nat.add_assoc]
    rw [show c.toNat - 128 = c.toNat % 128 by omega]
    congr 2
    rw [Nat.mul_comm 128 v, Nat.mul_assoc]
theorem and_127 {T : TT} {t : TypeId} (c : UInt8) : aBin T .and t (byt c) (.int .u8 127) = some (.int .u8 ((c.toNat % 128 : Nat) : Int)) := by
  have e : aBin T .and t (byt c) (.int .u8 127) = some (.int .u8 (Go.bits .and .u8 (c.toNat : Int) 127)) := rfl
  rw [e, WM.and127]
theorem shl_le {i c : Nat} (hi : i ≤ 9) (hc : c < 128) (h9 : i = 9 → c ≤ 1) : (c + 1) * 2 ^ (7 * i) ≤ 18446744073709551616 := by
  by_cases e : i = 9
  · subst e; have := h9 rfl
    have : (c + 1) * 2 ^ (7 * 9) ≤ 2 * 2 ^ (7 * 9) := Nat.mul_le_mul_right _ (by omega)
    exact Nat.le_trans this (by decide)
  have h1 : (c + 1) * 2 ^ (7 * i) ≤ 128 * 2 ^ (7 * 8) := Nat.mul_le_mul (by omega) (Nat.pow_le_pow_right (by decide) (by omega))
  exact Nat.le_trans h1 (by decide)
theorem shl_u64 {T : TT} {t : TypeId} {d i : Nat} (hi : i ≤ 9) (h : d * 2 ^ (7 * i) < 18446744073709551616) : aBin T .shl t (.int .u64 (d : Int)) (.int .i64 (7 * (i : Int))) = some (.int .u64 ((d * 2 ^ (7 * i) : Nat) : Int)) := by
  show (if (7 * (i : Int)) < 0 then none else some (AVal.int .u64 (IntKind.u64.wrap ((d : Int) * 2 ^ (min (7 * (i : Int)).toNat 64))))) = _
  rw [if_neg (by omega), show min (7 * (i : Int)).toNat 64 = 7 * i by omega]
  have e : ((d : Int) * 2 ^ (7 * i)) = ((d * 2 ^ (7 * i) : Nat) : Int) := by simp
  rw [e, IntWalk.u64_in _ (by omega)]
theorem or_u64 {T : TT} {t : TypeId} {acc d i : Nat} (ha : acc < 2 ^ (7 * i)) (hd : acc + d * 2 ^ (7 * i) < 18446744073709551616) : aBin T .or t (.int .u64 (acc : Int)) (.int .u64 ((d * 2 ^ (7 * i) : Nat) : Int)) = some (.int .u64 ((acc + d * 2 ^ (7 * i) : Nat) : Int)) := by
  have e : aBin T .or t (.int .u64 (acc : Int)) (.int .u64 ((d * 2 ^ (7 * i) : Nat) : Int)) = some (.int .u64 (Go.bits .or .u64 (acc : Int) ((d * 2 ^ (7 * i) : Nat) : Int))) := rfl
  rw [e, WM.or_shift _ _ _ ha hd]
theorem str_drop {s : ByteArray} {i : Nat} (h : i < s.size) : s.data.toList.drop i = s.data.toList.getD i 0 :: s.data.toList.drop (i + 1) := by
  have h' : i < s.data.toList.length := h
  rw [List.drop_eq_getElem_cons h', List.getD_eq_getElem?_getD, List.getElem?_eq_getElem h', Option.getD_some]
theorem ext_tail (s : ByteArray) (i : Nat) : s.extract i s.size = ba (s.data.toList.drop i) := by rw [← ba_drop]; rfl
theorem ext_head (s : ByteArray) (i : Nat) : s.extract 0 i = ba (s.data.toList.take i) := by rw [← ba_take]; rfl
theorem enc_head {c : UInt8} {t r : List UInt8} {v : Nat} (h : c :: t = encU v ++ r) : c.toNat % 128 = v % 128 ∧ (c.toNat < 128 ↔ v < 128) ∧ (v < 128 → t = r ∧ (encU v).length = 1) ∧ (¬ v < 128 → t = encU (v / 128) ++ r ∧ (encU v).length = (encU (v / 128)).length + 1) := by
  by_cases hv : v < 128
  · rw [encU_small hv] at h
    obtain ⟨rfl, rfl⟩ := List.cons.inj h
    rw [u8_toNat (by omega)]
    exact ⟨rfl, Iff.rfl, fun _ => ⟨rfl, by rw [encU_small hv]; rfl⟩, fun h => absurd hv h⟩
  rw [encU_big hv] at h
  obtain ⟨rfl, rfl⟩ := List.cons.inj h
  rw [u8_toNat (by omega)]
  exact ⟨by omega, by omega, fun h => absurd h hv, fun _ => ⟨rfl, by rw [encU_big hv]; rfl⟩⟩
theorem mul_cast {a b m : Nat} (h : a * b ≤ m) : 0 ≤ (a : Int) * (b : Int) ∧ (a : Int) * (b : Int) ≤ (m : Int) := by
  rw [← Int.natCast_mul]; omega
theorem takeU_c {s : ByteArray} (hs : s.size ≤ 4611686018427387904) (hq : Q (tupU (resU s)) H) : CW cfg ν 95 [.str s] H Q := by
  rw [contU_first] at hq
  refine Be g95 F95 Z (Ac (Ab Z Z (Ab Z Z (Ab Z Z (EZ (c44 ..) Z (Ac (Ab Z Z (EZ (c44 ..) Z (Aq (Ac (Aa Z Z (By Z Z Z (Aa Z Z (EZ (c44 ..) Z (AD (AV (I := fun ν' mm ee H' => ∃ (i : Nat) (acc : Nat), mm = s.size - i ∧ under (1 :: 0 :: 1 :: 1 :: ν) ν' = true ∧ (i ≤ s.size ∧ i ≤ 9 ∧ acc < 2 ^ (7 * i) ∧ contU 0 0 s.data.toList = contU i acc (s.data.toList.drop i)) ∧ ∃ g : Nat → AVal, ee = [.str s, g 1, .int .u64 0, .str ⟨#[]⟩, .bool false, .int .u64 acc, g 6, g 7, g 8, .int .i64 s.size, .int .i64 i, g 11, g 12, g 13, g 14, g 15, g 16, g 17, g 18, g 19, g 20, g 21, g 22, g 23, g 24, g 25, g 26, g 27, g 28, g 29, g 30, g 31, g 32, g 33, g 34, g 35, g 36, g 37, g 38, g 39, g 40, g 41, g 42, g 43]) ?_ _ _ _ _ ⟨0, 0, Z, AI, (⟨by omega, by omega, by decide, Z⟩), AU Z⟩))))))))))))))))
  rintro ν1 mm ee H1 ⟨i, acc, rfl, hU1, ⟨hi, hi9, ha, hI⟩, g1, rfl⟩
  refine Ac (Ah Z Z Z Z Z (EZ (c44 ..) Z (Aq (AH Z (fun h3 => ?_) (fun h3 => ?_)))))
  ·try simp only [bs] at h3
   refine At (Ag (Aq (AD (Ac (Aa Z Z (Ab Z Z (EZ (c44 ..) Z (Ac (Aa Z Z (Aa Z Z (OW_ix Z Z Z (str_ix Z Z (by omega) (by omega)) (EN (c44 ..) Z ?_))))))))))))
   have hdr := str_drop (s := s) (i := i) (by omega)
   rw [Int.toNat_natCast]
   generalize s.data.toList.getD i 0 = c at hdr ⊢
   have hcl := c.toNat_lt
   rw [show AVal.int .u8 ((c.toNat : Nat) : Int) = byt c from rfl]
   refine Ab Z Z (EZ (c44 ..) Z (Aq (Ac (Aa Z Z (Ah Z Z Z Z Z (Aa Z Z (EN (c44 ..) Z (AT (tt := 18) Z (fun g6_3 => ?_) (fun g6_3 => ?_)))))))))
   ·try simp only [bs] at g6_3
    refine Aa Z Z (Ah Z Z Z Z Z (EN (c44 ..) Z (Aw Z Z Z (EZ (c44 ..) Z (AH Z (fun h6 => ?_) (fun h6 => ?_))))))
    ·try simp only [bs] at h6
     refine AY (AQ (block_exit_ne Z (AQ (AN (Ag (Ac (Ab Z Z (Ab Z Z (Ab Z Z (EZ (c44 ..) Z (Ap (Ak (res3 Z (Ai Z) (Ai Z) (Ai Z)) (frz3 (Q := Q) (Ae Z) (Ae Z) (Ae Z) ?_)))))))))))))
     (rw [hI, hdr, show i = 9 by omega, contU_nine (by omega)] at hq; exact hq)
    try simp only [bs] at h6
    refine At (Ag (Ac ?_))
    have hc1 : i = 9 → c.toNat % 128 ≤ 1 := by intro e; omega
    have hle := shl_le hi9 (show c.toNat % 128 < 128 by omega) hc1
    rw [Nat.add_mul, Nat.one_mul] at hle
    have hpp : 0 < 2 ^ (7 * i) := Nat.pow_pos (by decide)
    have hd : c.toNat % 128 * 2 ^ (7 * i) < 18446744073709551616 := by omega
    have hod : acc + c.toNat % 128 * 2 ^ (7 * i) < 18446744073709551616 := by omega
    refine Aa Z Z (Aa Z Z (Ah Z Z Z Z (and_127 _) (EN (c44 ..) Z (Bc Z Z (Bm Z Z Z (IntWalk.u64_in _ (by omega))) (Aa Z Z (Ah Z Z Z Z (mul_w64 (by omega)) (EN (c44 ..) Z (Ah Z Z Z Z (shl_u64 hi9 hd) (Ah Z Z Z Z (or_u64 ha hod) (Ab Z Z (EZ (c44 ..) Z (Ac (Aa Z Z (Ah Z Z Z Z Z (EZ (c44 ..) Z (AH Z (fun h8 => ?_) (fun h8 => ?_)))))))))))))))))
    ·try simp only [bs] at h8
     refine Aq (Ac (Aa Z Z (Ah Z Z Z Z Z (Aa Z Z (EN (c44 ..) Z (AT (tt := 34) Z (fun g9_3 => ?_) (fun g9_3 => ?_)))))))
     ·try simp only [bs] at g9_3
      refine Aa Z Z (Ah Z Z Z Z Z (EN (c44 ..) Z (Aw Z Z Z (EZ (c44 ..) Z (AH Z (fun h9 => ?_) (fun h9 => ?_))))))
      ·try simp only [bs] at h9
       refine AY (AQ (block_exit_ne Z (AQ (AN (Ag (Ac (Ab Z Z (Ab Z Z (Ab Z Z (EZ (c44 ..) Z (Ap (Ak (res3 Z (Ai Z) (Ai Z) (Ai Z)) (frz3 (Q := Q) (Ae Z) (Ae Z) (Ae Z) ?_)))))))))))))
       (rw [hI, hdr, contU_small hi9 (by omega) (by omega), if_pos ⟨by omega, by omega⟩] at hq; exact hq)
      try simp only [bs] at h9
      refine At (Ag (Ac (Aa Z Z (Aa Z Z (Aa Z Z (EN (c44 ..) Z (Ah Z Z Z Z (AW (by omega)) (BM Z Z Z Z Z (str_lo Z Z (by omega) (by omega)) (Ab Z Z (EN (c44 ..) Z (Ab Z Z (Ab Z Z (EZ (c44 ..) Z (Ap (AA (Ao (AA (Ao (Ak (res3 Z (Ai Z) (Ai Z) (Ai Z)) (frz3 (Q := Q) (Ae Z) (Ae Z) (Ae Z) ?_))))))))))))))))))))
      (rw [hI, hdr, contU_small hi9 (by omega) (by omega), if_neg (by omega), ← ext_tail] at hq; rw [show c.toNat % 128 = c.toNat by omega, show ((i : Int) + 1).toNat = i + 1 by omega]; exact hq)
     try simp only [bs] at g9_3
     refine An Z (An Z (EN (c44 ..) Z (Aw Z Z Z (EZ (c44 ..) Z (Bd Z Z (At (Ag (Ac (Aa Z Z (Aa Z Z (Aa Z Z (EN (c44 ..) Z (Ah Z Z Z Z (AW (by omega)) (BM Z Z Z Z Z (str_lo Z Z (by omega) (by omega)) (Ab Z Z (EN (c44 ..) Z (Ab Z Z (Ab Z Z (EZ (c44 ..) Z (Ap (AA (Ao (AA (Ao (Ak (res3 Z (Ai Z) (Ai Z) (Ai Z)) (frz3 (Q := Q) (Ae Z) (Ae Z) (Ae Z) ?_))))))))))))))))))))))))))
     (rw [hI, hdr, contU_small hi9 (by omega) (by omega), if_neg (by omega), ← ext_tail] at hq; rw [show c.toNat % 128 = c.toNat by omega, show ((i : Int) + 1).toNat = i + 1 by omega]; exact hq)
    try simp only [bs] at h8
    refine At (AJ (Ag (AC (Ah Z Z Z Z (AW (by omega)) (Aa Z Z (EZ (c44 ..) Z (⟨_, ?_, i + 1, _, Z, AM hU1, ?_, AU Z⟩)))))))
    · omega
    exact ⟨by omega, by omega, by have e : 2 ^ (7 * (i + 1)) = 128 * 2 ^ (7 * i) := (by rw [show 7 * (i + 1) = 7 + 7 * i by omega, Nat.pow_add]); have h2 : (c.toNat % 128 + 1) * 2 ^ (7 * i) ≤ 128 * 2 ^ (7 * i) := Nat.mul_le_mul_right _ (by omega); rw [Nat.add_mul, Nat.one_mul] at h2; omega, by rw [hI, hdr, contU_big (by omega) (by omega)]⟩
   try simp only [bs] at g6_3
   refine An Z (An Z (EN (c44 ..) Z (Aw Z Z Z (EZ (c44 ..) Z (Bd Z Z (At (Ag (Ac ?_))))))))
   have hc1 : i = 9 → c.toNat % 128 ≤ 1 := by intro e; omega
   have hle := shl_le hi9 (show c.toNat % 128 < 128 by omega) hc1
   rw [Nat.add_mul, Nat.one_mul] at hle
   have hpp : 0 < 2 ^ (7 * i) := Nat.pow_pos (by decide)
   have hd : c.toNat % 128 * 2 ^ (7 * i) < 18446744073709551616 := by omega
   have hod : acc + c.toNat % 128 * 2 ^ (7 * i) < 18446744073709551616 := by omega
   refine Aa Z Z (Aa Z Z (Ah Z Z Z Z (and_127 _) (EN (c44 ..) Z (Bc Z Z (Bm Z Z Z (IntWalk.u64_in _ (by omega))) (Aa Z Z (Ah Z Z Z Z (mul_w64 (by omega)) (EN (c44 ..) Z (Ah Z Z Z Z (shl_u64 hi9 hd) (Ah Z Z Z Z (or_u64 ha hod) (Ab Z Z (EZ (c44 ..) Z (Ac (Aa Z Z (Ah Z Z Z Z Z (EZ (c44 ..) Z (AH Z (fun h8 => ?_) (fun h8 => ?_)))))))))))))))))
   ·try simp only [bs] at h8
    refine Aq (Ac (Aa Z Z (Ah Z Z Z Z Z (Aa Z Z (EN (c44 ..) Z (AT (tt := 34) Z (fun g9_3 => ?_) (fun g9_3 => ?_)))))))
    ·try simp only [bs] at g9_3
     refine Aa Z Z (Ah Z Z Z Z Z (EN (c44 ..) Z (Aw Z Z Z (EZ (c44 ..) Z (AH Z (fun h9 => ?_) (fun h9 => ?_))))))
     ·try simp only [bs] at h9
      refine AY (AQ (block_exit_ne Z (AQ (AN (Ag (Ac (Ab Z Z (Ab Z Z (Ab Z Z (EZ (c44 ..) Z (Ap (Ak (res3 Z (Ai Z) (Ai Z) (Ai Z)) (frz3 (Q := Q) (Ae Z) (Ae Z) (Ae Z) ?_)))))))))))))
      (rw [hI, hdr, contU_small hi9 (by omega) (by omega), if_pos ⟨by omega, by omega⟩] at hq; exact hq)
     try simp only [bs] at h9
     refine At (Ag (Ac (Aa Z Z (Aa Z Z (Aa Z Z (EN (c44 ..) Z (Ah Z Z Z Z (AW (by omega)) (BM Z Z Z Z Z (str_lo Z Z (by omega) (by omega)) (Ab Z Z (EN (c44 ..) Z (Ab Z Z (Ab Z Z (EZ (c44 ..) Z (Ap (AA (Ao (AA (Ao (Ak (res3 Z (Ai Z) (Ai Z) (Ai Z)) (frz3 (Q := Q) (Ae Z) (Ae Z) (Ae Z) ?_))))))))))))))))))))
     (rw [hI, hdr, contU_small hi9 (by omega) (by omega), if_neg (by omega), ← ext_tail] at hq; rw [show c.toNat % 128 = c.toNat by omega, show ((i : Int) + 1).toNat = i + 1 by omega]; exact hq)
    try simp only [bs] at g9_3
    refine An Z (An Z (EN (c44 ..) Z (Aw Z Z Z (EZ (c44 ..) Z (Bd Z Z (At (Ag (Ac (Aa Z Z (Aa Z Z (Aa Z Z (EN (c44 ..) Z (Ah Z Z Z Z (AW (by omega)) (BM Z Z Z Z Z (str_lo Z Z (by omega) (by omega)) (Ab Z Z (EN (c44 ..) Z (Ab Z Z (Ab Z Z (EZ (c44 ..) Z (Ap (AA (Ao (AA (Ao (Ak (res3 Z (Ai Z) (Ai Z) (Ai Z)) (frz3 (Q := Q) (Ae Z) (Ae Z) (Ae Z) ?_))))))))))))))))))))))))))
    (rw [hI, hdr, contU_small hi9 (by omega) (by omega), if_neg (by omega), ← ext_tail] at hq; rw [show c.toNat % 128 = c.toNat by omega, show ((i : Int) + 1).toNat = i + 1 by omega]; exact hq)
   try simp only [bs] at h8
   refine At (AJ (Ag (AC (Ah Z Z Z Z (AW (by omega)) (Aa Z Z (EZ (c44 ..) Z (⟨_, ?_, i + 1, _, Z, AM hU1, ?_, AU Z⟩)))))))
   · omega
   exact ⟨by omega, by omega, by have e : 2 ^ (7 * (i + 1)) = 128 * 2 ^ (7 * i) := (by rw [show 7 * (i + 1) = 7 + 7 * i by omega, Nat.pow_add]); have h2 : (c.toNat % 128 + 1) * 2 ^ (7 * i) ≤ 128 * 2 ^ (7 * i) := Nat.mul_le_mul_right _ (by omega); rw [Nat.add_mul, Nat.one_mul] at h2; omega, by rw [hI, hdr, contU_big (by omega) (by omega)]⟩
  try simp only [bs] at h3
  refine AY (AQ (AN (Ag (Ac (Ab Z Z (Ab Z Z (Ab Z Z (EZ (c44 ..) Z (Ap (Ak (res3 Z (Ai Z) (Ai Z) (Ai Z)) (frz3 (Q := Q) (Ae Z) (Ae Z) (Ae Z) ?_)))))))))))
  (rw [hI, List.drop_eq_nil_of_le (show s.data.toList.length ≤ i by show s.size ≤ i; omega), contU_nil] at hq; exact hq)
theorem resU_some {s : ByteArray} {n : Nat} {r : List UInt8} (h : takeU 64 s.data.toList = some (n, r)) : resU s = ((n : Int), ba r, true) := by unfold resU; rw [h]
theorem resU_none {s : ByteArray} (h : takeU 64 s.data.toList = none) : resU s = noU := by unfold resU; rw [h]
theorem bytes_size (s : ByteArray) : s.data.toList.length = s.size := rfl
theorem rtake_found {s : ByteArray} {n : Nat} {r : List UInt8} (hs : s.size ≤ 4611686018427387904) (hn : n < 18446744073709551616) (e : s.data.toList = encU n ++ r) (hq : Q (.tup [.int .u64 (n : Int), .str (ba r), .bool true]) H) : CW cfg ν 43 [.str s] H Q := by
  have hn10 := encU_le10 hn
  have hsz : s.size = (encU n).length + r.length := by have := congrArg List.length e; rw [List.length_append] at this; exact this
  refine Be g43 F43 Z (Ac (Ab Z Z (Ab Z Z (Ab Z Z (EZ (c45 ..) Z (Ac (Ab Z Z (EZ (c45 ..) Z (Ac (Ab Z Z (EZ (c45 ..) Z (Aq (Ac (Ab Z Z (EZ (c45 ..) Z (AD (AV (I := fun ν' mm ee H' => ∃ (i : Nat) (acc : Nat) (K : Nat) (v : Nat), mm = s.size - i ∧ under (1 :: 0 :: 1 :: 1 :: 1 :: ν) ν' = true ∧ (i + (encU v).length = (encU n).length ∧ s.data.toList.drop i = encU v ++ r ∧ K = 2 ^ (7 * i) ∧ acc < K ∧ acc + K * v = n) ∧ ∃ g : Nat → AVal, ee = [.str s, g 1, .int .u64 0, .str ⟨#[]⟩, .bool false, .int .u64 acc, .int .u64 K, .int .i64 i, g 8, g 9, g 10, g 11, g 12, g 13, g 14, g 15, g 16, g 17, g 18, g 19, g 20, g 21, g 22, g 23, g 24, g 25, g 26, g 27, g 28, g 29, g 30, g 31, g 32, g 33, g 34, g 35, g 36, g 37, g 38, g 39, g 40, g 41, g 42, g 43, g 44]) ?_ _ _ _ _ ⟨0, 0, 1, n, Z, AI, (⟨by omega, e, Z, by decide, by omega⟩), AU Z⟩)))))))))))))))))
  rintro ν1 mm ee H1 ⟨i, acc, K, v, rfl, hU1, ⟨hil, hdr, hK, ha, hv⟩, g1, rfl⟩
  have hvp := encU_pos v
  have hpow : K ≤ 9223372036854775808 := by (rw [hK]; exact Nat.le_trans (Nat.pow_le_pow_right (by decide) (show 7 * i ≤ 63 by omega)) (by decide))
  have hdr2 := str_drop (s := s) (i := i) (by omega)
  refine Aq (Ac (Aa Z Z (Aa Z Z (By Z Z Z (EN (c45 ..) Z (Ah Z Z Z Z Z (Aa Z Z (AT (tt := 13) Z (fun g4_5 => ?_) (fun g4_5 => ?_)))))))))
  ·try simp only [bs] at g4_5
   refine EN (c45 ..) Z (Aa Z Z (Ah Z Z Z Z Z (Aw Z Z Z (EZ (c45 ..) Z (AH Z (fun h4 => ?_) (fun h4 => ?_))))))
   ·try simp only [bs] at h4
    refine At (Ag (Aq (AD (Ac (Aa Z Z (Aa Z Z (OW_ix Z Z Z (str_ix Z Z (by omega) (by omega)) (EN (c45 ..) Z ?_))))))))
    rw [Int.toNat_natCast]
    generalize s.data.toList.getD i 0 = c at hdr2 ⊢
    have hcl := c.toNat_lt
    rw [hdr2] at hdr
    have hcv : c.toNat % 128 = v % 128 ∧ (c.toNat < 128 ↔ v < 128) ∧ (v < 128 → s.data.toList.drop (i + 1) = r ∧ (encU v).length = 1) ∧ (¬ v < 128 → s.data.toList.drop (i + 1) = encU (v / 128) ++ r ∧ (encU v).length = (encU (v / 128)).length + 1) := enc_head hdr
    refine Bc Z Z (Bm Z Z Z (IntWalk.u64_in _ (by omega))) (Ab Z Z (EZ (c45 ..) Z (Ac (Aa Z Z (Aa Z Z (Aa Z Z (EN (c45 ..) Z (Ah Z Z Z Z (rem_inu64 (by omega)) ?_))))))))
    have hmul : 0 ≤ (K : Int) * ((c.toNat % 128 : Nat) : Int) ∧ (K : Int) * ((c.toNat % 128 : Nat) : Int) ≤ 18446744073709551615 := mul_cast (m := 18446744073709551615) (by have : K * (v % 128) ≤ K * v := Nat.mul_le_mul_left _ (Nat.mod_le _ _); rw [hcv.1]; omega)
    rw [show ((c.toNat : Int) % 128) = ((c.toNat % 128 : Nat) : Int) from rfl]
    refine Ah Z Z Z Z (mul_wu64 (by omega)) ?_
    obtain ⟨X, hX⟩ : ∃ X, X = K * (v % 128) := ⟨_, rfl⟩
    rw [hcv.1, ← Int.natCast_mul, ← hX]
    have hkv : K * v = X + K * 128 * (v / 128) := by rw [hX, Nat.mul_assoc, ← Nat.mul_add]; congr 1; omega
    have hXn : acc + X ≤ n := by omega
    refine Ah Z Z Z Z (add_wu64 (by omega)) (EN (c45 ..) Z (Ab Z Z (EZ (c45 ..) Z (Ac (Aa Z Z (Ah Z Z Z Z Z (Ab Z Z (EZ (c45 ..) Z (Ac (Aa Z Z (Ah Z Z Z Z Z (EZ (c45 ..) Z (AH Z (fun h9 => ?_) (fun h9 => ?_))))))))))))))
    ·try simp only [bs] at h9
     have hXe : acc + X = n := by rw [hX, Nat.mod_eq_of_lt (by omega)]; exact hv
     refine Aq (Ac (Aa Z Z ?_))
     rw [show ((acc : Int) + (X : Int)) = (n : Int) by omega]
     refine AB Z Z (rputU hn ?_) 
     refine Aa Z Z (EN (c45 ..) Z (Aa Z Z (Ah Z Z Z Z (AW (by omega)) (BM Z Z Z Z Z (str_hi Z Z (by omega) (by omega)) (EN (c45 ..) Z (Ah Z Z Z Z Z (EZ (c45 ..) Z (AH Z (fun h10 => ?_) (fun h10 => ?_)))))))))
     · exfalso; (try simp only [bs] at h10) <;> (exact h10 (by obtain ⟨_, k2⟩ := hcv.2.2.1 (by omega); rw [show ((i : Int) + 1).toNat = (encU n).length by omega, ext_head, e, List.take_left]))
     try simp only [bs] at h10
     refine At (Ag (Ac (Aa Z Z (Aa Z Z (Aa Z Z (EN (c45 ..) Z (Ah Z Z Z Z (AW (by omega)) (BM Z Z Z Z Z (str_lo Z Z (by omega) (by omega)) (Ab Z Z (EN (c45 ..) Z (Ab Z Z (Ab Z Z (EZ (c45 ..) Z (Ap (AA (Ao (AA (Ao (Ak (res3 Z (Ai Z) (Ai Z) (Ai Z)) (frz3 (Q := Q) (Ae Z) (Ae Z) (Ae Z) ?_))))))))))))))))))))
     obtain ⟨hdr3, _⟩ := hcv.2.2.1 (by omega); rw [show ((i : Int) + 1).toNat = i + 1 by omega, ext_tail, hdr3]; exact hq
    try simp only [bs] at h9
    have hKn : K * 128 ≤ n := by have : K * 128 * 1 ≤ K * 128 * (v / 128) := Nat.mul_le_mul_left _ (by omega); omega
    rw [wu64 (n := (K : Int) * 128) (by omega)]
    refine At (AJ (Ag (AC (Aa Z Z (Ah Z Z Z Z (AW (by omega)) (Ab Z Z (EZ (c45 ..) Z ?_)))))))
    obtain ⟨hdr3, hlen3⟩ := hcv.2.2.2 (by omega)
    refine ⟨_, ?_, i + 1, acc + X, K * 128, v / 128, Z, AM hU1, ?_, AU Z⟩
    · omega
    exact ⟨by omega, hdr3, by rw [hK, show 7 * (i + 1) = 7 * i + 7 by omega, Nat.pow_add], by have : X ≤ K * 127 := (by rw [hX]; exact Nat.mul_le_mul_left _ (by omega)); omega, by omega⟩
   exfalso; (try simp only [bs] at h4) <;> (omega)
  exfalso; (try simp only [bs] at g4_5) <;> (omega)
theorem wrapu_range (n : Int) : 0 ≤ IntKind.u64.wrap n ∧ IntKind.u64.wrap n ≤ 18446744073709551615 := by rw [IntKind.wrap_u64]; omega
theorem rtake_none {s : ByteArray} (hs : s.size ≤ 4611686018427387904) (h : takeU 64 s.data.toList = none) (hq : Q (.tup [.int .u64 0, .str ⟨#[]⟩, .bool false]) H) : CW cfg ν 43 [.str s] H Q := by
  refine Be g43 F43 Z (Ac (Ab Z Z (Ab Z Z (Ab Z Z (EZ (c45 ..) Z (Ac (Ab Z Z (EZ (c45 ..) Z (Ac (Ab Z Z (EZ (c45 ..) Z (Aq (Ac (Ab Z Z (EZ (c45 ..) Z (AD (AV (I := fun ν' mm ee H' => ∃ (i : Nat) (acc : Int) (K : Int), mm = s.size - i ∧ under (1 :: 0 :: 1 :: 1 :: 1 :: ν) ν' = true ∧ (i ≤ s.size ∧ 0 ≤ acc ∧ acc ≤ 18446744073709551615) ∧ ∃ g : Nat → AVal, ee = [.str s, g 1, .int .u64 0, .str ⟨#[]⟩, .bool false, .int .u64 acc, .int .u64 K, .int .i64 i, g 8, g 9, g 10, g 11, g 12, g 13, g 14, g 15, g 16, g 17, g 18, g 19, g 20, g 21, g 22, g 23, g 24, g 25, g 26, g 27, g 28, g 29, g 30, g 31, g 32, g 33, g 34, g 35, g 36, g 37, g 38, g 39, g 40, g 41, g 42, g 43, g 44]) ?_ _ _ _ _ ⟨0, 0, 1, Z, AI, (⟨by omega, by decide, by decide⟩), AU Z⟩)))))))))))))))))
  rintro ν1 mm ee H1 ⟨i, acc, K, rfl, hU1, ⟨hil, ha1, ha2⟩, g1, rfl⟩
  refine Aq (Ac (Aa Z Z (Aa Z Z (By Z Z Z (EN (c45 ..) Z (Ah Z Z Z Z Z (Aa Z Z (AT (tt := 13) Z (fun g4_5 => ?_) (fun g4_5 => ?_)))))))))
  ·try simp only [bs] at g4_5
   refine EN (c45 ..) Z (Aa Z Z (Ah Z Z Z Z Z (Aw Z Z Z (EZ (c45 ..) Z (AH Z (fun h4 => ?_) (fun h4 => ?_))))))
   ·try simp only [bs] at h4
    refine At (Ag (Aq (AD (Ac (Aa Z Z (Aa Z Z (OW_ix Z Z Z (str_ix Z Z (by omega) (by omega)) (EN (c45 ..) Z (Bc Z Z Z (Ab Z Z (EZ (c45 ..) Z (Ac (Aa Z Z (Aa Z Z (Aa Z Z (EN (c45 ..) Z (Ah Z Z Z Z (rem_in (by omega)) (Ah Z Z Z Z Z (Ah Z Z Z Z Z (EN (c45 ..) Z ?_))))))))))))))))))))
    generalize hN : IntKind.u64.wrap (acc + IntKind.u64.wrap (K * _)) = N
    have hN0 : 0 ≤ N ∧ N ≤ 18446744073709551615 := by rw [← hN]; exact wrapu_range _
    refine Ab Z Z (EZ (c45 ..) Z (Ac (Aa Z Z ?_)))
    skip
    refine Ah Z Z Z Z Z (Ab Z Z (EZ (c45 ..) Z (Ac (Aa Z Z (Ah Z Z Z Z Z (EZ (c45 ..) Z (AH Z (fun h9 => ?_) (fun h9 => ?_))))))))
    ·try simp only [bs] at h9
     refine Aq (Ac (Aa Z Z ?_))
     rw [show (N : Int) = ((N.toNat : Nat) : Int) by omega]
     refine AB Z Z (rputU (show N.toNat < 18446744073709551616 by omega) ?_) 
     refine Aa Z Z (EN (c45 ..) Z (Aa Z Z (Ah Z Z Z Z (AW (by omega)) (BM Z Z Z Z Z (str_hi Z Z (by omega) (by omega)) (EN (c45 ..) Z (Ah Z Z Z Z Z (EZ (c45 ..) Z (AH Z (fun h10 => ?_) (fun h10 => ?_)))))))))
     ·try simp only [bs] at h10
      refine AY (AQ (block_exit_ne Z (AQ (AN (Ag (Ac (Ab Z Z (Ab Z Z (Ab Z Z (EZ (c45 ..) Z (Ap (Ak (res3 Z (Ai Z) (Ai Z) (Ai Z)) (frz3 (Q := Q) (Ae Z) (Ae Z) (Ae Z) ?_)))))))))))))
      exact hq
     exfalso; (try simp only [bs] at h10) <;> (have h10 := h10; rw [show ((i : Int) + 1).toNat = i + 1 by omega, ext_head, ba_inj] at h10; have := takeU_enc N.toNat 64 (s.data.toList.drop (i + 1)) (by show N.toNat < 18446744073709551616; omega); rw [h10, List.take_append_drop, h] at this; cases this)
    try simp only [bs] at h9
    refine At (AJ (Ag (AC (Aa Z Z (Ah Z Z Z Z (AW (by omega)) (Ab Z Z (EZ (c45 ..) Z (⟨_, ?_, i + 1, _, _, Z, AM hU1, ?_, AU Z⟩))))))))
    · omega
    exact ⟨by omega, hN0.1, hN0.2⟩
   try simp only [bs] at h4
   refine AY (AQ (AN (Ag (Ac (Ab Z Z (Ab Z Z (Ab Z Z (EZ (c45 ..) Z (Ap (Ak (res3 Z (Ai Z) (Ai Z) (Ai Z)) (frz3 (Q := Q) (Ae Z) (Ae Z) (Ae Z) ?_)))))))))))
   exact hq
  try simp only [bs] at g4_5
  refine EN (c45 ..) Z (An Z (An Z (Aw Z Z Z (EZ (c45 ..) Z (Bd Z Z (AY (AQ (AN (Ag (Ac (Ab Z Z (Ab Z Z (Ab Z Z (EZ (c45 ..) Z (Ap (Ak (res3 Z (Ai Z) (Ai Z) (Ai Z)) (frz3 (Q := Q) (Ae Z) (Ae Z) (Ae Z) ?_)))))))))))))))))
  exact hq
theorem rtakeU {s : ByteArray} (hs : s.size ≤ 4611686018427387904) (hq : Q (tupU (resU s)) H) : CW cfg ν 43 [.str s] H Q := by
  cases h : takeU 64 s.data.toList with
  | none => rw [resU_none h] at hq; exact rtake_none hs h hq
  | some p =>
    obtain ⟨n, r⟩ := p
    rw [resU_some h] at hq
    obtain ⟨e, hn⟩ := (takeU_iff _ _ _).1 h
    exact rtake_found hs hn e hq
end Go.Proofs.YtfkgdlfponfimaaGreat.X
/- Texts as bytes. -/
set_option maxRecDepth 100000
namespace Go.Proofs.YtfkgdlfponfimaaGreat.X
open Go Go.RowKit WM
variable {ν β ps pos' : Nm} {H : Heap} {Q : AVal → Heap → Prop} {L : List Asr}
def encS (s : ByteArray) : ByteArray := ba (encT s.data.toList)
theorem encS_eq (s : ByteArray) : ba (encU s.size) ++ s = encS s := by
  unfold encS encT
  rw [← ba_append, ba_of]; rfl
theorem encS_size {s : ByteArray} (hs : s.size ≤ 4611686018427387904) : (encS s).size ≤ s.size + 10 := by
  have h := encU_le10 (n := s.size) (by omega)
  unfold encS encT
  rw [ba_size, List.length_append, bytes_size]; omega
theorem putTx {s : ByteArray} (hs : s.size ≤ 4611686018427387904) (hq : Q (.str (encS s)) H) : CW cfg ν 41 [.str s] H Q := by
  have h := encU_le10 (n := s.size) (by omega)
  have hb : (ba (encU s.size)).size + s.size ≤ 9223372036854775807 := by rw [ba_size]; omega
  refine Be g41 F41 Z (Ac (Ab Z Z (Am (e' := [_,_,_,_,_,_,_,_,_]) Z (Ac (Aa Z Z (By Z Z Z (Bc Z Z (Bm Z Z Z (IntWalk.u64_in _ (by omega))) (Ay (e' := [_,_,_,_,_,_,_,_,_]) Z (AB Z Z (putU (n := s.size) (by omega) ?_) )))))))))
  refine Aa Z Z (Ah Z Z Z Z (cat (by omega)) (Ay (e' := [_,_,_,_,_,_,_,_,_]) Z (Ab Z Z (Am (e' := [_,_,_,_,_,_,_,_,_]) Z (Ap (Ak (res1 Z (Ai Z)) (frz1 (Q := Q) (Ae Z) ?_)))))))
  rw [encS_eq]; exact hq
theorem rputTx {s : ByteArray} (hs : s.size ≤ 4611686018427387904) (hq : Q (.str (encS s)) H) : CW cfg ν 47 [.str s] H Q := by
  have h := encU_le10 (n := s.size) (by omega)
  have hb : (ba (encU s.size)).size + s.size ≤ 9223372036854775807 := by rw [ba_size]; omega
  refine Be g47 F47 Z (Ac (Ab Z Z (Am (e' := [_,_,_,_,_,_,_,_,_]) Z (Ac (Aa Z Z (By Z Z Z (Bc Z Z (Bm Z Z Z (IntWalk.u64_in _ (by omega))) (Ay (e' := [_,_,_,_,_,_,_,_,_]) Z (AB Z Z (rputU (n := s.size) (by omega) ?_) )))))))))
  refine Aa Z Z (Ah Z Z Z Z (cat (by omega)) (Ay (e' := [_,_,_,_,_,_,_,_,_]) Z (Ab Z Z (Am (e' := [_,_,_,_,_,_,_,_,_]) Z (Ap (Ak (res1 Z (Ai Z)) (frz1 (Q := Q) (Ae Z) ?_)))))))
  rw [encS_eq]; exact hq
theorem takeU_e {s b : ByteArray} {a : Int} {d : Bool} (hs : s.size ≤ 4611686018427387904) (he : resU s = (a, b, d)) (hq : Q (.tup [.int .u64 a, .str b, .bool d]) H) : CW cfg ν 95 [.str s] H Q := takeU_c hs (by rw [he]; exact hq)
theorem rtakeU_e {s b : ByteArray} {a : Int} {d : Bool} (hs : s.size ≤ 4611686018427387904) (he : resU s = (a, b, d)) (hq : Q (.tup [.int .u64 a, .str b, .bool d]) H) : CW cfg ν 43 [.str s] H Q := rtakeU hs (by rw [he]; exact hq)
def resT (most : Int) (s : ByteArray) : ByteArray × ByteArray × Bool := match WM.takeT most s.data.toList with
  | some (t, r) => (ba t, ba r, true)
  | none => (⟨#[]⟩, ⟨#[]⟩, false)
theorem resU_cases (s : ByteArray) : (takeU 64 s.data.toList = none ∧ resU s = (0, ⟨#[]⟩, false)) ∨ ∃ n r, takeU 64 s.data.toList = some (n, r) ∧ resU s = ((n : Int), ba r, true) ∧ n < 18446744073709551616 ∧ r.length < s.size := by
  cases h : takeU 64 s.data.toList with
  | none => exact .inl ⟨rfl, resU_none h⟩
  | some p => obtain ⟨n, r⟩ := p; exact .inr ⟨n, r, rfl, resU_some h, ((takeU_iff _ _ _).1 h).2, takeU_short h⟩
theorem takeT_c {s : ByteArray} {most : Int} (hs : s.size ≤ 4611686018427387904) (hm : most ≤ 9223372036854775807) (hq : Q (.tup [.str (resT most s).1, .str (resT most s).2.1, .bool (resT most s).2.2]) H) : CW cfg ν 61 [.str s, .int .i64 most] H Q := by
  rcases resU_cases s with ⟨h1, h2⟩ | ⟨n, r, h1, h2, hn, hr⟩
  · rw [resT, WM.takeT, h1] at hq
    refine Be g61 F61 Z (Ac (Ab Z Z (Ab Z Z (Ab Z Z (EZ (c41 ..) Z (Ac (Aa Z Z (AB Z Z (takeU_e hs h2 ?_) ))))))))
    refine Aa Z Z (EN (c41 ..) Z (AK Z Z Z (AK Z Z Z (AK Z Z Z (EN (c41 ..) Z (Ab Z Z (Ab Z Z (Ab Z Z (EZ (c41 ..) Z (Aq (Ac (Aa Z Z (BE Z Z Z (Aa Z Z (EN (c41 ..) Z (AT (tt := 18) Z (fun g2_3 => ?_) (fun g2_3 => ?_)))))))))))))))))
    ·first
     |skip
      try simp only [bs] at g2_3
      refine An Z (An Z (EN (c41 ..) Z (Aw Z Z Z (Aa Z Z (An Z (EN (c41 ..) Z (An Z (An Z (An Z (EN (c41 ..) Z (Aw Z Z Z (Aa Z Z (An Z (EN (c41 ..) Z (An Z (An Z (An Z (EN (c41 ..) Z (An Z (Aw Z Z Z (EZ (c41 ..) Z (AZ Z Z (Ac (Ab Z Z (Ab Z Z (Ab Z Z (EZ (c41 ..) Z (Ap (Ao (Ak (res3 Z (Ai Z) (Ai Z) (Ai Z)) (frz3 (Q := Q) (Ae Z) (Ae Z) (Ae Z) ?_)))))))))))))))))))))))))))))))
      exact hq
    (exfalso; (try simp only [bs] at g2_3) <;> ((simp at g2_3; done)); done)
  have hbr : (ba r).size = r.length := ba_size r
  rw [resT, WM.takeT, h1] at hq
  simp only at hq
  refine Be g61 F61 Z (Ac (Ab Z Z (Ab Z Z (Ab Z Z (EZ (c41 ..) Z (Ac (Aa Z Z (AB Z Z (takeU_e hs h2 ?_) ))))))))
  refine Aa Z Z (EN (c41 ..) Z (AK Z Z Z (AK Z Z Z (AK Z Z Z (EN (c41 ..) Z (Ab Z Z (Ab Z Z (Ab Z Z (EZ (c41 ..) Z (Aq (Ac (Aa Z Z (BE Z Z Z (Aa Z Z (EN (c41 ..) Z (AT (tt := 18) Z (fun g2_3 => ?_) (fun g2_3 => ?_)))))))))))))))))
  ·(exfalso; (try simp only [bs] at g2_3) <;> ((simp at g2_3; done)); done)
  first
  |skip
   try simp only [bs] at g2_3
   refine Aa Z Z (Ah Z Z Z Z Z (EN (c41 ..) Z (Aw Z Z Z (Aa Z Z (AT (tt := 22) Z (fun g2_7 => ?_) (fun g2_7 => ?_))))))
   ·first
    |skip
     try simp only [bs] at g2_7
     refine EN (c41 ..) Z (An Z (An Z (An Z (EN (c41 ..) Z (An Z (Aw Z Z Z (Aa Z Z (EN (c41 ..) Z (An Z (An Z (An Z (EN (c41 ..) Z (An Z (An Z (Aw Z Z Z (EZ (c41 ..) Z (AZ Z Z (Ac (Ab Z Z (Ab Z Z (Ab Z Z (EZ (c41 ..) Z (Ap (Ao (Ak (res3 Z (Ai Z) (Ai Z) (Ai Z)) (frz3 (Q := Q) (Ae Z) (Ae Z) (Ae Z) ?_))))))))))))))))))))))))))
     (rw [if_neg (by omega)] at hq; exact hq)
   first
   |skip
    try simp only [bs] at g2_7
    refine EN (c41 ..) Z (Aa Z Z (Aa Z Z (Bc Z Z (Bm Z Z Z (IntWalk.u64_in _ (by omega))) (EN (c41 ..) Z (Ah Z Z Z Z Z (Aw Z Z Z (Aa Z Z (EN (c41 ..) Z (AT (tt := 28) Z (fun g2_13 => ?_) (fun g2_13 => ?_))))))))))
    ·first
     |skip
      try simp only [bs] at g2_13
      refine An Z (An Z (EN (c41 ..) Z (An Z (An Z (An Z (EN (c41 ..) Z (Aw Z Z Z (EZ (c41 ..) Z (AZ Z Z (Ac (Ab Z Z (Ab Z Z (Ab Z Z (EZ (c41 ..) Z (Ap (Ao (Ak (res3 Z (Ai Z) (Ai Z) (Ai Z)) (frz3 (Q := Q) (Ae Z) (Ae Z) (Ae Z) ?_))))))))))))))))))
      (rw [if_neg (by omega)] at hq; exact hq)
    first
    |skip
     try simp only [bs] at g2_13
     refine Aa Z Z (Aa Z Z (EN (c41 ..) Z (By Z Z Z (Bc Z Z (Bm Z Z Z (IntWalk.u64_in _ (by omega))) (Ah Z Z Z Z Z (EN (c41 ..) Z (Aw Z Z Z (EZ (c41 ..) Z (AH Z (fun h2 => ?_) (fun h2 => ?_))))))))))
     ·first
      |skip
       try simp only [bs] at h2
       refine Ac (Ab Z Z (Ab Z Z (Ab Z Z (EZ (c41 ..) Z (Ap (Ao (Ak (res3 Z (Ai Z) (Ai Z) (Ai Z)) (frz3 (Q := Q) (Ae Z) (Ae Z) (Ae Z) ?_))))))))
       (rw [if_neg (by omega)] at hq; exact hq)
     first
     |skip
      try simp only [bs] at h2
      refine At (Ag (Ac (Aa Z Z (Aa Z Z (BM Z Z Z Z Z (str_hi Z Z (by omega) (by omega)) (EN (c41 ..) Z (Aa Z Z (Aa Z Z (BM Z Z Z Z Z (str_lo Z Z (by omega) (by omega)) (EN (c41 ..) Z (Ab Z Z (Ab Z Z (Ab Z Z (EZ (c41 ..) Z (Ap (Ak (res3 Z (Ai Z) (Ai Z) (Ai Z)) (frz3 (Q := Q) (Ae Z) (Ae Z) (Ae Z) ?_)))))))))))))))))
      (rw [if_pos ⟨by omega, by omega, by omega⟩] at hq; rw [Int.toNat_natCast, ba_take, ba_drop]; exact hq)
theorem rtakeT_c {s : ByteArray} {most : Int} (hs : s.size ≤ 4611686018427387904) (hm : most ≤ 9223372036854775807) (hq : Q (.tup [.str (resT most s).1, .str (resT most s).2.1, .bool (resT most s).2.2]) H) : CW cfg ν 44 [.str s, .int .i64 most] H Q := by
  rcases resU_cases s with ⟨h1, h2⟩ | ⟨n, r, h1, h2, hn, hr⟩
  · rw [resT, WM.takeT, h1] at hq
    refine Be g44 F44 Z (Ac (Ab Z Z (Ab Z Z (Ab Z Z (EZ (c43 ..) Z (Ac (Aa Z Z (AB Z Z (rtakeU_e hs h2 ?_) ))))))))
    refine Aa Z Z (EN (c43 ..) Z (AK Z Z Z (AK Z Z Z (AK Z Z Z (EN (c43 ..) Z (Ab Z Z (Ab Z Z (Ab Z Z (EZ (c43 ..) Z (Aq (Ac (Aa Z Z (BE Z Z Z (Aa Z Z (EN (c43 ..) Z (AT (tt := 18) Z (fun g2_3 => ?_) (fun g2_3 => ?_)))))))))))))))))
    ·first
     |skip
      try simp only [bs] at g2_3
      refine An Z (An Z (EN (c43 ..) Z (Aw Z Z Z (Aa Z Z (An Z (EN (c43 ..) Z (An Z (An Z (An Z (EN (c43 ..) Z (Aw Z Z Z (Aa Z Z (An Z (EN (c43 ..) Z (An Z (An Z (An Z (EN (c43 ..) Z (An Z (Aw Z Z Z (EZ (c43 ..) Z (AZ Z Z (Ac (Ab Z Z (Ab Z Z (Ab Z Z (EZ (c43 ..) Z (Ap (Ao (Ak (res3 Z (Ai Z) (Ai Z) (Ai Z)) (frz3 (Q := Q) (Ae Z) (Ae Z) (Ae Z) ?_)))))))))))))))))))))))))))))))
      exact hq
    (exfalso; (try simp only [bs] at g2_3) <;> ((simp at g2_3; done)); done)
  have hbr : (ba r).size = r.length := ba_size r
  rw [resT, WM.takeT, h1] at hq
  simp only at hq
  refine Be g44 F44 Z (Ac (Ab Z Z (Ab Z Z (Ab Z Z (EZ (c43 ..) Z (Ac (Aa Z Z (AB Z Z (rtakeU_e hs h2 ?_) ))))))))
  refine Aa Z Z (EN (c43 ..) Z (AK Z Z Z (AK Z Z Z (AK Z Z Z (EN (c43 ..) Z (Ab Z Z (Ab Z Z (Ab Z Z (EZ (c43 ..) Z (Aq (Ac (Aa Z Z (BE Z Z Z (Aa Z Z (EN (c43 ..) Z (AT (tt := 18) Z (fun g2_3 => ?_) (fun g2_3 => ?_)))))))))))))))))
  ·(exfalso; (try simp only [bs] at g2_3) <;> ((simp at g2_3; done)); done)
  first
  |skip
   try simp only [bs] at g2_3
   refine Aa Z Z (Ah Z Z Z Z Z (EN (c43 ..) Z (Aw Z Z Z (Aa Z Z (AT (tt := 22) Z (fun g2_7 => ?_) (fun g2_7 => ?_))))))
   ·first
    |skip
     try simp only [bs] at g2_7
     refine EN (c43 ..) Z (An Z (An Z (An Z (EN (c43 ..) Z (An Z (Aw Z Z Z (Aa Z Z (EN (c43 ..) Z (An Z (An Z (An Z (EN (c43 ..) Z (An Z (An Z (Aw Z Z Z (EZ (c43 ..) Z (AZ Z Z (Ac (Ab Z Z (Ab Z Z (Ab Z Z (EZ (c43 ..) Z (Ap (Ao (Ak (res3 Z (Ai Z) (Ai Z) (Ai Z)) (frz3 (Q := Q) (Ae Z) (Ae Z) (Ae Z) ?_))))))))))))))))))))))))))
     (rw [if_neg (by omega)] at hq; exact hq)
   first
   |skip
    try simp only [bs] at g2_7
    refine EN (c43 ..) Z (Aa Z Z (Aa Z Z (Bc Z Z (Bm Z Z Z (IntWalk.u64_in _ (by omega))) (EN (c43 ..) Z (Ah Z Z Z Z Z (Aw Z Z Z (Aa Z Z (EN (c43 ..) Z (AT (tt := 28) Z (fun g2_13 => ?_) (fun g2_13 => ?_))))))))))
    ·first
     |skip
      try simp only [bs] at g2_13
      refine An Z (An Z (EN (c43 ..) Z (An Z (An Z (An Z (EN (c43 ..) Z (Aw Z Z Z (EZ (c43 ..) Z (AZ Z Z (Ac (Ab Z Z (Ab Z Z (Ab Z Z (EZ (c43 ..) Z (Ap (Ao (Ak (res3 Z (Ai Z) (Ai Z) (Ai Z)) (frz3 (Q := Q) (Ae Z) (Ae Z) (Ae Z) ?_))))))))))))))))))
      (rw [if_neg (by omega)] at hq; exact hq)
    first
    |skip
     try simp only [bs] at g2_13
     refine Aa Z Z (Aa Z Z (EN (c43 ..) Z (By Z Z Z (Bc Z Z (Bm Z Z Z (IntWalk.u64_in _ (by omega))) (Ah Z Z Z Z Z (EN (c43 ..) Z (Aw Z Z Z (EZ (c43 ..) Z (AH Z (fun h2 => ?_) (fun h2 => ?_))))))))))
     ·first
      |skip
       try simp only [bs] at h2
       refine Ac (Ab Z Z (Ab Z Z (Ab Z Z (EZ (c43 ..) Z (Ap (Ao (Ak (res3 Z (Ai Z) (Ai Z) (Ai Z)) (frz3 (Q := Q) (Ae Z) (Ae Z) (Ae Z) ?_))))))))
       (rw [if_neg (by omega)] at hq; exact hq)
     first
     |skip
      try simp only [bs] at h2
      refine At (Ag (Ac (Aa Z Z (Aa Z Z (Bc Z Z (Bm Z Z Z (IntWalk.i64_in _ (by omega))) (EN (c43 ..) Z (BM Z Z Z Z Z (str_hi Z Z (by omega) (by omega)) (Aa Z Z (Aa Z Z (EN (c43 ..) Z (Bc Z Z (Bm Z Z Z (IntWalk.i64_in _ (by omega))) (BM Z Z Z Z Z (str_lo Z Z (by omega) (by omega)) (Ab Z Z (EN (c43 ..) Z (Ab Z Z (Ab Z Z (EZ (c43 ..) Z (Ap (Ak (res3 Z (Ai Z) (Ai Z) (Ai Z)) (frz3 (Q := Q) (Ae Z) (Ae Z) (Ae Z) ?_))))))))))))))))))))
      (rw [if_pos ⟨by omega, by omega, by omega⟩] at hq; rw [Int.toNat_natCast, ba_take, ba_drop]; exact hq)
theorem putUi {a : Int} (h : 0 ≤ a ∧ a ≤ 18446744073709551615) (hq : Q (.str (ba (encU a.toNat))) H) : CW cfg ν 40 [.int .u64 a] H Q := by
  have e : a = ((a.toNat : Nat) : Int) := by omega
  rw [e]
  exact putU (by omega) hq
theorem rputUi {a : Int} (h : 0 ≤ a ∧ a ≤ 18446744073709551615) (hq : Q (.str (ba (encU a.toNat))) H) : CW cfg ν 46 [.int .u64 a] H Q := by
  have e : a = ((a.toNat : Nat) : Int) := by omega
  rw [e]
  exact rputU (by omega) hq
theorem encU_i {a : Int} (h : 0 ≤ a ∧ a ≤ 18446744073709551615) : (ba (encU a.toNat)).size ≤ 10 := by
  rw [ba_size]; exact encU_le10 (by omega)
theorem resU_size (s : ByteArray) : (resU s).2.1.size ≤ s.size := by
  rcases resU_cases s with ⟨_, h⟩ | ⟨n, r, _, h, _, hr⟩
  · rw [h]; exact Nat.zero_le _
  rw [h]; show (ba r).size ≤ _; rw [ba_size]; omega
theorem cI_res (s : ByteArray) : ((resU s).2.2 = false ∧ resU s = (0, ⟨#[]⟩, false) ∧ cI.tk s.data.toList = none) ∨ ((resU s).2.2 = true ∧ cI.tk s.data.toList = some ((resU s).1, (resU s).2.1.data.toList)) := by
  rcases resU_cases s with ⟨h1, h2⟩ | ⟨n, r, h1, h2, _, _⟩
  · rw [h2]; exact .inl ⟨rfl, rfl, cI_tk1 h1⟩
  rw [h2]; exact .inr ⟨rfl, cI_tk2 h1⟩
end Go.Proofs.YtfkgdlfponfimaaGreat.X
/- Layer 13: noted. -/
set_option maxRecDepth 100000
namespace Go.Proofs.YtfkgdlfponfimaaGreat.X
open Go Go.RowKit WM
variable {ν : Nm} {H : Heap} {Q : AVal → Heap → Prop}
def ntS (s : ByteArray) : Int × ByteArray := (IntKind.i64.wrap (resU s).1, (resT ((resU s).2.1.size : Int) (resU s).2.1).1)
theorem noted_c {s : ByteArray} (hs : s.size ≤ 4611686018427387904) (hq : Q (.tup [.int .i64 (ntS s).1, .str (ntS s).2]) H) : CW cfg ν 38 [.str s] H Q := by
  have hr : (resU s).2.1.size ≤ 4611686018427387904 := Nat.le_trans (resU_size s) hs
  refine Be g38 F38 Z (Ac (Ab Z Z (Ab Z Z (Am (e' := [_,_,_,_,_,_,_,_,_,_,_,_,_,_,_,_,_,_,_,_,_,_,_,_,_,_,_]) Z (Ac (Aa Z Z (AB Z Z (takeU_c hs ?_) )))))))
  refine Aa Z Z (Ay (e' := [_,_,_,_,_,_,_,_,_,_,_,_,_,_,_,_,_,_,_,_,_,_,_,_,_,_,_]) Z (AK Z Z Z (AK Z Z Z (AK Z Z Z (Ay (e' := [_,_,_,_,_,_,_,_,_,_,_,_,_,_,_,_,_,_,_,_,_,_,_,_,_,_,_]) Z (Ab Z Z (Ab Z Z (Ab Z Z (Am (e' := [_,_,_,_,_,_,_,_,_,_,_,_,_,_,_,_,_,_,_,_,_,_,_,_,_,_,_]) Z (Ac (Aa Z Z (Aa Z Z (By Z Z Z (Ay (e' := [_,_,_,_,_,_,_,_,_,_,_,_,_,_,_,_,_,_,_,_,_,_,_,_,_,_,_]) Z (AB Z Z (takeT_c hr (by omega) ?_) )))))))))))))))
  refine Aa Z Z (AK Z Z Z (Ay (e' := [_,_,_,_,_,_,_,_,_,_,_,_,_,_,_,_,_,_,_,_,_,_,_,_,_,_,_]) Z (AK Z Z Z (AK Z Z Z (Ab Z Z (Ay (e' := [_,_,_,_,_,_,_,_,_,_,_,_,_,_,_,_,_,_,_,_,_,_,_,_,_,_,_]) Z (Ab Z Z (Ab Z Z (Am (e' := [_,_,_,_,_,_,_,_,_,_,_,_,_,_,_,_,_,_,_,_,_,_,_,_,_,_,_]) Z (Ac (Aa Z Z (Bc Z Z Z (Aa Z Z (Ay (e' := [_,_,_,_,_,_,_,_,_,_,_,_,_,_,_,_,_,_,_,_,_,_,_,_,_,_,_]) Z (Ab Z Z (Ab Z Z (Am (e' := [_,_,_,_,_,_,_,_,_,_,_,_,_,_,_,_,_,_,_,_,_,_,_,_,_,_,_]) Z (Ap (Ak (res2 Z (Ai Z) (Ai Z)) (frz2 (Q := Q) (Ae Z) (Ae Z) ?_))))))))))))))))))))
  exact hq
end Go.Proofs.YtfkgdlfponfimaaGreat.X
/- Layer 13: the reference's Copy. -/
set_option maxRecDepth 100000
namespace Go.Proofs.YtfkgdlfponfimaaGreat.X
open Go Go.RowKit WM
variable {ν β ps pos pos' : Nm} {H H1 : Heap} {Q : AVal → Heap → Prop} {L : List Asr} {k : Nat}
theorem copy_c {c : Ck} {v0 : AVal} (hf : X.freeze [] H 8 v0 = c.enc) (hS : Own β ps (X.lose (X.reach [] H 8 v0) H) L) (hle : le ps ν) (hβ : under β ν = true) (hp : before ν pos') (hm : c.sm)
    (hq : ∀ H1 V S1 T, Own β pos' H1 (stO V S1 T c :: L) → Q (.agg [V, S1, T]) H1) : CW cfg ν 10 [v0] H Q := by
  obtain ⟨hm1, hm2, hm3, hm4⟩ := hm
  have hR : X.reach [] H 9 (.tup [v0]) = X.reach [] H 8 v0 := by simp [X.reach]
  rw [← hR] at hS
  refine CW_give (args' := [c.enc]) g10 F10 rfl (AF (by assumption) Bw) ?_
  replace hS := Own.mono hS hle
  refine Ac ?_
  refine AR hS (AE (p := ν) (b := [0, 0])) (Af [0, 0] hβ) rfl rfl rfl ⟨rfl, rfl⟩ fun H1 hS1 => ?_
  replace hS1 : Own _ _ _ (_ :: L) := hS1
  refine AG hS1 le_refl (Af [1, 0] hβ) rfl rfl rfl rfl fun H2 hS2 => ?_
  replace hS2 : Own _ _ _ (_ :: _ :: L) := hS2
  refine EZ (c39 ..) rfl ?_
  refine XW_srF (qs := [0 :: 0 :: ν]) rfl rfl ?_
  have hSF1 : Own _ _ _ (_ :: _ :: L) := (Own.hide (Own.hide0 hS2) (k := 1) rfl)
  refine Bf rfl ?_
  refine Bq rfl rfl rfl ?_
  refine AL (Bf rfl (Al rfl rfl rfl (AL (OWF_fl rfl ?_))))
  refine BN hS2 (k := 1) rfl (by simp) rfl rfl rfl rfl (by rfl) ?_
  refine AL ?_
  refine BK (e' := [_,_,_,_,_,_,_,_,_,_,_,_,_,_,_,_,_,_,_,_,_,_,_,_,_,_,_,_,_,_,_,_,_,_,_,_,_,_,_]) rfl ?_
  refine Bf rfl ?_
  refine BG hSF1 (Ar (ν := ν) (a := [2, 0]) (b := [3, 0, 1]) (by decide)) (Af [3, 0, 1] hβ) rfl rfl rfl rfl rfl rfl rfl rfl (by rfl) (by exact BA (fun _ => rfl)) (by (simp only [ss]; omega)) (by decide) fun O1 H3 hS3 => ?_
  replace hS3 : Own _ _ _ (_ :: _ :: _ :: L) := hS3
  refine AL (Bf rfl ?_)
  refine Bq rfl rfl rfl ?_
  refine AL (Bf rfl (Al rfl rfl rfl (AL ?_)))
  refine BK (e' := [_,_,_,_,_,_,_,_,_,_,_,_,_,_,_,_,_,_,_,_,_,_,_,_,_,_,_,_,_,_,_,_,_,_,_,_,_,_,_]) rfl ?_
  refine OWF_fl rfl ?_
  refine BN hS2 (k := 1) rfl (by simp) rfl rfl rfl rfl (by rfl) ?_
  refine AL (Bf rfl ?_)
  refine BG hS3 (Ar (ν := ν) (a := [4, 0, 1]) (b := [7, 0, 1]) (by decide)) (Af [7, 0, 1] hβ) rfl rfl rfl rfl rfl rfl rfl rfl (by rfl) (by exact BA (fun _ => rfl)) (by (simp only [ss]; omega)) (by decide) fun O2 H4 hS4 => ?_
  replace hS4 : Own _ _ _ (_ :: _ :: _ :: _ :: L) := hS4
  refine AL (Bf rfl ?_)
  refine OW_bdP rfl (pcons rfl (hS4.one (k := 1) rfl).1 (pcons rfl (hS4.one (k := 0) rfl).1 rfl)) rfl rfl rfl (cs := [_, _, _]) (fill1 rfl (hS4.one (k := 1) rfl).2 rfl (Nat.le_of_ble_eq_true rfl) rfl (fill1 rfl (hS4.one (k := 0) rfl).2 rfl (Nat.le_of_ble_eq_true rfl) rfl rfl)) ?_
  refine AL ?_
  refine BK (e' := [_,_,_,_,_,_,_,_,_,_,_,_,_,_,_,_,_,_,_,_,_,_,_,_,_,_,_,_,_,_,_,_,_,_,_,_,_,_,_]) rfl ?_
  refine Bf rfl ?_
  refine AG hS4 (Ar (ν := ν) (a := [8, 0, 1]) (b := [9, 0, 1]) (by decide)) (Af [9, 0, 1] hβ) rfl rfl rfl rfl fun H5 hS5 => ?_
  replace hS5 : Own _ _ _ (_ :: _ :: _ :: _ :: _ :: L) := hS5
  refine AL (Bf rfl ?_)
  refine Av hS5 (k := 0) rfl le_refl rfl rfl rfl rfl ⟨rfl, rfl, Nat.le_of_ble_eq_true rfl⟩ (u2 := .agg [_, _, _]) rfl fun H6 hS6 => ?_
  replace hS6 : Own _ _ _ (_ :: _ :: _ :: _ :: _ :: L) := hS6
  refine AL ?_
  refine OWF_nilE (e' := [_,_,_,_,_,_,_,_,_,_,_,_,_,_,_,_,_,_,_,_,_,_,_,_,_,_,_,_,_,_,_,_,_,_,_,_,_,_,_]) rfl ?_
  have hSB1 : Own _ _ _ (_ :: _ :: _ :: _ :: _ :: L) := (Own.back hS2 (k := 1) rfl (Own.back0 hS6) (k' := 4) rfl)
  refine Aq (Ac (Ab rfl rfl ?_))
  refine EZ (c39 ..) rfl ?_
  refine AD ?_
  refine AV (I := fun ν' mm ee H' => ∃ (i : Nat) (V : AVal) (Us : (List AVal)), mm = c.vs.length - i ∧ under (1 :: 0 :: 1 :: 1 :: ν) ν' = true ∧ Own β ν' H' (row (9 :: 0 :: 1 :: ν) 3 [.agg [V, O1, O2]] :: sl V 5 (rowsOf Us (c.vs.take i)) :: lvA Us (c.vs.take i) :: sl O2 3 (c.qs.map Qu.enc) :: sl O1 3 (c.ss.map SE.Se.enc) :: row (1 :: 0 :: ν) 3 [.agg [.emp, .emp, .emp]] :: row (0 :: 0 :: ν) 3 [c.enc] :: L) ∧ (i ≤ c.vs.length ∧ Us.length = (c.vs.take i).length) ∧ ∃ g : Nat → AVal, ee = [g 0, .ptr (0 :: 0 :: ν) 0 0, .ptr (1 :: 0 :: ν) 0 0, .ptr (9 :: 0 :: 1 :: ν) 0 0, .int .i64 i, g 5, g 6, g 7, g 8, g 9, g 10, g 11, g 12, g 13, g 14, g 15, g 16, g 17, g 18, g 19, g 20, g 21, g 22, g 23, g 24, g 25, g 26, g 27, g 28, g 29, g 30, g 31, g 32, g 33, g 34, g 35, g 36, g 37, g 38]) ?_ _ _ _ _ ⟨0, .emp, [], rfl, AI, Own.cast (Own.mono (Own.rot (A := [_]) (Own.addE (Own.rot (A := [_]) (Own.lv_nil hSB1)))) (Ar (ν := ν) (a := [11, 0, 1]) (b := [1, 0, 1, 1]) (by decide))) (rfl), (⟨by omega, rfl⟩), AU rfl⟩
  rintro ν1 mm ee H7 ⟨i, V, Us, rfl, hU1, hS7, ⟨hi, hu⟩, g1, rfl⟩
  refine Aq (Ac (Aa rfl rfl (Al rfl rfl rfl ?_)))
  refine Ad hS7 (k := 6) rfl rfl rfl rfl rfl (by rfl) ?_
  refine Ay (e' := [_,_,_,_,_,_,_,_,_,_,_,_,_,_,_,_,_,_,_,_,_,_,_,_,_,_,_,_,_,_,_,_,_,_,_,_,_,_,_]) rfl ?_
  refine Bj rfl rfl (by exact Ls.of) rfl rfl rfl (by exact List.length_map _) ?_
  refine Ah rfl rfl rfl rfl rfl ?_
  refine EZ (c39 ..) rfl ?_
  refine AH rfl (fun h3 => ?_) (fun h3 => ?_)
  ·try simp only [bs] at h3
   refine At (Ag (Aq (AD (Ac (Al rfl rfl rfl ?_)))))
   refine Ad hS7 (k := 6) rfl rfl rfl rfl rfl (by rfl) ?_
   refine Aa rfl rfl ?_
   refine Ay (e' := [_,_,_,_,_,_,_,_,_,_,_,_,_,_,_,_,_,_,_,_,_,_,_,_,_,_,_,_,_,_,_,_,_,_,_,_,_,_,_]) rfl ?_
   refine Bb rfl rfl rfl Ls.of rfl rfl rfl (by rfl) (by exact Ba (by omega)) rfl ?_
   refine AS rfl rfl rfl (by exact Aj rfl rfl rfl) ?_
   refine AG hS7 (AE (p := ν1) (b := [5, 0, 0, 1, 0])) (Af [5, 0, 0, 1, 0] (Bk (Af [1, 0, 1, 1] hβ) hU1)) rfl rfl rfl rfl fun H8 hS8 => ?_
   replace hS8 : Own _ _ _ (_ :: _ :: _ :: _ :: _ :: _ :: _ :: _ :: L) := hS8
   refine Ay (e' := [_,_,_,_,_,_,_,_,_,_,_,_,_,_,_,_,_,_,_,_,_,_,_,_,_,_,_,_,_,_,_,_,_,_,_,_,_,_,_]) rfl ?_
   refine Av hS8 (k := 0) rfl le_refl rfl rfl rfl rfl ⟨rfl, rfl, Nat.le_of_ble_eq_true rfl⟩ (u2 := .agg [_, _, _, _, _]) rfl fun H9 hS9 => ?_
   replace hS9 : Own _ _ _ (_ :: _ :: _ :: _ :: _ :: _ :: _ :: _ :: L) := hS9
   refine EZ (c39 ..) rfl ?_
   refine Ac ?_
   have hll := hm4 c.vs[i] (List.getElem_mem (by omega))
   refine Bq rfl rfl rfl ?_
   refine Al rfl rfl rfl ?_
   refine Ad hS9 (k := 0) rfl rfl rfl rfl rfl (by rfl) ?_
   refine Ay (e' := [_,_,_,_,_,_,_,_,_,_,_,_,_,_,_,_,_,_,_,_,_,_,_,_,_,_,_,_,_,_,_,_,_,_,_,_,_,_,_]) rfl ?_
   refine BG hS9 (Ar (ν := ν1) (a := [7, 0, 0, 1, 0]) (b := [3, 0, 1, 0, 1, 0]) (by decide)) (Af [3, 0, 1, 0, 1, 0] (Bk (Af [1, 0, 1, 1] hβ) hU1)) rfl rfl rfl rfl rfl rfl rfl rfl (by rfl) (by exact BA (fun _ => rfl)) (by (simp only [ss]; omega)) (by decide) fun O3 H10 hS10 => ?_
   replace hS10 : Own _ _ _ (_ :: _ :: _ :: _ :: _ :: _ :: _ :: _ :: _ :: L) := hS10
   refine Al rfl rfl rfl ?_
   refine Bs hS10 (k := 1) rfl (Ar (ν := ν1) (a := [4, 0, 1, 0, 1, 0]) (b := [5, 0, 1, 0, 1, 0]) (by decide)) rfl rfl rfl (hS10.one (k := 0) rfl) rfl rfl (Nat.le_of_ble_eq_true rfl) (u2 := .agg [_, _, _, _, _]) rfl fun H11 hS11 => ?_
   replace hS11 : Own _ _ _ (_ :: _ :: _ :: _ :: _ :: _ :: _ :: _ :: _ :: L) := hS11
   refine EZ (c39 ..) rfl ?_
   refine AC ?_
   have hrl : (rowsOf Us (c.vs.take i)).length ≤ 1048577 := by have := rows_len Us (c.vs.take i); rw [List.length_take] at this; omega
   refine Al rfl rfl rfl ?_
   refine Ad hS11 (k := 2) rfl rfl rfl rfl rfl (by rfl) ?_
   refine Ad hS11 (k := 1) rfl rfl rfl rfl rfl (by exact Aj rfl rfl rfl) ?_
   refine Ay (e' := [_,_,_,_,_,_,_,_,_,_,_,_,_,_,_,_,_,_,_,_,_,_,_,_,_,_,_,_,_,_,_,_,_,_,_,_,_,_,_]) rfl ?_
   refine Bq rfl rfl (v := .lst [_]) rfl ?_
   refine Bz hS11 (k := 3) rfl (Ar (ν := ν1) (a := [6, 0, 1, 0, 1, 0]) (b := [4, 1, 1, 0, 1, 0]) (by decide)) (Af [4, 1, 1, 0, 1, 0] (Bk (Af [1, 0, 1, 1] hβ) hU1)) rfl rfl rfl rfl rfl rfl rfl rfl (by rfl) (by exact Br rfl) (by (simp only [ss]; omega)) (by decide) fun O4 H12 hS12 => ?_
   replace hS12 : Own _ _ _ (_ :: _ :: _ :: _ :: _ :: _ :: _ :: _ :: _ :: L) := hS12
   refine Al rfl rfl rfl ?_
   refine Ay (e' := [_,_,_,_,_,_,_,_,_,_,_,_,_,_,_,_,_,_,_,_,_,_,_,_,_,_,_,_,_,_,_,_,_,_,_,_,_,_,_]) rfl ?_
   refine Bs hS12 (k := 2) rfl (Ar (ν := ν1) (a := [5, 1, 1, 0, 1, 0]) (b := [6, 1, 1, 0, 1, 0]) (by decide)) rfl rfl rfl (hS12.one (k := 3) rfl) rfl rfl (Nat.le_of_ble_eq_true rfl) (u2 := .agg [_, _, _]) rfl fun H13 hS13 => ?_
   replace hS13 : Own _ _ _ (_ :: _ :: _ :: _ :: _ :: _ :: _ :: _ :: _ :: L) := hS13
   refine EZ (c39 ..) rfl ?_
   refine AJ (Ag (AC ?_))
   replace hS13 := Own.rot (A := [_, _]) (Own.lv_snoc (x := c.vs[i]) (Own.rot (A := [_]) (Own.pick (Own.drop hS13 (k := 1) rfl) (k := 3) rfl)) hu)
   refine Aa rfl rfl ?_
   refine Ah rfl rfl rfl rfl (AW (by omega)) ?_
   refine Ab rfl rfl ?_
   refine EZ (c39 ..) rfl ?_
   refine ⟨_, ?_, i + 1, O4, Us ++ [O3], rfl, AM hU1, Own.cast (Own.mono (hS13) (Ar (ν := ν1) (a := [7, 1, 1, 0, 1, 0]) (b := [1]) (by decide))) ((by rw [List.take_succ_eq_append_getElem (by omega), ← rows_snoc hu]; rfl)), ?_, AU rfl⟩
   · omega
   exact ⟨by omega, by rw [List.take_succ_eq_append_getElem (by omega), List.length_append, List.length_append, hu]; rfl⟩
  try simp only [bs] at h3
  refine AY (AQ (AN (Ag (Ac ?_))))
  refine Ad hS7 (k := 0) rfl rfl rfl rfl rfl (by exact Aj rfl rfl rfl) ?_
  refine Av hS7 (k := 5) rfl (Ax (Bg (a := []) hU1 (Au (ν := ν) (a := [1, 0, 1, 1]) (b := [1, 0, 1, 1, 1]) (by decide)))) rfl rfl rfl rfl ⟨rfl, rfl, Nat.le_of_ble_eq_true rfl⟩ (u2 := .agg [_, _, _]) rfl fun H14 hS14 => ?_
  replace hS14 : Own _ _ _ (_ :: _ :: _ :: _ :: _ :: _ :: _ :: L) := hS14
  refine EZ (c39 ..) rfl ?_
  refine Ap ?_
  refine Ak (res1 rfl (AP hS14 (k := 5) rfl rfl rfl rfl (by exact Aj rfl rfl rfl))) ?_
  have hie : c.vs.take i = c.vs := List.take_of_length_le (by omega)
  rw [hie] at hu
  have hz := Own.drop (Own.drop (Own.drop0 (Own.mono hS14 (Ax (Az (a := [2, 0, 1, 1, 1]) hp)))) (k := 4) rfl) (k := 4) rfl
  replace hz := Own.mk_vols (Us := Us) (vs := c.vs) (Own.cast hz (by rw [hie]; rfl)) hu
  replace hz : Own _ _ _ (stO V O1 O2 c :: L) := Own.mk_all (L1 := [vols V c.vs, sl O1 3 (c.ss.map SE.Se.enc), sl O2 3 (c.qs.map Qu.enc)]) (Own.rot (A := [_]) (Own.pick hz (k := 2) rfl))
  exact hq _ _ _ _ hz
end Go.Proofs.YtfkgdlfponfimaaGreat.X
/- Layer 12: Check of the reference, Text, Parse; the law QuotaTexts. -/
set_option maxRecDepth 100000
namespace Go.Proofs.YtfkgdlfponfimaaGreat.X
open Go Go.RowKit WM
variable {ν : Nm} {H : Heap} {Q : AVal → Heap → Prop}
def cQu : Cod Qu := (cI.pair (cI.pair cI)).iso (fun p => ⟨p.1, p.2.1, p.2.2⟩) (fun x => (x.tn, x.us, x.li)) (fun _ => rfl) (fun _ => rfl)
def textS (t : List Qu) : ByteArray := ba (encU t.length ++ (t.map cQu.enc).flatten)
def parS (s : ByteArray) : Option (List Qu) := match (cQu.list 16 (by decide)).all s.data.toList with
  | some l => if chkQ l then some l else none
  | none => none
def resP (s : ByteArray) : List Qu × Bool := match parS s with
  | some l => (l, true)
  | none => ([], false)
end Go.Proofs.YtfkgdlfponfimaaGreat.X
/- Quotas in own slices: Set, Take, of the program and of the document's answer (layers 13, 14). -/
set_option maxRecDepth 100000
namespace Go.Proofs.YtfkgdlfponfimaaGreat.X
open Go Go.RowKit WM
variable {ν β ps pos' : Nm} {H : Heap} {Q : AVal → Heap → Prop} {L : List Asr} {k : Nat} {O : AVal} {t : List Qu}
theorem pSetK (hS : Own β ps H L) (hL : L[k]? = some (sl O 3 (t.map Qu.enc))) (hle : le ps ν) (hβ : under β ν = true) (hp : before ν pos') (hn : t.length ≤ 4294967290) (tn li : Int)
    (hq : ∀ H1 v, Own β pos' H1 (sl v 3 ((setQ t tn li).1.map Qu.enc) :: L) → Q (.tup [v, .bool (setQ t tn li).2]) H1) : CW cfg ν 100 [O, .int .u64 tn, .int .u64 li] H Q := by
  have hc := atQ_cases tn t
  replace hS := hS.pick hL
  refine AX g100 F100 Z ?_
  replace hS := Own.mono hS hle
  refine Ac (Ab Z Z (Ab Z Z (EZ (c36 ..) Z (Ac (Aa Z Z (Aa Z Z (AB Z Z (c_findB (hS.freeze0 (k := 0) Z (Bx (fun _ => Z))) (by omega) _ ?_) )))))))
  refine EN (c36 ..) Z (Ab Z Z (EZ (c36 ..) Z (Aq (Ac ?_))))
  have hr : atQ tn t = -1 ∨ 0 ≤ atQ tn t ∧ atQ tn t < t.length := by rcases hc with ⟨h, _⟩ | ⟨i, hi, h, _⟩ <;> omega
  generalize atQ tn t = at0 at *
  refine Aa Z Z (Ah Z Z Z Z Z (Aa Z Z (EN (c36 ..) Z (AT (tt := 15) Z (fun g2_3 => ?_) (fun g2_3 => ?_)))))
  ·try simp only [bs] at g2_3
   refine Aa Z Z (BC hS (k := 0) Z Z Z Z Z Z (List.length_map _) (EN (c36 ..) Z (Ah Z Z Z Z Z (Aw Z Z Z (EZ (c36 ..) Z (AH Z (fun h2 => ?_) (fun h2 => ?_)))))))
   ·try simp only [bs] at h2
    refine Ac (Ab Z Z (Ab Z Z (EZ (c36 ..) Z (Ap (Ao (Ak (res2 Z (Ai Z) (Ai Z)) ?_))))))
    rcases hc with ⟨h, hg⟩ | ⟨i, hi, h, hg, _, hm⟩ <;> first | (exfalso; omega) | (simp only [setQ, hg, if_neg (show ¬ t.length < 16 by omega)] at hq; exact hq _ _ (Own.put2 (Own.addN (Own.mono hS (Ax hp))) hL))
   try simp only [bs] at h2
   refine At (Ag (Ac (Aa Z Z (AB Z Z (Qu.cloneO hS (k := 0) Z (AE (p := ν) (b := [1, 0, 1, 1, 1])) (Af [1, 0, 1, 1, 1] hβ) (Au (ν := ν) (a := [1, 0, 1, 1, 1]) (b := [2, 0, 1, 1, 1]) (by decide)) (by omega) fun O1 H1 hS1 => ?_) ))))
   replace hS1 : Own _ _ _ (_ :: _ :: L.eraseIdx k) := hS1
   refine Ab Z Z (EZ (c36 ..) Z (Aq (Ac (Aa Z Z (Ah Z Z Z Z Z (EZ (c36 ..) Z (AH Z (fun h5 => ?_) (fun h5 => ?_))))))))
   ·first
    |skip
     try simp only [bs] at h5
     refine Ac (Aa Z Z (Aa Z Z (Aa Z Z (EN (c36 ..) Z (BF Z Z (v := .agg [_, _, _]) Z (Bq Z Z (v := .lst [_]) Z (Bz hS1 (k := 0) Z (Ar (ν := ν) (a := [2, 0, 1, 1, 1]) (b := [5, 0, 1, 0, 1, 1, 1, 1]) (by decide)) (Af [5, 0, 1, 0, 1, 1, 1, 1] hβ) Z Z Z Z Z Z Z Z Z (Br Z) (by (simp only [ss]; omega)) (by decide) fun O2 H2 (hS2 : Own _ _ _ (_ :: _ :: L.eraseIdx k)) => EN (c36 ..) Z (Ab Z Z ?_))))))))
     replace hS2 := hS2.reS (k := 0) Z (map_snoc (a := (⟨tn, 0, li⟩ : Qu)))
     refine Ab Z Z (EZ (c36 ..) Z (Ap (Ao (Ak (res2 Z (Ai Z) (Ai Z)) ?_))))
     rcases hc with ⟨h, hg⟩ | ⟨i, hi, h, hg, _, hm⟩ <;> first | (exfalso; omega) | (simp only [setQ, hg, if_pos (show t.length < 16 by omega)] at hq; exact hq _ _ (Own.put2 (Own.mono hS2 (Ax (Az (a := [6, 0, 1, 0, 1, 1, 1, 1]) hp))) hL))
   (exfalso; (try simp only [bs] at h5) <;> (omega); done)
  try simp only [bs] at g2_3
  refine An Z (An Z (EN (c36 ..) Z (An Z (Aw Z Z Z (EZ (c36 ..) Z (Bd Z Z (At (Ag (Ac (Aa Z Z (AB Z Z (Qu.cloneO hS (k := 0) Z (AE (p := ν) (b := [1, 0, 1, 1, 1])) (Af [1, 0, 1, 1, 1] hβ) (Au (ν := ν) (a := [1, 0, 1, 1, 1]) (b := [2, 0, 1, 1, 1]) (by decide)) (by omega) fun O3 H4 hS4 => ?_) )))))))))))
  replace hS4 : Own _ _ _ (_ :: _ :: L.eraseIdx k) := hS4
  refine Ab Z Z (EZ (c36 ..) Z (Aq (Ac (Aa Z Z (Ah Z Z Z Z Z (EZ (c36 ..) Z (AH Z (fun h5 => ?_) (fun h5 => ?_))))))))
  ·(exfalso; (try simp only [bs] at h5) <;> (omega); done)
  first
  |skip
   try simp only [bs] at h5
   refine At (Ag (Ac (Aa Z Z (Aa Z Z (Aa Z Z (EN (c36 ..) Z (Bi hS4 (k := 0) Z Z Z Z Z Z Z Z ((Int.toNat_of_nonneg (by omega)).symm) (Ba (by omega)) fun q2 ys2 hO2 hq2 ht2 hy2 hu2 => ?_)))))))
   subst hO2
   refine Al Z Z Z (Bv hS4 (k := 0) Z (Ar (ν := ν) (a := [2, 0, 1, 1, 1]) (b := [5, 0, 1, 1, 1, 1, 1]) (by decide)) Z Z Z Z hu2 ⟨Z, Z, Nat.le_of_ble_eq_true Z⟩ (u2 := .agg [_, _, _]) Z fun H6 (hS6 : Own _ _ _ (_ :: _ :: L.eraseIdx k)) => EZ (c36 ..) Z (Ac ?_))
   replace hS6 := hS6.reS (k := 0) Z (set_enc (x := { t[at0.toNat] with li := li }) rfl)
   refine Aa Z Z (Ab Z Z (Ab Z Z (EZ (c36 ..) Z (Ap (Ak (res2 Z (Ai Z) (Ai Z)) ?_)))))
   rcases hc with ⟨h, hg⟩ | ⟨i, hi, h, hg, _, hm⟩ <;> first | (exfalso; omega) | (subst h; simp only [setQ, hg, hm, Int.toNat_natCast] at hq ⊢; exact hq _ _ (Own.put2 (Own.mono hS6 (Ax (Az (a := [6, 0, 1, 1, 1, 1, 1]) hp))) hL))
theorem pChangedK (hS : Own β ps H L) (hL : L[k]? = some (sl O 3 (t.map Qu.enc))) (hle : le ps ν) (hβ : under β ν = true) (hp : before ν pos') (hn : t.length ≤ 4294967290) (i us : Int) (h0 : 0 ≤ i) (hi : i.toNat < t.length)
    (hq : ∀ v H1, Own β pos' H1 (sl v 3 ((t.set i.toNat { t[i.toNat] with us := us }).map Qu.enc) :: L) → Q v H1) : CW cfg ν 120 [O, .int .i64 i, .int .u64 us] H Q := by
  replace hS := hS.pick hL
  refine AX g120 F120 Z ?_
  replace hS := Own.mono hS hle
  refine Ac (Ab Z Z (Am (e' := [_,_,_,_,_,_,_,_,_,_,_,_,_,_,_,_]) Z (Ac (Aa Z Z (AB Z Z (Qu.cloneO hS (k := 0) Z (AE (p := ν) (b := [1, 0, 1])) (Af [1, 0, 1] hβ) (Au (ν := ν) (a := [1, 0, 1]) (b := [2, 0, 1]) (by decide)) (by omega) fun O1 H1 hS1 => ?_) )))))
  replace hS1 : Own _ _ _ (_ :: _ :: L.eraseIdx k) := hS1
  refine Ab Z Z (Am (e' := [_,_,_,_,_,_,_,_,_,_,_,_,_,_,_,_]) Z (Ac (Aa Z Z (Aa Z Z (Aa Z Z (Ay (e' := [_,_,_,_,_,_,_,_,_,_,_,_,_,_,_,_]) Z (Bi hS1 (k := 0) Z Z Z Z Z Z Z Z ((Int.toNat_of_nonneg (by omega)).symm) (Ba (by assumption)) fun q1 ys1 hO1 hq1 ht1 hy1 hu1 => ?_)))))))
  subst hO1
  refine Al Z Z Z (Bv hS1 (k := 0) Z (Ar (ν := ν) (a := [2, 0, 1]) (b := [5, 0, 1, 1]) (by decide)) Z Z Z Z hu1 ⟨Z, Z, Nat.le_of_ble_eq_true Z⟩ (u2 := .agg [_, _, _]) Z fun H2 (hS2 : Own _ _ _ (_ :: _ :: L.eraseIdx k)) => Am (e' := [_,_,_,_,_,_,_,_,_,_,_,_,_,_,_,_]) Z (Ac ?_))
  replace hS2 := hS2.reS (k := 0) Z (set_enc (x := { t[i.toNat] with us := us }) rfl)
  refine Aa Z Z (Ab Z Z (Am (e' := [_,_,_,_,_,_,_,_,_,_,_,_,_,_,_,_]) Z (Ap (Ak (res1 Z (Ai Z)) ?_))))
  exact hq _ _ (Own.put2 (Own.mono hS2 (Ax (Az (a := [6, 0, 1, 1]) hp))) hL)
theorem pTakeK (hS : Own β ps H L) (hL : L[k]? = some (sl O 3 (t.map Qu.enc))) (hle : le ps ν) (hβ : under β ν = true) (hp : before ν pos') (hn : t.length ≤ 4294967290) (hfit : Fit t) (tn n : Int) (h0 : 0 ≤ n ∧ n ≤ 18446744073709551615)
    (hq : ∀ H1 v, Own β pos' H1 (sl v 3 ((takeQ t tn n).1.map Qu.enc) :: L) → Q (.tup [v, .int .i64 (takeQ t tn n).2]) H1) : CW cfg ν 102 [O, .int .u64 tn, .int .u64 n] H Q := by
  have hc := atQ_cases tn t
  replace hS := hS.pick hL
  refine AX g102 F102 Z ?_
  replace hS := Own.mono hS hle
  refine Ac (Ab Z Z (Ab Z Z (EZ (c43 ..) Z (Ac (Aa Z Z (Aa Z Z (AB Z Z (c_findB (hS.freeze0 (k := 0) Z (Bx (fun _ => Z))) (by omega) _ ?_) )))))))
  refine EN (c43 ..) Z (Ab Z Z (EZ (c43 ..) Z (Aq (Ac ?_))))
  have hr : atQ tn t = -1 ∨ 0 ≤ atQ tn t ∧ atQ tn t < t.length := by rcases hc with ⟨h, _⟩ | ⟨i, hi, h, _⟩ <;> omega
  generalize atQ tn t = at0 at *
  refine Aa Z Z (Ah Z Z Z Z Z (EZ (c43 ..) Z (AH Z (fun h2 => ?_) (fun h2 => ?_))))
  ·try simp only [bs] at h2
   refine Ac (Ab Z Z (Ab Z Z (EZ (c43 ..) Z (Ap (Ao (Ak (res2 Z (Ai Z) (Ai Z)) ?_))))))
   rcases hc with ⟨h, hg⟩ | ⟨i, hi, h, hg, _, hm⟩ <;> first | (exfalso; omega) | (simp only [takeQ, hg] at hq; exact hq _ _ (Own.put2 (Own.addN (Own.mono hS (Ax hp))) hL))
  try simp only [bs] at h2
  refine At (Ag (Aq (Ac ?_)))
  have hlt : at0.toNat < t.length := by omega
  obtain ⟨f1, f2, f3⟩ := hfit t[at0.toNat] (List.getElem_mem hlt)
  refine Aa Z Z (Aa Z Z (Bi hS (k := 0) Z Z Z Z Z Z Z Z ((Int.toNat_of_nonneg (by omega)).symm) (Ba (by assumption)) fun q1 ys1 hO1 hq1 ht1 hy1 hu1 => ?_))
  subst hO1
  refine EN (c43 ..) Z (Bo Z Z hq1 hy1 Z (Aj Z Z Z) (AG hS (AE (p := ν) (b := [4, 0, 0, 1, 1, 1])) (Af [4, 0, 0, 1, 1, 1] hβ) Z Z Z Z fun H1 (hS1 : Own _ _ _ (_ :: _ :: L.eraseIdx k)) => Av hS1 (k := 0) Z le_refl Z Z Z Z ⟨Z, Z, Nat.le_of_ble_eq_true Z⟩ (u2 := .agg [_, _, _]) Z fun H2 (hS2 : Own _ _ _ (_ :: _ :: L.eraseIdx k)) => EZ (c43 ..) Z (Ac (Al Z Z Z (Ad hS2 (k := 0) Z Z Z Z Z Z (Al Z Z Z (EN (c43 ..) Z (Ad hS2 (k := 0) Z Z Z Z Z Z (Ah Z Z Z Z Z (Aa Z Z (EN (c43 ..) Z (AT (tt := 24) Z (fun g5_6 => ?_) (fun g5_6 => ?_)))))))))))))
  ·try simp only [bs] at g5_6
   refine An Z (An Z (EN (c43 ..) Z (An Z (An Z (An Z (EN (c43 ..) Z (An Z (An Z (Aw Z Z Z (EZ (c43 ..) Z (AZ Z Z (Ac (Ab Z Z (Ab Z Z (EZ (c43 ..) Z (Ap (Ao (Ak (res2 Z (Ai Z) (Ai Z)) ?_))))))))))))))))))
   rcases hc with ⟨h, hg⟩ | ⟨i, hi, h, hg, _, hm⟩ <;> first | (exfalso; omega) | (subst h; simp only [Int.toNat_natCast] at *; rw [takeQ, hg] at hq; simp only at hq; (rw [if_neg (by omega)] at hq; exact hq _ _ (Own.put2 (Own.addN (Own.drop0 (Own.mono hS2 (Ax (Az (a := [6, 0, 0, 1, 1, 1]) hp))))) hL)))
  try simp only [bs] at g5_6
  refine Aa Z Z (Al Z Z Z (EN (c43 ..) Z (Ad hS2 (k := 0) Z Z Z Z Z Z (Al Z Z Z (Ad hS2 (k := 0) Z Z Z Z Z Z (EN (c43 ..) Z (Ah Z Z Z Z (sub_wu64 (by omega)) (Ah Z Z Z Z Z (Aw Z Z Z (EZ (c43 ..) Z (AH Z (fun h5 => ?_) (fun h5 => ?_))))))))))))
  ·try simp only [bs] at h5
   refine Ac (Ab Z Z (Ab Z Z (EZ (c43 ..) Z (Ap (Ao (Ak (res2 Z (Ai Z) (Ai Z)) ?_))))))
   rcases hc with ⟨h, hg⟩ | ⟨i, hi, h, hg, _, hm⟩ <;> first | (exfalso; omega) | (subst h; simp only [Int.toNat_natCast] at *; rw [takeQ, hg] at hq; simp only at hq; (rw [if_neg (by omega)] at hq; exact hq _ _ (Own.put2 (Own.addN (Own.drop0 (Own.mono hS2 (Ax (Az (a := [6, 0, 0, 1, 1, 1]) hp))))) hL)))
  try simp only [bs] at h5
  refine At (Ag (Ac (Aa Z Z (Aa Z Z (Aa Z Z (EN (c43 ..) Z (Aa Z Z (Bi hS2 (k := 1) Z Z Z Z Z Z Z Z ((Int.toNat_of_nonneg (by omega)).symm) (by assumption) fun q2 ys2 hO2 hq2 ht2 hy2 hu2 => ?_))))))))
  obtain rfl : q1 = q2 := (AVal.slc.inj hO2).1
  refine Al Z Z Z (EN (c43 ..) Z (Bo Z Z hq2 hy2 Z Z (Aa Z Z (Ah Z Z Z Z (add_wu64 (by omega)) (EN (c43 ..) Z (AB Z Z (pChangedK hS2 (k := 1) Z (Ar (ν := ν) (a := [6, 0, 0, 1, 1, 1]) (b := [9, 0, 1, 1, 1, 1]) (by decide)) (Af [9, 0, 1, 1, 1, 1] hβ) (Au (ν := ν) (a := [9, 0, 1, 1, 1, 1]) (b := [10, 0, 1, 1, 1, 1]) (by decide)) (by omega) _ _ (by omega) (by omega) fun O1 H3 hS3 => ?_) ))))))
  replace hS3 : Own _ _ _ (_ :: _ :: _ :: L.eraseIdx k) := hS3
  refine Ab Z Z (Ab Z Z (EZ (c43 ..) Z (Ap (Ak (res2 Z (Ai Z) (Ai Z)) ?_))))
  rcases hc with ⟨h, hg⟩ | ⟨i, hi, h, hg, _, hm⟩ <;> first | (exfalso; omega) | (subst h; simp only [Int.toNat_natCast] at *; rw [takeQ, hg] at hq; simp only at hq; (rw [if_pos (by omega), hm] at hq; exact hq _ _ (Own.put2 (Own.drop (Own.mono hS3 (Ax (Az (a := [10, 0, 1, 1, 1, 1]) hp))) (k := 1) Z) hL)))
theorem rSetK (hS : Own β ps H L) (hL : L[k]? = some (sl O 3 (t.map Qu.enc))) (hle : le ps ν) (hβ : under β ν = true) (hp : before ν pos') (hn : t.length ≤ 4294967290) (tn li : Int)
    (hq : ∀ H1 v, Own β pos' H1 (sl v 3 ((setQ t tn li).1.map Qu.enc) :: L) → Q (.tup [v, .bool (setQ t tn li).2]) H1) : CW cfg ν 58 [O, .int .u64 tn, .int .u64 li] H Q := by
  have hc := atQ_cases tn t
  replace hS := hS.pick hL
  refine AX g58 F58 Z ?_
  replace hS := Own.mono hS hle
  refine Ac (Ab Z Z (Ab Z Z (EZ (c34 ..) Z (Ac (Bq Z Z Z (Aa Z Z (BG hS (AE (p := ν) (b := [2, 0, 1])) (Af [2, 0, 1] hβ) Z Z Z Z Z Z Z Z (hS.elems (k := 0) Z) (BA (fun _ => Z)) (by (simp only [ss]; omega)) (by decide) fun O1 H1 (hS1 : Own _ _ _ (_ :: _ :: L.eraseIdx k)) => Ay (e' := [_,_,_,_,_,_,_,_,_,_,_,_,_,_,_,_,_,_,_,_,_,_,_,_,_,_,_,_,_,_,_,_,_,_]) Z (Ab Z Z (EZ (c34 ..) Z (Ac (Aa Z Z (Aa Z Z (AB Z Z (c_Find (hS1.freeze0 (k := 1) Z (Bx (fun _ => Z))) (by omega) _ ?_) )))))))))))))
  refine Ay (e' := [_,_,_,_,_,_,_,_,_,_,_,_,_,_,_,_,_,_,_,_,_,_,_,_,_,_,_,_,_,_,_,_,_,_]) Z (Ab Z Z (EZ (c34 ..) Z (Aq (Ac ?_))))
  have hr : atQ tn t = -1 ∨ 0 ≤ atQ tn t ∧ atQ tn t < t.length := by rcases hc with ⟨h, _⟩ | ⟨i, hi, h, _⟩ <;> omega
  generalize atQ tn t = at0 at *
  refine Aa Z Z (Ah Z Z Z Z Z (EZ (c34 ..) Z (AH Z (fun h3 => ?_) (fun h3 => ?_))))
  ·try simp only [bs] at h3
   refine Ac (Aa Z Z (Aa Z Z (Aa Z Z (Ay (e' := [_,_,_,_,_,_,_,_,_,_,_,_,_,_,_,_,_,_,_,_,_,_,_,_,_,_,_,_,_,_,_,_,_,_]) Z (Bi hS1 (k := 0) Z Z Z Z Z Z Z Z ((Int.toNat_of_nonneg (by omega)).symm) (Ba (by omega)) fun q1 ys1 hO1 hq1 ht1 hy1 hu1 => ?_)))))
   subst hO1
   refine Al Z Z Z (Bv hS1 (k := 0) Z (Ar (ν := ν) (a := [3, 0, 1]) (b := [5, 0, 1, 0, 1, 1, 1]) (by decide)) Z Z Z Z hu1 ⟨Z, Z, Nat.le_of_ble_eq_true Z⟩ (u2 := .agg [_, _, _]) Z fun H2 (hS2 : Own _ _ _ (_ :: _ :: L.eraseIdx k)) => EZ (c34 ..) Z (Ac ?_))
   replace hS2 := hS2.reS (k := 0) Z (set_enc (x := { t[at0.toNat] with li := li }) rfl)
   refine Aa Z Z (Ab Z Z (Ab Z Z (EZ (c34 ..) Z (Ap (Ao (Ak (res2 Z (Ai Z) (Ai Z)) ?_))))))
   rcases hc with ⟨h, hg⟩ | ⟨i, hi, h, hg, _, hm⟩ <;> first | (exfalso; omega) | (subst h; simp only [setQ, hg, hm, Int.toNat_natCast] at hq ⊢; exact hq _ _ (Own.put2 (Own.mono hS2 (Ax (Az (a := [6, 0, 1, 0, 1, 1, 1]) hp))) hL))
  try simp only [bs] at h3
  refine At (Ag (Aq (Ac (Aa Z Z (BC hS1 (k := 1) Z Z Z Z Z Z (List.length_map _) (Ah Z Z Z Z Z (EZ (c34 ..) Z (AH Z (fun h6 => ?_) (fun h6 => ?_)))))))))
  ·try simp only [bs] at h6
   refine Ac (Ab Z Z (Ab Z Z (EZ (c34 ..) Z (Ap (Ao (Ak (res2 Z (Ai Z) (Ai Z)) ?_))))))
   rcases hc with ⟨h, hg⟩ | ⟨i, hi, h, hg, _, hm⟩ <;> first | (exfalso; omega) | (simp only [setQ, hg, if_neg (show ¬ t.length < 16 by omega)] at hq; exact hq _ _ (Own.put2 (Own.addN (Own.drop0 (Own.mono hS1 (Ax (Az (a := [3, 0, 1]) hp))))) hL))
  try simp only [bs] at h6
  refine At (Ag (Ac (Aa Z Z (Aa Z Z (Aa Z Z (Ay (e' := [_,_,_,_,_,_,_,_,_,_,_,_,_,_,_,_,_,_,_,_,_,_,_,_,_,_,_,_,_,_,_,_,_,_]) Z (BF Z Z (v := .agg [_, _, _]) Z (Bq Z Z (v := .lst [_]) Z (Bz hS1 (k := 0) Z (Ar (ν := ν) (a := [3, 0, 1]) (b := [5, 0, 1, 1, 1, 1, 1]) (by decide)) (Af [5, 0, 1, 1, 1, 1, 1] hβ) Z Z Z Z Z Z Z Z Z (Br Z) (by (simp only [ss]; omega)) (by decide) fun O2 H3 (hS3 : Own _ _ _ (_ :: _ :: L.eraseIdx k)) => Ay (e' := [_,_,_,_,_,_,_,_,_,_,_,_,_,_,_,_,_,_,_,_,_,_,_,_,_,_,_,_,_,_,_,_,_,_]) Z (Ab Z Z (EZ (c34 ..) Z (Ac ?_))))))))))))
  replace hS3 := hS3.reS (k := 0) Z (map_snoc (a := (⟨tn, 0, li⟩ : Qu)))
  refine Aa Z Z (Ab Z Z (Ab Z Z (EZ (c34 ..) Z (Ap (Ak (res2 Z (Ai Z) (Ai Z)) ?_)))))
  rcases hc with ⟨h, hg⟩ | ⟨i, hi, h, hg, _, hm⟩ <;> first | (exfalso; omega) | (simp only [setQ, hg, if_pos (show t.length < 16 by omega)] at hq; exact hq _ _ (Own.put2 (Own.mono hS3 (Ax (Az (a := [6, 0, 1, 1, 1, 1, 1]) hp))) hL))
theorem rTakeK (hS : Own β ps H L) (hL : L[k]? = some (sl O 3 (t.map Qu.enc))) (hle : le ps ν) (hβ : under β ν = true) (hp : before ν pos') (hn : t.length ≤ 4294967290) (hfit : Fit t) (tn n : Int) (h0 : 0 ≤ n ∧ n ≤ 18446744073709551615)
    (hq : ∀ H1 v, Own β pos' H1 (sl v 3 ((takeQ t tn n).1.map Qu.enc) :: L) → Q (.tup [v, .int .i64 (takeQ t tn n).2]) H1) : CW cfg ν 105 [O, .int .u64 tn, .int .u64 n] H Q := by
  have hc := atQ_cases tn t
  replace hS := hS.pick hL
  refine AX g105 F105 Z ?_
  replace hS := Own.mono hS hle
  refine Ac (Ab Z Z (Ab Z Z (EZ (c44 ..) Z (Ac (Aa Z Z (Aa Z Z (AB Z Z (c_Find (hS.freeze0 (k := 0) Z (Bx (fun _ => Z))) (by omega) _ ?_) )))))))
  refine EN (c44 ..) Z (Ab Z Z (EZ (c44 ..) Z (Aq (Ac ?_))))
  have hr : atQ tn t = -1 ∨ 0 ≤ atQ tn t ∧ atQ tn t < t.length := by rcases hc with ⟨h, _⟩ | ⟨i, hi, h, _⟩ <;> omega
  generalize atQ tn t = at0 at *
  refine Aa Z Z (Ah Z Z Z Z Z (EZ (c44 ..) Z (AH Z (fun h2 => ?_) (fun h2 => ?_))))
  ·try simp only [bs] at h2
   refine Ac (Ab Z Z (Ab Z Z (EZ (c44 ..) Z (Ap (Ao (Ak (res2 Z (Ai Z) (Ai Z)) ?_))))))
   rcases hc with ⟨h, hg⟩ | ⟨i, hi, h, hg, _, hm⟩ <;> first | (exfalso; omega) | (simp only [takeQ, hg] at hq; exact hq _ _ (Own.put2 (Own.addN (Own.mono hS (Ax hp))) hL))
  try simp only [bs] at h2
  refine At (Ag (Ac ?_))
  have hlt : at0.toNat < t.length := by omega
  obtain ⟨f1, f2, f3⟩ := hfit t[at0.toNat] (List.getElem_mem hlt)
  refine Aa Z Z (Aa Z Z (Bi hS (k := 0) Z Z Z Z Z Z Z Z ((Int.toNat_of_nonneg (by omega)).symm) (Ba (by assumption)) fun q1 ys1 hO1 hq1 ht1 hy1 hu1 => ?_))
  subst hO1
  refine EN (c44 ..) Z (Al Z Z Z (Bo Z Z hq1 hy1 Z Z (Aa Z Z (EN (c44 ..) Z (Ah Z Z Z Z Z (Ab Z Z (EZ (c44 ..) Z (Aq (Ac ?_)))))))))
  have hw := wrapu_add f2 h0
  generalize IntKind.u64.wrap (t[at0.toNat].us + n) = sm at hw ⊢
  refine Aa Z Z (Aa Z Z (Ah Z Z Z Z Z (EN (c44 ..) Z (Aa Z Z (AT (tt := 26) Z (fun g5_4 => ?_) (fun g5_4 => ?_))))))
  ·try simp only [bs] at g5_4
   refine An Z (EN (c44 ..) Z (An Z (An Z (An Z (EN (c44 ..) Z (An Z (An Z (An Z (EN (c44 ..) Z (Aw Z Z Z (EZ (c44 ..) Z (AZ Z Z (Ac (Ab Z Z (Ab Z Z (EZ (c44 ..) Z (Ap (Ao (Ak (res2 Z (Ai Z) (Ai Z)) ?_)))))))))))))))))))
   rcases hc with ⟨h, hg⟩ | ⟨i, hi, h, hg, _, hm⟩ <;> first | (exfalso; omega) | (subst h; simp only [Int.toNat_natCast] at *; rw [takeQ, hg] at hq; simp only at hq; (rw [if_neg (by omega)] at hq; exact hq _ _ (Own.put2 (Own.addN (Own.mono hS (Ax hp))) hL)))
  try simp only [bs] at g5_4
  refine Aa Z Z (EN (c44 ..) Z (Aa Z Z (Aa Z Z (Bi hS (k := 0) Z Z Z Z Z Z Z Z ((Int.toNat_of_nonneg (by omega)).symm) (by assumption) fun q2 ys2 hO2 hq2 ht2 hy2 hu2 => ?_))))
  obtain rfl : q1 = q2 := (AVal.slc.inj hO2).1
  refine EN (c44 ..) Z (Al Z Z Z (Bo Z Z hq2 hy2 Z Z (Ah Z Z Z Z Z (EN (c44 ..) Z (Aw Z Z Z (EZ (c44 ..) Z (AH Z (fun h5 => ?_) (fun h5 => ?_))))))))
  ·try simp only [bs] at h5
   refine Ac (Ab Z Z (Ab Z Z (EZ (c44 ..) Z (Ap (Ao (Ak (res2 Z (Ai Z) (Ai Z)) ?_))))))
   rcases hc with ⟨h, hg⟩ | ⟨i, hi, h, hg, _, hm⟩ <;> first | (exfalso; omega) | (subst h; simp only [Int.toNat_natCast] at *; rw [takeQ, hg] at hq; simp only at hq; (rw [if_neg (by omega)] at hq; exact hq _ _ (Own.put2 (Own.addN (Own.mono hS (Ax hp))) hL)))
  try simp only [bs] at h5
  refine At (Ag (Ac (Bq Z Z Z (Aa Z Z (BG hS (AE (p := ν) (b := [2, 0, 1, 1, 1, 1, 1])) (Af [2, 0, 1, 1, 1, 1, 1] hβ) Z Z Z Z Z Z Z Z (hS.elems (k := 0) Z) (BA (fun _ => Z)) (by (simp only [ss]; omega)) (by decide) fun O1 H1 (hS1 : Own _ _ _ (_ :: _ :: L.eraseIdx k)) => EN (c44 ..) Z (Ab Z Z (EZ (c44 ..) Z (Ac (Aa Z Z (Aa Z Z (Aa Z Z (EN (c44 ..) Z (Bi hS1 (k := 0) Z Z Z Z Z Z Z Z ((Int.toNat_of_nonneg (by omega)).symm) (by assumption) fun q3 ys3 hO3 hq3 ht3 hy3 hu3 => ?_)))))))))))))
  subst hO3
  refine Al Z Z Z (Bv hS1 (k := 0) Z (Ar (ν := ν) (a := [3, 0, 1, 1, 1, 1, 1]) (b := [5, 0, 1, 1, 1, 1, 1, 1]) (by decide)) Z Z Z Z hu3 ⟨Z, Z, Nat.le_of_ble_eq_true Z⟩ (u2 := .agg [_, _, _]) Z fun H2 (hS2 : Own _ _ _ (_ :: _ :: L.eraseIdx k)) => EZ (c44 ..) Z (Ac ?_))
  replace hS2 := hS2.reS (k := 0) Z (set_enc (x := { t[at0.toNat] with us := sm }) rfl)
  refine Aa Z Z (Ab Z Z (Ab Z Z (EZ (c44 ..) Z (Ap (Ak (res2 Z (Ai Z) (Ai Z)) ?_)))))
  rcases hc with ⟨h, hg⟩ | ⟨i, hi, h, hg, _, hm⟩ <;> first | (exfalso; omega) | (subst h; simp only [Int.toNat_natCast] at *; rw [takeQ, hg] at hq; simp only at hq; (rw [if_pos (by omega), hm] at hq; have e : sm = t[i].us + n := (by omega); subst e; exact hq _ _ (Own.put2 (Own.mono hS2 (Ax (Az (a := [6, 0, 1, 1, 1, 1, 1, 1]) hp))) hL)))
end Go.Proofs.YtfkgdlfponfimaaGreat.X
/- Layer 13: quota.Give in own slices (Set and Take stand in CF1). -/
set_option maxRecDepth 100000
namespace Go.Proofs.YtfkgdlfponfimaaGreat.X
open Go Go.RowKit WM
variable {ν β ps pos' : Nm} {H : Heap} {Q : AVal → Heap → Prop} {L : List Asr} {k : Nat} {O : AVal} {t : List Qu}
theorem pGiveK (hS : Own β ps H L) (hL : L[k]? = some (sl O 3 (t.map Qu.enc))) (hle : le ps ν) (hβ : under β ν = true) (hp : before ν pos') (hn : t.length ≤ 4294967290) (hfit : Fit t) (tn n : Int) (h0 : 0 ≤ n ∧ n ≤ 18446744073709551615)
    (hq : ∀ H1 v, Own β pos' H1 (sl v 3 ((giveQ t tn n).1.map Qu.enc) :: L) → Q (.tup [v, .int .i64 (giveQ t tn n).2]) H1) : CW cfg ν 103 [O, .int .u64 tn, .int .u64 n] H Q := by
  have hc := atQ_cases tn t
  replace hS := hS.pick hL
  refine AX g103 F103 Z ?_
  replace hS := Own.mono hS hle
  refine Ac (Ab Z Z (Ab Z Z (Am (e' := [_,_,_,_,_,_,_,_,_,_,_,_,_,_,_,_,_,_,_,_,_,_,_,_,_,_,_,_,_,_]) Z (Ac (Aa Z Z (Aa Z Z (AB Z Z (c_findB (hS.freeze0 (k := 0) Z (Bx (fun _ => Z))) (by omega) _ ?_) )))))))
  refine Ay (e' := [_,_,_,_,_,_,_,_,_,_,_,_,_,_,_,_,_,_,_,_,_,_,_,_,_,_,_,_,_,_]) Z (Ab Z Z (Am (e' := [_,_,_,_,_,_,_,_,_,_,_,_,_,_,_,_,_,_,_,_,_,_,_,_,_,_,_,_,_,_]) Z (Aq (Ac ?_))))
  have hr : atQ tn t = -1 ∨ 0 ≤ atQ tn t ∧ atQ tn t < t.length := by rcases hc with ⟨h, _⟩ | ⟨i, hi, h, _⟩ <;> omega
  generalize atQ tn t = at0 at *
  refine Aa Z Z (Ah Z Z Z Z Z (Am (e' := [_,_,_,_,_,_,_,_,_,_,_,_,_,_,_,_,_,_,_,_,_,_,_,_,_,_,_,_,_,_]) Z (AH Z (fun h2 => ?_) (fun h2 => ?_))))
  ·try simp only [bs] at h2
   refine Ac (Ab Z Z (Ab Z Z (Am (e' := [_,_,_,_,_,_,_,_,_,_,_,_,_,_,_,_,_,_,_,_,_,_,_,_,_,_,_,_,_,_]) Z (Ap (Ao (Ak (res2 Z (Ai Z) (Ai Z)) ?_))))))
   rcases hc with ⟨h, hg⟩ | ⟨i, hi, h, hg, _, hm⟩ <;> first | (exfalso; omega) | (simp only [giveQ, hg] at hq; exact hq _ _ (Own.put2 (Own.addN (Own.mono hS (Ax hp))) hL))
  try simp only [bs] at h2
  refine At (Ag (Ac ?_))
  have hlt : at0.toNat < t.length := by omega
  obtain ⟨f1, f2, f3⟩ := hfit t[at0.toNat] (List.getElem_mem hlt)
  refine Aa Z Z (Aa Z Z (Aa Z Z (Ay (e' := [_,_,_,_,_,_,_,_,_,_,_,_,_,_,_,_,_,_,_,_,_,_,_,_,_,_,_,_,_,_]) Z (Aa Z Z (Bi hS (k := 0) Z Z Z Z Z Z Z Z ((Int.toNat_of_nonneg (by omega)).symm) (Ba (by assumption)) fun q1 ys1 hO1 hq1 ht1 hy1 hu1 => ?_)))))
  subst hO1
  refine Al Z Z Z (Ay (e' := [_,_,_,_,_,_,_,_,_,_,_,_,_,_,_,_,_,_,_,_,_,_,_,_,_,_,_,_,_,_]) Z (Bo Z Z hq1 hy1 Z Z (Aa Z Z (Aa Z Z (Ay (e' := [_,_,_,_,_,_,_,_,_,_,_,_,_,_,_,_,_,_,_,_,_,_,_,_,_,_,_,_,_,_]) Z (Aa Z Z (Bi hS (k := 0) Z Z Z Z Z Z Z Z ((Int.toNat_of_nonneg (by omega)).symm) (by assumption) fun q2 ys2 hO2 hq2 ht2 hy2 hu2 => ?_)))))))
  obtain rfl : q1 = q2 := (AVal.slc.inj hO2).1
  refine Al Z Z Z (Ay (e' := [_,_,_,_,_,_,_,_,_,_,_,_,_,_,_,_,_,_,_,_,_,_,_,_,_,_,_,_,_,_]) Z (Bo Z Z hq2 hy2 Z Z (BL Z Z mnu64 (Ah Z Z Z Z (sub_wu64 (by omega)) (Ay (e' := [_,_,_,_,_,_,_,_,_,_,_,_,_,_,_,_,_,_,_,_,_,_,_,_,_,_,_,_,_,_]) Z (AB Z Z (pChangedK hS (k := 0) Z (AE (p := ν) (b := [15, 0, 1, 1, 1])) (Af [15, 0, 1, 1, 1] hβ) (Au (ν := ν) (a := [15, 0, 1, 1, 1]) (b := [16, 0, 1, 1, 1]) (by decide)) (by omega) _ _ (by omega) (by omega) fun O1 H1 hS1 => ?_) ))))))
  replace hS1 : Own _ _ _ (_ :: _ :: L.eraseIdx k) := hS1
  refine Ab Z Z (Ab Z Z (Am (e' := [_,_,_,_,_,_,_,_,_,_,_,_,_,_,_,_,_,_,_,_,_,_,_,_,_,_,_,_,_,_]) Z (Ap (Ak (res2 Z (Ai Z) (Ai Z)) ?_))))
  rcases hc with ⟨h, hg⟩ | ⟨i, hi, h, hg, _, hm⟩ <;> first | (exfalso; omega) | (subst h; simp only [Int.toNat_natCast] at *; rw [giveQ, hg] at hq; simp only [hm] at hq; exact hq _ _ (Own.put2 (Own.mono hS1 (Ax (Az (a := [16, 0, 1, 1, 1]) hp))) hL))
end Go.Proofs.YtfkgdlfponfimaaGreat.X
/- Layer 13: slices.Repeat of an empty text. -/
set_option maxRecDepth 100000
namespace Go.Proofs.YtfkgdlfponfimaaGreat.X
open Go Go.RowKit WM
variable {ν β ps pos pos' : Nm} {H H1 : Heap} {Q : AVal → Heap → Prop} {L : List Asr} {k : Nat}
def few (n : Int) : Prop := n = 1 ∨ n = 2 ∨ n = 4 ∨ n = 8 ∨ n = 16
theorem mul_c {n : Int} (h : few n) (hq : Q (.tup [.int .u64 0, .int .u64 n]) H) : CW cfg ν 118 [.int .u64 1, .int .u64 n] H Q := by
  rcases h with rfl | rfl | rfl | rfl | rfl <;> exact ⟨40, _, _, by kernel_rfl, hq⟩
theorem copy_same {T : TT} {t t2 e : TypeId} {ti ei : TI} (ht : T t = some ti) (hk : ti.k = .slice e) (he : T e = some ei) {q : Nm} {off len N m : Nat} {x s : AVal} {f : List Nm} (hf : Sl H ei.size (List.replicate N x) (.slc q ei.size 0 N) f)
    (hs : elems H s = some (List.replicate m x)) (hx : x.cells.length = ei.size) (hlen : off + len ≤ N) (h0 : 0 < len) : aBuiltin T ν H .copy [t, t2] [.slc q ei.size off len, s] = some (.int .i64 (Nat.min m len), H) := by
  cases hf with
  | @row _ _ ys h1 h2 h3 =>
    have hyl : N ≤ ys.length := by
      have := congrArg List.length h3
      rw [List.length_take, List.length_replicate] at this; omega
    have hall : ((List.replicate m x).all fun v => v.cells.length == ei.size) = true := by simp [List.all_replicate, hx]
    have hk1 : Nat.min m len ≤ m := Nat.min_le_left _ _
    have hk2 : Nat.min m len ≤ len := Nat.min_le_right _ _
    simp only [aBuiltin, aCopy, ht, hk, he, hs, hall, if_true, if_pos (And.intro rfl h0), h1, if_pos (show off + len ≤ ys.length by omega), List.length_replicate]
    generalize Nat.min m len = z at hk1 hk2
    have e : ys.take off ++ (List.replicate m x).take z ++ ys.drop (off + z) = ys := by
      have e1 : (List.replicate m x).take z = (ys.drop off).take z := by
        rw [List.take_replicate, Nat.min_eq_left hk1]
        symm
        rw [List.eq_replicate_iff]
        refine ⟨by rw [List.length_take, List.length_drop]; omega, fun b hb => ?_⟩
        have hb1 : b ∈ ys.take N := by
          rw [List.take_drop] at hb
          have hb2 := List.mem_of_mem_drop hb
          rw [show ys.take (off + z) = (ys.take N).take (off + z) by rw [List.take_take, Nat.min_eq_left (by omega)]] at hb2
          exact List.mem_of_mem_take hb2
        rw [h3] at hb1
        exact (List.mem_replicate.1 hb1).2
      rw [e1, List.append_assoc, ← List.drop_drop, List.take_append_drop, List.take_append_drop]
    rw [e, if_pos ⟨trivial, h0⟩]
    congr 2
    funext p
    by_cases hp : p = q
    · subst hp; rw [put_same, h1]
    rw [put_ne hp]
theorem mul_e {a b n : Int} (h : few n) (ha : a = 1) (hb : b = n) (hq : Q (.tup [.int .u64 0, .int .u64 n]) H) : CW cfg ν 118 [.int .u64 a, .int .u64 b] H Q := by
  subst ha; subst hb; exact mul_c h hq
theorem elems_rep {w N j : Nat} {x : AVal} {p : Nm} {f : List Nm} (hf : Sl H w (List.replicate N x) (.slc p w 0 N) f) (hj : j ≤ N) : elems H (.slc p w (0 + 0) (j - 0)) = some (List.replicate j x) := by
  cases hf with
  | @row _ _ ys h1 h2 h3 =>
    have hyl : N ≤ ys.length := by
      have := congrArg List.length h3
      rw [List.length_take, List.length_replicate] at this; omega
    simp only [elems, h1, Nat.add_zero, Nat.sub_zero, List.drop_zero]
    rw [if_pos (by omega), show ys.take j = (ys.take N).take j by rw [List.take_take, Nat.min_eq_left hj], h3, List.take_replicate, Nat.min_eq_left hj]
theorem slcL {T : TT} {t e : TypeId} {ti ei : TI} (ht : T t = some ti) (hk : ti.k = .slice e) (he : T e = some ei) {p : Nm} {m j : Nat} (hj : j ≤ m) : aSlice T t (.slc p ei.size 0 m) (some (.int .i64 (j : Int))) none none = some (.slc p ei.size (0 + j) (m - j)) := by
  have h1 : (0 : Int) ≤ (j : Int) := by omega
  simp [aSlice, ht, hk, he, aBound, hj]
theorem slcH {T : TT} {t e : TypeId} {ti ei : TI} (ht : T t = some ti) (hk : ti.k = .slice e) (he : T e = some ei) {p : Nm} {m j : Nat} (hj : j ≤ m) : aSlice T t (.slc p ei.size 0 m) none (some (.int .i64 (j : Int))) none = some (.slc p ei.size (0 + 0) (j - 0)) := by
  simp [aSlice, ht, hk, he, aBound, hj]
theorem gtF {T : TT} {t : TypeId} {a b : Int} (h : a ≤ b) : aBin T .gtr t (.int .u64 a) (.int .u64 b) = some (.bool false) := by
  simp only [aBin, aIntB, aInt]; simp; omega
theorem repeat_c {n : Int} (h : few n) (hq : Q (.lst ((List.replicate n.toNat ⟨#[]⟩).map AVal.str)) H) : CW cfg ν 99 [.lst [.str ⟨#[]⟩], .int .i64 n] H Q := by
  have hn : 1 ≤ n ∧ n ≤ 16 := by unfold few at h; omega
  refine Be g99 F99 Z ?_
  have hS0 : Own ν ν (fun _ => none) [] := Own.nil
  refine Ac (Ab Z Z (EZ (c48 ..) Z (Aq (Ac (Aa Z Z (Ah Z Z Z Z Z (EZ (c48 ..) Z (AH Z (fun h1 => ?_) (fun h1 => ?_)))))))))
  · exfalso; (try simp only [bs] at h1) <;> (omega)
  try simp only [bs] at h1
  refine At (Ag (Ac (Aa Z Z (Bj Z Z Ls.of Z Z Z Z (Bc Z Z Z (EN (c48 ..) Z (Aa Z Z (Bc Z Z (Bm Z Z Z (IntWalk.u64_in _ (by omega))) (AB Z Z (mul_e h Z Z ?_) )))))))))
  refine EN (c48 ..) Z (Aa Z Z (AK Z Z Z (AK Z Z Z (EN (c48 ..) Z (Ab Z Z (Ab Z Z (EZ (c48 ..) Z (Aq (Ac (Aa Z Z (Ah Z Z Z Z (gtF (by omega)) (Aa Z Z (EN (c48 ..) Z (Aa Z Z (Ah Z Z Z Z (gtF (by omega)) (Aw Z Z Z (EZ (c48 ..) Z (Bd Z Z (At (Ag (Ac (Aa Z Z (Bc Z Z (Bm Z Z Z (IntWalk.i64_in _ (by omega))) (OW_msO hS0 (AE (p := ν) (b := [2, 0, 1, 1, 1, 1])) (Af [2, 0, 1, 1, 1, 1] AI) Z Z Z Z Z Z Z Z ((Int.toNat_of_nonneg (by omega)).symm) (by (dsimp only; omega)) fun O1 H1 (hS1 : Own _ _ _ ([_])) => EN (c48 ..) Z (Ab Z Z (EZ (c48 ..) Z (Ac ?_)))))))))))))))))))))))))))
  obtain ⟨q0, hq0⟩ := Own.slcOf hS1 (k := 0) Z (by rw [List.length_replicate]; omega)
  rw [List.length_replicate] at hq0; subst hq0
  obtain ⟨f0, hf0, _⟩ := hS1.get (k := 0) Z
  refine Aa Z Z (Aa Z Z (BL Z Z (copy_same (m := 1) T67 Z T9 hf0 Z Z (by omega) (by omega)) (EN (c48 ..) Z (Ab Z Z (EZ (c48 ..) Z (Aq (AD (AV (I := fun ν' mm ee H' => ∃ (j : Nat), mm = n.toNat - j ∧ under (0 :: 1 :: 1 :: 1 :: 1 :: 1 :: 1 :: ν) ν' = true ∧ Own ν ν' H' ([sl (.slc q0 1 0 n.toNat) 1 (List.replicate n.toNat (.str ⟨#[]⟩))]) ∧ (1 ≤ j ∧ j ≤ n.toNat) ∧ ∃ g : Nat → AVal, ee = [g 0, g 1, g 2, g 3, g 4, g 5, g 6, .slc q0 1 0 n.toNat, .int .i64 j, g 9, g 10, g 11, g 12, g 13, g 14, g 15, g 16, g 17, g 18, g 19, g 20, g 21, g 22, g 23, g 24, g 25, g 26, g 27, g 28, g 29, g 30, g 31, g 32, g 33, g 34, g 35, g 36, g 37, g 38, g 39, g 40, g 41, g 42, g 43, g 44, g 45, g 46, g 47]) ?_ _ _ _ _ ⟨Nat.min 1 n.toNat, Z, AI, Own.cast (Own.mono (hS1) (Ar (ν := ν) (a := [3, 0, 1, 1, 1, 1]) (b := [0, 1, 1, 1, 1, 1, 1]) (by decide))) (Z), (⟨(Nat.le_min.2 ⟨by omega, by omega⟩ : 1 ≤ min 1 n.toNat), Nat.min_le_right _ _⟩), AU Z⟩))))))))
  rintro ν1 mm ee H2 ⟨j, rfl, hU1, hS2, ⟨hj1, hj2⟩, g1, rfl⟩
  refine Aq (Ac (Aa Z Z (Aa Z Z (BC hS2 (k := 0) Z Z Z Z Z Z Z (EN (c48 ..) Z (Ah Z Z Z Z Z (EZ (c48 ..) Z (AH Z (fun h8 => ?_) (fun h8 => ?_)))))))))
  ·try simp only [bs] at h8
   refine At (Ag (AD (AC ?_)))
   rw [List.length_replicate] at h8
   obtain ⟨f1, hf1, _⟩ := hS2.get (k := 0) Z
   refine Aa Z Z (Aa Z Z (Aa Z Z (EN (c48 ..) Z (BM Z Z Z Z Z (slcL T67 Z T9 hj2) (Aa Z Z (Aa Z Z (EN (c48 ..) Z (BM Z Z Z Z Z (slcH T67 Z T9 hj2) (BL Z Z (copy_same (m := j) T67 Z T9 hf1 (elems_rep hf1 hj2) Z (by omega) (by omega)) ?_)))))))))
   have hmr : j.min (n.toNat - j) ≤ n.toNat - j := Nat.min_le_right _ _
   have hml : 1 ≤ j.min (n.toNat - j) := (Nat.le_min.2 ⟨by omega, by omega⟩ : 1 ≤ min j (n.toNat - j))
   refine Ah Z Z Z Z (AW (by omega)) (EN (c48 ..) Z (Ab Z Z (EZ (c48 ..) Z (AJ (⟨_, ?_, j + Nat.min j (n.toNat - j), Z, AM hU1, Own.cast (Own.mono (hS2) (AE (p := ν1) (b := [1]))) (Z), ?_, AU Z⟩)))))
   · omega
   exact ⟨by omega, by have := Nat.min_le_right j (n.toNat - j); omega⟩
  try simp only [bs] at h8
  refine AY (AQ (AN (Ag (Ac (Aa Z Z (Ab Z Z (EZ (c48 ..) Z (Ap ?_))))))))
  rw [show (List.replicate n.toNat (AVal.str ⟨#[]⟩)) = (List.replicate n.toNat (⟨#[]⟩ : ByteArray)).map AVal.str from (List.map_replicate).symm] at hS2
  refine Ak (res1 Z (Ai Z)) (frz1 (Q := Q) (hS2.frz (k := 0) Z (by exact Bx (fun _ => Z))) ?_)
  exact hq
end Go.Proofs.YtfkgdlfponfimaaGreat.X
/- The oracle: plain words for what it keeps, and its map-wise state. -/
set_option maxRecDepth 100000
namespace Go.Proofs.YtfkgdlfponfimaaGreat.X
open Go Go.RowKit
variable {ν β ps pos' : Nm} {H : Heap} {Q : AVal → Heap → Prop} {L : List Asr}
abbrev eU (n : Int) : AVal := .int .u64 n
abbrev eI (n : Int) : AVal := .int .i64 n
abbrev eS (s : ByteArray) : AVal := .str s
abbrev eTag (p : Int × ByteArray) : AVal := .agg [.int .u64 p.1, .str p.2]
abbrev eSeal (p : Int × Int × ByteArray × ByteArray) : AVal := .agg [.int .u64 p.1, .int .u64 p.2.1, .str p.2.2.1, .str p.2.2.2]
abbrev eTold (p : Int × Int × Int × ByteArray) : AVal := .agg [.int .u64 p.1, .int .u64 p.2.1, .int .u64 p.2.2.1, .str p.2.2.2]
theorem kU64 : KeyOk cfg.T 28 eU := ⟨fun a b => rfl, fun a => by simp [kSame, kSame1]⟩
theorem kTag : KeyOk cfg.T 164 eTag := by
  refine ⟨fun a b => ?_, fun a => by simp [kSame, kSames, kSame1]⟩
  have e : aEq cfg.T 4 164 (eTag a) (eTag b) = some (decide (a.1 = b.1) && (decide (a.2 = b.2) && true)) := rfl
  rw [e]
  obtain ⟨a1, a2⟩ := a; obtain ⟨b1, b2⟩ := b
  by_cases h1 : a1 = b1 <;> by_cases h2 : a2 = b2 <;> simp [h1, h2]
structure Orf where
  draws : List Int
  n : Nat
  bad : Bool
  iss : Int → Option Int
  met : Int → Option Int
  hs : ByteArray → Option Int
  tg : Int × ByteArray → Option Int
  se : Int × Int × ByteArray × ByteArray → Option Int
  op : Int × Int × Int × ByteArray → Option Int
  pl : List ByteArray
namespace Orf
structure ok (F : Orf) : Prop where
  iss : ∀ h, 0 ≤ (F.iss h).getD 0 ∧ (F.iss h).getD 0 ≤ F.n
  op : ∀ k, 0 ≤ (F.op k).getD 0 ∧ (F.op k).getD 0 ≤ F.pl.length
  pl : F.pl.length ≤ F.n
def next (F : Orf) : Int := match F.draws[F.n]? with
  | some h => h
  | none => 9223372036854775808 + (F.n : Int)
def isBad (F : Orf) (h : Int) : Bool := F.bad || (decide (h = 0) || decide ((F.iss h).getD 0 > 0) || decide ((F.met h).getD 0 > 0))
def fresh (F : Orf) : Orf := ⟨F.draws, F.n + 1, F.isBad F.next, fun x => if x = F.next then some ((F.iss F.next).getD 0 + 1) else F.iss x, F.met, F.hs, F.tg, F.se, F.op, F.pl⟩
def hash (F : Orf) (a : ByteArray) : Int × Orf := if (F.hs a).isSome then ((F.hs a).getD 0, F) else (F.next, { F.fresh with hs := fun x => if x = a then some F.next else F.fresh.hs x })
def mac (F : Orf) (k : Int) (a : ByteArray) : Int × Orf := if (F.tg (k, a)).isSome then ((F.tg (k, a)).getD 0, F) else (F.next, { F.fresh with tg := fun x => if x = (k, a) then some F.next else F.fresh.tg x })
def sealv (F : Orf) (k n : Int) (a b : ByteArray) : Int × Orf := if (F.se (k, n, a, b)).isSome then ((F.se (k, n, a, b)).getD 0, F) else (F.next, ⟨F.fresh.draws, F.fresh.n, F.fresh.bad, F.fresh.iss, F.fresh.met, F.fresh.hs, F.fresh.tg, (fun x => if x = (k, n, a, b) then some F.next else F.fresh.se x),
  (if (F.op (k, n, F.next, a)).getD 0 = 0 then (fun x => if x = (k, n, F.next, a) then some ((F.pl.length : Int) + 1) else F.op x) else F.op), F.pl ++ [b]⟩)
def meet (F : Orf) (h : Int) : Orf := if (F.iss h).getD 0 = 0 then ⟨F.draws, F.n, F.bad, F.iss, fun x => if x = h then some 1 else F.met x, F.hs, F.tg, F.se, F.op, F.pl⟩ else F
def verify (F : Orf) (k : Int) (a : ByteArray) (t : Int) : Bool × Orf := if (F.tg (k, a)).isSome ∧ (F.tg (k, a)).getD 0 = t then (true, F) else (false, F.meet t)
def opens (F : Orf) (k n : Int) (ad : ByteArray) (v : Int) : (ByteArray × Bool) × Orf := if (F.op (k, n, v, ad)).getD 0 > 0 then ((F.pl.getD (((F.op (k, n, v, ad)).getD 0).toNat - 1) ⟨#[]⟩, true), F) else ((⟨#[]⟩, false), F.meet v)
def new (d : List Int) : Orf := ⟨d, 0, false, fun _ => none, fun _ => none, fun _ => none, fun _ => none, fun _ => none, fun _ => none, []⟩
end Orf
def orc (q : Nm) (F : Orf) : Asr := Asr.ex fun v : AVal × AVal × Nm × Nm × Nm × Nm × Nm × Nm =>
  Asr.all [row q 10 [.agg [v.1, .int .i64 F.n, .bool F.bad, .map v.2.2.1, .map v.2.2.2.1, .map v.2.2.2.2.1, .map v.2.2.2.2.2.1, .map v.2.2.2.2.2.2.1, .map v.2.2.2.2.2.2.2, v.2.1]],
    sl v.1 1 (F.draws.map eU), sl v.2.1 1 (F.pl.map eS), mpF v.2.2.1 eU eI F.iss, mpF v.2.2.2.1 eU eI F.met, mpF v.2.2.2.2.1 eS eU F.hs, mpF v.2.2.2.2.2.1 eTag eU F.tg, mpF v.2.2.2.2.2.2.1 eSeal eU F.se, mpF v.2.2.2.2.2.2.2 eTold eI F.op]
theorem Own.un_orc {q : Nm} {F : Orf} (h : Own β ps H (orc q F :: L)) : ∃ D P m0 m1 m2 m3 m4 m5, Own β ps H (row q 10 [.agg [D, .int .i64 F.n, .bool F.bad, .map m0, .map m1, .map m2, .map m3, .map m4, .map m5, P]] :: sl D 1 (F.draws.map eU) :: sl P 1 (F.pl.map eS) :: mpF m0 eU eI F.iss :: mpF m1 eU eI F.met :: mpF m2 eS eU F.hs :: mpF m3 eTag eU F.tg :: mpF m4 eSeal eU F.se :: mpF m5 eTold eI F.op :: L) := by
  obtain ⟨⟨D, P, m0, m1, m2, m3, m4, m5⟩, h⟩ := h.un_ex
  exact ⟨D, P, m0, m1, m2, m3, m4, m5, h.un_all⟩
theorem Own.mk_orc {q : Nm} {D P : AVal} {m0 m1 m2 m3 m4 m5 : Nm} {n : Int} {m : Nat} {bad : Bool} {d : List Int} {pl : List ByteArray} {xs : List AVal} {f0 f1 : Int → Option Int} {f2 : ByteArray → Option Int} {f3 : Int × ByteArray → Option Int} {f4 : Int × Int × ByteArray × ByteArray → Option Int} {f5 : Int × Int × Int × ByteArray → Option Int}
    (h : Own β ps H (row q 10 [.agg [D, .int .i64 n, .bool bad, .map m0, .map m1, .map m2, .map m3, .map m4, .map m5, P]] :: sl D 1 (d.map eU) :: sl P 1 xs :: mpF m0 eU eI f0 :: mpF m1 eU eI f1 :: mpF m2 eS eU f2 :: mpF m3 eTag eU f3 :: mpF m4 eSeal eU f4 :: mpF m5 eTold eI f5 :: L)) (hm : n = (m : Int)) (hx : xs = pl.map eS := by first | rfl | assumption) :
    Own β ps H (orc q ⟨d, m, bad, f0, f1, f2, f3, f4, f5, pl⟩ :: L) := by
  subst hm
  subst hx
  exact Own.mk_ex (D, P, m0, m1, m2, m3, m4, m5) h.mk_all
end Go.Proofs.YtfkgdlfponfimaaGreat.X
