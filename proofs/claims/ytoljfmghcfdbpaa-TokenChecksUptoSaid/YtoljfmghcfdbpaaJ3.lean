/- What the program's oracle does: the rest. -/
import Derived.Test.YtoljfmghcfdbpaaJ2
set_option linter.unusedVariables false
set_option linter.unusedSimpArgs false
set_option maxRecDepth 100000
namespace Go.Proofs.Ytoljfmghcfdbpaa.X
open Go Go.RowKit
variable {ν β ps pos' : Nm} {H : Heap} {Q : AVal → Heap → Prop} {L : List Asr} {q : Nm} {F : Orf} {k : Nat}
theorem iFreshO {D P : AVal} {m0 m1 m2 m3 m4 m5 : Nm} (hS : Own β ps H (row q 10 [.agg [D, .int .i64 F.n, .bool F.bad, .map m0, .map m1, .map m2, .map m3, .map m4, .map m5, P]] :: sl D 1 (F.draws.map eU) :: sl P 1 (F.pl.map eS) :: mpF m0 eU eI F.iss :: mpF m1 eU eI F.met :: mpF m2 eS eU F.hs :: mpF m3 eTag eU F.tg :: mpF m4 eSeal eU F.se :: mpF m5 eTold eI F.op :: L)) (hle : le ps ν) (hβ : under β ν = true) (hp : before ν pos') (hok : F.ok) (hn : F.n ≤ 4294967000)
    (hq : ∀ H1 D P m0 m1 m2 m3 m4 m5, Own β pos' H1 (row q 10 [.agg [D, .int .i64 F.fresh.n, .bool F.fresh.bad, .map m0, .map m1, .map m2, .map m3, .map m4, .map m5, P]] :: sl D 1 (F.fresh.draws.map eU) :: sl P 1 (F.fresh.pl.map eS) :: mpF m0 eU eI F.fresh.iss :: mpF m1 eU eI F.fresh.met :: mpF m2 eS eU F.fresh.hs :: mpF m3 eTag eU F.fresh.tg :: mpF m4 eSeal eU F.fresh.se :: mpF m5 eTold eI F.fresh.op :: L) → Q (.int .u64 F.next) H1) : CW cfg ν 41 [.ptr q 0 0] H Q :=
  iFresh (L := orc q F :: L) (k := 0) (Own.mk_orc hS rfl) rfl hle hβ hp hok hn fun H1 h1 => by
    obtain ⟨D, P, m0, m1, m2, m3, m4, m5, h1⟩ := Own.un_orc h1
    exact hq _ _ _ _ _ _ _ _ _ h1
theorem iMeetO {D P : AVal} {m0 m1 m2 m3 m4 m5 : Nm} (hS : Own β ps H (row q 10 [.agg [D, .int .i64 F.n, .bool F.bad, .map m0, .map m1, .map m2, .map m3, .map m4, .map m5, P]] :: sl D 1 (F.draws.map eU) :: sl P 1 (F.pl.map eS) :: mpF m0 eU eI F.iss :: mpF m1 eU eI F.met :: mpF m2 eS eU F.hs :: mpF m3 eTag eU F.tg :: mpF m4 eSeal eU F.se :: mpF m5 eTold eI F.op :: L)) (hle : le ps ν) (hβ : under β ν = true) (hp : before ν pos') (h : Int)
    (hq : ∀ H1 D P m0 m1 m2 m3 m4 m5, Own β pos' H1 (row q 10 [.agg [D, .int .i64 (F.meet h).n, .bool (F.meet h).bad, .map m0, .map m1, .map m2, .map m3, .map m4, .map m5, P]] :: sl D 1 ((F.meet h).draws.map eU) :: sl P 1 ((F.meet h).pl.map eS) :: mpF m0 eU eI (F.meet h).iss :: mpF m1 eU eI (F.meet h).met :: mpF m2 eS eU (F.meet h).hs :: mpF m3 eTag eU (F.meet h).tg :: mpF m4 eSeal eU (F.meet h).se :: mpF m5 eTold eI (F.meet h).op :: L) → Q (.tup []) H1) : CW cfg ν 37 [.ptr q 0 0, .int .u64 h] H Q :=
  iMeet (L := orc q F :: L) (k := 0) (Own.mk_orc hS rfl) rfl hle hβ hp h fun H1 h1 => by
    obtain ⟨D, P, m0, m1, m2, m3, m4, m5, h1⟩ := Own.un_orc h1
    exact hq _ _ _ _ _ _ _ _ _ h1
theorem iFreshX {X : Asr} {D P : AVal} {m0 m1 m2 m3 m4 m5 : Nm} (hS : Own β ps H (X :: row q 10 [.agg [D, .int .i64 F.n, .bool F.bad, .map m0, .map m1, .map m2, .map m3, .map m4, .map m5, P]] :: sl D 1 (F.draws.map eU) :: sl P 1 (F.pl.map eS) :: mpF m0 eU eI F.iss :: mpF m1 eU eI F.met :: mpF m2 eS eU F.hs :: mpF m3 eTag eU F.tg :: mpF m4 eSeal eU F.se :: mpF m5 eTold eI F.op :: L)) (hle : le ps ν) (hβ : under β ν = true) (hp : before ν pos') (hok : F.ok) (hn : F.n ≤ 4294967000)
    (hq : ∀ H1 D P m0 m1 m2 m3 m4 m5, Own β pos' H1 (X :: row q 10 [.agg [D, .int .i64 F.fresh.n, .bool F.fresh.bad, .map m0, .map m1, .map m2, .map m3, .map m4, .map m5, P]] :: sl D 1 (F.fresh.draws.map eU) :: sl P 1 (F.fresh.pl.map eS) :: mpF m0 eU eI F.fresh.iss :: mpF m1 eU eI F.fresh.met :: mpF m2 eS eU F.fresh.hs :: mpF m3 eTag eU F.fresh.tg :: mpF m4 eSeal eU F.fresh.se :: mpF m5 eTold eI F.fresh.op :: L) → Q (.int .u64 F.next) H1) : CW cfg ν 41 [.ptr q 0 0] H Q :=
  iFreshO (L := X :: L) (Own.rot (A := [_, _, _, _, _, _, _, _, _]) hS) hle hβ hp hok hn fun H1 D P m0 m1 m2 m3 m4 m5 h1 => hq _ _ _ _ _ _ _ _ _ (Own.tor (A := [_, _, _, _, _, _, _, _, _]) h1)
theorem iMac (hS : Own β ps H L) (hL : L[k]? = some (orc q F)) (hle : le ps ν) (hβ : under β ν = true) (hp : before ν pos') (hok : F.ok) (hn : F.n ≤ 4294967000) (kk : Int) (a : ByteArray) (hq : ∀ H1, Own β pos' H1 (L.set k (orc q (F.mac kk a).2)) → Q (.int .u64 (F.mac kk a).1) H1) : CW cfg ν 36 [.ptr q 0 0, .int .u64 kk, .str a] H Q := by
  obtain ⟨D, P, m0, m1, m2, m3, m4, m5, hS⟩ := (hS.pick hL).un_orc
  refine CW_keep g36 F36 rfl ?_
  replace hS := Own.mono hS hle
  refine XW_sr ?_
  refine OW_as rfl rfl ?_
  refine OW_nilE (e' := [_, _, _, _, _, _, _, _, _, _, _, _, _, _, _, _, _, _, _, _, _, _, _, _, _, _, _, _, _, _, _, _, _]) rfl ?_
  refine XW_sr ?_
  refine OW_mv rfl rfl ?_
  refine OW_mv rfl rfl ?_
  refine OW_bd rfl rfl (v := .agg [_, _]) rfl ?_
  refine OW_env (e' := [_, _, _, _, _, _, _, _, _, _, _, _, _, _, _, _, _, _, _, _, _, _, _, _, _, _, _, _, _, _, _, _, _]) rfl ?_
  refine OW_allocR hS (le_app (p := ν) (b := [3, 0, 1])) (under_app [3, 0, 1] hβ) rfl rfl rfl rfl fun H1 hS1 => ?_
  replace hS1 : Own _ _ _ (_ :: _ :: _ :: _ :: _ :: _ :: _ :: _ :: _ :: _ :: L.eraseIdx k) := hS1
  first
  | refine OW_storeR hS1 (k := 0) rfl le_refl rfl rfl rfl rfl ⟨rfl, rfl, Nat.le_of_ble_eq_true rfl⟩ (set_whole rfl rfl) fun H2 hS2 => ?_
  | refine OW_storeR hS1 (k := 0) rfl le_refl rfl rfl rfl rfl ⟨rfl, rfl, Nat.le_of_ble_eq_true rfl⟩ (u2 := .agg [_, _]) rfl fun H2 hS2 => ?_
  replace hS2 : Own _ _ _ (_ :: _ :: _ :: _ :: _ :: _ :: _ :: _ :: _ :: _ :: L.eraseIdx k) := hS2
  refine OW_nilE (e' := [_, _, _, _, _, _, _, _, _, _, _, _, _, _, _, _, _, _, _, _, _, _, _, _, _, _, _, _, _, _, _, _, _]) rfl ?_
  refine XW_sr ?_
  refine OW_mv rfl rfl ?_
  first
  | refine OW_nc rfl rfl ?_
  | refine OW_nce rfl rfl ?_
  refine OW_fa rfl rfl rfl ?_
  refine OW_env (e' := [_, _, _, _, _, _, _, _, _, _, _, _, _, _, _, _, _, _, _, _, _, _, _, _, _, _, _, _, _, _, _, _, _]) rfl ?_
  refine OW_loadR hS2 (k := 1) rfl rfl rfl rfl rfl (by first | exact part_whole rfl rfl rfl | rfl) ?_
  refine OW_loadR hS2 (k := 0) rfl rfl rfl rfl rfl (by first | exact part_whole rfl rfl rfl | rfl) ?_
  refine OW_lookT hS2 (k := 7) rfl rfl rfl (kk, a) rfl rfl rfl rfl kTag (z0 := 0) rfl ?_
  refine OW_env (e' := [_, _, _, _, _, _, _, _, _, _, _, _, _, _, _, _, _, _, _, _, _, _, _, _, _, _, _, _, _, _, _, _, _]) rfl ?_
  refine OW_mv rfl rfl ?_
  refine OW_ex rfl rfl rfl ?_
  refine OW_ex rfl rfl rfl ?_
  refine OW_env (e' := [_, _, _, _, _, _, _, _, _, _, _, _, _, _, _, _, _, _, _, _, _, _, _, _, _, _, _, _, _, _, _, _, _]) rfl ?_
  refine OW_as rfl rfl ?_
  refine OW_as rfl rfl ?_
  refine OW_nilE (e' := [_, _, _, _, _, _, _, _, _, _, _, _, _, _, _, _, _, _, _, _, _, _, _, _, _, _, _, _, _, _, _, _, _]) rfl ?_
  refine XW_seq ?_
  refine XW_sr ?_
  refine OW_mv rfl rfl ?_
  refine OW_un rfl rfl rfl ?_
  refine OW_nilE (e' := [_, _, _, _, _, _, _, _, _, _, _, _, _, _, _, _, _, _, _, _, _, _, _, _, _, _, _, _, _, _, _, _, _]) rfl ?_
  refine XW_if rfl (fun h3 => ?_) (fun h3 => ?_)
  · try simp only [decide_eq_true_eq, decide_eq_false_iff_not, Bool.not_eq_true', Bool.not_eq_false', Bool.and_eq_true, Bool.or_eq_true, Bool.not_eq_true, Bool.not_eq_false, Decidable.not_not, bne_iff_ne, beq_iff_eq, List.length_append, List.length_cons, List.length_nil, List.length_drop, List.length_take] at h3
    refine XW_sr ?_
    refine OW_mv rfl rfl ?_
    refine OW_fn rfl rfl (iFreshX hS2 (le_lit (ν := ν) (a := [5, 0, 1]) (b := [1, 0, 1, 0, 1, 1, 1]) (by decide)) (under_app [1, 0, 1, 0, 1, 1, 1] hβ) (before_lit (ν := ν) (a := [1, 0, 1, 0, 1, 1, 1]) (b := [2, 0, 1, 0, 1, 1, 1]) (by decide)) hok hn fun H4 D1 P1 a1 a2 a3 a4 a5 a6 hS4 => ?_) 
    replace hS4 : Own _ _ _ (_ :: _ :: _ :: _ :: _ :: _ :: _ :: _ :: _ :: _ :: L.eraseIdx k) := hS4
    refine OW_as rfl rfl ?_
    refine OW_nilE (e' := [_, _, _, _, _, _, _, _, _, _, _, _, _, _, _, _, _, _, _, _, _, _, _, _, _, _, _, _, _, _, _, _, _]) rfl ?_
    refine XW_region ?_
    refine OW_mv rfl rfl ?_
    first
    | refine OW_nc rfl rfl ?_
    | refine OW_nce rfl rfl ?_
    refine OW_fa rfl rfl rfl ?_
    refine OW_env (e' := [_, _, _, _, _, _, _, _, _, _, _, _, _, _, _, _, _, _, _, _, _, _, _, _, _, _, _, _, _, _, _, _, _]) rfl ?_
    refine OW_loadR hS4 (k := 1) rfl rfl rfl rfl rfl (by first | exact part_whole rfl rfl rfl | rfl) ?_
    refine OW_loadR hS4 (k := 0) rfl rfl rfl rfl rfl (by first | exact part_whole rfl rfl rfl | rfl) ?_
    refine OW_mv rfl rfl ?_
    refine OW_env (e' := [_, _, _, _, _, _, _, _, _, _, _, _, _, _, _, _, _, _, _, _, _, _, _, _, _, _, _, _, _, _, _, _, _]) rfl ?_
    refine OW_setM hS4 (k := 7) rfl (le_lit (ν := ν) (a := [2, 0, 1, 0, 1, 1, 1]) (b := [6, 1, 1, 0, 1, 1, 1]) (by decide)) rfl rfl (kk, a) rfl rfl rfl rfl kTag fun H5 hS5 => ?_
    replace hS5 : Own _ _ _ (_ :: _ :: _ :: _ :: _ :: _ :: _ :: _ :: _ :: _ :: L.eraseIdx k) := hS5
    refine OW_nilE (e' := [_, _, _, _, _, _, _, _, _, _, _, _, _, _, _, _, _, _, _, _, _, _, _, _, _, _, _, _, _, _, _, _, _]) rfl ?_
    refine then_norm ?_
    refine XW_sr ?_
    refine OW_mv rfl rfl ?_
    refine OW_as rfl rfl ?_
    refine OW_nilE (e' := [_, _, _, _, _, _, _, _, _, _, _, _, _, _, _, _, _, _, _, _, _, _, _, _, _, _, _, _, _, _, _, _, _]) rfl ?_
    refine XW_ret ?_
    -- outcome 1
    refine ret_ret (res1 rfl (rv_tmp rfl)) ?_
    simp only [Orf.mac, h3] at hq; exact hq _ (Own.unpick (Own.re (Own.mk_orc (m := F.n + 1) (Own.drop0 (Own.mono hS5 (le_bef (bef_app (a := [7, 1, 1, 0, 1, 1, 1]) hp)))) rfl) rfl) hL)
  · try simp only [decide_eq_true_eq, decide_eq_false_iff_not, Bool.not_eq_true', Bool.not_eq_false', Bool.and_eq_true, Bool.or_eq_true, Bool.not_eq_true, Bool.not_eq_false, Decidable.not_not, bne_iff_ne, beq_iff_eq, List.length_append, List.length_cons, List.length_nil, List.length_drop, List.length_take] at h3
    refine XW_skip ?_
    refine then_norm ?_
    refine XW_sr ?_
    refine OW_mv rfl rfl ?_
    refine OW_as rfl rfl ?_
    refine OW_nilE (e' := [_, _, _, _, _, _, _, _, _, _, _, _, _, _, _, _, _, _, _, _, _, _, _, _, _, _, _, _, _, _, _, _, _]) rfl ?_
    refine XW_ret ?_
    -- outcome 2
    refine ret_ret (res1 rfl (rv_tmp rfl)) ?_
    simp only [Orf.mac, h3] at hq; exact hq _ (Own.unpick (Own.mk_orc (m := F.n) (Own.drop0 (Own.mono hS2 (le_bef (bef_app (a := [5, 0, 1]) hp)))) rfl) hL)
theorem iVerify (hS : Own β ps H L) (hL : L[k]? = some (orc q F)) (hle : le ps ν) (hβ : under β ν = true) (hp : before ν pos') (kk : Int) (a : ByteArray) (t : Int) (hq : ∀ H1, Own β pos' H1 (L.set k (orc q (F.verify kk a t).2)) → Q (.bool (F.verify kk a t).1) H1) : CW cfg ν 31 [.ptr q 0 0, .int .u64 kk, .str a, .int .u64 t] H Q := by
  obtain ⟨D, P, m0, m1, m2, m3, m4, m5, hS⟩ := (hS.pick hL).un_orc
  refine CW_keep g31 F31 rfl ?_
  replace hS := Own.mono hS hle
  refine XW_sr ?_
  refine OW_as rfl rfl ?_
  refine OW_nilE (e' := [_, _, _, _, _, _, _, _, _, _, _, _, _, _, _, _, _, _, _, _, _, _, _, _, _, _, _, _, _, _, _]) rfl ?_
  refine XW_sr ?_
  refine OW_mv rfl rfl ?_
  first
  | refine OW_nc rfl rfl ?_
  | refine OW_nce rfl rfl ?_
  refine OW_fa rfl rfl rfl ?_
  refine OW_env (e' := [_, _, _, _, _, _, _, _, _, _, _, _, _, _, _, _, _, _, _, _, _, _, _, _, _, _, _, _, _, _, _]) rfl ?_
  refine OW_loadR hS (k := 0) rfl rfl rfl rfl rfl (by first | exact part_whole rfl rfl rfl | rfl) ?_
  refine OW_mv rfl rfl ?_
  refine OW_mv rfl rfl ?_
  refine OW_env (e' := [_, _, _, _, _, _, _, _, _, _, _, _, _, _, _, _, _, _, _, _, _, _, _, _, _, _, _, _, _, _, _]) rfl ?_
  refine OW_bd rfl rfl (v := .agg [_, _]) rfl ?_
  refine OW_lookT hS (k := 6) rfl rfl rfl (kk, a) rfl rfl rfl rfl kTag (z0 := 0) rfl ?_
  refine OW_mv rfl rfl ?_
  refine OW_env (e' := [_, _, _, _, _, _, _, _, _, _, _, _, _, _, _, _, _, _, _, _, _, _, _, _, _, _, _, _, _, _, _]) rfl ?_
  refine OW_ex rfl rfl rfl ?_
  refine OW_ex rfl rfl rfl ?_
  refine OW_as rfl rfl ?_
  refine OW_env (e' := [_, _, _, _, _, _, _, _, _, _, _, _, _, _, _, _, _, _, _, _, _, _, _, _, _, _, _, _, _, _, _]) rfl ?_
  refine OW_as rfl rfl ?_
  refine OW_nilE (e' := [_, _, _, _, _, _, _, _, _, _, _, _, _, _, _, _, _, _, _, _, _, _, _, _, _, _, _, _, _, _, _]) rfl ?_
  refine XW_seq ?_
  refine XW_sr ?_
  refine OW_mv rfl rfl ?_
  refine OW_mv rfl rfl ?_
  refine OW_split (tt := 23) rfl (fun g2_2 => ?_) (fun g2_2 => ?_)
  · try simp only [decide_eq_true_eq, decide_eq_false_iff_not, Bool.not_eq_true', Bool.not_eq_false', Bool.and_eq_true, Bool.or_eq_true, Bool.not_eq_true, Bool.not_eq_false, Decidable.not_not, bne_iff_ne, beq_iff_eq, List.length_append, List.length_cons, List.length_nil, List.length_drop, List.length_take] at g2_2
    refine OW_env (e' := [_, _, _, _, _, _, _, _, _, _, _, _, _, _, _, _, _, _, _, _, _, _, _, _, _, _, _, _, _, _, _]) rfl ?_
    refine OW_mv rfl rfl ?_
    refine OW_mv rfl rfl ?_
    refine OW_bin rfl rfl rfl rfl rfl ?_
    refine OW_env (e' := [_, _, _, _, _, _, _, _, _, _, _, _, _, _, _, _, _, _, _, _, _, _, _, _, _, _, _, _, _, _, _]) rfl ?_
    refine OW_pick rfl rfl rfl ?_
    refine OW_nilE (e' := [_, _, _, _, _, _, _, _, _, _, _, _, _, _, _, _, _, _, _, _, _, _, _, _, _, _, _, _, _, _, _]) rfl ?_
    refine XW_if rfl (fun h2 => ?_) (fun h2 => ?_)
    · try simp only [decide_eq_true_eq, decide_eq_false_iff_not, Bool.not_eq_true', Bool.not_eq_false', Bool.and_eq_true, Bool.or_eq_true, Bool.not_eq_true, Bool.not_eq_false, Decidable.not_not, bne_iff_ne, beq_iff_eq, List.length_append, List.length_cons, List.length_nil, List.length_drop, List.length_take] at h2
      refine XW_sr ?_
      refine OW_as rfl rfl ?_
      refine OW_nilE (e' := [_, _, _, _, _, _, _, _, _, _, _, _, _, _, _, _, _, _, _, _, _, _, _, _, _, _, _, _, _, _, _]) rfl ?_
      refine XW_ret ?_
      refine then_ret ?_
      -- outcome 1
      refine ret_ret (res1 rfl (rv_tmp rfl)) ?_
      simp only [Orf.verify, g2_2, h2, and_self, if_true] at hq; exact hq _ (Own.unpick (Own.mk_orc (m := F.n) (Own.mono hS (le_bef hp)) rfl) hL)
    · try simp only [decide_eq_true_eq, decide_eq_false_iff_not, Bool.not_eq_true', Bool.not_eq_false', Bool.and_eq_true, Bool.or_eq_true, Bool.not_eq_true, Bool.not_eq_false, Decidable.not_not, bne_iff_ne, beq_iff_eq, List.length_append, List.length_cons, List.length_nil, List.length_drop, List.length_take] at h2
      refine XW_skip ?_
      refine then_norm ?_
      refine XW_sr ?_
      refine OW_mv rfl rfl ?_
      refine OW_mv rfl rfl ?_
      refine OW_fn rfl rfl (iMeetO hS (le_app (p := ν) (b := [2, 0, 1, 1, 1])) (under_app [2, 0, 1, 1, 1] hβ) (before_lit (ν := ν) (a := [2, 0, 1, 1, 1]) (b := [3, 0, 1, 1, 1]) (by decide)) _ fun H2 D1 P1 a1 a2 a3 a4 a5 a6 hS2 => ?_) 
      replace hS2 : Own _ _ _ (_ :: _ :: _ :: _ :: _ :: _ :: _ :: _ :: _ :: L.eraseIdx k) := hS2
      refine OW_nilE (e' := [_, _, _, _, _, _, _, _, _, _, _, _, _, _, _, _, _, _, _, _, _, _, _, _, _, _, _, _, _, _, _]) rfl ?_
      refine XW_sr ?_
      refine OW_as rfl rfl ?_
      refine OW_nilE (e' := [_, _, _, _, _, _, _, _, _, _, _, _, _, _, _, _, _, _, _, _, _, _, _, _, _, _, _, _, _, _, _]) rfl ?_
      refine XW_ret ?_
      -- outcome 2
      refine ret_ret (res1 rfl (rv_tmp rfl)) ?_
      simp only [Orf.verify, h2, and_false, if_false] at hq; exact hq _ (Own.unpick (Own.mk_orc (m := (F.meet t).n) (Own.mono hS2 (le_bef (bef_app (a := [3, 0, 1, 1, 1]) hp))) rfl) hL)
  · try simp only [decide_eq_true_eq, decide_eq_false_iff_not, Bool.not_eq_true', Bool.not_eq_false', Bool.and_eq_true, Bool.or_eq_true, Bool.not_eq_true, Bool.not_eq_false, Decidable.not_not, bne_iff_ne, beq_iff_eq, List.length_append, List.length_cons, List.length_nil, List.length_drop, List.length_take] at g2_2
    refine OW_env (e' := [_, _, _, _, _, _, _, _, _, _, _, _, _, _, _, _, _, _, _, _, _, _, _, _, _, _, _, _, _, _, _]) rfl ?_
    refine OW_no rfl ?_
    refine OW_no rfl ?_
    refine OW_no rfl ?_
    refine OW_env (e' := [_, _, _, _, _, _, _, _, _, _, _, _, _, _, _, _, _, _, _, _, _, _, _, _, _, _, _, _, _, _, _]) rfl ?_
    refine OW_pick rfl rfl rfl ?_
    refine OW_nilE (e' := [_, _, _, _, _, _, _, _, _, _, _, _, _, _, _, _, _, _, _, _, _, _, _, _, _, _, _, _, _, _, _]) rfl ?_
    refine XW_no rfl rfl ?_
    refine XW_skip ?_
    refine then_norm ?_
    refine XW_sr ?_
    refine OW_mv rfl rfl ?_
    refine OW_mv rfl rfl ?_
    refine OW_fn rfl rfl (iMeetO hS (le_app (p := ν) (b := [2, 0, 1, 1, 1])) (under_app [2, 0, 1, 1, 1] hβ) (before_lit (ν := ν) (a := [2, 0, 1, 1, 1]) (b := [3, 0, 1, 1, 1]) (by decide)) _ fun H3 D2 P2 a7 a8 a9 a10 a11 a12 hS3 => ?_) 
    replace hS3 : Own _ _ _ (_ :: _ :: _ :: _ :: _ :: _ :: _ :: _ :: _ :: L.eraseIdx k) := hS3
    refine OW_nilE (e' := [_, _, _, _, _, _, _, _, _, _, _, _, _, _, _, _, _, _, _, _, _, _, _, _, _, _, _, _, _, _, _]) rfl ?_
    refine XW_sr ?_
    refine OW_as rfl rfl ?_
    refine OW_nilE (e' := [_, _, _, _, _, _, _, _, _, _, _, _, _, _, _, _, _, _, _, _, _, _, _, _, _, _, _, _, _, _, _]) rfl ?_
    refine XW_ret ?_
    -- outcome 3
    refine ret_ret (res1 rfl (rv_tmp rfl)) ?_
    simp only [Orf.verify, g2_2, false_and, if_false] at hq; exact hq _ (Own.unpick (Own.mk_orc (m := (F.meet t).n) (Own.mono hS3 (le_bef (bef_app (a := [3, 0, 1, 1, 1]) hp))) rfl) hL)
theorem opAt {l : List ByteArray} {n : Int} (h : n > 0) (h2 : n.toNat - 1 < l.length) {p : (n - 1).toNat < l.length} : l[(n - 1).toNat] = l.getD (n.toNat - 1) ⟨#[]⟩ := by
  have e : (n - 1).toNat = n.toNat - 1 := by omega
  simp only [e, List.getD_eq_getElem?_getD, List.getElem?_eq_getElem h2, Option.getD_some]
end Go.Proofs.Ytoljfmghcfdbpaa.X
