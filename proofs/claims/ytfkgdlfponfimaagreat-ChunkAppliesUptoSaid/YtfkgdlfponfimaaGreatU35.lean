import Derived.Test.YtfkgdlfponfimaaGreatU34
import Derived.Test.YtfkgdlfponfimaaGreatU29
import Derived.Test.YtfkgdlfponfimaaGreatU27
/- What the program's oracle does. -/
set_option maxRecDepth 100000
namespace Go.Proofs.YtfkgdlfponfimaaGreat.X
open Go Go.RowKit
variable {ν β ps pos' : Nm} {H : Heap} {Q : AVal → Heap → Prop} {L : List Asr} {q : Nm} {F : Orf} {k : Nat}
theorem iFresh (hS : Own β ps H L) (hL : L[k]? = some (orc q F)) (hle : le ps ν) (hβ : under β ν = true) (hp : before ν pos') (hok : F.ok) (hn : F.n ≤ 4294967000)
    (hq : ∀ H1, Own β pos' H1 (L.set k (orc q F.fresh)) → Q (.int .u64 F.next) H1) : CW cfg ν 115 [.ptr q 0 0] H Q := by
  obtain ⟨D, P, m0, m1, m2, m3, m4, m5, hS⟩ := (hS.pick hL).un_orc
  obtain ⟨d, n, bad, f0, f1, f2, f3, f4, f5, pl⟩ := F
  dsimp only at hS hn
  have ho := hok.iss
  dsimp only at ho
  refine AX g115 F115 Z ?_
  replace hS := Own.mono hS hle
  refine Ac (Ab Z Z (EZ (c68 ..) Z (Ac (Aa Z Z (AO Z Z (Al Z Z Z (EN (c68 ..) Z (Ad hS (k := 0) Z Z Z Z Z Z (Bc Z Z (Bm Z Z Z (IntWalk.u64_in _ (by omega))) (Ah Z Z Z Z (add_wu64 (by omega)) (EN (c68 ..) Z (Ab Z Z (EZ (c68 ..) Z (XW_mid (M := fun ee H' => ∃ (h : Int) (D : AVal), Own β (1 :: 1 :: 1 :: ν) H' (row q 10 [.agg [D, .int .i64 n, .bool bad, .map m0, .map m1, .map m2, .map m3, .map m4, .map m5, P]] :: sl D 1 (d.map eU) :: sl P 1 (pl.map eS) :: mpF m0 eU eI f0 :: mpF m1 eU eI f1 :: mpF m2 eS eU f2 :: mpF m3 eTag eU f3 :: mpF m4 eSeal eU f4 :: mpF m5 eTold eI f5 :: L.eraseIdx k) ∧ (h = Orf.next ⟨d, n, bad, f0, f1, f2, f3, f4, f5, pl⟩) ∧ ∃ g : Nat → AVal, ee = [.ptr q 0 0, g 1, g 2, .int .u64 h, g 4, g 5, g 6, g 7, g 8, g 9, g 10, g 11, g 12, g 13, g 14, g 15, g 16, g 17, g 18, g 19, g 20, g 21, g 22, g 23, g 24, g 25, g 26, g 27, g 28, g 29, g 30, g 31, g 32, g 33, g 34, g 35, g 36, g 37, g 38, g 39, g 40, g 41, g 42, g 43, g 44, g 45, g 46, g 47, g 48, g 49, g 50, g 51, g 52, g 53, g 54, g 55, g 56, g 57, g 58, g 59, g 60, g 61, g 62, g 63, g 64, g 65, g 66, g 67]) ?_ ?_))))))))))))))
  ·skip
   refine Ac (Aa Z Z (AO Z Z (Al Z Z Z (EN (c68 ..) Z (Ad hS (k := 0) Z Z Z Z Z Z (Aa Z Z (AO Z Z (EN (c68 ..) Z (Al Z Z Z (Ad hS (k := 0) Z Z Z Z Z Z (BC hS (k := 1) Z Z Z Z Z Z (List.length_map _) (EN (c68 ..) Z (Ah Z Z Z Z Z (EZ (c68 ..) Z (AH Z (fun h2 => ?_) (fun h2 => ?_))))))))))))))))
   ·try simp only [bs] at h2
    refine AC (Aa Z Z (AO Z Z (Al Z Z Z (EN (c68 ..) Z (Ad hS (k := 0) Z Z Z Z Z Z (Aa Z Z (AO Z Z (EN (c68 ..) Z (Al Z Z Z (Ad hS (k := 0) Z Z Z Z Z Z (Bi hS (k := 1) Z Z Z Z Z Z Z Z Z (Ba (by omega)) fun q1 ys1 hO1 hq1 ht1 hy1 hu1 => ?_)))))))))))
    subst hO1
    refine EN (c68 ..) Z (Bo Z Z hq1 hy1 Z Z (Ab Z Z (EZ (c68 ..) Z (⟨_, _, Own.cast (Own.mono (hS) (AE (p := ν) (b := [1, 1, 1]))) (Z), ?_, AU Z⟩))))
    simp only [Orf.next]; rw [List.getElem?_eq_getElem (by omega)]
   try simp only [bs] at h2
   refine At (⟨_, _, Own.cast (Own.mono (hS) (AE (p := ν) (b := [1, 1, 1]))) (Z), ?_, AU Z⟩)
   simp only [Orf.next]; rw [List.getElem?_eq_none (by omega)]
  rintro ee H1 ⟨h, D, hS1, hh, g1, rfl⟩
  have hfr : (Orf.mk d n bad f0 f1 f2 f3 f4 f5 pl).fresh = ⟨d, n + 1, bad || (decide (h = 0) || decide ((f0 h).getD 0 > 0) || decide ((f1 h).getD 0 > 0)), fun x => if x = h then some ((f0 h).getD 0 + 1) else f0 x, f1, f2, f3, f4, f5, pl⟩ := by rw [hh]; rfl
  rw [← hh, hfr] at hq
  refine Ac (Aa Z Z (AO Z Z (Al Z Z Z (EN (c68 ..) Z (Ad hS1 (k := 0) Z Z Z Z Z Z (Ah Z Z Z Z (AW (by omega)) (AO Z Z (EN (c68 ..) Z (Al Z Z Z (Av hS1 (k := 0) Z (AE (p := 1 :: 1 :: 1 :: ν) (b := [7, 0])) Z Z Z Z ⟨Z, Z, Nat.le_of_ble_eq_true Z⟩ (u2 := .agg [_, _, _, _, _, _, _, _, _, _]) Z fun H2 (hS2 : Own _ _ _ (_ :: _ :: _ :: _ :: _ :: _ :: _ :: _ :: _ :: L.eraseIdx k)) => EZ (c68 ..) Z (Aq (Ac (Aa Z Z (Ah Z Z Z Z Z (Aa Z Z (EN (c68 ..) Z (AT (tt := 39) Z (fun g5_3 => ?_) (fun g5_3 => ?_))))))))))))))))))
  ·try simp only [bs] at g5_3
   refine An Z (An Z (EN (c68 ..) Z (An Z (An Z (An Z (EN (c68 ..) Z (An Z (An Z (Aw Z Z Z (EN (c68 ..) Z (Aa Z Z (An Z (An Z (EN (c68 ..) Z (An Z (An Z (An Z (EN (c68 ..) Z (An Z (An Z (Aw Z Z Z (EZ (c68 ..) Z (AZ Z Z (AC (Aa Z Z (AO Z Z (Al Z Z Z (EN (c68 ..) Z (Av hS2 (k := 0) Z (Ar (ν := ν) (a := [8, 0, 1, 1, 1]) (b := [3, 1, 0, 1, 1, 1, 1]) (by decide)) Z Z Z Z ⟨Z, Z, Nat.le_of_ble_eq_true Z⟩ (u2 := .agg [_, _, _, _, _, _, _, _, _, _]) Z fun H3 (hS3 : Own _ _ _ (_ :: _ :: _ :: _ :: _ :: _ :: _ :: _ :: _ :: L.eraseIdx k)) => EZ (c68 ..) Z (Ag (Ac (Aa Z Z (AO Z Z (Al Z Z Z (EN (c68 ..) Z (Ad hS3 (k := 0) Z Z Z Z Z Z (Aa Z Z (OW_lookV hS3 (k := 3) Z Z Z _ Z Z Z Z kU64 (z0 := 0) Z (EN (c68 ..) Z ?_)))))))))))))))))))))))))))))))))))))))
   have ho := ho h
   refine Ah Z Z Z Z (AW (by omega)) (OW_setM hS3 (k := 3) Z (Ar (ν := ν) (a := [4, 1, 0, 1, 1, 1, 1]) (b := [7, 0, 1, 1, 1, 1, 1]) (by decide)) Z Z _ Z Z Z Z kU64 fun H5 (hS5 : Own _ _ _ (_ :: _ :: _ :: _ :: _ :: _ :: _ :: _ :: _ :: L.eraseIdx k)) => EZ (c68 ..) Z (Ac (Aa Z Z (Ab Z Z (EZ (c68 ..) Z (Ap (Ak (res1 Z (Ai Z)) (hq _ (Own.unpick (Own.re (Own.mk_orc (m := n + 1) (Own.mono hS5 (Ax (Az (a := [8, 0, 1, 1, 1, 1, 1]) hp))) (by simp)) (by congr 2; clear hfr hq hh; (simp_all; done))) hL)))))))))
  try simp only [bs] at g5_3
  refine Aa Z Z (AO Z Z (EN (c68 ..) Z (Al Z Z Z (Ad hS2 (k := 0) Z Z Z Z Z Z (Aa Z Z (EN (c68 ..) Z (OW_lookV hS2 (k := 3) Z Z Z _ Z Z Z Z kU64 (z0 := 0) Z (Ah Z Z Z Z Z (Aw Z Z Z (EN (c68 ..) Z (Aa Z Z (AT (tt := 48) Z (fun g5_12 => ?_) (fun g5_12 => ?_)))))))))))))
  ·try simp only [bs] at g5_12
   refine An Z (EN (c68 ..) Z (An Z (An Z (An Z (EN (c68 ..) Z (An Z (An Z (An Z (EN (c68 ..) Z (Aw Z Z Z (EZ (c68 ..) Z (AZ Z Z (AC (Aa Z Z (AO Z Z (Al Z Z Z (EN (c68 ..) Z (Av hS2 (k := 0) Z (Ar (ν := ν) (a := [8, 0, 1, 1, 1]) (b := [3, 1, 0, 1, 1, 1, 1]) (by decide)) Z Z Z Z ⟨Z, Z, Nat.le_of_ble_eq_true Z⟩ (u2 := .agg [_, _, _, _, _, _, _, _, _, _]) Z fun H7 (hS7 : Own _ _ _ (_ :: _ :: _ :: _ :: _ :: _ :: _ :: _ :: _ :: L.eraseIdx k)) => EZ (c68 ..) Z (Ag (Ac (Aa Z Z (AO Z Z (Al Z Z Z (EN (c68 ..) Z (Ad hS7 (k := 0) Z Z Z Z Z Z (Aa Z Z (OW_lookV hS7 (k := 3) Z Z Z _ Z Z Z Z kU64 (z0 := 0) Z (EN (c68 ..) Z ?_))))))))))))))))))))))))))))
   have ho := ho h
   refine Ah Z Z Z Z (AW (by omega)) (OW_setM hS7 (k := 3) Z (Ar (ν := ν) (a := [4, 1, 0, 1, 1, 1, 1]) (b := [7, 0, 1, 1, 1, 1, 1]) (by decide)) Z Z _ Z Z Z Z kU64 fun H9 (hS9 : Own _ _ _ (_ :: _ :: _ :: _ :: _ :: _ :: _ :: _ :: _ :: L.eraseIdx k)) => EZ (c68 ..) Z (Ac (Aa Z Z (Ab Z Z (EZ (c68 ..) Z (Ap (Ak (res1 Z (Ai Z)) (hq _ (Own.unpick (Own.re (Own.mk_orc (m := n + 1) (Own.mono hS9 (Ax (Az (a := [8, 0, 1, 1, 1, 1, 1]) hp))) (by simp)) (by congr 2; clear hfr hq hh; (simp_all; done))) hL)))))))))
  try simp only [bs] at g5_12
  refine Aa Z Z (EN (c68 ..) Z (AO Z Z (Al Z Z Z (Ad hS2 (k := 0) Z Z Z Z Z Z (EN (c68 ..) Z (Aa Z Z (OW_lookV hS2 (k := 4) Z Z Z _ Z Z Z Z kU64 (z0 := 0) Z (Ah Z Z Z Z Z (EN (c68 ..) Z (Aw Z Z Z (EZ (c68 ..) Z (AH Z (fun h5 => ?_) (fun h5 => ?_)))))))))))))
  ·try simp only [bs] at h5
   refine AC (Aa Z Z (AO Z Z (Al Z Z Z (EN (c68 ..) Z (Av hS2 (k := 0) Z (Ar (ν := ν) (a := [8, 0, 1, 1, 1]) (b := [3, 1, 0, 1, 1, 1, 1]) (by decide)) Z Z Z Z ⟨Z, Z, Nat.le_of_ble_eq_true Z⟩ (u2 := .agg [_, _, _, _, _, _, _, _, _, _]) Z fun H11 (hS11 : Own _ _ _ (_ :: _ :: _ :: _ :: _ :: _ :: _ :: _ :: _ :: L.eraseIdx k)) => EZ (c68 ..) Z (Ag (Ac (Aa Z Z (AO Z Z (Al Z Z Z (EN (c68 ..) Z (Ad hS11 (k := 0) Z Z Z Z Z Z (Aa Z Z (OW_lookV hS11 (k := 3) Z Z Z _ Z Z Z Z kU64 (z0 := 0) Z (EN (c68 ..) Z ?_)))))))))))))))
   have ho := ho h
   refine Ah Z Z Z Z (AW (by omega)) (OW_setM hS11 (k := 3) Z (Ar (ν := ν) (a := [4, 1, 0, 1, 1, 1, 1]) (b := [7, 0, 1, 1, 1, 1, 1]) (by decide)) Z Z _ Z Z Z Z kU64 fun H13 (hS13 : Own _ _ _ (_ :: _ :: _ :: _ :: _ :: _ :: _ :: _ :: _ :: L.eraseIdx k)) => EZ (c68 ..) Z (Ac (Aa Z Z (Ab Z Z (EZ (c68 ..) Z (Ap (Ak (res1 Z (Ai Z)) (hq _ (Own.unpick (Own.re (Own.mk_orc (m := n + 1) (Own.mono hS13 (Ax (Az (a := [8, 0, 1, 1, 1, 1, 1]) hp))) (by simp)) (by congr 2; clear hfr hq hh; (simp_all; done))) hL)))))))))
  try simp only [bs] at h5
  refine At (Ag (Ac (Aa Z Z (AO Z Z (Al Z Z Z (EN (c68 ..) Z (Ad hS2 (k := 0) Z Z Z Z Z Z (Aa Z Z (OW_lookV hS2 (k := 3) Z Z Z _ Z Z Z Z kU64 (z0 := 0) Z (EN (c68 ..) Z ?_))))))))))
  have ho := ho h
  refine Ah Z Z Z Z (AW (by omega)) (OW_setM hS2 (k := 3) Z (Ar (ν := ν) (a := [8, 0, 1, 1, 1]) (b := [7, 0, 1, 1, 1, 1, 1]) (by decide)) Z Z _ Z Z Z Z kU64 fun H15 (hS15 : Own _ _ _ (_ :: _ :: _ :: _ :: _ :: _ :: _ :: _ :: _ :: L.eraseIdx k)) => EZ (c68 ..) Z (Ac (Aa Z Z (Ab Z Z (EZ (c68 ..) Z (Ap (Ak (res1 Z (Ai Z)) (hq _ (Own.unpick (Own.re (Own.mk_orc (m := n + 1) (Own.mono hS15 (Ax (Az (a := [8, 0, 1, 1, 1, 1, 1]) hp))) (by simp)) (by congr 2; clear hfr hq hh; (simp_all; intro hx; omega))) hL)))))))))
theorem iMeet (hS : Own β ps H L) (hL : L[k]? = some (orc q F)) (hle : le ps ν) (hβ : under β ν = true) (hp : before ν pos') (h : Int) (hq : ∀ H1, Own β pos' H1 (L.set k (orc q (F.meet h))) → Q (.tup []) H1) : CW cfg ν 134 [.ptr q 0 0, .int .u64 h] H Q := by
  obtain ⟨D, P, m0, m1, m2, m3, m4, m5, hS⟩ := (hS.pick hL).un_orc
  obtain ⟨d, n, bad, f0, f1, f2, f3, f4, f5, pl⟩ := F
  dsimp only at hS
  refine AX g134 F134 Z ?_
  replace hS := Own.mono hS hle
  refine Ac (Aa Z Z (AO Z Z (Al Z Z Z (Ay (e' := [_,_,_,_,_,_,_,_,_,_,_,_,_,_,_,_]) Z (Ad hS (k := 0) Z Z Z Z Z Z (Aa Z Z (OW_lookV hS (k := 3) Z Z Z _ Z Z Z Z kU64 (z0 := 0) Z (Ay (e' := [_,_,_,_,_,_,_,_,_,_,_,_,_,_,_,_]) Z (Ah Z Z Z Z Z (Am (e' := [_,_,_,_,_,_,_,_,_,_,_,_,_,_,_,_]) Z (AH Z (fun h0 => ?_) (fun h0 => ?_))))))))))))
  ·try simp only [bs] at h0
   refine AC (Aa Z Z (AO Z Z (Al Z Z Z (Ay (e' := [_,_,_,_,_,_,_,_,_,_,_,_,_,_,_,_]) Z (Ad hS (k := 0) Z Z Z Z Z Z (Aa Z Z (OW_setM hS (k := 4) Z (AE (p := ν) (b := [5, 1])) Z Z _ Z Z Z Z kU64 fun H2 (hS2 : Own _ _ _ (_ :: _ :: _ :: _ :: _ :: _ :: _ :: _ :: _ :: L.eraseIdx k)) => Am (e' := [_,_,_,_,_,_,_,_,_,_,_,_,_,_,_,_]) Z (ret_norm ((res0 Z)) (hq _ (Own.unpick (Own.re (Own.mk_orc (m := n) (Own.mono hS2 (Ax (Az (a := [6, 1]) hp))) Z) (by simp [Orf.meet, h0])) hL))))))))))
  try simp only [bs] at h0
  refine At (ret_norm ((res0 Z)) (hq _ (Own.unpick (Own.re (Own.mk_orc (m := n) (Own.mono hS (Ax hp)) Z) (by simp [Orf.meet, h0])) hL)))
theorem iBad (hS : Own β ps H L) (hL : L[k]? = some (orc q F)) (hle : le ps ν) (hβ : under β ν = true) (hp : before ν pos') (hq : ∀ H1, Own β pos' H1 L → Q (.bool F.bad) H1) : CW cfg ν 15 [.ptr q 0 0] H Q := by
  obtain ⟨D, P, m0, m1, m2, m3, m4, m5, hS⟩ := (hS.pick hL).un_orc
  obtain ⟨d, n, bad, f0, f1, f2, f3, f4, f5, pl⟩ := F
  dsimp only at hS
  refine AX g15 F15 Z ?_
  replace hS := Own.mono hS hle
  refine Ac (Ab Z Z (Am (e' := [_,_,_,_,_,_,_]) Z (Ac (Aa Z Z (AO Z Z (Al Z Z Z (Ay (e' := [_,_,_,_,_,_,_]) Z (Ad hS (k := 0) Z Z Z Z Z Z (Ab Z Z (Am (e' := [_,_,_,_,_,_,_]) Z (Ap (Ak (res1 Z (Ai Z)) ?_))))))))))))
  exact hq _ (Own.cast (Own.unpick (Own.mk_orc (m := n) (Own.mono hS (Ax hp)) rfl) hL) (Bn hL))
end Go.Proofs.YtfkgdlfponfimaaGreat.X
/- What the program's oracle does: the rest. -/
set_option maxRecDepth 100000
namespace Go.Proofs.YtfkgdlfponfimaaGreat.X
open Go Go.RowKit
variable {ν β ps pos' : Nm} {H : Heap} {Q : AVal → Heap → Prop} {L : List Asr} {q : Nm} {F : Orf} {k : Nat}
theorem iFreshO {D P : AVal} {m0 m1 m2 m3 m4 m5 : Nm} (hS : Own β ps H (row q 10 [.agg [D, .int .i64 F.n, .bool F.bad, .map m0, .map m1, .map m2, .map m3, .map m4, .map m5, P]] :: sl D 1 (F.draws.map eU) :: sl P 1 (F.pl.map eS) :: mpF m0 eU eI F.iss :: mpF m1 eU eI F.met :: mpF m2 eS eU F.hs :: mpF m3 eTag eU F.tg :: mpF m4 eSeal eU F.se :: mpF m5 eTold eI F.op :: L)) (hle : le ps ν) (hβ : under β ν = true) (hp : before ν pos') (hok : F.ok) (hn : F.n ≤ 4294967000)
    (hq : ∀ H1 D P m0 m1 m2 m3 m4 m5, Own β pos' H1 (row q 10 [.agg [D, .int .i64 F.fresh.n, .bool F.fresh.bad, .map m0, .map m1, .map m2, .map m3, .map m4, .map m5, P]] :: sl D 1 (F.fresh.draws.map eU) :: sl P 1 (F.fresh.pl.map eS) :: mpF m0 eU eI F.fresh.iss :: mpF m1 eU eI F.fresh.met :: mpF m2 eS eU F.fresh.hs :: mpF m3 eTag eU F.fresh.tg :: mpF m4 eSeal eU F.fresh.se :: mpF m5 eTold eI F.fresh.op :: L) → Q (.int .u64 F.next) H1) : CW cfg ν 115 [.ptr q 0 0] H Q :=
  iFresh (L := orc q F :: L) (k := 0) (Own.mk_orc hS rfl) rfl hle hβ hp hok hn fun H1 h1 => by
    obtain ⟨D, P, m0, m1, m2, m3, m4, m5, h1⟩ := Own.un_orc h1
    exact hq _ _ _ _ _ _ _ _ _ h1
theorem iMeetO {D P : AVal} {m0 m1 m2 m3 m4 m5 : Nm} (hS : Own β ps H (row q 10 [.agg [D, .int .i64 F.n, .bool F.bad, .map m0, .map m1, .map m2, .map m3, .map m4, .map m5, P]] :: sl D 1 (F.draws.map eU) :: sl P 1 (F.pl.map eS) :: mpF m0 eU eI F.iss :: mpF m1 eU eI F.met :: mpF m2 eS eU F.hs :: mpF m3 eTag eU F.tg :: mpF m4 eSeal eU F.se :: mpF m5 eTold eI F.op :: L)) (hle : le ps ν) (hβ : under β ν = true) (hp : before ν pos') (h : Int)
    (hq : ∀ H1 D P m0 m1 m2 m3 m4 m5, Own β pos' H1 (row q 10 [.agg [D, .int .i64 (F.meet h).n, .bool (F.meet h).bad, .map m0, .map m1, .map m2, .map m3, .map m4, .map m5, P]] :: sl D 1 ((F.meet h).draws.map eU) :: sl P 1 ((F.meet h).pl.map eS) :: mpF m0 eU eI (F.meet h).iss :: mpF m1 eU eI (F.meet h).met :: mpF m2 eS eU (F.meet h).hs :: mpF m3 eTag eU (F.meet h).tg :: mpF m4 eSeal eU (F.meet h).se :: mpF m5 eTold eI (F.meet h).op :: L) → Q (.tup []) H1) : CW cfg ν 134 [.ptr q 0 0, .int .u64 h] H Q :=
  iMeet (L := orc q F :: L) (k := 0) (Own.mk_orc hS rfl) rfl hle hβ hp h fun H1 h1 => by
    obtain ⟨D, P, m0, m1, m2, m3, m4, m5, h1⟩ := Own.un_orc h1
    exact hq _ _ _ _ _ _ _ _ _ h1
theorem iFreshX {X : Asr} {D P : AVal} {m0 m1 m2 m3 m4 m5 : Nm} (hS : Own β ps H (X :: row q 10 [.agg [D, .int .i64 F.n, .bool F.bad, .map m0, .map m1, .map m2, .map m3, .map m4, .map m5, P]] :: sl D 1 (F.draws.map eU) :: sl P 1 (F.pl.map eS) :: mpF m0 eU eI F.iss :: mpF m1 eU eI F.met :: mpF m2 eS eU F.hs :: mpF m3 eTag eU F.tg :: mpF m4 eSeal eU F.se :: mpF m5 eTold eI F.op :: L)) (hle : le ps ν) (hβ : under β ν = true) (hp : before ν pos') (hok : F.ok) (hn : F.n ≤ 4294967000)
    (hq : ∀ H1 D P m0 m1 m2 m3 m4 m5, Own β pos' H1 (X :: row q 10 [.agg [D, .int .i64 F.fresh.n, .bool F.fresh.bad, .map m0, .map m1, .map m2, .map m3, .map m4, .map m5, P]] :: sl D 1 (F.fresh.draws.map eU) :: sl P 1 (F.fresh.pl.map eS) :: mpF m0 eU eI F.fresh.iss :: mpF m1 eU eI F.fresh.met :: mpF m2 eS eU F.fresh.hs :: mpF m3 eTag eU F.fresh.tg :: mpF m4 eSeal eU F.fresh.se :: mpF m5 eTold eI F.fresh.op :: L) → Q (.int .u64 F.next) H1) : CW cfg ν 115 [.ptr q 0 0] H Q :=
  iFreshO (L := X :: L) (Own.rot (A := [_, _, _, _, _, _, _, _, _]) hS) hle hβ hp hok hn fun H1 D P m0 m1 m2 m3 m4 m5 h1 => hq _ _ _ _ _ _ _ _ _ (Own.tor (A := [_, _, _, _, _, _, _, _, _]) h1)
theorem iMac (hS : Own β ps H L) (hL : L[k]? = some (orc q F)) (hle : le ps ν) (hβ : under β ν = true) (hp : before ν pos') (hok : F.ok) (hn : F.n ≤ 4294967000) (kk : Int) (a : ByteArray) (hq : ∀ H1, Own β pos' H1 (L.set k (orc q (F.mac kk a).2)) → Q (.int .u64 (F.mac kk a).1) H1) : CW cfg ν 85 [.ptr q 0 0, .int .u64 kk, .str a] H Q := by
  obtain ⟨D, P, m0, m1, m2, m3, m4, m5, hS⟩ := (hS.pick hL).un_orc
  refine AX g85 F85 Z ?_
  replace hS := Own.mono hS hle
  refine Ac (Ab Z Z (EZ (c33 ..) Z (Ac (Aa Z Z (Aa Z Z (BF Z Z (v := .agg [_, _]) Z (Ay (e' := [_,_,_,_,_,_,_,_,_,_,_,_,_,_,_,_,_,_,_,_,_,_,_,_,_,_,_,_,_,_,_,_,_]) Z (AG hS (AE (p := ν) (b := [3, 0, 1])) (Af [3, 0, 1] hβ) Z Z Z Z fun H1 (hS1 : Own _ _ _ (_ :: _ :: _ :: _ :: _ :: _ :: _ :: _ :: _ :: _ :: L.eraseIdx k)) => Av hS1 (k := 0) Z le_refl Z Z Z Z ⟨Z, Z, Nat.le_of_ble_eq_true Z⟩ (u2 := .agg [_, _]) Z fun H2 (hS2 : Own _ _ _ (_ :: _ :: _ :: _ :: _ :: _ :: _ :: _ :: _ :: _ :: L.eraseIdx k)) => EZ (c33 ..) Z (Ac (Aa Z Z (AO Z Z (Al Z Z Z (Ay (e' := [_,_,_,_,_,_,_,_,_,_,_,_,_,_,_,_,_,_,_,_,_,_,_,_,_,_,_,_,_,_,_,_,_]) Z (Ad hS2 (k := 1) Z Z Z Z Z Z (Ad hS2 (k := 0) Z Z Z Z Z (Aj Z Z Z) (OW_lookT hS2 (k := 7) Z Z Z (kk, a) Z Z Z Z kTag (z0 := 0) Z (Ay (e' := [_,_,_,_,_,_,_,_,_,_,_,_,_,_,_,_,_,_,_,_,_,_,_,_,_,_,_,_,_,_,_,_,_]) Z (Aa Z Z (AK Z Z Z (AK Z Z Z (Ay (e' := [_,_,_,_,_,_,_,_,_,_,_,_,_,_,_,_,_,_,_,_,_,_,_,_,_,_,_,_,_,_,_,_,_]) Z ?_)))))))))))))))))))))
  refine Ab Z Z (Ab Z Z (EZ (c33 ..) Z (Aq (Ac (Aa Z Z (BE Z Z Z (EZ (c33 ..) Z (AH Z (fun h3 => ?_) (fun h3 => ?_)))))))))
  ·try simp only [bs] at h3
   refine Ac (Aa Z Z (AB Z Z (iFreshX hS2 (Ar (ν := ν) (a := [5, 0, 1]) (b := [1, 0, 1, 0, 1, 1, 1]) (by decide)) (Af [1, 0, 1, 0, 1, 1, 1] hβ) (Au (ν := ν) (a := [1, 0, 1, 0, 1, 1, 1]) (b := [2, 0, 1, 0, 1, 1, 1]) (by decide)) hok hn fun H4 D1 P1 a1 a2 a3 a4 a5 a6 hS4 => ?_) ))
   replace hS4 : Own _ _ _ (_ :: _ :: _ :: _ :: _ :: _ :: _ :: _ :: _ :: _ :: L.eraseIdx k) := hS4
   refine Ab Z Z (EZ (c33 ..) Z (AC (Aa Z Z (AO Z Z (Al Z Z Z (Ay (e' := [_,_,_,_,_,_,_,_,_,_,_,_,_,_,_,_,_,_,_,_,_,_,_,_,_,_,_,_,_,_,_,_,_]) Z (Ad hS4 (k := 1) Z Z Z Z Z Z (Ad hS4 (k := 0) Z Z Z Z Z (Aj Z Z Z) (Aa Z Z (Ay (e' := [_,_,_,_,_,_,_,_,_,_,_,_,_,_,_,_,_,_,_,_,_,_,_,_,_,_,_,_,_,_,_,_,_]) Z (OW_setM hS4 (k := 7) Z (Ar (ν := ν) (a := [2, 0, 1, 0, 1, 1, 1]) (b := [6, 1, 1, 0, 1, 1, 1]) (by decide)) Z Z (kk, a) Z Z Z Z kTag fun H5 (hS5 : Own _ _ _ (_ :: _ :: _ :: _ :: _ :: _ :: _ :: _ :: _ :: _ :: L.eraseIdx k)) => EZ (c33 ..) Z (Ag (Ac (Aa Z Z (Ab Z Z (EZ (c33 ..) Z (Ap (Ak (res1 Z (Ai Z)) ?_))))))))))))))))))
   simp only [Orf.mac, h3] at hq; exact hq _ (Own.unpick (Own.re (Own.mk_orc (m := F.n + 1) (Own.drop0 (Own.mono hS5 (Ax (Az (a := [7, 1, 1, 0, 1, 1, 1]) hp)))) rfl) rfl) hL)
  try simp only [bs] at h3
  refine At (Ag (Ac (Aa Z Z (Ab Z Z (EZ (c33 ..) Z (Ap (Ak (res1 Z (Ai Z)) ?_)))))))
  simp only [Orf.mac, h3] at hq; exact hq _ (Own.unpick (Own.mk_orc (m := F.n) (Own.drop0 (Own.mono hS2 (Ax (Az (a := [5, 0, 1]) hp)))) rfl) hL)
theorem iVerify (hS : Own β ps H L) (hL : L[k]? = some (orc q F)) (hle : le ps ν) (hβ : under β ν = true) (hp : before ν pos') (kk : Int) (a : ByteArray) (t : Int) (hq : ∀ H1, Own β pos' H1 (L.set k (orc q (F.verify kk a t).2)) → Q (.bool (F.verify kk a t).1) H1) : CW cfg ν 130 [.ptr q 0 0, .int .u64 kk, .str a, .int .u64 t] H Q := by
  obtain ⟨D, P, m0, m1, m2, m3, m4, m5, hS⟩ := (hS.pick hL).un_orc
  refine AX g130 F130 Z ?_
  replace hS := Own.mono hS hle
  refine Ac (Ab Z Z (EZ (c31 ..) Z (Ac (Aa Z Z (AO Z Z (Al Z Z Z (EN (c31 ..) Z (Ad hS (k := 0) Z Z Z Z Z Z (Aa Z Z (Aa Z Z (EN (c31 ..) Z (BF Z Z (v := .agg [_, _]) Z (OW_lookT hS (k := 6) Z Z Z (kk, a) Z Z Z Z kTag (z0 := 0) Z (Aa Z Z (EN (c31 ..) Z (AK Z Z Z (AK Z Z Z (Ab Z Z (EN (c31 ..) Z (Ab Z Z (EZ (c31 ..) Z (Aq (Ac (Aa Z Z (Aa Z Z (AT (tt := 23) Z (fun g2_2 => ?_) (fun g2_2 => ?_)))))))))))))))))))))))))))
  ·try simp only [bs] at g2_2
   refine EN (c31 ..) Z (Aa Z Z (Aa Z Z (Ah Z Z Z Z Z (EN (c31 ..) Z (Aw Z Z Z (EZ (c31 ..) Z (AH Z (fun h2 => ?_) (fun h2 => ?_))))))))
   ·try simp only [bs] at h2
    refine Ac (Ab Z Z (EZ (c31 ..) Z (Ap (Ao (Ak (res1 Z (Ai Z)) ?_)))))
    simp only [Orf.verify, g2_2, h2, and_self, if_true] at hq; exact hq _ (Own.unpick (Own.mk_orc (m := F.n) (Own.mono hS (Ax hp)) rfl) hL)
   try simp only [bs] at h2
   refine At (Ag (Ac (Aa Z Z (Aa Z Z (AB Z Z (iMeetO hS (AE (p := ν) (b := [2, 0, 1, 1, 1])) (Af [2, 0, 1, 1, 1] hβ) (Au (ν := ν) (a := [2, 0, 1, 1, 1]) (b := [3, 0, 1, 1, 1]) (by decide)) _ fun H2 D1 P1 a1 a2 a3 a4 a5 a6 hS2 => ?_) )))))
   replace hS2 : Own _ _ _ (_ :: _ :: _ :: _ :: _ :: _ :: _ :: _ :: _ :: L.eraseIdx k) := hS2
   refine EZ (c31 ..) Z (Ac (Ab Z Z (EZ (c31 ..) Z (Ap (Ak (res1 Z (Ai Z)) ?_)))))
   simp only [Orf.verify, h2, and_false, if_false] at hq; exact hq _ (Own.unpick (Own.mk_orc (m := (F.meet t).n) (Own.mono hS2 (Ax (Az (a := [3, 0, 1, 1, 1]) hp))) rfl) hL)
  try simp only [bs] at g2_2
  refine EN (c31 ..) Z (An Z (An Z (An Z (EN (c31 ..) Z (Aw Z Z Z (EZ (c31 ..) Z (Bd Z Z (At (Ag (Ac (Aa Z Z (Aa Z Z (AB Z Z (iMeetO hS (AE (p := ν) (b := [2, 0, 1, 1, 1])) (Af [2, 0, 1, 1, 1] hβ) (Au (ν := ν) (a := [2, 0, 1, 1, 1]) (b := [3, 0, 1, 1, 1]) (by decide)) _ fun H3 D2 P2 a7 a8 a9 a10 a11 a12 hS3 => ?_) )))))))))))))
  replace hS3 : Own _ _ _ (_ :: _ :: _ :: _ :: _ :: _ :: _ :: _ :: _ :: L.eraseIdx k) := hS3
  refine EZ (c31 ..) Z (Ac (Ab Z Z (EZ (c31 ..) Z (Ap (Ak (res1 Z (Ai Z)) ?_)))))
  simp only [Orf.verify, g2_2, false_and, if_false] at hq; exact hq _ (Own.unpick (Own.mk_orc (m := (F.meet t).n) (Own.mono hS3 (Ax (Az (a := [3, 0, 1, 1, 1]) hp))) rfl) hL)
end Go.Proofs.YtfkgdlfponfimaaGreat.X
/- What the program's oracle does: any call, a new one. -/
set_option maxRecDepth 100000
namespace Go.Proofs.YtfkgdlfponfimaaGreat.X
open Go Go.RowKit
variable {ν β ps pos' : Nm} {H : Heap} {Q : AVal → Heap → Prop} {L : List Asr} {q : Nm} {F : Orf} {k : Nat}
structure Ca where
  d : Int
  k : Int
  n : Int
  h : Int
  a : ByteArray
  b : ByteArray
def Ca.enc (c : Ca) : AVal := .agg [.int .i64 c.d, .int .u64 c.k, .int .u64 c.n, .int .u64 c.h, .str c.a, .str c.b]
def Orf.act (F : Orf) (c : Ca) : Int × ByteArray × Bool × Orf :=
  if c.d = 0 then (F.next, ⟨#[]⟩, true, F.fresh)
  else if c.d = 1 then ((F.hash c.a).1, ⟨#[]⟩, true, (F.hash c.a).2)
  else if c.d = 2 then ((F.mac c.k c.a).1, ⟨#[]⟩, true, (F.mac c.k c.a).2)
  else if c.d = 3 then (0, ⟨#[]⟩, (F.verify c.k c.a c.h).1, (F.verify c.k c.a c.h).2)
  else if c.d = 4 then ((F.sealv c.k c.n c.a c.b).1, ⟨#[]⟩, true, (F.sealv c.k c.n c.a c.b).2)
  else if c.d = 5 then (0, (F.opens c.k c.n c.a c.h).1.1, (F.opens c.k c.n c.a c.h).1.2, (F.opens c.k c.n c.a c.h).2)
  else if c.d = 6 then (0, ⟨#[]⟩, false, F.meet c.h)
  else (0, ⟨#[]⟩, false, F)
abbrev Int.enc (n : Int) : AVal := .int .u64 n
theorem Int.clone {ν β ps pos' : Nm} {H : Heap} {Q : AVal → Heap → Prop} {L : List Asr} {ls : List Int} {S : AVal} (hv : Ls S (ls.map Int.enc)) (hS : Own β ps H L) (hle : le ps ν) (hβ : under β ν = true) (hp : before ν pos') (hn : ls.length ≤ 4294967296)
    (hq : ∀ v H', Own β pos' H' (sl v 1 (ls.map Int.enc) :: L) → Q v H') : CW cfg ν 84 [S] H Q := by
  have body : ∀ S, (S = .nls ∨ S = .nne) → XW cfg ν fi84.body (start fi84 [S]) (fun _ => none) (retW cfg.T fi84 fun v _ => isEmp v = true) := by
    rintro S (rfl | rfl)
    · refine Ac ?_
      refine Ab Z Z (Am (e' := [_, _, _, _, _, _, _, _]) Z (Aq (Ac (Aa Z Z (Ah Z Z Z Z Z (Am (e' := [_, _, _, _, _, _, _, _]) Z (AZ Z Z (Ac (Ab Z Z (Am (e' := [_, _, _, _, _, _, _, _]) Z (Ap (Ao ?_))))))))))))
      exact Ak rfl rfl
    refine Ac (Ab Z Z (Am (e' := [_, _, _, _, _, _, _, _]) Z (Aq (Ac (Aa Z Z (Ah Z Z Z Z Z (Am (e' := [_, _, _, _, _, _, _, _]) Z (Bd Z Z (At (Ag (Ac (Bq Z Z Z (Aa Z Z (BL Z Z Z (Ay (e' := [_, _, _, _, _, _, _, _]) Z (Ab Z Z (Am (e' := [_, _, _, _, _, _, _, _]) Z (Ap ?_))))))))))))))))))
    exact Ak rfl rfl
  by_cases h0 : noneIn [S] = true
  · refine CW_clone0 g84 F84 rfl h0 (body _ (.inl rfl)) (body _ (.inr rfl)) (hq _ _ ?_)
    obtain rfl : ls = [] := by
      rcases hv with rfl | ⟨h, _⟩
      · cases ls with
        | nil => rfl
        | cons x r => simp [noneIn] at h0
      simpa using h
    exact (hS.mono (hle.trans (Ax hp))).addE
  have h0 : noneIn [S] = false := by simpa using h0
  rcases hv with rfl | ⟨h, rfl | rfl⟩
  · obtain ⟨x, r, rfl⟩ : ∃ x r, ls = x :: r := by
      cases ls with
      | nil => simp [noneIn] at h0
      | cons x r => exact ⟨x, r, rfl⟩
    refine BI g84 F84 Z h0 (Ac (Ab Z Z (Am (e' := [_, _, _, _, _, _, _, _]) Z (Aq (Ac (Aa Z Z (Ah Z Z Z Z Z (Am (e' := [_, _, _, _, _, _, _, _]) Z (Bd Z Z (At (Ag (Ac (Bq Z Z Z (Aa Z Z (BG (hS.mono hle) (AE (b := [2, 0, 1, 1])) (Af [2, 0, 1, 1] hβ) Z Z Z Z Z Z Z Z (Ls.elems Ls.of) (BA (fun _ => Z)) (by simpa using hn) (by decide) fun O2 H2 hS2 => Ay (e' := [_, _, _, _, _, _, _, _]) Z (Ab Z Z (Am (e' := [_, _, _, _, _, _, _, _]) Z (Ap ?_))))))))))))))))))
    exact Ak rfl (hq _ _ (hS2.mono (Ax (Az (a := [3, 0, 1, 1]) hp))))
  · simp [noneIn] at h0
  obtain rfl : ls = [] := by simpa using h
  refine BI g84 F84 Z Z (Ac (Ab Z Z (Am (e' := [_, _, _, _, _, _, _, _]) Z (Aq (Ac (Aa Z Z (Ah Z Z Z Z Z (Am (e' := [_, _, _, _, _, _, _, _]) Z (AZ Z Z (Ac (Ab Z Z (Am (e' := [_, _, _, _, _, _, _, _]) Z (Ap (Ao ?_))))))))))))))
  exact Ak rfl (hq _ _ (hS.mono (hle.trans (Ax hp))).addN)
theorem Int.cloneO {ν β ps pos' : Nm} {H : Heap} {Q : AVal → Heap → Prop} {L : List Asr} {ls : List Int} {S : AVal} {k : Nat} (hS : Own β ps H L) (hL : L[k]? = some (sl S 1 (ls.map Int.enc))) (hle : le ps ν) (hβ : under β ν = true) (hp : before ν pos') (hn : ls.length ≤ 4294967296)
    (hq : ∀ v H', Own β pos' H' (sl v 1 (ls.map Int.enc) :: L) → Q v H') : CW cfg ν 84 [S] H Q := by
  obtain ⟨f, hf, _⟩ := hS.get hL
  have hf : Sl H 1 (ls.map Int.enc) S f := hf
  cases hf with
  | emp h => exact Int.clone (.inr ⟨h, .inl rfl⟩) hS hle hβ hp hn hq
  | nls h => exact Int.clone (.inr ⟨h, .inr rfl⟩) hS hle hβ hp hn hq
  | row h1 h2 h3 =>
    refine BI g84 F84 Z Z (Ac (Ab Z Z (Am (e' := [_, _, _, _, _, _, _, _]) Z (Aq (Ac (Aa Z Z (Ah Z Z Z Z Z (Am (e' := [_, _, _, _, _, _, _, _]) Z (Bd Z Z (At (Ag (Ac (Bq Z Z Z (Aa Z Z (BG (hS.mono hle) (AE (b := [2, 0, 1, 1])) (Af [2, 0, 1, 1] hβ) Z Z Z Z Z Z Z Z (hS.elems hL) (BA (fun _ => Z)) (by simpa using hn) (by decide) fun O2 H2 hS2 => Ay (e' := [_, _, _, _, _, _, _, _]) Z (Ab Z Z (Am (e' := [_, _, _, _, _, _, _, _]) Z (Ap ?_))))))))))))))))))
    exact Ak rfl (hq _ _ (hS2.mono (Ax (Az (a := [3, 0, 1, 1]) hp))))
theorem iNew (hS : Own β ps H L) (hle : le ps ν) (hβ : under β ν = true) (hp : before ν pos') {v : AVal} {d : List Int} (hv : Ls v (d.map Int.enc)) (hd : d.length ≤ 4294967000)
    (hq : ∀ q H1, Own β pos' H1 (orc q (Orf.new d) :: L) → Q (.ptr q 0 0) H1) : CW cfg ν 28 [v] H Q := by
  refine AX g28 F28 Z ?_
  replace hS := Own.mono hS hle
  refine Ac (Ab Z Z (Am (e' := [_,_,_,_,_,_,_,_,_,_,_,_,_]) Z (Ac (Aa Z Z (AB Z Z (Int.clone (by assumption) hS (AE (p := ν) (b := [1, 0, 1])) (Af [1, 0, 1] hβ) (Au (ν := ν) (a := [1, 0, 1]) (b := [2, 0, 1]) (by decide)) (by omega) fun O1 H1 hS1 => ?_) )))))
  replace hS1 : Own _ _ _ (_ :: L) := hS1
  refine OW_makeM eU eI hS1 le_refl (Af [2, 0, 1] hβ) Z fun H2 (hS2 : Own _ _ _ (_ :: _ :: L)) => Ay (e' := [_,_,_,_,_,_,_,_,_,_,_,_,_]) Z (OW_makeM eU eI hS2 le_refl (Af [3, 0, 1] hβ) Z fun H3 (hS3 : Own _ _ _ (_ :: _ :: _ :: L)) => OW_makeM eS eU hS3 le_refl (Af [4, 0, 1] hβ) Z fun H4 (hS4 : Own _ _ _ (_ :: _ :: _ :: _ :: L)) => OW_makeM eTag eU hS4 le_refl (Af [5, 0, 1] hβ) Z fun H5 (hS5 : Own _ _ _ (_ :: _ :: _ :: _ :: _ :: L)) => Ay (e' := [_,_,_,_,_,_,_,_,_,_,_,_,_]) Z (OW_makeM eSeal eU hS5 le_refl (Af [6, 0, 1] hβ) Z fun H6 (hS6 : Own _ _ _ (_ :: _ :: _ :: _ :: _ :: _ :: L)) => OW_makeM eTold eI hS6 le_refl (Af [7, 0, 1] hβ) Z fun H7 (hS7 : Own _ _ _ (_ :: _ :: _ :: _ :: _ :: _ :: _ :: L)) => OW_bdP Z (pcons Z (hS7.one (k := 6) Z).1 (pcons Z Z (pcons Z Z (pcons Z Z (pcons Z Z (pcons Z Z (pcons Z Z Z))))))) Z Z Z (cs := [_, _, _, _, _, _, _, _, _, _]) (fill1 Z (hS7.one (k := 6) Z).2 Z (Nat.le_of_ble_eq_true Z) Z (fill1 Z Z Z (Nat.le_of_ble_eq_true Z) Z (fill1 Z Z Z (Nat.le_of_ble_eq_true Z) Z (fill1 Z Z Z (Nat.le_of_ble_eq_true Z) Z (fill1 Z Z Z (Nat.le_of_ble_eq_true Z) Z (fill1 Z Z Z (Nat.le_of_ble_eq_true Z) Z (fill1 Z Z Z (Nat.le_of_ble_eq_true Z) Z Z))))))) ?_))
  refine Ay (e' := [_,_,_,_,_,_,_,_,_,_,_,_,_]) Z (AR hS7 (Ar (ν := ν) (a := [8, 0, 1]) (b := [9, 0, 1]) (by decide)) (Af [9, 0, 1] hβ) Z Z Z ⟨Z, Z⟩ fun H8 (hS8 : Own _ _ _ (_ :: _ :: _ :: _ :: _ :: _ :: _ :: _ :: L)) => Ab Z Z (Am (e' := [_,_,_,_,_,_,_,_,_,_,_,_,_]) Z (Ap (Ak (res1 Z (Ai Z)) ?_))))
  exact hq _ _ (Own.mk_orc (m := 0) (d := d) (pl := []) (Own.tor (A := [_, _, _, _, _, _, _, _]) (Own.tor (A := [_, _, _, _, _, _, _, _]) (Own.addE (w := 1) (Own.tor (A := [_, _, _, _, _, _]) (Own.tor (A := [_, _, _, _, _]) (Own.tor (A := [_, _, _, _]) (Own.tor (A := [_, _, _]) (Own.tor (A := [_, _]) (Own.tor (A := [_]) (Own.mono hS8 (Ax (Az (a := [10, 0, 1]) hp)))))))))))) rfl rfl)
end Go.Proofs.YtfkgdlfponfimaaGreat.X
/- What the reference's oracle does. -/
set_option maxRecDepth 100000
namespace Go.Proofs.YtfkgdlfponfimaaGreat.X
open Go Go.RowKit
variable {ν β ps pos' : Nm} {H : Heap} {Q : AVal → Heap → Prop} {L : List Asr} {q : Nm} {k : Nat}
structure Rw where
  t : Int
  k : Int
  n : Int
  a : ByteArray
  b : ByteArray
  h : Int
def Rw.enc (x : Rw) : AVal := .agg [.int .i64 x.t, .int .u64 x.k, .int .u64 x.n, .str x.a, .str x.b, .int .u64 x.h]
structure Rf where
  draws : List Int
  rows : List Rw
  met : List Int
  bads : Nat
def Rw.same (x y : Rw) : Bool := decide (x.t ≠ 0) && decide (y.t = x.t) && decide (y.k = x.k) && decide (y.n = x.n) && decide (y.a = x.a) && decide (y.b = x.b)
namespace Rf
structure le (S : Rf) (N : Nat) : Prop where
  rows : S.rows.length ≤ N
  met : S.met.length ≤ N
  bads : S.bads ≤ N
def issued (S : Rf) (h : Int) : Bool := S.rows.any fun x => decide (x.h = h)
def shown (S : Rf) (h : Int) : Bool := S.met.any fun x => decide (x = h)
def next (S : Rf) : Int := match S.draws[S.rows.length]? with
  | some h => h
  | none => 9223372036854775808 + (S.rows.length : Int)
def isBad (S : Rf) (h : Int) : Bool := decide (h = 0) || S.issued h || S.shown h
def draw (S : Rf) (x : Rw) : Rf := ⟨S.draws, S.rows ++ [⟨x.t, x.k, x.n, x.a, x.b, S.next⟩], S.met, S.bads + if S.isBad S.next then 1 else 0⟩
def at_ (S : Rf) (x : Rw) : Int := firstI (fun y => x.same y) S.rows 0
def value (S : Rf) (x : Rw) : Int × Rf := match S.rows.find? (fun y => x.same y) with
  | some y => (y.h, S)
  | none => (S.next, S.draw x)
def meet (S : Rf) (h : Int) : Rf := if S.issued h then S else ⟨S.draws, S.rows, S.met ++ [h], S.bads⟩
def verify (S : Rf) (k : Int) (a : ByteArray) (t : Int) : Bool × Rf := match S.rows.find? (fun y => (Rw.mk 2 k 0 a ⟨#[]⟩ 0).same y) with
  | some y => if y.h = t then (true, S) else (false, S.meet t)
  | none => (false, S.meet t)
def isOpen (k n : Int) (a : ByteArray) (c : Int) (y : Rw) : Bool := decide (y.t = 3) && decide (y.k = k) && decide (y.n = n) && decide (y.a = a) && decide (y.h = c)
def opens (S : Rf) (k n : Int) (a : ByteArray) (c : Int) : (ByteArray × Bool) × Rf := match S.rows.find? (isOpen k n a c) with
  | some y => ((y.b, true), S)
  | none => ((⟨#[]⟩, false), S.meet c)
def fresh (S : Rf) : Rf := S.draw ⟨0, 0, 0, ⟨#[]⟩, ⟨#[]⟩, 0⟩
def hash (S : Rf) (a : ByteArray) := S.value ⟨1, 0, 0, a, ⟨#[]⟩, 0⟩
def mac (S : Rf) (k : Int) (a : ByteArray) := S.value ⟨2, k, 0, a, ⟨#[]⟩, 0⟩
def sealv (S : Rf) (k n : Int) (a b : ByteArray) := S.value ⟨3, k, n, a, b, 0⟩
end Rf
theorem find_first {α : Type} (p : α → Bool) : ∀ (l : List α) (k : Int), 0 ≤ k → (l.find? p = none ∧ firstI p l k = -1) ∨ ∃ (i : Nat) (h : i < l.length), l.find? p = some l[i] ∧ firstI p l k = k + i
  | [], k, _ => .inl ⟨rfl, rfl⟩
  | x :: r, k, hk => by
    by_cases h : p x = true
    · exact .inr ⟨0, by simp, by simp [h], by simp [firstI, h]⟩
    rcases find_first p r (k + 1) (by omega) with ⟨h1, h2⟩ | ⟨i, h0, h1, h2⟩
    · exact .inl ⟨by simp [h, h1], by simp [firstI, h, h2]⟩
    exact .inr ⟨i + 1, by simpa using h0, by simp [h, h1], by simp only [firstI, h, if_false, Bool.false_eq_true]; rw [h2]; push_cast; omega⟩
def rorc (q : Nm) (S : Rf) : Asr := Asr.ex fun v : AVal × AVal × AVal => Asr.all [row q 4 [.agg [v.1, v.2.1, v.2.2, .int .i64 S.bads]], sl v.1 1 (S.draws.map eU), sl v.2.1 6 (S.rows.map Rw.enc), sl v.2.2 1 (S.met.map eU)]
variable {S : Rf}
theorem Own.un_rorc (h : Own β ps H (rorc q S :: L)) : ∃ D R M, Own β ps H (row q 4 [.agg [D, R, M, .int .i64 S.bads]] :: sl D 1 (S.draws.map eU) :: sl R 6 (S.rows.map Rw.enc) :: sl M 1 (S.met.map eU) :: L) := by
  obtain ⟨⟨D, R, M⟩, h⟩ := h.un_ex
  exact ⟨D, R, M, h.un_all⟩
theorem Own.mk_rorc {D R M : AVal} {n : Int} {m : Nat} {d mt : List Int} {rs : List Rw} {xs ys : List AVal} (h : Own β ps H (row q 4 [.agg [D, R, M, .int .i64 n]] :: sl D 1 (d.map eU) :: sl R 6 xs :: sl M 1 ys :: L)) (hm : n = (m : Int)) (hx : xs = rs.map Rw.enc := by first | rfl | assumption) (hy : ys = mt.map eU := by first | rfl | assumption) :
    Own β ps H (rorc q ⟨d, rs, mt, m⟩ :: L) := by
  subst hm; subst hx; subst hy
  exact Own.mk_ex (D, R, M) h.mk_all
theorem Own.pick2 {a b : Asr} {k0 k1 : Nat} (hS : Own β ps H L) (h0 : L[k0]? = some a) (h1 : (L.eraseIdx k0)[k1]? = some b) : Own β ps H (b :: a :: (L.eraseIdx k0).eraseIdx k1) :=
  (hS.pick h0).pick (k := k1 + 1) (L := a :: L.eraseIdx k0) (by simpa using h1)
theorem Own.unpick2 {a b : Asr} {k0 k1 : Nat} (h0 : L[k0]? = some a) (h1 : (L.eraseIdx k0)[k1]? = some b) (hS : Own β ps H (b :: a :: (L.eraseIdx k0).eraseIdx k1)) : Own β ps H L := by
  have h2 : Own β ps H ((a :: L.eraseIdx k0).set (k1 + 1) b) := Own.unpick (L := a :: L.eraseIdx k0) (k := k1 + 1) (a := b) hS (by simpa using h1)
  rw [List.set_cons_succ, Bn h1] at h2
  exact (Own.unpick h2 h0).cast (Bn h0)
section
variable {D R M B : AVal} {k0 k1 : Nat}
theorem rIssued (hS : Own β ps H L) (h0 : L[k0]? = some (row q 4 [.agg [D, R, M, B]])) (h1 : (L.eraseIdx k0)[k1]? = some (sl R 6 (S.rows.map Rw.enc))) (hle : le ps ν) (hβ : under β ν = true) (hp : before ν pos') (hn : S.le 4294967000) (h : Int) (hq : ∀ H1, Own β pos' H1 L → Q (.bool (S.issued h)) H1) : CW cfg ν 132 [.ptr q 0 0, .int .u64 h] H Q := by
  have hnr := hn.rows
  have hnm := hn.met
  replace hS := hS.pick2 h0 h1
  refine AX g132 F132 Z ?_
  replace hS := Own.mono hS hle
  refine Ac (Ab Z Z (Am (e' := [_,_,_,_,_,_,_,_,_,_,_,_,_,_,_,_,_,_,_,_,_,_,_,_,_]) Z (Aq (Ac (Ab Z Z (Am (e' := [_,_,_,_,_,_,_,_,_,_,_,_,_,_,_,_,_,_,_,_,_,_,_,_,_]) Z (AD (AV (I := fun ν' mm ee H' => ∃ (i : Nat), mm = S.rows.length - i ∧ under (1 :: 0 :: 1 :: ν) ν' = true ∧ Own β ν' H' (sl R 6 (S.rows.map Rw.enc) :: row q 4 [.agg [D, R, M, B]] :: (L.eraseIdx k0).eraseIdx k1) ∧ (i ≤ S.rows.length ∧ (S.rows.drop i).any (fun x => decide (x.h = h)) = S.issued h) ∧ ∃ g : Nat → AVal, ee = [.ptr q 0 0, .int .u64 h, g 2, g 3, g 4, .int .i64 i, g 6, g 7, g 8, g 9, g 10, g 11, g 12, g 13, g 14, g 15, g 16, g 17, g 18, g 19, g 20, g 21, g 22, g 23, g 24]) ?_ _ _ _ _ ⟨0, Z, AI, Own.cast (Own.mono (hS) (AE (p := ν) (b := [1, 0, 1]))) (Z), (⟨Nat.zero_le _, Z⟩), AU Z⟩))))))))
  rintro ν1 mm ee H1 ⟨i, rfl, hU1, hS1, ⟨hi, hI⟩, g1, rfl⟩
  refine Aq (Ac (Aa Z Z (Aa Z Z (AO Z Z (Ay (e' := [_,_,_,_,_,_,_,_,_,_,_,_,_,_,_,_,_,_,_,_,_,_,_,_,_]) Z (Al Z Z Z (Ad hS1 (k := 1) Z Z Z Z Z Z (BC hS1 (k := 0) Z Z Z Z Z Z (List.length_map _) (Ay (e' := [_,_,_,_,_,_,_,_,_,_,_,_,_,_,_,_,_,_,_,_,_,_,_,_,_]) Z (Ah Z Z Z Z Z (Am (e' := [_,_,_,_,_,_,_,_,_,_,_,_,_,_,_,_,_,_,_,_,_,_,_,_,_]) Z (AH Z (fun h2 => ?_) (fun h2 => ?_)))))))))))))
  ·try simp only [bs] at h2
   refine At (Ag (Aq (AD (Ac (Aa Z Z (AO Z Z (Al Z Z Z (Ay (e' := [_,_,_,_,_,_,_,_,_,_,_,_,_,_,_,_,_,_,_,_,_,_,_,_,_]) Z (Ad hS1 (k := 1) Z Z Z Z Z Z (Aa Z Z (Bi hS1 (k := 0) Z Z Z Z Z Z Z Z Z (Ba (by omega)) fun q1 ys1 hO1 hq1 ht1 hy1 hu1 => ?_)))))))))))
   subst hO1
   refine Ay (e' := [_,_,_,_,_,_,_,_,_,_,_,_,_,_,_,_,_,_,_,_,_,_,_,_,_]) Z (Al Z Z Z (Bo Z Z hq1 hy1 Z Z (Aa Z Z (Ay (e' := [_,_,_,_,_,_,_,_,_,_,_,_,_,_,_,_,_,_,_,_,_,_,_,_,_]) Z (Ah Z Z Z Z Z (Am (e' := [_,_,_,_,_,_,_,_,_,_,_,_,_,_,_,_,_,_,_,_,_,_,_,_,_]) Z (AH Z (fun h4 => ?_) (fun h4 => ?_))))))))
   ·try simp only [bs] at h4
    refine Ac (Ab Z Z (Am (e' := [_,_,_,_,_,_,_,_,_,_,_,_,_,_,_,_,_,_,_,_,_,_,_,_,_]) Z (Ap (AA (Ao (AA (Ao (Ak (res1 Z (Ai Z)) ?_))))))))
    have e : S.issued h = true := by { rw [← hI, List.drop_eq_getElem_cons (by omega : i < S.rows.length), List.any_cons]; simp_all }; rw [e] at hq; exact hq _ (Own.unpick2 h0 h1 (Own.mono hS1 (Ax (Bg (a := []) hU1 (Az (a := [1, 0, 1]) hp)))))
   try simp only [bs] at h4
   refine At (AJ (Ag (AC (Aa Z Z (Ah Z Z Z Z (AW (by omega)) (Ab Z Z (Am (e' := [_,_,_,_,_,_,_,_,_,_,_,_,_,_,_,_,_,_,_,_,_,_,_,_,_]) Z (⟨_, ?_, i + 1, Z, AM hU1, Own.cast (Own.mono (hS1) (AE (p := ν1) (b := [1]))) (Z), ?_, AU Z⟩))))))))
   · omega
   exact ⟨by omega, by rw [← hI, List.drop_eq_getElem_cons (by omega : i < S.rows.length), List.any_cons]; simp_all⟩
  try simp only [bs] at h2
  refine AY (AQ (AN (Ag (Ac (Ab Z Z (Am (e' := [_,_,_,_,_,_,_,_,_,_,_,_,_,_,_,_,_,_,_,_,_,_,_,_,_]) Z (Ap (Ak (res1 Z (Ai Z)) ?_))))))))
  have e : S.issued h = false := by { rw [← hI, List.drop_eq_nil_of_le (by omega)]; rfl }; rw [e] at hq; exact hq _ (Own.unpick2 h0 h1 (Own.mono hS1 (Ax (Bg (a := []) hU1 (Az (a := [1, 0, 1]) hp)))))
theorem rShown (hS : Own β ps H L) (h0 : L[k0]? = some (row q 4 [.agg [D, R, M, B]])) (h1 : (L.eraseIdx k0)[k1]? = some (sl M 1 (S.met.map eU))) (hle : le ps ν) (hβ : under β ν = true) (hp : before ν pos') (hn : S.le 4294967000) (h : Int) (hq : ∀ H1, Own β pos' H1 L → Q (.bool (S.shown h)) H1) : CW cfg ν 133 [.ptr q 0 0, .int .u64 h] H Q := by
  have hnr := hn.rows
  have hnm := hn.met
  replace hS := hS.pick2 h0 h1
  refine AX g133 F133 Z ?_
  replace hS := Own.mono hS hle
  refine Ac (Ab Z Z (Am (e' := [_,_,_,_,_,_,_,_,_,_,_,_,_,_,_,_,_,_,_,_,_,_,_,_]) Z (Aq (Ac (Ab Z Z (Am (e' := [_,_,_,_,_,_,_,_,_,_,_,_,_,_,_,_,_,_,_,_,_,_,_,_]) Z (AD (AV (I := fun ν' mm ee H' => ∃ (i : Nat), mm = S.met.length - i ∧ under (1 :: 0 :: 1 :: ν) ν' = true ∧ Own β ν' H' (sl M 1 (S.met.map eU) :: row q 4 [.agg [D, R, M, B]] :: (L.eraseIdx k0).eraseIdx k1) ∧ (i ≤ S.met.length ∧ (S.met.drop i).any (fun x => decide (x = h)) = S.shown h) ∧ ∃ g : Nat → AVal, ee = [.ptr q 0 0, .int .u64 h, g 2, g 3, g 4, .int .i64 i, g 6, g 7, g 8, g 9, g 10, g 11, g 12, g 13, g 14, g 15, g 16, g 17, g 18, g 19, g 20, g 21, g 22, g 23]) ?_ _ _ _ _ ⟨0, Z, AI, Own.cast (Own.mono (hS) (AE (p := ν) (b := [1, 0, 1]))) (Z), (⟨Nat.zero_le _, Z⟩), AU Z⟩))))))))
  rintro ν1 mm ee H1 ⟨i, rfl, hU1, hS1, ⟨hi, hI⟩, g1, rfl⟩
  refine Aq (Ac (Aa Z Z (Aa Z Z (AO Z Z (Ay (e' := [_,_,_,_,_,_,_,_,_,_,_,_,_,_,_,_,_,_,_,_,_,_,_,_]) Z (Al Z Z Z (Ad hS1 (k := 1) Z Z Z Z Z Z (BC hS1 (k := 0) Z Z Z Z Z Z (List.length_map _) (Ay (e' := [_,_,_,_,_,_,_,_,_,_,_,_,_,_,_,_,_,_,_,_,_,_,_,_]) Z (Ah Z Z Z Z Z (Am (e' := [_,_,_,_,_,_,_,_,_,_,_,_,_,_,_,_,_,_,_,_,_,_,_,_]) Z (AH Z (fun h2 => ?_) (fun h2 => ?_)))))))))))))
  ·try simp only [bs] at h2
   refine At (Ag (Aq (AD (Ac (Aa Z Z (AO Z Z (Al Z Z Z (Ay (e' := [_,_,_,_,_,_,_,_,_,_,_,_,_,_,_,_,_,_,_,_,_,_,_,_]) Z (Ad hS1 (k := 1) Z Z Z Z Z Z (Aa Z Z (Bi hS1 (k := 0) Z Z Z Z Z Z Z Z Z (Ba (by omega)) fun q1 ys1 hO1 hq1 ht1 hy1 hu1 => ?_)))))))))))
   subst hO1
   refine Ay (e' := [_,_,_,_,_,_,_,_,_,_,_,_,_,_,_,_,_,_,_,_,_,_,_,_]) Z (Bo Z Z hq1 hy1 Z Z (Aa Z Z (Ah Z Z Z Z Z (Am (e' := [_,_,_,_,_,_,_,_,_,_,_,_,_,_,_,_,_,_,_,_,_,_,_,_]) Z (AH Z (fun h4 => ?_) (fun h4 => ?_))))))
   ·try simp only [bs] at h4
    refine Ac (Ab Z Z (Am (e' := [_,_,_,_,_,_,_,_,_,_,_,_,_,_,_,_,_,_,_,_,_,_,_,_]) Z (Ap (AA (Ao (AA (Ao (Ak (res1 Z (Ai Z)) ?_))))))))
    have e : S.shown h = true := by { rw [← hI, List.drop_eq_getElem_cons (by omega : i < S.met.length), List.any_cons]; simp_all }; rw [e] at hq; exact hq _ (Own.unpick2 h0 h1 (Own.mono hS1 (Ax (Bg (a := []) hU1 (Az (a := [1, 0, 1]) hp)))))
   try simp only [bs] at h4
   refine At (AJ (Ag (AC (Aa Z Z (Ah Z Z Z Z (AW (by omega)) (Ab Z Z (Am (e' := [_,_,_,_,_,_,_,_,_,_,_,_,_,_,_,_,_,_,_,_,_,_,_,_]) Z (⟨_, ?_, i + 1, Z, AM hU1, Own.cast (Own.mono (hS1) (AE (p := ν1) (b := [1]))) (Z), ?_, AU Z⟩))))))))
   · omega
   exact ⟨by omega, by rw [← hI, List.drop_eq_getElem_cons (by omega : i < S.met.length), List.any_cons]; simp_all⟩
  try simp only [bs] at h2
  refine AY (AQ (AN (Ag (Ac (Ab Z Z (Am (e' := [_,_,_,_,_,_,_,_,_,_,_,_,_,_,_,_,_,_,_,_,_,_,_,_]) Z (Ap (Ak (res1 Z (Ai Z)) ?_))))))))
  have e : S.shown h = false := by { rw [← hI, List.drop_eq_nil_of_le (by omega)]; rfl }; rw [e] at hq; exact hq _ (Own.unpick2 h0 h1 (Own.mono hS1 (Ax (Bg (a := []) hU1 (Az (a := [1, 0, 1]) hp)))))
theorem rAt (hS : Own β ps H L) (h0 : L[k0]? = some (row q 4 [.agg [D, R, M, B]])) (h1 : (L.eraseIdx k0)[k1]? = some (sl R 6 (S.rows.map Rw.enc))) (hle : le ps ν) (hβ : under β ν = true) (hp : before ν pos') (hn : S.le 4294967000) (x : Rw) (hq : ∀ H1, Own β pos' H1 L → Q (.int .i64 (S.at_ x)) H1) : CW cfg ν 126 [.ptr q 0 0, x.enc] H Q := by
  have hnr := hn.rows
  have hnm := hn.met
  replace hS := hS.pick2 h0 h1
  refine AX g126 F126 Z ?_
  replace hS := Own.mono hS hle
  refine Ac (AR hS (AE (p := ν) (b := [0, 0])) (Af [0, 0] hβ) Z Z Z ⟨Z, Z⟩ fun H1 (hS1 : Own _ _ _ (_ :: _ :: _ :: (L.eraseIdx k0).eraseIdx k1)) => Ab Z Z (EZ (c62 ..) Z (Aq (Ac (Ab Z Z (EZ (c62 ..) Z (AD (AV (I := fun ν' mm ee H' => ∃ (i : Nat), mm = S.rows.length - i ∧ under (1 :: 0 :: 1 :: ν) ν' = true ∧ Own β ν' H' (row (0 :: 0 :: ν) 6 [Rw.enc x] :: sl R 6 (S.rows.map Rw.enc) :: row q 4 [.agg [D, R, M, B]] :: (L.eraseIdx k0).eraseIdx k1) ∧ (i ≤ S.rows.length ∧ firstI (fun y => x.same y) (S.rows.drop i) i = S.at_ x) ∧ ∃ g : Nat → AVal, ee = [.ptr q 0 0, g 1, g 2, .ptr (0 :: 0 :: ν) 0 0, g 4, .int .i64 i, g 6, g 7, g 8, g 9, g 10, g 11, g 12, g 13, g 14, g 15, g 16, g 17, g 18, g 19, g 20, g 21, g 22, g 23, g 24, g 25, g 26, g 27, g 28, g 29, g 30, g 31, g 32, g 33, g 34, g 35, g 36, g 37, g 38, g 39, g 40, g 41, g 42, g 43, g 44, g 45, g 46, g 47, g 48, g 49, g 50, g 51, g 52, g 53, g 54, g 55, g 56, g 57, g 58, g 59, g 60, g 61]) ?_ _ _ _ _ ⟨0, Z, AI, Own.cast (Own.mono (hS1) (Ar (ν := ν) (a := [1, 0]) (b := [1, 0, 1]) (by decide))) (Z), (⟨Nat.zero_le _, Z⟩), AU Z⟩))))))))
  rintro ν1 mm ee H2 ⟨i, rfl, hU1, hS2, ⟨hi, hI⟩, g1, rfl⟩
  refine Aq (Ac (Aa Z Z (Aa Z Z (AO Z Z (EN (c62 ..) Z (Al Z Z Z (Ad hS2 (k := 2) Z Z Z Z Z Z (BC hS2 (k := 1) Z Z Z Z Z Z (List.length_map _) (EN (c62 ..) Z (Ah Z Z Z Z Z (EZ (c62 ..) Z (AH Z (fun h2 => ?_) (fun h2 => ?_)))))))))))))
  ·try simp only [bs] at h2
   refine At (Ag (Aq (AD (Ac (Aa Z Z (AO Z Z (Al Z Z Z (EN (c62 ..) Z (Ad hS2 (k := 2) Z Z Z Z Z Z (Aa Z Z (Bi hS2 (k := 1) Z Z Z Z Z Z Z Z Z (Ba (by omega)) fun q1 ys1 hO1 hq1 ht1 hy1 hu1 => ?_)))))))))))
   subst hO1
   refine EN (c62 ..) Z (Bo Z Z hq1 hy1 Z (Aj Z Z Z) (AG hS2 (AE (p := ν1) (b := [7, 0, 0, 1, 0])) (Af [7, 0, 0, 1, 0] (Bk (Af [1, 0, 1] hβ) hU1)) Z Z Z Z fun H3 (hS3 : Own _ _ _ (_ :: _ :: _ :: _ :: (L.eraseIdx k0).eraseIdx k1)) => Av hS3 (k := 0) Z le_refl Z Z Z Z ⟨Z, Z, Nat.le_of_ble_eq_true Z⟩ (u2 := .agg [_, _, _, _, _, _]) Z fun H4 (hS4 : Own _ _ _ (_ :: _ :: _ :: _ :: (L.eraseIdx k0).eraseIdx k1)) => EZ (c62 ..) Z (Ac (Al Z Z Z (Ad hS4 (k := 1) Z Z Z Z Z Z (Ah Z Z Z Z Z (EN (c62 ..) Z (Aa Z Z (AT (tt := 26) Z (fun g5_4 => ?_) (fun g5_4 => ?_))))))))))
   ·try simp only [bs] at g5_4
    refine Al Z Z Z (EN (c62 ..) Z (Ad hS4 (k := 0) Z Z Z Z Z Z (Al Z Z Z (Ad hS4 (k := 1) Z Z Z Z Z Z (EN (c62 ..) Z (Ah Z Z Z Z Z (Aw Z Z Z (Aa Z Z (EN (c62 ..) Z (AT (tt := 33) Z (fun g5_11 => ?_) (fun g5_11 => ?_)))))))))))
    ·try simp only [bs] at g5_11
     refine Al Z Z Z (Ad hS4 (k := 0) Z Z Z Z Z Z (EN (c62 ..) Z (Al Z Z Z (Ad hS4 (k := 1) Z Z Z Z Z Z (Ah Z Z Z Z Z (EN (c62 ..) Z (Aw Z Z Z (Aa Z Z (AT (tt := 40) Z (fun g5_18 => ?_) (fun g5_18 => ?_))))))))))
     ·try simp only [bs] at g5_18
      refine EN (c62 ..) Z (Al Z Z Z (Ad hS4 (k := 0) Z Z Z Z Z Z (Al Z Z Z (EN (c62 ..) Z (Ad hS4 (k := 1) Z Z Z Z Z Z (Ah Z Z Z Z Z (Aw Z Z Z (EN (c62 ..) Z (Aa Z Z (AT (tt := 47) Z (fun g5_25 => ?_) (fun g5_25 => ?_)))))))))))
      ·try simp only [bs] at g5_25
       refine Al Z Z Z (EN (c62 ..) Z (Ad hS4 (k := 0) Z Z Z Z Z Z (Al Z Z Z (Ad hS4 (k := 1) Z Z Z Z Z Z (EN (c62 ..) Z (Ah Z Z Z Z Z (Aw Z Z Z (Aa Z Z (EN (c62 ..) Z (AT (tt := 54) Z (fun g5_32 => ?_) (fun g5_32 => ?_)))))))))))
       ·try simp only [bs] at g5_32
        refine Al Z Z Z (Ad hS4 (k := 0) Z Z Z Z Z Z (EN (c62 ..) Z (Al Z Z Z (Ad hS4 (k := 1) Z Z Z Z Z Z (Ah Z Z Z Z Z (EN (c62 ..) Z (Aw Z Z Z (EZ (c62 ..) Z (AH Z (fun h5 => ?_) (fun h5 => ?_))))))))))
        ·try simp only [bs] at h5
         refine Ac (Aa Z Z (Ab Z Z (EZ (c62 ..) Z (Ap (AA (Ao (AA (Ao (Ak (res1 Z (Ai Z)) ?_)))))))))
         have e : S.at_ x = i := by { rw [← hI, List.drop_eq_getElem_cons (by omega : i < S.rows.length), firstI, if_pos (by simp [Rw.same]; simp_all)] }; rw [e] at hq; exact hq _ (Own.unpick2 h0 h1 (Own.drop0 (Own.drop0 (Own.mono hS4 (Ax (Bg (a := [9, 0, 0, 1, 0]) hU1 (Az (a := [1, 0, 1]) hp)))))))
        try simp only [bs] at h5
        refine At (AJ (Ag (AC (Aa Z Z (Ah Z Z Z Z (AW (by omega)) (Ab Z Z (EZ (c62 ..) Z ?_)))))))
        have hSd1 : Own _ _ _ (_ :: _ :: _ :: (L.eraseIdx k0).eraseIdx k1) := (Own.drop hS4 (k := 0) Z)
        refine ⟨_, ?_, i + 1, Z, AM hU1, Own.cast (Own.mono (hSd1) (Ar (ν := ν1) (a := [9, 0, 0, 1, 0]) (b := [1]) (by decide))) (Z), ?_, AU Z⟩
        · omega
        exact ⟨by omega, by rw [← hI, List.drop_eq_getElem_cons (by omega : i < S.rows.length), firstI, if_neg (by simp [Rw.same]; simp_all)]; push_cast; rfl⟩
       try simp only [bs] at g5_32
       refine An Z (An Z (EN (c62 ..) Z (An Z (An Z (An Z (EN (c62 ..) Z (Aw Z Z Z (EZ (c62 ..) Z (Bd Z Z (At (AJ (Ag (AC (Aa Z Z (Ah Z Z Z Z (AW (by omega)) (Ab Z Z (EZ (c62 ..) Z ?_)))))))))))))))))
       have hSd2 : Own _ _ _ (_ :: _ :: _ :: (L.eraseIdx k0).eraseIdx k1) := (Own.drop hS4 (k := 0) Z)
       refine ⟨_, ?_, i + 1, Z, AM hU1, Own.cast (Own.mono (hSd2) (Ar (ν := ν1) (a := [9, 0, 0, 1, 0]) (b := [1]) (by decide))) (Z), ?_, AU Z⟩
       · omega
       exact ⟨by omega, by rw [← hI, List.drop_eq_getElem_cons (by omega : i < S.rows.length), firstI, if_neg (by simp [Rw.same]; simp_all)]; push_cast; rfl⟩
      try simp only [bs] at g5_25
      refine An Z (EN (c62 ..) Z (An Z (An Z (An Z (EN (c62 ..) Z (An Z (Aw Z Z Z (Aa Z Z (EN (c62 ..) Z (An Z (An Z (An Z (EN (c62 ..) Z (An Z (An Z (Aw Z Z Z (EZ (c62 ..) Z (Bd Z Z (At (AJ (Ag (AC (Aa Z Z (Ah Z Z Z Z (AW (by omega)) (Ab Z Z (EZ (c62 ..) Z ?_))))))))))))))))))))))))))
      have hSd3 : Own _ _ _ (_ :: _ :: _ :: (L.eraseIdx k0).eraseIdx k1) := (Own.drop hS4 (k := 0) Z)
      refine ⟨_, ?_, i + 1, Z, AM hU1, Own.cast (Own.mono (hSd3) (Ar (ν := ν1) (a := [9, 0, 0, 1, 0]) (b := [1]) (by decide))) (Z), ?_, AU Z⟩
      · omega
      exact ⟨by omega, by rw [← hI, List.drop_eq_getElem_cons (by omega : i < S.rows.length), firstI, if_neg (by simp [Rw.same]; simp_all)]; push_cast; rfl⟩
     try simp only [bs] at g5_18
     refine EN (c62 ..) Z (An Z (An Z (An Z (EN (c62 ..) Z (An Z (An Z (Aw Z Z Z (EN (c62 ..) Z (Aa Z Z (An Z (An Z (EN (c62 ..) Z (An Z (An Z (An Z (EN (c62 ..) Z (Aw Z Z Z (Aa Z Z (An Z (EN (c62 ..) Z (An Z (An Z (An Z (EN (c62 ..) Z (An Z (Aw Z Z Z (EZ (c62 ..) Z (Bd Z Z (At (AJ (Ag (AC (Aa Z Z (Ah Z Z Z Z (AW (by omega)) (Ab Z Z (EZ (c62 ..) Z ?_))))))))))))))))))))))))))))))))))))
     have hSd4 : Own _ _ _ (_ :: _ :: _ :: (L.eraseIdx k0).eraseIdx k1) := (Own.drop hS4 (k := 0) Z)
     refine ⟨_, ?_, i + 1, Z, AM hU1, Own.cast (Own.mono (hSd4) (Ar (ν := ν1) (a := [9, 0, 0, 1, 0]) (b := [1]) (by decide))) (Z), ?_, AU Z⟩
     · omega
     exact ⟨by omega, by rw [← hI, List.drop_eq_getElem_cons (by omega : i < S.rows.length), firstI, if_neg (by simp [Rw.same]; simp_all)]; push_cast; rfl⟩
    try simp only [bs] at g5_11
    refine An Z (An Z (EN (c62 ..) Z (An Z (An Z (An Z (EN (c62 ..) Z (Aw Z Z Z (Aa Z Z (An Z (EN (c62 ..) Z (An Z (An Z (An Z (EN (c62 ..) Z (An Z (Aw Z Z Z (Aa Z Z (EN (c62 ..) Z (An Z (An Z (An Z (EN (c62 ..) Z (An Z (An Z (Aw Z Z Z (EN (c62 ..) Z (Aa Z Z (An Z (An Z (EN (c62 ..) Z (An Z (An Z (An Z (EN (c62 ..) Z (Aw Z Z Z (EZ (c62 ..) Z (Bd Z Z (At (AJ (Ag (AC (Aa Z Z (Ah Z Z Z Z (AW (by omega)) (Ab Z Z (EZ (c62 ..) Z ?_)))))))))))))))))))))))))))))))))))))))))))))
    have hSd5 : Own _ _ _ (_ :: _ :: _ :: (L.eraseIdx k0).eraseIdx k1) := (Own.drop hS4 (k := 0) Z)
    refine ⟨_, ?_, i + 1, Z, AM hU1, Own.cast (Own.mono (hSd5) (Ar (ν := ν1) (a := [9, 0, 0, 1, 0]) (b := [1]) (by decide))) (Z), ?_, AU Z⟩
    · omega
    exact ⟨by omega, by rw [← hI, List.drop_eq_getElem_cons (by omega : i < S.rows.length), firstI, if_neg (by simp [Rw.same]; simp_all)]; push_cast; rfl⟩
   try simp only [bs] at g5_4
   refine An Z (EN (c62 ..) Z (An Z (An Z (An Z (EN (c62 ..) Z (An Z (Aw Z Z Z (Aa Z Z (EN (c62 ..) Z (An Z (An Z (An Z (EN (c62 ..) Z (An Z (An Z (Aw Z Z Z (EN (c62 ..) Z (Aa Z Z (An Z (An Z (EN (c62 ..) Z (An Z (An Z (An Z (EN (c62 ..) Z (Aw Z Z Z (Aa Z Z (An Z (EN (c62 ..) Z (An Z (An Z (An Z (EN (c62 ..) Z (An Z (Aw Z Z Z (Aa Z Z (EN (c62 ..) Z (An Z (An Z (An Z (EN (c62 ..) Z (An Z (An Z (Aw Z Z Z (EZ (c62 ..) Z (Bd Z Z (At (AJ (Ag (AC (Aa Z Z (Ah Z Z Z Z (AW (by omega)) (Ab Z Z (EZ (c62 ..) Z ?_))))))))))))))))))))))))))))))))))))))))))))))))))))))
   have hSd6 : Own _ _ _ (_ :: _ :: _ :: (L.eraseIdx k0).eraseIdx k1) := (Own.drop hS4 (k := 0) Z)
   refine ⟨_, ?_, i + 1, Z, AM hU1, Own.cast (Own.mono (hSd6) (Ar (ν := ν1) (a := [9, 0, 0, 1, 0]) (b := [1]) (by decide))) (Z), ?_, AU Z⟩
   · omega
   exact ⟨by omega, by rw [← hI, List.drop_eq_getElem_cons (by omega : i < S.rows.length), firstI, if_neg (by simp [Rw.same]; simp_all)]; push_cast; rfl⟩
  try simp only [bs] at h2
  refine AY (AQ (AN (Ag (Ac (Ab Z Z (EZ (c62 ..) Z (Ap (Ak (res1 Z (Ai Z)) ?_))))))))
  have e : S.at_ x = -1 := by { rw [← hI, List.drop_eq_nil_of_le (by omega)]; rfl }; rw [e] at hq; exact hq _ (Own.unpick2 h0 h1 (Own.drop0 (Own.mono hS2 (Ax (Bg (a := []) hU1 (Az (a := [1, 0, 1]) hp))))))
end
end Go.Proofs.YtfkgdlfponfimaaGreat.X
/- What the reference's oracle does: the writers. -/
set_option maxRecDepth 100000
namespace Go.Proofs.YtfkgdlfponfimaaGreat.X
open Go Go.RowKit
variable {ν β ps pos' : Nm} {H : Heap} {Q : AVal → Heap → Prop} {L : List Asr} {q : Nm} {k : Nat} {S : Rf}
theorem rDraw (hS : Own β ps H L) (hL : L[k]? = some (rorc q S)) (hle : le ps ν) (hβ : under β ν = true) (hp : before ν pos') (hn : S.le 4294967000) (x : Rw) (hq : ∀ H1, Own β pos' H1 (L.set k (rorc q (S.draw x))) → Q (.int .u64 S.next) H1) : CW cfg ν 127 [.ptr q 0 0, x.enc] H Q := by
  have hnr := hn.rows
  have hnb := hn.bads
  obtain ⟨D, R, M, hS⟩ := (hS.pick hL).un_rorc
  refine AX g127 F127 Z ?_
  replace hS := Own.mono hS hle
  refine Ac (AR hS (AE (p := ν) (b := [0, 0])) (Af [0, 0] hβ) Z Z Z ⟨Z, Z⟩ fun H1 (hS1 : Own _ _ _ (_ :: _ :: _ :: _ :: _ :: L.eraseIdx k)) => Ab Z Z (EZ (c64 ..) Z (Ac (Aa Z Z (AO Z Z (Al Z Z Z (EN (c64 ..) Z (Ad hS1 (k := 1) Z Z Z Z Z Z (BC hS1 (k := 3) Z Z Z Z Z Z (List.length_map _) (Ab Z Z (EZ (c64 ..) Z (Ac (Aa Z Z (Bc Z Z (Bm Z Z Z (IntWalk.u64_in _ (by omega))) (Ah Z Z Z Z (add_wu64 (by omega)) (EN (c64 ..) Z (Al Z Z Z (Av hS1 (k := 0) Z (Ar (ν := ν) (a := [1, 0]) (b := [4, 0, 1, 1]) (by decide)) Z Z Z Z ⟨Z, Z, Nat.le_of_ble_eq_true Z⟩ (u2 := .agg [_, _, _, _, _, _]) Z fun H2 (hS2 : Own _ _ _ (_ :: _ :: _ :: _ :: _ :: L.eraseIdx k)) => EZ (c64 ..) Z (XW_mid (M := fun ee H' => ∃ (h : Int) (D : AVal), Own β (1 :: 1 :: 1 :: 1 :: ν) H' (row (0 :: 0 :: ν) 6 [.agg [.int .i64 x.t, .int .u64 x.k, .int .u64 x.n, .str x.a, .str x.b, .int .u64 h]] :: row q 4 [.agg [D, R, M, .int .i64 S.bads]] :: sl D 1 (S.draws.map eU) :: sl R 6 (S.rows.map Rw.enc) :: sl M 1 (S.met.map eU) :: L.eraseIdx k) ∧ (h = S.next) ∧ ∃ g : Nat → AVal, ee = [.ptr q 0 0, g 1, g 2, .ptr (0 :: 0 :: ν) 0 0, g 4, .int .i64 S.rows.length, g 6, g 7, g 8, g 9, g 10, g 11, g 12, g 13, g 14, g 15, g 16, g 17, g 18, g 19, g 20, g 21, g 22, g 23, g 24, g 25, g 26, g 27, g 28, g 29, g 30, g 31, g 32, g 33, g 34, g 35, g 36, g 37, g 38, g 39, g 40, g 41, g 42, g 43, g 44, g 45, g 46, g 47, g 48, g 49, g 50, g 51, g 52, g 53, g 54, g 55, g 56, g 57, g 58, g 59, g 60, g 61, g 62, g 63]) ?_ ?_)))))))))))))))))))
  ·skip
   refine Ac (Aa Z Z (Aa Z Z (AO Z Z (EN (c64 ..) Z (Al Z Z Z (Ad hS2 (k := 1) Z Z Z Z Z Z (BC hS2 (k := 2) Z Z Z Z Z Z (List.length_map _) (EN (c64 ..) Z (Ah Z Z Z Z Z (EZ (c64 ..) Z (AH Z (fun h3 => ?_) (fun h3 => ?_))))))))))))
   ·try simp only [bs] at h3
    refine AC (Aa Z Z (AO Z Z (Al Z Z Z (EN (c64 ..) Z (Ad hS2 (k := 1) Z Z Z Z Z Z (Aa Z Z (Bi hS2 (k := 2) Z Z Z Z Z Z Z Z Z (Ba (by omega)) fun q1 ys1 hO1 hq1 ht1 hy1 hu1 => ?_)))))))
    subst hO1
    refine EN (c64 ..) Z (Bo Z Z hq1 hy1 Z Z (Al Z Z Z (Av hS2 (k := 0) Z (Ar (ν := ν) (a := [5, 0, 1, 1]) (b := [8, 1, 0, 1, 1, 1]) (by decide)) Z Z Z Z ⟨Z, Z, Nat.le_of_ble_eq_true Z⟩ (u2 := .agg [_, _, _, _, _, _]) Z fun H3 (hS3 : Own _ _ _ (_ :: _ :: _ :: _ :: _ :: L.eraseIdx k)) => EZ (c64 ..) Z (⟨_, _, Own.cast (Own.mono (hS3) (Ar (ν := ν) (a := [9, 1, 0, 1, 1, 1]) (b := [1, 1, 1, 1]) (by decide))) (Z), ?_, AU Z⟩))))
    simp only [Rf.next]; rw [List.getElem?_eq_getElem (by omega)]
   try simp only [bs] at h3
   refine At (⟨_, _, Own.cast (Own.mono (hS2) (Ar (ν := ν) (a := [5, 0, 1, 1]) (b := [1, 1, 1, 1]) (by decide))) (Z), ?_, AU Z⟩)
   simp only [Rf.next]; rw [List.getElem?_eq_none (by omega)]
  rintro ee H4 ⟨h, D, hS4, hh, g1, rfl⟩
  refine Aq (Ac (Al Z Z Z (Ad hS4 (k := 0) Z Z Z Z Z Z (Ah Z Z Z Z Z (EN (c64 ..) Z (Aa Z Z (AT (tt := 33) Z (fun g5_4 => ?_) (fun g5_4 => ?_))))))))
  ·try simp only [bs] at g5_4
   refine An Z (EN (c64 ..) Z (An Z (An Z (An Z (EN (c64 ..) Z (Aw Z Z Z (Aa Z Z (An Z (EN (c64 ..) Z (An Z (An Z (An Z (EN (c64 ..) Z (Aw Z Z Z (EZ (c64 ..) Z (AZ Z Z (AC (Aa Z Z (AO Z Z (Al Z Z Z (EN (c64 ..) Z (Ad hS4 (k := 1) Z Z Z Z Z Z (Ah Z Z Z Z (AW (by omega)) (AO Z Z (EN (c64 ..) Z (Al Z Z Z (Av hS4 (k := 1) Z (AE (p := 1 :: 1 :: 1 :: 1 :: ν) (b := [7, 1, 0])) Z Z Z Z ⟨Z, Z, Nat.le_of_ble_eq_true Z⟩ (u2 := .agg [_, _, _, _]) Z fun H5 (hS5 : Own _ _ _ (_ :: _ :: _ :: _ :: _ :: L.eraseIdx k)) => EZ (c64 ..) Z (Ag (Ac (Aa Z Z (Aa Z Z (AO Z Z (EN (c64 ..) Z (Al Z Z Z (Ad hS5 (k := 1) Z Z Z Z Z Z (Ad hS5 (k := 0) Z Z Z Z Z (Aj Z Z Z) (EN (c64 ..) Z (Bq Z Z (v := .lst [_]) Z (Bz hS5 (k := 3) Z (Ar (ν := ν) (a := [8, 1, 0, 1, 1, 1, 1]) (b := [7, 0, 1, 1, 1, 1, 1]) (by decide)) (Af [7, 0, 1, 1, 1, 1, 1] hβ) Z Z Z Z Z Z Z Z Z (Br Z) (by (simp only [ss]; omega)) (by decide) fun O1 H6 (hS6 : Own _ _ _ (_ :: _ :: _ :: _ :: _ :: L.eraseIdx k)) => ?_)))))))))))))))))))))))))))))))))))))))
   refine AO Z Z (EN (c64 ..) Z (Al Z Z Z (Bs hS6 (k := 1) Z (Ar (ν := ν) (a := [8, 0, 1, 1, 1, 1, 1]) (b := [10, 0, 1, 1, 1, 1, 1]) (by decide)) Z Z Z (hS6.one (k := 3) Z) Z Z (Nat.le_of_ble_eq_true Z) (u2 := .agg [_, _, _, _]) Z fun H7 (hS7 : Own _ _ _ (_ :: _ :: _ :: _ :: _ :: L.eraseIdx k)) => EZ (c64 ..) Z (Ac (Al Z Z Z (Ad hS7 (k := 0) Z Z Z Z Z Z (Ab Z Z (EZ (c64 ..) Z (Ap (Ak (res1 Z (Ai Z)) ?_))))))))))
   rw [← hh] at hq; exact hq _ (Own.unpick (Own.re (Own.mk_rorc (m := S.bads + 1) (rs := S.rows ++ [Rw.mk x.t x.k x.n x.a x.b h]) (mt := S.met) (Own.drop0 (Own.mono hS7 (Ax (Az (a := [11, 0, 1, 1, 1, 1, 1]) hp)))) (by simp) (by exact map_snoc (f := Rw.enc) (l := S.rows) (a := Rw.mk x.t x.k x.n x.a x.b h)) rfl) (by simp only [Rf.draw, ← hh]; rw [show S.isBad h = true by simp [Rf.isBad]; simp_all]; rfl)) hL)
  try simp only [bs] at g5_4
  refine Aa Z Z (EN (c64 ..) Z (Al Z Z Z (Ad hS4 (k := 0) Z Z Z Z Z Z (AB Z Z (rIssued (S := S) hS4 (k0 := 1) Z (k1 := 2) Z (AE (p := 1 :: 1 :: 1 :: 1 :: ν) (b := [7, 0, 0])) (Af [7, 0, 0, 1, 1, 1, 1] hβ) (Au (ν := ν) (a := [7, 0, 0, 1, 1, 1, 1]) (b := [8, 0, 0, 1, 1, 1, 1]) (by decide)) hn _ fun H8 hS8 => ?_) ))))
  replace hS8 : Own _ _ _ (_ :: _ :: _ :: _ :: _ :: L.eraseIdx k) := hS8
  refine EN (c64 ..) Z (Aw Z Z Z (Aa Z Z (AT (tt := 39) Z (fun g5_10 => ?_) (fun g5_10 => ?_))))
  ·try simp only [bs] at g5_10
   refine EN (c64 ..) Z (An Z (An Z (An Z (EN (c64 ..) Z (An Z (Aw Z Z Z (EZ (c64 ..) Z (AZ Z Z (AC (Aa Z Z (AO Z Z (Al Z Z Z (EN (c64 ..) Z (Ad hS8 (k := 1) Z Z Z Z Z Z (Ah Z Z Z Z (AW (by omega)) (AO Z Z (EN (c64 ..) Z (Al Z Z Z (Av hS8 (k := 1) Z (Ar (ν := ν) (a := [8, 0, 0, 1, 1, 1, 1]) (b := [7, 1, 0, 1, 1, 1, 1]) (by decide)) Z Z Z Z ⟨Z, Z, Nat.le_of_ble_eq_true Z⟩ (u2 := .agg [_, _, _, _]) Z fun H9 (hS9 : Own _ _ _ (_ :: _ :: _ :: _ :: _ :: L.eraseIdx k)) => EZ (c64 ..) Z (Ag (Ac (Aa Z Z (Aa Z Z (AO Z Z (EN (c64 ..) Z (Al Z Z Z (Ad hS9 (k := 1) Z Z Z Z Z Z (Ad hS9 (k := 0) Z Z Z Z Z (Aj Z Z Z) (EN (c64 ..) Z (Bq Z Z (v := .lst [_]) Z (Bz hS9 (k := 3) Z (Ar (ν := ν) (a := [8, 1, 0, 1, 1, 1, 1]) (b := [7, 0, 1, 1, 1, 1, 1]) (by decide)) (Af [7, 0, 1, 1, 1, 1, 1] hβ) Z Z Z Z Z Z Z Z Z (Br Z) (by (simp only [ss]; omega)) (by decide) fun O2 H10 (hS10 : Own _ _ _ (_ :: _ :: _ :: _ :: _ :: L.eraseIdx k)) => ?_)))))))))))))))))))))))))))))))
   refine AO Z Z (EN (c64 ..) Z (Al Z Z Z (Bs hS10 (k := 1) Z (Ar (ν := ν) (a := [8, 0, 1, 1, 1, 1, 1]) (b := [10, 0, 1, 1, 1, 1, 1]) (by decide)) Z Z Z (hS10.one (k := 3) Z) Z Z (Nat.le_of_ble_eq_true Z) (u2 := .agg [_, _, _, _]) Z fun H11 (hS11 : Own _ _ _ (_ :: _ :: _ :: _ :: _ :: L.eraseIdx k)) => EZ (c64 ..) Z (Ac (Al Z Z Z (Ad hS11 (k := 0) Z Z Z Z Z Z (Ab Z Z (EZ (c64 ..) Z (Ap (Ak (res1 Z (Ai Z)) ?_))))))))))
   rw [← hh] at hq; exact hq _ (Own.unpick (Own.re (Own.mk_rorc (m := S.bads + 1) (rs := S.rows ++ [Rw.mk x.t x.k x.n x.a x.b h]) (mt := S.met) (Own.drop0 (Own.mono hS11 (Ax (Az (a := [11, 0, 1, 1, 1, 1, 1]) hp)))) (by simp) (by exact map_snoc (f := Rw.enc) (l := S.rows) (a := Rw.mk x.t x.k x.n x.a x.b h)) rfl) (by simp only [Rf.draw, ← hh]; rw [show S.isBad h = true by simp [Rf.isBad]; simp_all]; rfl)) hL)
  try simp only [bs] at g5_10
  refine EN (c64 ..) Z (Aa Z Z (Al Z Z Z (Ad hS8 (k := 0) Z Z Z Z Z Z (EN (c64 ..) Z (AB Z Z (rShown (S := S) hS8 (k0 := 1) Z (k1 := 3) Z (Ar (ν := ν) (a := [8, 0, 0, 1, 1, 1, 1]) (b := [13, 0, 0, 1, 1, 1, 1]) (by decide)) (Af [13, 0, 0, 1, 1, 1, 1] hβ) (Au (ν := ν) (a := [13, 0, 0, 1, 1, 1, 1]) (b := [14, 0, 0, 1, 1, 1, 1]) (by decide)) hn _ fun H12 hS12 => ?_) )))))
  replace hS12 : Own _ _ _ (_ :: _ :: _ :: _ :: _ :: L.eraseIdx k) := hS12
  refine Aw Z Z Z (EZ (c64 ..) Z (AH Z (fun h5 => ?_) (fun h5 => ?_)))
  ·try simp only [bs] at h5
   refine AC (Aa Z Z (AO Z Z (Al Z Z Z (EN (c64 ..) Z (Ad hS12 (k := 1) Z Z Z Z Z Z (Ah Z Z Z Z (AW (by omega)) (AO Z Z (EN (c64 ..) Z (Al Z Z Z (Av hS12 (k := 1) Z (Ar (ν := ν) (a := [14, 0, 0, 1, 1, 1, 1]) (b := [7, 1, 0, 1, 1, 1, 1]) (by decide)) Z Z Z Z ⟨Z, Z, Nat.le_of_ble_eq_true Z⟩ (u2 := .agg [_, _, _, _]) Z fun H13 (hS13 : Own _ _ _ (_ :: _ :: _ :: _ :: _ :: L.eraseIdx k)) => EZ (c64 ..) Z (Ag (Ac (Aa Z Z (Aa Z Z (AO Z Z (EN (c64 ..) Z (Al Z Z Z (Ad hS13 (k := 1) Z Z Z Z Z Z (Ad hS13 (k := 0) Z Z Z Z Z (Aj Z Z Z) (EN (c64 ..) Z (Bq Z Z (v := .lst [_]) Z (Bz hS13 (k := 3) Z (Ar (ν := ν) (a := [8, 1, 0, 1, 1, 1, 1]) (b := [7, 0, 1, 1, 1, 1, 1]) (by decide)) (Af [7, 0, 1, 1, 1, 1, 1] hβ) Z Z Z Z Z Z Z Z Z (Br Z) (by (simp only [ss]; omega)) (by decide) fun O3 H14 (hS14 : Own _ _ _ (_ :: _ :: _ :: _ :: _ :: L.eraseIdx k)) => AO Z Z (EN (c64 ..) Z (Al Z Z Z (Bs hS14 (k := 1) Z (Ar (ν := ν) (a := [8, 0, 1, 1, 1, 1, 1]) (b := [10, 0, 1, 1, 1, 1, 1]) (by decide)) Z Z Z (hS14.one (k := 3) Z) Z Z (Nat.le_of_ble_eq_true Z) (u2 := .agg [_, _, _, _]) Z fun H15 (hS15 : Own _ _ _ (_ :: _ :: _ :: _ :: _ :: L.eraseIdx k)) => ?_)))))))))))))))))))))))))
   refine EZ (c64 ..) Z (Ac (Al Z Z Z (Ad hS15 (k := 0) Z Z Z Z Z Z (Ab Z Z (EZ (c64 ..) Z (Ap (Ak (res1 Z (Ai Z)) ?_)))))))
   rw [← hh] at hq; exact hq _ (Own.unpick (Own.re (Own.mk_rorc (m := S.bads + 1) (rs := S.rows ++ [Rw.mk x.t x.k x.n x.a x.b h]) (mt := S.met) (Own.drop0 (Own.mono hS15 (Ax (Az (a := [11, 0, 1, 1, 1, 1, 1]) hp)))) (by simp) (by exact map_snoc (f := Rw.enc) (l := S.rows) (a := Rw.mk x.t x.k x.n x.a x.b h)) rfl) (by simp only [Rf.draw, ← hh]; rw [show S.isBad h = true by simp [Rf.isBad]; simp_all]; rfl)) hL)
  try simp only [bs] at h5
  refine At (Ag (Ac (Aa Z Z (Aa Z Z (AO Z Z (EN (c64 ..) Z (Al Z Z Z (Ad hS12 (k := 1) Z Z Z Z Z Z (Ad hS12 (k := 0) Z Z Z Z Z (Aj Z Z Z) (EN (c64 ..) Z (Bq Z Z (v := .lst [_]) Z (Bz hS12 (k := 3) Z (Ar (ν := ν) (a := [14, 0, 0, 1, 1, 1, 1]) (b := [7, 0, 1, 1, 1, 1, 1]) (by decide)) (Af [7, 0, 1, 1, 1, 1, 1] hβ) Z Z Z Z Z Z Z Z Z (Br Z) (by (simp only [ss]; omega)) (by decide) fun O4 H16 (hS16 : Own _ _ _ (_ :: _ :: _ :: _ :: _ :: L.eraseIdx k)) => AO Z Z (EN (c64 ..) Z (Al Z Z Z (Bs hS16 (k := 1) Z (Ar (ν := ν) (a := [8, 0, 1, 1, 1, 1, 1]) (b := [10, 0, 1, 1, 1, 1, 1]) (by decide)) Z Z Z (hS16.one (k := 3) Z) Z Z (Nat.le_of_ble_eq_true Z) (u2 := .agg [_, _, _, _]) Z fun H17 (hS17 : Own _ _ _ (_ :: _ :: _ :: _ :: _ :: L.eraseIdx k)) => EZ (c64 ..) Z (Ac (Al Z Z Z (Ad hS17 (k := 0) Z Z Z Z Z Z (Ab Z Z (EZ (c64 ..) Z (Ap (Ak (res1 Z (Ai Z)) ?_))))))))))))))))))))))
  rw [← hh] at hq; exact hq _ (Own.unpick (Own.re (Own.mk_rorc (m := S.bads) (rs := S.rows ++ [Rw.mk x.t x.k x.n x.a x.b h]) (mt := S.met) (Own.drop0 (Own.mono hS17 (Ax (Az (a := [11, 0, 1, 1, 1, 1, 1]) hp)))) (by simp) (by exact map_snoc (f := Rw.enc) (l := S.rows) (a := Rw.mk x.t x.k x.n x.a x.b h)) rfl) (by simp only [Rf.draw, ← hh]; rw [show S.isBad h = false by simp [Rf.isBad]; simp_all]; rfl)) hL)
theorem rMeet (hS : Own β ps H L) (hL : L[k]? = some (rorc q S)) (hle : le ps ν) (hβ : under β ν = true) (hp : before ν pos') (hn : S.le 4294967000) (h : Int) (hq : ∀ H1, Own β pos' H1 (L.set k (rorc q (S.meet h))) → Q (.tup []) H1) : CW cfg ν 131 [.ptr q 0 0, .int .u64 h] H Q := by
  have hnm := hn.met
  obtain ⟨D, R, M, hS⟩ := (hS.pick hL).un_rorc
  refine AX g131 F131 Z ?_
  replace hS := Own.mono hS hle
  refine Ac (Aa Z Z (Aa Z Z (AB Z Z (rIssued (S := S) hS (k0 := 0) Z (k1 := 1) Z (AE (p := ν) (b := [2, 0])) (Af [2, 0] hβ) (Au (ν := ν) (a := [2, 0]) (b := [3, 0]) (by decide)) hn _ fun H1 hS1 => ?_) )))
  replace hS1 : Own _ _ _ (_ :: _ :: _ :: _ :: L.eraseIdx k) := hS1
  refine Ay (e' := [_,_,_,_,_,_,_,_,_,_,_,_,_,_,_,_,_,_]) Z (BE Z Z Z (Am (e' := [_,_,_,_,_,_,_,_,_,_,_,_,_,_,_,_,_,_]) Z (AH Z (fun h0 => ?_) (fun h0 => ?_))))
  ·try simp only [bs] at h0
   refine AC (Aa Z Z (Aa Z Z (AO Z Z (Ay (e' := [_,_,_,_,_,_,_,_,_,_,_,_,_,_,_,_,_,_]) Z (Al Z Z Z (Ad hS1 (k := 0) Z Z Z Z Z Z (Aa Z Z (Ay (e' := [_,_,_,_,_,_,_,_,_,_,_,_,_,_,_,_,_,_]) Z (Bq Z Z (v := .lst [_]) Z (Bz hS1 (k := 3) Z (Ar (ν := ν) (a := [3, 0]) (b := [7, 1]) (by decide)) (Af [7, 1] hβ) Z Z Z Z Z Z Z Z Z (Br Z) (by (simp only [ss]; omega)) (by decide) fun O1 H2 (hS2 : Own _ _ _ (_ :: _ :: _ :: _ :: L.eraseIdx k)) => AO Z Z (Ay (e' := [_,_,_,_,_,_,_,_,_,_,_,_,_,_,_,_,_,_]) Z (Al Z Z Z (Bs hS2 (k := 0) Z (Ar (ν := ν) (a := [8, 1]) (b := [10, 1]) (by decide)) Z Z Z (hS2.one (k := 3) Z) Z Z (Nat.le_of_ble_eq_true Z) (u2 := .agg [_, _, _, _]) Z fun H3 (hS3 : Own _ _ _ (_ :: _ :: _ :: _ :: L.eraseIdx k)) => Am (e' := [_,_,_,_,_,_,_,_,_,_,_,_,_,_,_,_,_,_]) Z (ret_norm ((res0 Z)) ?_))))))))))))))
   exact hq _ (Own.unpick (Own.re (Own.mk_rorc (m := S.bads) (rs := S.rows) (mt := S.met ++ [h]) (Own.mono hS3 (Ax (Az (a := [11, 1]) hp))) rfl rfl (map_snoc (f := eU) (l := S.met) (a := h))) (by simp [Rf.meet, h0])) hL)
  try simp only [bs] at h0
  refine At (ret_norm ((res0 Z)) ?_)
  exact hq _ (Own.unpick (Own.re (Own.mk_rorc (m := S.bads) (rs := S.rows) (mt := S.met) (Own.mono hS1 (Ax (Az (a := [3, 0]) hp))) rfl rfl rfl) (by simp [Rf.meet, h0])) hL)
theorem rBad (hS : Own β ps H L) (hL : L[k]? = some (rorc q S)) (hle : le ps ν) (hβ : under β ν = true) (hp : before ν pos') (hq : ∀ H1, Own β pos' H1 L → Q (.bool (decide (S.bads > 0))) H1) : CW cfg ν 16 [.ptr q 0 0] H Q := by
  obtain ⟨D, R, M, hS⟩ := (hS.pick hL).un_rorc
  refine AX g16 F16 Z ?_
  replace hS := Own.mono hS hle
  refine Ac (Ab Z Z ?_)
  refine Am (e' := [_,_,_,_,_,_,_,_]) Z ?_
  refine Ac (Aa Z Z (AO Z Z (Al Z Z Z ?_)))
  refine Ay (e' := [_,_,_,_,_,_,_,_]) Z ?_
  refine Ad hS (k := 0) Z Z Z Z Z (by rfl) ?_
  refine Ah Z Z Z Z Z ?_
  refine Ab Z Z ?_
  refine Am (e' := [_,_,_,_,_,_,_,_]) Z ?_
  refine Ap ?_
  refine Ak (res1 Z (Ai Z)) ?_
  refine qcast (hq _ (Own.cast (Own.unpick (Own.mk_rorc (m := S.bads) (Own.mono hS (Ax hp)) Z) hL) (Bn hL))) ?_; congr 1; simp
theorem Rf.at_cases (S : Rf) (x : Rw) : (S.rows.find? (fun y => x.same y) = none ∧ S.at_ x = -1) ∨ ∃ (i : Nat) (h : i < S.rows.length), S.rows.find? (fun y => x.same y) = some S.rows[i] ∧ S.at_ x = i := by
  have hat := find_first (fun y => x.same y) S.rows 0 (by omega)
  rw [show firstI (fun y => x.same y) S.rows 0 = S.at_ x from rfl] at hat
  simpa using hat
theorem Rf.at_lt {S : Rf} {x : Rw} (h : S.at_ x ≥ 0) : (S.at_ x).toNat < S.rows.length := by
  rcases S.at_cases x with ⟨_, h1⟩ | ⟨i, h3, _, h1⟩ <;> omega
theorem Rf.at_old {S : Rf} {x : Rw} (h : S.at_ x ≥ 0) (hlt : (S.at_ x).toNat < S.rows.length) : S.rows.find? (fun y => x.same y) = some S.rows[(S.at_ x).toNat] := by
  rcases S.at_cases x with ⟨_, h1⟩ | ⟨i, h3, h2, h1⟩
  · omega
  rw [h2]; simp only [h1, Int.toNat_natCast]
theorem Rf.at_new {S : Rf} {x : Rw} (h : ¬ S.at_ x ≥ 0) : S.rows.find? (fun y => x.same y) = none := by
  rcases S.at_cases x with ⟨h2, h1⟩ | ⟨i, h3, h2, h1⟩
  · exact h2
  omega
theorem rDrawO {D R M : AVal} (hS : Own β ps H (row q 4 [.agg [D, R, M, .int .i64 S.bads]] :: sl D 1 (S.draws.map eU) :: sl R 6 (S.rows.map Rw.enc) :: sl M 1 (S.met.map eU) :: L)) (hle : le ps ν) (hβ : under β ν = true) (hp : before ν pos') (hn : S.le 4294967000) (x : Rw) (hq : ∀ H1 D R M, Own β pos' H1 (row q 4 [.agg [D, R, M, .int .i64 (S.draw x).bads]] :: sl D 1 ((S.draw x).draws.map eU) :: sl R 6 ((S.draw x).rows.map Rw.enc) :: sl M 1 ((S.draw x).met.map eU) :: L) → Q (.int .u64 S.next) H1) : CW cfg ν 127 [.ptr q 0 0, x.enc] H Q :=
  rDraw (L := rorc q S :: L) (k := 0) (Own.mk_rorc (m := S.bads) hS rfl) rfl hle hβ hp hn x fun H1 h1 => by
    obtain ⟨D, R, M, h1⟩ := Own.un_rorc h1
    exact hq _ _ _ _ h1
theorem rMeetO {D R M : AVal} (hS : Own β ps H (row q 4 [.agg [D, R, M, .int .i64 S.bads]] :: sl D 1 (S.draws.map eU) :: sl R 6 (S.rows.map Rw.enc) :: sl M 1 (S.met.map eU) :: L)) (hle : le ps ν) (hβ : under β ν = true) (hp : before ν pos') (hn : S.le 4294967000) (h : Int) (hq : ∀ H1 D R M, Own β pos' H1 (row q 4 [.agg [D, R, M, .int .i64 (S.meet h).bads]] :: sl D 1 ((S.meet h).draws.map eU) :: sl R 6 ((S.meet h).rows.map Rw.enc) :: sl M 1 ((S.meet h).met.map eU) :: L) → Q (.tup []) H1) : CW cfg ν 131 [.ptr q 0 0, .int .u64 h] H Q :=
  rMeet (L := rorc q S :: L) (k := 0) (Own.mk_rorc (m := S.bads) hS rfl) rfl hle hβ hp hn h fun H1 h1 => by
    obtain ⟨D, R, M, h1⟩ := Own.un_rorc h1
    exact hq _ _ _ _ h1
theorem rDrawX {X : Asr} {D R M : AVal} (hS : Own β ps H (X :: row q 4 [.agg [D, R, M, .int .i64 S.bads]] :: sl D 1 (S.draws.map eU) :: sl R 6 (S.rows.map Rw.enc) :: sl M 1 (S.met.map eU) :: L)) (hle : le ps ν) (hβ : under β ν = true) (hp : before ν pos') (hn : S.le 4294967000) (x : Rw) (hq : ∀ H1 D R M, Own β pos' H1 (X :: row q 4 [.agg [D, R, M, .int .i64 (S.draw x).bads]] :: sl D 1 ((S.draw x).draws.map eU) :: sl R 6 ((S.draw x).rows.map Rw.enc) :: sl M 1 ((S.draw x).met.map eU) :: L) → Q (.int .u64 S.next) H1) : CW cfg ν 127 [.ptr q 0 0, x.enc] H Q :=
  rDrawO (L := X :: L) (Own.rot (A := [_, _, _, _]) hS) hle hβ hp hn x fun H1 D R M h1 => hq _ _ _ _ (Own.tor (A := [_, _, _, _]) h1)
theorem rValue (hS : Own β ps H L) (hL : L[k]? = some (rorc q S)) (hle : le ps ν) (hβ : under β ν = true) (hp : before ν pos') (hn : S.le 4294967000) (x : Rw) (hq : ∀ H1, Own β pos' H1 (L.set k (rorc q (S.value x).2)) → Q (.int .u64 (S.value x).1) H1) : CW cfg ν 116 [.ptr q 0 0, x.enc] H Q := by
  have hnr := hn.rows
  obtain ⟨D, R, M, hS⟩ := (hS.pick hL).un_rorc
  refine AX g116 F116 Z ?_
  replace hS := Own.mono hS hle
  refine Ac (AR hS (AE (p := ν) (b := [0, 0])) (Af [0, 0] hβ) Z Z Z ⟨Z, Z⟩ fun H1 (hS1 : Own _ _ _ (_ :: _ :: _ :: _ :: _ :: L.eraseIdx k)) => Ab Z Z (Am (e' := [_,_,_,_,_,_,_,_,_,_,_,_,_,_,_,_,_,_,_,_,_,_]) Z (Ac (Aa Z Z (Ad hS1 (k := 0) Z Z Z Z Z (Aj Z Z Z) (AB Z Z (rAt (S := S) hS1 (k0 := 1) Z (k1 := 2) Z (Ar (ν := ν) (a := [1, 0]) (b := [2, 0, 1]) (by decide)) (Af [2, 0, 1] hβ) (Au (ν := ν) (a := [2, 0, 1]) (b := [3, 0, 1]) (by decide)) hn _ fun H2 hS2 => ?_) ))))))
  replace hS2 : Own _ _ _ (_ :: _ :: _ :: _ :: _ :: L.eraseIdx k) := hS2
  refine Ay (e' := [_,_,_,_,_,_,_,_,_,_,_,_,_,_,_,_,_,_,_,_,_,_]) Z (Ab Z Z (Am (e' := [_,_,_,_,_,_,_,_,_,_,_,_,_,_,_,_,_,_,_,_,_,_]) Z (Aq (Ac (Aa Z Z (Ah Z Z Z Z Z (Am (e' := [_,_,_,_,_,_,_,_,_,_,_,_,_,_,_,_,_,_,_,_,_,_]) Z (AH Z (fun h2 => ?_) (fun h2 => ?_)))))))))
  ·try simp only [bs] at h2
   refine Ac ?_
   have hlt := Rf.at_lt h2
   refine Aa Z Z (AO Z Z (Al Z Z Z (Ay (e' := [_,_,_,_,_,_,_,_,_,_,_,_,_,_,_,_,_,_,_,_,_,_]) Z (Ad hS2 (k := 1) Z Z Z Z Z Z (Aa Z Z (Bi hS2 (k := 3) Z Z Z Z Z Z Z Z ((Int.toNat_of_nonneg (by omega)).symm) (Ba (by assumption)) fun q1 ys1 hO1 hq1 ht1 hy1 hu1 => ?_))))))
   subst hO1
   refine Ay (e' := [_,_,_,_,_,_,_,_,_,_,_,_,_,_,_,_,_,_,_,_,_,_]) Z (Al Z Z Z (Bo Z Z hq1 hy1 Z Z (Ab Z Z (Am (e' := [_,_,_,_,_,_,_,_,_,_,_,_,_,_,_,_,_,_,_,_,_,_]) Z (Ap (Ao (Ak (res1 Z (Ai Z)) ?_)))))))
   simp only [Rf.value, Rf.at_old h2 hlt] at hq; exact hq _ (Own.unpick (Own.mk_rorc (m := S.bads) (Own.drop0 (Own.mono hS2 (Ax (Az (a := [3, 0, 1]) hp)))) rfl) hL)
  try simp only [bs] at h2
  refine At (Ag (Ac (Aa Z Z (Ad hS2 (k := 0) Z Z Z Z Z (Aj Z Z Z) (AB Z Z (rDrawX hS2 (Ar (ν := ν) (a := [3, 0, 1]) (b := [2, 0, 1, 1, 1]) (by decide)) (Af [2, 0, 1, 1, 1] hβ) (Au (ν := ν) (a := [2, 0, 1, 1, 1]) (b := [3, 0, 1, 1, 1]) (by decide)) hn _ fun H3 D1 R1 M1 hS3 => ?_) )))))
  replace hS3 : Own _ _ _ (_ :: _ :: _ :: _ :: _ :: L.eraseIdx k) := hS3
  refine Ay (e' := [_,_,_,_,_,_,_,_,_,_,_,_,_,_,_,_,_,_,_,_,_,_]) Z (Ab Z Z (Am (e' := [_,_,_,_,_,_,_,_,_,_,_,_,_,_,_,_,_,_,_,_,_,_]) Z (Ap (Ak (res1 Z (Ai Z)) ?_))))
  simp only [Rf.value, Rf.at_new h2] at hq; exact hq _ (Own.unpick (Own.mk_rorc (m := (S.draw x).bads) (Own.drop0 (Own.mono hS3 (Ax (Az (a := [3, 0, 1, 1, 1]) hp)))) rfl) hL)
theorem rVerify (hS : Own β ps H L) (hL : L[k]? = some (rorc q S)) (hle : le ps ν) (hβ : under β ν = true) (hp : before ν pos') (hn : S.le 4294967000) (kk : Int) (a : ByteArray) (t : Int) (hq : ∀ H1, Own β pos' H1 (L.set k (rorc q (S.verify kk a t).2)) → Q (.bool (S.verify kk a t).1) H1) : CW cfg ν 121 [.ptr q 0 0, .int .u64 kk, .str a, .int .u64 t] H Q := by
  have hnr := hn.rows
  obtain ⟨D, R, M, hS⟩ := (hS.pick hL).un_rorc
  refine AX g121 F121 Z ?_
  replace hS := Own.mono hS hle
  refine Ac (Ab Z Z (EZ (c32 ..) Z (Ac (Aa Z Z (Aa Z Z (Aa Z Z (EN (c32 ..) Z (BF Z Z (v := .agg [_, _, _, _, _, _]) Z (AB Z Z (rAt (S := S) hS (k0 := 0) Z (k1 := 1) Z (AE (p := ν) (b := [4, 0, 1])) (Af [4, 0, 1] hβ) (Au (ν := ν) (a := [4, 0, 1]) (b := [5, 0, 1]) (by decide)) hn ⟨2, kk, 0, a, ⟨#[]⟩, 0⟩ fun H1 hS1 => ?_) )))))))))
  replace hS1 : Own _ _ _ (_ :: _ :: _ :: _ :: L.eraseIdx k) := hS1
  refine Ab Z Z (EZ (c32 ..) Z (Aq (Ac (Aa Z Z (Ah Z Z Z Z Z (Aa Z Z (EN (c32 ..) Z (AT (tt := 17) Z (fun g2_3 => ?_) (fun g2_3 => ?_)))))))))
  ·try simp only [bs] at g2_3
   refine Aa Z Z (AO Z Z (EN (c32 ..) Z (Al Z Z Z (Ad hS1 (k := 0) Z Z Z Z Z Z (Aa Z Z (EN (c32 ..) Z ?_))))))
   have hlt := Rf.at_lt g2_3
   refine Bi hS1 (k := 2) Z Z Z Z Z Z Z Z ((Int.toNat_of_nonneg (by omega)).symm) (Ba (by assumption)) fun q1 ys1 hO1 hq1 ht1 hy1 hu1 => ?_
   subst hO1
   refine Al Z Z Z (Bo Z Z hq1 hy1 Z Z (EN (c32 ..) Z (Aa Z Z (Ah Z Z Z Z Z (Aw Z Z Z (EZ (c32 ..) Z (AH Z (fun h2 => ?_) (fun h2 => ?_))))))))
   ·try simp only [bs] at h2
    refine Ac (Ab Z Z (EZ (c32 ..) Z (Ap (Ao (Ak (res1 Z (Ai Z)) ?_)))))
    simp only [Rf.verify, Rf.at_old g2_3 hlt, h2, if_true] at hq; exact hq _ (Own.unpick (Own.mk_rorc (m := S.bads) (Own.mono hS1 (Ax (Az (a := [5, 0, 1]) hp))) rfl) hL)
   try simp only [bs] at h2
   refine At (Ag (Ac (Aa Z Z (Aa Z Z (AB Z Z (rMeetO hS1 (Ar (ν := ν) (a := [5, 0, 1]) (b := [2, 0, 1, 1, 1]) (by decide)) (Af [2, 0, 1, 1, 1] hβ) (Au (ν := ν) (a := [2, 0, 1, 1, 1]) (b := [3, 0, 1, 1, 1]) (by decide)) hn _ fun H2 D1 R1 M1 hS2 => ?_) )))))
   replace hS2 : Own _ _ _ (_ :: _ :: _ :: _ :: L.eraseIdx k) := hS2
   refine EZ (c32 ..) Z (Ac (Ab Z Z (EZ (c32 ..) Z (Ap (Ak (res1 Z (Ai Z)) ?_)))))
   simp only [Rf.verify, Rf.at_old g2_3 hlt, h2, if_false] at hq; exact hq _ (Own.unpick (Own.mk_rorc (m := (S.meet t).bads) (Own.mono hS2 (Ax (Az (a := [3, 0, 1, 1, 1]) hp))) rfl) hL)
  try simp only [bs] at g2_3
  refine An Z (An Z (EN (c32 ..) Z (An Z (An Z (An Z (EN (c32 ..) Z (An Z (An Z (An Z (EN (c32 ..) Z (An Z (An Z (Aw Z Z Z (EZ (c32 ..) Z (Bd Z Z (At (Ag (Ac (Aa Z Z (Aa Z Z (AB Z Z (rMeetO hS1 (Ar (ν := ν) (a := [5, 0, 1]) (b := [2, 0, 1, 1, 1]) (by decide)) (Af [2, 0, 1, 1, 1] hβ) (Au (ν := ν) (a := [2, 0, 1, 1, 1]) (b := [3, 0, 1, 1, 1]) (by decide)) hn _ fun H3 D2 R2 M2 hS3 => ?_) )))))))))))))))))))))
  replace hS3 : Own _ _ _ (_ :: _ :: _ :: _ :: L.eraseIdx k) := hS3
  refine EZ (c32 ..) Z (Ac (Ab Z Z (EZ (c32 ..) Z (Ap (Ak (res1 Z (Ai Z)) ?_)))))
  simp only [Rf.verify, Rf.at_new g2_3] at hq; exact hq _ (Own.unpick (Own.mk_rorc (m := (S.meet t).bads) (Own.mono hS3 (Ax (Az (a := [3, 0, 1, 1, 1]) hp))) rfl) hL)
end Go.Proofs.YtfkgdlfponfimaaGreat.X
/- What the reference's oracle does: any call, a new one. -/
set_option maxRecDepth 100000
namespace Go.Proofs.YtfkgdlfponfimaaGreat.X
open Go Go.RowKit
variable {ν β ps pos' : Nm} {H : Heap} {Q : AVal → Heap → Prop} {L : List Asr} {q : Nm} {k : Nat} {S : Rf}
theorem rMac (hS : Own β ps H L) (hL : L[k]? = some (rorc q S)) (hle : le ps ν) (hβ : under β ν = true) (hp : before ν pos') (hn : S.le 4294967000) (kk : Int) (a : ByteArray) (hq : ∀ H1, Own β pos' H1 (L.set k (rorc q (S.mac kk a).2)) → Q (.int .u64 (S.mac kk a).1) H1) : CW cfg ν 88 [.ptr q 0 0, .int .u64 kk, .str a] H Q := by
  replace hS := hS.pick hL
  refine AX g88 F88 Z ?_
  replace hS := Own.mono hS hle
  refine Ac (Ab Z Z (Am (e' := [_,_,_,_,_,_,_,_,_,_,_,_]) Z (Ac (Aa Z Z (Aa Z Z (Aa Z Z (Ay (e' := [_,_,_,_,_,_,_,_,_,_,_,_]) Z (BF Z Z (v := .agg [_, _, _, _, _, _]) Z (AB Z Z (rValue hS (k := 0) Z (AE (p := ν) (b := [4, 0, 1])) (Af [4, 0, 1] hβ) (Au (ν := ν) (a := [4, 0, 1]) (b := [5, 0, 1]) (by decide)) hn ⟨2, kk, 0, a, ⟨#[]⟩, 0⟩ fun H1 hS1 => ?_) )))))))))
  replace hS1 : Own _ _ _ (_ :: L.eraseIdx k) := hS1
  refine Ab Z Z (Am (e' := [_,_,_,_,_,_,_,_,_,_,_,_]) Z (Ap (Ak (res1 Z (Ai Z)) ?_)))
  exact hq _ (Own.unpick (Own.mono hS1 (Ax (Az (a := [5, 0, 1]) hp))) hL)
def Rf.act (S : Rf) (c : Ca) : Int × ByteArray × Bool × Rf :=
  if c.d = 0 then (S.next, ⟨#[]⟩, true, S.fresh)
  else if c.d = 1 then ((S.hash c.a).1, ⟨#[]⟩, true, (S.hash c.a).2)
  else if c.d = 2 then ((S.mac c.k c.a).1, ⟨#[]⟩, true, (S.mac c.k c.a).2)
  else if c.d = 3 then (0, ⟨#[]⟩, (S.verify c.k c.a c.h).1, (S.verify c.k c.a c.h).2)
  else if c.d = 4 then ((S.sealv c.k c.n c.a c.b).1, ⟨#[]⟩, true, (S.sealv c.k c.n c.a c.b).2)
  else if c.d = 5 then (0, (S.opens c.k c.n c.a c.h).1.1, (S.opens c.k c.n c.a c.h).1.2, (S.opens c.k c.n c.a c.h).2)
  else if c.d = 6 then (0, ⟨#[]⟩, false, S.meet c.h)
  else (0, ⟨#[]⟩, false, S)
def Rf.new (d : List Int) : Rf := ⟨d, [], [], 0⟩
theorem rNew (hS : Own β ps H L) (hle : le ps ν) (hβ : under β ν = true) (hp : before ν pos') {v : AVal} {d : List Int} (hv : Ls v (d.map Int.enc)) (hd : d.length ≤ 4294967000)
    (hq : ∀ q H1, Own β pos' H1 (rorc q (Rf.new d) :: L) → Q (.ptr q 0 0) H1) : CW cfg ν 8 [v] H Q := by
  refine AX g8 F8 Z ?_
  replace hS := Own.mono hS hle
  refine Ac (Ab Z Z (Am (e' := [_,_,_,_,_,_,_,_]) Z (Ac (Bq Z Z Z (Aa Z Z (BG hS (AE (p := ν) (b := [2, 0, 1])) (Af [2, 0, 1] hβ) Z Z Z Z Z Z Z Z (Ls.elems (by assumption)) (BA (fun _ => Z)) (by (simp only [ss]; omega)) (by decide) fun O1 H1 (hS1 : Own _ _ _ (_ :: L)) => ?_))))))
  refine Ay (e' := [_,_,_,_,_,_,_,_]) Z (OW_bdP Z (pcons Z (hS1.one (k := 0) Z).1 Z) Z Z Z (cs := [_, _, _, _]) (fill1 Z (hS1.one (k := 0) Z).2 Z (Nat.le_of_ble_eq_true Z) Z Z) (AR hS1 (Ar (ν := ν) (a := [3, 0, 1]) (b := [4, 0, 1]) (by decide)) (Af [4, 0, 1] hβ) Z Z Z ⟨Z, Z⟩ fun H2 (hS2 : Own _ _ _ (_ :: _ :: L)) => Ab Z Z (Am (e' := [_,_,_,_,_,_,_,_]) Z (Ap (Ak (res1 Z (Ai Z)) ?_)))))
  exact hq _ _ (Own.mk_rorc (m := 0) (d := d) (rs := []) (mt := []) (Own.tor (A := [_, _, _]) (Own.tor (A := [_, _, _]) (Own.addE (w := 6) (Own.addE (w := 1) (Own.mono hS2 (Ax (Az (a := [5, 0, 1]) hp))))))) rfl rfl rfl)
end Go.Proofs.YtfkgdlfponfimaaGreat.X
/- The program's oracle and the reference's: the same, call by call. -/
namespace Go.Proofs.YtfkgdlfponfimaaGreat.X
open Go Go.RowKit
namespace Rf
variable {S : Rf}
def t3 (y : Rw) : Bool := decide (y.t = 3)
def hsF (S : Rf) (a : ByteArray) : Option Int := (S.rows.find? fun y => (Rw.mk 1 0 0 a ⟨#[]⟩ 0).same y).map (·.h)
def tgF (S : Rf) (p : Int × ByteArray) : Option Int := (S.rows.find? fun y => (Rw.mk 2 p.1 0 p.2 ⟨#[]⟩ 0).same y).map (·.h)
def seF (S : Rf) (p : Int × Int × ByteArray × ByteArray) : Option Int := (S.rows.find? fun y => (Rw.mk 3 p.1 p.2.1 p.2.2.1 p.2.2.2 0).same y).map (·.h)
def opI (S : Rf) (p : Int × Int × Int × ByteArray) : Int := firstI (isOpen p.1 p.2.1 p.2.2.2 p.2.2.1) (S.rows.filter t3) 0
def opF (S : Rf) (p : Int × Int × Int × ByteArray) : Option Int := if S.opI p < 0 then none else some (S.opI p + 1)
def issF (S : Rf) (h : Int) : Option Int := if S.rows.countP (fun x => decide (x.h = h)) = 0 then none else some (S.rows.countP (fun x => decide (x.h = h)) : Nat)
def metF (S : Rf) (h : Int) : Option Int := if h ∈ S.met then some 1 else none
def of (S : Rf) : Orf := ⟨S.draws, S.rows.length, decide (S.bads > 0), S.issF, S.metF, S.hsF, S.tgF, S.seF, S.opF, (S.rows.filter t3).map (·.b)⟩
theorem iss_pos (h : Int) : ((S.issF h).getD 0 > 0) ↔ S.issued h = true := by
  unfold issF issued
  rw [List.any_eq_true]
  split
  · rename_i h0
    rw [List.countP_eq_zero] at h0
    simp only [Option.getD_none, gt_iff_lt, Int.lt_irrefl, false_iff, not_exists, not_and]
    exact fun x hx => h0 x hx
  rename_i h0
  have h1 : 0 < S.rows.countP (fun x => decide (x.h = h)) := by omega
  have h2 := List.countP_pos_iff.1 h1
  simp only [Option.getD_some]
  exact ⟨fun _ => h2, fun _ => by omega⟩
theorem met_pos (h : Int) : ((S.metF h).getD 0 > 0) ↔ S.shown h = true := by
  unfold metF shown
  rw [List.any_eq_true]
  split
  · rename_i h0; simp; exact h0
  rename_i h0; simp; exact h0
theorem iss_zero (h : Int) : ((S.issF h).getD 0 = 0) ↔ S.issued h = false := by
  have := S.iss_pos h
  have h0 : 0 ≤ (S.issF h).getD 0 := by unfold issF; split <;> simp
  cases hb : S.issued h with
  | true => rw [hb] at this; simp at this ⊢; omega
  | false => rw [hb] at this; simp at this ⊢; omega
theorem of_next : S.of.next = S.next := rfl
theorem of_isBad (h : Int) : S.of.isBad h = decide (S.bads + (if S.isBad h then 1 else 0) > 0) := by
  unfold Orf.isBad isBad
  show (decide (S.bads > 0) || (decide (h = 0) || decide ((S.issF h).getD 0 > 0) || decide ((S.metF h).getD 0 > 0))) = _
  rw [show decide ((S.issF h).getD 0 > 0) = S.issued h by rw [Bool.eq_iff_iff, decide_eq_true_eq]; exact S.iss_pos h, show decide ((S.metF h).getD 0 > 0) = S.shown h by rw [Bool.eq_iff_iff, decide_eq_true_eq]; exact S.met_pos h]
  cases (decide (h = 0) || S.issued h || S.shown h) <;> simp
theorem iss_draw (x : Rw) (h : Int) : (S.draw x).issF h = if h = S.next then some ((S.issF S.next).getD 0 + 1) else S.issF h := by
  unfold issF draw
  simp only [List.countP_append, List.countP_singleton]
  by_cases e : h = S.next
  · subst e
    simp only [decide_true, if_true]
    rw [if_neg (by omega)]
    split
    · rename_i h0; simp [h0]
    simp
  have e' : ¬ S.next = h := fun e2 => e e2.symm
  simp [e, e']
theorem find_draw (x : Rw) (p : Rw → Bool) : ((S.draw x).rows.find? p) = (S.rows.find? p).or (if p ⟨x.t, x.k, x.n, x.a, x.b, S.next⟩ then some ⟨x.t, x.k, x.n, x.a, x.b, S.next⟩ else none) := by
  unfold draw
  rw [List.find?_append]
  congr 1
  simp only [List.find?_cons, List.find?_nil]
  split <;> simp_all
theorem of_draw (x : Rw) : (S.draw x).of = ⟨S.draws, S.rows.length + 1, S.of.isBad S.next, fun h => if h = S.next then some ((S.issF S.next).getD 0 + 1) else S.issF h, S.metF,
    fun a => (S.hsF a).or (if (Rw.mk 1 0 0 a ⟨#[]⟩ 0).same ⟨x.t, x.k, x.n, x.a, x.b, S.next⟩ then some S.next else none),
    fun p => (S.tgF p).or (if (Rw.mk 2 p.1 0 p.2 ⟨#[]⟩ 0).same ⟨x.t, x.k, x.n, x.a, x.b, S.next⟩ then some S.next else none),
    fun p => (S.seF p).or (if (Rw.mk 3 p.1 p.2.1 p.2.2.1 p.2.2.2 0).same ⟨x.t, x.k, x.n, x.a, x.b, S.next⟩ then some S.next else none),
    (S.draw x).opF, ((S.draw x).rows.filter t3).map (·.b)⟩ := by
  have h1 : ∀ (p : Rw → Bool), ((S.draw x).rows.find? p).map (·.h) = ((S.rows.find? p).map (·.h)).or (if p ⟨x.t, x.k, x.n, x.a, x.b, S.next⟩ then some S.next else none) := by
    intro p
    rw [find_draw]
    cases S.rows.find? p
    · simp only [Option.none_or, Option.map_none]; split <;> rfl
    rfl
  unfold of
  congr 1
  · simp [draw]
  · exact (of_isBad (S := S) S.next).symm
  · funext h; exact S.iss_draw x h
  · funext a; exact h1 _
  · funext a; exact h1 _
  funext a; exact h1 _
theorem filt_draw (x : Rw) : (S.draw x).rows.filter t3 = S.rows.filter t3 ++ (if x.t = 3 then [⟨x.t, x.k, x.n, x.a, x.b, S.next⟩] else []) := by
  unfold draw
  rw [List.filter_append]
  congr 1
  simp only [List.filter_cons, List.filter_nil, t3]
  by_cases h : x.t = 3 <;> simp [h]
theorem op_draw (x : Rw) (h : ¬ x.t = 3) : (S.draw x).opF = S.opF := by
  funext p
  have : (S.draw x).rows.filter t3 = S.rows.filter t3 := by rw [filt_draw, if_neg h, List.append_nil]
  unfold opF opI
  rw [this]
theorem same1 {t : Int} {k n : Int} {a b : ByteArray} {h : Int} {x : Rw} (ht : ¬ x.t = t) (h' : Int) : (Rw.mk t k n a b h).same ⟨x.t, x.k, x.n, x.a, x.b, h'⟩ = false := by simp [Rw.same, ht]
theorem fresh_of : S.of.fresh = S.fresh.of := by
  unfold fresh
  rw [of_draw, op_draw _ (by decide)]
  simp only [filt_draw]
  unfold Orf.fresh
  rw [of_next]
  simp only [same1 (x := ⟨0, 0, 0, ⟨#[]⟩, ⟨#[]⟩, 0⟩) (t := 1) (by decide), same1 (x := ⟨0, 0, 0, ⟨#[]⟩, ⟨#[]⟩, 0⟩) (t := 2) (by decide), same1 (x := ⟨0, 0, 0, ⟨#[]⟩, ⟨#[]⟩, 0⟩) (t := 3) (by decide)]
  simp [of]
theorem upd_or {α : Type} [DecidableEq α] {f : α → Option Int} {a : α} {v : Int} {c : α → Bool} (hc : ∀ x, c x = decide (x = a)) (h : f a = none) : (fun x => if x = a then some v else f x) = fun x => (f x).or (if c x = true then some v else none) := by
  funext x
  by_cases e : x = a
  · subst e; simp [hc, h]
  simp [hc, e]
theorem draw_flds (x : Rw) (h : ¬ x.t = 3) : ((S.draw x).rows.filter t3).map (·.b) = (S.rows.filter t3).map (·.b) := by rw [filt_draw, if_neg h, List.append_nil]
theorem mac_of (k : Int) (a : ByteArray) : S.of.mac k a = ((S.mac k a).1, (S.mac k a).2.of) := by
  unfold mac value Orf.mac
  show (if (S.tgF (k, a)).isSome = true then _ else _) = _
  cases hf : S.rows.find? (fun y => (Rw.mk 2 k 0 a ⟨#[]⟩ 0).same y) with
  | some y =>
    have : S.tgF (k, a) = some y.h := by unfold tgF; rw [hf]; rfl
    rw [this]
    simp only [Option.isSome_some, if_true]
    show ((S.tgF (k, a)).getD 0, S.of) = _
    rw [this]; rfl
  | none =>
    have h0 : S.tgF (k, a) = none := by unfold tgF; rw [hf]; rfl
    rw [h0]
    simp only [Option.isSome_none, Bool.false_eq_true, if_false]
    rw [fresh_of, of_next]
    congr 1
    rw [of_draw (x := ⟨2, k, 0, a, ⟨#[]⟩, 0⟩), op_draw _ (by show ¬ (2 : Int) = 3; decide), draw_flds _ (by show ¬ (2 : Int) = 3; decide)]
    unfold fresh
    rw [of_draw, op_draw _ (by decide), draw_flds _ (by decide)]
    simp only [same1 (x := ⟨0, 0, 0, ⟨#[]⟩, ⟨#[]⟩, 0⟩) (t := 1) (by decide), same1 (x := ⟨0, 0, 0, ⟨#[]⟩, ⟨#[]⟩, 0⟩) (t := 2) (by decide), same1 (x := ⟨0, 0, 0, ⟨#[]⟩, ⟨#[]⟩, 0⟩) (t := 3) (by decide), same1 (x := ⟨2, k, 0, a, ⟨#[]⟩, 0⟩) (t := 1) (by show ¬ (2 : Int) = 1; decide), same1 (x := ⟨2, k, 0, a, ⟨#[]⟩, 0⟩) (t := 3) (by show ¬ (2 : Int) = 3; decide), Bool.false_eq_true, if_false, Option.or_none]
    congr 1
    exact upd_or (c := fun x : Int × ByteArray => (Rw.mk 2 x.1 0 x.2 ⟨#[]⟩ 0).same ⟨2, k, 0, a, ⟨#[]⟩, S.next⟩) (fun x => by obtain ⟨x1, x2⟩ := x; by_cases e : x1 = k <;> by_cases e2 : x2 = a <;> simp [Rw.same, e, e2, eq_comm]) h0
theorem meet_of (h : Int) : S.of.meet h = (S.meet h).of := by
  unfold Orf.meet meet
  show (if (S.issF h).getD 0 = 0 then _ else _) = _
  cases hb : S.issued h with
  | true =>
    rw [if_neg (by rw [iss_zero, hb]; decide)]; rfl
  | false =>
    rw [if_pos (by rw [iss_zero, hb])]
    simp only [Bool.false_eq_true, if_false]
    unfold of
    congr 1
    funext x
    show (if x = h then some 1 else S.metF x) = if x ∈ S.met ++ [h] then some 1 else none
    unfold metF
    by_cases e : x = h <;> simp [e]
theorem verify_of (k : Int) (a : ByteArray) (t : Int) : S.of.verify k a t = ((S.verify k a t).1, (S.verify k a t).2.of) := by
  unfold Orf.verify verify
  show (if (S.tgF (k, a)).isSome = true ∧ (S.tgF (k, a)).getD 0 = t then _ else _) = _
  cases hf : S.rows.find? (fun y => (Rw.mk 2 k 0 a ⟨#[]⟩ 0).same y) with
  | some y =>
    have : S.tgF (k, a) = some y.h := by unfold tgF; rw [hf]; rfl
    rw [this]
    by_cases e : y.h = t
    · simp [e]
    simp [e, meet_of]
  | none =>
    have h0 : S.tgF (k, a) = none := by unfold tgF; rw [hf]; rfl
    rw [h0]; simp [meet_of]
end Rf
theorem of_new (d : List Int) : (Rf.new d).of = Orf.new d := by
  unfold Rf.new Rf.of Orf.new
  congr 1
end Go.Proofs.YtfkgdlfponfimaaGreat.X
/- The reference's oracle: bounds. -/
set_option maxRecDepth 100000
namespace Go.Proofs.YtfkgdlfponfimaaGreat.X
open Go Go.RowKit
variable {ν β ps pos' : Nm} {H : Heap} {Q : AVal → Heap → Prop} {L : List Asr} {q : Nm} {k : Nat} {S : Rf}
theorem of_ok (S : Rf) : S.of.ok := by
  refine ⟨fun h => ?_, fun p => ?_, ?_⟩
  · show 0 ≤ (S.issF h).getD 0 ∧ (S.issF h).getD 0 ≤ ((S.rows.length : Nat) : Int)
    unfold Rf.issF
    split
    · simp
    simp only [Option.getD_some]
    have := List.countP_le_length (p := fun x : Rw => decide (x.h = h)) (l := S.rows)
    omega
  · show 0 ≤ (S.opF p).getD 0 ∧ (S.opF p).getD 0 ≤ (((S.rows.filter Rf.t3).map (·.b)).length : Int)
    unfold Rf.opF
    have := firstI_range (Rf.isOpen p.1 p.2.1 p.2.2.2 p.2.2.1) (S.rows.filter Rf.t3)
    rw [show firstI (Rf.isOpen p.1 p.2.1 p.2.2.2 p.2.2.1) (S.rows.filter Rf.t3) 0 = S.opI p from rfl] at this
    rw [List.length_map]
    split
    · simp
    simp only [Option.getD_some]; omega
  show ((S.rows.filter Rf.t3).map (·.b)).length ≤ S.rows.length
  rw [List.length_map]; exact List.length_filter_le _ _
theorem Rf.le.mono {N M : Nat} (h : S.le N) (hm : N ≤ M) : S.le M := ⟨Nat.le_trans h.rows hm, Nat.le_trans h.met hm, Nat.le_trans h.bads hm⟩
theorem Rf.draw_le {N : Nat} (h : S.le N) (x : Rw) : (S.draw x).le (N + 1) := by
  refine ⟨?_, Nat.le_succ_of_le h.met, ?_⟩
  · simp only [draw, List.length_append, List.length_singleton]; exact Nat.succ_le_succ h.rows
  have := h.bads
  simp only [draw]; split <;> omega
theorem Rf.value_le {N : Nat} (h : S.le N) (x : Rw) : (S.value x).2.le (N + 1) := by
  unfold value; split
  · exact h.mono (Nat.le_succ _)
  exact draw_le h x
theorem Rf.meet_le {N : Nat} (h : S.le N) (x : Int) : (S.meet x).le (N + 1) := by
  unfold meet; split
  · exact h.mono (Nat.le_succ _)
  refine ⟨Nat.le_succ_of_le h.rows, ?_, Nat.le_succ_of_le h.bads⟩
  simp only [List.length_append, List.length_singleton]; exact Nat.succ_le_succ h.met
theorem Rf.verify_le {N : Nat} (h : S.le N) (k : Int) (a : ByteArray) (t : Int) : (S.verify k a t).2.le (N + 1) := by
  unfold verify; split
  · split
    · exact h.mono (Nat.le_succ _)
    exact meet_le h t
  exact meet_le h t
theorem Rf.new_le (d : List Int) : (Rf.new d).le 0 := ⟨Nat.le_refl _, Nat.le_refl _, Nat.le_refl _⟩
end Go.Proofs.YtfkgdlfponfimaaGreat.X
/- The reference's oracle: what holds where nothing bad happened. -/
namespace Go.Proofs.YtfkgdlfponfimaaGreat.X
open Go Go.RowKit
namespace Rf
variable {S : Rf}
structure Good (S : Rf) : Prop where
  nd : S.rows.Pairwise fun x y => x.h ≠ y.h
  nz : ∀ x ∈ S.rows, x.h ≠ 0
  mt : ∀ h ∈ S.met, S.issued h = false
structure Inv (S : Rf) : Prop where
  good : S.bads = 0 → S.Good
  uniq : S.rows.Pairwise fun x y => x.same y = false
theorem issued_iff {h : Int} : S.issued h = true ↔ ∃ x ∈ S.rows, x.h = h := by simp [issued]
theorem issued_draw (x : Rw) (h : Int) : (S.draw x).issued h = (S.issued h || decide (S.next = h)) := by simp [issued, draw]
theorem draw_bads (x : Rw) : S.bads ≤ (S.draw x).bads := by simp [draw]
theorem draw_inv (hi : S.Inv) (x : Rw) (hx : ∀ y ∈ S.rows, y.same ⟨x.t, x.k, x.n, x.a, x.b, S.next⟩ = false) : (S.draw x).Inv := by
  refine ⟨fun hb => ?_, ?_⟩
  · have h0 : S.bads = 0 ∧ S.isBad S.next = false := by
      simp only [draw] at hb
      cases h : S.isBad S.next with
      | true => rw [h] at hb; simp at hb
      | false => rw [h] at hb; simp at hb; exact ⟨hb, rfl⟩
    have hg := hi.good h0.1
    have hn := h0.2
    simp only [isBad, Bool.or_eq_false_iff, decide_eq_false_iff_not] at hn
    obtain ⟨⟨n0, ni⟩, ns⟩ := hn
    refine ⟨?_, ?_, ?_⟩
    · simp only [draw]
      rw [List.pairwise_append]
      refine ⟨hg.nd, by simp, fun a ha b hb' => ?_⟩
      simp only [List.mem_singleton] at hb'
      subst hb'
      intro he
      have : S.issued S.next = true := issued_iff.2 ⟨a, ha, he⟩
      rw [ni] at this; cases this
    · intro y hy
      simp only [draw, List.mem_append, List.mem_singleton] at hy
      rcases hy with hy | hy
      · exact hg.nz y hy
      subst hy; exact n0
    intro h hh
    have hh : h ∈ S.met := hh
    rw [issued_draw, hg.mt h hh, Bool.false_or, decide_eq_false_iff_not]
    intro he
    simp only [shown, List.any_eq_false, decide_eq_true_eq] at ns
    exact ns h hh he.symm
  simp only [draw]
  rw [List.pairwise_append]
  refine ⟨hi.uniq, by simp, fun a ha b hb' => ?_⟩
  simp only [List.mem_singleton] at hb'
  subst hb'
  exact hx a ha
theorem same_symm {x y : Rw} (h : x.same y = false) {v : Int} (ht : x.t ≠ 0 ∨ x.t = 0) : y.same ⟨x.t, x.k, x.n, x.a, x.b, v⟩ = false := by
  cases hb : y.same ⟨x.t, x.k, x.n, x.a, x.b, v⟩ with
  | false => rfl
  | true =>
    simp only [Rw.same, Bool.and_eq_true, decide_eq_true_eq, ne_eq] at hb
    obtain ⟨⟨⟨⟨⟨h0, h1⟩, h2⟩, h3⟩, h4⟩, h5⟩ := hb
    have : x.same y = true := by
      simp only [Rw.same, Bool.and_eq_true, decide_eq_true_eq, ne_eq]
      exact ⟨⟨⟨⟨⟨by rw [h1]; exact h0, h1.symm⟩, h2.symm⟩, h3.symm⟩, h4.symm⟩, h5.symm⟩
    rw [h] at this; cases this
theorem value_inv (hi : S.Inv) (x : Rw) : (S.value x).2.Inv := by
  unfold value
  split
  · exact hi
  rename_i h
  rw [List.find?_eq_none] at h
  exact draw_inv hi x fun y hy => same_symm (by have := h y hy; simpa using this) (Decidable.em _ |>.symm)
def run (S : Rf) : List Ca → Rf
  | [] => S
  | c :: l => (S.act c).2.2.2.run l
end Rf
end Go.Proofs.YtfkgdlfponfimaaGreat.X
/- The program's oracle, told by the reference's state. -/
set_option maxRecDepth 100000
namespace Go.Proofs.YtfkgdlfponfimaaGreat.X
open Go Go.RowKit
variable {ν β ps pos' : Nm} {H : Heap} {Q : AVal → Heap → Prop} {L : List Asr} {q : Nm} {k : Nat} {S : Rf}
section
variable (hS : Own β ps H L) (hL : L[k]? = some (orc q S.of)) (hle : le ps ν) (hβ : under β ν = true) (hp : before ν pos')
include hS hL hle hβ hp
theorem oMac (hn : S.rows.length ≤ 4294967000) (kk : Int) (a : ByteArray) (hq : ∀ H1, Own β pos' H1 (L.set k (orc q (S.mac kk a).2.of)) → Q (.int .u64 (S.mac kk a).1) H1) : CW cfg ν 85 [.ptr q 0 0, .int .u64 kk, .str a] H Q :=
  iMac hS hL hle hβ hp (of_ok S) hn kk a fun H1 h1 => by rw [Rf.mac_of] at h1 ⊢; exact hq H1 h1
theorem oVerify (kk : Int) (a : ByteArray) (t : Int) (hq : ∀ H1, Own β pos' H1 (L.set k (orc q (S.verify kk a t).2.of)) → Q (.bool (S.verify kk a t).1) H1) : CW cfg ν 130 [.ptr q 0 0, .int .u64 kk, .str a, .int .u64 t] H Q :=
  iVerify hS hL hle hβ hp kk a t fun H1 h1 => by rw [Rf.verify_of] at h1 ⊢; exact hq H1 h1
theorem oBad (hq : ∀ H1, Own β pos' H1 L → Q (.bool (decide (S.bads > 0))) H1) : CW cfg ν 15 [.ptr q 0 0] H Q := iBad hS hL hle hβ hp hq
end
theorem oNew (hS : Own β ps H L) (hle : le ps ν) (hβ : under β ν = true) (hp : before ν pos') {v : AVal} {d : List Int} (hv : Ls v (d.map Int.enc)) (hd : d.length ≤ 4294967000)
    (hq : ∀ q H1, Own β pos' H1 (orc q (Rf.new d).of :: L) → Q (.ptr q 0 0) H1) : CW cfg ν 28 [v] H Q :=
  iNew hS hle hβ hp hv hd fun q H1 h1 => hq q H1 (by rw [of_new]; exact h1)
namespace Rf
end Rf
end Go.Proofs.YtfkgdlfponfimaaGreat.X
/- What values an oracle gives, where nothing bad happened; contracts with the states named. -/
set_option maxRecDepth 100000
namespace Go.Proofs.YtfkgdlfponfimaaGreat.X
open Go Go.RowKit
variable {ν β ps pos' : Nm} {H : Heap} {Q : AVal → Heap → Prop} {L : List Asr} {q : Nm} {k : Nat} {S T : Rf}
namespace Rf
theorem pair_once {α : Type} {r : α → α → Prop} : ∀ {l : List α} {x y : α}, l.Pairwise r → x ∈ l → y ∈ l → ¬ r x y → ¬ r y x → x = y
  | [], _, _, _, h, _, _, _ => by simp at h
  | a :: l, x, y, hp, hx, hy, h1, h2 => by
    rw [List.pairwise_cons] at hp
    rcases List.mem_cons.1 hx with ex | hx'
    · rcases List.mem_cons.1 hy with ey | hy'
      · rw [ex, ey]
      subst ex; exact absurd (hp.1 y hy') h1
    rcases List.mem_cons.1 hy with ey | hy'
    · subst ey; exact absurd (hp.1 x hx') h2
    exact pair_once hp.2 hx' hy' h1 h2
theorem Good.one (hg : S.Good) {x y : Rw} (hx : x ∈ S.rows) (hy : y ∈ S.rows) (h : x.h = y.h) : x = y := pair_once hg.nd hx hy (fun e => e h) (fun e => e h.symm)
theorem same_iff {x y : Rw} : x.same y = true ↔ x.t ≠ 0 ∧ y.t = x.t ∧ y.k = x.k ∧ y.n = x.n ∧ y.a = x.a ∧ y.b = x.b := by
  simp only [Rw.same, Bool.and_eq_true, decide_eq_true_eq]
  constructor
  · rintro ⟨⟨⟨⟨⟨a, b⟩, c⟩, d⟩, e⟩, f⟩; exact ⟨a, b, c, d, e, f⟩
  rintro ⟨a, b, c, d, e, f⟩; exact ⟨⟨⟨⟨⟨a, b⟩, c⟩, d⟩, e⟩, f⟩
theorem Inv.key (hi : S.Inv) {x y z : Rw} (hy : y ∈ S.rows) (hz : z ∈ S.rows) (h1 : x.same y = true) (h2 : x.same z = true) : y = z := by
  rw [same_iff] at h1 h2
  have e1 : y.same z = true := same_iff.2 ⟨by rw [h1.2.1]; exact h1.1, by rw [h2.2.1, h1.2.1], by rw [h2.2.2.1, h1.2.2.1], by rw [h2.2.2.2.1, h1.2.2.2.1], by rw [h2.2.2.2.2.1, h1.2.2.2.2.1], by rw [h2.2.2.2.2.2, h1.2.2.2.2.2]⟩
  have e2 : z.same y = true := same_iff.2 ⟨by rw [h2.2.1]; exact h2.1, by rw [h2.2.1, h1.2.1], by rw [h2.2.2.1, h1.2.2.1], by rw [h2.2.2.2.1, h1.2.2.2.1], by rw [h2.2.2.2.2.1, h1.2.2.2.2.1], by rw [h2.2.2.2.2.2, h1.2.2.2.2.2]⟩
  exact pair_once hi.uniq hy hz (fun e => by rw [e1] at e; cases e) (fun e => by rw [e2] at e; cases e)
theorem Inv.find (hi : S.Inv) {x y : Rw} (hy : y ∈ S.rows) (h : x.same y = true) : S.rows.find? (fun z => x.same z) = some y := by
  cases hf : S.rows.find? (fun z => x.same z) with
  | none => rw [List.find?_eq_none] at hf; exact absurd h (hf y hy)
  | some z => rw [hi.key (List.mem_of_find?_eq_some hf) hy (List.find?_some hf) h]
structure Up (S T : Rf) : Prop where
  inv : S.Inv → T.Inv
  sub : ∀ x ∈ S.rows, x ∈ T.rows
  bads : S.bads ≤ T.bads
  len : S.rows.length ≤ T.rows.length
  draws : T.draws = S.draws
theorem Up.trans {U : Rf} (h : S.Up T) (h2 : T.Up U) : S.Up U := ⟨fun i => h2.inv (h.inv i), fun x hx => h2.sub x (h.sub x hx), Nat.le_trans h.bads h2.bads, Nat.le_trans h.len h2.len, h2.draws.trans h.draws⟩
theorem Up.refl : S.Up S := ⟨id, fun _ h => h, Nat.le_refl _, Nat.le_refl _, rfl⟩
theorem value_up (x : Rw) : S.Up (S.value x).2 := by
  refine ⟨fun i => value_inv i x, ?_, ?_, ?_, ?_⟩ <;> unfold value <;> split
  · exact fun _ h => h
  · intro y hy; simp [draw, hy]
  · exact Nat.le_refl _
  · exact draw_bads _
  · exact Nat.le_refl _
  · simp [draw]
  · rfl
  rfl
theorem value_rows (x : Rw) : (S.value x).2.rows.length ≤ S.rows.length + 1 := by unfold value; split <;> simp [draw]
theorem value_row {x : Rw} {v : Int} (h : S.value x = (v, T)) (ht : x.t ≠ 0) : ⟨x.t, x.k, x.n, x.a, x.b, v⟩ ∈ T.rows := by
  unfold value at h
  split at h
  · rename_i y hf
    obtain ⟨rfl, rfl⟩ := Prod.mk.inj h
    have h1 := same_iff.1 (List.find?_some hf)
    have h2 := List.mem_of_find?_eq_some hf
    obtain ⟨_, e1, e2, e3, e4, e5⟩ := h1
    obtain ⟨yt, yk, yn, ya, yb, yh⟩ := y
    dsimp only at e1 e2 e3 e4 e5 ⊢
    subst e1; subst e2; subst e3; subst e4; subst e5
    exact h2
  obtain ⟨rfl, rfl⟩ := Prod.mk.inj h
  simp [draw]
theorem mac_row {kk : Int} {a : ByteArray} {v : Int} (h : S.mac kk a = (v, T)) : ⟨2, kk, 0, a, ⟨#[]⟩, v⟩ ∈ T.rows := value_row (x := ⟨2, kk, 0, a, ⟨#[]⟩, 0⟩) h (by show (2 : Int) ≠ 0; decide)
end Rf
section
variable (hS : Own β ps H L) (hL : L[k]? = some (orc q S.of)) (hle : le ps ν) (hβ : under β ν = true) (hp : before ν pos')
include hS hL hle hβ hp
end
end Go.Proofs.YtfkgdlfponfimaaGreat.X
/- Layer 07: tokens: their texts, issuing and checking; what the functions of token and of the reference do. -/
set_option maxRecDepth 100000
namespace Go.Proofs.YtfkgdlfponfimaaGreat.X
open Go Go.RowKit WM
variable {ν β ps pos' : Nm} {H : Heap} {Q : AVal → Heap → Prop} {L : List Asr} {q : Nm} {k : Nat} {S T : Rf}
abbrev U64 (n : Int) : Prop := 0 ≤ n ∧ n ≤ 18446744073709551615
structure Tk where
  tn : Int
  vo : Int
  ep : Int
  ri : Int
  tag : Int
  deriving DecidableEq
def Tk.enc (x : Tk) : AVal := .agg [.int .u64 x.tn, .int .u64 x.vo, .int .u64 x.ep, .int .u64 x.ri, .int .u64 x.tag]
def Tk.fit (x : Tk) : Prop := U64 x.tn ∧ U64 x.vo ∧ U64 x.ep ∧ U64 x.ri ∧ U64 x.tag
def Tk.z : Tk := ⟨0, 0, 0, 0, 0⟩
def cFd : Cod (Int × Int × Int × Int) := cI.pair (cI.pair (cI.pair cI))
def cTk : Cod Tk := (cI.pair (cI.pair (cI.pair (cI.pair cI)))).iso (fun p => ⟨p.1, p.2.1, p.2.2.1, p.2.2.2.1, p.2.2.2.2⟩) (fun x => (x.tn, x.vo, x.ep, x.ri, x.tag)) (fun _ => rfl) (fun _ => rfl)
def fdB (t : Tk) : ByteArray := ba (cFd.enc (t.tn, t.vo, t.ep, t.ri))
def tkB (t : Tk) : ByteArray := (⟨#[116, 111, 107, 101, 110]⟩ : ByteArray) ++ fdB t
def pkB (t : Tk) : ByteArray := ba (cTk.enc t)
theorem fdB_eq (t : Tk) : ba (encU t.tn.toNat) ++ ba (encU t.vo.toNat) ++ ba (encU t.ep.toNat) ++ ba (encU t.ri.toNat) = fdB t := by
  rw [ba_append, ba_append, ba_append, List.append_assoc, List.append_assoc]; rfl
theorem pkB_eq (t : Tk) : fdB t ++ ba (encU t.tag.toNat) = pkB t := by
  rw [← fdB_eq, ba_append, ba_append, ba_append, ba_append, List.append_assoc, List.append_assoc, List.append_assoc]; rfl
theorem fdB_size {t : Tk} (h : t.fit) : (fdB t).size ≤ 40 := by
  have h1 := encU_i h.1; have h2 := encU_i h.2.1; have h3 := encU_i h.2.2.1; have h4 := encU_i h.2.2.2.1
  rw [← fdB_eq]; simp only [ByteArray.size_append]; omega
theorem pkB_size {t : Tk} (h : t.fit) : (pkB t).size ≤ 50 := by
  have h1 := encU_i h.2.2.2.2; have h2 := fdB_size h
  rw [← pkB_eq]; simp only [ByteArray.size_append]; omega
def resK (s : ByteArray) : Tk × Bool := match cTk.all s.data.toList with
  | some l => (l, true)
  | none => (Tk.z, false)
abbrev r1 (s : ByteArray) := resU s
abbrev r2 (s : ByteArray) := resU (r1 s).2.1
abbrev r3 (s : ByteArray) := resU (r2 s).2.1
abbrev r4 (s : ByteArray) := resU (r3 s).2.1
abbrev r5 (s : ByteArray) := resU (r4 s).2.1
theorem fieldsW {t : Tk} (h : t.fit) (hq : Q (.str (fdB t)) H) : CW cfg ν 108 [t.enc] H Q := by
  obtain ⟨ha, hb, hc, hd, he⟩ := h
  have h1 := encU_i ha; have h2 := encU_i hb; have h3 := encU_i hc; have h4 := encU_i hd
  rw [← fdB_eq] at hq
  refine Be g108 F108 Z ?_
  have hS0 : Own ν ν (fun _ => none) [] := Own.nil
  refine Ac (AR hS0 (AE (p := ν) (b := [0, 0])) (Af [0, 0] AI) Z Z Z ⟨Z, Z⟩ fun H1 (hS1 : Own _ _ _ ([_])) => Ab Z Z (Am (e' := [_,_,_,_,_,_,_,_,_,_,_,_,_,_,_,_,_,_]) Z (Ac (Al Z Z Z (Ad hS1 (k := 0) Z Z Z Z Z Z (AB Z Z (putUi (by assumption) ?_) ))))))
  refine EN (c18 ..) Z (Al Z Z Z (Ad hS1 (k := 0) Z Z Z Z Z Z (AB Z Z (putUi (by assumption) ?_) )))
  refine EN (c18 ..) Z (Ah Z Z Z Z (cat (by omega)) (Al Z Z Z (Ad hS1 (k := 0) Z Z Z Z Z Z (EN (c18 ..) Z (AB Z Z (putUi (by assumption) ?_) )))))
  refine Ah Z Z Z Z (cat (by (simp only [ss]; omega))) (Al Z Z Z (EN (c18 ..) Z (Ad hS1 (k := 0) Z Z Z Z Z Z (AB Z Z (putUi (by assumption) ?_) ))))
  refine Ah Z Z Z Z (cat (by (simp only [ss]; omega))) (EN (c18 ..) Z (Ab Z Z (Am (e' := [_,_,_,_,_,_,_,_,_,_,_,_,_,_,_,_,_,_]) Z (Ap (Ak (res1 Z (Ai Z)) (frz1 (Q := Q) (Ae Z) ?_))))))
  exact hq
theorem textW {t : Tk} (h : t.fit) (hq : Q (.str (tkB t)) H) : CW cfg ν 86 [t.enc] H Q := by
  have hz := fdB_size h
  refine Be g86 F86 Z ?_
  have hS0 : Own ν ν (fun _ => none) [] := Own.nil
  refine Ac (AR hS0 (AE (p := ν) (b := [0, 0])) (Af [0, 0] AI) Z Z Z ⟨Z, Z⟩ fun H1 (hS1 : Own _ _ _ ([_])) => Ab Z Z (Am (e' := [_,_,_,_,_,_]) Z (Ac (Ad hS1 (k := 0) Z Z Z Z Z (Aj Z Z Z) (AB Z Z (fieldsW (by assumption) ?_) )))))
  refine Ah Z Z Z Z (cat (by show 5 + _ ≤ 9223372036854775807; omega)) (Ay (e' := [_,_,_,_,_,_]) Z (Ab Z Z (Am (e' := [_,_,_,_,_,_]) Z (Ap (Ak (res1 Z (Ai Z)) (frz1 (Q := Q) (Ae Z) ?_))))))
  exact hq
theorem packW {t : Tk} (h : t.fit) (hq : Q (.str (pkB t)) H) : CW cfg ν 69 [t.enc] H Q := by
  have hz := fdB_size h
  have hh := h
  obtain ⟨ha, hb, hc, hd, he⟩ := h
  have h1 := encU_i he
  rw [← pkB_eq] at hq
  refine Be g69 F69 Z ?_
  have hS0 : Own ν ν (fun _ => none) [] := Own.nil
  refine Ac (AR hS0 (AE (p := ν) (b := [0, 0])) (Af [0, 0] AI) Z Z Z ⟨Z, Z⟩ fun H1 (hS1 : Own _ _ _ ([_])) => Ab Z Z (Am (e' := [_,_,_,_,_,_,_,_,_]) Z (Ac (Ad hS1 (k := 0) Z Z Z Z Z (Aj Z Z Z) (AB Z Z (fieldsW (by assumption) ?_) )))))
  refine Al Z Z Z (Ay (e' := [_,_,_,_,_,_,_,_,_]) Z (Ad hS1 (k := 0) Z Z Z Z Z Z (AB Z Z (putUi (by assumption) ?_) )))
  refine Ah Z Z Z Z (cat (by omega)) (Ay (e' := [_,_,_,_,_,_,_,_,_]) Z (Ab Z Z (Am (e' := [_,_,_,_,_,_,_,_,_]) Z (Ap (Ak (res1 Z (Ai Z)) (frz1 (Q := Q) (Ae Z) ?_))))))
  exact hq
theorem saidW {t : Tk} (h : t.fit) (hq : Q (.str (fdB t)) H) : CW cfg ν 89 [t.enc] H Q := by
  obtain ⟨ha, hb, hc, hd, he⟩ := h
  have h1 := encU_i ha; have h2 := encU_i hb; have h3 := encU_i hc; have h4 := encU_i hd
  rw [← fdB_eq] at hq
  refine Be g89 F89 Z ?_
  have hS0 : Own ν ν (fun _ => none) [] := Own.nil
  refine Ac (AR hS0 (AE (p := ν) (b := [0, 0])) (Af [0, 0] AI) Z Z Z ⟨Z, Z⟩ fun H1 (hS1 : Own _ _ _ ([_])) => Ab Z Z (Am (e' := [_,_,_,_,_,_,_,_,_,_,_,_,_,_,_,_,_,_]) Z (Ac (Al Z Z Z (Ad hS1 (k := 0) Z Z Z Z Z Z (AB Z Z (rputUi (by assumption) ?_) ))))))
  refine EN (c18 ..) Z (Al Z Z Z (Ad hS1 (k := 0) Z Z Z Z Z Z (AB Z Z (rputUi (by assumption) ?_) )))
  refine EN (c18 ..) Z (Ah Z Z Z Z (cat (by omega)) (Al Z Z Z (Ad hS1 (k := 0) Z Z Z Z Z Z (EN (c18 ..) Z (AB Z Z (rputUi (by assumption) ?_) )))))
  refine Ah Z Z Z Z (cat (by (simp only [ss]; omega))) (Al Z Z Z (EN (c18 ..) Z (Ad hS1 (k := 0) Z Z Z Z Z Z (AB Z Z (rputUi (by assumption) ?_) ))))
  refine Ah Z Z Z Z (cat (by (simp only [ss]; omega))) (EN (c18 ..) Z (Ab Z Z (Am (e' := [_,_,_,_,_,_,_,_,_,_,_,_,_,_,_,_,_,_]) Z (Ap (Ak (res1 Z (Ai Z)) (frz1 (Q := Q) (Ae Z) ?_))))))
  exact hq
end Go.Proofs.YtfkgdlfponfimaaGreat.X
/- Layer 07: issuing and checking, walked. -/
set_option maxRecDepth 100000
namespace Go.Proofs.YtfkgdlfponfimaaGreat.X
open Go Go.RowKit WM
variable {ν β ps pos' : Nm} {H : Heap} {Q : AVal → Heap → Prop} {L : List Asr} {q : Nm} {k : Nat} {S T : Rf}
def andN (w r : Int) : Int := IntKind.u64.wrap (((BitVec.ofInt 64 w &&& ~~~ BitVec.ofInt 64 r).toNat : Nat) : Int)
namespace Rf
def issue (S : Rf) (key : Int) (t : Tk) : Tk × Rf := (⟨t.tn, t.vo, t.ep, t.ri, (S.mac key (tkB t)).1⟩, (S.mac key (tkB t)).2)
def ans (b : Bool) (t : Tk) (vol ep want : Int) : Int := if b = false then 70 else if t.vo ≠ vol then 71 else if t.ep < ep then 72 else if andN want t.ri ≠ 0 then 73 else 0
def check (S : Rf) (key : Int) (t : Tk) (vol ep want : Int) : Int × Rf := (ans (S.verify key (tkB t) t.tag).1 t vol ep want, (S.verify key (tkB t) t.tag).2)
def issues (S : Rf) (key : Int) : List Tk → List Tk × Rf
  | [] => ([], S)
  | t :: l => ((S.issue key t).1 :: ((S.issue key t).2.issues key l).1, ((S.issue key t).2.issues key l).2)
theorem issues_snoc {key : Int} : ∀ (l : List Tk) (t : Tk) {S : Rf}, S.issues key (l ++ [t]) = ((S.issues key l).1 ++ [((S.issues key l).2.issue key t).1], ((S.issues key l).2.issue key t).2)
  | [], t, _ => rfl
  | a :: l, t, _ => by simp only [List.cons_append, issues]; rw [issues_snoc l t]
theorem issues_step {key : Int} {l : List Tk} {i : Nat} (h : i < l.length) : S.issues key (l.take (i + 1)) = ((S.issues key (l.take i)).1 ++ [((S.issues key (l.take i)).2.issue key l[i]).1], ((S.issues key (l.take i)).2.issue key l[i]).2) := by
  rw [← List.take_append_getElem h, issues_snoc]
theorem issues_rows {key : Int} : ∀ (l : List Tk) {S : Rf}, (S.issues key l).2.rows.length ≤ S.rows.length + l.length
  | [], _ => Nat.le_refl _
  | t :: l, S => by
    have h1 : (S.issue key t).2.rows.length ≤ S.rows.length + 1 := value_rows _
    have h2 := issues_rows (key := key) l (S := (S.issue key t).2)
    simp only [issues, List.length_cons]; omega
theorem issues_len {key : Int} : ∀ (l : List Tk) {S : Rf}, (S.issues key l).1.length = l.length
  | [], _ => rfl
  | t :: l, S => by simp only [issues, List.length_cons, issues_len l]
end Rf
theorem issueW (hS : Own β ps H L) (hL : L[k]? = some (orc q S.of)) (hle : le ps ν) (hβ : under β ν = true) (hp : before ν pos') (hn : S.rows.length ≤ 4294960000) (key : Int) (t : Tk) (ht : t.fit)
    (hq : ∀ H1, Own β pos' H1 (L.set k (orc q (S.issue key t).2.of)) → Q (S.issue key t).1.enc H1) : CW cfg ν 29 [.ptr q 0 0, .int .u64 key, .int .u64 t.tn, .int .u64 t.vo, .int .u64 t.ep, .int .u64 t.ri] H Q := by
  replace hS := hS.pick hL
  have ht0 : (⟨t.tn, t.vo, t.ep, t.ri, 0⟩ : Tk).fit := ⟨ht.1, ht.2.1, ht.2.2.1, ht.2.2.2.1, (by decide : U64 0)⟩
  refine AX g29 F29 Z ?_
  replace hS := Own.mono hS hle
  refine Ac (AG hS (AE (p := ν) (b := [0, 0])) (Af [0, 0] hβ) Z Z Z Z fun H1 (hS1 : Own _ _ _ (_ :: _ :: L.eraseIdx k)) => Am (e' := [_,_,_,_,_,_,_,_,_,_,_,_,_,_,_,_,_,_,_,_,_,_,_,_,_,_]) Z (Ac (Aa Z Z (Aa Z Z (Aa Z Z (Ay (e' := [_,_,_,_,_,_,_,_,_,_,_,_,_,_,_,_,_,_,_,_,_,_,_,_,_,_]) Z (Aa Z Z (BF Z Z (v := .agg [_, _, _, _, _]) Z (AG hS1 (Ar (ν := ν) (a := [1, 0]) (b := [5, 0, 1]) (by decide)) (Af [5, 0, 1] hβ) Z Z Z Z fun H2 (hS2 : Own _ _ _ (_ :: _ :: _ :: L.eraseIdx k)) => Ay (e' := [_,_,_,_,_,_,_,_,_,_,_,_,_,_,_,_,_,_,_,_,_,_,_,_,_,_]) Z (Av hS2 (k := 0) Z le_refl Z Z Z Z ⟨Z, Z, Nat.le_of_ble_eq_true Z⟩ (u2 := .agg [_, _, _, _, _]) Z fun H3 (hS3 : Own _ _ _ (_ :: _ :: _ :: L.eraseIdx k)) => Am (e' := [_,_,_,_,_,_,_,_,_,_,_,_,_,_,_,_,_,_,_,_,_,_,_,_,_,_]) Z (Ac (Aa Z Z (Aa Z Z (Ad hS3 (k := 0) Z Z Z Z Z (Aj Z Z Z) (Ay (e' := [_,_,_,_,_,_,_,_,_,_,_,_,_,_,_,_,_,_,_,_,_,_,_,_,_,_]) Z ?_)))))))))))))))
  refine AB Z Z (textW ht0 ?_) 
  refine AB Z Z (oMac hS3 (k := 2) Z (Ar (ν := ν) (a := [7, 0, 1]) (b := [4, 0, 1, 1]) (by decide)) (Af [4, 0, 1, 1] hβ) (Au (ν := ν) (a := [4, 0, 1, 1]) (b := [5, 0, 1, 1]) (by decide)) (by omega) _ _ fun H4 hS4 => ?_) 
  replace hS4 : Own _ _ _ (_ :: _ :: _ :: L.eraseIdx k) := hS4
  refine Al Z Z Z (Ay (e' := [_,_,_,_,_,_,_,_,_,_,_,_,_,_,_,_,_,_,_,_,_,_,_,_,_,_]) Z (Av hS4 (k := 0) Z (Ar (ν := ν) (a := [5, 0, 1, 1]) (b := [6, 0, 1, 1]) (by decide)) Z Z Z Z ⟨Z, Z, Nat.le_of_ble_eq_true Z⟩ (u2 := .agg [_, _, _, _, _]) Z fun H5 (hS5 : Own _ _ _ (_ :: _ :: _ :: L.eraseIdx k)) => Am (e' := [_,_,_,_,_,_,_,_,_,_,_,_,_,_,_,_,_,_,_,_,_,_,_,_,_,_]) Z (Ac (Ad hS5 (k := 0) Z Z Z Z Z (Aj Z Z Z) (Av hS5 (k := 1) Z (Ar (ν := ν) (a := [7, 0, 1, 1]) (b := [1, 0, 1, 1, 1]) (by decide)) Z Z Z Z ⟨Z, Z, Nat.le_of_ble_eq_true Z⟩ (u2 := .agg [_, _, _, _, _]) Z fun H6 (hS6 : Own _ _ _ (_ :: _ :: _ :: L.eraseIdx k)) => Am (e' := [_,_,_,_,_,_,_,_,_,_,_,_,_,_,_,_,_,_,_,_,_,_,_,_,_,_]) Z (Ap (Ak (res1 Z (AP hS6 (k := 1) Z Z Z Z (Aj Z Z Z))) ?_)))))))
  exact hq _ (Own.unpick (Own.drop0 (Own.drop0 (Own.mono hS6 (Ax (Az (a := [2, 0, 1, 1, 1]) hp))))) hL)
theorem checkW (hS : Own β ps H L) (hL : L[k]? = some (orc q S.of)) (hle : le ps ν) (hβ : under β ν = true) (hp : before ν pos') (key : Int) (t : Tk) (ht : t.fit) (vol ep want : Int)
    (hq : ∀ H1, Own β pos' H1 (L.set k (orc q (S.check key t vol ep want).2.of)) → Q (.int .i64 (S.check key t vol ep want).1) H1) : CW cfg ν 119 [.ptr q 0 0, .int .u64 key, t.enc, .int .u64 vol, .int .u64 ep, .int .u64 want] H Q := by
  replace hS := hS.pick hL
  refine AX g119 F119 Z ?_
  replace hS := Own.mono hS hle
  refine Ac ?_
  refine AR hS (AE (p := ν) (b := [0, 0])) (Af [0, 0] hβ) Z Z Z ⟨Z, Z⟩ fun H1 (hS1 : Own _ _ _ (_ :: _ :: L.eraseIdx k)) => ?_
  refine Ab Z Z ?_
  refine EZ (c38 ..) Z ?_
  refine Aq (AD (Ac (Aa Z Z (Aa Z Z ?_))))
  refine Ad hS1 (k := 0) Z Z Z Z Z (by exact Aj Z Z Z) ?_
  refine Ay (e' := [_,_,_,_,_,_,_,_,_,_,_,_,_,_,_,_,_,_,_,_,_,_,_,_,_,_,_,_,_,_,_,_,_,_,_,_,_,_]) Z ?_
  refine AB Z Z (textW (by assumption) ?_) 
  refine Al Z Z Z ?_
  refine Ad hS1 (k := 0) Z Z Z Z Z (by rfl) ?_
  refine Ay (e' := [_,_,_,_,_,_,_,_,_,_,_,_,_,_,_,_,_,_,_,_,_,_,_,_,_,_,_,_,_,_,_,_,_,_,_,_,_,_]) Z ?_
  refine AB Z Z (oVerify hS1 (k := 1) Z (Ar (ν := ν) (a := [1, 0]) (b := [6, 0, 0, 1]) (by decide)) (Af [6, 0, 0, 1] hβ) (Au (ν := ν) (a := [6, 0, 0, 1]) (b := [7, 0, 0, 1]) (by decide)) _ _ _ fun H2 hS2 => ?_) 
  replace hS2 : Own _ _ _ (_ :: _ :: L.eraseIdx k) := hS2
  refine BE Z Z Z (Ab Z Z ?_)
  refine EZ (c38 ..) Z ?_
  refine AH Z (fun h1 => ?_) (fun h1 => ?_)
  ·try simp only [bs] at h1
   refine Ac (Ab Z Z ?_)
   refine EZ (c38 ..) Z ?_
   refine Ap (AA (Ao ?_))
   refine Ak (res1 Z (Ai Z)) ?_
   refine qcast (hq _ (Own.unpick (Own.drop0 (Own.mono hS2 (Ax (Az (a := [7, 0, 0, 1]) hp)))) hL)) ?_; simp [Rf.check, Rf.ans, h1]
  try simp only [bs] at h1
  refine Ac (Al Z Z Z ?_)
  refine Ad hS2 (k := 0) Z Z Z Z Z (by rfl) ?_
  refine Aa Z Z ?_
  refine Ay (e' := [_,_,_,_,_,_,_,_,_,_,_,_,_,_,_,_,_,_,_,_,_,_,_,_,_,_,_,_,_,_,_,_,_,_,_,_,_,_]) Z ?_
  refine Ah Z Z Z Z Z ?_
  refine Ab Z Z ?_
  refine EZ (c38 ..) Z ?_
  refine AH Z (fun h3 => ?_) (fun h3 => ?_)
  ·try simp only [bs] at h3
   refine Ac (Ab Z Z ?_)
   refine EZ (c38 ..) Z ?_
   refine Ap (AA (Ao ?_))
   refine Ak (res1 Z (Ai Z)) ?_
   refine qcast (hq _ (Own.unpick (Own.drop0 (Own.mono hS2 (Ax (Az (a := [7, 0, 0, 1]) hp)))) hL)) ?_; simp [Rf.check, Rf.ans, h1, h3]
  try simp only [bs] at h3
  refine Ac (Al Z Z Z ?_)
  refine Ad hS2 (k := 0) Z Z Z Z Z (by rfl) ?_
  refine Aa Z Z ?_
  refine Ay (e' := [_,_,_,_,_,_,_,_,_,_,_,_,_,_,_,_,_,_,_,_,_,_,_,_,_,_,_,_,_,_,_,_,_,_,_,_,_,_]) Z ?_
  refine Ah Z Z Z Z Z ?_
  refine Ab Z Z ?_
  refine EZ (c38 ..) Z ?_
  refine AH Z (fun h5 => ?_) (fun h5 => ?_)
  ·try simp only [bs] at h5
   refine Ac (Ab Z Z ?_)
   refine EZ (c38 ..) Z ?_
   refine Ap (AA (Ao ?_))
   refine Ak (res1 Z (Ai Z)) ?_
   refine qcast (hq _ (Own.unpick (Own.drop0 (Own.mono hS2 (Ax (Az (a := [7, 0, 0, 1]) hp)))) hL)) ?_; simp [Rf.check, Rf.ans, h1, h3, h5]
  try simp only [bs] at h5
  refine Ac (Aa Z Z (Al Z Z Z ?_))
  refine Ad hS2 (k := 0) Z Z Z Z Z (by rfl) ?_
  refine Ay (e' := [_,_,_,_,_,_,_,_,_,_,_,_,_,_,_,_,_,_,_,_,_,_,_,_,_,_,_,_,_,_,_,_,_,_,_,_,_,_]) Z ?_
  refine Ah Z Z Z Z Z ?_
  refine Ah Z Z Z Z Z ?_
  refine Ab Z Z ?_
  refine EZ (c38 ..) Z ?_
  refine AH Z (fun h7 => ?_) (fun h7 => ?_)
  ·try simp only [bs] at h7
   refine Ac (Ab Z Z ?_)
   refine EZ (c38 ..) Z ?_
   refine Ap (AA (Ao ?_))
   refine Ak (res1 Z (Ai Z)) ?_
   refine qcast (hq _ (Own.unpick (Own.drop0 (Own.mono hS2 (Ax (Az (a := [7, 0, 0, 1]) hp)))) hL)) ?_; replace h7 : andN want t.ri ≠ 0 := h7; simp [Rf.check, Rf.ans, h1, h3, h5, h7]
  try simp only [bs] at h7
  refine At (AJ (Ag (Ac (Ab Z Z ?_))))
  refine EZ (c38 ..) Z ?_
  refine Ap ?_
  refine Ak (res1 Z (Ai Z)) ?_
  refine qcast (hq _ (Own.unpick (Own.drop0 (Own.mono hS2 (Ax (Az (a := [7, 0, 0, 1]) hp)))) hL)) ?_; replace h7 : andN want t.ri = 0 := h7; simp [Rf.check, Rf.ans, h1, h3, h5, h7]
structure Us where
  d : List Int
  key : Int
  iss : List Tk
def Us.enc (x : Us) : AVal := .agg [.lst (x.d.map (fun a : Int => AVal.int .u64 a)), .int .u64 x.key, .lst (x.iss.map Tk.enc)]
structure Us.good (x : Us) : Prop where
  d : x.d.length ≤ 1048576
  iss : x.iss.length ≤ 1048576
  fit : ∀ t ∈ x.iss, t.fit
def Us.ts (x : Us) : List Tk × Rf := (Rf.new x.d).issues x.key (x.iss.take 100)
theorem Us.stop {x : Us} {i : Nat} (hi : i ≤ 100) (h : x.iss.length ≤ i ∨ 100 ≤ i) : (Rf.new x.d).issues x.key (x.iss.take i) = x.ts := by
  unfold Us.ts
  rcases h with h | h
  · rw [List.take_of_length_le h, List.take_of_length_le (by omega)]
  obtain rfl : i = 100 := by omega
  rfl
end Go.Proofs.YtfkgdlfponfimaaGreat.X
/- Layer 11: Check, Text, Parse. -/
set_option maxRecDepth 100000
namespace Go.Proofs.YtfkgdlfponfimaaGreat.X.SE
open Go Go.RowKit WM
variable {ν : Nm} {H : Heap} {Q : AVal → Heap → Prop}
def chkL (t : List Se) : Bool := decide (t.length ≤ 16 ∧ (∀ x ∈ t, x.an.size ≤ 256) ∧ (t.map Se.id).Nodup)
theorem chk_step {t : List Se} {i : Nat} (hi : i < t.length) (h : ((t.take i).map Se.id).Nodup) : (((t.take (i + 1)).map Se.id).Nodup ↔ ¬ ∃ x ∈ t.take i, x.id = t[i].id) := by
  rw [List.take_succ_eq_append_getElem hi, List.map_append, List.nodup_append]
  constructor
  · rintro ⟨_, _, h3⟩ ⟨x, hx, he⟩
    exact h3 x.id (List.mem_map.2 ⟨x, hx, rfl⟩) t[i].id (by simp) he
  intro hn
  refine ⟨h, by simp, ?_⟩
  intro a ha b hb e
  obtain ⟨x, hx, rfl⟩ := List.mem_map.1 ha
  simp only [List.map_cons, List.map_nil, List.mem_singleton] at hb
  exact hn ⟨x, hx, by rw [e, hb]⟩
theorem nodup_take {t : List Se} (i : Nat) (h : (t.map Se.id).Nodup) : ((t.take i).map Se.id).Nodup := by
  rw [List.map_take]; exact h.sublist (List.take_sublist _ _)
theorem r_check {v : AVal} {t : List Se} (hv : freeze [] H 8 v = .lst (t.map Se.enc)) (hn : t.length ≤ 4294967296) (hq : Q (.bool (chkL t)) H) : CW cfg ν 33 [v] H Q := by
  refine BJ (args' := [.lst (t.map Se.enc)]) g33 F33 Z (AF (by assumption) Bw) ?_
  refine Ac (Ab Z Z (EZ (c37 ..) Z (Aq (Ac (Aa Z Z (Bj Z Z Ls.of Z Z Z (List.length_map _) (Ah Z Z Z Z Z (EZ (c37 ..) Z (AH Z (fun h1 => ?_) (fun h1 => ?_))))))))))
  ·try simp only [bs] at h1
   refine Ac (Ab Z Z (EZ (c37 ..) Z (Ap (Ao (Ak (res1 Z (Ai Z)) ⟨Z, ?_⟩)))))
   refine qcast hq ?_
   congr 1
   exact (decide_eq_false (fun e => by have := e.1; omega)).symm
  try simp only [bs] at h1
  refine At (Ag (Aq (Ac (Ab Z Z (EZ (c37 ..) Z (AD (AV (I := fun ν' mm ee H' => ∃ (i : Nat), mm = t.length - i ∧ under (1 :: 0 :: 1 :: 1 :: ν) ν' = true ∧ (i ≤ t.length ∧ t.length ≤ 16 ∧ (∀ x ∈ t.take i, x.an.size ≤ 256) ∧ ((t.take i).map Se.id).Nodup) ∧ ∃ g : Nat → AVal, ee = [.lst (t.map Se.enc), g 1, g 2, .int .i64 i, g 4, g 5, g 6, g 7, g 8, g 9, g 10, g 11, g 12, g 13, g 14, g 15, g 16, g 17, g 18, g 19, g 20, g 21, g 22, g 23, g 24, g 25, g 26, g 27, g 28, g 29, g 30, g 31, g 32, g 33, g 34, g 35, g 36]) ?_ _ _ _ _ ⟨0, Z, AI, (⟨by omega, by omega, by simp, by simp⟩), AU Z⟩)))))))
  rintro ν1 mm ee H1 ⟨i, rfl, hU1, ⟨hi, hl, hA, hN⟩, g1, rfl⟩
  refine Aq (Ac (Aa Z Z (Aa Z Z (Bj Z Z Ls.of Z Z Z (List.length_map _) (Ay (e' := [_,_,_,_,_,_,_,_,_,_,_,_,_,_,_,_,_,_,_,_,_,_,_,_,_,_,_,_,_,_,_,_,_,_,_,_,_]) Z (Ah Z Z Z Z Z (EZ (c37 ..) Z (AH Z (fun h4 => ?_) (fun h4 => ?_)))))))))
  ·try simp only [bs] at h4
   refine At (Ag (Aq (AD (Aq (Ac (Aa Z Z (Aa Z Z (Bb Z Z Z Ls.of Z Z Z Z (Ba (by omega)) Z (Ay (e' := [_,_,_,_,_,_,_,_,_,_,_,_,_,_,_,_,_,_,_,_,_,_,_,_,_,_,_,_,_,_,_,_,_,_,_,_,_]) Z (Al Z Z Z (AS Z Z Z Z (By Z Z Z (Ay (e' := [_,_,_,_,_,_,_,_,_,_,_,_,_,_,_,_,_,_,_,_,_,_,_,_,_,_,_,_,_,_,_,_,_,_,_,_,_]) Z (Ah Z Z Z Z Z (EZ (c37 ..) Z (AH Z (fun h6 => ?_) (fun h6 => ?_)))))))))))))))))
   ·try simp only [bs] at h6
    refine Ac (Ab Z Z (EZ (c37 ..) Z (Ap (Ao (AA (Ao (AA (Ao (Ak (res1 Z (Ai Z)) ⟨Z, ?_⟩)))))))))
    refine qcast hq ?_
    congr 1
    exact (decide_eq_false (fun e => by have := e.2.1 t[i] (List.getElem_mem (by omega)); omega)).symm
   try simp only [bs] at h6
   refine At (Ag (Ac (Ab Z Z (EZ (c37 ..) Z (AD (AV (I := fun ν' mm ee H' => ∃ (k : Nat), mm = i - k ∧ under (1 :: 1 :: 0 :: 1 :: 0 :: ν1) ν' = true ∧ (k ≤ i ∧ ∀ j (hj : j < t.length), j < k → ¬ t[j].id = t[i].id) ∧ ∃ g : Nat → AVal, ee = [.lst (t.map Se.enc), g 1, g 2, .int .i64 i, .int .i64 k, g 5, g 6, g 7, g 8, g 9, g 10, g 11, g 12, g 13, g 14, g 15, g 16, g 17, g 18, g 19, g 20, g 21, g 22, g 23, g 24, g 25, g 26, g 27, g 28, g 29, g 30, g 31, g 32, g 33, g 34, g 35, g 36]) ?_ _ _ _ _ ⟨0, Z, AI, (⟨by omega, fun j hj h => by omega⟩), AU Z⟩))))))
   rintro ν2 mm ee H2 ⟨k, rfl, hU2, ⟨hk, hK⟩, g2, rfl⟩
   refine Aq (Ac (Aa Z Z (Aa Z Z (Ah Z Z Z Z Z (EZ (c37 ..) Z (AH Z (fun h9 => ?_) (fun h9 => ?_)))))))
   ·try simp only [bs] at h9
    refine At (Ag (Aq (AD (Ac (Aa Z Z (Aa Z Z (Bb Z Z Z Ls.of Z Z Z Z (Ba (by omega)) Z (Ay (e' := [_,_,_,_,_,_,_,_,_,_,_,_,_,_,_,_,_,_,_,_,_,_,_,_,_,_,_,_,_,_,_,_,_,_,_,_,_]) Z (Al Z Z Z (AS Z Z Z Z (Aa Z Z (Ay (e' := [_,_,_,_,_,_,_,_,_,_,_,_,_,_,_,_,_,_,_,_,_,_,_,_,_,_,_,_,_,_,_,_,_,_,_,_,_]) Z (Aa Z Z (Bb Z Z Z Ls.of Z Z Z Z (Ba (by omega)) Z (Al Z Z Z (Ay (e' := [_,_,_,_,_,_,_,_,_,_,_,_,_,_,_,_,_,_,_,_,_,_,_,_,_,_,_,_,_,_,_,_,_,_,_,_,_]) Z (AS Z Z Z Z (Ah Z Z Z Z Z (EZ (c37 ..) Z (AH Z (fun h11 => ?_) (fun h11 => ?_)))))))))))))))))))))
    ·try simp only [bs] at h11
     refine Ac (Ab Z Z (EZ (c37 ..) Z (Ap (AA (Ao (AA (AA (Ao (AA (Ao (Ak (res1 Z (Ai Z)) ⟨Z, ?_⟩)))))))))))
     refine qcast hq ?_
     congr 1
     exact (decide_eq_false (fun e => (chk_step (by omega) hN).1 (nodup_take (i + 1) e.2.2) ⟨t[k], List.mem_take_iff_getElem.2 ⟨k, by omega, rfl⟩, h11⟩)).symm
    try simp only [bs] at h11
    refine At (AJ (Ag (AC (Aa Z Z (Ah Z Z Z Z (AW (by omega)) (Ab Z Z (EZ (c37 ..) Z (⟨_, ?_, k + 1, Z, AM hU2, ?_, AU Z⟩))))))))
    · omega
    exact ⟨by omega, fun j hj h => by by_cases e : j = k; (subst e; exact h11); exact hK j hj (by omega)⟩
   try simp only [bs] at h9
   refine AY (AQ (AN (AJ (Ag (AC (Aa Z Z (Ah Z Z Z Z (AW (by omega)) (Ab Z Z (EZ (c37 ..) Z (⟨_, ?_, i + 1, Z, AM hU1, ?_, AU Z⟩))))))))))
   · omega
   exact ⟨by omega, hl, fun x hx => by rw [List.take_succ_eq_append_getElem (by omega)] at hx; rcases List.mem_append.1 hx with h | h; (exact hA x h); (rw [List.mem_singleton.1 h]; omega), (chk_step (by omega) hN).2 (by rintro ⟨x, hx, he⟩; obtain ⟨j, hj, rfl⟩ := List.mem_take_iff_getElem.1 hx; exact hK j (by omega) (by omega) he)⟩
  try simp only [bs] at h4
  refine AY (AQ (AN (Ag (Ac (Ab Z Z (EZ (c37 ..) Z (Ap (Ak (res1 Z (Ai Z)) ⟨Z, ?_⟩))))))))
  refine qcast hq ?_
  congr 1
  exact (decide_eq_true ⟨hl, by rw [List.take_of_length_le (by omega)] at hA; exact hA, by rw [List.take_of_length_le (by omega)] at hN; exact hN⟩).symm
def cSe : Cod Se := (cI.pair (cI.pair (cT 256 (by decide)))).iso (fun p => ⟨p.1, p.2.1, p.2.2⟩) (fun x => (x.id, x.nr, x.an)) (fun _ => rfl) (fun _ => rfl)
def Se.fit (x : Se) : Prop := (0 ≤ x.id ∧ x.id ≤ 18446744073709551615) ∧ 0 ≤ x.nr ∧ x.nr ≤ 18446744073709551615
def sumA (t : List Se) : Nat := (t.map fun x => x.an.size).sum
def textS (t : List Se) : ByteArray := ba (encU t.length ++ (t.map cSe.enc).flatten)
def parS (s : ByteArray) : Option (List Se) := match (cSe.list 16 (by decide)).all s.data.toList with
  | some l => if chkL l then some l else none
  | none => none
def resP (s : ByteArray) : List Se × Bool := match parS s with
  | some l => (l, true)
  | none => ([], false)
end Go.Proofs.YtfkgdlfponfimaaGreat.X.SE
/- Layer 13: what a command makes of a state that may be; a job's resources. -/
set_option maxRecDepth 100000
namespace Go.Proofs.YtfkgdlfponfimaaGreat.X
open Go Go.RowKit WM
variable {ν β ps pos pos' : Nm} {H H1 : Heap} {Q : AVal → Heap → Prop} {L : List Asr} {k : Nat} {S T : Rf} {c : Ck}
structure Cm where
  d : Int
  t : Tk
  vo : Int
  se : Int
  a : Int
  b : Int
  lf : ByteArray
  deriving DecidableEq
abbrev Cm.cells (m : Cm) : List AVal := [.int .i64 m.d, .int .u64 m.t.tn, .int .u64 m.t.vo, .int .u64 m.t.ep, .int .u64 m.t.ri, .int .u64 m.t.tag, .int .u64 m.vo, .int .u64 m.se, .int .u64 m.a, .int .u64 m.b, .str m.lf]
def Cm.enc (m : Cm) : AVal := .agg m.cells
structure Cm.fit (m : Cm) : Prop where
  d : -9223372036854775808 ≤ m.d ∧ m.d ≤ 9223372036854775807
  t : m.t.fit
  vo : U64 m.vo
  se : U64 m.se
  a : U64 m.a
  b : U64 m.b
  lf : m.lf.size ≤ 1099511627776
structure Vo.good (x : Vo) : Prop where
  vo : U64 x.vo
  tn : U64 x.tn
  ep : U64 x.ep
  de : 0 ≤ x.de ∧ x.de ≤ 4
  ll : x.lv.length = 2 ^ x.de.toNat
  lv : ∀ s ∈ x.lv, s.size ≤ 64
structure Ck.good (c : Ck) : Prop where
  vl : c.vs.length ≤ 8
  vg : ∀ x ∈ c.vs, x.good
  nd : (c.vs.map Vo.vo).Nodup
  sc : SE.chkL c.ss = true
  sf : ∀ x ∈ c.ss, x.fit
  qc : chkQ c.qs = true
  qf : Fit c.qs
theorem Vo.good.len {x : Vo} (h : x.good) : x.lv.length ≤ 16 := by
  rw [h.ll]
  have := h.de
  obtain ⟨n, hn⟩ := Int.eq_ofNat_of_zero_le this.1
  rw [hn, Int.toNat_natCast]
  have : n ≤ 4 := by omega
  exact Nat.le_trans (Nat.pow_le_pow_right (by decide) this) (by decide)
theorem Ck.good.ql {c : Ck} (h : c.good) : c.qs.length ≤ 16 := (of_decide_eq_true h.qc).1
theorem Ck.good.sl {c : Ck} (h : c.good) : c.ss.length ≤ 16 := (of_decide_eq_true h.sc).1
theorem Ck.good.sm {c : Ck} (h : c.good) : c.sm :=
  ⟨Nat.le_trans h.vl (by decide), Nat.le_trans h.sl (by decide), Nat.le_trans h.ql (by decide), fun x hx => Nat.le_trans (h.vg x hx).len (by decide)⟩
structure Rs where
  c : Ck
  e : Int
  an : ByteArray
def err (c : Ck) (e : Int) : Rs := ⟨c, e, ⟨#[]⟩⟩
def v0 : Vo := ⟨0, 0, 0, 0, []⟩
def makeR (c : Ck) (m : Cm) : Rs :=
  if 0 ≤ atP m.vo c.vs then err c 134 else if 8 ≤ c.vs.length then err c 135 else if 4 < m.b then err c 133
  else err { c with vs := c.vs ++ [⟨m.vo, m.a, m.se, m.b, List.replicate (2 ^ m.b.toNat) ⟨#[]⟩⟩] } 0
def Ck.at (c : Ck) (m : Cm) : Vo := c.vs.getD (atP m.vo c.vs).toNat v0
def Ck.setV (c : Ck) (m : Cm) (x : Vo) : Ck := { c with vs := c.vs.set (atP m.vo c.vs).toNat x }
def epochR (c : Ck) (m : Cm) : Rs := if atP m.vo c.vs < 0 then err c 132 else err (c.setV m { c.at m with ep := max (c.at m).ep m.a }) 0
def limitR (c : Ck) (m : Cm) : Rs := if (setQ c.qs m.a m.b).2 = false then err c 135 else err { c with qs := (setQ c.qs m.a m.b).1 } 0
def leafE (S : Rf) (key : Int) (c : Ck) (m : Cm) (want : Int) : Int × Rf :=
  if atP m.vo c.vs < 0 then (132, S) else if (S.check key m.t m.vo (c.at m).ep want).1 ≠ 0 then S.check key m.t m.vo (c.at m).ep want
  else if ((c.at m).lv.length : Int) ≤ m.se then (133, (S.check key m.t m.vo (c.at m).ep want).2) else (0, (S.check key m.t m.vo (c.at m).ep want).2)
def Ck.old (c : Ck) (m : Cm) : ByteArray := (c.at m).lv.getD m.se.toNat ⟨#[]⟩
def Ck.setL (c : Ck) (m : Cm) (s : ByteArray) : Ck := c.setV m { c.at m with lv := (c.at m).lv.set m.se.toNat s }
def putR (c : Ck) (m : Cm) : Rs :=
  if 64 < m.lf.size ∨ m.lf = ⟨#[]⟩ then err c 136
  else if c.old m = ⟨#[]⟩ then (if (takeQ c.qs (c.at m).tn 1).2 ≠ 0 then err c (takeQ c.qs (c.at m).tn 1).2 else err { c.setL m m.lf with qs := (takeQ c.qs (c.at m).tn 1).1 } 0)
  else err (c.setL m m.lf) 0
def getR (c : Ck) (m : Cm) : Rs := ⟨c, 0, c.old m⟩
def trimR (c : Ck) (m : Cm) : Rs :=
  if c.old m = ⟨#[]⟩ then err c 0
  else if (giveQ c.qs (c.at m).tn 1).2 = 0 then err { c.setL m ⟨#[]⟩ with qs := (giveQ c.qs (c.at m).tn 1).1 } 0 else err (c.setL m ⟨#[]⟩) 0
def leafR (S : Rf) (key : Int) (c : Ck) (m : Cm) (want : Int) (f : Ck → Cm → Rs) : Rs × Rf :=
  if (leafE S key c m want).1 ≠ 0 then (err c (leafE S key c m want).1, (leafE S key c m want).2) else (f c m, (leafE S key c m want).2)
def runR (S : Rf) (key : Int) (c : Ck) (m : Cm) : Rs × Rf :=
  if m.d = 0 then (makeR c m, S) else if m.d = 1 then (epochR c m, S) else if m.d = 2 then (limitR c m, S)
  else if m.d = 3 then leafR S key c m 2 putR else if m.d = 4 then leafR S key c m 1 getR else if m.d = 5 then leafR S key c m 2 trimR
  else (err c 130, S)
def lvX (i : Nat) (Us : List AVal) (vs : List Vo) : Asr := Asr.all ((lvsOf Us vs).eraseIdx i)
theorem lvs_get {Us : List AVal} {vs : List Vo} {i : Nat} (hl : Us.length = vs.length) (hi : i < vs.length) : (lvsOf Us vs)[i]? = some (sl (Us[i]'(by omega)) 1 (vs[i].lv.map AVal.str)) := by
  unfold lvsOf
  rw [List.getElem?_map, List.getElem?_eq_getElem (by rw [List.length_zip]; omega), List.getElem_zip]; rfl
theorem lvs_len {Us : List AVal} {vs : List Vo} (hl : Us.length = vs.length) : (lvsOf Us vs).length = vs.length := by
  unfold lvsOf; rw [List.length_map, List.length_zip]; omega
theorem lvs_set {Us : List AVal} {vs : List Vo} {i : Nat} {y : Vo} (hl : Us.length = vs.length) (hi : i < vs.length) : lvsOf Us (vs.set i y) = (lvsOf Us vs).set i (sl (Us[i]'(by omega)) 1 (y.lv.map AVal.str)) := by
  apply List.ext_getElem?
  intro n
  by_cases hn : n < vs.length
  · have hl2 : Us.length = (vs.set i y).length := by simpa using hl
    rw [lvs_get hl2 (by simpa using hn), List.getElem?_set]
    by_cases h : i = n
    · subst h; rw [if_pos rfl, if_pos (by rw [lvs_len hl]; omega)]; simp
    rw [if_neg h, lvs_get hl hn]; simp [h]
  rw [List.getElem?_eq_none (by rw [lvs_len (by simpa using hl)]; simpa using hn), List.getElem?_eq_none (by rw [List.length_set, lvs_len hl]; omega)]
theorem rows_get {Us : List AVal} {vs : List Vo} {i : Nat} (hl : Us.length = vs.length) (hi : i < vs.length) : (rowsOf Us vs)[i]? = some (vs[i].row (Us[i]'(by omega))) := by
  unfold rowsOf
  rw [List.getElem?_map, List.getElem?_eq_getElem (by rw [List.length_zip]; omega), List.getElem_zip]; rfl
theorem rows_lenE {Us : List AVal} {vs : List Vo} (hl : Us.length = vs.length) : (rowsOf Us vs).length = vs.length := by
  unfold rowsOf; rw [List.length_map, List.length_zip]; omega
theorem rows_set {Us : List AVal} {vs : List Vo} {i : Nat} {y : Vo} (hl : Us.length = vs.length) (hi : i < vs.length) : (rowsOf Us vs).set i (y.row (Us[i]'(by omega))) = rowsOf Us (vs.set i y) := by
  apply List.ext_getElem?
  intro n
  by_cases hn : n < vs.length
  · have hl2 : Us.length = (vs.set i y).length := by simpa using hl
    rw [rows_get hl2 (by simpa using hn), List.getElem?_set]
    by_cases h : i = n
    · subst h; rw [if_pos rfl, if_pos (by rw [rows_lenE hl]; omega)]; simp
    rw [if_neg h, rows_get hl hn]; simp [h]
  rw [List.getElem?_eq_none (by rw [List.length_set, rows_lenE hl]; omega), List.getElem?_eq_none (by rw [rows_lenE (by simpa using hl)]; simpa using hn)]
theorem rows_lv {Us : List AVal} {vs : List Vo} {i : Nat} {l : List ByteArray} (hl : Us.length = vs.length) (hi : i < vs.length) : rowsOf Us (vs.set i { vs[i] with lv := l }) = rowsOf Us vs := by
  rw [← rows_set hl hi]
  exact Bn (rows_get hl hi)
theorem erase_app {α : Type} {A B : List α} {i : Nat} (h : i < A.length) : (A ++ B).eraseIdx i = A.eraseIdx i ++ B := List.eraseIdx_append_of_lt_length h B
theorem Own.lv_at {Us : List AVal} {vs : List Vo} {i : Nat} (h : Own β ps H (lvA Us vs :: L)) (hl : Us.length = vs.length) (hi : i < vs.length) : Own β ps H (sl (Us[i]'(by omega)) 1 (vs[i].lv.map AVal.str) :: lvX i Us vs :: L) := by
  have h1 := h.un_all
  have hi2 : i < (lvsOf Us vs).length := by rw [lvs_len hl]; exact hi
  have h2 := h1.pick (k := i) (a := sl (Us[i]'(by omega)) 1 (vs[i].lv.map AVal.str)) (by rw [List.getElem?_append_left hi2]; exact lvs_get hl hi)
  rw [erase_app hi2] at h2
  exact Own.tor (A := [_]) (Own.mk_all (L1 := (lvsOf Us vs).eraseIdx i) (Own.rot (A := (lvsOf Us vs).eraseIdx i) h2))
theorem Own.lv_put {Us : List AVal} {vs : List Vo} {i : Nat} {y : Vo} {hU : i < Us.length} (h : Own β ps H (sl (Us[i]'hU) 1 (y.lv.map AVal.str) :: lvX i Us vs :: L)) (hl : Us.length = vs.length) (hi : i < vs.length) : Own β ps H (lvA Us (vs.set i y) :: L) := by
  have hi2 : i < (lvsOf Us vs).length := by rw [lvs_len hl]; exact hi
  have h1 := (Own.rot (A := [_]) h).un_all
  have h2 := Own.tor (A := (lvsOf Us vs).eraseIdx i) h1
  rw [← erase_app hi2] at h2
  have h3 := Own.unpick (a := sl (Us[i]'(by omega)) 1 (vs[i].lv.map AVal.str)) h2 (by rw [List.getElem?_append_left hi2]; exact lvs_get hl hi)
  rw [List.set_append_left _ _ hi2] at h3
  refine Own.mk_all (L1 := lvsOf Us (vs.set i y)) ?_
  rw [lvs_set hl hi]; exact h3
variable {q qo : Nm} {key : Int} {m : Cm}
def jrow (q qo : Nm) (key : Int) (V S T : AVal) (m : Cm) : Asr := row q 16 [.agg [.ptr qo 0 0, .int .u64 key, V, S, T, .int .i64 m.d, .int .u64 m.t.tn, .int .u64 m.t.vo, .int .u64 m.t.ep, .int .u64 m.t.ri, .int .u64 m.t.tag, .int .u64 m.vo, .int .u64 m.se, .int .u64 m.a, .int .u64 m.b, .str m.lf]]
def jobO (q qo : Nm) (key : Int) (c : Ck) (m : Cm) : Asr := Asr.ex fun z : AVal × AVal × AVal => Asr.all [jrow q qo key z.1 z.2.1 z.2.2 m, vols z.1 c.vs, sl z.2.1 3 (c.ss.map SE.Se.enc), sl z.2.2 3 (c.qs.map Qu.enc)]
theorem Own.un_job (h : Own β ps H (jobO q qo key c m :: L)) : ∃ V S T, Own β ps H (jrow q qo key V S T m :: vols V c.vs :: sl S 3 (c.ss.map SE.Se.enc) :: sl T 3 (c.qs.map Qu.enc) :: L) := by
  obtain ⟨⟨V, S, T⟩, h1⟩ := Own.un_ex h
  exact ⟨V, S, T, h1.un_all⟩
theorem Own.mk_job {V S T : AVal} (h : Own β ps H (jrow q qo key V S T m :: vols V c.vs :: sl S 3 (c.ss.map SE.Se.enc) :: sl T 3 (c.qs.map Qu.enc) :: L)) : Own β ps H (jobO q qo key c m :: L) :=
  Own.mk_ex (f := fun z : AVal × AVal × AVal => Asr.all [jrow q qo key z.1 z.2.1 z.2.2 m, vols z.1 c.vs, sl z.2.1 3 (c.ss.map SE.Se.enc), sl z.2.2 3 (c.qs.map Qu.enc)]) (V, S, T) (Own.mk_all h)
theorem Own.st_fz {V S T : AVal} {X1 : Asr} (h : Own β ps H (X1 :: vols V c.vs :: sl S 3 (c.ss.map SE.Se.enc) :: sl T 3 (c.qs.map Qu.enc) :: L)) : X.freeze [] H 8 (.agg [V, S, T]) = c.enc := by
  have h2 : Own β ps H (stO V S T c :: L) := Own.mk_all (L1 := [vols V c.vs, sl S 3 (c.ss.map SE.Se.enc), sl T 3 (c.qs.map Qu.enc)]) (Own.drop0 h)
  obtain ⟨f, hf, _⟩ := h2.get (k := 0) Z
  exact st_freeze (n := 4) hf
theorem Own.st_fzU {V S T : AVal} {X1 : Asr} {Us : List AVal} (h : Own β ps H (X1 :: sl V 5 (rowsOf Us c.vs) :: lvA Us c.vs :: sl S 3 (c.ss.map SE.Se.enc) :: sl T 3 (c.qs.map Qu.enc) :: L)) (hl : Us.length = c.vs.length) : X.freeze [] H 8 (.agg [V, S, T]) = c.enc :=
  Own.st_fz (X1 := X1) (Own.tor (A := [vols V c.vs]) (Own.mk_vols (Own.rot (A := [_, _]) (show Own β ps H (X1 :: ([sl V 5 (rowsOf Us c.vs), lvA Us c.vs] ++ (sl S 3 (c.ss.map SE.Se.enc) :: sl T 3 (c.qs.map Qu.enc) :: L))) from h)) hl))
theorem Own.un_jobU (h : Own β ps H (jobO q qo key c m :: L)) : ∃ V S T Us, Us.length = c.vs.length ∧ Own β ps H (jrow q qo key V S T m :: sl V 5 (rowsOf Us c.vs) :: lvA Us c.vs :: sl S 3 (c.ss.map SE.Se.enc) :: sl T 3 (c.qs.map Qu.enc) :: L) := by
  obtain ⟨V, S, T, h⟩ := h.un_job
  obtain ⟨Us, hu, h⟩ := Own.un_vols (Own.rot (A := [_]) h)
  exact ⟨V, S, T, Us, hu, Own.tor (A := [_, _]) h⟩
theorem Own.mk_jobU {V S T : AVal} {Us : List AVal} (h : Own β ps H (jrow q qo key V S T m :: sl V 5 (rowsOf Us c.vs) :: lvA Us c.vs :: sl S 3 (c.ss.map SE.Se.enc) :: sl T 3 (c.qs.map Qu.enc) :: L)) (hu : Us.length = c.vs.length) : Own β ps H (jobO q qo key c m :: L) :=
  Own.mk_job (Own.tor (A := [vols V c.vs]) (Own.mk_vols (Own.rot (A := [_, _]) (show Own β ps H (jrow q qo key V S T m :: ([sl V 5 (rowsOf Us c.vs), lvA Us c.vs] ++ (sl S 3 (c.ss.map SE.Se.enc) :: sl T 3 (c.qs.map Qu.enc) :: L))) from h)) hu))
theorem lvs_same {Us : List AVal} {vs : List Vo} {i : Nat} {y : Vo} (hl : Us.length = vs.length) (hi : i < vs.length) (hy : y.lv = vs[i].lv) : lvA Us (vs.set i y) = lvA Us vs := by
  unfold lvA
  rw [lvs_set hl hi, hy, Bn (lvs_get hl hi)]
theorem Own.mk_jobV {V S T : AVal} {Us : List AVal} {i : Nat} {y : Vo} {hU : i < Us.length} (h : Own β ps H (jrow q qo key V S T m :: sl V 5 ((rowsOf Us c.vs).set i (y.row (Us[i]'hU))) :: lvA Us c.vs :: sl S 3 (c.ss.map SE.Se.enc) :: sl T 3 (c.qs.map Qu.enc) :: L)) (hu : Us.length = c.vs.length) (hi : i < c.vs.length) (hy : y.lv = c.vs[i].lv) : Own β ps H (jobO q qo key ⟨c.vs.set i y, c.ss, c.qs⟩ m :: L) := by
  rw [rows_set hu hi, ← lvs_same hu hi hy] at h
  exact Own.mk_jobU h (by rw [hu]; simp)
def slF (O : AVal) (w : Nat) (xs : List AVal) : Asr := ⟨fun H fp => Sl H w xs O fp ∨ (O = .lst xs ∧ fp = []), fun h hf => h.elim (fun h => .inl (h.frame hf)) .inr⟩
def lvsF (Us : List AVal) (vs : List Vo) : List Asr := (vs.zip Us).map fun p => slF p.2 1 (p.1.lv.map AVal.str)
def volsF (V : AVal) (vs : List Vo) : Asr := Asr.ex fun Us : { Us : List AVal // Us.length = vs.length } => Asr.all (sl V 5 (rowsOf Us.1 vs) :: lvsF Us.1 vs)
theorem slF_freeze {n : Nat} {O : AVal} {l : List ByteArray} {f : List Nm} (h : (slF O 1 (l.map AVal.str)).holds H f) : X.freeze [] H (n + 1) O = .lst (l.map AVal.str) := by
  rcases h with h | ⟨rfl, _⟩
  · exact Sl.freezeP (n := n) h str_plain
  rfl
theorem slF_reach {n : Nat} {O : AVal} {l : List ByteArray} {f : List Nm} (h : (slF O 1 (l.map AVal.str)).holds H f) : ∀ q ∈ reach [] H n O, q ∈ f := by
  rcases h with h | ⟨rfl, _⟩
  · exact h.reachP str_plain
  intro q hq; cases n <;> simp [reach] at hq
theorem rowsF_freeze {n : Nat} : ∀ (vs : List Vo) (Us : List AVal) (f : List Nm), Us.length = vs.length → hold (lvsF Us vs) H f → (rowsOf Us vs).map (X.freeze [] H (n + 2)) = vs.map Vo.enc
  | [], Us, f, _, _ => by simp [rowsOf]
  | v :: vs, [], f, h, _ => by simp at h
  | v :: vs, U :: Us, f, h, ⟨f1, f2, h0, h1, h2, h3⟩ => by
    have ih := rowsF_freeze (n := n) vs Us f2 (by simpa using h) h3
    have e : X.freeze [] H (n + 2) (v.row U) = v.enc := by
      have h4 : X.freeze [] H (n + 1) U = _ := slF_freeze (n := n) h2
      show AVal.agg [.int .u64 v.vo, .int .u64 v.tn, .int .u64 v.ep, .int .i64 v.de, X.freeze [] H (n + 1) U] = _
      rw [h4]; rfl
    simp only [rowsOf, List.zip_cons_cons, List.map_cons, e] at ih ⊢
    rw [ih]
theorem rowsF_reach {n : Nat} : ∀ (vs : List Vo) (Us : List AVal) (f : List Nm), hold (lvsF Us vs) H f → ∀ q ∈ ((rowsOf Us vs).map (reach [] H n)).flatten, q ∈ f
  | [], Us, f, _, q, hq => by simp [rowsOf] at hq
  | v :: vs, [], f, _, q, hq => by simp [rowsOf] at hq
  | v :: vs, U :: Us, f, ⟨f1, f2, h0, h1, h2, h3⟩, q, hq => by
    have ih := rowsF_reach (n := n) vs Us f2 h3
    simp only [rowsOf, List.zip_cons_cons, List.map_cons, List.flatten_cons, List.mem_append] at hq ih
    rw [h0]
    rcases hq with hq | hq
    · refine List.mem_append_left _ ?_
      cases n with
      | zero => simp [reach] at hq
      | succ n =>
        simp only [Vo.row, reach, List.map_cons, List.map_nil, List.flatten_cons, List.flatten_nil, List.append_nil, List.mem_append] at hq
        have nil : ∀ (c : AVal), plain c = true → q ∈ reach [] H n c → False := fun c hc hm => by rw [reach_plain hc] at hm; simp at hm
        rcases hq with hq | hq | hq | hq | hq
        · exact (nil _ rfl hq).elim
        · exact (nil _ rfl hq).elim
        · exact (nil _ rfl hq).elim
        · exact (nil _ rfl hq).elim
        exact slF_reach h2 q hq
    exact List.mem_append_right _ (ih q hq)
def stF (V S T : AVal) (c : Ck) : Asr := Asr.all [volsF V c.vs, sl S 3 (c.ss.map SE.Se.enc), sl T 3 (c.qs.map Qu.enc)]
theorem stF_freeze {V S T : AVal} {c : Ck} {f : List Nm} {n : Nat} (h : (stF V S T c).holds H f) : X.freeze [] H (n + 4) (.agg [V, S, T]) = c.enc := by
  obtain ⟨f1, f2, h0, h1, ⟨⟨Us, hU⟩, g1, g2, g0, g3, g4, g5⟩, f3, f4, k0, k1, k2, f5, f6, m0, m1, m2, m3⟩ := h
  have g4 : Sl H 5 (rowsOf Us c.vs) V g1 := g4
  have e1 : X.freeze [] H (n + 3) V = _ := g4.freezeN (n := n + 2)
  have e2 : X.freeze [] H (n + 3) S = _ := Sl.freezeP (n := n + 2) k2 se_plain
  have e3 : X.freeze [] H (n + 3) T = _ := Sl.freezeP (n := n + 2) m2 qu_plain
  show AVal.agg [X.freeze [] H (n + 3) V, X.freeze [] H (n + 3) S, X.freeze [] H (n + 3) T] = _
  rw [e1, e2, e3, rowsF_freeze c.vs Us g2 hU g5]
theorem stF_reach {V S T : AVal} {c : Ck} {f : List Nm} {n : Nat} (h : (stF V S T c).holds H f) : ∀ q ∈ reach [] H n (.agg [V, S, T]), q ∈ f := by
  obtain ⟨f1, f2, h0, h1, ⟨⟨Us, hU⟩, g1, g2, g0, g3, g4, g5⟩, f3, f4, k0, k1, k2, f5, f6, m0, m1, m2, m3⟩ := h
  have g4 : Sl H 5 (rowsOf Us c.vs) V g1 := g4
  intro q hq
  cases n with
  | zero => simp [reach] at hq
  | succ n =>
    simp only [reach, List.map_cons, List.map_nil, List.flatten_cons, List.flatten_nil, List.append_nil, List.mem_append] at hq
    rw [h0, k0, m0, g0]
    rcases hq with hq | hq | hq
    · cases n with
      | zero => simp [reach] at hq
      | succ n =>
        rcases g4.reachN q hq with h5 | h5
        · simp [h5]
        simp [rowsF_reach c.vs Us g2 g5 q h5]
    · simp [Sl.reachP k2 se_plain q hq]
    simp [Sl.reachP m2 qu_plain q hq]
theorem lvsF_hold : ∀ {vs : List Vo} {Us : List AVal} {L : List Asr} {f : List Nm}, hold (lvsOf Us vs ++ L) H f → hold (lvsF Us vs ++ L) H f
  | [], Us, L, f, h => by simpa [lvsF, lvsOf] using h
  | v :: vs, [], L, f, h => by simpa [lvsF, lvsOf] using h
  | v :: vs, U :: Us, L, f, ⟨f1, f2, h0, h1, h2, h3⟩ => ⟨f1, f2, h0, h1, .inl h2, lvsF_hold (vs := vs) (Us := Us) h3⟩
theorem stO_F {V S T : AVal} {c : Ck} {f : List Nm} (h : (stO V S T c).holds H f) : (stF V S T c).holds H f := by
  obtain ⟨f1, f2, h0, h1, ⟨⟨Us, hU⟩, g1, g2, g0, g3, g4, g5⟩, h3⟩ := h
  refine ⟨f1, f2, h0, h1, ⟨⟨Us, hU⟩, g1, g2, g0, g3, g4, ?_⟩, h3⟩
  have := lvsF_hold (L := []) (vs := c.vs) (Us := Us) (f := g2) (H := H) (by rw [List.append_nil]; exact g5)
  rwa [List.append_nil] at this
def lvFA (Us : List AVal) (vs : List Vo) : Asr := Asr.all (lvsF Us vs)
theorem Own.lvF {Us : List AVal} {vs : List Vo} (h : Own β ps H (lvA Us vs :: L)) : Own β ps H (lvFA Us vs :: L) := by
  have h1 := h.un_all
  obtain ⟨fp, h2, h3⟩ := h1
  exact Own.mk_all ⟨fp, lvsF_hold h2, h3⟩
theorem hold_addF {A B : List Asr} {O : AVal} {w : Nat} {xs : List AVal} {f : List Nm} (h : hold (A ++ B) H f) (hO : O = .lst xs) : hold (A ++ (slF O w xs :: B)) H f := by
  induction A generalizing f with
  | nil => exact ⟨[], f, rfl, by simp, .inr ⟨hO, rfl⟩, h⟩
  | cons a A ih =>
    obtain ⟨f1, f2, h0, h1, h2, h3⟩ := h
    exact ⟨f1, f2, h0, h1, h2, ih h3⟩
theorem Own.lvF_snoc {Us : List AVal} {vs : List Vo} {x : Vo} (h : Own β ps H (lvFA Us vs :: L)) (hl : Us.length = vs.length) : Own β ps H (lvFA (Us ++ [.lst (x.lv.map AVal.str)]) (vs ++ [x]) :: L) := by
  have h1 := h.un_all
  obtain ⟨fp, h2, h3⟩ := h1
  refine Own.mk_all (L1 := lvsF (Us ++ [.lst (x.lv.map AVal.str)]) (vs ++ [x])) ?_
  have e : lvsF (Us ++ [.lst (x.lv.map AVal.str)]) (vs ++ [x]) = lvsF Us vs ++ [slF (.lst (x.lv.map AVal.str)) 1 (x.lv.map AVal.str)] := by
    unfold lvsF
    rw [List.zip_append hl.symm, List.map_append]; rfl
  rw [e, List.append_assoc]
  exact ⟨fp, hold_addF h2 rfl, h3⟩
def jobF (q qo : Nm) (key : Int) (c : Ck) (m : Cm) : Asr := Asr.ex fun z : AVal × AVal × AVal => Asr.all [jrow q qo key z.1 z.2.1 z.2.2 m, stF z.1 z.2.1 z.2.2 c]
theorem Own.mk_volsF {Us : List AVal} {vs : List Vo} {V : AVal} (h : Own β ps H (sl V 5 (rowsOf Us vs) :: lvFA Us vs :: L)) (hl : Us.length = vs.length) : Own β ps H (volsF V vs :: L) := by
  have h1 := (Own.rot (A := [lvFA Us vs]) h).un_all
  have h2 : Own β ps H (sl V 5 (rowsOf Us vs) :: (lvsF Us vs ++ L)) := Own.tor (A := lvsF Us vs) h1
  exact Own.mk_ex (f := fun Us : { Us : List AVal // Us.length = vs.length } => Asr.all (sl V 5 (rowsOf Us.1 vs) :: lvsF Us.1 vs)) ⟨Us, hl⟩ (Own.mk_all (L1 := sl V 5 (rowsOf Us vs) :: lvsF Us vs) h2)
theorem Own.mk_jobF {V S T : AVal} {Us : List AVal} (h : Own β ps H (jrow q qo key V S T m :: sl V 5 (rowsOf Us c.vs) :: lvFA Us c.vs :: sl S 3 (c.ss.map SE.Se.enc) :: sl T 3 (c.qs.map Qu.enc) :: L)) (hu : Us.length = c.vs.length) : Own β ps H (jobF q qo key c m :: L) := by
  have h1 := Own.mk_volsF (Own.rot (A := [_, _]) (show Own β ps H (jrow q qo key V S T m :: ([sl V 5 (rowsOf Us c.vs), lvFA Us c.vs] ++ (sl S 3 (c.ss.map SE.Se.enc) :: sl T 3 (c.qs.map Qu.enc) :: L))) from h)) hu
  have h2 : Own β ps H (jrow q qo key V S T m :: ([volsF V c.vs, sl S 3 (c.ss.map SE.Se.enc), sl T 3 (c.qs.map Qu.enc)] ++ L)) := Own.tor (A := [volsF V c.vs]) h1
  have h3 : Own β ps H (stF V S T c :: jrow q qo key V S T m :: L) := Own.mk_all (L1 := [volsF V c.vs, sl S 3 (c.ss.map SE.Se.enc), sl T 3 (c.qs.map Qu.enc)]) (Own.rot (A := [volsF V c.vs, sl S 3 (c.ss.map SE.Se.enc), sl T 3 (c.qs.map Qu.enc)]) h2)
  exact Own.mk_ex (f := fun z : AVal × AVal × AVal => Asr.all [jrow q qo key z.1 z.2.1 z.2.2 m, stF z.1 z.2.1 z.2.2 c]) (V, S, T) (Own.mk_all (L1 := [jrow q qo key V S T m, stF V S T c]) (Own.tor (A := [_]) h3))
theorem Own.job_F (h : Own β ps H (jobO q qo key c m :: L)) : Own β ps H (jobF q qo key c m :: L) := by
  obtain ⟨V, S, T, Us, hu, h⟩ := h.un_jobU
  exact Own.mk_jobF (Own.tor (A := [_, _]) (Own.lvF (Own.rot (A := [_, _]) (show Own β ps H (jrow q qo key V S T m :: ([sl V 5 (rowsOf Us c.vs), lvA Us c.vs] ++ (sl S 3 (c.ss.map SE.Se.enc) :: sl T 3 (c.qs.map Qu.enc) :: L))) from h) |> fun h => Own.tor (A := [_]) h) |> fun h => Own.rot (A := [_]) h)) hu
theorem Own.mk_jobN {V S T : AVal} {Us : List AVal} {x : Vo} (h : Own β ps H (jrow q qo key V S T m :: sl V 5 (rowsOf Us c.vs ++ [x.row (.lst (x.lv.map AVal.str))]) :: lvA Us c.vs :: sl S 3 (c.ss.map SE.Se.enc) :: sl T 3 (c.qs.map Qu.enc) :: L)) (hu : Us.length = c.vs.length) : Own β ps H (jobF q qo key ⟨c.vs ++ [x], c.ss, c.qs⟩ m :: L) := by
  rw [rows_snoc hu] at h
  refine Own.mk_jobF (Us := Us ++ [.lst (x.lv.map AVal.str)]) (V := V) (S := S) (T := T) ?_ (by simp [hu])
  have h1 := Own.lvF_snoc (x := x) (Own.lvF (Own.tor (A := [_, _]) (show Own β ps H ([jrow q qo key V S T m, sl V 5 (rowsOf (Us ++ [.lst (x.lv.map AVal.str)]) (c.vs ++ [x]))] ++ lvA Us c.vs :: sl S 3 (c.ss.map SE.Se.enc) :: sl T 3 (c.qs.map Qu.enc) :: L) from h))) hu
  exact Own.rot (A := [jrow q qo key V S T m, sl V 5 (rowsOf (Us ++ [.lst (x.lv.map AVal.str)]) (c.vs ++ [x]))]) h1
theorem Own.un_jobF (h : Own β ps H (jobF q qo key c m :: L)) : ∃ V S T, Own β ps H (jrow q qo key V S T m :: stF V S T c :: L) := by
  obtain ⟨⟨V, S, T⟩, h1⟩ := Own.un_ex h
  exact ⟨V, S, T, h1.un_all⟩
end Go.Proofs.YtfkgdlfponfimaaGreat.X
/- Layer 13: a job's methods: epoch, limit, make. -/
set_option maxRecDepth 100000
namespace Go.Proofs.YtfkgdlfponfimaaGreat.X
open Go Go.RowKit WM
section
variable {c : Cfg} {ν β ps : Nm} {all : Array Oper} {r : List Oper} {i w n k : Nat} {e : Env} {H : Heap} {Q : Env → Heap → Prop} {L : List Asr} {xs : List AVal} {q : Nm} {dst : Option Tmp} {t : TypeId} {x : Operand} {ti : TI} {u v : AVal}
theorem BB {ty pos after gd} (hS : Own β ps H L) (hL : L[k]? = some (sl (.slc q w 0 n) w xs)) (hw : Region.wanted ⟨dst, .load t x, ty, pos, after, gd⟩ (ayielded all e) = true) {j off : Nat} (hx : evq e x = some (.ptr q j off)) (ht : c.T t = some ti) (hu : xs[j]? = some u) (hp : part ti u off = some v)
    (h : OW c ν all r (i + 1) (putT e dst v) H Q) : OW c ν all (⟨dst, .load t x, ty, pos, after, gd⟩ :: r) i e H Q := by
  obtain ⟨f, hf, _⟩ := hS.get hL
  have hf : Sl H w xs (.slc q w 0 n) f := hf
  cases hf with
  | @row _ _ ys a1 a2 a3 =>
    have hu2 : ys[j]? = some u := by have hu2 := hu; rw [← a3, List.getElem?_take] at hu2; split at hu2 <;> simp_all
    exact BD hw hx (aLoad_ptr ht a1 hu2 hp) h
end
variable {ν β ps pos pos' : Nm} {H H1 : Heap} {Q : AVal → Heap → Prop} {L : List Asr} {k : Nat} {S T : Rf} {c : Ck} {q qo : Nm} {key : Int} {m : Cm}
theorem atP_some {at0 : Int} {c : Ck} (h : atP m.vo c.vs = at0) (h0 : ¬ at0 < 0) : ∃ (i : Nat) (hi : i < c.vs.length), at0 = i ∧ c.vs[i].vo = m.vo := by
  rcases atP_cases m.vo c.vs with ⟨h1, _⟩ | ⟨i, hi, h1, h2⟩
  · omega
  exact ⟨i, hi, by omega, h2⟩
theorem at_eq {c : Ck} {i : Nat} (h : atP m.vo c.vs = i) (hi : i < c.vs.length) : c.at m = c.vs[i] := by
  unfold Ck.at; rw [h, Int.toNat_natCast]; simp [List.getD_eq_getElem?_getD, hi]
theorem setV_eq {c : Ck} {i : Nat} {x : Vo} (h : atP m.vo c.vs = i) : c.setV m x = { c with vs := c.vs.set i x } := by
  unfold Ck.setV; rw [h, Int.toNat_natCast]
theorem epoch_c (hg : c.good) (hS : Own β ps H (jobO q qo key c m :: L)) (hle : le ps ν) (hβ : under β ν = true) (hp : before ν pos')
    (hq : ∀ H1, Own β pos' H1 (jobO q qo key (epochR c m).c m :: L) → Q (.tup [.str (epochR c m).an, .int .i64 (epochR c m).e]) H1) : CW cfg ν 52 [.ptr q 0 0] H Q := by
  obtain ⟨V, S, T, Us, hu, hS⟩ := hS.un_jobU
  have hvl := hg.vl
  refine AX g52 F52 Z ?_
  replace hS := Own.mono hS hle
  refine Ac (Ab Z Z (Ab Z Z (Am (e' := [_,_,_,_,_,_,_,_,_,_,_,_,_,_,_,_,_,_,_,_,_,_,_,_,_,_,_,_,_,_,_,_,_,_,_,_,_,_,_,_]) Z (Ac (Aa Z Z (AO Z Z (Al Z Z Z (EN (c40 ..) Z (Ad hS (k := 0) Z Z Z Z Z Z (Aa Z Z (AO Z Z (EN (c40 ..) Z (Al Z Z Z (Al Z Z Z (Ad hS (k := 0) Z Z Z Z Z Z (EN (c40 ..) Z (AB Z Z (ck_find (Own.st_fzU hS hu) (by omega) _ ?_) )))))))))))))))))
  refine Ab Z Z (Am (e' := [_,_,_,_,_,_,_,_,_,_,_,_,_,_,_,_,_,_,_,_,_,_,_,_,_,_,_,_,_,_,_,_,_,_,_,_,_,_,_,_]) Z (Aq (Ac ?_)))
  generalize hat : atP m.vo c.vs = at0
  refine Aa Z Z (Ah Z Z Z Z Z (Am (e' := [_,_,_,_,_,_,_,_,_,_,_,_,_,_,_,_,_,_,_,_,_,_,_,_,_,_,_,_,_,_,_,_,_,_,_,_,_,_,_,_]) Z (AH Z (fun h2 => ?_) (fun h2 => ?_))))
  ·try simp only [bs] at h2
   refine Ac (Ab Z Z (Ab Z Z (Am (e' := [_,_,_,_,_,_,_,_,_,_,_,_,_,_,_,_,_,_,_,_,_,_,_,_,_,_,_,_,_,_,_,_,_,_,_,_,_,_,_,_]) Z (Ap (Ao (Ak (res2 Z (Ai Z) (Ai Z)) ?_))))))
   rw [show epochR c m = err c 132 from if_pos (by omega)] at hq; exact hq _ (Own.mk_jobU (Own.mono hS (Ax hp)) hu)
  try simp only [bs] at h2
  refine At (Ag (Ac ?_))
  obtain ⟨i, hi, rfl, hvo⟩ := atP_some hat h2
  have hrow := rows_get (Us := Us) hu hi
  rw [show c.vs[i].row (Us[i]'(by omega)) = .agg [.int .u64 c.vs[i].vo, .int .u64 c.vs[i].tn, .int .u64 c.vs[i].ep, .int .i64 c.vs[i].de, Us[i]'(by omega)] from rfl] at hrow
  refine Aa Z Z (AO Z Z (Al Z Z Z (EN (c40 ..) Z (Al Z Z Z (Ad hS (k := 0) Z Z Z Z Z Z (Aa Z Z (EN (c40 ..) Z (Aa Z Z (AO Z Z (Al Z Z Z (EN (c40 ..) Z (Al Z Z Z (Ad hS (k := 0) Z Z Z Z Z Z (Aa Z Z (EN (c40 ..) Z (Bi hS (k := 1) Z Z Z Z Z Z Z Z Z (by assumption) fun q1 ys1 hO1 hq1 ht1 hy1 hu1 => ?_))))))))))))))))
  subst hO1
  refine Al Z Z Z (Bo Z Z hq1 hy1 Z Z (EN (c40 ..) Z (Aa Z Z (AO Z Z (Al Z Z Z (EN (c40 ..) Z (Al Z Z Z (Ad hS (k := 0) Z Z Z Z Z Z (BL Z Z mxu64 (EN (c40 ..) Z (Bi hS (k := 1) Z Z Z Z Z Z Z Z Z (by assumption) fun q2 ys2 hO2 hq2 ht2 hy2 hu2 => ?_)))))))))))
  obtain rfl : q1 = q2 := (AVal.slc.inj hO2).1
  refine Al Z Z Z (Bv hS (k := 1) Z (AE (p := ν) (b := [23, 0, 1, 1, 1])) Z Z Z Z hu2 ⟨Z, Z, Nat.le_of_ble_eq_true Z⟩ (u2 := .agg [_, _, _, _, _]) Z fun H1 (hS1 : Own _ _ _ (_ :: _ :: _ :: _ :: _ :: L)) => Am (e' := [_,_,_,_,_,_,_,_,_,_,_,_,_,_,_,_,_,_,_,_,_,_,_,_,_,_,_,_,_,_,_,_,_,_,_,_,_,_,_,_]) Z (Ac (Ab Z Z (Ab Z Z (Am (e' := [_,_,_,_,_,_,_,_,_,_,_,_,_,_,_,_,_,_,_,_,_,_,_,_,_,_,_,_,_,_,_,_,_,_,_,_,_,_,_,_]) Z (Ap (Ak (res2 Z (Ai Z) (Ai Z)) ?_)))))))
  rw [epochR, hat, if_neg (by omega), at_eq hat hi, setV_eq hat] at hq
  exact hq _ (Own.mk_jobV (y := { c.vs[i] with ep := max c.vs[i].ep m.a }) (Own.mono hS1 (Ax (Az (a := [24, 0, 1, 1, 1]) hp))) hu hi rfl)
theorem limit_c (hg : c.good) (hS : Own β ps H (jobO q qo key c m :: L)) (hle : le ps ν) (hβ : under β ν = true) (hp : before ν pos')
    (hq : ∀ H1, Own β pos' H1 (jobO q qo key (limitR c m).c m :: L) → Q (.tup [.str (limitR c m).an, .int .i64 (limitR c m).e]) H1) : CW cfg ν 53 [.ptr q 0 0] H Q := by
  obtain ⟨V, S, T, hS⟩ := hS.un_job
  have hql := hg.ql
  refine AX g53 F53 Z ?_
  replace hS := Own.mono hS hle
  refine Ac (Ab Z Z (Ab Z Z (Am (e' := [_,_,_,_,_,_,_,_,_,_,_,_,_,_,_,_,_,_,_,_,_,_,_,_,_,_,_,_,_,_,_,_]) Z (Ac (Aa Z Z (AO Z Z (Al Z Z Z (Ay (e' := [_,_,_,_,_,_,_,_,_,_,_,_,_,_,_,_,_,_,_,_,_,_,_,_,_,_,_,_,_,_,_,_]) Z (Al Z Z Z (Ad hS (k := 0) Z Z Z Z Z Z (Aa Z Z (Ay (e' := [_,_,_,_,_,_,_,_,_,_,_,_,_,_,_,_,_,_,_,_,_,_,_,_,_,_,_,_,_,_,_,_]) Z (AO Z Z (Al Z Z Z (Al Z Z Z (Ay (e' := [_,_,_,_,_,_,_,_,_,_,_,_,_,_,_,_,_,_,_,_,_,_,_,_,_,_,_,_,_,_,_,_]) Z (Ad hS (k := 0) Z Z Z Z Z Z (Aa Z Z (AO Z Z (Ay (e' := [_,_,_,_,_,_,_,_,_,_,_,_,_,_,_,_,_,_,_,_,_,_,_,_,_,_,_,_,_,_,_,_]) Z (Al Z Z Z (Al Z Z Z (Ad hS (k := 0) Z Z Z Z Z Z (Ay (e' := [_,_,_,_,_,_,_,_,_,_,_,_,_,_,_,_,_,_,_,_,_,_,_,_,_,_,_,_,_,_,_,_]) Z (AB Z Z (pSetK hS (k := 3) Z (AE (p := ν) (b := [15, 0, 1])) (Af [15, 0, 1] hβ) (Au (ν := ν) (a := [15, 0, 1]) (b := [16, 0, 1]) (by decide)) (by omega) _ _ fun H1 O1 hS1 => ?_) )))))))))))))))))))))))))
  replace hS1 : Own _ _ _ (_ :: _ :: _ :: _ :: _ :: L) := hS1
  refine Aa Z Z (AK Z Z Z (Ay (e' := [_,_,_,_,_,_,_,_,_,_,_,_,_,_,_,_,_,_,_,_,_,_,_,_,_,_,_,_,_,_,_,_]) Z (AK Z Z Z (Ab Z Z (Ab Z Z (Am (e' := [_,_,_,_,_,_,_,_,_,_,_,_,_,_,_,_,_,_,_,_,_,_,_,_,_,_,_,_,_,_,_,_]) Z (Aq (Ac (Aa Z Z (BE Z Z Z (Am (e' := [_,_,_,_,_,_,_,_,_,_,_,_,_,_,_,_,_,_,_,_,_,_,_,_,_,_,_,_,_,_,_,_]) Z (AH Z (fun h2 => ?_) (fun h2 => ?_)))))))))))))
  ·try simp only [bs] at h2
   refine Ac (Ab Z Z (Ab Z Z (Am (e' := [_,_,_,_,_,_,_,_,_,_,_,_,_,_,_,_,_,_,_,_,_,_,_,_,_,_,_,_,_,_,_,_]) Z (Ap (Ao (Ak (res2 Z (Ai Z) (Ai Z)) ?_))))))
   rw [limitR, if_pos (by simpa using h2)] at hq; exact hq _ (Own.mk_job (Own.drop0 (Own.mono hS1 (Ax (Az (a := [16, 0, 1]) hp)))))
  try simp only [bs] at h2
  refine At (Ag (Ac (Aa Z Z (Aa Z Z (AO Z Z (Ay (e' := [_,_,_,_,_,_,_,_,_,_,_,_,_,_,_,_,_,_,_,_,_,_,_,_,_,_,_,_,_,_,_,_]) Z (Al Z Z Z (Al Z Z Z (Bs hS1 (k := 1) Z (Ar (ν := ν) (a := [16, 0, 1]) (b := [5, 0, 1, 1, 1]) (by decide)) Z Z Z (hS1.one (k := 0) Z) Z Z (Nat.le_of_ble_eq_true Z) (u2 := .agg [_, _, _, _, _, _, _, _, _, _, _, _, _, _, _, _]) Z fun H2 (hS2 : Own _ _ _ (_ :: _ :: _ :: _ :: _ :: L)) => Am (e' := [_,_,_,_,_,_,_,_,_,_,_,_,_,_,_,_,_,_,_,_,_,_,_,_,_,_,_,_,_,_,_,_]) Z (Ac (Ab Z Z (Ab Z Z (Am (e' := [_,_,_,_,_,_,_,_,_,_,_,_,_,_,_,_,_,_,_,_,_,_,_,_,_,_,_,_,_,_,_,_]) Z (Ap (Ak (res2 Z (Ai Z) (Ai Z)) ?_)))))))))))))))
  rw [limitR, if_neg (by simpa using h2)] at hq; exact hq _ (Own.mk_job (c := ⟨c.vs, c.ss, (setQ c.qs m.a m.b).1⟩) (Own.rot (A := [_, _, _]) (Own.drop (Own.mono hS2 (Ax (Az (a := [6, 0, 1, 1, 1]) hp))) (k := 4) Z)))
theorem few_pow {b : Int} (h : 0 ≤ b ∧ b ≤ 4) : few ((2 ^ b.toNat : Nat) : Int) ∧ aBin cfg.T .shl 3 (.int .i64 1) (.int .u64 b) = some (.int .i64 ((2 ^ b.toNat : Nat) : Int)) := by
  obtain ⟨n, rfl⟩ := Int.eq_ofNat_of_zero_le h.1
  rcases (by omega : n = 0 ∨ n = 1 ∨ n = 2 ∨ n = 3 ∨ n = 4) with rfl | rfl | rfl | rfl | rfl
  all_goals exact ⟨by unfold few; decide, rfl⟩
theorem repeat_n {n : Nat} (h : few n) (hq : Q (.lst ((List.replicate n ⟨#[]⟩).map AVal.str)) H) : CW cfg ν 99 [.lst [.str ⟨#[]⟩], .int .i64 n] H Q := repeat_c h hq
theorem make_c (hg : c.good) (hm : m.fit) (hS : Own β ps H (jobO q qo key c m :: L)) (hle : le ps ν) (hβ : under β ν = true) (hp : before ν pos')
    (hq : ∀ H1, Own β pos' H1 (jobF q qo key (makeR c m).c m :: L) → Q (.tup [.str (makeR c m).an, .int .i64 (makeR c m).e]) H1) : CW cfg ν 51 [.ptr q 0 0] H Q := by
  obtain ⟨V, S, T, Us, hu, hS⟩ := hS.un_jobU
  have hvl := hg.vl
  have hrl := rows_lenE (vs := c.vs) hu
  have hzl : (c.vs.zip Us).length = c.vs.length := by rw [List.length_zip]; omega
  have hmb := hm.b
  refine AX g51 F51 Z ?_
  replace hS := Own.mono hS hle
  refine Ac (Ab Z Z (Ab Z Z (EZ (c72 ..) Z (Aq (AD (Ac (Aa Z Z (AO Z Z (Al Z Z Z (EN (c72 ..) Z (Ad hS (k := 0) Z Z Z Z Z Z (Aa Z Z (AO Z Z (EN (c72 ..) Z (Al Z Z Z (Al Z Z Z (Ad hS (k := 0) Z Z Z Z Z Z (EN (c72 ..) Z (AB Z Z (ck_find (Own.st_fzU hS hu) (by omega) _ ?_) )))))))))))))))))))
  refine Ah Z Z Z Z Z (Ab Z Z (EZ (c72 ..) Z (AH Z (fun h1 => ?_) (fun h1 => ?_))))
  ·try simp only [bs] at h1
   refine Ac (Ab Z Z (Ab Z Z (EZ (c72 ..) Z (Ap (AA (Ao (Ak (res2 Z (Ai Z) (Ai Z)) ?_)))))))
   rw [makeR, if_pos (by omega)] at hq; exact hq _ (Own.job_F (Own.mk_jobU (Own.mono hS (Ax hp)) hu))
  try simp only [bs] at h1
  refine Ac (Aa Z Z (AO Z Z (Al Z Z Z (EN (c72 ..) Z (Al Z Z Z (Ad hS (k := 0) Z Z Z Z Z Z (BC hS (k := 1) Z Z Z Z Z Z (List.length_map _) (EN (c72 ..) Z (Ah Z Z Z Z Z (Ab Z Z (EZ (c72 ..) Z (AH Z (fun h3 => ?_) (fun h3 => ?_)))))))))))))
  ·try simp only [bs] at h3
   refine Ac (Ab Z Z (Ab Z Z (EZ (c72 ..) Z (Ap (AA (Ao (Ak (res2 Z (Ai Z) (Ai Z)) ?_)))))))
   rw [makeR, if_neg (by omega), if_pos (by omega)] at hq; exact hq _ (Own.job_F (Own.mk_jobU (Own.mono hS (Ax hp)) hu))
  try simp only [bs] at h3
  refine Ac (Aa Z Z (AO Z Z (Al Z Z Z (EN (c72 ..) Z (Al Z Z Z (Ad hS (k := 0) Z Z Z Z Z Z (Ah Z Z Z Z Z (EN (c72 ..) Z (Ab Z Z (EZ (c72 ..) Z (AH Z (fun h5 => ?_) (fun h5 => ?_))))))))))))
  ·try simp only [bs] at h5
   refine Ac (Ab Z Z (Ab Z Z (EZ (c72 ..) Z (Ap (AA (Ao (Ak (res2 Z (Ai Z) (Ai Z)) ?_)))))))
   rw [makeR, if_neg (by omega), if_neg (by omega), if_pos (by omega)] at hq; exact hq _ (Own.job_F (Own.mk_jobU (Own.mono hS (Ax hp)) hu))
  try simp only [bs] at h5
  refine At (AJ (Ag (Ac ?_)))
  obtain ⟨hfew, hshl⟩ := few_pow (b := m.b) (by omega)
  refine Aa Z Z (Aa Z Z (AO Z Z (EN (c72 ..) Z (Al Z Z Z (Al Z Z Z (Ad hS (k := 0) Z Z Z Z Z Z (EN (c72 ..) Z (Aa Z Z (AO Z Z (Al Z Z Z (EN (c72 ..) Z (Al Z Z Z (Ad hS (k := 0) Z Z Z Z Z Z (Aa Z Z (EN (c72 ..) Z (AO Z Z (Al Z Z Z (Al Z Z Z (EN (c72 ..) Z (Ad hS (k := 0) Z Z Z Z Z Z (Aa Z Z (AO Z Z (EN (c72 ..) Z (Al Z Z Z (Al Z Z Z (Ad hS (k := 0) Z Z Z Z Z Z (EN (c72 ..) Z (Aa Z Z (AO Z Z (Al Z Z Z (EN (c72 ..) Z (Al Z Z Z (Ad hS (k := 0) Z Z Z Z Z Z (Bc Z Z (Bm Z Z Z (IntWalk.i64_in _ (by omega))) (EN (c72 ..) Z (Bq Z Z (v := .lst [_]) Z (Aa Z Z (AO Z Z (EN (c72 ..) Z (Al Z Z Z (Al Z Z Z (Ad hS (k := 0) Z Z Z Z Z Z (EN (c72 ..) Z (Ah Z Z Z Z hshl (AB Z Z (repeat_n hfew ?_) )))))))))))))))))))))))))))))))))))))))))))))
  refine BF Z Z (v := .agg [_, _, _, _, _]) Z (EN (c72 ..) Z (Bq Z Z (v := .lst [_]) Z (Bz hS (k := 1) Z (AE (p := ν) (b := [37, 0, 1, 1])) (Af [37, 0, 1, 1] hβ) Z Z Z Z Z Z Z Z Z (Br Z) (by (simp only [ss]; omega)) (by decide) fun O1 H1 (hS1 : Own _ _ _ (_ :: _ :: _ :: _ :: _ :: L)) => AO Z Z (EN (c72 ..) Z (Al Z Z Z (Al Z Z Z (Bs hS1 (k := 0) Z (Ar (ν := ν) (a := [38, 0, 1, 1]) (b := [41, 0, 1, 1]) (by decide)) Z Z Z (hS1.one (k := 1) Z) Z Z (Nat.le_of_ble_eq_true Z) (u2 := .agg [_, _, _, _, _, _, _, _, _, _, _, _, _, _, _, _]) Z fun H2 (hS2 : Own _ _ _ (_ :: _ :: _ :: _ :: _ :: L)) => EZ (c72 ..) Z (Ac (Ab Z Z (Ab Z Z (EZ (c72 ..) Z (Ap (Ak (res2 Z (Ai Z) (Ai Z)) ?_)))))))))))))
  rw [makeR, if_neg (by omega), if_neg (by omega), if_neg (by omega)] at hq; exact hq _ (Own.mk_jobN (x := ⟨m.vo, m.a, m.se, m.b, List.replicate (2 ^ m.b.toNat) ⟨#[]⟩⟩) (Own.mono hS2 (Ax (Az (a := [42, 0, 1, 1]) hp))) hu)
end Go.Proofs.YtfkgdlfponfimaaGreat.X
/- Layer 13: a job's leaf. -/
set_option maxRecDepth 100000
namespace Go.Proofs.YtfkgdlfponfimaaGreat.X
open Go Go.RowKit WM
variable {ν β ps pos pos' : Nm} {H H1 : Heap} {Q : AVal → Heap → Prop} {L : List Asr} {k : Nat} {S : Rf} {c : Ck} {q qo : Nm} {key want : Int} {m : Cm}
theorem Own.job_lv {X1 X2 : Asr} {Us : List AVal} {vs : List Vo} {i : Nat} (h : Own β ps H (X1 :: X2 :: lvA Us vs :: L)) (hl : Us.length = vs.length) (hi : i < vs.length) : Own β ps H (X1 :: X2 :: sl (Us[i]'(by omega)) 1 (vs[i].lv.map AVal.str) :: lvX i Us vs :: L) := by
  have h1 := Own.lv_at (Own.tor (A := [X1, X2]) (show Own β ps H ([X1, X2] ++ lvA Us vs :: L) from h)) hl hi
  have h2 := Own.rot (A := [lvX i Us vs, X1, X2]) (show Own β ps H (sl (Us[i]'(by omega)) 1 (vs[i].lv.map AVal.str) :: ([lvX i Us vs, X1, X2] ++ L)) from h1)
  have h3 := Own.rot (A := [X1, X2, sl (Us[i]'(by omega)) 1 (vs[i].lv.map AVal.str)]) (show Own β ps H (lvX i Us vs :: ([X1, X2, sl (Us[i]'(by omega)) 1 (vs[i].lv.map AVal.str)] ++ L)) from h2)
  exact h3
theorem Own.job_lvB {X1 X2 : Asr} {Us : List AVal} {vs : List Vo} {i : Nat} {y : Vo} {hU : i < Us.length} (h : Own β ps H (X1 :: X2 :: sl (Us[i]'hU) 1 (y.lv.map AVal.str) :: lvX i Us vs :: L)) (hl : Us.length = vs.length) (hi : i < vs.length) : Own β ps H (X1 :: X2 :: lvA Us (vs.set i y) :: L) := by
  have h1 := Own.tor (A := [X1, X2, sl (Us[i]'hU) 1 (y.lv.map AVal.str)]) (show Own β ps H ([X1, X2, sl (Us[i]'hU) 1 (y.lv.map AVal.str)] ++ lvX i Us vs :: L) from h)
  have h2 := Own.tor (A := [lvX i Us vs, X1, X2]) (show Own β ps H ([lvX i Us vs, X1, X2] ++ sl (Us[i]'hU) 1 (y.lv.map AVal.str) :: L) from h1)
  exact Own.rot (A := [X1, X2]) (Own.lv_put (L := X1 :: X2 :: L) h2 hl hi)
theorem ltFi {T : TT} {t : TypeId} {a b : Int} (h : b ≤ a) : aBin T .lss t (.int .i64 a) (.int .i64 b) = some (.bool false) := by
  simp only [aBin, aIntB, aInt]; simp; omega
theorem gtFi {T : TT} {t : TypeId} {a b : Int} (h : a ≤ b) : aBin T .gtr t (.int .i64 a) (.int .i64 b) = some (.bool false) := by
  simp only [aBin, aIntB, aInt]; simp; omega
theorem geFu {T : TT} {t : TypeId} {a b : Int} (h : a < b) : aBin T .geq t (.int .u64 a) (.int .u64 b) = some (.bool false) := by
  simp only [aBin, aIntB, aInt]; simp; omega
theorem geTu {T : TT} {t : TypeId} {a b : Int} (h : b ≤ a) : aBin T .geq t (.int .u64 a) (.int .u64 b) = some (.bool true) := by
  simp only [aBin, aIntB, aInt]; simp; omega
theorem shl_pow {b : Int} (h : 0 ≤ b ∧ b ≤ 4) : aBin cfg.T .shl 28 (.int .u64 1) (.int .i64 b) = some (.int .u64 ((2 ^ b.toNat : Nat) : Int)) := by
  obtain ⟨n, rfl⟩ := Int.eq_ofNat_of_zero_le h.1
  rcases (by omega : n = 0 ∨ n = 1 ∨ n = 2 ∨ n = 3 ∨ n = 4) with rfl | rfl | rfl | rfl | rfl <;> rfl
theorem leafE_at {i : Nat} (h : atP m.vo c.vs = i) (hi : i < c.vs.length) : leafE S key c m want = if (S.check key m.t m.vo c.vs[i].ep want).1 ≠ 0 then S.check key m.t m.vo c.vs[i].ep want
  else if (c.vs[i].lv.length : Int) ≤ m.se then (133, (S.check key m.t m.vo c.vs[i].ep want).2) else (0, (S.check key m.t m.vo c.vs[i].ep want).2) := by
  unfold leafE; rw [at_eq h hi, if_neg (by omega)]
theorem leaf_err (hg : c.good) (hm : m.fit) (he : (leafE S key c m want).1 ≠ 0) (hS : Own β ps H (jobO q qo key c m :: orc qo S.of :: L)) (hle : le ps ν) (hβ : under β ν = true) (hp : before ν pos')
    (hq : ∀ H1, Own β pos' H1 (jobO q qo key c m :: orc qo (leafE S key c m want).2.of :: L) → Q (.tup [.nilp, .nilp, .int .i64 (leafE S key c m want).1]) H1) : CW cfg ν 101 [.ptr q 0 0, .int .u64 want] H Q := by
  obtain ⟨V, S', T', Us, hu, hS⟩ := hS.un_jobU
  have hvl := hg.vl
  have hse := hm.se
  have hrl := rows_lenE (vs := c.vs) hu
  have hzl : (c.vs.zip Us).length = c.vs.length := by rw [List.length_zip]; omega
  refine AX g101 F101 Z ?_
  replace hS := Own.mono hS hle
  refine Ac (Ab Z Z (Ab Z Z (Ab Z Z (EZ (c106 ..) Z (Ac (Aa Z Z (AO Z Z (Al Z Z Z (EN (c106 ..) Z (Ad hS (k := 0) Z Z Z Z Z Z (Aa Z Z (AO Z Z (EN (c106 ..) Z (Al Z Z Z (Al Z Z Z (Ad hS (k := 0) Z Z Z Z Z Z (EN (c106 ..) Z (AB Z Z (ck_find (Own.st_fzU hS hu) (by omega) _ ?_) ))))))))))))))))))
  refine Ab Z Z (EZ (c106 ..) Z (Aq (Ac ?_)))
  generalize hat : atP m.vo c.vs = at0
  refine Aa Z Z (Ah Z Z Z Z Z (EZ (c106 ..) Z (AH Z (fun h2 => ?_) (fun h2 => ?_))))
  ·try simp only [bs] at h2
   refine Ac (Ab Z Z (Ab Z Z (Ab Z Z (EZ (c106 ..) Z (Ap (Ao (Ak (res3 Z (Ai Z) (Ai Z) (Ai Z)) ?_)))))))
   rw [show leafE S key c m want = (132, S) by unfold leafE; rw [if_pos (by omega)]] at hq; exact hq _ (Own.mk_jobU (Own.mono hS (Ax hp)) hu)
  try simp only [bs] at h2
  refine At (Ag (Ac ?_))
  obtain ⟨i, hi, rfl, hvo⟩ := atP_some hat h2
  have hrow := rows_get (Us := Us) hu hi
  rw [show c.vs[i].row (Us[i]'(by omega)) = .agg [.int .u64 c.vs[i].vo, .int .u64 c.vs[i].tn, .int .u64 c.vs[i].ep, .int .i64 c.vs[i].de, Us[i]'(by omega)] from rfl] at hrow
  have hvg := hg.vg c.vs[i] (List.getElem_mem hi)
  have hde := hvg.de
  have hll := hvg.ll
  rw [leafE_at hat hi] at he hq
  refine Aa Z Z (AO Z Z (Al Z Z Z (EN (c106 ..) Z (Al Z Z Z (Ad hS (k := 0) Z Z Z Z Z Z (Aa Z Z (EN (c106 ..) Z (Bi hS (k := 1) Z Z Z Z Z Z Z Z Z (by assumption) fun q1 ys1 hO1 hq1 ht1 hy1 hu1 => ?_))))))))
  subst hO1
  refine Ab Z Z (EZ (c106 ..) Z (Aq (Ac (Aa Z Z (AO Z Z (Al Z Z Z (EN (c106 ..) Z (Ad hS (k := 0) Z Z Z Z Z Z (Aa Z Z (AO Z Z (EN (c106 ..) Z (Al Z Z Z (Ad hS (k := 0) Z Z Z Z Z Z (Aa Z Z (EN (c106 ..) Z (AO Z Z (Al Z Z Z (Al Z Z Z (EN (c106 ..) Z (Ad hS (k := 0) Z Z Z Z Z Z (Aa Z Z (AO Z Z (EN (c106 ..) Z (Al Z Z Z (Al Z Z Z (Ad hS (k := 0) Z Z Z Z Z Z (EN (c106 ..) Z (Aa Z Z (AO Z Z (Al Z Z Z (EN (c106 ..) Z (BB hS (k := 1) Z Z Z Z (by assumption) Z ?_))))))))))))))))))))))))))))))))
  refine Aa Z Z (AB Z Z (checkW hS (k := 5) Z (AE (p := ν) (b := [23, 0, 0, 1, 1, 1, 1])) (Af [23, 0, 0, 1, 1, 1, 1] hβ) (Au (ν := ν) (a := [23, 0, 0, 1, 1, 1, 1]) (b := [24, 0, 0, 1, 1, 1, 1]) (by decide)) key m.t hm.t m.vo c.vs[i].ep want fun H1 hS1 => ?_) )
  replace hS1 : Own _ _ _ (_ :: _ :: _ :: _ :: _ :: _ :: L) := hS1
  refine EN (c106 ..) Z (Ab Z Z (EZ (c106 ..) Z (Ac (Aa Z Z (Ah Z Z Z Z Z (EZ (c106 ..) Z (AH Z (fun h6 => ?_) (fun h6 => ?_))))))))
  ·try simp only [bs] at h6
   refine Ac (Aa Z Z (Ab Z Z (Ab Z Z (EN (c106 ..) Z (Ab Z Z (EZ (c106 ..) Z (Ap (Ao (Ak (res3 Z (Ai Z) (Ai Z) (Ai Z)) ?_)))))))))
   rw [if_pos (by simpa using h6)] at hq; exact hq _ (Own.mk_jobU (Own.mono hS1 (Ax (Az (a := [24, 0, 0, 1, 1, 1, 1]) hp))) hu)
  try simp only [bs] at h6
  refine At (Ag (Aq (Ac ?_)))
  have h133 : (c.vs[i].lv.length : Int) ≤ m.se := by by_cases h : (c.vs[i].lv.length : Int) ≤ m.se; exact h; rw [if_neg (by simpa using h6), if_neg h] at he; exact absurd rfl he
  refine Aa Z Z (AO Z Z (Al Z Z Z (EN (c106 ..) Z (BB hS1 (k := 1) Z Z Z Z (by assumption) Z ?_))))
  refine Ah Z Z Z Z (ltFi (by omega)) (Aa Z Z (EN (c106 ..) Z (Aa Z Z (AO Z Z (Al Z Z Z (EN (c106 ..) Z (BB hS1 (k := 1) Z Z Z Z (by assumption) Z ?_)))))))
  refine Ah Z Z Z Z (gtFi (by omega)) (Aw Z Z Z (EN (c106 ..) Z (Aa Z Z (Aa Z Z (AO Z Z (EN (c106 ..) Z (Al Z Z Z (Al Z Z Z (Ad hS1 (k := 0) Z Z Z Z Z Z (EN (c106 ..) Z (Aa Z Z (AO Z Z (Al Z Z Z (EN (c106 ..) Z (BB hS1 (k := 1) Z Z Z Z (by assumption) Z ?_)))))))))))))))
  refine Ah Z Z Z Z (shl_pow hde) (Ah Z Z Z Z (geTu (by omega)) (EN (c106 ..) Z (Aw Z Z Z (Aa Z Z (An Z (EN (c106 ..) Z (An Z (An Z (An Z (EN (c106 ..) Z (An Z (An Z (An Z (EN (c106 ..) Z (An Z (An Z (An Z (EN (c106 ..) Z (An Z (An Z (Aw Z Z Z (EZ (c106 ..) Z (AZ Z Z (Ac (Ab Z Z (Ab Z Z (Ab Z Z (EZ (c106 ..) Z (Ap (Ao (Ak (res3 Z (Ai Z) (Ai Z) (Ai Z)) ?_)))))))))))))))))))))))))))))))
  rw [if_neg (by simpa using h6), if_pos h133] at hq; exact hq _ (Own.mk_jobU (Own.mono hS1 (Ax (Az (a := [24, 0, 0, 1, 1, 1, 1]) hp))) hu)
theorem leaf_ok (hg : c.good) (hm : m.fit) (he : (leafE S key c m want).1 = 0) (hS : Own β ps H (jobO q qo key c m :: orc qo S.of :: L)) (hle : le ps ν) (hβ : under β ν = true) (hp : before ν pos')
    (hq : ∀ H1 Us i bV bU S' T' (hu : Us.length = c.vs.length) (hi : i < c.vs.length), atP m.vo c.vs = i → m.se.toNat < c.vs[i].lv.length → (Us[i]'(by omega)) = .slc bU 1 0 (c.vs[i].lv.map AVal.str).length →
      Own β pos' H1 (jrow q qo key (.slc bV 5 0 (rowsOf Us c.vs).length) S' T' m :: sl (.slc bV 5 0 (rowsOf Us c.vs).length) 5 (rowsOf Us c.vs) :: sl (.slc bU 1 0 (c.vs[i].lv.map AVal.str).length) 1 (c.vs[i].lv.map AVal.str) :: lvX i Us c.vs :: sl S' 3 (c.ss.map SE.Se.enc) :: sl T' 3 (c.qs.map Qu.enc) :: orc qo (leafE S key c m want).2.of :: L) →
      Q (.tup [.ptr bU m.se.toNat 0, .ptr bV i 0, .int .i64 0]) H1) : CW cfg ν 101 [.ptr q 0 0, .int .u64 want] H Q := by
  obtain ⟨V, S', T', Us, hu, hS⟩ := hS.un_jobU
  have hvl := hg.vl
  have hse := hm.se
  have hrl := rows_lenE (vs := c.vs) hu
  have hzl : (c.vs.zip Us).length = c.vs.length := by rw [List.length_zip]; omega
  have h0 : 0 ≤ atP m.vo c.vs := by
    by_cases h : atP m.vo c.vs < 0
    · rw [leafE, if_pos h] at he; exact absurd he (show ¬ (132 : Int) = 0 by decide)
    omega
  refine AX g101 F101 Z ?_
  replace hS := Own.mono hS hle
  refine Ac (Ab Z Z (Ab Z Z (Ab Z Z (EZ (c106 ..) Z (Ac (Aa Z Z (AO Z Z (Al Z Z Z (EN (c106 ..) Z (Ad hS (k := 0) Z Z Z Z Z Z (Aa Z Z (AO Z Z (EN (c106 ..) Z (Al Z Z Z (Al Z Z Z (Ad hS (k := 0) Z Z Z Z Z Z (EN (c106 ..) Z (AB Z Z (ck_find (Own.st_fzU hS hu) (by omega) _ ?_) ))))))))))))))))))
  refine Ab Z Z (EZ (c106 ..) Z (Aq (Ac ?_)))
  generalize hat : atP m.vo c.vs = at0 at h0 ⊢
  refine Aa Z Z (Ah Z Z Z Z Z (EZ (c106 ..) Z (AH Z (fun h2 => ?_) (fun h2 => ?_))))
  · exfalso; (try simp only [bs] at h2) <;> (omega)
  try simp only [bs] at h2
  refine At (Ag (Ac ?_))
  obtain ⟨i, hi, rfl, hvo⟩ := atP_some hat h2
  have hrow := rows_get (Us := Us) hu hi
  rw [show c.vs[i].row (Us[i]'(by omega)) = .agg [.int .u64 c.vs[i].vo, .int .u64 c.vs[i].tn, .int .u64 c.vs[i].ep, .int .i64 c.vs[i].de, Us[i]'(by omega)] from rfl] at hrow
  have hvg := hg.vg c.vs[i] (List.getElem_mem hi)
  have hde := hvg.de
  have hll := hvg.ll
  rw [leafE_at hat hi] at he hq
  have hck : (S.check key m.t m.vo c.vs[i].ep want).1 = 0 := by by_cases h : (S.check key m.t m.vo c.vs[i].ep want).1 ≠ 0; rw [if_pos h] at he; exact absurd he h; exact Classical.not_not.1 h
  rw [if_neg (by simpa using hck)] at he hq
  have hlt : m.se < (c.vs[i].lv.length : Int) := by by_cases h : (c.vs[i].lv.length : Int) ≤ m.se; rw [if_pos h] at he; exact absurd he (show ¬ (133 : Int) = 0 by decide); omega
  rw [if_neg (by omega)] at hq
  have hlt2 : m.se.toNat < c.vs[i].lv.length := by omega
  refine Aa Z Z (AO Z Z (Al Z Z Z (EN (c106 ..) Z (Al Z Z Z (Ad hS (k := 0) Z Z Z Z Z Z (Aa Z Z (EN (c106 ..) Z (Bi hS (k := 1) Z Z Z Z Z Z Z Z Z (by assumption) fun q1 ys1 hO1 hq1 ht1 hy1 hu1 => ?_))))))))
  subst hO1
  refine Ab Z Z (EZ (c106 ..) Z (Aq (Ac (Aa Z Z (AO Z Z (Al Z Z Z (EN (c106 ..) Z (Ad hS (k := 0) Z Z Z Z Z Z (Aa Z Z (AO Z Z (EN (c106 ..) Z (Al Z Z Z (Ad hS (k := 0) Z Z Z Z Z Z (Aa Z Z (EN (c106 ..) Z (AO Z Z (Al Z Z Z (Al Z Z Z (EN (c106 ..) Z (Ad hS (k := 0) Z Z Z Z Z Z (Aa Z Z (AO Z Z (EN (c106 ..) Z (Al Z Z Z (Al Z Z Z (Ad hS (k := 0) Z Z Z Z Z Z (EN (c106 ..) Z (Aa Z Z (AO Z Z (Al Z Z Z (EN (c106 ..) Z (BB hS (k := 1) Z Z Z Z (by assumption) Z ?_))))))))))))))))))))))))))))))))
  refine Aa Z Z (AB Z Z (checkW hS (k := 5) Z (AE (p := ν) (b := [23, 0, 0, 1, 1, 1, 1])) (Af [23, 0, 0, 1, 1, 1, 1] hβ) (Au (ν := ν) (a := [23, 0, 0, 1, 1, 1, 1]) (b := [24, 0, 0, 1, 1, 1, 1]) (by decide)) key m.t hm.t m.vo c.vs[i].ep want fun H1 hS1 => ?_) )
  replace hS1 : Own _ _ _ (_ :: _ :: _ :: _ :: _ :: _ :: L) := hS1
  refine EN (c106 ..) Z (Ab Z Z (EZ (c106 ..) Z (Ac (Aa Z Z (Ah Z Z Z Z Z (EZ (c106 ..) Z (AH Z (fun h6 => ?_) (fun h6 => ?_))))))))
  · exfalso; (try simp only [bs] at h6) <;> (exact h6 hck)
  try simp only [bs] at h6
  refine At (Ag (Aq (Ac ?_)))
  have hl16 := hvg.len
  replace hS1 := Own.job_lv hS1 hu hi
  obtain ⟨bU, hbU⟩ := Own.slcOf hS1 (k := 2) Z (by rw [List.length_map]; omega)
  rw [hbU] at hS1 hrow
  refine Aa Z Z (AO Z Z (Al Z Z Z (EN (c106 ..) Z (BB hS1 (k := 1) Z Z Z Z (by assumption) Z ?_))))
  refine Ah Z Z Z Z (ltFi (by omega)) (Aa Z Z (EN (c106 ..) Z (Aa Z Z (AO Z Z (Al Z Z Z (EN (c106 ..) Z (BB hS1 (k := 1) Z Z Z Z (by assumption) Z ?_)))))))
  refine Ah Z Z Z Z (gtFi (by omega)) (Aw Z Z Z (EN (c106 ..) Z (Aa Z Z (Aa Z Z (AO Z Z (EN (c106 ..) Z (Al Z Z Z (Al Z Z Z (Ad hS1 (k := 0) Z Z Z Z Z Z (EN (c106 ..) Z (Aa Z Z (AO Z Z (Al Z Z Z (EN (c106 ..) Z (BB hS1 (k := 1) Z Z Z Z (by assumption) Z ?_)))))))))))))))
  refine Ah Z Z Z Z (shl_pow hde) (Ah Z Z Z Z (geFu (by omega)) (EN (c106 ..) Z (Aw Z Z Z (Aa Z Z (Aa Z Z (EN (c106 ..) Z (AO Z Z (Al Z Z Z (Al Z Z Z (EN (c106 ..) Z (Ad hS1 (k := 0) Z Z Z Z Z Z (Aa Z Z (AO Z Z (EN (c106 ..) Z (Al Z Z Z (BB hS1 (k := 1) Z Z Z Z (by assumption) Z ?_))))))))))))))))
  refine BC hS1 (k := 2) Z Z Z Z Z Z (List.length_map _) (EN (c106 ..) Z (Bc Z Z (Bm Z Z Z (IntWalk.u64_in _ (by omega))) (Ah Z Z Z Z (geFu (by omega)) (Aw Z Z Z (EZ (c106 ..) Z (Bd Z Z (At (Ag (Ac (Aa Z Z (AO Z Z (Al Z Z Z (EN (c106 ..) Z (BB hS1 (k := 1) Z Z Z Z (by assumption) Z ?_))))))))))))))
  refine Aa Z Z (AO Z Z (EN (c106 ..) Z (Al Z Z Z (Al Z Z Z (Ad hS1 (k := 0) Z Z Z Z Z Z (EN (c106 ..) Z (Bi hS1 (k := 2) Z Z Z Z Z Z Z Z ((Int.toNat_of_nonneg (by omega)).symm) (Ba (by assumption)) fun q2 ys2 hO2 hq2 ht2 hy2 hu2 => ?_)))))))
  obtain rfl : bU = q2 := (AVal.slc.inj hO2).1
  refine Aa Z Z (Ab Z Z (EN (c106 ..) Z (Ab Z Z (Ab Z Z (EZ (c106 ..) Z (Ap (Ak (res3 Z (Ai Z) (Ai Z) (Ai Z)) ?_)))))))
  exact hq _ _ _ _ _ _ _ hu hi hat hlt2 hbU (Own.mono hS1 (Ax (Az (a := [24, 0, 0, 1, 1, 1, 1]) hp)))
end Go.Proofs.YtfkgdlfponfimaaGreat.X
/- Layer 13: a job's put, get, trim. -/
set_option maxRecDepth 100000
namespace Go.Proofs.YtfkgdlfponfimaaGreat.X
open Go Go.RowKit WM
variable {ν β ps pos pos' : Nm} {H H1 : Heap} {Q : AVal → Heap → Prop} {L : List Asr} {k : Nat} {S : Rf} {c : Ck} {q qo : Nm} {key want : Int} {m : Cm}
theorem long_c {s : ByteArray} (hq : Q (.bool (decide (64 < s.size))) H) : CW cfg ν 75 [.str s] H Q := by
  refine Be g75 F75 Z ?_
  refine Ac (Ab Z Z ?_)
  refine Am (e' := [_,_,_,_,_,_]) Z ?_
  refine Ac (Aa Z Z ?_)
  refine By Z Z Z ?_
  refine Ah Z Z Z Z Z ?_
  refine Ay (e' := [_,_,_,_,_,_]) Z ?_
  refine Ab Z Z ?_
  refine Am (e' := [_,_,_,_,_,_]) Z ?_
  refine Ap ?_
  refine Ak (res1 Z (Ai Z)) (frz1 (Q := Q) (by exact Ae Z) ?_)
  refine qcast hq ?_; congr 1; exact decide_eq_decide.2 (by simp only [gt_iff_lt]; omega)
theorem Own.mk_jobL {V S T U : AVal} {Us : List AVal} {i j : Nat} {s : ByteArray} {qs : List Qu} (hu : Us.length = c.vs.length) (hi : i < c.vs.length) (he : Us[i]'(by omega) = U) (h : Own β ps H (jrow q qo key V S T m :: sl V 5 (rowsOf Us c.vs) :: sl U 1 ((c.vs[i].lv.map AVal.str).set j (.str s)) :: lvX i Us c.vs :: sl S 3 (c.ss.map SE.Se.enc) :: sl T 3 (qs.map Qu.enc) :: L)) : Own β ps H (jobO q qo key ⟨c.vs.set i { c.vs[i] with lv := c.vs[i].lv.set j s }, c.ss, qs⟩ m :: L) := by
  subst he
  rw [show (c.vs[i].lv.map AVal.str).set j (.str s) = (c.vs[i].lv.set j s).map AVal.str from (List.map_set).symm] at h
  have h1 := Own.job_lvB (y := { c.vs[i] with lv := c.vs[i].lv.set j s }) h hu hi
  rw [← rows_lv (l := c.vs[i].lv.set j s) hu hi] at h1
  exact Own.mk_jobU (c := ⟨c.vs.set i { c.vs[i] with lv := c.vs[i].lv.set j s }, c.ss, qs⟩) h1 (by rw [hu]; simp)
theorem Own.mk_jobK {V S T U : AVal} {Us : List AVal} {i : Nat} {qs : List Qu} (hu : Us.length = c.vs.length) (hi : i < c.vs.length) (he : Us[i]'(by omega) = U) (h : Own β ps H (jrow q qo key V S T m :: sl V 5 (rowsOf Us c.vs) :: sl U 1 (c.vs[i].lv.map AVal.str) :: lvX i Us c.vs :: sl S 3 (c.ss.map SE.Se.enc) :: sl T 3 (qs.map Qu.enc) :: L)) : Own β ps H (jobO q qo key ⟨c.vs, c.ss, qs⟩ m :: L) := by
  subst he
  have h1 := Own.job_lvB (y := c.vs[i]) h hu hi
  rw [List.set_getElem_self] at h1
  exact Own.mk_jobU (c := ⟨c.vs, c.ss, qs⟩) h1 hu
theorem old_at {i : Nat} (h : atP m.vo c.vs = i) (hi : i < c.vs.length) (hl : m.se.toNat < c.vs[i].lv.length) : c.old m = c.vs[i].lv[m.se.toNat] := by
  unfold Ck.old; rw [at_eq h hi]; simp [List.getD_eq_getElem?_getD, hl]
theorem setL_at {i : Nat} {s : ByteArray} (h : atP m.vo c.vs = i) (hi : i < c.vs.length) : c.setL m s = ⟨c.vs.set i { c.vs[i] with lv := c.vs[i].lv.set m.se.toNat s }, c.ss, c.qs⟩ := by
  unfold Ck.setL; rw [at_eq h hi, setV_eq h]
theorem put_err (hg : c.good) (hm : m.fit) (he : (leafE S key c m 2).1 ≠ 0) (hS : Own β ps H (jobO q qo key c m :: orc qo S.of :: L)) (hle : le ps ν) (hβ : under β ν = true) (hp : before ν pos')
    (hq : ∀ H1, Own β pos' H1 (jobO q qo key c m :: orc qo (leafE S key c m 2).2.of :: L) → Q (.tup [.str ⟨#[]⟩, .int .i64 (leafE S key c m 2).1]) H1) : CW cfg ν 54 [.ptr q 0 0] H Q := by
  refine AX g54 F54 Z ?_
  replace hS := Own.mono hS hle
  refine Ac (Ab Z Z (Ab Z Z (EZ (c67 ..) Z (Ac (Aa Z Z (AB Z Z (leaf_err hg hm he hS (AE (p := ν) (b := [1, 0, 1])) (Af [1, 0, 1] hβ) (Au (ν := ν) (a := [1, 0, 1]) (b := [2, 0, 1]) (by decide)) fun H1 hS1 => ?_) ))))))
  replace hS1 : Own _ _ _ (_ :: _ :: L) := hS1
  refine Aa Z Z (EN (c67 ..) Z (AK Z Z Z (AK Z Z Z (AK Z Z Z (EN (c67 ..) Z (Ab Z Z (Ab Z Z (Ab Z Z (EZ (c67 ..) Z (Aq (AD (Ac (Aa Z Z (Ah Z Z Z Z Z (Ab Z Z (EZ (c67 ..) Z (AH Z (fun h2 => ?_) (fun h2 => ?_))))))))))))))))))
  ·try simp only [bs] at h2
   refine Ac (Aa Z Z (Ab Z Z (Ab Z Z (EZ (c67 ..) Z (Ap (AA (Ao (Ak (res2 Z (Ai Z) (Ai Z)) ?_))))))))
   exact hq _ (Own.mono hS1 (Ax (Az (a := [2, 0, 1]) hp)))
  exfalso; (try simp only [bs] at h2) <;> (exact absurd h2 he)
theorem get_err (hg : c.good) (hm : m.fit) (he : (leafE S key c m 1).1 ≠ 0) (hS : Own β ps H (jobO q qo key c m :: orc qo S.of :: L)) (hle : le ps ν) (hβ : under β ν = true) (hp : before ν pos')
    (hq : ∀ H1, Own β pos' H1 (jobO q qo key c m :: orc qo (leafE S key c m 1).2.of :: L) → Q (.tup [.str ⟨#[]⟩, .int .i64 (leafE S key c m 1).1]) H1) : CW cfg ν 55 [.ptr q 0 0] H Q := by
  refine AX g55 F55 Z ?_
  replace hS := Own.mono hS hle
  refine Ac (Ab Z Z (Ab Z Z (EZ (c19 ..) Z (Ac (Aa Z Z (AB Z Z (leaf_err hg hm he hS (AE (p := ν) (b := [1, 0, 1])) (Af [1, 0, 1] hβ) (Au (ν := ν) (a := [1, 0, 1]) (b := [2, 0, 1]) (by decide)) fun H1 hS1 => ?_) ))))))
  replace hS1 : Own _ _ _ (_ :: _ :: L) := hS1
  refine Aa Z Z (Ay (e' := [_,_,_,_,_,_,_,_,_,_,_,_,_,_,_,_,_,_,_]) Z (AK Z Z Z (AK Z Z Z (AK Z Z Z (Ay (e' := [_,_,_,_,_,_,_,_,_,_,_,_,_,_,_,_,_,_,_]) Z (Ab Z Z (Ab Z Z (Ab Z Z (EZ (c19 ..) Z (Aq (Ac (Aa Z Z (Ah Z Z Z Z Z (EZ (c19 ..) Z (AH Z (fun h2 => ?_) (fun h2 => ?_))))))))))))))))
  ·try simp only [bs] at h2
   refine Ac (Aa Z Z (Ab Z Z (Ab Z Z (EZ (c19 ..) Z (Ap (Ao (Ak (res2 Z (Ai Z) (Ai Z)) ?_)))))))
   exact hq _ (Own.mono hS1 (Ax (Az (a := [2, 0, 1]) hp)))
  exfalso; (try simp only [bs] at h2) <;> (exact absurd h2 he)
theorem neT0 {T : TT} {t : TypeId} {a : Int} (h : a ≠ 0) : aBin T .neq t (.int .i64 a) (.int .i64 0) = some (.bool true) := by
  simp only [aBin, aIntB, aInt]; simp [h]
theorem trim_err (hg : c.good) (hm : m.fit) (he : (leafE S key c m 2).1 ≠ 0) (hS : Own β ps H (jobO q qo key c m :: orc qo S.of :: L)) (hle : le ps ν) (hβ : under β ν = true) (hp : before ν pos')
    (hq : ∀ H1, Own β pos' H1 (jobO q qo key c m :: orc qo (leafE S key c m 2).2.of :: L) → Q (.tup [.str ⟨#[]⟩, .int .i64 (leafE S key c m 2).1]) H1) : CW cfg ν 56 [.ptr q 0 0] H Q := by
  refine AX g56 F56 Z ?_
  replace hS := Own.mono hS hle
  refine Ac (Ab Z Z (Ab Z Z (EZ (c46 ..) Z (Ac (Aa Z Z (AB Z Z (leaf_err hg hm he hS (AE (p := ν) (b := [1, 0, 1])) (Af [1, 0, 1] hβ) (Au (ν := ν) (a := [1, 0, 1]) (b := [2, 0, 1]) (by decide)) fun H1 hS1 => ?_) ))))))
  replace hS1 : Own _ _ _ (_ :: _ :: L) := hS1
  refine Aa Z Z (EN (c46 ..) Z (AK Z Z Z (AK Z Z Z (AK Z Z Z (EN (c46 ..) Z (Ab Z Z (Ab Z Z (Ab Z Z (EZ (c46 ..) Z (Aq (Ac (Aa Z Z (Ah Z Z Z Z (neT0 he) (Aa Z Z (EN (c46 ..) Z (An Z (An Z (An Z (EN (c46 ..) Z (An Z (Aw Z Z Z (EZ (c46 ..) Z (AZ Z Z (Ac (Aa Z Z (Ab Z Z (Ab Z Z (EZ (c46 ..) Z (Ap (Ao (Ak (res2 Z (Ai Z) (Ai Z)) ?_)))))))))))))))))))))))))))))))
  exact hq _ (Own.mono hS1 (Ax (Az (a := [2, 0, 1]) hp)))
theorem get_ok (hg : c.good) (hm : m.fit) (he : (leafE S key c m 1).1 = 0) (hS : Own β ps H (jobO q qo key c m :: orc qo S.of :: L)) (hle : le ps ν) (hβ : under β ν = true) (hp : before ν pos')
    (hq : ∀ H1, Own β pos' H1 (jobO q qo key c m :: orc qo (leafE S key c m 1).2.of :: L) → Q (.tup [.str (c.old m), .int .i64 0]) H1) : CW cfg ν 55 [.ptr q 0 0] H Q := by
  refine AX g55 F55 Z ?_
  replace hS := Own.mono hS hle
  refine Ac (Ab Z Z (Ab Z Z (EZ (c19 ..) Z (Ac (Aa Z Z (AB Z Z (leaf_ok hg hm he hS (AE (p := ν) (b := [1, 0, 1])) (Af [1, 0, 1] hβ) (Au (ν := ν) (a := [1, 0, 1]) (b := [2, 0, 1]) (by decide)) fun H1 Us i bV bU S' T' hu hi hat hlt hbU hS1 => ?_) ))))))
  replace hS1 : Own _ _ _ (_ :: _ :: _ :: _ :: _ :: _ :: _ :: L) := hS1
  refine Aa Z Z (Ay (e' := [_,_,_,_,_,_,_,_,_,_,_,_,_,_,_,_,_,_,_]) Z (AK Z Z Z (AK Z Z Z (AK Z Z Z (Ay (e' := [_,_,_,_,_,_,_,_,_,_,_,_,_,_,_,_,_,_,_]) Z (Ab Z Z (Ab Z Z (Ab Z Z (EZ (c19 ..) Z (Aq (Ac (Aa Z Z (Ah Z Z Z Z Z (EZ (c19 ..) Z (AH Z (fun h2 => ?_) (fun h2 => ?_))))))))))))))))
  · exfalso; (try simp only [bs] at h2) <;> (exact h2 trivial)
  try simp only [bs] at h2
  refine At (Ag (Ac (Aa Z Z (AO Z Z (BB hS1 (k := 2) Z Z Z Z (Ba (by assumption)) Z ?_)))))
  refine Ay (e' := [_,_,_,_,_,_,_,_,_,_,_,_,_,_,_,_,_,_,_]) Z (Ab Z Z (Ab Z Z (EZ (c19 ..) Z (Ap (Ak (res2 Z (Ai Z) (Ai Z)) ?_)))))
  rw [old_at hat hi hlt] at hq; exact hq _ (Own.mk_jobK hu hi hbU (Own.mono hS1 (Ax (Az (a := [2, 0, 1]) hp))))
theorem put_ok (hg : c.good) (hm : m.fit) (he : (leafE S key c m 2).1 = 0) (hS : Own β ps H (jobO q qo key c m :: orc qo S.of :: L)) (hle : le ps ν) (hβ : under β ν = true) (hp : before ν pos')
    (hq : ∀ H1, Own β pos' H1 (jobO q qo key (putR c m).c m :: orc qo (leafE S key c m 2).2.of :: L) → Q (.tup [.str (putR c m).an, .int .i64 (putR c m).e]) H1) : CW cfg ν 54 [.ptr q 0 0] H Q := by
  have hql := hg.ql
  refine AX g54 F54 Z ?_
  replace hS := Own.mono hS hle
  refine Ac (Ab Z Z (Ab Z Z (EZ (c67 ..) Z (Ac (Aa Z Z (AB Z Z (leaf_ok hg hm he hS (AE (p := ν) (b := [1, 0, 1])) (Af [1, 0, 1] hβ) (Au (ν := ν) (a := [1, 0, 1]) (b := [2, 0, 1]) (by decide)) fun H1 Us i bV bU S' T' hu hi hat hlt hbU hS1 => ?_) ))))))
  replace hS1 : Own _ _ _ (_ :: _ :: _ :: _ :: _ :: _ :: _ :: L) := hS1
  refine Aa Z Z (EN (c67 ..) Z (AK Z Z Z (AK Z Z Z (AK Z Z Z (EN (c67 ..) Z (Ab Z Z (Ab Z Z (Ab Z Z (EZ (c67 ..) Z (Aq (AD (Ac ?_))))))))))))
  have hrow := rows_get (Us := Us) hu hi
  rw [show c.vs[i].row (Us[i]'(by omega)) = .agg [.int .u64 c.vs[i].vo, .int .u64 c.vs[i].tn, .int .u64 c.vs[i].ep, .int .i64 c.vs[i].de, Us[i]'(by omega)] from rfl] at hrow
  have hold := old_at hat hi hlt
  have hatc := at_eq hat hi
  refine Aa Z Z (Ah Z Z Z Z Z (Ab Z Z (EZ (c67 ..) Z (AH Z (fun h2 => ?_) (fun h2 => ?_)))))
  · exfalso; (try simp only [bs] at h2) <;> (exact h2 trivial)
  try simp only [bs] at h2
  refine Ac (Aa Z Z (AO Z Z (Al Z Z Z (EN (c67 ..) Z (Al Z Z Z (Ad hS1 (k := 0) Z Z Z Z Z Z (AB Z Z (long_c ?_) )))))))
  refine EN (c67 ..) Z (Aa Z Z (AT (tt := 26) Z (fun g4_7 => ?_) (fun g4_7 => ?_)))
  ·try simp only [bs] at g4_7
   refine An Z (EN (c67 ..) Z (An Z (An Z (An Z (EN (c67 ..) Z (An Z (An Z (Aw Z Z Z (EN (c67 ..) Z (Ab Z Z (EZ (c67 ..) Z (AZ Z Z (Ac (Ab Z Z (Ab Z Z (EZ (c67 ..) Z (Ap (AA (Ao (Ak (res2 Z (Ai Z) (Ai Z)) ?_))))))))))))))))))))
   rw [putR, if_pos (.inl (by assumption))] at hq; exact hq _ (Own.mk_jobK (c := c) hu hi hbU (Own.mono hS1 (Ax (Az (a := [2, 0, 1]) hp))))
  try simp only [bs] at g4_7
  refine Aa Z Z (EN (c67 ..) Z (AO Z Z (Al Z Z Z (Al Z Z Z (EN (c67 ..) Z (Ad hS1 (k := 0) Z Z Z Z Z Z (Ah Z Z Z Z Z (Aw Z Z Z (EN (c67 ..) Z (Ab Z Z (EZ (c67 ..) Z (AH Z (fun h4 => ?_) (fun h4 => ?_)))))))))))))
  ·try simp only [bs] at h4
   refine Ac (Ab Z Z (Ab Z Z (EZ (c67 ..) Z (Ap (AA (Ao (Ak (res2 Z (Ai Z) (Ai Z)) ?_)))))))
   rw [putR, if_pos (.inr (by assumption))] at hq; exact hq _ (Own.mk_jobK (c := c) hu hi hbU (Own.mono hS1 (Ax (Az (a := [2, 0, 1]) hp))))
  try simp only [bs] at h4
  refine Ac (Aa Z Z (AO Z Z (BB hS1 (k := 2) Z Z Z Z (Ba (by assumption)) Z ?_)))
  refine EN (c67 ..) Z (Ah Z Z Z Z Z (Ab Z Z (EZ (c67 ..) Z (AH Z (fun h6 => ?_) (fun h6 => ?_)))))
  ·try simp only [bs] at h6
   refine Ac (Aa Z Z (AO Z Z (Al Z Z Z (EN (c67 ..) Z (Al Z Z Z (Ad hS1 (k := 0) Z Z Z Z Z Z (Aa Z Z (EN (c67 ..) Z (AO Z Z (Al Z Z Z (BB hS1 (k := 1) Z Z Z Z (by assumption) Z ?_)))))))))))
   refine EN (c67 ..) Z (AB Z Z (pTakeK hS1 (k := 5) Z (Ar (ν := ν) (a := [2, 0, 1]) (b := [9, 0, 1, 1, 1, 0, 1, 1]) (by decide)) (Af [9, 0, 1, 1, 1, 0, 1, 1] hβ) (Au (ν := ν) (a := [9, 0, 1, 1, 1, 0, 1, 1]) (b := [10, 0, 1, 1, 1, 0, 1, 1]) (by decide)) (by omega) hg.qf _ _ (by omega) fun H2 O1 hS2 => ?_) )
   replace hS2 : Own _ _ _ (_ :: _ :: _ :: _ :: _ :: _ :: _ :: _ :: L) := hS2
   refine Aa Z Z (AK Z Z Z (EN (c67 ..) Z (AK Z Z Z (Ab Z Z (Ab Z Z (EZ (c67 ..) Z (Aq (Ac (Aa Z Z (Ah Z Z Z Z Z (EZ (c67 ..) Z (AH Z (fun h8 => ?_) (fun h8 => ?_)))))))))))))
   ·try simp only [bs] at h8
    refine Ac (Aa Z Z (Ab Z Z (Ab Z Z (EZ (c67 ..) Z (Ap (Ao (AA (Ao (Ak (res2 Z (Ai Z) (Ai Z)) ?_)))))))))
    rw [putR, if_neg (by rintro (h | h) <;> contradiction), hold, hatc, if_pos h6, if_pos h8] at hq; exact hq _ (Own.mk_jobK (c := c) hu hi hbU (Own.drop0 (Own.mono hS2 (Ax (Az (a := [10, 0, 1, 1, 1, 0, 1, 1]) hp)))))
   try simp only [bs] at h8
   refine At (Ag (AC (Aa Z Z (Aa Z Z (AO Z Z (EN (c67 ..) Z (Al Z Z Z (Al Z Z Z (Bs hS2 (k := 1) Z (Ar (ν := ν) (a := [10, 0, 1, 1, 1, 0, 1, 1]) (b := [5, 1, 1, 1, 1, 1, 0, 1, 1]) (by decide)) Z Z Z (hS2.one (k := 0) Z) Z Z (Nat.le_of_ble_eq_true Z) (u2 := .agg [_, _, _, _, _, _, _, _, _, _, _, _, _, _, _, _]) Z fun H3 (hS3 : Own _ _ _ (_ :: _ :: _ :: _ :: _ :: _ :: _ :: _ :: L)) => EZ (c67 ..) Z (AJ (Ag (Ac (Aa Z Z (Aa Z Z (AO Z Z (EN (c67 ..) Z (Al Z Z Z (Al Z Z Z (Ad hS3 (k := 1) Z Z Z Z Z Z (EN (c67 ..) Z (AO Z Z (Bv hS3 (k := 3) Z (Ar (ν := ν) (a := [6, 1, 1, 1, 1, 1, 0, 1, 1]) (b := [7, 0, 1, 1, 1]) (by decide)) Z Z Z Z (Ba (by assumption)) ⟨Z, Z, Nat.le_of_ble_eq_true Z⟩ (u2 := _) Z fun H4 (hS4 : Own _ _ _ (_ :: _ :: _ :: _ :: _ :: _ :: _ :: _ :: L)) => ?_))))))))))))))))))))))
   refine EZ (c67 ..) Z (Ac (Ab Z Z (Ab Z Z (EZ (c67 ..) Z (Ap (Ak (res2 Z (Ai Z) (Ai Z)) ?_))))))
   rw [putR, if_neg (by rintro (h | h) <;> contradiction), hold, hatc, if_pos h6, if_neg (fun h => h h8), setL_at hat hi] at hq; exact hq _ (Own.mk_jobL (c := c) hu hi hbU (Own.rot (A := [_, _, _, _, _]) (Own.drop (Own.mono hS4 (Ax (Az (a := [8, 0, 1, 1, 1]) hp))) (k := 6) Z)))
  try simp only [bs] at h6
  refine At (AJ (Ag (Ac (Aa Z Z (Aa Z Z (AO Z Z (EN (c67 ..) Z (Al Z Z Z (Al Z Z Z (Ad hS1 (k := 0) Z Z Z Z Z Z (EN (c67 ..) Z (AO Z Z (Bv hS1 (k := 2) Z (Ar (ν := ν) (a := [2, 0, 1]) (b := [7, 0, 1, 1, 1]) (by decide)) Z Z Z Z (Ba (by assumption)) ⟨Z, Z, Nat.le_of_ble_eq_true Z⟩ (u2 := _) Z fun H5 (hS5 : Own _ _ _ (_ :: _ :: _ :: _ :: _ :: _ :: _ :: L)) => ?_)))))))))))))
  refine EZ (c67 ..) Z (Ac (Ab Z Z (Ab Z Z (EZ (c67 ..) Z (Ap (Ak (res2 Z (Ai Z) (Ai Z)) ?_))))))
  rw [putR, if_neg (by rintro (h | h) <;> contradiction), hold, if_neg h6, setL_at hat hi] at hq; exact hq _ (Own.mk_jobL (c := c) hu hi hbU (Own.mono hS5 (Ax (Az (a := [8, 0, 1, 1, 1]) hp))))
theorem trim_ok (hg : c.good) (hm : m.fit) (he : (leafE S key c m 2).1 = 0) (hS : Own β ps H (jobO q qo key c m :: orc qo S.of :: L)) (hle : le ps ν) (hβ : under β ν = true) (hp : before ν pos')
    (hq : ∀ H1, Own β pos' H1 (jobO q qo key (trimR c m).c m :: orc qo (leafE S key c m 2).2.of :: L) → Q (.tup [.str (trimR c m).an, .int .i64 (trimR c m).e]) H1) : CW cfg ν 56 [.ptr q 0 0] H Q := by
  have hql := hg.ql
  refine AX g56 F56 Z ?_
  replace hS := Own.mono hS hle
  refine Ac (Ab Z Z (Ab Z Z (EZ (c46 ..) Z (Ac (Aa Z Z (AB Z Z (leaf_ok hg hm he hS (AE (p := ν) (b := [1, 0, 1])) (Af [1, 0, 1] hβ) (Au (ν := ν) (a := [1, 0, 1]) (b := [2, 0, 1]) (by decide)) fun H1 Us i bV bU S' T' hu hi hat hlt hbU hS1 => ?_) ))))))
  replace hS1 : Own _ _ _ (_ :: _ :: _ :: _ :: _ :: _ :: _ :: L) := hS1
  refine Aa Z Z (EN (c46 ..) Z (AK Z Z Z (AK Z Z Z (AK Z Z Z (EN (c46 ..) Z (Ab Z Z (Ab Z Z (Ab Z Z (EZ (c46 ..) Z (Aq (Ac ?_)))))))))))
  have hrow := rows_get (Us := Us) hu hi
  rw [show c.vs[i].row (Us[i]'(by omega)) = .agg [.int .u64 c.vs[i].vo, .int .u64 c.vs[i].tn, .int .u64 c.vs[i].ep, .int .i64 c.vs[i].de, Us[i]'(by omega)] from rfl] at hrow
  have hold := old_at hat hi hlt
  have hatc := at_eq hat hi
  refine Aa Z Z (Ah Z Z Z Z Z (Aa Z Z (EN (c46 ..) Z (Aa Z Z (AO Z Z (BB hS1 (k := 2) Z Z Z Z (Ba (by assumption)) Z ?_))))))
  refine EN (c46 ..) Z (Ah Z Z Z Z Z (Aw Z Z Z (EZ (c46 ..) Z (AH Z (fun h2 => ?_) (fun h2 => ?_)))))
  ·try simp only [bs] at h2
   refine Ac (Aa Z Z (Ab Z Z (Ab Z Z (EZ (c46 ..) Z (Ap (Ao (Ak (res2 Z (Ai Z) (Ai Z)) ?_)))))))
   rw [trimR, hold, if_pos h2] at hq; exact hq _ (Own.mk_jobK (c := c) hu hi hbU (Own.mono hS1 (Ax (Az (a := [2, 0, 1]) hp))))
  try simp only [bs] at h2
  refine At (Ag (Ac (Aa Z Z (AO Z Z (Bv hS1 (k := 2) Z (Ar (ν := ν) (a := [2, 0, 1]) (b := [2, 0, 1, 1, 1]) (by decide)) Z Z Z Z (Ba (by assumption)) ⟨Z, Z, Nat.le_of_ble_eq_true Z⟩ (u2 := _) Z fun H2 (hS2 : Own _ _ _ (_ :: _ :: _ :: _ :: _ :: _ :: _ :: L)) => ?_)))))
  refine EZ (c46 ..) Z (Aq (Ac (Aa Z Z (AO Z Z (Al Z Z Z (EN (c46 ..) Z (Al Z Z Z (Ad hS2 (k := 0) Z Z Z Z Z Z (Aa Z Z (EN (c46 ..) Z (AO Z Z (Al Z Z Z (BB hS2 (k := 1) Z Z Z Z (by assumption) Z ?_)))))))))))))
  refine EN (c46 ..) Z (AB Z Z (pGiveK hS2 (k := 5) Z (Ar (ν := ν) (a := [3, 0, 1, 1, 1]) (b := [9, 0, 0, 1, 1, 1, 1]) (by decide)) (Af [9, 0, 0, 1, 1, 1, 1] hβ) (Au (ν := ν) (a := [9, 0, 0, 1, 1, 1, 1]) (b := [10, 0, 0, 1, 1, 1, 1]) (by decide)) (by omega) hg.qf _ _ (by omega) fun H3 O1 hS3 => ?_) )
  replace hS3 : Own _ _ _ (_ :: _ :: _ :: _ :: _ :: _ :: _ :: _ :: L) := hS3
  refine Aa Z Z (AK Z Z Z (EN (c46 ..) Z (AK Z Z Z (Ab Z Z (Ab Z Z (EZ (c46 ..) Z (Ac (Aa Z Z (Ah Z Z Z Z Z (EZ (c46 ..) Z (AH Z (fun h6 => ?_) (fun h6 => ?_))))))))))))
  ·try simp only [bs] at h6
   refine AC (Aa Z Z (Aa Z Z (AO Z Z (EN (c46 ..) Z (Al Z Z Z (Al Z Z Z (Bs hS3 (k := 1) Z (Ar (ν := ν) (a := [10, 0, 0, 1, 1, 1, 1]) (b := [5, 1, 1, 0, 1, 1, 1, 1]) (by decide)) Z Z Z (hS3.one (k := 0) Z) Z Z (Nat.le_of_ble_eq_true Z) (u2 := .agg [_, _, _, _, _, _, _, _, _, _, _, _, _, _, _, _]) Z fun H4 (hS4 : Own _ _ _ (_ :: _ :: _ :: _ :: _ :: _ :: _ :: _ :: L)) => EZ (c46 ..) Z (Ag (Ac (Ab Z Z (Ab Z Z (EZ (c46 ..) Z (Ap (Ak (res2 Z (Ai Z) (Ai Z)) ?_))))))))))))))
   rw [trimR, hold, hatc, if_neg h2, if_pos h6, setL_at hat hi] at hq; exact hq _ (Own.mk_jobL (c := c) hu hi hbU (Own.rot (A := [_, _, _, _, _]) (Own.drop (Own.mono hS4 (Ax (Az (a := [6, 1, 1, 0, 1, 1, 1, 1]) hp))) (k := 6) Z)))
  try simp only [bs] at h6
  refine At (Ag (Ac (Ab Z Z (Ab Z Z (EZ (c46 ..) Z (Ap (Ak (res2 Z (Ai Z) (Ai Z)) ?_)))))))
  rw [trimR, hold, hatc, if_neg h2, if_neg h6, setL_at hat hi] at hq; exact hq _ (Own.mk_jobL (c := c) hu hi hbU (Own.drop0 (Own.mono hS3 (Ax (Az (a := [10, 0, 0, 1, 1, 1, 1]) hp)))))
end Go.Proofs.YtfkgdlfponfimaaGreat.X
/- Layer 13: chunk.Run. -/
set_option maxRecDepth 100000
namespace Go.Proofs.YtfkgdlfponfimaaGreat.X
open Go Go.RowKit WM
variable {ν β ps pos pos' : Nm} {H H1 : Heap} {Q : AVal → Heap → Prop} {L : List Asr} {k : Nat} {S : Rf} {c : Ck} {q qo : Nm} {key want : Int} {m : Cm} {V0 S0 T0 v0 : AVal}
theorem runR_0 (h : m.d = 0) : runR S key c m = (makeR c m, S) := by rw [runR, if_pos h]
theorem runR_1 (h : m.d = 1) : runR S key c m = (epochR c m, S) := by rw [runR, if_neg (by omega), if_pos h]
theorem runR_2 (h : m.d = 2) : runR S key c m = (limitR c m, S) := by rw [runR, if_neg (by omega), if_neg (by omega), if_pos h]
theorem runR_3 (h : m.d = 3) : runR S key c m = leafR S key c m 2 putR := by rw [runR, if_neg (by omega), if_neg (by omega), if_neg (by omega), if_pos h]
theorem runR_4 (h : m.d = 4) : runR S key c m = leafR S key c m 1 getR := by rw [runR, if_neg (by omega), if_neg (by omega), if_neg (by omega), if_neg (by omega), if_pos h]
theorem runR_5 (h : m.d = 5) : runR S key c m = leafR S key c m 2 trimR := by rw [runR, if_neg (by omega), if_neg (by omega), if_neg (by omega), if_neg (by omega), if_neg (by omega), if_pos h]
theorem runR_b (h : m.d < 0 ∨ 6 ≤ m.d) : runR S key c m = (err c 130, S) := by rw [runR, if_neg (by omega), if_neg (by omega), if_neg (by omega), if_neg (by omega), if_neg (by omega), if_neg (by omega)]
theorem leafR_err {f : Ck → Cm → Rs} (h : (leafE S key c m want).1 ≠ 0) : leafR S key c m want f = (err c (leafE S key c m want).1, (leafE S key c m want).2) := if_pos h
theorem leafR_ok {f : Ck → Cm → Rs} (h : (leafE S key c m want).1 = 0) : leafR S key c m want f = (f c m, (leafE S key c m want).2) := if_neg (fun e => e h)
theorem fz3 {V S T : AVal} {c : Ck} {f : List Nm} {kk : IntKind} {e : Int} {s : ByteArray} (h : (stF V S T c).holds H f) : X.freeze [] H 8 (.tup [.agg [V, S, T], .int kk e, .str s]) = .tup [c.enc, .int kk e, .str s] := by
  have e1 := stF_freeze (n := 3) h
  show AVal.tup [X.freeze [] H 7 (.agg [V, S, T]), _, _] = _
  rw [e1]; rfl
theorem rc3 {V S T : AVal} {c : Ck} {f : List Nm} {kk : IntKind} {e : Int} {s : ByteArray} (h : (stF V S T c).holds H f) : ∀ q ∈ reach [] H 8 (.tup [.agg [V, S, T], .int kk e, .str s]), q ∈ f := by
  intro q hq
  rw [reach] at hq
  simp only [List.map_cons, List.map_nil, List.flatten_cons, List.flatten_nil, List.append_nil, List.mem_append] at hq
  rcases hq with hq | hq | hq
  · exact stF_reach (n := 7) h q hq
  · rw [reach_plain rfl] at hq; simp at hq
  rw [reach_plain rfl] at hq; simp at hq
theorem Own.run_job {V S1 T : AVal} {X1 X2 X3 X4 O : Asr} (h : Own β ps H (X1 :: jrow q qo key V S1 T m :: stO V S1 T c :: X2 :: X3 :: X4 :: O :: L)) : Own β ps H (jobO q qo key c m :: O :: X1 :: X2 :: X3 :: X4 :: L) := by
  have h1 := Own.rot (A := [jrow q qo key V S1 T m, stO V S1 T c]) (show Own β ps H (X1 :: ([jrow q qo key V S1 T m, stO V S1 T c] ++ X2 :: X3 :: X4 :: O :: L)) from h)
  have h2 := (Own.rot (A := [stO V S1 T c]) (show Own β ps H (jrow q qo key V S1 T m :: ([stO V S1 T c] ++ X1 :: X2 :: X3 :: X4 :: O :: L)) from h1)).un_all
  have h3 := Own.mk_job (Own.tor (A := [vols V c.vs, sl S1 3 (c.ss.map SE.Se.enc), sl T 3 (c.qs.map Qu.enc)]) h2)
  have h4 := Own.tor (A := [jobO q qo key c m, X1, X2, X3, X4]) (show Own β ps H ([jobO q qo key c m, X1, X2, X3, X4] ++ O :: L) from h3)
  exact Own.rot (A := [jobO q qo key c m]) h4
theorem ia_at {T : TT} {t e : TypeId} {ti ei : TI} {n d : Nat} {q : Nm} (h1 : T t = some ti) (h2 : ti.k = .array n e) (h3 : T e = some ei) (hs : ei.size = 1) (h : d < n) : aIndexAddr T t (.ptr q 0 0) (.int .i64 (d : Int)) = some (.ptr q 0 d) := by
  simp only [aIndexAddr, h1, h2, h3, hs, if_pos (show 0 ≤ (d : Int) ∧ (d : Int) < (n : Int) by omega), Int.toNat_natCast, Nat.mul_one, Nat.zero_add]
theorem geFi {T : TT} {t : TypeId} {a b : Int} (h : a < b) : aBin T .geq t (.int .i64 a) (.int .i64 b) = some (.bool false) := by
  simp only [aBin, aIntB, aInt]; simp; omega
def ways : List AVal := [.fn 51 [], .fn 52 [], .fn 53 [], .fn 54 [], .fn 55 [], .fn 56 []]
theorem run_g {d : Nat} {g : FuncId} {r : Rs} {T : Rf} (hg : c.good) (hd : m.d = (d : Int)) (h6 : d < 6) (hT : ways[d]? = some (.fn g [])) (hr : runR S key c m = (r, T))
    (hC : ∀ {ν ps pos' : Nm} {H : Heap} {Q : AVal → Heap → Prop} {L : List Asr} {q : Nm}, Own β ps H (jobO q qo key c m :: orc qo S.of :: L) → le ps ν → under β ν = true → before ν pos' → (∀ H1, Own β pos' H1 (jobF q qo key r.c m :: orc qo T.of :: L) → Q (.tup [.str r.an, .int .i64 r.e]) H1) → CW cfg ν g [.ptr q 0 0] H Q)
    (hf : X.freeze [] H 8 v0 = c.enc) (hS : Own β ps (X.lose (X.reach [] H 8 v0) H) L) (hL : L[k]? = some (orc qo S.of)) (hle : le ps ν) (hβ : under β ν = true) (hp : before ν pos')
    (hq : ∀ H1, Own β pos' H1 (L.set k (orc qo (runR S key c m).2.of)) → Q (.tup [(runR S key c m).1.c.enc, .int .i64 (runR S key c m).1.e, .str (runR S key c m).1.an]) H1) : CW cfg ν 17 [.ptr qo 0 0, .int .u64 key, v0, m.enc] H Q := by
  replace hS := hS.pick hL
  have hsm := hg.sm
  rw [hr] at hq
  have hR : X.reach [] H 9 (.tup [.ptr qo 0 0, .int .u64 key, v0, m.enc]) = X.reach [] H 8 v0 := by simp [X.reach, Cm.enc]
  rw [← hR] at hS
  refine Bu (args' := [.ptr qo 0 0, .int .u64 key, c.enc, m.enc]) g17 F17 Z (AF (Ae Z) (AF (Ae Z) (AF (by assumption) (AF (Ae Z) Bw)))) ?_
  replace hS := Own.mono hS hle
  refine Ac (AR hS (AE (p := ν) (b := [0, 0])) (Af [0, 0] hβ) Z Z Z ⟨Z, Z⟩ fun H1 (hS1 : Own _ _ _ (_ :: _ :: L.eraseIdx k)) => AR hS1 le_refl (Af [1, 0] hβ) Z Z Z ⟨Z, Z⟩ fun H2 (hS2 : Own _ _ _ (_ :: _ :: _ :: L.eraseIdx k)) => AG hS2 le_refl (Af [2, 0] hβ) Z Z Z Z fun H3 (hS3 : Own _ _ _ (_ :: _ :: _ :: _ :: L.eraseIdx k)) => EN (c50 ..) Z (Ab Z Z (Ab Z Z (EZ (c50 ..) Z (XW_srF (qs := [1 :: 0 :: ν]) Z Z ?_)))))
  have hSF1 : Own _ _ _ (_ :: _ :: _ :: _ :: L.eraseIdx k) := (Own.hide (Own.hide0 hS3) (k := 1) Z)
  refine Bf Z (Aa Z Z (AL (Bf Z (Aa Z Z (AL (Bf Z (Ad hSF1 (k := 2) Z Z Z Z Z (Aj Z Z Z) (AL (BK (e' := [_,_,_,_,_,_,_,_,_,_,_,_,_,_,_,_,_,_,_,_,_,_,_,_,_,_,_,_,_,_,_,_,_,_,_,_,_,_,_,_,_,_,_,_,_,_,_,_,_,_]) Z (Bf Z (AB Z Z (copied_c Ls.of Ls.of Ls.of hSF1 (Ar (ν := ν) (a := [3, 0]) (b := [3, 0, 1]) (by decide)) (Af [3, 0, 1] hβ) (Au (ν := ν) (a := [3, 0, 1]) (b := [4, 0, 1]) (by decide)) hsm fun H4 V S1 T1 hS4 => ?_) )))))))))))
  replace hS4 : Own _ _ _ (_ :: _ :: _ :: _ :: _ :: L.eraseIdx k) := hS4
  refine AL (OWF_fl Z (BN hS3 (k := 1) Z (by simp) Z Z Z Z (Aj Z Z Z) (AL (Bf Z (BF Z Z (v := .agg [_, _, _, _, _, _, _, _, _, _, _, _, _, _, _, _]) Z (AL (BK (e' := [_,_,_,_,_,_,_,_,_,_,_,_,_,_,_,_,_,_,_,_,_,_,_,_,_,_,_,_,_,_,_,_,_,_,_,_,_,_,_,_,_,_,_,_,_,_,_,_,_,_]) Z (Bf Z (AR hS4 (Ar (ν := ν) (a := [4, 0, 1]) (b := [6, 0, 1]) (by decide)) (Af [6, 0, 1] hβ) Z Z Z ⟨Z, Z⟩ fun H5 (hS5 : Own _ _ _ (_ :: _ :: _ :: _ :: _ :: _ :: L.eraseIdx k)) => AL (Bf Z (Ab Z Z (AL (OWF_nilE (e' := [_,_,_,_,_,_,_,_,_,_,_,_,_,_,_,_,_,_,_,_,_,_,_,_,_,_,_,_,_,_,_,_,_,_,_,_,_,_,_,_,_,_,_,_,_,_,_,_,_,_]) Z ?_)))))))))))))
  have hSB1 : Own _ _ _ (_ :: _ :: _ :: _ :: _ :: _ :: L.eraseIdx k) := (Own.back hS3 (k := 1) Z (Own.back0 hS5) (k' := 3) rfl)
  refine Ac (BF Z Z (v := .agg [_, _, _, _, _, _]) Z (AG hSB1 (Ar (ν := ν) (a := [7, 0, 1]) (b := [1, 0, 1, 1]) (by decide)) (Af [1, 0, 1, 1] hβ) Z Z Z Z fun H6 (hS6 : Own _ _ _ (_ :: _ :: _ :: _ :: _ :: _ :: _ :: L.eraseIdx k)) => Av hS6 (k := 0) Z le_refl Z Z Z Z ⟨Z, Z, Nat.le_of_ble_eq_true Z⟩ (u2 := .agg [_, _, _, _, _, _]) Z fun H7 (hS7 : Own _ _ _ (_ :: _ :: _ :: _ :: _ :: _ :: _ :: L.eraseIdx k)) => EZ (c50 ..) Z (Aq (Ac (Al Z Z Z (Ad hS7 (k := 4) Z Z Z Z Z Z (Ah Z Z Z Z (ltFi (by omega)) (EN (c50 ..) Z (Aa Z Z (Al Z Z Z (Ad hS7 (k := 4) Z Z Z Z Z Z (EN (c50 ..) Z (Ah Z Z Z Z (geFi (by omega)) (Aw Z Z Z (EZ (c50 ..) Z (Bd Z Z (At (Ag (Ac ?_)))))))))))))))))))
  replace hS7 := Own.run_job hS7
  refine Al Z Z Z (Ad hS7 (k := 4) Z Z Z Z Z Z ?_)
  rw [hd]
  refine OW_ia Z Z Z (ia_at Z Z Z Z h6) (EN (c50 ..) Z (Ad hS7 (k := 2) Z Z Z Z Z hT (Aa Z Z (OW_fv Z Z Z (hC hS7 (Ar (ν := ν) (a := [3, 0, 1, 1]) (b := [5, 0, 1, 1, 1, 1]) (by decide)) (Af [5, 0, 1, 1, 1, 1] hβ) (Au (ν := ν) (a := [5, 0, 1, 1, 1, 1]) (b := [6, 0, 1, 1, 1, 1]) (by decide)) fun H8 hS8 => ?_)))))
  replace hS8 : Own _ _ _ (_ :: _ :: _ :: _ :: _ :: _ :: L.eraseIdx k) := hS8
  refine EN (c50 ..) Z (Aa Z Z (AK Z Z Z (AK Z Z Z (EN (c50 ..) Z (Ab Z Z (Ab Z Z (EZ (c50 ..) Z (Ac ?_))))))))
  obtain ⟨V2, S2, T2, hz⟩ := Own.un_jobF hS8
  replace hS8 := hz
  refine Aa Z Z (AO Z Z (Al Z Z Z (EN (c50 ..) Z (Ad hS8 (k := 0) Z Z Z Z Z Z (Aa Z Z (Aa Z Z (EN (c50 ..) Z (Av hS8 (k := 4) Z (Ar (ν := ν) (a := [6, 0, 1, 1, 1, 1]) (b := [6, 0, 1, 1, 1, 1, 1]) (by decide)) Z Z Z Z ⟨Z, Z, Nat.le_of_ble_eq_true Z⟩ (u2 := .agg [_, _, _]) Z fun H9 (hS9 : Own _ _ _ (_ :: _ :: _ :: _ :: _ :: _ :: _ :: L.eraseIdx k)) => Ab Z Z (Ab Z Z (EZ (c50 ..) Z (Ap (Ak (res3 Z (AP hS9 (k := 4) Z Z Z Z (Aj Z Z Z)) (Ai Z) (Ai Z)) ?_))))))))))))
  have hz := Own.drop (Own.drop (Own.drop (Own.drop (Own.drop0 (Own.mono hS9 (Ax (Az (a := [7, 0, 1, 1, 1, 1, 1]) hp)))) (k := 5) Z) (k := 4) Z) (k := 3) Z) (k := 2) Z
  obtain ⟨fz, hfz, _⟩ := hz.get (k := 0) Z
  rw [fz3 hfz]; exact hq _ (Own.unpick (Own.lose hz fun f hf => rc3 hf) hL)
theorem run_bad (hg : c.good) (hm : m.fit) (hd : m.d < 0 ∨ 6 ≤ m.d) (hf : X.freeze [] H 8 v0 = c.enc) (hS : Own β ps (X.lose (X.reach [] H 8 v0) H) L) (hL : L[k]? = some (orc qo S.of)) (hle : le ps ν) (hβ : under β ν = true) (hp : before ν pos')
    (hq : ∀ H1, Own β pos' H1 (L.set k (orc qo (runR S key c m).2.of)) → Q (.tup [(runR S key c m).1.c.enc, .int .i64 (runR S key c m).1.e, .str (runR S key c m).1.an]) H1) : CW cfg ν 17 [.ptr qo 0 0, .int .u64 key, v0, m.enc] H Q := by
  replace hS := hS.pick hL
  have hsm := hg.sm
  rw [runR_b hd] at hq
  have hR : X.reach [] H 9 (.tup [.ptr qo 0 0, .int .u64 key, v0, m.enc]) = X.reach [] H 8 v0 := by simp [X.reach, Cm.enc]
  rw [← hR] at hS
  refine Bu (args' := [.ptr qo 0 0, .int .u64 key, c.enc, m.enc]) g17 F17 Z (AF (Ae Z) (AF (Ae Z) (AF (by assumption) (AF (Ae Z) Bw)))) ?_
  replace hS := Own.mono hS hle
  refine Ac (AR hS (AE (p := ν) (b := [0, 0])) (Af [0, 0] hβ) Z Z Z ⟨Z, Z⟩ fun H1 (hS1 : Own _ _ _ (_ :: _ :: L.eraseIdx k)) => AR hS1 le_refl (Af [1, 0] hβ) Z Z Z ⟨Z, Z⟩ fun H2 (hS2 : Own _ _ _ (_ :: _ :: _ :: L.eraseIdx k)) => AG hS2 le_refl (Af [2, 0] hβ) Z Z Z Z fun H3 (hS3 : Own _ _ _ (_ :: _ :: _ :: _ :: L.eraseIdx k)) => EN (c50 ..) Z (Ab Z Z (Ab Z Z (EZ (c50 ..) Z (XW_srF (qs := [1 :: 0 :: ν]) Z Z ?_)))))
  have hSF1 : Own _ _ _ (_ :: _ :: _ :: _ :: L.eraseIdx k) := (Own.hide (Own.hide0 hS3) (k := 1) Z)
  refine Bf Z (Aa Z Z (AL (Bf Z (Aa Z Z (AL (Bf Z (Ad hSF1 (k := 2) Z Z Z Z Z (Aj Z Z Z) (AL (BK (e' := [_,_,_,_,_,_,_,_,_,_,_,_,_,_,_,_,_,_,_,_,_,_,_,_,_,_,_,_,_,_,_,_,_,_,_,_,_,_,_,_,_,_,_,_,_,_,_,_,_,_]) Z (Bf Z (AB Z Z (copied_c Ls.of Ls.of Ls.of hSF1 (Ar (ν := ν) (a := [3, 0]) (b := [3, 0, 1]) (by decide)) (Af [3, 0, 1] hβ) (Au (ν := ν) (a := [3, 0, 1]) (b := [4, 0, 1]) (by decide)) hsm fun H4 V S1 T hS4 => ?_) )))))))))))
  replace hS4 : Own _ _ _ (_ :: _ :: _ :: _ :: _ :: L.eraseIdx k) := hS4
  refine AL (OWF_fl Z (BN hS3 (k := 1) Z (by simp) Z Z Z Z (Aj Z Z Z) (AL (Bf Z (BF Z Z (v := .agg [_, _, _, _, _, _, _, _, _, _, _, _, _, _, _, _]) Z (AL (BK (e' := [_,_,_,_,_,_,_,_,_,_,_,_,_,_,_,_,_,_,_,_,_,_,_,_,_,_,_,_,_,_,_,_,_,_,_,_,_,_,_,_,_,_,_,_,_,_,_,_,_,_]) Z (Bf Z (AR hS4 (Ar (ν := ν) (a := [4, 0, 1]) (b := [6, 0, 1]) (by decide)) (Af [6, 0, 1] hβ) Z Z Z ⟨Z, Z⟩ fun H5 (hS5 : Own _ _ _ (_ :: _ :: _ :: _ :: _ :: _ :: L.eraseIdx k)) => AL (Bf Z (Ab Z Z (AL (OWF_nilE (e' := [_,_,_,_,_,_,_,_,_,_,_,_,_,_,_,_,_,_,_,_,_,_,_,_,_,_,_,_,_,_,_,_,_,_,_,_,_,_,_,_,_,_,_,_,_,_,_,_,_,_]) Z ?_)))))))))))))
  have hSB1 : Own _ _ _ (_ :: _ :: _ :: _ :: _ :: _ :: L.eraseIdx k) := (Own.back hS3 (k := 1) Z (Own.back0 hS5) (k' := 3) rfl)
  refine Ac (BF Z Z (v := .agg [_, _, _, _, _, _]) Z (AG hSB1 (Ar (ν := ν) (a := [7, 0, 1]) (b := [1, 0, 1, 1]) (by decide)) (Af [1, 0, 1, 1] hβ) Z Z Z Z fun H6 (hS6 : Own _ _ _ (_ :: _ :: _ :: _ :: _ :: _ :: _ :: L.eraseIdx k)) => Av hS6 (k := 0) Z le_refl Z Z Z Z ⟨Z, Z, Nat.le_of_ble_eq_true Z⟩ (u2 := .agg [_, _, _, _, _, _]) Z fun H7 (hS7 : Own _ _ _ (_ :: _ :: _ :: _ :: _ :: _ :: _ :: L.eraseIdx k)) => EZ (c50 ..) Z (Aq (Ac (Al Z Z Z (Ad hS7 (k := 4) Z Z Z Z Z Z (Ah Z Z Z Z Z (EN (c50 ..) Z (Aa Z Z (AT (tt := 26) Z (fun g3_4 => ?_) (fun g3_4 => ?_)))))))))))
  ·first
   |skip
    try simp only [bs] at g3_4
    refine An Z (EN (c50 ..) Z (An Z (An Z (Aw Z Z Z (EZ (c50 ..) Z (AZ Z Z (Ac (Aa Z Z (AO Z Z (Al Z Z Z (EN (c50 ..) Z (Ad hS7 (k := 1) Z Z Z Z Z Z (Av hS7 (k := 3) Z (Ar (ν := ν) (a := [3, 0, 1, 1]) (b := [4, 0, 1, 0, 1, 1, 1]) (by decide)) Z Z Z Z ⟨Z, Z, Nat.le_of_ble_eq_true Z⟩ (u2 := .agg [_, _, _]) Z fun H8 (hS8 : Own _ _ _ (_ :: _ :: _ :: _ :: _ :: _ :: _ :: L.eraseIdx k)) => Ab Z Z (EN (c50 ..) Z (Ab Z Z (EZ (c50 ..) Z (Ap (Ao (Ak (res3 Z (AP hS8 (k := 3) Z Z Z Z (Aj Z Z Z)) (Ai Z) (Ai Z)) ?_)))))))))))))))))))
    have hz := Own.tor (A := [_, _]) (Own.mono hS8 (Ax (Az (a := [5, 0, 1, 0, 1, 1, 1]) hp)))
    replace hz := Own.drop (Own.drop (Own.drop (Own.drop (Own.drop hz (k := 5) Z) (k := 4) Z) (k := 3) Z) (k := 2) Z) (k := 1) Z
    obtain ⟨fz, hfz, _⟩ := hz.get (k := 0) Z
    rw [fz3 (stO_F hfz)]; exact hq _ (Own.unpick (Own.lose hz fun f hf => rc3 (stO_F hf)) hL)
  first
  |skip
   try simp only [bs] at g3_4
   refine Al Z Z Z (EN (c50 ..) Z (Ad hS7 (k := 4) Z Z Z Z Z Z (Ah Z Z Z Z Z (Aw Z Z Z (EZ (c50 ..) Z (AH Z (fun h3 => ?_) (fun h3 => ?_)))))))
   ·first
    |skip
     try simp only [bs] at h3
     refine Ac (Aa Z Z (AO Z Z (Al Z Z Z (EN (c50 ..) Z (Ad hS7 (k := 1) Z Z Z Z Z Z (Av hS7 (k := 3) Z (Ar (ν := ν) (a := [3, 0, 1, 1]) (b := [4, 0, 1, 0, 1, 1, 1]) (by decide)) Z Z Z Z ⟨Z, Z, Nat.le_of_ble_eq_true Z⟩ (u2 := .agg [_, _, _]) Z fun H9 (hS9 : Own _ _ _ (_ :: _ :: _ :: _ :: _ :: _ :: _ :: L.eraseIdx k)) => Ab Z Z (EN (c50 ..) Z (Ab Z Z (EZ (c50 ..) Z (Ap (Ao (Ak (res3 Z (AP hS9 (k := 3) Z Z Z Z (Aj Z Z Z)) (Ai Z) (Ai Z)) ?_))))))))))))
     have hz := Own.tor (A := [_, _]) (Own.mono hS9 (Ax (Az (a := [5, 0, 1, 0, 1, 1, 1]) hp)))
     replace hz := Own.drop (Own.drop (Own.drop (Own.drop (Own.drop hz (k := 5) Z) (k := 4) Z) (k := 3) Z) (k := 2) Z) (k := 1) Z
     obtain ⟨fz, hfz, _⟩ := hz.get (k := 0) Z
     rw [fz3 (stO_F hfz)]; exact hq _ (Own.unpick (Own.lose hz fun f hf => rc3 (stO_F hf)) hL)
   exfalso; (try simp only [bs] at h3) <;> (omega)
theorem run_c (hg : c.good) (hm : m.fit) (hf : X.freeze [] H 8 v0 = c.enc) (hS : Own β ps (X.lose (X.reach [] H 8 v0) H) L) (hL : L[k]? = some (orc qo S.of)) (hle : le ps ν) (hβ : under β ν = true) (hp : before ν pos')
    (hq : ∀ H1, Own β pos' H1 (L.set k (orc qo (runR S key c m).2.of)) → Q (.tup [(runR S key c m).1.c.enc, .int .i64 (runR S key c m).1.e, .str (runR S key c m).1.an]) H1) : CW cfg ν 17 [.ptr qo 0 0, .int .u64 key, v0, m.enc] H Q := by
  rcases (by omega : m.d = 0 ∨ m.d = 1 ∨ m.d = 2 ∨ m.d = 3 ∨ m.d = 4 ∨ m.d = 5 ∨ (m.d < 0 ∨ 6 ≤ m.d)) with hd | hd | hd | hd | hd | hd | hd
  · exact run_g (d := 0) hg hd (by decide) rfl (runR_0 hd) (fun a b c d e => make_c hg hm a b c d e) hf hS hL hle hβ hp hq
  · exact run_g (d := 1) hg hd (by decide) rfl (runR_1 hd) (fun a b c d e => epoch_c hg a b c d fun H h => e H (Own.job_F h)) hf hS hL hle hβ hp hq
  · exact run_g (d := 2) hg hd (by decide) rfl (runR_2 hd) (fun a b c d e => limit_c hg a b c d fun H h => e H (Own.job_F h)) hf hS hL hle hβ hp hq
  · by_cases he : (leafE S key c m 2).1 = 0
    · exact run_g (d := 3) hg hd (by decide) rfl ((runR_3 hd).trans (leafR_ok he)) (fun a b c d e => put_ok hg hm he a b c d fun H h => e H (Own.job_F h)) hf hS hL hle hβ hp hq
    exact run_g (d := 3) hg hd (by decide) rfl ((runR_3 hd).trans (leafR_err he)) (fun a b c d e => put_err hg hm he a b c d fun H h => e H (Own.job_F h)) hf hS hL hle hβ hp hq
  · by_cases he : (leafE S key c m 1).1 = 0
    · exact run_g (d := 4) hg hd (by decide) rfl ((runR_4 hd).trans (leafR_ok he)) (fun a b c d e => get_ok hg hm he a b c d fun H h => e H (Own.job_F h)) hf hS hL hle hβ hp hq
    exact run_g (d := 4) hg hd (by decide) rfl ((runR_4 hd).trans (leafR_err he)) (fun a b c d e => get_err hg hm he a b c d fun H h => e H (Own.job_F h)) hf hS hL hle hβ hp hq
  · by_cases he : (leafE S key c m 2).1 = 0
    · exact run_g (d := 5) hg hd (by decide) rfl ((runR_5 hd).trans (leafR_ok he)) (fun a b c d e => trim_ok hg hm he a b c d fun H h => e H (Own.job_F h)) hf hS hL hle hβ hp hq
    exact run_g (d := 5) hg hd (by decide) rfl ((runR_5 hd).trans (leafR_err he)) (fun a b c d e => trim_err hg hm he a b c d fun H h => e H (Own.job_F h)) hf hS hL hle hβ hp hq
  exact run_bad hg hm hd hf hS hL hle hβ hp hq
end Go.Proofs.YtfkgdlfponfimaaGreat.X
/- So many numbers of a text (layers 13, 14). -/
set_option maxRecDepth 100000
namespace Go.Proofs.YtfkgdlfponfimaaGreat.X
open Go Go.RowKit WM
variable {ν : Nm} {H : Heap} {Q : AVal → Heap → Prop}
def encN (n : Int) : AVal := .int .u64 n
def resN (m : Nat) (s : ByteArray) : List Int × ByteArray × Bool := match cI.manyT m s.data.toList with
  | some (l, r) => (l, ba r, true)
  | none => ([], ⟨#[]⟩, false)
theorem cI_yes {s : ByteArray} (h : (resU s).2.2 = true) : cI.tk s.data.toList = some ((resU s).1, (resU s).2.1.data.toList) := by
  rcases cI_res s with ⟨h1, _⟩ | ⟨_, h2⟩
  · rw [h1] at h; cases h
  exact h2
theorem cI_no {s : ByteArray} (h : (resU s).2.2 = false) : cI.tk s.data.toList = none := by
  rcases cI_res s with ⟨_, _, h2⟩ | ⟨h1, _⟩
  · exact h2
  rw [h1] at h; cases h
theorem takeK_c {s : ByteArray} {m : Nat} (hs : s.size ≤ 4611686018427387904) (hm : m ≤ 16) (hq : Q (.tup [.lst ((resN m s).1.map encN), .str (resN m s).2.1, .bool (resN m s).2.2]) H) : CW cfg ν 60 [.str s, .int .i64 m] H Q := by
  refine Be g60 F60 rfl ?_
  have hS0 : Own ν ν (fun _ => none) [] := Own.nil
  refine Ac (Ab rfl rfl (Ab rfl rfl (Ab rfl rfl ?_)))
  refine EZ (c30 ..) rfl ?_
  refine Ac (Ab rfl rfl ?_)
  refine EZ (c30 ..) rfl ?_
  refine Aq (Ac (Aa rfl rfl (Aa rfl rfl ?_)))
  refine EZ (c30 ..) rfl ?_
  refine AD ?_
  refine AV (I := fun ν' mm ee H' => ∃ (i : Nat) (O : AVal) (acc : List Int) (rest : ByteArray), mm = m - i ∧ under (1 :: 0 :: 1 :: 1 :: ν) ν' = true ∧ Own ν ν' H' ([sl O 1 (acc.map encN)]) ∧ (cI.Far m s.data.toList i acc rest.data.toList ∧ rest.size ≤ s.size) ∧ ∃ g : Nat → AVal, ee = [.str rest, .int .i64 m, g 2, g 3, g 4, g 5, g 6, O, g 8, g 9, g 10, .int .i64 m, .int .i64 i, g 13, g 14, g 15, g 16, g 17, g 18, g 19, g 20, g 21, g 22, g 23, g 24, g 25, g 26, g 27, g 28, g 29]) ?_ _ _ _ _ ⟨0, .nls, [], s, rfl, AI, Own.cast (Own.mono (hS0.addN (w := 1)) (AE (p := ν) (b := [1, 0, 1, 1]))) (rfl), (⟨cI.far0 m _, Nat.le_refl _⟩), AU rfl⟩
  rintro ν1 mm ee H1 ⟨i, O, acc, rest, rfl, hU1, hS1, ⟨hF, hrs⟩, g1, rfl⟩
  refine Ac ?_
  refine Ah rfl rfl rfl rfl rfl ?_
  refine EZ (c30 ..) rfl ?_
  refine Aq ?_
  refine AH rfl (fun h3 => ?_) (fun h3 => ?_)
  ·try simp only [bs] at h3
   refine At (Ag (Aq (AD (Ac ?_))))
   have hal := hF.2.1; have hz := resU_size rest
   refine Aa rfl rfl ?_
   refine AB rfl rfl (takeU_c (by omega) ?_) 
   refine Aa rfl rfl ?_
   refine Ay (e' := [_,_,_,_,_,_,_,_,_,_,_,_,_,_,_,_,_,_,_,_,_,_,_,_,_,_,_,_,_,_]) rfl ?_
   refine AK rfl rfl rfl (AK rfl rfl rfl (AK rfl rfl rfl ?_))
   refine Ay (e' := [_,_,_,_,_,_,_,_,_,_,_,_,_,_,_,_,_,_,_,_,_,_,_,_,_,_,_,_,_,_]) rfl ?_
   refine Ab rfl rfl (Ab rfl rfl (Ab rfl rfl ?_))
   refine EZ (c30 ..) rfl ?_
   refine Aq (Ac (Aa rfl rfl (BE rfl rfl rfl ?_)))
   refine EZ (c30 ..) rfl ?_
   refine AH rfl (fun h5 => ?_) (fun h5 => ?_)
   ·try simp only [bs] at h5
    refine Ac (Ab rfl rfl (Ab rfl rfl (Ab rfl rfl ?_)))
    refine EZ (c30 ..) rfl ?_
    refine Ap (Ao (AA (Ao (AA (Ao ?_)))))
    refine Ak (res3 rfl (Ai rfl) (Ai rfl) (Ai rfl)) (frz3 (Q := Q) (by exact Ls.freeze Ls.nls) (by exact Ae rfl) (by exact Ae rfl) ?_)
    (rw [resN, Cod.far_none hF (by omega) (cI_no (by assumption))] at hq; exact hq)
   try simp only [bs] at h5
   refine At (Ag (AC (Aa rfl rfl (Aa rfl rfl ?_))))
   refine Bq rfl rfl (v := .lst [_]) rfl ?_
   refine Ay (e' := [_,_,_,_,_,_,_,_,_,_,_,_,_,_,_,_,_,_,_,_,_,_,_,_,_,_,_,_,_,_]) rfl ?_
   refine Bz hS1 (k := 0) rfl (AE (p := ν1) (b := [3, 1, 1, 0, 1, 1, 0])) (Af [3, 1, 1, 0, 1, 1, 0] (Bk (Af [1, 0, 1, 1] AI) hU1)) rfl rfl rfl rfl rfl rfl rfl rfl (by rfl) (by exact Br rfl) (by (simp only [ss]; omega)) (by decide) fun O1 H2 hS2 => ?_
   replace hS2 : Own _ _ _ ([_]) := hS2
   refine Aa rfl rfl (Ab rfl rfl ?_)
   refine Ay (e' := [_,_,_,_,_,_,_,_,_,_,_,_,_,_,_,_,_,_,_,_,_,_,_,_,_,_,_,_,_,_]) rfl ?_
   refine Ab rfl rfl ?_
   refine EZ (c30 ..) rfl ?_
   refine AJ (Ag (AC ?_))
   refine Ah rfl rfl rfl rfl (AW (by omega)) ?_
   refine Aa rfl rfl ?_
   refine EZ (c30 ..) rfl ?_
   refine ⟨_, ?_, i + 1, O1, acc ++ [(resU rest).1], (resU rest).2.1, rfl, AM hU1, Own.cast (Own.mono (hS2) (Ar (ν := ν1) (a := [4, 1, 1, 0, 1, 1, 0]) (b := [1]) (by decide))) (by rw [List.map_append]; rfl), ?_, AU rfl⟩
   · omega
   exact ⟨Cod.far_step hF (by omega) (cI_yes (by assumption)), by omega⟩
  try simp only [bs] at h3
  refine AY (AQ (AN (Ag (Ac (Aa rfl rfl (Aa rfl rfl (Ab rfl rfl ?_)))))))
  refine Ay (e' := [_,_,_,_,_,_,_,_,_,_,_,_,_,_,_,_,_,_,_,_,_,_,_,_,_,_,_,_,_,_]) rfl ?_
  refine Ab rfl rfl (Ab rfl rfl ?_)
  refine EZ (c30 ..) rfl ?_
  refine Ap ?_
  refine Ak (res3 rfl (Ai rfl) (Ai rfl) (Ai rfl)) (frz3 (Q := Q) (by exact hS1.frz (k := 0) rfl (by exact Bx (fun _ => rfl))) (by exact Ae rfl) (by exact Ae rfl) ?_)
  (rw [resN, Cod.far_end hF (by omega)] at hq; exact hq)
theorem rnums_c {s : ByteArray} {m : Nat} (hs : s.size ≤ 4611686018427387904) (hm : m ≤ 16) (hq : Q (.tup [.lst ((resN m s).1.map encN), .str (resN m s).2.1, .bool (resN m s).2.2]) H) : CW cfg ν 62 [.str s, .int .i64 m] H Q := by
  refine Be g62 F62 rfl ?_
  have hS0 : Own ν ν (fun _ => none) [] := Own.nil
  refine Ac (Ab rfl rfl (Ab rfl rfl (Ab rfl rfl ?_)))
  refine EZ (c31 ..) rfl ?_
  refine Ac ?_
  refine Bq rfl rfl rfl ?_
  refine Ab rfl rfl ?_
  refine EZ (c31 ..) rfl ?_
  refine Aq (AD ?_)
  refine AV (I := fun ν' mm ee H' => ∃ (i : Nat) (O : AVal) (acc : List Int) (rest : ByteArray), mm = m - i ∧ under (0 :: 1 :: 1 :: ν) ν' = true ∧ Own ν ν' H' ([sl O 1 (acc.map encN)]) ∧ (cI.Far m s.data.toList i acc rest.data.toList ∧ rest.size ≤ s.size ∧ acc.length = i) ∧ ∃ g : Nat → AVal, ee = [.str rest, .int .i64 m, g 2, g 3, g 4, g 5, g 6, O, g 8, g 9, g 10, g 11, g 12, g 13, g 14, g 15, g 16, g 17, g 18, g 19, g 20, g 21, g 22, g 23, g 24, g 25, g 26, g 27, g 28, g 29, g 30]) ?_ _ _ _ _ ⟨0, .emp, [], s, rfl, AI, Own.cast (Own.mono (hS0.addE (w := 1)) (AE (p := ν) (b := [0, 1, 1]))) (rfl), (⟨cI.far0 m _, Nat.le_refl _, rfl⟩), AU rfl⟩
  rintro ν1 mm ee H1 ⟨i, O, acc, rest, rfl, hU1, hS1, ⟨hF, hrs, hal⟩, g1, rfl⟩
  refine Aq (Ac (Aa rfl rfl ?_))
  refine BC hS1 (k := 0) rfl rfl rfl rfl rfl rfl (by exact List.length_map _) ?_
  refine Aa rfl rfl ?_
  refine Ay (e' := [_,_,_,_,_,_,_,_,_,_,_,_,_,_,_,_,_,_,_,_,_,_,_,_,_,_,_,_,_,_,_]) rfl ?_
  refine Ah rfl rfl rfl rfl rfl ?_
  refine EZ (c31 ..) rfl ?_
  refine AH rfl (fun h2 => ?_) (fun h2 => ?_)
  ·try simp only [bs] at h2
   refine At (Ag (AD (Ac ?_)))
   have hz := resU_size rest
   refine Aa rfl rfl ?_
   refine AB rfl rfl (rtakeU (by omega) ?_) 
   refine Aa rfl rfl ?_
   refine Ay (e' := [_,_,_,_,_,_,_,_,_,_,_,_,_,_,_,_,_,_,_,_,_,_,_,_,_,_,_,_,_,_,_]) rfl ?_
   refine AK rfl rfl rfl (AK rfl rfl rfl (AK rfl rfl rfl ?_))
   refine Ay (e' := [_,_,_,_,_,_,_,_,_,_,_,_,_,_,_,_,_,_,_,_,_,_,_,_,_,_,_,_,_,_,_]) rfl ?_
   refine Ab rfl rfl (Ab rfl rfl (Ab rfl rfl ?_))
   refine EZ (c31 ..) rfl ?_
   refine Aq (Ac (Aa rfl rfl (BE rfl rfl rfl ?_)))
   refine EZ (c31 ..) rfl ?_
   refine AH rfl (fun h4 => ?_) (fun h4 => ?_)
   ·try simp only [bs] at h4
    refine Ac (Ab rfl rfl (Ab rfl rfl (Ab rfl rfl ?_)))
    refine EZ (c31 ..) rfl ?_
    refine Ap (Ao (AA (AA (Ao ?_))))
    refine Ak (res3 rfl (Ai rfl) (Ai rfl) (Ai rfl)) (frz3 (Q := Q) (by exact Ls.freeze Ls.nls) (by exact Ae rfl) (by exact Ae rfl) ?_)
    (rw [resN, Cod.far_none hF (by omega) (cI_no (by assumption))] at hq; exact hq)
   try simp only [bs] at h4
   refine At (Ag (Ac (Aa rfl rfl (Aa rfl rfl ?_))))
   refine Bq rfl rfl (v := .lst [_]) rfl ?_
   refine Ay (e' := [_,_,_,_,_,_,_,_,_,_,_,_,_,_,_,_,_,_,_,_,_,_,_,_,_,_,_,_,_,_,_]) rfl ?_
   refine Bz hS1 (k := 0) rfl (AE (p := ν1) (b := [3, 0, 1, 1, 1, 0])) (Af [3, 0, 1, 1, 1, 0] (Bk (Af [0, 1, 1] AI) hU1)) rfl rfl rfl rfl rfl rfl rfl rfl (by rfl) (by exact Br rfl) (by (simp only [ss]; omega)) (by decide) fun O1 H2 hS2 => ?_
   replace hS2 : Own _ _ _ ([_]) := hS2
   refine Ab rfl rfl ?_
   refine EZ (c31 ..) rfl ?_
   refine AC (Aa rfl rfl (Ab rfl rfl ?_))
   refine EZ (c31 ..) rfl ?_
   refine AJ ?_
   refine ⟨_, ?_, i + 1, O1, acc ++ [(resU rest).1], (resU rest).2.1, rfl, AM hU1, Own.cast (Own.mono (hS2) (Ar (ν := ν1) (a := [4, 0, 1, 1, 1, 0]) (b := [1]) (by decide))) (by rw [List.map_append]; rfl), ?_, AU rfl⟩
   · omega
   exact ⟨Cod.far_step hF (by omega) (cI_yes (by assumption)), by omega, by rw [List.length_append, hal]; rfl⟩
  try simp only [bs] at h2
  refine AY (AQ (AN (Ag (Ac (Aa rfl rfl (Aa rfl rfl (Ab rfl rfl ?_)))))))
  refine Ay (e' := [_,_,_,_,_,_,_,_,_,_,_,_,_,_,_,_,_,_,_,_,_,_,_,_,_,_,_,_,_,_,_]) rfl ?_
  refine Ab rfl rfl (Ab rfl rfl ?_)
  refine EZ (c31 ..) rfl ?_
  refine Ap ?_
  refine Ak (res3 rfl (Ai rfl) (Ai rfl) (Ai rfl)) (frz3 (Q := Q) (by exact hS1.frz (k := 0) rfl (by exact Bx (fun _ => rfl))) (by exact Ae rfl) (by exact Ae rfl) ?_)
  (rw [resN, Cod.far_end hF (by omega)] at hq; exact hq)
end Go.Proofs.YtfkgdlfponfimaaGreat.X
