/- Layer 20: the items' methods on the heap. -/
import Derived.Test.YtamdokgbenbndaaTI1
set_option linter.unusedVariables false
set_option linter.unusedSimpArgs false
set_option maxRecDepth 100000
namespace Go.Proofs.Ytamdokgbenbndaa.X
open Go Go.RowKit
variable {ν β ps pos' : Nm} {H : Heap} {Q : AVal → Heap → Prop} {L : List Asr} {k : Nat}
def swp (h : List It) (i j : Nat) : List It := match h[i]?, h[j]? with
  | some x, some y => (h.set i y).set j x
  | _, _ => h
theorem swp_eq {h : List It} {i j : Nat} (hi : i < h.length) (hj : j < h.length) : swp h i j = (h.set i h[j]).set j h[i] := by
  unfold swp; rw [List.getElem?_eq_getElem hi, List.getElem?_eq_getElem hj]
theorem swp_len (h : List It) (i j : Nat) : (swp h i j).length = h.length := by
  unfold swp; split <;> simp
theorem Own.aload {q : Nm} {us : List AVal} {w : Nat} {T : TT} {t : TypeId} {ti : TI} {off : Nat} {u : AVal} (hS : Own β ps H L) (hL : L[k]? = some (row q w [.agg us])) (ht : T t = some ti) (hp : part ti (.agg us) off = some u) : aLoad T H t (.ptr q 0 off) = some u := by
  obtain ⟨f, ⟨_, h0⟩, _⟩ := hS.get hL
  simp only [aLoad, ht, h0, List.getElem?_cons_zero, hp]
theorem swap_c {O : AVal} {h : List It} {i j : Nat} (hS : Own β ps H L) (hL : L[k]? = some (sl O 3 (h.map It.enc))) (hle : le ps ν) (hβ : under β ν = true) (hp : before ν pos') (hi : i < h.length) (hj : j < h.length)
    (hq : ∀ H1, Own β pos' H1 (L.set k (sl O 3 ((swp h i j).map It.enc))) → Q (.tup []) H1) : CW cfg ν 45 [O, .int .i64 i, .int .i64 j] H Q := by
  replace hS := hS.pick hL
  refine CW_keep g45 F45 rfl ?_
  replace hS := Own.mono hS hle
  refine XW_region ?_
  refine OW_mv rfl rfl ?_
  refine OW_mv rfl rfl ?_
  refine OW_mv rfl rfl ?_
  refine OW_env (e' := [_, _, _, _, _, _, _, _, _, _, _, _, _, _, _, _, _, _, _, _]) rfl ?_
  refine OW_mv rfl rfl ?_
  refine OW_mv rfl rfl ?_
  refine OW_mv rfl rfl ?_
  refine OW_env (e' := [_, _, _, _, _, _, _, _, _, _, _, _, _, _, _, _, _, _, _, _]) rfl ?_
  refine OW_iaO hS (k := 0) rfl rfl rfl rfl rfl rfl rfl rfl (by first | rfl | exact (Int.toNat_of_nonneg (by omega)).symm) (by first | assumption | exact at_map (by first | assumption | omega) | exact at_lst (by omega) | rfl) fun q1 ys1 hO1 hq1 ht1 hy1 hu1 => ?_
  subst hO1
  refine OW_loadP rfl rfl hq1 hy1 rfl (by first | exact part_whole rfl rfl rfl | rfl) ?_
  refine OW_mv rfl rfl ?_
  refine OW_env (e' := [_, _, _, _, _, _, _, _, _, _, _, _, _, _, _, _, _, _, _, _]) rfl ?_
  refine OW_mv rfl rfl ?_
  refine OW_iaO hS (k := 0) rfl rfl rfl rfl rfl rfl rfl rfl (by first | rfl | exact (Int.toNat_of_nonneg (by omega)).symm) (by first | assumption | exact at_map (by first | assumption | omega) | exact at_lst (by omega) | rfl) fun q2 ys2 hO2 hq2 ht2 hy2 hu2 => ?_
  obtain rfl : q1 = q2 := (AVal.slc.inj hO2).1
  refine OW_loadP rfl rfl hq2 hy2 rfl (by first | exact part_whole rfl rfl rfl | rfl) ?_
  refine OW_env (e' := [_, _, _, _, _, _, _, _, _, _, _, _, _, _, _, _, _, _, _, _]) rfl ?_
  refine OW_iaO hS (k := 0) rfl rfl rfl rfl rfl rfl rfl rfl (by first | rfl | exact (Int.toNat_of_nonneg (by omega)).symm) (by first | assumption | exact at_map (by first | assumption | omega) | exact at_lst (by omega) | rfl) fun q3 ys3 hO3 hq3 ht3 hy3 hu3 => ?_
  obtain rfl : q1 = q3 := (AVal.slc.inj hO3).1
  first
  | refine OW_storeO hS (k := 0) rfl (le_app (p := ν) (b := [13])) rfl rfl rfl rfl hu3 ⟨rfl, rfl, Nat.le_of_ble_eq_true rfl⟩ (set_whole rfl rfl) fun H1 hS1 => ?_
  | refine OW_storeO hS (k := 0) rfl (le_app (p := ν) (b := [13])) rfl rfl rfl rfl hu3 ⟨rfl, rfl, Nat.le_of_ble_eq_true rfl⟩ (u2 := .agg [_, _, _]) rfl fun H1 hS1 => ?_
  replace hS1 : Own _ _ _ (_ :: L.eraseIdx k) := hS1
  obtain ⟨m, hm⟩ : ∃ m, m = h.set i h[j] := ⟨_, rfl⟩
  replace hS1 := hS1.reS (k := 0) rfl (show _ = m.map It.enc by rw [hm, List.map_set]; rfl)
  have hml : m.length = h.length := by rw [hm, List.length_set]
  have hll : (List.map It.enc h).length = (List.map It.enc m).length := by rw [List.length_map, List.length_map, hml]
  rw [hll] at hS1 ⊢
  refine OW_iaO hS1 (k := 0) rfl rfl rfl rfl rfl rfl rfl rfl (by first | rfl | exact (Int.toNat_of_nonneg (by omega)).symm) (by first | assumption | exact at_map (by first | assumption | omega) | exact at_lst (by omega) | rfl) fun q4 ys4 hO4 hq4 ht4 hy4 hu4 => ?_
  obtain rfl : q1 = q4 := (AVal.slc.inj hO4).1
  refine OW_env (e' := [_, _, _, _, _, _, _, _, _, _, _, _, _, _, _, _, _, _, _, _]) rfl ?_
  first
  | refine OW_storeO hS1 (k := 0) rfl (le_lit (ν := ν) (a := [14]) (b := [15]) (by decide)) rfl rfl rfl rfl hu4 ⟨rfl, rfl, Nat.le_of_ble_eq_true rfl⟩ (set_whole rfl rfl) fun H2 hS2 => ?_
  | refine OW_storeO hS1 (k := 0) rfl (le_lit (ν := ν) (a := [14]) (b := [15]) (by decide)) rfl rfl rfl rfl hu4 ⟨rfl, rfl, Nat.le_of_ble_eq_true rfl⟩ (u2 := .agg [_, _, _]) rfl fun H2 hS2 => ?_
  replace hS2 : Own _ _ _ (_ :: L.eraseIdx k) := hS2
  refine OW_nilE (e' := [_, _, _, _, _, _, _, _, _, _, _, _, _, _, _, _, _, _, _, _]) rfl ?_
  -- outcome 1
  refine ret_norm ((res0 rfl)) ?_
  refine hq _ (Own.unpick (Own.re (Own.mono hS2 (le_bef (bef_app (a := [16]) hp))) ?_) hL)
  rw [swp_eq hi hj, List.map_set (l := h.set i h[j]), ← hm, hll]; rfl
/-- A queue: its items, and how many were ever added. -/
theorem push_c {O : AVal} {n : AVal} {q : Nm} {h : List It} {x : It} (hS : Own β ps H (row q 2 [.agg [O, n]] :: sl O 3 (h.map It.enc) :: L)) (hle : le ps ν) (hβ : under β ν = true) (hp : before ν pos') (hn : h.length ≤ 4294967000)
    (hq : ∀ H1 O', Own β pos' H1 (row q 2 [.agg [O', n]] :: sl O' 3 ((h ++ [x]).map It.enc) :: L) → Q (.tup []) H1) : CW cfg ν 44 [.ptr q 0 0, .ifc 53 x.enc] H Q := by
  refine CW_keep g44 F44 rfl ?_
  replace hS := Own.mono hS hle
  refine XW_region ?_
  refine OW_mv rfl rfl ?_
  refine OW_mv rfl rfl ?_
  first
  | refine OW_nc rfl rfl ?_
  | refine OW_nce rfl rfl ?_
  refine OW_env (e' := [_, _, _, _, _, _, _, _, _, _, _, _, _]) rfl ?_
  refine OW_loadR hS (k := 0) rfl rfl rfl rfl rfl (by first | exact part_whole rfl rfl rfl | rfl) ?_
  refine OW_mv rfl rfl ?_
  refine OW_ta rfl rfl rfl rfl ?_
  refine OW_env (e' := [_, _, _, _, _, _, _, _, _, _, _, _, _]) rfl ?_
  refine OW_bs rfl rfl (v := .lst [_]) rfl ?_
  refine OW_app hS (k := 1) rfl (le_app (p := ν) (b := [7])) (under_app [7] hβ) rfl rfl rfl rfl rfl rfl rfl rfl (by first | rfl | exact Ls.elems (by assumption)) (by first | exact one_wide rfl | exact map_wide (fun _ => rfl) | assumption | (intro y hy; simp at hy; done)) (by first | omega | (simp only [List.length_map, List.length_append, List.length_singleton, List.length_cons, List.length_nil, List.length_take, List.length_drop]; omega) | (simp; omega)) (by decide) fun O1 H1 hS1 => ?_
  replace hS1 : Own _ _ _ (_ :: _ :: L) := hS1
  first
  | refine OW_nc rfl rfl ?_
  | refine OW_nce rfl rfl ?_
  refine OW_env (e' := [_, _, _, _, _, _, _, _, _, _, _, _, _]) rfl ?_
  refine OW_storeC hS1 (k := 0) rfl (le_lit (ν := ν) (a := [8]) (b := [9]) (by decide)) rfl rfl rfl (hS1.one (k := 1) rfl) rfl rfl (Nat.le_of_ble_eq_true rfl) (u2 := .agg [_, _]) rfl fun H2 hS2 => ?_
  replace hS2 : Own _ _ _ (_ :: _ :: L) := hS2
  refine OW_nilE (e' := [_, _, _, _, _, _, _, _, _, _, _, _, _]) rfl ?_
  -- outcome 1
  refine ret_norm ((res0 rfl)) ?_
  exact hq _ _ (Own.cast (Own.mono hS2 (le_bef (bef_app (a := [10]) hp))) (by rw [List.map_append]; rfl))
theorem hpop_c {O : AVal} {n : AVal} {q : Nm} {h : List It} (h0 : 0 < h.length) (hS : Own β ps H (row q 2 [.agg [O, n]] :: sl O 3 (h.map It.enc) :: L)) (hle : le ps ν) (hβ : under β ν = true) (hp : before ν pos') (hn : h.length ≤ 4294967000)
    (hq : ∀ H1 O', Own β pos' H1 (row q 2 [.agg [O', n]] :: sl O' 3 (h.dropLast.map It.enc) :: L) → Q (.ifc 53 (h[h.length - 1]).enc) H1) : CW cfg ν 51 [.ptr q 0 0] H Q := by
  refine CW_keep g51 F51 rfl ?_
  replace hS := Own.mono hS hle
  refine XW_sr ?_
  refine OW_as rfl rfl ?_
  refine OW_nilE (e' := [_, _, _, _, _, _, _, _, _, _, _, _, _, _, _, _, _, _, _, _, _, _, _, _, _, _, _]) rfl ?_
  refine XW_sr ?_
  refine OW_mv rfl rfl ?_
  first
  | refine OW_nc rfl rfl ?_
  | refine OW_nce rfl rfl ?_
  refine OW_loadR hS (k := 0) rfl rfl rfl rfl rfl (by first | exact part_whole rfl rfl rfl | rfl) ?_
  refine OW_env (e' := [_, _, _, _, _, _, _, _, _, _, _, _, _, _, _, _, _, _, _, _, _, _, _, _, _, _, _]) rfl ?_
  refine OW_mv rfl rfl ?_
  first
  | refine OW_nc rfl rfl ?_
  | refine OW_nce rfl rfl ?_
  refine OW_loadR hS (k := 0) rfl rfl rfl rfl rfl (by first | exact part_whole rfl rfl rfl | rfl) ?_
  refine OW_env (e' := [_, _, _, _, _, _, _, _, _, _, _, _, _, _, _, _, _, _, _, _, _, _, _, _, _, _, _]) rfl ?_
  refine OW_lenO hS (k := 1) rfl rfl rfl rfl rfl rfl (by first | exact List.length_map _ | exact len_app1 | exact len_drop | (simp only [List.length_append, List.length_map, List.length_singleton, List.length_cons, List.length_nil]; rfl) | rfl) ?_
  first
  | refine OW_bin rfl rfl rfl rfl (sub_w64 (by first | omega | assumption | (simp only [ByteArray.size_append, ByteArray.size_extract, List.length_map, List.length_append, List.length_cons, List.length_nil, List.length_drop, List.length_take]; omega))) ?_
  | refine OW_bin rfl rfl rfl rfl rfl ?_
  rw [show (h.length : Int) - 1 = ((h.length - 1 : Nat) : Int) by omega]
  refine OW_iaO hS (k := 1) rfl rfl rfl rfl rfl rfl rfl rfl (by first | rfl | exact (Int.toNat_of_nonneg (by omega)).symm) (by first | assumption | exact at_map (by first | assumption | omega) | exact at_lst (by omega) | rfl) fun q1 ys1 hO1 hq1 ht1 hy1 hu1 => ?_
  subst hO1
  refine OW_env (e' := [_, _, _, _, _, _, _, _, _, _, _, _, _, _, _, _, _, _, _, _, _, _, _, _, _, _, _]) rfl ?_
  refine OW_loadP rfl rfl hq1 hy1 rfl (by first | exact part_whole rfl rfl rfl | rfl) ?_
  refine OW_allocR hS (le_app (p := ν) (b := [10, 0, 1])) (under_app [10, 0, 1] hβ) rfl rfl rfl rfl fun H1 hS1 => ?_
  replace hS1 : Own _ _ _ (_ :: _ :: _ :: L) := hS1
  first
  | refine OW_storeR hS1 (k := 0) rfl le_refl rfl rfl rfl rfl ⟨rfl, rfl, Nat.le_of_ble_eq_true rfl⟩ (set_whole rfl rfl) fun H2 hS2 => ?_
  | refine OW_storeR hS1 (k := 0) rfl le_refl rfl rfl rfl rfl ⟨rfl, rfl, Nat.le_of_ble_eq_true rfl⟩ (u2 := .agg [_, _, _]) rfl fun H2 hS2 => ?_
  replace hS2 : Own _ _ _ (_ :: _ :: _ :: L) := hS2
  refine OW_nilE (e' := [_, _, _, _, _, _, _, _, _, _, _, _, _, _, _, _, _, _, _, _, _, _, _, _, _, _, _]) rfl ?_
  refine XW_sr ?_
  refine OW_mv rfl rfl ?_
  refine OW_mv rfl rfl ?_
  first
  | refine OW_nc rfl rfl ?_
  | refine OW_nce rfl rfl ?_
  refine OW_env (e' := [_, _, _, _, _, _, _, _, _, _, _, _, _, _, _, _, _, _, _, _, _, _, _, _, _, _, _]) rfl ?_
  refine OW_loadR hS2 (k := 1) rfl rfl rfl rfl rfl (by first | exact part_whole rfl rfl rfl | rfl) ?_
  refine OW_mv rfl rfl ?_
  first
  | refine OW_nc rfl rfl ?_
  | refine OW_nce rfl rfl ?_
  refine OW_env (e' := [_, _, _, _, _, _, _, _, _, _, _, _, _, _, _, _, _, _, _, _, _, _, _, _, _, _, _]) rfl ?_
  refine OW_loadR hS2 (k := 1) rfl rfl rfl rfl rfl (by first | exact part_whole rfl rfl rfl | rfl) ?_
  refine OW_lenO hS2 (k := 2) rfl rfl rfl rfl rfl rfl (by first | exact List.length_map _ | exact len_app1 | exact len_drop | (simp only [List.length_append, List.length_map, List.length_singleton, List.length_cons, List.length_nil]; rfl) | rfl) ?_
  first
  | refine OW_bin rfl rfl rfl rfl (sub_w64 (by first | omega | assumption | (simp only [ByteArray.size_append, ByteArray.size_extract, List.length_map, List.length_append, List.length_cons, List.length_nil, List.length_drop, List.length_take]; omega))) ?_
  | refine OW_bin rfl rfl rfl rfl rfl ?_
  refine OW_env (e' := [_, _, _, _, _, _, _, _, _, _, _, _, _, _, _, _, _, _, _, _, _, _, _, _, _, _, _]) rfl ?_
  rw [show (h.length : Int) - 1 = ((h.length - 1 : Nat) : Int) by omega]
  refine OW_slO_hi hS2 (k := 2) rfl (le_lit (ν := ν) (a := [12, 0, 1]) (b := [9, 0, 1, 1]) (by decide)) rfl rfl rfl rfl rfl rfl rfl (by first | rfl | exact (Int.toNat_of_nonneg (by omega)).symm) trivial (by first | omega | (simp only [List.length_map, List.length_append, List.length_singleton, List.length_cons, List.length_nil, List.length_drop]; omega)) trivial fun O1 hS3 => ?_
  replace hS3 : Own _ _ _ (_ :: _ :: _ :: L) := hS3
  first
  | refine OW_nc rfl rfl ?_
  | refine OW_nce rfl rfl ?_
  refine OW_storeC hS3 (k := 1) rfl (le_lit (ν := ν) (a := [10, 0, 1, 1]) (b := [11, 0, 1, 1]) (by decide)) rfl rfl rfl (hS3.one (k := 2) rfl) rfl rfl (Nat.le_of_ble_eq_true rfl) (u2 := .agg [_, _]) rfl fun H3 hS4 => ?_
  replace hS4 : Own _ _ _ (_ :: _ :: _ :: L) := hS4
  refine OW_nilE (e' := [_, _, _, _, _, _, _, _, _, _, _, _, _, _, _, _, _, _, _, _, _, _, _, _, _, _, _]) rfl ?_
  refine XW_sr ?_
  refine OW_loadR hS4 (k := 0) rfl rfl rfl rfl rfl (by first | exact part_whole rfl rfl rfl | rfl) ?_
  refine OW_mi rfl rfl rfl rfl ?_
  refine OW_as rfl rfl ?_
  refine OW_nilE (e' := [_, _, _, _, _, _, _, _, _, _, _, _, _, _, _, _, _, _, _, _, _, _, _, _, _, _, _]) rfl ?_
  refine XW_ret ?_
  -- outcome 1
  refine ret_ret (res1 rfl (rv_tmp rfl)) ?_
  exact hq _ _ (Own.cast (Own.drop0 (Own.mono hS4 (le_bef (bef_app (a := [12, 0, 1, 1]) hp)))) (by rw [List.dropLast_eq_take, List.map_take]))
end Go.Proofs.Ytamdokgbenbndaa.X
