/- Layer 04: deriving by an own slice, volumes' keys, the reference's Derive, an oracle that met a key. -/
import Derived.Test.YtimdjcfkffkeiaaKY1
set_option linter.unusedVariables false
set_option linter.unusedSimpArgs false
set_option maxRecDepth 100000
namespace Go.Proofs.Ytimdjcfkffkeiaa.X
open Go Go.RowKit WM
variable {ν β ps pos' : Nm} {H : Heap} {Q : AVal → Heap → Prop} {L : List Asr} {q : Nm} {k : Nat} {S T : Rf}
theorem deriveO {v : AVal} {l : List Int} {k1 : Nat} (hS : Own β ps H L) (hL : L[k]? = some (orc q S.of)) (hv : (L.eraseIdx k)[k1]? = some (sl v 1 (l.map Int.enc))) (hle : le ps ν) (hβ : under β ν = true) (hp : before ν pos') (hl : ∀ n ∈ l, U64 n) (hn : S.rows.length + l.length ≤ 4294967000) (kk : Int)
    (hq : ∀ H1, Own β pos' H1 (L.set k (orc q (S.derive kk l).2.of)) → Q (.int .u64 (S.derive kk l).1) H1) : CW cfg ν 9 [.ptr q 0 0, .int .u64 kk, v] H Q := by
  replace hS := Own.pick2 hS hL hv
  refine CW_keep g9 F9 rfl ?_
  replace hS := Own.mono hS hle
  refine XW_sr ?_
  refine OW_as rfl rfl ?_
  refine OW_nilE (e' := [_, _, _, _, _, _, _, _, _, _, _, _, _, _, _, _, _, _, _, _, _, _]) rfl ?_
  refine XW_seq ?_
  refine XW_sr ?_
  refine OW_mv rfl rfl ?_
  refine OW_lenO hS (k := 0) rfl rfl rfl rfl rfl rfl (by first | exact List.length_map _ | exact len_app1 | exact len_drop | (simp only [List.length_append, List.length_map, List.length_singleton, List.length_cons, List.length_nil]; rfl) | rfl) ?_
  refine OW_mv rfl rfl ?_
  refine OW_nilE (e' := [_, _, _, _, _, _, _, _, _, _, _, _, _, _, _, _, _, _, _, _, _, _]) rfl ?_
  refine XW_block ?_
  refine XW_whileN (I := fun ν' mm ee H' => ∃ (i : Nat), mm = l.length - i ∧ under (1 :: 0 :: 1 :: ν) ν' = true ∧ Own β ν' H' (sl v 1 (l.map Int.enc) :: orc q (S.derive kk (l.take i)).2.of :: (L.eraseIdx k).eraseIdx k1) ∧ (i ≤ l.length) ∧ ∃ g : Nat → AVal, ee = [.ptr q 0 0, .int .u64 (S.derive kk (l.take i)).1, g 2, g 3, g 4, g 5, g 6, g 7, g 8, v, .int .i64 l.length, .int .i64 i, g 12, g 13, g 14, g 15, g 16, g 17, g 18, g 19, g 20, g 21]) ?_ _ _ _ _ ⟨0, rfl, under_me, Own.cast (Own.mono (hS) (le_app (p := ν) (b := [1, 0, 1]))) (rfl), (Nat.zero_le _), env_g rfl⟩
  rintro ν1 mm ee H1 ⟨i, rfl, hU1, hS1, hi, g1, rfl⟩
  have hr := Rf.derive_rows (l.take i) (S := S) (k := kk)
  rw [List.length_take] at hr
  refine XW_sr ?_
  refine OW_bin rfl rfl rfl rfl rfl ?_
  refine OW_nilE (e' := [_, _, _, _, _, _, _, _, _, _, _, _, _, _, _, _, _, _, _, _, _, _]) rfl ?_
  refine XW_seq ?_
  refine XW_if rfl (fun h2 => ?_) (fun h2 => ?_)
  · try simp only [decide_eq_true_eq, decide_eq_false_iff_not, Bool.not_eq_true', Bool.not_eq_false', Bool.and_eq_true, Bool.or_eq_true, Bool.not_eq_true, Bool.not_eq_false, Decidable.not_not, bne_iff_ne, beq_iff_eq, List.length_append, List.length_cons, List.length_nil, List.length_drop, List.length_take] at h2
    refine XW_skip ?_
    refine then_norm ?_
    refine XW_seq ?_
    refine XW_block ?_
    refine XW_sr ?_
    refine OW_iaO hS1 (k := 0) rfl rfl rfl rfl rfl rfl rfl rfl (by first | rfl | exact (Int.toNat_of_nonneg (by omega)).symm) (by first | assumption | exact at_map (by first | assumption | omega) | exact at_lst (by omega) | rfl) fun q1 ys1 hO1 hq1 ht1 hy1 hu1 => ?_
    subst hO1
    refine OW_loadP rfl rfl hq1 hy1 rfl (by first | exact part_whole rfl rfl rfl | rfl) ?_
    refine OW_as rfl rfl ?_
    refine OW_nilE (e' := [_, _, _, _, _, _, _, _, _, _, _, _, _, _, _, _, _, _, _, _, _, _]) rfl ?_
    refine XW_region ?_
    have hni := hl l[i] (List.getElem_mem (by omega))
    refine OW_mv rfl rfl ?_
    refine OW_mv rfl rfl ?_
    refine OW_mv rfl rfl ?_
    refine OW_env (e' := [_, _, _, _, _, _, _, _, _, _, _, _, _, _, _, _, _, _, _, _, _, _]) rfl ?_
    refine OW_fn rfl rfl (textW (by assumption) ?_) 
    refine OW_fn rfl rfl (oMac hS1 (k := 1) rfl (le_app (p := ν1) (b := [4, 1, 0, 1, 1, 0])) (under_app [4, 1, 0, 1, 1, 0] (under_trans (under_app [1, 0, 1] hβ) hU1)) (before_lit (ν := ν1) (a := [4, 1, 0, 1, 1, 0]) (b := [5, 1, 0, 1, 1, 0]) (by decide)) (by omega) _ _ fun H2 hS2 => ?_) 
    replace hS2 : Own _ _ _ (_ :: _ :: (L.eraseIdx k).eraseIdx k1) := hS2
    refine OW_as rfl rfl ?_
    refine OW_nilE (e' := [_, _, _, _, _, _, _, _, _, _, _, _, _, _, _, _, _, _, _, _, _, _]) rfl ?_
    refine block_norm ?_
    refine then_norm ?_
    refine XW_region ?_
    have hst := Rf.derive_step (S := S) (k := kk) (l := l) (i := i) (by omega)
    rw [hst]
    first
    | refine OW_bin rfl rfl rfl rfl (add_w64 (by first | omega | assumption | (simp only [ByteArray.size_append, ByteArray.size_extract, List.length_map, List.length_append, List.length_cons, List.length_nil, List.length_drop, List.length_take]; omega))) ?_
    | refine OW_bin rfl rfl rfl rfl rfl ?_
    refine OW_mv rfl rfl ?_
    refine OW_nilE (e' := [_, _, _, _, _, _, _, _, _, _, _, _, _, _, _, _, _, _, _, _, _, _]) rfl ?_
    -- round 0.1
    refine ⟨_, ?_, i + 1, rfl, under_in hU1, Own.cast (Own.mono (hS2) (le_lit (ν := ν1) (a := [5, 1, 0, 1, 1, 0]) (b := [1]) (by decide))) (by rw [Rf.derive_step (by omega)]), ?_, env_g rfl⟩
    · first | omega | (simp; omega)
    · omega
  · try simp only [decide_eq_true_eq, decide_eq_false_iff_not, Bool.not_eq_true', Bool.not_eq_false', Bool.and_eq_true, Bool.or_eq_true, Bool.not_eq_true, Bool.not_eq_false, Decidable.not_not, bne_iff_ne, beq_iff_eq, List.length_append, List.length_cons, List.length_nil, List.length_drop, List.length_take] at h2
    refine XW_exit ?_
    refine then_exit ?_
    refine block_exit ?_
    refine then_norm ?_
    refine XW_sr ?_
    refine OW_mv rfl rfl ?_
    refine OW_as rfl rfl ?_
    refine OW_nilE (e' := [_, _, _, _, _, _, _, _, _, _, _, _, _, _, _, _, _, _, _, _, _, _]) rfl ?_
    refine XW_ret ?_
    -- outcome 1
    refine ret_ret (res1 rfl (rv_tmp rfl)) ?_
    have he : l.take i = l := List.take_of_length_le (by omega)
    rw [he]
    exact hq _ (Own.unpick2 (set_get_k hL) (by rw [eraseIdx_set_self]; exact hv) (Own.cast (Own.mono hS1 (le_bef (bef_under (a := []) hU1 (bef_app (a := [1, 0, 1]) hp)))) (by rw [he, eraseIdx_set_self])))
theorem volumeW (hS : Own β ps H L) (hL : L[k]? = some (orc q S.of)) (hle : le ps ν) (hβ : under β ν = true) (hp : before ν pos') (hn : S.rows.length + 3 ≤ 4294967000) (kk a b c : Int) (ha : U64 a) (hb : U64 b) (hc : U64 c)
    (hq : ∀ H1, Own β pos' H1 (L.set k (orc q (S.derive kk [a, b, c]).2.of)) → Q (.int .u64 (S.derive kk [a, b, c]).1) H1) : CW cfg ν 18 [.ptr q 0 0, .int .u64 kk, .int .u64 a, .int .u64 b, .int .u64 c] H Q := by
  replace hS := hS.pick hL
  refine CW_keep g18 F18 rfl ?_
  replace hS := Own.mono hS hle
  refine XW_sr ?_
  refine OW_as rfl rfl ?_
  refine OW_nilE (e' := [_, _, _, _, _, _, _, _, _, _, _, _, _, _, _, _, _, _]) rfl ?_
  refine XW_sr ?_
  refine OW_mv rfl rfl ?_
  refine OW_mv rfl rfl ?_
  refine OW_mv rfl rfl ?_
  refine OW_env (e' := [_, _, _, _, _, _, _, _, _, _, _, _, _, _, _, _, _, _]) rfl ?_
  refine OW_mv rfl rfl ?_
  refine OW_mv rfl rfl ?_
  refine OW_bs rfl rfl (v := .lst [_, _, _]) rfl ?_
  refine OW_env (e' := [_, _, _, _, _, _, _, _, _, _, _, _, _, _, _, _, _, _]) rfl ?_
  refine OW_fn rfl rfl (deriveW hS (k := 0) rfl (le_app (p := ν) (b := [6, 0, 1])) (under_app [6, 0, 1] hβ) (before_lit (ν := ν) (a := [6, 0, 1]) (b := [7, 0, 1]) (by decide)) (l := [a, b, c]) Ls.of (by intro n hn; simp at hn; rcases hn with rfl | rfl | rfl <;> assumption) hn kk fun H1 hS1 => ?_) 
  replace hS1 : Own _ _ _ (_ :: L.eraseIdx k) := hS1
  refine OW_as rfl rfl ?_
  refine OW_nilE (e' := [_, _, _, _, _, _, _, _, _, _, _, _, _, _, _, _, _, _]) rfl ?_
  refine XW_ret ?_
  -- outcome 1
  refine ret_ret (res1 rfl (rv_tmp rfl)) ?_
  exact hq _ (Own.unpick (Own.mono hS1 (le_bef (bef_app (a := [7, 0, 1]) hp))) hL)
theorem Rf.derive_le : ∀ (l : List Int) {S : Rf} {k : Int} {N : Nat}, S.le N → (S.derive k l).2.le (N + l.length)
  | [], _, _, _, h => h
  | n :: l, S, k, N, h => by
    have := derive_le l (k := (S.mac k (ktx n)).1) (value_le h ⟨2, k, 0, ktx n, ⟨#[]⟩, 0⟩)
    simp only [List.length_cons]
    exact this.mono (by omega)
theorem rderiveW (hS : Own β ps H L) (hL : L[k]? = some (rorc q S)) (hle : le ps ν) (hβ : under β ν = true) (hp : before ν pos') {v : AVal} {l : List Int} (hv : Ls v (l.map Int.enc)) (hl : ∀ n ∈ l, U64 n) {N : Nat} (hN : S.le N) (hn : N + l.length ≤ 4294967000) (kk : Int)
    (hq : ∀ H1, Own β pos' H1 (L.set k (rorc q (S.derive kk l).2)) → Q (.int .u64 (S.derive kk l).1) H1) : CW cfg ν 17 [.ptr q 0 0, .int .u64 kk, v] H Q := by
  replace hS := hS.pick hL
  refine CW_keep g17 F17 rfl ?_
  replace hS := Own.mono hS hle
  refine XW_sr ?_
  refine OW_as rfl rfl ?_
  refine OW_nilE (e' := [_, _, _, _, _, _, _, _, _, _, _, _, _, _, _, _, _, _, _, _, _, _, _, _]) rfl ?_
  refine XW_seq ?_
  refine XW_sr ?_
  refine OW_as rfl rfl ?_
  refine OW_nilE (e' := [_, _, _, _, _, _, _, _, _, _, _, _, _, _, _, _, _, _, _, _, _, _, _, _]) rfl ?_
  refine XW_block ?_
  refine XW_whileN (I := fun ν' mm ee H' => ∃ (i : Nat), mm = l.length - i ∧ under (1 :: 0 :: 1 :: ν) ν' = true ∧ Own β ν' H' (rorc q (S.derive kk (l.take i)).2 :: L.eraseIdx k) ∧ (i ≤ l.length) ∧ ∃ g : Nat → AVal, ee = [.ptr q 0 0, .int .u64 (S.derive kk (l.take i)).1, v, g 3, g 4, g 5, g 6, .int .i64 i, g 8, g 9, g 10, g 11, g 12, g 13, g 14, g 15, g 16, g 17, g 18, g 19, g 20, g 21, g 22, g 23]) ?_ _ _ _ _ ⟨0, rfl, under_me, Own.cast (Own.mono (hS) (le_app (p := ν) (b := [1, 0, 1]))) (rfl), (Nat.zero_le _), env_g rfl⟩
  rintro ν1 mm ee H1 ⟨i, rfl, hU1, hS1, hi, g1, rfl⟩
  have hle0 := Rf.derive_le (l.take i) (k := kk) hN
  rw [List.length_take] at hle0
  refine XW_seq ?_
  refine XW_sr ?_
  refine OW_mv rfl rfl ?_
  refine OW_mv rfl rfl ?_
  first
  | refine OW_lenL rfl rfl (by first | assumption | exact Ls.of | exact Ls.emp | exact Ls.nls) rfl rfl rfl (by first | exact List.length_map _ | rfl) ?_
  | refine OW_bi rfl rfl rfl ?_
  refine OW_env (e' := [_, _, _, _, _, _, _, _, _, _, _, _, _, _, _, _, _, _, _, _, _, _, _, _]) rfl ?_
  refine OW_bin rfl rfl rfl rfl rfl ?_
  refine OW_nilE (e' := [_, _, _, _, _, _, _, _, _, _, _, _, _, _, _, _, _, _, _, _, _, _, _, _]) rfl ?_
  refine XW_if rfl (fun h2 => ?_) (fun h2 => ?_)
  · try simp only [decide_eq_true_eq, decide_eq_false_iff_not, Bool.not_eq_true', Bool.not_eq_false', Bool.and_eq_true, Bool.or_eq_true, Bool.not_eq_true, Bool.not_eq_false, Decidable.not_not, bne_iff_ne, beq_iff_eq, List.length_append, List.length_cons, List.length_nil, List.length_drop, List.length_take] at h2
    refine XW_skip ?_
    refine then_norm ?_
    refine XW_seq ?_
    refine XW_block ?_
    refine XW_region ?_
    have hni := hl l[i] (List.getElem_mem (by omega))
    refine OW_mv rfl rfl ?_
    refine OW_mv rfl rfl ?_
    refine OW_mv rfl rfl ?_
    refine OW_env (e' := [_, _, _, _, _, _, _, _, _, _, _, _, _, _, _, _, _, _, _, _, _, _, _, _]) rfl ?_
    refine OW_mv rfl rfl ?_
    first
    | refine OW_iaL rfl rfl rfl Ls.of rfl rfl rfl (by first | rfl | exact (Int.toNat_of_nonneg (by omega)).symm) (by first | assumption | exact at_map (by first | assumption | omega) | exact at_lst (by omega) | rfl) rfl ?_
    | refine OW_iaL rfl rfl rfl (by assumption) rfl rfl rfl (by first | rfl | exact (Int.toNat_of_nonneg (by omega)).symm) (by first | assumption | exact at_map (by first | assumption | omega) | exact at_lst (by omega) | rfl) rfl ?_
    refine OW_loadE rfl rfl rfl (by first | exact part_whole rfl rfl rfl | rfl) ?_
    refine OW_env (e' := [_, _, _, _, _, _, _, _, _, _, _, _, _, _, _, _, _, _, _, _, _, _, _, _]) rfl ?_
    refine OW_fn rfl rfl (rputUi (by assumption) ?_) 
    have he := encU_i hni
    refine OW_bin rfl rfl rfl rfl (cat (by show 3 + _ ≤ 9223372036854775807; omega)) ?_
    refine OW_fn rfl rfl (rMac hS1 (k := 0) rfl (le_app (p := ν1) (b := [8, 0, 1, 0])) (under_app [8, 0, 1, 0] (under_trans (under_app [1, 0, 1] hβ) hU1)) (before_lit (ν := ν1) (a := [8, 0, 1, 0]) (b := [9, 0, 1, 0]) (by decide)) (hle0.mono (by omega)) _ _ fun H2 hS2 => ?_) 
    replace hS2 : Own _ _ _ (_ :: L.eraseIdx k) := hS2
    refine OW_env (e' := [_, _, _, _, _, _, _, _, _, _, _, _, _, _, _, _, _, _, _, _, _, _, _, _]) rfl ?_
    refine OW_as rfl rfl ?_
    refine OW_nilE (e' := [_, _, _, _, _, _, _, _, _, _, _, _, _, _, _, _, _, _, _, _, _, _, _, _]) rfl ?_
    refine block_norm ?_
    refine then_norm ?_
    refine XW_region ?_
    have hst := Rf.derive_step (S := S) (k := kk) (l := l) (i := i) (by omega)
    rw [show (⟨#[107, 101, 121]⟩ : ByteArray) ++ ba (encU (l[i]).toNat) = ktx l[i] from rfl, hst]
    refine OW_mv rfl rfl ?_
    first
    | refine OW_bin rfl rfl rfl rfl (add_w64 (by first | omega | assumption | (simp only [ByteArray.size_append, ByteArray.size_extract, List.length_map, List.length_append, List.length_cons, List.length_nil, List.length_drop, List.length_take]; omega))) ?_
    | refine OW_bin rfl rfl rfl rfl rfl ?_
    refine OW_as rfl rfl ?_
    refine OW_nilE (e' := [_, _, _, _, _, _, _, _, _, _, _, _, _, _, _, _, _, _, _, _, _, _, _, _]) rfl ?_
    -- round 0.1
    refine ⟨_, ?_, i + 1, rfl, under_in hU1, Own.cast (Own.mono (hS2) (le_lit (ν := ν1) (a := [9, 0, 1, 0]) (b := [1]) (by decide))) (by rw [← Rf.derive_step (by omega)]; rfl), ?_, env_g rfl⟩
    · first | omega | (simp; omega)
    · omega
  · try simp only [decide_eq_true_eq, decide_eq_false_iff_not, Bool.not_eq_true', Bool.not_eq_false', Bool.and_eq_true, Bool.or_eq_true, Bool.not_eq_true, Bool.not_eq_false, Decidable.not_not, bne_iff_ne, beq_iff_eq, List.length_append, List.length_cons, List.length_nil, List.length_drop, List.length_take] at h2
    refine XW_exit ?_
    refine then_exit ?_
    refine block_exit ?_
    refine then_norm ?_
    refine XW_sr ?_
    refine OW_mv rfl rfl ?_
    refine OW_as rfl rfl ?_
    refine OW_nilE (e' := [_, _, _, _, _, _, _, _, _, _, _, _, _, _, _, _, _, _, _, _, _, _, _, _]) rfl ?_
    refine XW_ret ?_
    -- outcome 1
    refine ret_ret (res1 rfl (rv_tmp rfl)) ?_
    have he : l.take i = l := List.take_of_length_le (by omega)
    rw [he]
    exact hq _ (Own.unpick (Own.re (Own.mono hS1 (le_bef (bef_under (a := []) hU1 (bef_app (a := [1, 0, 1]) hp)))) (by rw [he])) hL)
namespace Rf
/-- An oracle that met a key, behind at most 200 calls. -/
def pk (d : List Int) (l : List Ca) (key : Int) : Rf := ((Rf.new d).meet key).run (l.take 200)
theorem pk_le (d : List Int) (l : List Ca) (key : Int) : (Rf.pk d l key).le 201 := by
  have := Rf.run_le (l.take 200) (Rf.meet_le (Rf.new_le d) key)
  refine this.mono ?_
  rw [List.length_take]; omega
theorem pk_inv (d : List Int) (l : List Ca) (key : Int) : (Rf.pk d l key).Inv := Rf.run_inv _ (meet_inv (Rf.new_inv d) key)
theorem pk_met (d : List Int) (l : List Ca) (key : Int) : key ∈ (Rf.pk d l key).met := run_met _ (by simp [meet, Rf.new, issued])
theorem step' {l : List Ca} {i : Nat} (h : i < l.length) : ((S.run (l.take i)).act l[i]).2.2.2 = S.run (l.take (i + 1)) := by
  rw [← List.take_append_getElem h, Rf.run_snoc]
theorem kstop {d : List Int} {l : List Ca} {i : Nat} {key : Int} (hi : i ≤ 200) (h : l.length ≤ i ∨ 200 ≤ i) : ((Rf.new d).meet key).run (l.take i) = Rf.pk d l key := by
  unfold Rf.pk
  rcases h with h | h
  · rw [List.take_of_length_le h, List.take_of_length_le (by omega)]
  · obtain rfl : i = 200 := by omega
    rfl
theorem krows {d : List Int} {l : List Ca} {i : Nat} {key : Int} (h : i ≤ 200) : (((Rf.new d).meet key).run (l.take i)).le 201 := by
  have := Rf.run_le (l.take i) (Rf.meet_le (Rf.new_le d) key)
  refine this.mono ?_
  rw [List.length_take]; omega
end Rf
theorem playedW (hS : Own β ps H L) (hle : le ps ν) (hβ : under β ν = true) (hp : before ν pos') {v w : AVal} {d : List Int} {l : List Ca} {key : Int} (hv : Ls v (d.map Int.enc)) (hw : Ls w (l.map Ca.enc)) (hd : d.length ≤ 4294967000) (hl : l.length ≤ 1048576)
    (hq : ∀ q H1, Own β pos' H1 (orc q (Rf.pk d l key).of :: L) → Q (.ptr q 0 0) H1) : CW cfg ν 8 [v, w, .int .u64 key] H Q := by
  refine CW_keep g8 F8 rfl ?_
  replace hS := Own.mono hS hle
  refine XW_sr ?_
  refine OW_as rfl rfl ?_
  refine OW_nilE (e' := [_, _, _, _, _, _, _, _, _, _, _, _, _, _, _, _, _, _, _, _, _, _, _, _, _, _, _, _, _, _, _]) rfl ?_
  refine XW_sr ?_
  refine OW_mv rfl rfl ?_
  refine OW_fn rfl rfl (oNew hS (le_app (p := ν) (b := [1, 0, 1])) (under_app [1, 0, 1] hβ) (before_lit (ν := ν) (a := [1, 0, 1]) (b := [2, 0, 1]) (by decide)) (by assumption) (by omega) fun q1 H1 hS1 => ?_) 
  replace hS1 : Own _ _ _ (_ :: L) := hS1
  refine OW_as rfl rfl ?_
  refine OW_nilE (e' := [_, _, _, _, _, _, _, _, _, _, _, _, _, _, _, _, _, _, _, _, _, _, _, _, _, _, _, _, _, _, _]) rfl ?_
  refine XW_sr ?_
  refine OW_mv rfl rfl ?_
  refine OW_mv rfl rfl ?_
  refine OW_fn rfl rfl (oMeet hS1 (k := 0) rfl (le_lit (ν := ν) (a := [2, 0, 1]) (b := [2, 0, 1, 1]) (by decide)) (under_app [2, 0, 1, 1] hβ) (before_lit (ν := ν) (a := [2, 0, 1, 1]) (b := [3, 0, 1, 1]) (by decide)) _ fun H2 hS2 => ?_) 
  replace hS2 : Own _ _ _ (_ :: L) := hS2
  refine OW_nilE (e' := [_, _, _, _, _, _, _, _, _, _, _, _, _, _, _, _, _, _, _, _, _, _, _, _, _, _, _, _, _, _, _]) rfl ?_
  refine XW_seq ?_
  refine XW_sr ?_
  refine OW_as rfl rfl ?_
  refine OW_nilE (e' := [_, _, _, _, _, _, _, _, _, _, _, _, _, _, _, _, _, _, _, _, _, _, _, _, _, _, _, _, _, _, _]) rfl ?_
  refine XW_block ?_
  refine XW_whileN (I := fun ν' mm ee H' => ∃ (i : Nat), mm = l.length - i ∧ under (1 :: 0 :: 1 :: 1 :: 1 :: ν) ν' = true ∧ Own β ν' H' (orc q1 (((Rf.new d).meet key).run (l.take i)).of :: L) ∧ (i ≤ l.length ∧ i ≤ 200) ∧ ∃ g : Nat → AVal, ee = [g 0, w, g 2, g 3, g 4, g 5, g 6, .ptr q1 0 0, .int .i64 i, g 9, g 10, g 11, g 12, g 13, g 14, g 15, g 16, g 17, g 18, g 19, g 20, g 21, g 22, g 23, g 24, g 25, g 26, g 27, g 28, g 29, g 30]) ?_ _ _ _ _ ⟨0, rfl, under_me, Own.cast (Own.mono (hS2) (le_lit (ν := ν) (a := [3, 0, 1, 1]) (b := [1, 0, 1, 1, 1]) (by decide))) (rfl), (⟨Nat.zero_le _, by omega⟩), env_g rfl⟩
  rintro ν1 mm ee H3 ⟨i, rfl, hU1, hS3, ⟨hi, hi2⟩, g1, rfl⟩
  refine XW_seq ?_
  refine XW_sr ?_
  refine OW_mv rfl rfl ?_
  refine OW_mv rfl rfl ?_
  first
  | refine OW_lenL rfl rfl (by first | assumption | exact Ls.of | exact Ls.emp | exact Ls.nls) rfl rfl rfl (by first | exact List.length_map _ | rfl) ?_
  | refine OW_bi rfl rfl rfl ?_
  refine OW_env (e' := [_, _, _, _, _, _, _, _, _, _, _, _, _, _, _, _, _, _, _, _, _, _, _, _, _, _, _, _, _, _, _]) rfl ?_
  refine OW_bin rfl rfl rfl rfl rfl ?_
  refine OW_mv rfl rfl ?_
  refine OW_split (tt := 18) rfl (fun g4_5 => ?_) (fun g4_5 => ?_)
  · try simp only [decide_eq_true_eq, decide_eq_false_iff_not, Bool.not_eq_true', Bool.not_eq_false', Bool.and_eq_true, Bool.or_eq_true, Bool.not_eq_true, Bool.not_eq_false, Decidable.not_not, bne_iff_ne, beq_iff_eq, List.length_append, List.length_cons, List.length_nil, List.length_drop, List.length_take] at g4_5
    refine OW_env (e' := [_, _, _, _, _, _, _, _, _, _, _, _, _, _, _, _, _, _, _, _, _, _, _, _, _, _, _, _, _, _, _]) rfl ?_
    refine OW_mv rfl rfl ?_
    refine OW_bin rfl rfl rfl rfl rfl ?_
    refine OW_pick rfl rfl rfl ?_
    refine OW_nilE (e' := [_, _, _, _, _, _, _, _, _, _, _, _, _, _, _, _, _, _, _, _, _, _, _, _, _, _, _, _, _, _, _]) rfl ?_
    refine XW_if rfl (fun h4 => ?_) (fun h4 => ?_)
    · try simp only [decide_eq_true_eq, decide_eq_false_iff_not, Bool.not_eq_true', Bool.not_eq_false', Bool.and_eq_true, Bool.or_eq_true, Bool.not_eq_true, Bool.not_eq_false, Decidable.not_not, bne_iff_ne, beq_iff_eq, List.length_append, List.length_cons, List.length_nil, List.length_drop, List.length_take] at h4
      refine XW_skip ?_
      refine then_norm ?_
      refine XW_seq ?_
      refine XW_block ?_
      refine XW_region ?_
      refine OW_mv rfl rfl ?_
      refine OW_mv rfl rfl ?_
      refine OW_mv rfl rfl ?_
      refine OW_env (e' := [_, _, _, _, _, _, _, _, _, _, _, _, _, _, _, _, _, _, _, _, _, _, _, _, _, _, _, _, _, _, _]) rfl ?_
      first
      | refine OW_iaL rfl rfl rfl Ls.of rfl rfl rfl (by first | rfl | exact (Int.toNat_of_nonneg (by omega)).symm) (by first | assumption | exact at_map (by first | assumption | omega) | exact at_lst (by omega) | rfl) rfl ?_
      | refine OW_iaL rfl rfl rfl (by assumption) rfl rfl rfl (by first | rfl | exact (Int.toNat_of_nonneg (by omega)).symm) (by first | assumption | exact at_map (by first | assumption | omega) | exact at_lst (by omega) | rfl) rfl ?_
      refine OW_loadE rfl rfl rfl (by first | exact part_whole rfl rfl rfl | rfl) ?_
      refine OW_fn rfl rfl (oDo hS3 (k := 0) rfl (le_app (p := ν1) (b := [5, 0, 1, 0])) (under_app [5, 0, 1, 0] (under_trans (under_app [1, 0, 1, 1, 1] hβ) hU1)) (before_lit (ν := ν1) (a := [5, 0, 1, 0]) (b := [6, 0, 1, 0]) (by decide)) (by have := (Rf.krows (d := d) (l := l) (key := key) hi2).rows; omega) _ fun H4 hS4 => ?_) 
      replace hS4 : Own _ _ _ (_ :: L) := hS4
      refine OW_nilE (e' := [_, _, _, _, _, _, _, _, _, _, _, _, _, _, _, _, _, _, _, _, _, _, _, _, _, _, _, _, _, _, _]) rfl ?_
      refine block_norm ?_
      refine then_norm ?_
      refine XW_region ?_
      refine OW_mv rfl rfl ?_
      first
      | refine OW_bin rfl rfl rfl rfl (add_w64 (by first | omega | assumption | (simp only [ByteArray.size_append, ByteArray.size_extract, List.length_map, List.length_append, List.length_cons, List.length_nil, List.length_drop, List.length_take]; omega))) ?_
      | refine OW_bin rfl rfl rfl rfl rfl ?_
      refine OW_as rfl rfl ?_
      refine OW_nilE (e' := [_, _, _, _, _, _, _, _, _, _, _, _, _, _, _, _, _, _, _, _, _, _, _, _, _, _, _, _, _, _, _]) rfl ?_
      -- round 0.1
      refine ⟨_, ?_, i + 1, rfl, under_in hU1, Own.cast (Own.mono (hS4) (le_lit (ν := ν1) (a := [6, 0, 1, 0]) (b := [1]) (by decide))) (by rw [Rf.step' (by omega)]), ?_, env_g rfl⟩
      · first | omega | (simp; omega)
      · exact ⟨by omega, by omega⟩
    · try simp only [decide_eq_true_eq, decide_eq_false_iff_not, Bool.not_eq_true', Bool.not_eq_false', Bool.and_eq_true, Bool.or_eq_true, Bool.not_eq_true, Bool.not_eq_false, Decidable.not_not, bne_iff_ne, beq_iff_eq, List.length_append, List.length_cons, List.length_nil, List.length_drop, List.length_take] at h4
      refine XW_exit ?_
      refine then_exit ?_
      refine block_exit ?_
      refine then_norm ?_
      refine XW_sr ?_
      refine OW_mv rfl rfl ?_
      refine OW_as rfl rfl ?_
      refine OW_nilE (e' := [_, _, _, _, _, _, _, _, _, _, _, _, _, _, _, _, _, _, _, _, _, _, _, _, _, _, _, _, _, _, _]) rfl ?_
      refine XW_ret ?_
      -- outcome 1
      refine ret_ret (res1 rfl (rv_tmp rfl)) ?_
      refine hq q1 _ (Own.re (Own.mono hS3 (le_bef (bef_under (a := []) hU1 (bef_app (a := [1, 0, 1, 1, 1]) hp)))) (by rw [Rf.kstop hi2 (by omega)]))
  · try simp only [decide_eq_true_eq, decide_eq_false_iff_not, Bool.not_eq_true', Bool.not_eq_false', Bool.and_eq_true, Bool.or_eq_true, Bool.not_eq_true, Bool.not_eq_false, Decidable.not_not, bne_iff_ne, beq_iff_eq, List.length_append, List.length_cons, List.length_nil, List.length_drop, List.length_take] at g4_5
    refine OW_env (e' := [_, _, _, _, _, _, _, _, _, _, _, _, _, _, _, _, _, _, _, _, _, _, _, _, _, _, _, _, _, _, _]) rfl ?_
    refine OW_no rfl ?_
    refine OW_no rfl ?_
    refine OW_pick rfl rfl rfl ?_
    refine OW_nilE (e' := [_, _, _, _, _, _, _, _, _, _, _, _, _, _, _, _, _, _, _, _, _, _, _, _, _, _, _, _, _, _, _]) rfl ?_
    refine XW_no rfl rfl ?_
    refine XW_exit ?_
    refine then_exit ?_
    refine block_exit ?_
    refine then_norm ?_
    refine XW_sr ?_
    refine OW_mv rfl rfl ?_
    refine OW_as rfl rfl ?_
    refine OW_nilE (e' := [_, _, _, _, _, _, _, _, _, _, _, _, _, _, _, _, _, _, _, _, _, _, _, _, _, _, _, _, _, _, _]) rfl ?_
    refine XW_ret ?_
    -- outcome 2
    refine ret_ret (res1 rfl (rv_tmp rfl)) ?_
    refine hq q1 _ (Own.re (Own.mono hS3 (le_bef (bef_under (a := []) hU1 (bef_app (a := [1, 0, 1, 1, 1]) hp)))) (by rw [Rf.kstop hi2 (by omega)]))
end Go.Proofs.Ytimdjcfkffkeiaa.X
