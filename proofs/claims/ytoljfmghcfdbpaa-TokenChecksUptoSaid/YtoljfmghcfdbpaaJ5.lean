/- What the reference's oracle does. -/
import Derived.Test.YtoljfmghcfdbpaaJ4
set_option linter.unusedVariables false
set_option linter.unusedSimpArgs false
set_option maxRecDepth 100000
namespace Go.Proofs.Ytoljfmghcfdbpaa.X
open Go Go.RowKit
variable {ν β ps pos' : Nm} {H : Heap} {Q : AVal → Heap → Prop} {L : List Asr} {q : Nm} {k : Nat}
structure Rw where
  t : Int
  k : Int
  n : Int
  a : ByteArray
  b : ByteArray
  h : Int
def Rw.enc (x : Rw) : AVal := .agg [.int .i64 x.t, .int .u64 x.k, .int .u64 x.n, .str x.a, .str x.b, .int .u64 x.h]
structure Rf where
  draws : List Int
  rows : List Rw
  met : List Int
  bads : Nat
/-- Is y the row of what x asks for? -/
def Rw.same (x y : Rw) : Bool := decide (x.t ≠ 0) && decide (y.t = x.t) && decide (y.k = x.k) && decide (y.n = x.n) && decide (y.a = x.a) && decide (y.b = x.b)
namespace Rf
structure le (S : Rf) (N : Nat) : Prop where
  rows : S.rows.length ≤ N
  met : S.met.length ≤ N
  bads : S.bads ≤ N
def issued (S : Rf) (h : Int) : Bool := S.rows.any fun x => decide (x.h = h)
def shown (S : Rf) (h : Int) : Bool := S.met.any fun x => decide (x = h)
def next (S : Rf) : Int := match S.draws[S.rows.length]? with
  | some h => h
  | none => 9223372036854775808 + (S.rows.length : Int)
def isBad (S : Rf) (h : Int) : Bool := decide (h = 0) || S.issued h || S.shown h
def draw (S : Rf) (x : Rw) : Rf := ⟨S.draws, S.rows ++ [⟨x.t, x.k, x.n, x.a, x.b, S.next⟩], S.met, S.bads + if S.isBad S.next then 1 else 0⟩
def at_ (S : Rf) (x : Rw) : Int := firstI (fun y => x.same y) S.rows 0
def value (S : Rf) (x : Rw) : Int × Rf := match S.rows.find? (fun y => x.same y) with
  | some y => (y.h, S)
  | none => (S.next, S.draw x)
def meet (S : Rf) (h : Int) : Rf := if S.issued h then S else ⟨S.draws, S.rows, S.met ++ [h], S.bads⟩
def verify (S : Rf) (k : Int) (a : ByteArray) (t : Int) : Bool × Rf := match S.rows.find? (fun y => (Rw.mk 2 k 0 a ⟨#[]⟩ 0).same y) with
  | some y => if y.h = t then (true, S) else (false, S.meet t)
  | none => (false, S.meet t)
def isOpen (k n : Int) (a : ByteArray) (c : Int) (y : Rw) : Bool := decide (y.t = 3) && decide (y.k = k) && decide (y.n = n) && decide (y.a = a) && decide (y.h = c)
def opens (S : Rf) (k n : Int) (a : ByteArray) (c : Int) : (ByteArray × Bool) × Rf := match S.rows.find? (isOpen k n a c) with
  | some y => ((y.b, true), S)
  | none => ((⟨#[]⟩, false), S.meet c)
def fresh (S : Rf) : Rf := S.draw ⟨0, 0, 0, ⟨#[]⟩, ⟨#[]⟩, 0⟩
def hash (S : Rf) (a : ByteArray) := S.value ⟨1, 0, 0, a, ⟨#[]⟩, 0⟩
def mac (S : Rf) (k : Int) (a : ByteArray) := S.value ⟨2, k, 0, a, ⟨#[]⟩, 0⟩
def sealv (S : Rf) (k n : Int) (a b : ByteArray) := S.value ⟨3, k, n, a, b, 0⟩
end Rf
theorem find_first {α : Type} (p : α → Bool) : ∀ (l : List α) (k : Int), 0 ≤ k → (l.find? p = none ∧ firstI p l k = -1) ∨ ∃ (i : Nat) (h : i < l.length), l.find? p = some l[i] ∧ firstI p l k = k + i
  | [], k, _ => .inl ⟨rfl, rfl⟩
  | x :: r, k, hk => by
    by_cases h : p x = true
    · exact .inr ⟨0, by simp, by simp [h], by simp [firstI, h]⟩
    · rcases find_first p r (k + 1) (by omega) with ⟨h1, h2⟩ | ⟨i, h0, h1, h2⟩
      · exact .inl ⟨by simp [h, h1], by simp [firstI, h, h2]⟩
      · exact .inr ⟨i + 1, by simpa using h0, by simp [h, h1], by simp only [firstI, h, if_false, Bool.false_eq_true]; rw [h2]; push_cast; omega⟩
/-- The reference's oracle in the heap. -/
def rorc (q : Nm) (S : Rf) : Asr := Asr.ex fun v : AVal × AVal × AVal => Asr.all [row q 4 [.agg [v.1, v.2.1, v.2.2, .int .i64 S.bads]], sl v.1 1 (S.draws.map eU), sl v.2.1 6 (S.rows.map Rw.enc), sl v.2.2 1 (S.met.map eU)]
variable {S : Rf}
theorem Own.un_rorc (h : Own β ps H (rorc q S :: L)) : ∃ D R M, Own β ps H (row q 4 [.agg [D, R, M, .int .i64 S.bads]] :: sl D 1 (S.draws.map eU) :: sl R 6 (S.rows.map Rw.enc) :: sl M 1 (S.met.map eU) :: L) := by
  obtain ⟨⟨D, R, M⟩, h⟩ := h.un_ex
  exact ⟨D, R, M, h.un_all⟩
theorem Own.mk_rorc {D R M : AVal} {n : Int} {m : Nat} {d mt : List Int} {rs : List Rw} {xs ys : List AVal} (h : Own β ps H (row q 4 [.agg [D, R, M, .int .i64 n]] :: sl D 1 (d.map eU) :: sl R 6 xs :: sl M 1 ys :: L)) (hm : n = (m : Int)) (hx : xs = rs.map Rw.enc := by first | rfl | assumption) (hy : ys = mt.map eU := by first | rfl | assumption) :
    Own β ps H (rorc q ⟨d, rs, mt, m⟩ :: L) := by
  subst hm; subst hx; subst hy
  exact Own.mk_ex (D, R, M) h.mk_all
/-- Two things ahead, and back. -/
theorem Own.pick2 {a b : Asr} {k0 k1 : Nat} (hS : Own β ps H L) (h0 : L[k0]? = some a) (h1 : (L.eraseIdx k0)[k1]? = some b) : Own β ps H (b :: a :: (L.eraseIdx k0).eraseIdx k1) :=
  (hS.pick h0).pick (k := k1 + 1) (L := a :: L.eraseIdx k0) (by simpa using h1)
theorem Own.unpick2 {a b : Asr} {k0 k1 : Nat} (h0 : L[k0]? = some a) (h1 : (L.eraseIdx k0)[k1]? = some b) (hS : Own β ps H (b :: a :: (L.eraseIdx k0).eraseIdx k1)) : Own β ps H L := by
  have h2 : Own β ps H ((a :: L.eraseIdx k0).set (k1 + 1) b) := Own.unpick (L := a :: L.eraseIdx k0) (k := k1 + 1) (a := b) hS (by simpa using h1)
  rw [List.set_cons_succ, set_get_self h1] at h2
  exact (Own.unpick h2 h0).cast (set_get_self h0)
section
variable {D R M B : AVal} {k0 k1 : Nat}
theorem rIssued (hS : Own β ps H L) (h0 : L[k0]? = some (row q 4 [.agg [D, R, M, B]])) (h1 : (L.eraseIdx k0)[k1]? = some (sl R 6 (S.rows.map Rw.enc))) (hle : le ps ν) (hβ : under β ν = true) (hp : before ν pos') (hn : S.le 4294967000) (h : Int) (hq : ∀ H1, Own β pos' H1 L → Q (.bool (S.issued h)) H1) : CW cfg ν 43 [.ptr q 0 0, .int .u64 h] H Q := by
  have hnr := hn.rows
  have hnm := hn.met
  replace hS := hS.pick2 h0 h1
  refine CW_keep g43 F43 rfl ?_
  replace hS := Own.mono hS hle
  refine XW_sr ?_
  refine OW_as rfl rfl ?_
  refine OW_nilE (e' := [_, _, _, _, _, _, _, _, _, _, _, _, _, _, _, _, _, _, _, _, _, _, _, _, _]) rfl ?_
  refine XW_seq ?_
  refine XW_sr ?_
  refine OW_as rfl rfl ?_
  refine OW_nilE (e' := [_, _, _, _, _, _, _, _, _, _, _, _, _, _, _, _, _, _, _, _, _, _, _, _, _]) rfl ?_
  refine XW_block ?_
  refine XW_whileN (I := fun ν' mm ee H' => ∃ (i : Nat), mm = S.rows.length - i ∧ under (1 :: 0 :: 1 :: ν) ν' = true ∧ Own β ν' H' (sl R 6 (S.rows.map Rw.enc) :: row q 4 [.agg [D, R, M, B]] :: (L.eraseIdx k0).eraseIdx k1) ∧ (i ≤ S.rows.length ∧ (S.rows.drop i).any (fun x => decide (x.h = h)) = S.issued h) ∧ ∃ g : Nat → AVal, ee = [.ptr q 0 0, .int .u64 h, g 2, g 3, g 4, .int .i64 i, g 6, g 7, g 8, g 9, g 10, g 11, g 12, g 13, g 14, g 15, g 16, g 17, g 18, g 19, g 20, g 21, g 22, g 23, g 24]) ?_ _ _ _ _ ⟨0, rfl, under_me, Own.cast (Own.mono (hS) (le_app (p := ν) (b := [1, 0, 1]))) (rfl), (⟨Nat.zero_le _, rfl⟩), env_g rfl⟩
  rintro ν1 mm ee H1 ⟨i, rfl, hU1, hS1, ⟨hi, hI⟩, g1, rfl⟩
  refine XW_seq ?_
  refine XW_sr ?_
  refine OW_mv rfl rfl ?_
  refine OW_mv rfl rfl ?_
  first
  | refine OW_nc rfl rfl ?_
  | refine OW_nce rfl rfl ?_
  refine OW_env (e' := [_, _, _, _, _, _, _, _, _, _, _, _, _, _, _, _, _, _, _, _, _, _, _, _, _]) rfl ?_
  refine OW_fa rfl rfl rfl ?_
  refine OW_loadR hS1 (k := 1) rfl rfl rfl rfl rfl (by first | exact part_whole rfl rfl rfl | rfl) ?_
  refine OW_lenO hS1 (k := 0) rfl rfl rfl rfl rfl rfl (by first | exact List.length_map _ | exact len_app1 | exact len_drop | (simp only [List.length_append, List.length_map, List.length_singleton, List.length_cons, List.length_nil]; rfl) | rfl) ?_
  refine OW_env (e' := [_, _, _, _, _, _, _, _, _, _, _, _, _, _, _, _, _, _, _, _, _, _, _, _, _]) rfl ?_
  refine OW_bin rfl rfl rfl rfl rfl ?_
  refine OW_nilE (e' := [_, _, _, _, _, _, _, _, _, _, _, _, _, _, _, _, _, _, _, _, _, _, _, _, _]) rfl ?_
  refine XW_if rfl (fun h2 => ?_) (fun h2 => ?_)
  · try simp only [decide_eq_true_eq, decide_eq_false_iff_not, Bool.not_eq_true', Bool.not_eq_false', Bool.and_eq_true, Bool.or_eq_true, Bool.not_eq_true, Bool.not_eq_false, Decidable.not_not, bne_iff_ne, beq_iff_eq, List.length_append, List.length_cons, List.length_nil, List.length_drop, List.length_take] at h2
    refine XW_skip ?_
    refine then_norm ?_
    refine XW_seq ?_
    refine XW_block ?_
    refine XW_sr ?_
    refine OW_mv rfl rfl ?_
    first
    | refine OW_nc rfl rfl ?_
    | refine OW_nce rfl rfl ?_
    refine OW_fa rfl rfl rfl ?_
    refine OW_env (e' := [_, _, _, _, _, _, _, _, _, _, _, _, _, _, _, _, _, _, _, _, _, _, _, _, _]) rfl ?_
    refine OW_loadR hS1 (k := 1) rfl rfl rfl rfl rfl (by first | exact part_whole rfl rfl rfl | rfl) ?_
    refine OW_mv rfl rfl ?_
    refine OW_iaO hS1 (k := 0) rfl rfl rfl rfl rfl rfl rfl rfl (by first | rfl | exact (Int.toNat_of_nonneg (by omega)).symm) (by first | assumption | exact at_map (by first | assumption | omega) | exact at_lst (by omega) | rfl) fun q1 ys1 hO1 hq1 ht1 hy1 hu1 => ?_
    subst hO1
    refine OW_env (e' := [_, _, _, _, _, _, _, _, _, _, _, _, _, _, _, _, _, _, _, _, _, _, _, _, _]) rfl ?_
    refine OW_fa rfl rfl rfl ?_
    refine OW_loadP rfl rfl hq1 hy1 rfl (by first | exact part_whole rfl rfl rfl | rfl) ?_
    refine OW_mv rfl rfl ?_
    refine OW_env (e' := [_, _, _, _, _, _, _, _, _, _, _, _, _, _, _, _, _, _, _, _, _, _, _, _, _]) rfl ?_
    refine OW_bin rfl rfl rfl rfl rfl ?_
    refine OW_nilE (e' := [_, _, _, _, _, _, _, _, _, _, _, _, _, _, _, _, _, _, _, _, _, _, _, _, _]) rfl ?_
    refine XW_if rfl (fun h4 => ?_) (fun h4 => ?_)
    · try simp only [decide_eq_true_eq, decide_eq_false_iff_not, Bool.not_eq_true', Bool.not_eq_false', Bool.and_eq_true, Bool.or_eq_true, Bool.not_eq_true, Bool.not_eq_false, Decidable.not_not, bne_iff_ne, beq_iff_eq, List.length_append, List.length_cons, List.length_nil, List.length_drop, List.length_take] at h4
      refine XW_sr ?_
      refine OW_as rfl rfl ?_
      refine OW_nilE (e' := [_, _, _, _, _, _, _, _, _, _, _, _, _, _, _, _, _, _, _, _, _, _, _, _, _]) rfl ?_
      refine XW_ret ?_
      refine block_ret ?_
      refine then_ret ?_
      refine block_ret ?_
      refine then_ret ?_
      -- outcome 1
      refine ret_ret (res1 rfl (rv_tmp rfl)) ?_
      have e : S.issued h = true := by { rw [← hI, List.drop_eq_getElem_cons (by omega : i < S.rows.length), List.any_cons]; simp_all }; rw [e] at hq; exact hq _ (Own.unpick2 h0 h1 (Own.mono hS1 (le_bef (bef_under (a := []) hU1 (bef_app (a := [1, 0, 1]) hp)))))
    · try simp only [decide_eq_true_eq, decide_eq_false_iff_not, Bool.not_eq_true', Bool.not_eq_false', Bool.and_eq_true, Bool.or_eq_true, Bool.not_eq_true, Bool.not_eq_false, Decidable.not_not, bne_iff_ne, beq_iff_eq, List.length_append, List.length_cons, List.length_nil, List.length_drop, List.length_take] at h4
      refine XW_skip ?_
      refine block_norm ?_
      refine then_norm ?_
      refine XW_region ?_
      refine OW_mv rfl rfl ?_
      first
      | refine OW_bin rfl rfl rfl rfl (add_w64 (by first | omega | assumption | (simp only [ByteArray.size_append, ByteArray.size_extract, List.length_map, List.length_append, List.length_cons, List.length_nil, List.length_drop, List.length_take]; omega))) ?_
      | refine OW_bin rfl rfl rfl rfl rfl ?_
      refine OW_as rfl rfl ?_
      refine OW_nilE (e' := [_, _, _, _, _, _, _, _, _, _, _, _, _, _, _, _, _, _, _, _, _, _, _, _, _]) rfl ?_
      -- round 0.1
      refine ⟨_, ?_, i + 1, rfl, under_in hU1, Own.cast (Own.mono (hS1) (le_app (p := ν1) (b := [1]))) (rfl), ?_, env_g rfl⟩
      · first | omega | (simp; omega)
      · exact ⟨by omega, by rw [← hI, List.drop_eq_getElem_cons (by omega : i < S.rows.length), List.any_cons]; simp_all⟩
  · try simp only [decide_eq_true_eq, decide_eq_false_iff_not, Bool.not_eq_true', Bool.not_eq_false', Bool.and_eq_true, Bool.or_eq_true, Bool.not_eq_true, Bool.not_eq_false, Decidable.not_not, bne_iff_ne, beq_iff_eq, List.length_append, List.length_cons, List.length_nil, List.length_drop, List.length_take] at h2
    refine XW_exit ?_
    refine then_exit ?_
    refine block_exit ?_
    refine then_norm ?_
    refine XW_sr ?_
    refine OW_as rfl rfl ?_
    refine OW_nilE (e' := [_, _, _, _, _, _, _, _, _, _, _, _, _, _, _, _, _, _, _, _, _, _, _, _, _]) rfl ?_
    refine XW_ret ?_
    -- outcome 2
    refine ret_ret (res1 rfl (rv_tmp rfl)) ?_
    have e : S.issued h = false := by { rw [← hI, List.drop_eq_nil_of_le (by omega)]; rfl }; rw [e] at hq; exact hq _ (Own.unpick2 h0 h1 (Own.mono hS1 (le_bef (bef_under (a := []) hU1 (bef_app (a := [1, 0, 1]) hp)))))
theorem rShown (hS : Own β ps H L) (h0 : L[k0]? = some (row q 4 [.agg [D, R, M, B]])) (h1 : (L.eraseIdx k0)[k1]? = some (sl M 1 (S.met.map eU))) (hle : le ps ν) (hβ : under β ν = true) (hp : before ν pos') (hn : S.le 4294967000) (h : Int) (hq : ∀ H1, Own β pos' H1 L → Q (.bool (S.shown h)) H1) : CW cfg ν 44 [.ptr q 0 0, .int .u64 h] H Q := by
  have hnr := hn.rows
  have hnm := hn.met
  replace hS := hS.pick2 h0 h1
  refine CW_keep g44 F44 rfl ?_
  replace hS := Own.mono hS hle
  refine XW_sr ?_
  refine OW_as rfl rfl ?_
  refine OW_nilE (e' := [_, _, _, _, _, _, _, _, _, _, _, _, _, _, _, _, _, _, _, _, _, _, _, _]) rfl ?_
  refine XW_seq ?_
  refine XW_sr ?_
  refine OW_as rfl rfl ?_
  refine OW_nilE (e' := [_, _, _, _, _, _, _, _, _, _, _, _, _, _, _, _, _, _, _, _, _, _, _, _]) rfl ?_
  refine XW_block ?_
  refine XW_whileN (I := fun ν' mm ee H' => ∃ (i : Nat), mm = S.met.length - i ∧ under (1 :: 0 :: 1 :: ν) ν' = true ∧ Own β ν' H' (sl M 1 (S.met.map eU) :: row q 4 [.agg [D, R, M, B]] :: (L.eraseIdx k0).eraseIdx k1) ∧ (i ≤ S.met.length ∧ (S.met.drop i).any (fun x => decide (x = h)) = S.shown h) ∧ ∃ g : Nat → AVal, ee = [.ptr q 0 0, .int .u64 h, g 2, g 3, g 4, .int .i64 i, g 6, g 7, g 8, g 9, g 10, g 11, g 12, g 13, g 14, g 15, g 16, g 17, g 18, g 19, g 20, g 21, g 22, g 23]) ?_ _ _ _ _ ⟨0, rfl, under_me, Own.cast (Own.mono (hS) (le_app (p := ν) (b := [1, 0, 1]))) (rfl), (⟨Nat.zero_le _, rfl⟩), env_g rfl⟩
  rintro ν1 mm ee H1 ⟨i, rfl, hU1, hS1, ⟨hi, hI⟩, g1, rfl⟩
  refine XW_seq ?_
  refine XW_sr ?_
  refine OW_mv rfl rfl ?_
  refine OW_mv rfl rfl ?_
  first
  | refine OW_nc rfl rfl ?_
  | refine OW_nce rfl rfl ?_
  refine OW_env (e' := [_, _, _, _, _, _, _, _, _, _, _, _, _, _, _, _, _, _, _, _, _, _, _, _]) rfl ?_
  refine OW_fa rfl rfl rfl ?_
  refine OW_loadR hS1 (k := 1) rfl rfl rfl rfl rfl (by first | exact part_whole rfl rfl rfl | rfl) ?_
  refine OW_lenO hS1 (k := 0) rfl rfl rfl rfl rfl rfl (by first | exact List.length_map _ | exact len_app1 | exact len_drop | (simp only [List.length_append, List.length_map, List.length_singleton, List.length_cons, List.length_nil]; rfl) | rfl) ?_
  refine OW_env (e' := [_, _, _, _, _, _, _, _, _, _, _, _, _, _, _, _, _, _, _, _, _, _, _, _]) rfl ?_
  refine OW_bin rfl rfl rfl rfl rfl ?_
  refine OW_nilE (e' := [_, _, _, _, _, _, _, _, _, _, _, _, _, _, _, _, _, _, _, _, _, _, _, _]) rfl ?_
  refine XW_if rfl (fun h2 => ?_) (fun h2 => ?_)
  · try simp only [decide_eq_true_eq, decide_eq_false_iff_not, Bool.not_eq_true', Bool.not_eq_false', Bool.and_eq_true, Bool.or_eq_true, Bool.not_eq_true, Bool.not_eq_false, Decidable.not_not, bne_iff_ne, beq_iff_eq, List.length_append, List.length_cons, List.length_nil, List.length_drop, List.length_take] at h2
    refine XW_skip ?_
    refine then_norm ?_
    refine XW_seq ?_
    refine XW_block ?_
    refine XW_sr ?_
    refine OW_mv rfl rfl ?_
    first
    | refine OW_nc rfl rfl ?_
    | refine OW_nce rfl rfl ?_
    refine OW_fa rfl rfl rfl ?_
    refine OW_env (e' := [_, _, _, _, _, _, _, _, _, _, _, _, _, _, _, _, _, _, _, _, _, _, _, _]) rfl ?_
    refine OW_loadR hS1 (k := 1) rfl rfl rfl rfl rfl (by first | exact part_whole rfl rfl rfl | rfl) ?_
    refine OW_mv rfl rfl ?_
    refine OW_iaO hS1 (k := 0) rfl rfl rfl rfl rfl rfl rfl rfl (by first | rfl | exact (Int.toNat_of_nonneg (by omega)).symm) (by first | assumption | exact at_map (by first | assumption | omega) | exact at_lst (by omega) | rfl) fun q1 ys1 hO1 hq1 ht1 hy1 hu1 => ?_
    subst hO1
    refine OW_env (e' := [_, _, _, _, _, _, _, _, _, _, _, _, _, _, _, _, _, _, _, _, _, _, _, _]) rfl ?_
    refine OW_loadP rfl rfl hq1 hy1 rfl (by first | exact part_whole rfl rfl rfl | rfl) ?_
    refine OW_mv rfl rfl ?_
    refine OW_bin rfl rfl rfl rfl rfl ?_
    refine OW_nilE (e' := [_, _, _, _, _, _, _, _, _, _, _, _, _, _, _, _, _, _, _, _, _, _, _, _]) rfl ?_
    refine XW_if rfl (fun h4 => ?_) (fun h4 => ?_)
    · try simp only [decide_eq_true_eq, decide_eq_false_iff_not, Bool.not_eq_true', Bool.not_eq_false', Bool.and_eq_true, Bool.or_eq_true, Bool.not_eq_true, Bool.not_eq_false, Decidable.not_not, bne_iff_ne, beq_iff_eq, List.length_append, List.length_cons, List.length_nil, List.length_drop, List.length_take] at h4
      refine XW_sr ?_
      refine OW_as rfl rfl ?_
      refine OW_nilE (e' := [_, _, _, _, _, _, _, _, _, _, _, _, _, _, _, _, _, _, _, _, _, _, _, _]) rfl ?_
      refine XW_ret ?_
      refine block_ret ?_
      refine then_ret ?_
      refine block_ret ?_
      refine then_ret ?_
      -- outcome 1
      refine ret_ret (res1 rfl (rv_tmp rfl)) ?_
      have e : S.shown h = true := by { rw [← hI, List.drop_eq_getElem_cons (by omega : i < S.met.length), List.any_cons]; simp_all }; rw [e] at hq; exact hq _ (Own.unpick2 h0 h1 (Own.mono hS1 (le_bef (bef_under (a := []) hU1 (bef_app (a := [1, 0, 1]) hp)))))
    · try simp only [decide_eq_true_eq, decide_eq_false_iff_not, Bool.not_eq_true', Bool.not_eq_false', Bool.and_eq_true, Bool.or_eq_true, Bool.not_eq_true, Bool.not_eq_false, Decidable.not_not, bne_iff_ne, beq_iff_eq, List.length_append, List.length_cons, List.length_nil, List.length_drop, List.length_take] at h4
      refine XW_skip ?_
      refine block_norm ?_
      refine then_norm ?_
      refine XW_region ?_
      refine OW_mv rfl rfl ?_
      first
      | refine OW_bin rfl rfl rfl rfl (add_w64 (by first | omega | assumption | (simp only [ByteArray.size_append, ByteArray.size_extract, List.length_map, List.length_append, List.length_cons, List.length_nil, List.length_drop, List.length_take]; omega))) ?_
      | refine OW_bin rfl rfl rfl rfl rfl ?_
      refine OW_as rfl rfl ?_
      refine OW_nilE (e' := [_, _, _, _, _, _, _, _, _, _, _, _, _, _, _, _, _, _, _, _, _, _, _, _]) rfl ?_
      -- round 0.1
      refine ⟨_, ?_, i + 1, rfl, under_in hU1, Own.cast (Own.mono (hS1) (le_app (p := ν1) (b := [1]))) (rfl), ?_, env_g rfl⟩
      · first | omega | (simp; omega)
      · exact ⟨by omega, by rw [← hI, List.drop_eq_getElem_cons (by omega : i < S.met.length), List.any_cons]; simp_all⟩
  · try simp only [decide_eq_true_eq, decide_eq_false_iff_not, Bool.not_eq_true', Bool.not_eq_false', Bool.and_eq_true, Bool.or_eq_true, Bool.not_eq_true, Bool.not_eq_false, Decidable.not_not, bne_iff_ne, beq_iff_eq, List.length_append, List.length_cons, List.length_nil, List.length_drop, List.length_take] at h2
    refine XW_exit ?_
    refine then_exit ?_
    refine block_exit ?_
    refine then_norm ?_
    refine XW_sr ?_
    refine OW_as rfl rfl ?_
    refine OW_nilE (e' := [_, _, _, _, _, _, _, _, _, _, _, _, _, _, _, _, _, _, _, _, _, _, _, _]) rfl ?_
    refine XW_ret ?_
    -- outcome 2
    refine ret_ret (res1 rfl (rv_tmp rfl)) ?_
    have e : S.shown h = false := by { rw [← hI, List.drop_eq_nil_of_le (by omega)]; rfl }; rw [e] at hq; exact hq _ (Own.unpick2 h0 h1 (Own.mono hS1 (le_bef (bef_under (a := []) hU1 (bef_app (a := [1, 0, 1]) hp)))))
theorem rAt (hS : Own β ps H L) (h0 : L[k0]? = some (row q 4 [.agg [D, R, M, B]])) (h1 : (L.eraseIdx k0)[k1]? = some (sl R 6 (S.rows.map Rw.enc))) (hle : le ps ν) (hβ : under β ν = true) (hp : before ν pos') (hn : S.le 4294967000) (x : Rw) (hq : ∀ H1, Own β pos' H1 L → Q (.int .i64 (S.at_ x)) H1) : CW cfg ν 39 [.ptr q 0 0, x.enc] H Q := by
  have hnr := hn.rows
  have hnm := hn.met
  replace hS := hS.pick2 h0 h1
  refine CW_keep g39 F39 rfl ?_
  replace hS := Own.mono hS hle
  refine XW_sr ?_
  refine OW_boxR hS (le_app (p := ν) (b := [0, 0])) (under_app [0, 0] hβ) rfl rfl rfl ⟨rfl, rfl⟩ fun H1 hS1 => ?_
  replace hS1 : Own _ _ _ (_ :: _ :: _ :: (L.eraseIdx k0).eraseIdx k1) := hS1
  refine OW_as rfl rfl ?_
  refine OW_nilE (e' := [_, _, _, _, _, _, _, _, _, _, _, _, _, _, _, _, _, _, _, _, _, _, _, _, _, _, _, _, _, _, _, _, _, _, _, _, _, _, _, _, _, _, _, _, _, _, _, _, _, _, _, _, _, _, _, _, _, _, _, _, _, _]) rfl ?_
  refine XW_seq ?_
  refine XW_sr ?_
  refine OW_as rfl rfl ?_
  refine OW_nilE (e' := [_, _, _, _, _, _, _, _, _, _, _, _, _, _, _, _, _, _, _, _, _, _, _, _, _, _, _, _, _, _, _, _, _, _, _, _, _, _, _, _, _, _, _, _, _, _, _, _, _, _, _, _, _, _, _, _, _, _, _, _, _, _]) rfl ?_
  refine XW_block ?_
  refine XW_whileN (I := fun ν' mm ee H' => ∃ (i : Nat), mm = S.rows.length - i ∧ under (1 :: 0 :: 1 :: ν) ν' = true ∧ Own β ν' H' (row (0 :: 0 :: ν) 6 [Rw.enc x] :: sl R 6 (S.rows.map Rw.enc) :: row q 4 [.agg [D, R, M, B]] :: (L.eraseIdx k0).eraseIdx k1) ∧ (i ≤ S.rows.length ∧ firstI (fun y => x.same y) (S.rows.drop i) i = S.at_ x) ∧ ∃ g : Nat → AVal, ee = [.ptr q 0 0, g 1, g 2, .ptr (0 :: 0 :: ν) 0 0, g 4, .int .i64 i, g 6, g 7, g 8, g 9, g 10, g 11, g 12, g 13, g 14, g 15, g 16, g 17, g 18, g 19, g 20, g 21, g 22, g 23, g 24, g 25, g 26, g 27, g 28, g 29, g 30, g 31, g 32, g 33, g 34, g 35, g 36, g 37, g 38, g 39, g 40, g 41, g 42, g 43, g 44, g 45, g 46, g 47, g 48, g 49, g 50, g 51, g 52, g 53, g 54, g 55, g 56, g 57, g 58, g 59, g 60, g 61]) ?_ _ _ _ _ ⟨0, rfl, under_me, Own.cast (Own.mono (hS1) (le_lit (ν := ν) (a := [1, 0]) (b := [1, 0, 1]) (by decide))) (rfl), (⟨Nat.zero_le _, rfl⟩), env_g rfl⟩
  rintro ν1 mm ee H2 ⟨i, rfl, hU1, hS2, ⟨hi, hI⟩, g1, rfl⟩
  refine XW_seq ?_
  refine XW_sr ?_
  refine OW_mv rfl rfl ?_
  refine OW_mv rfl rfl ?_
  first
  | refine OW_nc rfl rfl ?_
  | refine OW_nce rfl rfl ?_
  refine OW_env (e' := [_, _, _, _, _, _, _, _, _, _, _, _, _, _, _, _, _, _, _, _, _, _, _, _, _, _, _, _, _, _, _, _, _, _, _, _, _, _, _, _, _, _, _, _, _, _, _, _, _, _, _, _, _, _, _, _, _, _, _, _, _, _]) rfl ?_
  refine OW_fa rfl rfl rfl ?_
  refine OW_loadR hS2 (k := 2) rfl rfl rfl rfl rfl (by first | exact part_whole rfl rfl rfl | rfl) ?_
  refine OW_lenO hS2 (k := 1) rfl rfl rfl rfl rfl rfl (by first | exact List.length_map _ | exact len_app1 | exact len_drop | (simp only [List.length_append, List.length_map, List.length_singleton, List.length_cons, List.length_nil]; rfl) | rfl) ?_
  refine OW_env (e' := [_, _, _, _, _, _, _, _, _, _, _, _, _, _, _, _, _, _, _, _, _, _, _, _, _, _, _, _, _, _, _, _, _, _, _, _, _, _, _, _, _, _, _, _, _, _, _, _, _, _, _, _, _, _, _, _, _, _, _, _, _, _]) rfl ?_
  refine OW_bin rfl rfl rfl rfl rfl ?_
  refine OW_nilE (e' := [_, _, _, _, _, _, _, _, _, _, _, _, _, _, _, _, _, _, _, _, _, _, _, _, _, _, _, _, _, _, _, _, _, _, _, _, _, _, _, _, _, _, _, _, _, _, _, _, _, _, _, _, _, _, _, _, _, _, _, _, _, _]) rfl ?_
  refine XW_if rfl (fun h2 => ?_) (fun h2 => ?_)
  · try simp only [decide_eq_true_eq, decide_eq_false_iff_not, Bool.not_eq_true', Bool.not_eq_false', Bool.and_eq_true, Bool.or_eq_true, Bool.not_eq_true, Bool.not_eq_false, Decidable.not_not, bne_iff_ne, beq_iff_eq, List.length_append, List.length_cons, List.length_nil, List.length_drop, List.length_take] at h2
    refine XW_skip ?_
    refine then_norm ?_
    refine XW_seq ?_
    refine XW_block ?_
    refine XW_sr ?_
    refine OW_mv rfl rfl ?_
    first
    | refine OW_nc rfl rfl ?_
    | refine OW_nce rfl rfl ?_
    refine OW_fa rfl rfl rfl ?_
    refine OW_env (e' := [_, _, _, _, _, _, _, _, _, _, _, _, _, _, _, _, _, _, _, _, _, _, _, _, _, _, _, _, _, _, _, _, _, _, _, _, _, _, _, _, _, _, _, _, _, _, _, _, _, _, _, _, _, _, _, _, _, _, _, _, _, _]) rfl ?_
    refine OW_loadR hS2 (k := 2) rfl rfl rfl rfl rfl (by first | exact part_whole rfl rfl rfl | rfl) ?_
    refine OW_mv rfl rfl ?_
    refine OW_iaO hS2 (k := 1) rfl rfl rfl rfl rfl rfl rfl rfl (by first | rfl | exact (Int.toNat_of_nonneg (by omega)).symm) (by first | assumption | exact at_map (by first | assumption | omega) | exact at_lst (by omega) | rfl) fun q1 ys1 hO1 hq1 ht1 hy1 hu1 => ?_
    subst hO1
    refine OW_env (e' := [_, _, _, _, _, _, _, _, _, _, _, _, _, _, _, _, _, _, _, _, _, _, _, _, _, _, _, _, _, _, _, _, _, _, _, _, _, _, _, _, _, _, _, _, _, _, _, _, _, _, _, _, _, _, _, _, _, _, _, _, _, _]) rfl ?_
    refine OW_loadP rfl rfl hq1 hy1 rfl (by first | exact part_whole rfl rfl rfl | rfl) ?_
    refine OW_allocR hS2 (le_app (p := ν1) (b := [7, 0, 0, 1, 0])) (under_app [7, 0, 0, 1, 0] (under_trans (under_app [1, 0, 1] hβ) hU1)) rfl rfl rfl rfl fun H3 hS3 => ?_
    replace hS3 : Own _ _ _ (_ :: _ :: _ :: _ :: (L.eraseIdx k0).eraseIdx k1) := hS3
    first
    | refine OW_storeR hS3 (k := 0) rfl le_refl rfl rfl rfl rfl ⟨rfl, rfl, Nat.le_of_ble_eq_true rfl⟩ (set_whole rfl rfl) fun H4 hS4 => ?_
    | refine OW_storeR hS3 (k := 0) rfl le_refl rfl rfl rfl rfl ⟨rfl, rfl, Nat.le_of_ble_eq_true rfl⟩ (u2 := .agg [_, _, _, _, _, _]) rfl fun H4 hS4 => ?_
    replace hS4 : Own _ _ _ (_ :: _ :: _ :: _ :: (L.eraseIdx k0).eraseIdx k1) := hS4
    refine OW_nilE (e' := [_, _, _, _, _, _, _, _, _, _, _, _, _, _, _, _, _, _, _, _, _, _, _, _, _, _, _, _, _, _, _, _, _, _, _, _, _, _, _, _, _, _, _, _, _, _, _, _, _, _, _, _, _, _, _, _, _, _, _, _, _, _]) rfl ?_
    refine XW_sr ?_
    refine OW_fa rfl rfl rfl ?_
    refine OW_loadR hS4 (k := 1) rfl rfl rfl rfl rfl (by first | exact part_whole rfl rfl rfl | rfl) ?_
    refine OW_bin rfl rfl rfl rfl rfl ?_
    refine OW_env (e' := [_, _, _, _, _, _, _, _, _, _, _, _, _, _, _, _, _, _, _, _, _, _, _, _, _, _, _, _, _, _, _, _, _, _, _, _, _, _, _, _, _, _, _, _, _, _, _, _, _, _, _, _, _, _, _, _, _, _, _, _, _, _]) rfl ?_
    refine OW_mv rfl rfl ?_
    refine OW_split (tt := 26) rfl (fun g5_4 => ?_) (fun g5_4 => ?_)
    · try simp only [decide_eq_true_eq, decide_eq_false_iff_not, Bool.not_eq_true', Bool.not_eq_false', Bool.and_eq_true, Bool.or_eq_true, Bool.not_eq_true, Bool.not_eq_false, Decidable.not_not, bne_iff_ne, beq_iff_eq, List.length_append, List.length_cons, List.length_nil, List.length_drop, List.length_take] at g5_4
      refine OW_fa rfl rfl rfl ?_
      refine OW_env (e' := [_, _, _, _, _, _, _, _, _, _, _, _, _, _, _, _, _, _, _, _, _, _, _, _, _, _, _, _, _, _, _, _, _, _, _, _, _, _, _, _, _, _, _, _, _, _, _, _, _, _, _, _, _, _, _, _, _, _, _, _, _, _]) rfl ?_
      refine OW_loadR hS4 (k := 0) rfl rfl rfl rfl rfl (by first | exact part_whole rfl rfl rfl | rfl) ?_
      refine OW_fa rfl rfl rfl ?_
      refine OW_loadR hS4 (k := 1) rfl rfl rfl rfl rfl (by first | exact part_whole rfl rfl rfl | rfl) ?_
      refine OW_env (e' := [_, _, _, _, _, _, _, _, _, _, _, _, _, _, _, _, _, _, _, _, _, _, _, _, _, _, _, _, _, _, _, _, _, _, _, _, _, _, _, _, _, _, _, _, _, _, _, _, _, _, _, _, _, _, _, _, _, _, _, _, _, _]) rfl ?_
      refine OW_bin rfl rfl rfl rfl rfl ?_
      refine OW_pick rfl rfl rfl ?_
      refine OW_mv rfl rfl ?_
      refine OW_env (e' := [_, _, _, _, _, _, _, _, _, _, _, _, _, _, _, _, _, _, _, _, _, _, _, _, _, _, _, _, _, _, _, _, _, _, _, _, _, _, _, _, _, _, _, _, _, _, _, _, _, _, _, _, _, _, _, _, _, _, _, _, _, _]) rfl ?_
      refine OW_split (tt := 33) rfl (fun g5_11 => ?_) (fun g5_11 => ?_)
      · try simp only [decide_eq_true_eq, decide_eq_false_iff_not, Bool.not_eq_true', Bool.not_eq_false', Bool.and_eq_true, Bool.or_eq_true, Bool.not_eq_true, Bool.not_eq_false, Decidable.not_not, bne_iff_ne, beq_iff_eq, List.length_append, List.length_cons, List.length_nil, List.length_drop, List.length_take] at g5_11
        refine OW_fa rfl rfl rfl ?_
        refine OW_loadR hS4 (k := 0) rfl rfl rfl rfl rfl (by first | exact part_whole rfl rfl rfl | rfl) ?_
        refine OW_env (e' := [_, _, _, _, _, _, _, _, _, _, _, _, _, _, _, _, _, _, _, _, _, _, _, _, _, _, _, _, _, _, _, _, _, _, _, _, _, _, _, _, _, _, _, _, _, _, _, _, _, _, _, _, _, _, _, _, _, _, _, _, _, _]) rfl ?_
        refine OW_fa rfl rfl rfl ?_
        refine OW_loadR hS4 (k := 1) rfl rfl rfl rfl rfl (by first | exact part_whole rfl rfl rfl | rfl) ?_
        refine OW_bin rfl rfl rfl rfl rfl ?_
        refine OW_env (e' := [_, _, _, _, _, _, _, _, _, _, _, _, _, _, _, _, _, _, _, _, _, _, _, _, _, _, _, _, _, _, _, _, _, _, _, _, _, _, _, _, _, _, _, _, _, _, _, _, _, _, _, _, _, _, _, _, _, _, _, _, _, _]) rfl ?_
        refine OW_pick rfl rfl rfl ?_
        refine OW_mv rfl rfl ?_
        refine OW_split (tt := 40) rfl (fun g5_18 => ?_) (fun g5_18 => ?_)
        · try simp only [decide_eq_true_eq, decide_eq_false_iff_not, Bool.not_eq_true', Bool.not_eq_false', Bool.and_eq_true, Bool.or_eq_true, Bool.not_eq_true, Bool.not_eq_false, Decidable.not_not, bne_iff_ne, beq_iff_eq, List.length_append, List.length_cons, List.length_nil, List.length_drop, List.length_take] at g5_18
          refine OW_env (e' := [_, _, _, _, _, _, _, _, _, _, _, _, _, _, _, _, _, _, _, _, _, _, _, _, _, _, _, _, _, _, _, _, _, _, _, _, _, _, _, _, _, _, _, _, _, _, _, _, _, _, _, _, _, _, _, _, _, _, _, _, _, _]) rfl ?_
          refine OW_fa rfl rfl rfl ?_
          refine OW_loadR hS4 (k := 0) rfl rfl rfl rfl rfl (by first | exact part_whole rfl rfl rfl | rfl) ?_
          refine OW_fa rfl rfl rfl ?_
          refine OW_env (e' := [_, _, _, _, _, _, _, _, _, _, _, _, _, _, _, _, _, _, _, _, _, _, _, _, _, _, _, _, _, _, _, _, _, _, _, _, _, _, _, _, _, _, _, _, _, _, _, _, _, _, _, _, _, _, _, _, _, _, _, _, _, _]) rfl ?_
          refine OW_loadR hS4 (k := 1) rfl rfl rfl rfl rfl (by first | exact part_whole rfl rfl rfl | rfl) ?_
          refine OW_bin rfl rfl rfl rfl rfl ?_
          refine OW_pick rfl rfl rfl ?_
          refine OW_env (e' := [_, _, _, _, _, _, _, _, _, _, _, _, _, _, _, _, _, _, _, _, _, _, _, _, _, _, _, _, _, _, _, _, _, _, _, _, _, _, _, _, _, _, _, _, _, _, _, _, _, _, _, _, _, _, _, _, _, _, _, _, _, _]) rfl ?_
          refine OW_mv rfl rfl ?_
          refine OW_split (tt := 47) rfl (fun g5_25 => ?_) (fun g5_25 => ?_)
          · try simp only [decide_eq_true_eq, decide_eq_false_iff_not, Bool.not_eq_true', Bool.not_eq_false', Bool.and_eq_true, Bool.or_eq_true, Bool.not_eq_true, Bool.not_eq_false, Decidable.not_not, bne_iff_ne, beq_iff_eq, List.length_append, List.length_cons, List.length_nil, List.length_drop, List.length_take] at g5_25
            refine OW_fa rfl rfl rfl ?_
            refine OW_env (e' := [_, _, _, _, _, _, _, _, _, _, _, _, _, _, _, _, _, _, _, _, _, _, _, _, _, _, _, _, _, _, _, _, _, _, _, _, _, _, _, _, _, _, _, _, _, _, _, _, _, _, _, _, _, _, _, _, _, _, _, _, _, _]) rfl ?_
            refine OW_loadR hS4 (k := 0) rfl rfl rfl rfl rfl (by first | exact part_whole rfl rfl rfl | rfl) ?_
            refine OW_fa rfl rfl rfl ?_
            refine OW_loadR hS4 (k := 1) rfl rfl rfl rfl rfl (by first | exact part_whole rfl rfl rfl | rfl) ?_
            refine OW_env (e' := [_, _, _, _, _, _, _, _, _, _, _, _, _, _, _, _, _, _, _, _, _, _, _, _, _, _, _, _, _, _, _, _, _, _, _, _, _, _, _, _, _, _, _, _, _, _, _, _, _, _, _, _, _, _, _, _, _, _, _, _, _, _]) rfl ?_
            refine OW_bin rfl rfl rfl rfl rfl ?_
            refine OW_pick rfl rfl rfl ?_
            refine OW_mv rfl rfl ?_
            refine OW_env (e' := [_, _, _, _, _, _, _, _, _, _, _, _, _, _, _, _, _, _, _, _, _, _, _, _, _, _, _, _, _, _, _, _, _, _, _, _, _, _, _, _, _, _, _, _, _, _, _, _, _, _, _, _, _, _, _, _, _, _, _, _, _, _]) rfl ?_
            refine OW_split (tt := 54) rfl (fun g5_32 => ?_) (fun g5_32 => ?_)
            · try simp only [decide_eq_true_eq, decide_eq_false_iff_not, Bool.not_eq_true', Bool.not_eq_false', Bool.and_eq_true, Bool.or_eq_true, Bool.not_eq_true, Bool.not_eq_false, Decidable.not_not, bne_iff_ne, beq_iff_eq, List.length_append, List.length_cons, List.length_nil, List.length_drop, List.length_take] at g5_32
              refine OW_fa rfl rfl rfl ?_
              refine OW_loadR hS4 (k := 0) rfl rfl rfl rfl rfl (by first | exact part_whole rfl rfl rfl | rfl) ?_
              refine OW_env (e' := [_, _, _, _, _, _, _, _, _, _, _, _, _, _, _, _, _, _, _, _, _, _, _, _, _, _, _, _, _, _, _, _, _, _, _, _, _, _, _, _, _, _, _, _, _, _, _, _, _, _, _, _, _, _, _, _, _, _, _, _, _, _]) rfl ?_
              refine OW_fa rfl rfl rfl ?_
              refine OW_loadR hS4 (k := 1) rfl rfl rfl rfl rfl (by first | exact part_whole rfl rfl rfl | rfl) ?_
              refine OW_bin rfl rfl rfl rfl rfl ?_
              refine OW_env (e' := [_, _, _, _, _, _, _, _, _, _, _, _, _, _, _, _, _, _, _, _, _, _, _, _, _, _, _, _, _, _, _, _, _, _, _, _, _, _, _, _, _, _, _, _, _, _, _, _, _, _, _, _, _, _, _, _, _, _, _, _, _, _]) rfl ?_
              refine OW_pick rfl rfl rfl ?_
              refine OW_nilE (e' := [_, _, _, _, _, _, _, _, _, _, _, _, _, _, _, _, _, _, _, _, _, _, _, _, _, _, _, _, _, _, _, _, _, _, _, _, _, _, _, _, _, _, _, _, _, _, _, _, _, _, _, _, _, _, _, _, _, _, _, _, _, _]) rfl ?_
              refine XW_if rfl (fun h5 => ?_) (fun h5 => ?_)
              · try simp only [decide_eq_true_eq, decide_eq_false_iff_not, Bool.not_eq_true', Bool.not_eq_false', Bool.and_eq_true, Bool.or_eq_true, Bool.not_eq_true, Bool.not_eq_false, Decidable.not_not, bne_iff_ne, beq_iff_eq, List.length_append, List.length_cons, List.length_nil, List.length_drop, List.length_take] at h5
                refine XW_sr ?_
                refine OW_mv rfl rfl ?_
                refine OW_as rfl rfl ?_
                refine OW_nilE (e' := [_, _, _, _, _, _, _, _, _, _, _, _, _, _, _, _, _, _, _, _, _, _, _, _, _, _, _, _, _, _, _, _, _, _, _, _, _, _, _, _, _, _, _, _, _, _, _, _, _, _, _, _, _, _, _, _, _, _, _, _, _, _]) rfl ?_
                refine XW_ret ?_
                refine block_ret ?_
                refine then_ret ?_
                refine block_ret ?_
                refine then_ret ?_
                -- outcome 1
                refine ret_ret (res1 rfl (rv_tmp rfl)) ?_
                have e : S.at_ x = i := by { rw [← hI, List.drop_eq_getElem_cons (by omega : i < S.rows.length), firstI, if_pos (by simp [Rw.same]; simp_all)] }; rw [e] at hq; exact hq _ (Own.unpick2 h0 h1 (Own.drop0 (Own.drop0 (Own.mono hS4 (le_bef (bef_under (a := [9, 0, 0, 1, 0]) hU1 (bef_app (a := [1, 0, 1]) hp)))))))
              · try simp only [decide_eq_true_eq, decide_eq_false_iff_not, Bool.not_eq_true', Bool.not_eq_false', Bool.and_eq_true, Bool.or_eq_true, Bool.not_eq_true, Bool.not_eq_false, Decidable.not_not, bne_iff_ne, beq_iff_eq, List.length_append, List.length_cons, List.length_nil, List.length_drop, List.length_take] at h5
                refine XW_skip ?_
                refine block_norm ?_
                refine then_norm ?_
                refine XW_region ?_
                refine OW_mv rfl rfl ?_
                first
                | refine OW_bin rfl rfl rfl rfl (add_w64 (by first | omega | assumption | (simp only [ByteArray.size_append, ByteArray.size_extract, List.length_map, List.length_append, List.length_cons, List.length_nil, List.length_drop, List.length_take]; omega))) ?_
                | refine OW_bin rfl rfl rfl rfl rfl ?_
                refine OW_as rfl rfl ?_
                refine OW_nilE (e' := [_, _, _, _, _, _, _, _, _, _, _, _, _, _, _, _, _, _, _, _, _, _, _, _, _, _, _, _, _, _, _, _, _, _, _, _, _, _, _, _, _, _, _, _, _, _, _, _, _, _, _, _, _, _, _, _, _, _, _, _, _, _]) rfl ?_
                have hSd1 : Own _ _ _ (_ :: _ :: _ :: (L.eraseIdx k0).eraseIdx k1) := (Own.drop hS4 (k := 0) rfl)
                -- round 0.1
                refine ⟨_, ?_, i + 1, rfl, under_in hU1, Own.cast (Own.mono (hSd1) (le_lit (ν := ν1) (a := [9, 0, 0, 1, 0]) (b := [1]) (by decide))) (rfl), ?_, env_g rfl⟩
                · first | omega | (simp; omega)
                · exact ⟨by omega, by rw [← hI, List.drop_eq_getElem_cons (by omega : i < S.rows.length), firstI, if_neg (by simp [Rw.same]; simp_all)]; push_cast; rfl⟩
            · try simp only [decide_eq_true_eq, decide_eq_false_iff_not, Bool.not_eq_true', Bool.not_eq_false', Bool.and_eq_true, Bool.or_eq_true, Bool.not_eq_true, Bool.not_eq_false, Decidable.not_not, bne_iff_ne, beq_iff_eq, List.length_append, List.length_cons, List.length_nil, List.length_drop, List.length_take] at g5_32
              refine OW_no rfl ?_
              refine OW_no rfl ?_
              refine OW_env (e' := [_, _, _, _, _, _, _, _, _, _, _, _, _, _, _, _, _, _, _, _, _, _, _, _, _, _, _, _, _, _, _, _, _, _, _, _, _, _, _, _, _, _, _, _, _, _, _, _, _, _, _, _, _, _, _, _, _, _, _, _, _, _]) rfl ?_
              refine OW_no rfl ?_
              refine OW_no rfl ?_
              refine OW_no rfl ?_
              refine OW_env (e' := [_, _, _, _, _, _, _, _, _, _, _, _, _, _, _, _, _, _, _, _, _, _, _, _, _, _, _, _, _, _, _, _, _, _, _, _, _, _, _, _, _, _, _, _, _, _, _, _, _, _, _, _, _, _, _, _, _, _, _, _, _, _]) rfl ?_
              refine OW_pick rfl rfl rfl ?_
              refine OW_nilE (e' := [_, _, _, _, _, _, _, _, _, _, _, _, _, _, _, _, _, _, _, _, _, _, _, _, _, _, _, _, _, _, _, _, _, _, _, _, _, _, _, _, _, _, _, _, _, _, _, _, _, _, _, _, _, _, _, _, _, _, _, _, _, _]) rfl ?_
              refine XW_no rfl rfl ?_
              refine XW_skip ?_
              refine block_norm ?_
              refine then_norm ?_
              refine XW_region ?_
              refine OW_mv rfl rfl ?_
              first
              | refine OW_bin rfl rfl rfl rfl (add_w64 (by first | omega | assumption | (simp only [ByteArray.size_append, ByteArray.size_extract, List.length_map, List.length_append, List.length_cons, List.length_nil, List.length_drop, List.length_take]; omega))) ?_
              | refine OW_bin rfl rfl rfl rfl rfl ?_
              refine OW_as rfl rfl ?_
              refine OW_nilE (e' := [_, _, _, _, _, _, _, _, _, _, _, _, _, _, _, _, _, _, _, _, _, _, _, _, _, _, _, _, _, _, _, _, _, _, _, _, _, _, _, _, _, _, _, _, _, _, _, _, _, _, _, _, _, _, _, _, _, _, _, _, _, _]) rfl ?_
              have hSd2 : Own _ _ _ (_ :: _ :: _ :: (L.eraseIdx k0).eraseIdx k1) := (Own.drop hS4 (k := 0) rfl)
              -- round 0.2
              refine ⟨_, ?_, i + 1, rfl, under_in hU1, Own.cast (Own.mono (hSd2) (le_lit (ν := ν1) (a := [9, 0, 0, 1, 0]) (b := [1]) (by decide))) (rfl), ?_, env_g rfl⟩
              · first | omega | (simp; omega)
              · exact ⟨by omega, by rw [← hI, List.drop_eq_getElem_cons (by omega : i < S.rows.length), firstI, if_neg (by simp [Rw.same]; simp_all)]; push_cast; rfl⟩
          · try simp only [decide_eq_true_eq, decide_eq_false_iff_not, Bool.not_eq_true', Bool.not_eq_false', Bool.and_eq_true, Bool.or_eq_true, Bool.not_eq_true, Bool.not_eq_false, Decidable.not_not, bne_iff_ne, beq_iff_eq, List.length_append, List.length_cons, List.length_nil, List.length_drop, List.length_take] at g5_25
            refine OW_no rfl ?_
            refine OW_env (e' := [_, _, _, _, _, _, _, _, _, _, _, _, _, _, _, _, _, _, _, _, _, _, _, _, _, _, _, _, _, _, _, _, _, _, _, _, _, _, _, _, _, _, _, _, _, _, _, _, _, _, _, _, _, _, _, _, _, _, _, _, _, _]) rfl ?_
            refine OW_no rfl ?_
            refine OW_no rfl ?_
            refine OW_no rfl ?_
            refine OW_env (e' := [_, _, _, _, _, _, _, _, _, _, _, _, _, _, _, _, _, _, _, _, _, _, _, _, _, _, _, _, _, _, _, _, _, _, _, _, _, _, _, _, _, _, _, _, _, _, _, _, _, _, _, _, _, _, _, _, _, _, _, _, _, _]) rfl ?_
            refine OW_no rfl ?_
            refine OW_pick rfl rfl rfl ?_
            refine OW_mv rfl rfl ?_
            refine OW_env (e' := [_, _, _, _, _, _, _, _, _, _, _, _, _, _, _, _, _, _, _, _, _, _, _, _, _, _, _, _, _, _, _, _, _, _, _, _, _, _, _, _, _, _, _, _, _, _, _, _, _, _, _, _, _, _, _, _, _, _, _, _, _, _]) rfl ?_
            refine OW_no rfl ?_
            refine OW_no rfl ?_
            refine OW_no rfl ?_
            refine OW_env (e' := [_, _, _, _, _, _, _, _, _, _, _, _, _, _, _, _, _, _, _, _, _, _, _, _, _, _, _, _, _, _, _, _, _, _, _, _, _, _, _, _, _, _, _, _, _, _, _, _, _, _, _, _, _, _, _, _, _, _, _, _, _, _]) rfl ?_
            refine OW_no rfl ?_
            refine OW_no rfl ?_
            refine OW_pick rfl rfl rfl ?_
            refine OW_nilE (e' := [_, _, _, _, _, _, _, _, _, _, _, _, _, _, _, _, _, _, _, _, _, _, _, _, _, _, _, _, _, _, _, _, _, _, _, _, _, _, _, _, _, _, _, _, _, _, _, _, _, _, _, _, _, _, _, _, _, _, _, _, _, _]) rfl ?_
            refine XW_no rfl rfl ?_
            refine XW_skip ?_
            refine block_norm ?_
            refine then_norm ?_
            refine XW_region ?_
            refine OW_mv rfl rfl ?_
            first
            | refine OW_bin rfl rfl rfl rfl (add_w64 (by first | omega | assumption | (simp only [ByteArray.size_append, ByteArray.size_extract, List.length_map, List.length_append, List.length_cons, List.length_nil, List.length_drop, List.length_take]; omega))) ?_
            | refine OW_bin rfl rfl rfl rfl rfl ?_
            refine OW_as rfl rfl ?_
            refine OW_nilE (e' := [_, _, _, _, _, _, _, _, _, _, _, _, _, _, _, _, _, _, _, _, _, _, _, _, _, _, _, _, _, _, _, _, _, _, _, _, _, _, _, _, _, _, _, _, _, _, _, _, _, _, _, _, _, _, _, _, _, _, _, _, _, _]) rfl ?_
            have hSd3 : Own _ _ _ (_ :: _ :: _ :: (L.eraseIdx k0).eraseIdx k1) := (Own.drop hS4 (k := 0) rfl)
            -- round 0.3
            refine ⟨_, ?_, i + 1, rfl, under_in hU1, Own.cast (Own.mono (hSd3) (le_lit (ν := ν1) (a := [9, 0, 0, 1, 0]) (b := [1]) (by decide))) (rfl), ?_, env_g rfl⟩
            · first | omega | (simp; omega)
            · exact ⟨by omega, by rw [← hI, List.drop_eq_getElem_cons (by omega : i < S.rows.length), firstI, if_neg (by simp [Rw.same]; simp_all)]; push_cast; rfl⟩
        · try simp only [decide_eq_true_eq, decide_eq_false_iff_not, Bool.not_eq_true', Bool.not_eq_false', Bool.and_eq_true, Bool.or_eq_true, Bool.not_eq_true, Bool.not_eq_false, Decidable.not_not, bne_iff_ne, beq_iff_eq, List.length_append, List.length_cons, List.length_nil, List.length_drop, List.length_take] at g5_18
          refine OW_env (e' := [_, _, _, _, _, _, _, _, _, _, _, _, _, _, _, _, _, _, _, _, _, _, _, _, _, _, _, _, _, _, _, _, _, _, _, _, _, _, _, _, _, _, _, _, _, _, _, _, _, _, _, _, _, _, _, _, _, _, _, _, _, _]) rfl ?_
          refine OW_no rfl ?_
          refine OW_no rfl ?_
          refine OW_no rfl ?_
          refine OW_env (e' := [_, _, _, _, _, _, _, _, _, _, _, _, _, _, _, _, _, _, _, _, _, _, _, _, _, _, _, _, _, _, _, _, _, _, _, _, _, _, _, _, _, _, _, _, _, _, _, _, _, _, _, _, _, _, _, _, _, _, _, _, _, _]) rfl ?_
          refine OW_no rfl ?_
          refine OW_no rfl ?_
          refine OW_pick rfl rfl rfl ?_
          refine OW_env (e' := [_, _, _, _, _, _, _, _, _, _, _, _, _, _, _, _, _, _, _, _, _, _, _, _, _, _, _, _, _, _, _, _, _, _, _, _, _, _, _, _, _, _, _, _, _, _, _, _, _, _, _, _, _, _, _, _, _, _, _, _, _, _]) rfl ?_
          refine OW_mv rfl rfl ?_
          refine OW_no rfl ?_
          refine OW_no rfl ?_
          refine OW_env (e' := [_, _, _, _, _, _, _, _, _, _, _, _, _, _, _, _, _, _, _, _, _, _, _, _, _, _, _, _, _, _, _, _, _, _, _, _, _, _, _, _, _, _, _, _, _, _, _, _, _, _, _, _, _, _, _, _, _, _, _, _, _, _]) rfl ?_
          refine OW_no rfl ?_
          refine OW_no rfl ?_
          refine OW_no rfl ?_
          refine OW_env (e' := [_, _, _, _, _, _, _, _, _, _, _, _, _, _, _, _, _, _, _, _, _, _, _, _, _, _, _, _, _, _, _, _, _, _, _, _, _, _, _, _, _, _, _, _, _, _, _, _, _, _, _, _, _, _, _, _, _, _, _, _, _, _]) rfl ?_
          refine OW_pick rfl rfl rfl ?_
          refine OW_mv rfl rfl ?_
          refine OW_no rfl ?_
          refine OW_env (e' := [_, _, _, _, _, _, _, _, _, _, _, _, _, _, _, _, _, _, _, _, _, _, _, _, _, _, _, _, _, _, _, _, _, _, _, _, _, _, _, _, _, _, _, _, _, _, _, _, _, _, _, _, _, _, _, _, _, _, _, _, _, _]) rfl ?_
          refine OW_no rfl ?_
          refine OW_no rfl ?_
          refine OW_no rfl ?_
          refine OW_env (e' := [_, _, _, _, _, _, _, _, _, _, _, _, _, _, _, _, _, _, _, _, _, _, _, _, _, _, _, _, _, _, _, _, _, _, _, _, _, _, _, _, _, _, _, _, _, _, _, _, _, _, _, _, _, _, _, _, _, _, _, _, _, _]) rfl ?_
          refine OW_no rfl ?_
          refine OW_pick rfl rfl rfl ?_
          refine OW_nilE (e' := [_, _, _, _, _, _, _, _, _, _, _, _, _, _, _, _, _, _, _, _, _, _, _, _, _, _, _, _, _, _, _, _, _, _, _, _, _, _, _, _, _, _, _, _, _, _, _, _, _, _, _, _, _, _, _, _, _, _, _, _, _, _]) rfl ?_
          refine XW_no rfl rfl ?_
          refine XW_skip ?_
          refine block_norm ?_
          refine then_norm ?_
          refine XW_region ?_
          refine OW_mv rfl rfl ?_
          first
          | refine OW_bin rfl rfl rfl rfl (add_w64 (by first | omega | assumption | (simp only [ByteArray.size_append, ByteArray.size_extract, List.length_map, List.length_append, List.length_cons, List.length_nil, List.length_drop, List.length_take]; omega))) ?_
          | refine OW_bin rfl rfl rfl rfl rfl ?_
          refine OW_as rfl rfl ?_
          refine OW_nilE (e' := [_, _, _, _, _, _, _, _, _, _, _, _, _, _, _, _, _, _, _, _, _, _, _, _, _, _, _, _, _, _, _, _, _, _, _, _, _, _, _, _, _, _, _, _, _, _, _, _, _, _, _, _, _, _, _, _, _, _, _, _, _, _]) rfl ?_
          have hSd4 : Own _ _ _ (_ :: _ :: _ :: (L.eraseIdx k0).eraseIdx k1) := (Own.drop hS4 (k := 0) rfl)
          -- round 0.4
          refine ⟨_, ?_, i + 1, rfl, under_in hU1, Own.cast (Own.mono (hSd4) (le_lit (ν := ν1) (a := [9, 0, 0, 1, 0]) (b := [1]) (by decide))) (rfl), ?_, env_g rfl⟩
          · first | omega | (simp; omega)
          · exact ⟨by omega, by rw [← hI, List.drop_eq_getElem_cons (by omega : i < S.rows.length), firstI, if_neg (by simp [Rw.same]; simp_all)]; push_cast; rfl⟩
      · try simp only [decide_eq_true_eq, decide_eq_false_iff_not, Bool.not_eq_true', Bool.not_eq_false', Bool.and_eq_true, Bool.or_eq_true, Bool.not_eq_true, Bool.not_eq_false, Decidable.not_not, bne_iff_ne, beq_iff_eq, List.length_append, List.length_cons, List.length_nil, List.length_drop, List.length_take] at g5_11
        refine OW_no rfl ?_
        refine OW_no rfl ?_
        refine OW_env (e' := [_, _, _, _, _, _, _, _, _, _, _, _, _, _, _, _, _, _, _, _, _, _, _, _, _, _, _, _, _, _, _, _, _, _, _, _, _, _, _, _, _, _, _, _, _, _, _, _, _, _, _, _, _, _, _, _, _, _, _, _, _, _]) rfl ?_
        refine OW_no rfl ?_
        refine OW_no rfl ?_
        refine OW_no rfl ?_
        refine OW_env (e' := [_, _, _, _, _, _, _, _, _, _, _, _, _, _, _, _, _, _, _, _, _, _, _, _, _, _, _, _, _, _, _, _, _, _, _, _, _, _, _, _, _, _, _, _, _, _, _, _, _, _, _, _, _, _, _, _, _, _, _, _, _, _]) rfl ?_
        refine OW_pick rfl rfl rfl ?_
        refine OW_mv rfl rfl ?_
        refine OW_no rfl ?_
        refine OW_env (e' := [_, _, _, _, _, _, _, _, _, _, _, _, _, _, _, _, _, _, _, _, _, _, _, _, _, _, _, _, _, _, _, _, _, _, _, _, _, _, _, _, _, _, _, _, _, _, _, _, _, _, _, _, _, _, _, _, _, _, _, _, _, _]) rfl ?_
        refine OW_no rfl ?_
        refine OW_no rfl ?_
        refine OW_no rfl ?_
        refine OW_env (e' := [_, _, _, _, _, _, _, _, _, _, _, _, _, _, _, _, _, _, _, _, _, _, _, _, _, _, _, _, _, _, _, _, _, _, _, _, _, _, _, _, _, _, _, _, _, _, _, _, _, _, _, _, _, _, _, _, _, _, _, _, _, _]) rfl ?_
        refine OW_no rfl ?_
        refine OW_pick rfl rfl rfl ?_
        refine OW_mv rfl rfl ?_
        refine OW_env (e' := [_, _, _, _, _, _, _, _, _, _, _, _, _, _, _, _, _, _, _, _, _, _, _, _, _, _, _, _, _, _, _, _, _, _, _, _, _, _, _, _, _, _, _, _, _, _, _, _, _, _, _, _, _, _, _, _, _, _, _, _, _, _]) rfl ?_
        refine OW_no rfl ?_
        refine OW_no rfl ?_
        refine OW_no rfl ?_
        refine OW_env (e' := [_, _, _, _, _, _, _, _, _, _, _, _, _, _, _, _, _, _, _, _, _, _, _, _, _, _, _, _, _, _, _, _, _, _, _, _, _, _, _, _, _, _, _, _, _, _, _, _, _, _, _, _, _, _, _, _, _, _, _, _, _, _]) rfl ?_
        refine OW_no rfl ?_
        refine OW_no rfl ?_
        refine OW_pick rfl rfl rfl ?_
        refine OW_env (e' := [_, _, _, _, _, _, _, _, _, _, _, _, _, _, _, _, _, _, _, _, _, _, _, _, _, _, _, _, _, _, _, _, _, _, _, _, _, _, _, _, _, _, _, _, _, _, _, _, _, _, _, _, _, _, _, _, _, _, _, _, _, _]) rfl ?_
        refine OW_mv rfl rfl ?_
        refine OW_no rfl ?_
        refine OW_no rfl ?_
        refine OW_env (e' := [_, _, _, _, _, _, _, _, _, _, _, _, _, _, _, _, _, _, _, _, _, _, _, _, _, _, _, _, _, _, _, _, _, _, _, _, _, _, _, _, _, _, _, _, _, _, _, _, _, _, _, _, _, _, _, _, _, _, _, _, _, _]) rfl ?_
        refine OW_no rfl ?_
        refine OW_no rfl ?_
        refine OW_no rfl ?_
        refine OW_env (e' := [_, _, _, _, _, _, _, _, _, _, _, _, _, _, _, _, _, _, _, _, _, _, _, _, _, _, _, _, _, _, _, _, _, _, _, _, _, _, _, _, _, _, _, _, _, _, _, _, _, _, _, _, _, _, _, _, _, _, _, _, _, _]) rfl ?_
        refine OW_pick rfl rfl rfl ?_
        refine OW_nilE (e' := [_, _, _, _, _, _, _, _, _, _, _, _, _, _, _, _, _, _, _, _, _, _, _, _, _, _, _, _, _, _, _, _, _, _, _, _, _, _, _, _, _, _, _, _, _, _, _, _, _, _, _, _, _, _, _, _, _, _, _, _, _, _]) rfl ?_
        refine XW_no rfl rfl ?_
        refine XW_skip ?_
        refine block_norm ?_
        refine then_norm ?_
        refine XW_region ?_
        refine OW_mv rfl rfl ?_
        first
        | refine OW_bin rfl rfl rfl rfl (add_w64 (by first | omega | assumption | (simp only [ByteArray.size_append, ByteArray.size_extract, List.length_map, List.length_append, List.length_cons, List.length_nil, List.length_drop, List.length_take]; omega))) ?_
        | refine OW_bin rfl rfl rfl rfl rfl ?_
        refine OW_as rfl rfl ?_
        refine OW_nilE (e' := [_, _, _, _, _, _, _, _, _, _, _, _, _, _, _, _, _, _, _, _, _, _, _, _, _, _, _, _, _, _, _, _, _, _, _, _, _, _, _, _, _, _, _, _, _, _, _, _, _, _, _, _, _, _, _, _, _, _, _, _, _, _]) rfl ?_
        have hSd5 : Own _ _ _ (_ :: _ :: _ :: (L.eraseIdx k0).eraseIdx k1) := (Own.drop hS4 (k := 0) rfl)
        -- round 0.5
        refine ⟨_, ?_, i + 1, rfl, under_in hU1, Own.cast (Own.mono (hSd5) (le_lit (ν := ν1) (a := [9, 0, 0, 1, 0]) (b := [1]) (by decide))) (rfl), ?_, env_g rfl⟩
        · first | omega | (simp; omega)
        · exact ⟨by omega, by rw [← hI, List.drop_eq_getElem_cons (by omega : i < S.rows.length), firstI, if_neg (by simp [Rw.same]; simp_all)]; push_cast; rfl⟩
    · try simp only [decide_eq_true_eq, decide_eq_false_iff_not, Bool.not_eq_true', Bool.not_eq_false', Bool.and_eq_true, Bool.or_eq_true, Bool.not_eq_true, Bool.not_eq_false, Decidable.not_not, bne_iff_ne, beq_iff_eq, List.length_append, List.length_cons, List.length_nil, List.length_drop, List.length_take] at g5_4
      refine OW_no rfl ?_
      refine OW_env (e' := [_, _, _, _, _, _, _, _, _, _, _, _, _, _, _, _, _, _, _, _, _, _, _, _, _, _, _, _, _, _, _, _, _, _, _, _, _, _, _, _, _, _, _, _, _, _, _, _, _, _, _, _, _, _, _, _, _, _, _, _, _, _]) rfl ?_
      refine OW_no rfl ?_
      refine OW_no rfl ?_
      refine OW_no rfl ?_
      refine OW_env (e' := [_, _, _, _, _, _, _, _, _, _, _, _, _, _, _, _, _, _, _, _, _, _, _, _, _, _, _, _, _, _, _, _, _, _, _, _, _, _, _, _, _, _, _, _, _, _, _, _, _, _, _, _, _, _, _, _, _, _, _, _, _, _]) rfl ?_
      refine OW_no rfl ?_
      refine OW_pick rfl rfl rfl ?_
      refine OW_mv rfl rfl ?_
      refine OW_env (e' := [_, _, _, _, _, _, _, _, _, _, _, _, _, _, _, _, _, _, _, _, _, _, _, _, _, _, _, _, _, _, _, _, _, _, _, _, _, _, _, _, _, _, _, _, _, _, _, _, _, _, _, _, _, _, _, _, _, _, _, _, _, _]) rfl ?_
      refine OW_no rfl ?_
      refine OW_no rfl ?_
      refine OW_no rfl ?_
      refine OW_env (e' := [_, _, _, _, _, _, _, _, _, _, _, _, _, _, _, _, _, _, _, _, _, _, _, _, _, _, _, _, _, _, _, _, _, _, _, _, _, _, _, _, _, _, _, _, _, _, _, _, _, _, _, _, _, _, _, _, _, _, _, _, _, _]) rfl ?_
      refine OW_no rfl ?_
      refine OW_no rfl ?_
      refine OW_pick rfl rfl rfl ?_
      refine OW_env (e' := [_, _, _, _, _, _, _, _, _, _, _, _, _, _, _, _, _, _, _, _, _, _, _, _, _, _, _, _, _, _, _, _, _, _, _, _, _, _, _, _, _, _, _, _, _, _, _, _, _, _, _, _, _, _, _, _, _, _, _, _, _, _]) rfl ?_
      refine OW_mv rfl rfl ?_
      refine OW_no rfl ?_
      refine OW_no rfl ?_
      refine OW_env (e' := [_, _, _, _, _, _, _, _, _, _, _, _, _, _, _, _, _, _, _, _, _, _, _, _, _, _, _, _, _, _, _, _, _, _, _, _, _, _, _, _, _, _, _, _, _, _, _, _, _, _, _, _, _, _, _, _, _, _, _, _, _, _]) rfl ?_
      refine OW_no rfl ?_
      refine OW_no rfl ?_
      refine OW_no rfl ?_
      refine OW_env (e' := [_, _, _, _, _, _, _, _, _, _, _, _, _, _, _, _, _, _, _, _, _, _, _, _, _, _, _, _, _, _, _, _, _, _, _, _, _, _, _, _, _, _, _, _, _, _, _, _, _, _, _, _, _, _, _, _, _, _, _, _, _, _]) rfl ?_
      refine OW_pick rfl rfl rfl ?_
      refine OW_mv rfl rfl ?_
      refine OW_no rfl ?_
      refine OW_env (e' := [_, _, _, _, _, _, _, _, _, _, _, _, _, _, _, _, _, _, _, _, _, _, _, _, _, _, _, _, _, _, _, _, _, _, _, _, _, _, _, _, _, _, _, _, _, _, _, _, _, _, _, _, _, _, _, _, _, _, _, _, _, _]) rfl ?_
      refine OW_no rfl ?_
      refine OW_no rfl ?_
      refine OW_no rfl ?_
      refine OW_env (e' := [_, _, _, _, _, _, _, _, _, _, _, _, _, _, _, _, _, _, _, _, _, _, _, _, _, _, _, _, _, _, _, _, _, _, _, _, _, _, _, _, _, _, _, _, _, _, _, _, _, _, _, _, _, _, _, _, _, _, _, _, _, _]) rfl ?_
      refine OW_no rfl ?_
      refine OW_pick rfl rfl rfl ?_
      refine OW_mv rfl rfl ?_
      refine OW_env (e' := [_, _, _, _, _, _, _, _, _, _, _, _, _, _, _, _, _, _, _, _, _, _, _, _, _, _, _, _, _, _, _, _, _, _, _, _, _, _, _, _, _, _, _, _, _, _, _, _, _, _, _, _, _, _, _, _, _, _, _, _, _, _]) rfl ?_
      refine OW_no rfl ?_
      refine OW_no rfl ?_
      refine OW_no rfl ?_
      refine OW_env (e' := [_, _, _, _, _, _, _, _, _, _, _, _, _, _, _, _, _, _, _, _, _, _, _, _, _, _, _, _, _, _, _, _, _, _, _, _, _, _, _, _, _, _, _, _, _, _, _, _, _, _, _, _, _, _, _, _, _, _, _, _, _, _]) rfl ?_
      refine OW_no rfl ?_
      refine OW_no rfl ?_
      refine OW_pick rfl rfl rfl ?_
      refine OW_nilE (e' := [_, _, _, _, _, _, _, _, _, _, _, _, _, _, _, _, _, _, _, _, _, _, _, _, _, _, _, _, _, _, _, _, _, _, _, _, _, _, _, _, _, _, _, _, _, _, _, _, _, _, _, _, _, _, _, _, _, _, _, _, _, _]) rfl ?_
      refine XW_no rfl rfl ?_
      refine XW_skip ?_
      refine block_norm ?_
      refine then_norm ?_
      refine XW_region ?_
      refine OW_mv rfl rfl ?_
      first
      | refine OW_bin rfl rfl rfl rfl (add_w64 (by first | omega | assumption | (simp only [ByteArray.size_append, ByteArray.size_extract, List.length_map, List.length_append, List.length_cons, List.length_nil, List.length_drop, List.length_take]; omega))) ?_
      | refine OW_bin rfl rfl rfl rfl rfl ?_
      refine OW_as rfl rfl ?_
      refine OW_nilE (e' := [_, _, _, _, _, _, _, _, _, _, _, _, _, _, _, _, _, _, _, _, _, _, _, _, _, _, _, _, _, _, _, _, _, _, _, _, _, _, _, _, _, _, _, _, _, _, _, _, _, _, _, _, _, _, _, _, _, _, _, _, _, _]) rfl ?_
      have hSd6 : Own _ _ _ (_ :: _ :: _ :: (L.eraseIdx k0).eraseIdx k1) := (Own.drop hS4 (k := 0) rfl)
      -- round 0.6
      refine ⟨_, ?_, i + 1, rfl, under_in hU1, Own.cast (Own.mono (hSd6) (le_lit (ν := ν1) (a := [9, 0, 0, 1, 0]) (b := [1]) (by decide))) (rfl), ?_, env_g rfl⟩
      · first | omega | (simp; omega)
      · exact ⟨by omega, by rw [← hI, List.drop_eq_getElem_cons (by omega : i < S.rows.length), firstI, if_neg (by simp [Rw.same]; simp_all)]; push_cast; rfl⟩
  · try simp only [decide_eq_true_eq, decide_eq_false_iff_not, Bool.not_eq_true', Bool.not_eq_false', Bool.and_eq_true, Bool.or_eq_true, Bool.not_eq_true, Bool.not_eq_false, Decidable.not_not, bne_iff_ne, beq_iff_eq, List.length_append, List.length_cons, List.length_nil, List.length_drop, List.length_take] at h2
    refine XW_exit ?_
    refine then_exit ?_
    refine block_exit ?_
    refine then_norm ?_
    refine XW_sr ?_
    refine OW_as rfl rfl ?_
    refine OW_nilE (e' := [_, _, _, _, _, _, _, _, _, _, _, _, _, _, _, _, _, _, _, _, _, _, _, _, _, _, _, _, _, _, _, _, _, _, _, _, _, _, _, _, _, _, _, _, _, _, _, _, _, _, _, _, _, _, _, _, _, _, _, _, _, _]) rfl ?_
    refine XW_ret ?_
    -- outcome 2
    refine ret_ret (res1 rfl (rv_tmp rfl)) ?_
    have e : S.at_ x = -1 := by { rw [← hI, List.drop_eq_nil_of_le (by omega)]; rfl }; rw [e] at hq; exact hq _ (Own.unpick2 h0 h1 (Own.drop0 (Own.mono hS2 (le_bef (bef_under (a := []) hU1 (bef_app (a := [1, 0, 1]) hp))))))
end
end Go.Proofs.Ytoljfmghcfdbpaa.X
