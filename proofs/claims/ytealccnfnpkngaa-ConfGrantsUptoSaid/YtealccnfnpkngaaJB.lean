import Derived.Test.YtealccnfnpkngaaJA
/- What the reference's oracle does. -/
set_option linter.unusedVariables false
set_option linter.unusedSimpArgs false
set_option maxRecDepth 100000
namespace Go.Proofs.Ytealccnfnpkngaa.X
open Go Go.RowKit
theorem EN62_J5 {c : Cfg} {ν : Nm} {e : Env} {H : Heap} {all : Array Oper} {r : List Oper} {i : Nat} {Q : Env → Heap → Prop} {x0 x1 x2 x3 x4 x5 x6 x7 x8 x9 x10 x11 x12 x13 x14 x15 x16 x17 x18 x19 x20 x21 x22 x23 x24 x25 x26 x27 x28 x29 x30 x31 x32 x33 x34 x35 x36 x37 x38 x39 x40 x41 x42 x43 x44 x45 x46 x47 x48 x49 x50 x51 x52 x53 x54 x55 x56 x57 x58 x59 x60 x61 : AVal} (he : e = [x0,x1,x2,x3,x4,x5,x6,x7,x8,x9,x10,x11,x12,x13,x14,x15,x16,x17,x18,x19,x20,x21,x22,x23,x24,x25,x26,x27,x28,x29,x30,x31,x32,x33,x34,x35,x36,x37,x38,x39,x40,x41,x42,x43,x44,x45,x46,x47,x48,x49,x50,x51,x52,x53,x54,x55,x56,x57,x58,x59,x60,x61]) (h : OW c ν all r i [x0,x1,x2,x3,x4,x5,x6,x7,x8,x9,x10,x11,x12,x13,x14,x15,x16,x17,x18,x19,x20,x21,x22,x23,x24,x25,x26,x27,x28,x29,x30,x31,x32,x33,x34,x35,x36,x37,x38,x39,x40,x41,x42,x43,x44,x45,x46,x47,x48,x49,x50,x51,x52,x53,x54,x55,x56,x57,x58,x59,x60,x61] H Q) : OW c ν all r i e H Q := by subst he; exact h
theorem EZ62_J5 {c : Cfg} {ν : Nm} {e : Env} {H : Heap} {all : Array Oper} {i : Nat} {Q : Env → Heap → Prop} {x0 x1 x2 x3 x4 x5 x6 x7 x8 x9 x10 x11 x12 x13 x14 x15 x16 x17 x18 x19 x20 x21 x22 x23 x24 x25 x26 x27 x28 x29 x30 x31 x32 x33 x34 x35 x36 x37 x38 x39 x40 x41 x42 x43 x44 x45 x46 x47 x48 x49 x50 x51 x52 x53 x54 x55 x56 x57 x58 x59 x60 x61 : AVal} (he : e = [x0,x1,x2,x3,x4,x5,x6,x7,x8,x9,x10,x11,x12,x13,x14,x15,x16,x17,x18,x19,x20,x21,x22,x23,x24,x25,x26,x27,x28,x29,x30,x31,x32,x33,x34,x35,x36,x37,x38,x39,x40,x41,x42,x43,x44,x45,x46,x47,x48,x49,x50,x51,x52,x53,x54,x55,x56,x57,x58,x59,x60,x61]) (h : Q [x0,x1,x2,x3,x4,x5,x6,x7,x8,x9,x10,x11,x12,x13,x14,x15,x16,x17,x18,x19,x20,x21,x22,x23,x24,x25,x26,x27,x28,x29,x30,x31,x32,x33,x34,x35,x36,x37,x38,x39,x40,x41,x42,x43,x44,x45,x46,x47,x48,x49,x50,x51,x52,x53,x54,x55,x56,x57,x58,x59,x60,x61] H) : OW c ν all [] i e H Q := by subst he; exact OW_nil h
variable {ν β ps pos' : Nm} {H : Heap} {Q : AVal → Heap → Prop} {L : List Asr} {q : Nm} {k : Nat}
structure Rw where
  t : Int
  k : Int
  n : Int
  a : ByteArray
  b : ByteArray
  h : Int
def Rw.enc (x : Rw) : AVal := .agg [.int .i64 x.t, .int .u64 x.k, .int .u64 x.n, .str x.a, .str x.b, .int .u64 x.h]
structure Rf where
  draws : List Int
  rows : List Rw
  met : List Int
  bads : Nat
/-- Is y the row of what x asks for? -/
def Rw.same (x y : Rw) : Bool := decide (x.t ≠ 0) && decide (y.t = x.t) && decide (y.k = x.k) && decide (y.n = x.n) && decide (y.a = x.a) && decide (y.b = x.b)
namespace Rf
structure le (S : Rf) (N : Nat) : Prop where
  rows : S.rows.length ≤ N
  met : S.met.length ≤ N
  bads : S.bads ≤ N
def issued (S : Rf) (h : Int) : Bool := S.rows.any fun x => decide (x.h = h)
def shown (S : Rf) (h : Int) : Bool := S.met.any fun x => decide (x = h)
def next (S : Rf) : Int := match S.draws[S.rows.length]? with
  | some h => h
  | none => 9223372036854775808 + (S.rows.length : Int)
def isBad (S : Rf) (h : Int) : Bool := decide (h = 0) || S.issued h || S.shown h
def draw (S : Rf) (x : Rw) : Rf := ⟨S.draws, S.rows ++ [⟨x.t, x.k, x.n, x.a, x.b, S.next⟩], S.met, S.bads + if S.isBad S.next then 1 else 0⟩
def at_ (S : Rf) (x : Rw) : Int := firstI (fun y => x.same y) S.rows 0
def value (S : Rf) (x : Rw) : Int × Rf := match S.rows.find? (fun y => x.same y) with
  | some y => (y.h, S)
  | none => (S.next, S.draw x)
def meet (S : Rf) (h : Int) : Rf := if S.issued h then S else ⟨S.draws, S.rows, S.met ++ [h], S.bads⟩
def verify (S : Rf) (k : Int) (a : ByteArray) (t : Int) : Bool × Rf := match S.rows.find? (fun y => (Rw.mk 2 k 0 a ⟨#[]⟩ 0).same y) with
  | some y => if y.h = t then (true, S) else (false, S.meet t)
  | none => (false, S.meet t)
def isOpen (k n : Int) (a : ByteArray) (c : Int) (y : Rw) : Bool := decide (y.t = 3) && decide (y.k = k) && decide (y.n = n) && decide (y.a = a) && decide (y.h = c)
def opens (S : Rf) (k n : Int) (a : ByteArray) (c : Int) : (ByteArray × Bool) × Rf := match S.rows.find? (isOpen k n a c) with
  | some y => ((y.b, true), S)
  | none => ((⟨#[]⟩, false), S.meet c)
def fresh (S : Rf) : Rf := S.draw ⟨0, 0, 0, ⟨#[]⟩, ⟨#[]⟩, 0⟩
def hash (S : Rf) (a : ByteArray) := S.value ⟨1, 0, 0, a, ⟨#[]⟩, 0⟩
def mac (S : Rf) (k : Int) (a : ByteArray) := S.value ⟨2, k, 0, a, ⟨#[]⟩, 0⟩
def sealv (S : Rf) (k n : Int) (a b : ByteArray) := S.value ⟨3, k, n, a, b, 0⟩
end Rf
theorem find_first {α : Type} (p : α → Bool) : ∀ (l : List α) (k : Int), 0 ≤ k → (l.find? p = none ∧ firstI p l k = -1) ∨ ∃ (i : Nat) (h : i < l.length), l.find? p = some l[i] ∧ firstI p l k = k + i
  | [], k, _ => .inl ⟨rfl, rfl⟩
  | x :: r, k, hk => by
    by_cases h : p x = true
    · exact .inr ⟨0, by simp, by simp [h], by simp [firstI, h]⟩
    · rcases find_first p r (k + 1) (by omega) with ⟨h1, h2⟩ | ⟨i, h0, h1, h2⟩
      · exact .inl ⟨by simp [h, h1], by simp [firstI, h, h2]⟩
      · exact .inr ⟨i + 1, by simpa using h0, by simp [h, h1], by simp only [firstI, h, if_false, Bool.false_eq_true]; rw [h2]; push_cast; omega⟩
/-- The reference's oracle in the heap. -/
def rorc (q : Nm) (S : Rf) : Asr := Asr.ex fun v : AVal × AVal × AVal => Asr.all [row q 4 [.agg [v.1, v.2.1, v.2.2, .int .i64 S.bads]], sl v.1 1 (S.draws.map eU), sl v.2.1 6 (S.rows.map Rw.enc), sl v.2.2 1 (S.met.map eU)]
variable {S : Rf}
theorem Own.un_rorc (h : Own β ps H (rorc q S :: L)) : ∃ D R M, Own β ps H (row q 4 [.agg [D, R, M, .int .i64 S.bads]] :: sl D 1 (S.draws.map eU) :: sl R 6 (S.rows.map Rw.enc) :: sl M 1 (S.met.map eU) :: L) := by
  obtain ⟨⟨D, R, M⟩, h⟩ := h.un_ex
  exact ⟨D, R, M, h.un_all⟩
theorem Own.mk_rorc {D R M : AVal} {n : Int} {m : Nat} {d mt : List Int} {rs : List Rw} {xs ys : List AVal} (h : Own β ps H (row q 4 [.agg [D, R, M, .int .i64 n]] :: sl D 1 (d.map eU) :: sl R 6 xs :: sl M 1 ys :: L)) (hm : n = (m : Int)) (hx : xs = rs.map Rw.enc := by first | rfl | assumption) (hy : ys = mt.map eU := by first | rfl | assumption) :
    Own β ps H (rorc q ⟨d, rs, mt, m⟩ :: L) := by
  subst hm; subst hx; subst hy
  exact Own.mk_ex (D, R, M) h.mk_all
/-- Two things ahead, and back. -/
theorem Own.pick2 {a b : Asr} {k0 k1 : Nat} (hS : Own β ps H L) (h0 : L[k0]? = some a) (h1 : (L.eraseIdx k0)[k1]? = some b) : Own β ps H (b :: a :: (L.eraseIdx k0).eraseIdx k1) :=
  (hS.pick h0).pick (k := k1 + 1) (L := a :: L.eraseIdx k0) (by simpa using h1)
theorem Own.unpick2 {a b : Asr} {k0 k1 : Nat} (h0 : L[k0]? = some a) (h1 : (L.eraseIdx k0)[k1]? = some b) (hS : Own β ps H (b :: a :: (L.eraseIdx k0).eraseIdx k1)) : Own β ps H L := by
  have h2 : Own β ps H ((a :: L.eraseIdx k0).set (k1 + 1) b) := Own.unpick (L := a :: L.eraseIdx k0) (k := k1 + 1) (a := b) hS (by simpa using h1)
  rw [List.set_cons_succ, set_get_self h1] at h2
  exact (Own.unpick h2 h0).cast (set_get_self h0)
section
variable {D R M B : AVal} {k0 k1 : Nat}
theorem rIssued (hS : Own β ps H L) (h0 : L[k0]? = some (row q 4 [.agg [D, R, M, B]])) (h1 : (L.eraseIdx k0)[k1]? = some (sl R 6 (S.rows.map Rw.enc))) (hle : le ps ν) (hβ : under β ν = true) (hp : before ν pos') (hn : S.le 4294967000) (h : Int) (hq : ∀ H1, Own β pos' H1 L → Q (.bool (S.issued h)) H1) : CW cfg ν 93 [.ptr q 0 0, .int .u64 h] H Q := by
  have hnr := hn.rows
  have hnm := hn.met
  replace hS := hS.pick2 h0 h1
  refine CW_keep g93 F93 rfl ?_
  replace hS := Own.mono hS hle
  refine XW_sr ?_
  refine OW_as rfl rfl ?_
  refine OW_nilE (e' := [_,_,_,_,_,_,_,_,_,_,_,_,_,_,_,_,_,_,_,_,_,_,_,_,_]) rfl ?_
  refine XW_seq ?_
  refine XW_sr ?_
  refine OW_as rfl rfl ?_
  refine OW_nilE (e' := [_,_,_,_,_,_,_,_,_,_,_,_,_,_,_,_,_,_,_,_,_,_,_,_,_]) rfl ?_
  refine XW_block ?_
  refine XW_whileN (I := fun ν' mm ee H' => ∃ (i : Nat), mm = S.rows.length - i ∧ under (1 :: 0 :: 1 :: ν) ν' = true ∧ Own β ν' H' (sl R 6 (S.rows.map Rw.enc) :: row q 4 [.agg [D, R, M, B]] :: (L.eraseIdx k0).eraseIdx k1) ∧ (i ≤ S.rows.length ∧ (S.rows.drop i).any (fun x => decide (x.h = h)) = S.issued h) ∧ ∃ g : Nat → AVal, ee = [.ptr q 0 0, .int .u64 h, g 2, g 3, g 4, .int .i64 i, g 6, g 7, g 8, g 9, g 10, g 11, g 12, g 13, g 14, g 15, g 16, g 17, g 18, g 19, g 20, g 21, g 22, g 23, g 24]) ?_ _ _ _ _ ⟨0, rfl, under_me, Own.cast (Own.mono (hS) (le_app (p := ν) (b := [1, 0, 1]))) (rfl), (⟨Nat.zero_le _, rfl⟩), env_g rfl⟩
  rintro ν1 mm ee H1 ⟨i, rfl, hU1, hS1, ⟨hi, hI⟩, g1, rfl⟩
  refine XW_seq ?_
  refine XW_sr ?_
  refine OW_mv rfl rfl ?_
  refine OW_mv rfl rfl ?_
  first
  | refine OW_nc rfl rfl ?_
  | refine OW_nce rfl rfl ?_
  refine OW_env (e' := [_,_,_,_,_,_,_,_,_,_,_,_,_,_,_,_,_,_,_,_,_,_,_,_,_]) rfl ?_
  refine OW_fa rfl rfl rfl ?_
  refine OW_loadR hS1 (k := 1) rfl rfl rfl rfl rfl (by first | exact part_whole rfl rfl rfl | rfl) ?_
  refine OW_lenO hS1 (k := 0) rfl rfl rfl rfl rfl rfl (by first | exact List.length_map _ | exact len_app1 | exact len_drop | (simp only [ss]; rfl) | rfl) ?_
  refine OW_env (e' := [_,_,_,_,_,_,_,_,_,_,_,_,_,_,_,_,_,_,_,_,_,_,_,_,_]) rfl ?_
  refine OW_bin rfl rfl rfl rfl rfl ?_
  refine OW_nilE (e' := [_,_,_,_,_,_,_,_,_,_,_,_,_,_,_,_,_,_,_,_,_,_,_,_,_]) rfl ?_
  refine XW_if rfl (fun h2 => ?_) (fun h2 => ?_)
  ·try simp only [bs] at h2
   refine XW_skip ?_
   refine then_norm ?_
   refine XW_seq ?_
   refine XW_block ?_
   refine XW_sr ?_
   refine OW_mv rfl rfl ?_
   first
   | refine OW_nc rfl rfl ?_
   | refine OW_nce rfl rfl ?_
   refine OW_fa rfl rfl rfl ?_
   refine OW_env (e' := [_,_,_,_,_,_,_,_,_,_,_,_,_,_,_,_,_,_,_,_,_,_,_,_,_]) rfl ?_
   refine OW_loadR hS1 (k := 1) rfl rfl rfl rfl rfl (by first | exact part_whole rfl rfl rfl | rfl) ?_
   refine OW_mv rfl rfl ?_
   refine OW_iaO hS1 (k := 0) rfl rfl rfl rfl rfl rfl rfl rfl (by first | rfl | exact (Int.toNat_of_nonneg (by omega)).symm) (by first | assumption | exact at_map (by first | assumption | omega) | exact at_lst (by omega) | rfl) fun q1 ys1 hO1 hq1 ht1 hy1 hu1 => ?_
   subst hO1
   refine OW_env (e' := [_,_,_,_,_,_,_,_,_,_,_,_,_,_,_,_,_,_,_,_,_,_,_,_,_]) rfl ?_
   refine OW_fa rfl rfl rfl ?_
   refine OW_loadP rfl rfl hq1 hy1 rfl (by first | exact part_whole rfl rfl rfl | rfl) ?_
   refine OW_mv rfl rfl ?_
   refine OW_env (e' := [_,_,_,_,_,_,_,_,_,_,_,_,_,_,_,_,_,_,_,_,_,_,_,_,_]) rfl ?_
   refine OW_bin rfl rfl rfl rfl rfl ?_
   refine OW_nilE (e' := [_,_,_,_,_,_,_,_,_,_,_,_,_,_,_,_,_,_,_,_,_,_,_,_,_]) rfl ?_
   refine XW_if rfl (fun h4 => ?_) (fun h4 => ?_)
   ·try simp only [bs] at h4
    refine XW_sr ?_
    refine OW_as rfl rfl ?_
    refine OW_nilE (e' := [_,_,_,_,_,_,_,_,_,_,_,_,_,_,_,_,_,_,_,_,_,_,_,_,_]) rfl ?_
    refine XW_ret ?_
    refine block_ret ?_
    refine then_ret ?_
    refine block_ret ?_
    refine then_ret ?_
    -- outcome 1
    refine ret_ret (res1 rfl (rv_tmp rfl)) ?_
    have e : S.issued h = true := by { rw [← hI, List.drop_eq_getElem_cons (by omega : i < S.rows.length), List.any_cons]; simp_all }; rw [e] at hq; exact hq _ (Own.unpick2 h0 h1 (Own.mono hS1 (le_bef (bef_under (a := []) hU1 (bef_app (a := [1, 0, 1]) hp)))))
   ·try simp only [bs] at h4
    refine XW_skip ?_
    refine block_norm ?_
    refine then_norm ?_
    refine XW_region ?_
    refine OW_mv rfl rfl ?_
    first
    | refine OW_bin rfl rfl rfl rfl (add_w64 (by first | omega | assumption | (simp only [ss]; omega))) ?_
    | refine OW_bin rfl rfl rfl rfl rfl ?_
    refine OW_as rfl rfl ?_
    refine OW_nilE (e' := [_,_,_,_,_,_,_,_,_,_,_,_,_,_,_,_,_,_,_,_,_,_,_,_,_]) rfl ?_
    -- round 0.1
    refine ⟨_, ?_, i + 1, rfl, under_in hU1, Own.cast (Own.mono (hS1) (le_app (p := ν1) (b := [1]))) (rfl), ?_, env_g rfl⟩
    · first | omega | (simp; omega)
    · exact ⟨by omega, by rw [← hI, List.drop_eq_getElem_cons (by omega : i < S.rows.length), List.any_cons]; simp_all⟩
  ·try simp only [bs] at h2
   refine XW_exit ?_
   refine then_exit ?_
   refine block_exit ?_
   refine then_norm ?_
   refine XW_sr ?_
   refine OW_as rfl rfl ?_
   refine OW_nilE (e' := [_,_,_,_,_,_,_,_,_,_,_,_,_,_,_,_,_,_,_,_,_,_,_,_,_]) rfl ?_
   refine XW_ret ?_
   -- outcome 2
   refine ret_ret (res1 rfl (rv_tmp rfl)) ?_
   have e : S.issued h = false := by { rw [← hI, List.drop_eq_nil_of_le (by omega)]; rfl }; rw [e] at hq; exact hq _ (Own.unpick2 h0 h1 (Own.mono hS1 (le_bef (bef_under (a := []) hU1 (bef_app (a := [1, 0, 1]) hp)))))
theorem rShown (hS : Own β ps H L) (h0 : L[k0]? = some (row q 4 [.agg [D, R, M, B]])) (h1 : (L.eraseIdx k0)[k1]? = some (sl M 1 (S.met.map eU))) (hle : le ps ν) (hβ : under β ν = true) (hp : before ν pos') (hn : S.le 4294967000) (h : Int) (hq : ∀ H1, Own β pos' H1 L → Q (.bool (S.shown h)) H1) : CW cfg ν 94 [.ptr q 0 0, .int .u64 h] H Q := by
  have hnr := hn.rows
  have hnm := hn.met
  replace hS := hS.pick2 h0 h1
  refine CW_keep g94 F94 rfl ?_
  replace hS := Own.mono hS hle
  refine XW_sr ?_
  refine OW_as rfl rfl ?_
  refine OW_nilE (e' := [_,_,_,_,_,_,_,_,_,_,_,_,_,_,_,_,_,_,_,_,_,_,_,_]) rfl ?_
  refine XW_seq ?_
  refine XW_sr ?_
  refine OW_as rfl rfl ?_
  refine OW_nilE (e' := [_,_,_,_,_,_,_,_,_,_,_,_,_,_,_,_,_,_,_,_,_,_,_,_]) rfl ?_
  refine XW_block ?_
  refine XW_whileN (I := fun ν' mm ee H' => ∃ (i : Nat), mm = S.met.length - i ∧ under (1 :: 0 :: 1 :: ν) ν' = true ∧ Own β ν' H' (sl M 1 (S.met.map eU) :: row q 4 [.agg [D, R, M, B]] :: (L.eraseIdx k0).eraseIdx k1) ∧ (i ≤ S.met.length ∧ (S.met.drop i).any (fun x => decide (x = h)) = S.shown h) ∧ ∃ g : Nat → AVal, ee = [.ptr q 0 0, .int .u64 h, g 2, g 3, g 4, .int .i64 i, g 6, g 7, g 8, g 9, g 10, g 11, g 12, g 13, g 14, g 15, g 16, g 17, g 18, g 19, g 20, g 21, g 22, g 23]) ?_ _ _ _ _ ⟨0, rfl, under_me, Own.cast (Own.mono (hS) (le_app (p := ν) (b := [1, 0, 1]))) (rfl), (⟨Nat.zero_le _, rfl⟩), env_g rfl⟩
  rintro ν1 mm ee H1 ⟨i, rfl, hU1, hS1, ⟨hi, hI⟩, g1, rfl⟩
  refine XW_seq ?_
  refine XW_sr ?_
  refine OW_mv rfl rfl ?_
  refine OW_mv rfl rfl ?_
  first
  | refine OW_nc rfl rfl ?_
  | refine OW_nce rfl rfl ?_
  refine OW_env (e' := [_,_,_,_,_,_,_,_,_,_,_,_,_,_,_,_,_,_,_,_,_,_,_,_]) rfl ?_
  refine OW_fa rfl rfl rfl ?_
  refine OW_loadR hS1 (k := 1) rfl rfl rfl rfl rfl (by first | exact part_whole rfl rfl rfl | rfl) ?_
  refine OW_lenO hS1 (k := 0) rfl rfl rfl rfl rfl rfl (by first | exact List.length_map _ | exact len_app1 | exact len_drop | (simp only [ss]; rfl) | rfl) ?_
  refine OW_env (e' := [_,_,_,_,_,_,_,_,_,_,_,_,_,_,_,_,_,_,_,_,_,_,_,_]) rfl ?_
  refine OW_bin rfl rfl rfl rfl rfl ?_
  refine OW_nilE (e' := [_,_,_,_,_,_,_,_,_,_,_,_,_,_,_,_,_,_,_,_,_,_,_,_]) rfl ?_
  refine XW_if rfl (fun h2 => ?_) (fun h2 => ?_)
  ·try simp only [bs] at h2
   refine XW_skip ?_
   refine then_norm ?_
   refine XW_seq ?_
   refine XW_block ?_
   refine XW_sr ?_
   refine OW_mv rfl rfl ?_
   first
   | refine OW_nc rfl rfl ?_
   | refine OW_nce rfl rfl ?_
   refine OW_fa rfl rfl rfl ?_
   refine OW_env (e' := [_,_,_,_,_,_,_,_,_,_,_,_,_,_,_,_,_,_,_,_,_,_,_,_]) rfl ?_
   refine OW_loadR hS1 (k := 1) rfl rfl rfl rfl rfl (by first | exact part_whole rfl rfl rfl | rfl) ?_
   refine OW_mv rfl rfl ?_
   refine OW_iaO hS1 (k := 0) rfl rfl rfl rfl rfl rfl rfl rfl (by first | rfl | exact (Int.toNat_of_nonneg (by omega)).symm) (by first | assumption | exact at_map (by first | assumption | omega) | exact at_lst (by omega) | rfl) fun q1 ys1 hO1 hq1 ht1 hy1 hu1 => ?_
   subst hO1
   refine OW_env (e' := [_,_,_,_,_,_,_,_,_,_,_,_,_,_,_,_,_,_,_,_,_,_,_,_]) rfl ?_
   refine OW_loadP rfl rfl hq1 hy1 rfl (by first | exact part_whole rfl rfl rfl | rfl) ?_
   refine OW_mv rfl rfl ?_
   refine OW_bin rfl rfl rfl rfl rfl ?_
   refine OW_nilE (e' := [_,_,_,_,_,_,_,_,_,_,_,_,_,_,_,_,_,_,_,_,_,_,_,_]) rfl ?_
   refine XW_if rfl (fun h4 => ?_) (fun h4 => ?_)
   ·try simp only [bs] at h4
    refine XW_sr ?_
    refine OW_as rfl rfl ?_
    refine OW_nilE (e' := [_,_,_,_,_,_,_,_,_,_,_,_,_,_,_,_,_,_,_,_,_,_,_,_]) rfl ?_
    refine XW_ret ?_
    refine block_ret ?_
    refine then_ret ?_
    refine block_ret ?_
    refine then_ret ?_
    -- outcome 1
    refine ret_ret (res1 rfl (rv_tmp rfl)) ?_
    have e : S.shown h = true := by { rw [← hI, List.drop_eq_getElem_cons (by omega : i < S.met.length), List.any_cons]; simp_all }; rw [e] at hq; exact hq _ (Own.unpick2 h0 h1 (Own.mono hS1 (le_bef (bef_under (a := []) hU1 (bef_app (a := [1, 0, 1]) hp)))))
   ·try simp only [bs] at h4
    refine XW_skip ?_
    refine block_norm ?_
    refine then_norm ?_
    refine XW_region ?_
    refine OW_mv rfl rfl ?_
    first
    | refine OW_bin rfl rfl rfl rfl (add_w64 (by first | omega | assumption | (simp only [ss]; omega))) ?_
    | refine OW_bin rfl rfl rfl rfl rfl ?_
    refine OW_as rfl rfl ?_
    refine OW_nilE (e' := [_,_,_,_,_,_,_,_,_,_,_,_,_,_,_,_,_,_,_,_,_,_,_,_]) rfl ?_
    -- round 0.1
    refine ⟨_, ?_, i + 1, rfl, under_in hU1, Own.cast (Own.mono (hS1) (le_app (p := ν1) (b := [1]))) (rfl), ?_, env_g rfl⟩
    · first | omega | (simp; omega)
    · exact ⟨by omega, by rw [← hI, List.drop_eq_getElem_cons (by omega : i < S.met.length), List.any_cons]; simp_all⟩
  ·try simp only [bs] at h2
   refine XW_exit ?_
   refine then_exit ?_
   refine block_exit ?_
   refine then_norm ?_
   refine XW_sr ?_
   refine OW_as rfl rfl ?_
   refine OW_nilE (e' := [_,_,_,_,_,_,_,_,_,_,_,_,_,_,_,_,_,_,_,_,_,_,_,_]) rfl ?_
   refine XW_ret ?_
   -- outcome 2
   refine ret_ret (res1 rfl (rv_tmp rfl)) ?_
   have e : S.shown h = false := by { rw [← hI, List.drop_eq_nil_of_le (by omega)]; rfl }; rw [e] at hq; exact hq _ (Own.unpick2 h0 h1 (Own.mono hS1 (le_bef (bef_under (a := []) hU1 (bef_app (a := [1, 0, 1]) hp)))))
theorem rAt (hS : Own β ps H L) (h0 : L[k0]? = some (row q 4 [.agg [D, R, M, B]])) (h1 : (L.eraseIdx k0)[k1]? = some (sl R 6 (S.rows.map Rw.enc))) (hle : le ps ν) (hβ : under β ν = true) (hp : before ν pos') (hn : S.le 4294967000) (x : Rw) (hq : ∀ H1, Own β pos' H1 L → Q (.int .i64 (S.at_ x)) H1) : CW cfg ν 91 [.ptr q 0 0, x.enc] H Q := by
  have hnr := hn.rows
  have hnm := hn.met
  replace hS := hS.pick2 h0 h1
  refine CW_keep g91 F91 rfl ?_
  replace hS := Own.mono hS hle
  refine XW_sr ?_
  refine OW_boxR hS (le_app (p := ν) (b := [0, 0])) (under_app [0, 0] hβ) rfl rfl rfl ⟨rfl, rfl⟩ fun H1 hS1 => ?_
  replace hS1 : Own _ _ _ (_ :: _ :: _ :: (L.eraseIdx k0).eraseIdx k1) := hS1
  refine OW_as rfl rfl ?_
  refine EZ62_J5 rfl ?_
  refine XW_seq ?_
  refine XW_sr ?_
  refine OW_as rfl rfl ?_
  refine EZ62_J5 rfl ?_
  refine XW_block ?_
  refine XW_whileN (I := fun ν' mm ee H' => ∃ (i : Nat), mm = S.rows.length - i ∧ under (1 :: 0 :: 1 :: ν) ν' = true ∧ Own β ν' H' (row (0 :: 0 :: ν) 6 [Rw.enc x] :: sl R 6 (S.rows.map Rw.enc) :: row q 4 [.agg [D, R, M, B]] :: (L.eraseIdx k0).eraseIdx k1) ∧ (i ≤ S.rows.length ∧ firstI (fun y => x.same y) (S.rows.drop i) i = S.at_ x) ∧ ∃ g : Nat → AVal, ee = [.ptr q 0 0, g 1, g 2, .ptr (0 :: 0 :: ν) 0 0, g 4, .int .i64 i, g 6, g 7, g 8, g 9, g 10, g 11, g 12, g 13, g 14, g 15, g 16, g 17, g 18, g 19, g 20, g 21, g 22, g 23, g 24, g 25, g 26, g 27, g 28, g 29, g 30, g 31, g 32, g 33, g 34, g 35, g 36, g 37, g 38, g 39, g 40, g 41, g 42, g 43, g 44, g 45, g 46, g 47, g 48, g 49, g 50, g 51, g 52, g 53, g 54, g 55, g 56, g 57, g 58, g 59, g 60, g 61]) ?_ _ _ _ _ ⟨0, rfl, under_me, Own.cast (Own.mono (hS1) (le_lit (ν := ν) (a := [1, 0]) (b := [1, 0, 1]) (by decide))) (rfl), (⟨Nat.zero_le _, rfl⟩), env_g rfl⟩
  rintro ν1 mm ee H2 ⟨i, rfl, hU1, hS2, ⟨hi, hI⟩, g1, rfl⟩
  refine XW_seq ?_
  refine XW_sr ?_
  refine OW_mv rfl rfl ?_
  refine OW_mv rfl rfl ?_
  first
  | refine OW_nc rfl rfl ?_
  | refine OW_nce rfl rfl ?_
  refine EN62_J5 rfl ?_
  refine OW_fa rfl rfl rfl ?_
  refine OW_loadR hS2 (k := 2) rfl rfl rfl rfl rfl (by first | exact part_whole rfl rfl rfl | rfl) ?_
  refine OW_lenO hS2 (k := 1) rfl rfl rfl rfl rfl rfl (by first | exact List.length_map _ | exact len_app1 | exact len_drop | (simp only [ss]; rfl) | rfl) ?_
  refine EN62_J5 rfl ?_
  refine OW_bin rfl rfl rfl rfl rfl ?_
  refine EZ62_J5 rfl ?_
  refine XW_if rfl (fun h2 => ?_) (fun h2 => ?_)
  ·try simp only [bs] at h2
   refine XW_skip ?_
   refine then_norm ?_
   refine XW_seq ?_
   refine XW_block ?_
   refine XW_sr ?_
   refine OW_mv rfl rfl ?_
   first
   | refine OW_nc rfl rfl ?_
   | refine OW_nce rfl rfl ?_
   refine OW_fa rfl rfl rfl ?_
   refine EN62_J5 rfl ?_
   refine OW_loadR hS2 (k := 2) rfl rfl rfl rfl rfl (by first | exact part_whole rfl rfl rfl | rfl) ?_
   refine OW_mv rfl rfl ?_
   refine OW_iaO hS2 (k := 1) rfl rfl rfl rfl rfl rfl rfl rfl (by first | rfl | exact (Int.toNat_of_nonneg (by omega)).symm) (by first | assumption | exact at_map (by first | assumption | omega) | exact at_lst (by omega) | rfl) fun q1 ys1 hO1 hq1 ht1 hy1 hu1 => ?_
   subst hO1
   refine EN62_J5 rfl ?_
   refine OW_loadP rfl rfl hq1 hy1 rfl (by first | exact part_whole rfl rfl rfl | rfl) ?_
   refine OW_allocR hS2 (le_app (p := ν1) (b := [7, 0, 0, 1, 0])) (under_app [7, 0, 0, 1, 0] (under_trans (under_app [1, 0, 1] hβ) hU1)) rfl rfl rfl rfl fun H3 hS3 => ?_
   replace hS3 : Own _ _ _ (_ :: _ :: _ :: _ :: (L.eraseIdx k0).eraseIdx k1) := hS3
   first
   | refine OW_storeR hS3 (k := 0) rfl le_refl rfl rfl rfl rfl ⟨rfl, rfl, Nat.le_of_ble_eq_true rfl⟩ (set_whole rfl rfl) fun H4 hS4 => ?_
   | refine OW_storeR hS3 (k := 0) rfl le_refl rfl rfl rfl rfl ⟨rfl, rfl, Nat.le_of_ble_eq_true rfl⟩ (u2 := .agg [_, _, _, _, _, _]) rfl fun H4 hS4 => ?_
   replace hS4 : Own _ _ _ (_ :: _ :: _ :: _ :: (L.eraseIdx k0).eraseIdx k1) := hS4
   refine EZ62_J5 rfl ?_
   refine XW_sr ?_
   refine OW_fa rfl rfl rfl ?_
   refine OW_loadR hS4 (k := 1) rfl rfl rfl rfl rfl (by first | exact part_whole rfl rfl rfl | rfl) ?_
   refine OW_bin rfl rfl rfl rfl rfl ?_
   refine EN62_J5 rfl ?_
   refine OW_mv rfl rfl ?_
   refine OW_split (tt := 26) rfl (fun g5_4 => ?_) (fun g5_4 => ?_)
   ·try simp only [bs] at g5_4
    refine OW_fa rfl rfl rfl ?_
    refine EN62_J5 rfl ?_
    refine OW_loadR hS4 (k := 0) rfl rfl rfl rfl rfl (by first | exact part_whole rfl rfl rfl | rfl) ?_
    refine OW_fa rfl rfl rfl ?_
    refine OW_loadR hS4 (k := 1) rfl rfl rfl rfl rfl (by first | exact part_whole rfl rfl rfl | rfl) ?_
    refine EN62_J5 rfl ?_
    refine OW_bin rfl rfl rfl rfl rfl ?_
    refine OW_pick rfl rfl rfl ?_
    refine OW_mv rfl rfl ?_
    refine EN62_J5 rfl ?_
    refine OW_split (tt := 33) rfl (fun g5_11 => ?_) (fun g5_11 => ?_)
    ·try simp only [bs] at g5_11
     refine OW_fa rfl rfl rfl ?_
     refine OW_loadR hS4 (k := 0) rfl rfl rfl rfl rfl (by first | exact part_whole rfl rfl rfl | rfl) ?_
     refine EN62_J5 rfl ?_
     refine OW_fa rfl rfl rfl ?_
     refine OW_loadR hS4 (k := 1) rfl rfl rfl rfl rfl (by first | exact part_whole rfl rfl rfl | rfl) ?_
     refine OW_bin rfl rfl rfl rfl rfl ?_
     refine EN62_J5 rfl ?_
     refine OW_pick rfl rfl rfl ?_
     refine OW_mv rfl rfl ?_
     refine OW_split (tt := 40) rfl (fun g5_18 => ?_) (fun g5_18 => ?_)
     ·try simp only [bs] at g5_18
      refine EN62_J5 rfl ?_
      refine OW_fa rfl rfl rfl ?_
      refine OW_loadR hS4 (k := 0) rfl rfl rfl rfl rfl (by first | exact part_whole rfl rfl rfl | rfl) ?_
      refine OW_fa rfl rfl rfl ?_
      refine EN62_J5 rfl ?_
      refine OW_loadR hS4 (k := 1) rfl rfl rfl rfl rfl (by first | exact part_whole rfl rfl rfl | rfl) ?_
      refine OW_bin rfl rfl rfl rfl rfl ?_
      refine OW_pick rfl rfl rfl ?_
      refine EN62_J5 rfl ?_
      refine OW_mv rfl rfl ?_
      refine OW_split (tt := 47) rfl (fun g5_25 => ?_) (fun g5_25 => ?_)
      ·try simp only [bs] at g5_25
       refine OW_fa rfl rfl rfl ?_
       refine EN62_J5 rfl ?_
       refine OW_loadR hS4 (k := 0) rfl rfl rfl rfl rfl (by first | exact part_whole rfl rfl rfl | rfl) ?_
       refine OW_fa rfl rfl rfl ?_
       refine OW_loadR hS4 (k := 1) rfl rfl rfl rfl rfl (by first | exact part_whole rfl rfl rfl | rfl) ?_
       refine EN62_J5 rfl ?_
       refine OW_bin rfl rfl rfl rfl rfl ?_
       refine OW_pick rfl rfl rfl ?_
       refine OW_mv rfl rfl ?_
       refine EN62_J5 rfl ?_
       refine OW_split (tt := 54) rfl (fun g5_32 => ?_) (fun g5_32 => ?_)
       ·try simp only [bs] at g5_32
        refine OW_fa rfl rfl rfl ?_
        refine OW_loadR hS4 (k := 0) rfl rfl rfl rfl rfl (by first | exact part_whole rfl rfl rfl | rfl) ?_
        refine EN62_J5 rfl ?_
        refine OW_fa rfl rfl rfl ?_
        refine OW_loadR hS4 (k := 1) rfl rfl rfl rfl rfl (by first | exact part_whole rfl rfl rfl | rfl) ?_
        refine OW_bin rfl rfl rfl rfl rfl ?_
        refine EN62_J5 rfl ?_
        refine OW_pick rfl rfl rfl ?_
        refine EZ62_J5 rfl ?_
        refine XW_if rfl (fun h5 => ?_) (fun h5 => ?_)
        ·try simp only [bs] at h5
         refine XW_sr ?_
         refine OW_mv rfl rfl ?_
         refine OW_as rfl rfl ?_
         refine EZ62_J5 rfl ?_
         refine XW_ret ?_
         refine block_ret ?_
         refine then_ret ?_
         refine block_ret ?_
         refine then_ret ?_
         -- outcome 1
         refine ret_ret (res1 rfl (rv_tmp rfl)) ?_
         have e : S.at_ x = i := by { rw [← hI, List.drop_eq_getElem_cons (by omega : i < S.rows.length), firstI, if_pos (by simp [Rw.same]; simp_all)] }; rw [e] at hq; exact hq _ (Own.unpick2 h0 h1 (Own.drop0 (Own.drop0 (Own.mono hS4 (le_bef (bef_under (a := [9, 0, 0, 1, 0]) hU1 (bef_app (a := [1, 0, 1]) hp)))))))
        ·try simp only [bs] at h5
         refine XW_skip ?_
         refine block_norm ?_
         refine then_norm ?_
         refine XW_region ?_
         refine OW_mv rfl rfl ?_
         first
         | refine OW_bin rfl rfl rfl rfl (add_w64 (by first | omega | assumption | (simp only [ss]; omega))) ?_
         | refine OW_bin rfl rfl rfl rfl rfl ?_
         refine OW_as rfl rfl ?_
         refine EZ62_J5 rfl ?_
         have hSd1 : Own _ _ _ (_ :: _ :: _ :: (L.eraseIdx k0).eraseIdx k1) := (Own.drop hS4 (k := 0) rfl)
         -- round 0.1
         refine ⟨_, ?_, i + 1, rfl, under_in hU1, Own.cast (Own.mono (hSd1) (le_lit (ν := ν1) (a := [9, 0, 0, 1, 0]) (b := [1]) (by decide))) (rfl), ?_, env_g rfl⟩
         · first | omega | (simp; omega)
         · exact ⟨by omega, by rw [← hI, List.drop_eq_getElem_cons (by omega : i < S.rows.length), firstI, if_neg (by simp [Rw.same]; simp_all)]; push_cast; rfl⟩
       ·try simp only [bs] at g5_32
        refine OW_no rfl ?_
        refine OW_no rfl ?_
        refine EN62_J5 rfl ?_
        refine OW_no rfl ?_
        refine OW_no rfl ?_
        refine OW_no rfl ?_
        refine EN62_J5 rfl ?_
        refine OW_pick rfl rfl rfl ?_
        refine EZ62_J5 rfl ?_
        refine XW_no rfl rfl ?_
        refine XW_skip ?_
        refine block_norm ?_
        refine then_norm ?_
        refine XW_region ?_
        refine OW_mv rfl rfl ?_
        first
        | refine OW_bin rfl rfl rfl rfl (add_w64 (by first | omega | assumption | (simp only [ss]; omega))) ?_
        | refine OW_bin rfl rfl rfl rfl rfl ?_
        refine OW_as rfl rfl ?_
        refine EZ62_J5 rfl ?_
        have hSd2 : Own _ _ _ (_ :: _ :: _ :: (L.eraseIdx k0).eraseIdx k1) := (Own.drop hS4 (k := 0) rfl)
        -- round 0.2
        refine ⟨_, ?_, i + 1, rfl, under_in hU1, Own.cast (Own.mono (hSd2) (le_lit (ν := ν1) (a := [9, 0, 0, 1, 0]) (b := [1]) (by decide))) (rfl), ?_, env_g rfl⟩
        · first | omega | (simp; omega)
        · exact ⟨by omega, by rw [← hI, List.drop_eq_getElem_cons (by omega : i < S.rows.length), firstI, if_neg (by simp [Rw.same]; simp_all)]; push_cast; rfl⟩
      ·try simp only [bs] at g5_25
       refine OW_no rfl ?_
       refine EN62_J5 rfl ?_
       refine OW_no rfl ?_
       refine OW_no rfl ?_
       refine OW_no rfl ?_
       refine EN62_J5 rfl ?_
       refine OW_no rfl ?_
       refine OW_pick rfl rfl rfl ?_
       refine OW_mv rfl rfl ?_
       refine EN62_J5 rfl ?_
       refine OW_no rfl ?_
       refine OW_no rfl ?_
       refine OW_no rfl ?_
       refine EN62_J5 rfl ?_
       refine OW_no rfl ?_
       refine OW_no rfl ?_
       refine OW_pick rfl rfl rfl ?_
       refine EZ62_J5 rfl ?_
       refine XW_no rfl rfl ?_
       refine XW_skip ?_
       refine block_norm ?_
       refine then_norm ?_
       refine XW_region ?_
       refine OW_mv rfl rfl ?_
       first
       | refine OW_bin rfl rfl rfl rfl (add_w64 (by first | omega | assumption | (simp only [ss]; omega))) ?_
       | refine OW_bin rfl rfl rfl rfl rfl ?_
       refine OW_as rfl rfl ?_
       refine EZ62_J5 rfl ?_
       have hSd3 : Own _ _ _ (_ :: _ :: _ :: (L.eraseIdx k0).eraseIdx k1) := (Own.drop hS4 (k := 0) rfl)
       -- round 0.3
       refine ⟨_, ?_, i + 1, rfl, under_in hU1, Own.cast (Own.mono (hSd3) (le_lit (ν := ν1) (a := [9, 0, 0, 1, 0]) (b := [1]) (by decide))) (rfl), ?_, env_g rfl⟩
       · first | omega | (simp; omega)
       · exact ⟨by omega, by rw [← hI, List.drop_eq_getElem_cons (by omega : i < S.rows.length), firstI, if_neg (by simp [Rw.same]; simp_all)]; push_cast; rfl⟩
     ·try simp only [bs] at g5_18
      refine EN62_J5 rfl ?_
      refine OW_no rfl ?_
      refine OW_no rfl ?_
      refine OW_no rfl ?_
      refine EN62_J5 rfl ?_
      refine OW_no rfl ?_
      refine OW_no rfl ?_
      refine OW_pick rfl rfl rfl ?_
      refine EN62_J5 rfl ?_
      refine OW_mv rfl rfl ?_
      refine OW_no rfl ?_
      refine OW_no rfl ?_
      refine EN62_J5 rfl ?_
      refine OW_no rfl ?_
      refine OW_no rfl ?_
      refine OW_no rfl ?_
      refine EN62_J5 rfl ?_
      refine OW_pick rfl rfl rfl ?_
      refine OW_mv rfl rfl ?_
      refine OW_no rfl ?_
      refine EN62_J5 rfl ?_
      refine OW_no rfl ?_
      refine OW_no rfl ?_
      refine OW_no rfl ?_
      refine EN62_J5 rfl ?_
      refine OW_no rfl ?_
      refine OW_pick rfl rfl rfl ?_
      refine EZ62_J5 rfl ?_
      refine XW_no rfl rfl ?_
      refine XW_skip ?_
      refine block_norm ?_
      refine then_norm ?_
      refine XW_region ?_
      refine OW_mv rfl rfl ?_
      first
      | refine OW_bin rfl rfl rfl rfl (add_w64 (by first | omega | assumption | (simp only [ss]; omega))) ?_
      | refine OW_bin rfl rfl rfl rfl rfl ?_
      refine OW_as rfl rfl ?_
      refine EZ62_J5 rfl ?_
      have hSd4 : Own _ _ _ (_ :: _ :: _ :: (L.eraseIdx k0).eraseIdx k1) := (Own.drop hS4 (k := 0) rfl)
      -- round 0.4
      refine ⟨_, ?_, i + 1, rfl, under_in hU1, Own.cast (Own.mono (hSd4) (le_lit (ν := ν1) (a := [9, 0, 0, 1, 0]) (b := [1]) (by decide))) (rfl), ?_, env_g rfl⟩
      · first | omega | (simp; omega)
      · exact ⟨by omega, by rw [← hI, List.drop_eq_getElem_cons (by omega : i < S.rows.length), firstI, if_neg (by simp [Rw.same]; simp_all)]; push_cast; rfl⟩
    ·try simp only [bs] at g5_11
     refine OW_no rfl ?_
     refine OW_no rfl ?_
     refine EN62_J5 rfl ?_
     refine OW_no rfl ?_
     refine OW_no rfl ?_
     refine OW_no rfl ?_
     refine EN62_J5 rfl ?_
     refine OW_pick rfl rfl rfl ?_
     refine OW_mv rfl rfl ?_
     refine OW_no rfl ?_
     refine EN62_J5 rfl ?_
     refine OW_no rfl ?_
     refine OW_no rfl ?_
     refine OW_no rfl ?_
     refine EN62_J5 rfl ?_
     refine OW_no rfl ?_
     refine OW_pick rfl rfl rfl ?_
     refine OW_mv rfl rfl ?_
     refine EN62_J5 rfl ?_
     refine OW_no rfl ?_
     refine OW_no rfl ?_
     refine OW_no rfl ?_
     refine EN62_J5 rfl ?_
     refine OW_no rfl ?_
     refine OW_no rfl ?_
     refine OW_pick rfl rfl rfl ?_
     refine EN62_J5 rfl ?_
     refine OW_mv rfl rfl ?_
     refine OW_no rfl ?_
     refine OW_no rfl ?_
     refine EN62_J5 rfl ?_
     refine OW_no rfl ?_
     refine OW_no rfl ?_
     refine OW_no rfl ?_
     refine EN62_J5 rfl ?_
     refine OW_pick rfl rfl rfl ?_
     refine EZ62_J5 rfl ?_
     refine XW_no rfl rfl ?_
     refine XW_skip ?_
     refine block_norm ?_
     refine then_norm ?_
     refine XW_region ?_
     refine OW_mv rfl rfl ?_
     first
     | refine OW_bin rfl rfl rfl rfl (add_w64 (by first | omega | assumption | (simp only [ss]; omega))) ?_
     | refine OW_bin rfl rfl rfl rfl rfl ?_
     refine OW_as rfl rfl ?_
     refine EZ62_J5 rfl ?_
     have hSd5 : Own _ _ _ (_ :: _ :: _ :: (L.eraseIdx k0).eraseIdx k1) := (Own.drop hS4 (k := 0) rfl)
     -- round 0.5
     refine ⟨_, ?_, i + 1, rfl, under_in hU1, Own.cast (Own.mono (hSd5) (le_lit (ν := ν1) (a := [9, 0, 0, 1, 0]) (b := [1]) (by decide))) (rfl), ?_, env_g rfl⟩
     · first | omega | (simp; omega)
     · exact ⟨by omega, by rw [← hI, List.drop_eq_getElem_cons (by omega : i < S.rows.length), firstI, if_neg (by simp [Rw.same]; simp_all)]; push_cast; rfl⟩
   ·try simp only [bs] at g5_4
    refine OW_no rfl ?_
    refine EN62_J5 rfl ?_
    refine OW_no rfl ?_
    refine OW_no rfl ?_
    refine OW_no rfl ?_
    refine EN62_J5 rfl ?_
    refine OW_no rfl ?_
    refine OW_pick rfl rfl rfl ?_
    refine OW_mv rfl rfl ?_
    refine EN62_J5 rfl ?_
    refine OW_no rfl ?_
    refine OW_no rfl ?_
    refine OW_no rfl ?_
    refine EN62_J5 rfl ?_
    refine OW_no rfl ?_
    refine OW_no rfl ?_
    refine OW_pick rfl rfl rfl ?_
    refine EN62_J5 rfl ?_
    refine OW_mv rfl rfl ?_
    refine OW_no rfl ?_
    refine OW_no rfl ?_
    refine EN62_J5 rfl ?_
    refine OW_no rfl ?_
    refine OW_no rfl ?_
    refine OW_no rfl ?_
    refine EN62_J5 rfl ?_
    refine OW_pick rfl rfl rfl ?_
    refine OW_mv rfl rfl ?_
    refine OW_no rfl ?_
    refine EN62_J5 rfl ?_
    refine OW_no rfl ?_
    refine OW_no rfl ?_
    refine OW_no rfl ?_
    refine EN62_J5 rfl ?_
    refine OW_no rfl ?_
    refine OW_pick rfl rfl rfl ?_
    refine OW_mv rfl rfl ?_
    refine EN62_J5 rfl ?_
    refine OW_no rfl ?_
    refine OW_no rfl ?_
    refine OW_no rfl ?_
    refine EN62_J5 rfl ?_
    refine OW_no rfl ?_
    refine OW_no rfl ?_
    refine OW_pick rfl rfl rfl ?_
    refine EZ62_J5 rfl ?_
    refine XW_no rfl rfl ?_
    refine XW_skip ?_
    refine block_norm ?_
    refine then_norm ?_
    refine XW_region ?_
    refine OW_mv rfl rfl ?_
    first
    | refine OW_bin rfl rfl rfl rfl (add_w64 (by first | omega | assumption | (simp only [ss]; omega))) ?_
    | refine OW_bin rfl rfl rfl rfl rfl ?_
    refine OW_as rfl rfl ?_
    refine EZ62_J5 rfl ?_
    have hSd6 : Own _ _ _ (_ :: _ :: _ :: (L.eraseIdx k0).eraseIdx k1) := (Own.drop hS4 (k := 0) rfl)
    -- round 0.6
    refine ⟨_, ?_, i + 1, rfl, under_in hU1, Own.cast (Own.mono (hSd6) (le_lit (ν := ν1) (a := [9, 0, 0, 1, 0]) (b := [1]) (by decide))) (rfl), ?_, env_g rfl⟩
    · first | omega | (simp; omega)
    · exact ⟨by omega, by rw [← hI, List.drop_eq_getElem_cons (by omega : i < S.rows.length), firstI, if_neg (by simp [Rw.same]; simp_all)]; push_cast; rfl⟩
  ·try simp only [bs] at h2
   refine XW_exit ?_
   refine then_exit ?_
   refine block_exit ?_
   refine then_norm ?_
   refine XW_sr ?_
   refine OW_as rfl rfl ?_
   refine EZ62_J5 rfl ?_
   refine XW_ret ?_
   -- outcome 2
   refine ret_ret (res1 rfl (rv_tmp rfl)) ?_
   have e : S.at_ x = -1 := by { rw [← hI, List.drop_eq_nil_of_le (by omega)]; rfl }; rw [e] at hq; exact hq _ (Own.unpick2 h0 h1 (Own.drop0 (Own.mono hS2 (le_bef (bef_under (a := []) hU1 (bef_app (a := [1, 0, 1]) hp))))))
end
end Go.Proofs.Ytealccnfnpkngaa.X
/- What the reference's oracle does: the writers. -/
set_option linter.unusedVariables false
set_option linter.unusedSimpArgs false
set_option maxRecDepth 100000
namespace Go.Proofs.Ytealccnfnpkngaa.X
open Go Go.RowKit
theorem EN64_J6 {c : Cfg} {ν : Nm} {e : Env} {H : Heap} {all : Array Oper} {r : List Oper} {i : Nat} {Q : Env → Heap → Prop} {x0 x1 x2 x3 x4 x5 x6 x7 x8 x9 x10 x11 x12 x13 x14 x15 x16 x17 x18 x19 x20 x21 x22 x23 x24 x25 x26 x27 x28 x29 x30 x31 x32 x33 x34 x35 x36 x37 x38 x39 x40 x41 x42 x43 x44 x45 x46 x47 x48 x49 x50 x51 x52 x53 x54 x55 x56 x57 x58 x59 x60 x61 x62 x63 : AVal} (he : e = [x0,x1,x2,x3,x4,x5,x6,x7,x8,x9,x10,x11,x12,x13,x14,x15,x16,x17,x18,x19,x20,x21,x22,x23,x24,x25,x26,x27,x28,x29,x30,x31,x32,x33,x34,x35,x36,x37,x38,x39,x40,x41,x42,x43,x44,x45,x46,x47,x48,x49,x50,x51,x52,x53,x54,x55,x56,x57,x58,x59,x60,x61,x62,x63]) (h : OW c ν all r i [x0,x1,x2,x3,x4,x5,x6,x7,x8,x9,x10,x11,x12,x13,x14,x15,x16,x17,x18,x19,x20,x21,x22,x23,x24,x25,x26,x27,x28,x29,x30,x31,x32,x33,x34,x35,x36,x37,x38,x39,x40,x41,x42,x43,x44,x45,x46,x47,x48,x49,x50,x51,x52,x53,x54,x55,x56,x57,x58,x59,x60,x61,x62,x63] H Q) : OW c ν all r i e H Q := by subst he; exact h
theorem EZ64_J6 {c : Cfg} {ν : Nm} {e : Env} {H : Heap} {all : Array Oper} {i : Nat} {Q : Env → Heap → Prop} {x0 x1 x2 x3 x4 x5 x6 x7 x8 x9 x10 x11 x12 x13 x14 x15 x16 x17 x18 x19 x20 x21 x22 x23 x24 x25 x26 x27 x28 x29 x30 x31 x32 x33 x34 x35 x36 x37 x38 x39 x40 x41 x42 x43 x44 x45 x46 x47 x48 x49 x50 x51 x52 x53 x54 x55 x56 x57 x58 x59 x60 x61 x62 x63 : AVal} (he : e = [x0,x1,x2,x3,x4,x5,x6,x7,x8,x9,x10,x11,x12,x13,x14,x15,x16,x17,x18,x19,x20,x21,x22,x23,x24,x25,x26,x27,x28,x29,x30,x31,x32,x33,x34,x35,x36,x37,x38,x39,x40,x41,x42,x43,x44,x45,x46,x47,x48,x49,x50,x51,x52,x53,x54,x55,x56,x57,x58,x59,x60,x61,x62,x63]) (h : Q [x0,x1,x2,x3,x4,x5,x6,x7,x8,x9,x10,x11,x12,x13,x14,x15,x16,x17,x18,x19,x20,x21,x22,x23,x24,x25,x26,x27,x28,x29,x30,x31,x32,x33,x34,x35,x36,x37,x38,x39,x40,x41,x42,x43,x44,x45,x46,x47,x48,x49,x50,x51,x52,x53,x54,x55,x56,x57,x58,x59,x60,x61,x62,x63] H) : OW c ν all [] i e H Q := by subst he; exact OW_nil h
variable {ν β ps pos' : Nm} {H : Heap} {Q : AVal → Heap → Prop} {L : List Asr} {q : Nm} {k : Nat} {S : Rf}
theorem rDraw (hS : Own β ps H L) (hL : L[k]? = some (rorc q S)) (hle : le ps ν) (hβ : under β ν = true) (hp : before ν pos') (hn : S.le 4294967000) (x : Rw) (hq : ∀ H1, Own β pos' H1 (L.set k (rorc q (S.draw x))) → Q (.int .u64 S.next) H1) : CW cfg ν 92 [.ptr q 0 0, x.enc] H Q := by
  have hnr := hn.rows
  have hnb := hn.bads
  obtain ⟨D, R, M, hS⟩ := (hS.pick hL).un_rorc
  refine CW_keep g92 F92 rfl ?_
  replace hS := Own.mono hS hle
  refine XW_sr ?_
  refine OW_boxR hS (le_app (p := ν) (b := [0, 0])) (under_app [0, 0] hβ) rfl rfl rfl ⟨rfl, rfl⟩ fun H1 hS1 => ?_
  replace hS1 : Own _ _ _ (_ :: _ :: _ :: _ :: _ :: L.eraseIdx k) := hS1
  refine OW_as rfl rfl ?_
  refine EZ64_J6 rfl ?_
  refine XW_sr ?_
  refine OW_mv rfl rfl ?_
  first
  | refine OW_nc rfl rfl ?_
  | refine OW_nce rfl rfl ?_
  refine OW_fa rfl rfl rfl ?_
  refine EN64_J6 rfl ?_
  refine OW_loadR hS1 (k := 1) rfl rfl rfl rfl rfl (by first | exact part_whole rfl rfl rfl | rfl) ?_
  refine OW_lenO hS1 (k := 3) rfl rfl rfl rfl rfl rfl (by first | exact List.length_map _ | exact len_app1 | exact len_drop | (simp only [ss]; rfl) | rfl) ?_
  refine OW_as rfl rfl ?_
  refine EZ64_J6 rfl ?_
  refine XW_sr ?_
  refine OW_mv rfl rfl ?_
  first
  | refine OW_conv rfl rfl (conv_in rfl rfl rfl (IntWalk.u64_in _ (by omega))) ?_
  | refine OW_conv rfl rfl rfl ?_
  first
  | refine OW_bin rfl rfl rfl rfl (add_wu64 (by first | omega | assumption | (simp only [ss]; omega))) ?_
  | refine OW_bin rfl rfl rfl rfl rfl ?_
  refine EN64_J6 rfl ?_
  refine OW_fa rfl rfl rfl ?_
  refine OW_storeR hS1 (k := 0) rfl (le_lit (ν := ν) (a := [1, 0]) (b := [4, 0, 1, 1]) (by decide)) rfl rfl rfl rfl ⟨rfl, rfl, Nat.le_of_ble_eq_true rfl⟩ (u2 := .agg [_, _, _, _, _, _]) rfl fun H2 hS2 => ?_
  replace hS2 : Own _ _ _ (_ :: _ :: _ :: _ :: _ :: L.eraseIdx k) := hS2
  refine EZ64_J6 rfl ?_
  refine XW_mid (M := fun ee H' => ∃ (h : Int) (D : AVal), Own β (1 :: 1 :: 1 :: 1 :: ν) H' (row (0 :: 0 :: ν) 6 [.agg [.int .i64 x.t, .int .u64 x.k, .int .u64 x.n, .str x.a, .str x.b, .int .u64 h]] :: row q 4 [.agg [D, R, M, .int .i64 S.bads]] :: sl D 1 (S.draws.map eU) :: sl R 6 (S.rows.map Rw.enc) :: sl M 1 (S.met.map eU) :: L.eraseIdx k) ∧ (h = S.next) ∧ ∃ g : Nat → AVal, ee = [.ptr q 0 0, g 1, g 2, .ptr (0 :: 0 :: ν) 0 0, g 4, .int .i64 S.rows.length, g 6, g 7, g 8, g 9, g 10, g 11, g 12, g 13, g 14, g 15, g 16, g 17, g 18, g 19, g 20, g 21, g 22, g 23, g 24, g 25, g 26, g 27, g 28, g 29, g 30, g 31, g 32, g 33, g 34, g 35, g 36, g 37, g 38, g 39, g 40, g 41, g 42, g 43, g 44, g 45, g 46, g 47, g 48, g 49, g 50, g 51, g 52, g 53, g 54, g 55, g 56, g 57, g 58, g 59, g 60, g 61, g 62, g 63]) ?_ ?_
  ·skip
   refine XW_sr ?_
   refine OW_mv rfl rfl ?_
   refine OW_mv rfl rfl ?_
   first
   | refine OW_nc rfl rfl ?_
   | refine OW_nce rfl rfl ?_
   refine EN64_J6 rfl ?_
   refine OW_fa rfl rfl rfl ?_
   refine OW_loadR hS2 (k := 1) rfl rfl rfl rfl rfl (by first | exact part_whole rfl rfl rfl | rfl) ?_
   refine OW_lenO hS2 (k := 2) rfl rfl rfl rfl rfl rfl (by first | exact List.length_map _ | exact len_app1 | exact len_drop | (simp only [ss]; rfl) | rfl) ?_
   refine EN64_J6 rfl ?_
   refine OW_bin rfl rfl rfl rfl rfl ?_
   refine EZ64_J6 rfl ?_
   refine XW_if rfl (fun h3 => ?_) (fun h3 => ?_)
   ·try simp only [bs] at h3
    refine XW_region ?_
    refine OW_mv rfl rfl ?_
    first
    | refine OW_nc rfl rfl ?_
    | refine OW_nce rfl rfl ?_
    refine OW_fa rfl rfl rfl ?_
    refine EN64_J6 rfl ?_
    refine OW_loadR hS2 (k := 1) rfl rfl rfl rfl rfl (by first | exact part_whole rfl rfl rfl | rfl) ?_
    refine OW_mv rfl rfl ?_
    refine OW_iaO hS2 (k := 2) rfl rfl rfl rfl rfl rfl rfl rfl (by first | rfl | exact (Int.toNat_of_nonneg (by omega)).symm) (by first | assumption | exact at_map (by first | assumption | omega) | exact at_lst (by omega) | rfl) fun q1 ys1 hO1 hq1 ht1 hy1 hu1 => ?_
    subst hO1
    refine EN64_J6 rfl ?_
    refine OW_loadP rfl rfl hq1 hy1 rfl (by first | exact part_whole rfl rfl rfl | rfl) ?_
    refine OW_fa rfl rfl rfl ?_
    refine OW_storeR hS2 (k := 0) rfl (le_lit (ν := ν) (a := [5, 0, 1, 1]) (b := [8, 1, 0, 1, 1, 1]) (by decide)) rfl rfl rfl rfl ⟨rfl, rfl, Nat.le_of_ble_eq_true rfl⟩ (u2 := .agg [_, _, _, _, _, _]) rfl fun H3 hS3 => ?_
    replace hS3 : Own _ _ _ (_ :: _ :: _ :: _ :: _ :: L.eraseIdx k) := hS3
    refine EZ64_J6 rfl ?_
    -- mid 5.1
    refine ⟨_, _, Own.cast (Own.mono (hS3) (le_lit (ν := ν) (a := [9, 1, 0, 1, 1, 1]) (b := [1, 1, 1, 1]) (by decide))) (rfl), ?_, env_g rfl⟩
    · simp only [Rf.next]; rw [List.getElem?_eq_getElem (by omega)]
   ·try simp only [bs] at h3
    refine XW_skip ?_
    -- mid 5.2
    refine ⟨_, _, Own.cast (Own.mono (hS2) (le_lit (ν := ν) (a := [5, 0, 1, 1]) (b := [1, 1, 1, 1]) (by decide))) (rfl), ?_, env_g rfl⟩
    · simp only [Rf.next]; rw [List.getElem?_eq_none (by omega)]
  ·rintro ee H4 ⟨h, D, hS4, hh, g1, rfl⟩
   refine XW_seq ?_
   refine XW_sr ?_
   refine OW_fa rfl rfl rfl ?_
   refine OW_loadR hS4 (k := 0) rfl rfl rfl rfl rfl (by first | exact part_whole rfl rfl rfl | rfl) ?_
   refine OW_bin rfl rfl rfl rfl rfl ?_
   refine EN64_J6 rfl ?_
   refine OW_mv rfl rfl ?_
   refine OW_split (tt := 33) rfl (fun g5_4 => ?_) (fun g5_4 => ?_)
   ·try simp only [bs] at g5_4
    refine OW_no rfl ?_
    refine EN64_J6 rfl ?_
    refine OW_no rfl ?_
    refine OW_no rfl ?_
    refine OW_no rfl ?_
    refine EN64_J6 rfl ?_
    refine OW_pick rfl rfl rfl ?_
    refine OW_mv rfl rfl ?_
    refine OW_no rfl ?_
    refine EN64_J6 rfl ?_
    refine OW_no rfl ?_
    refine OW_no rfl ?_
    refine OW_no rfl ?_
    refine EN64_J6 rfl ?_
    refine OW_pick rfl rfl rfl ?_
    refine EZ64_J6 rfl ?_
    refine XW_yes rfl rfl ?_
    refine XW_region ?_
    refine OW_mv rfl rfl ?_
    first
    | refine OW_nc rfl rfl ?_
    | refine OW_nce rfl rfl ?_
    refine OW_fa rfl rfl rfl ?_
    refine EN64_J6 rfl ?_
    refine OW_loadR hS4 (k := 1) rfl rfl rfl rfl rfl (by first | exact part_whole rfl rfl rfl | rfl) ?_
    first
    | refine OW_bin rfl rfl rfl rfl (add_w64 (by first | omega | assumption | (simp only [ss]; omega))) ?_
    | refine OW_bin rfl rfl rfl rfl rfl ?_
    first
    | refine OW_nc rfl rfl ?_
    | refine OW_nce rfl rfl ?_
    refine EN64_J6 rfl ?_
    refine OW_fa rfl rfl rfl ?_
    refine OW_storeR hS4 (k := 1) rfl (le_app (p := 1 :: 1 :: 1 :: 1 :: ν) (b := [7, 1, 0])) rfl rfl rfl rfl ⟨rfl, rfl, Nat.le_of_ble_eq_true rfl⟩ (u2 := .agg [_, _, _, _]) rfl fun H5 hS5 => ?_
    replace hS5 : Own _ _ _ (_ :: _ :: _ :: _ :: _ :: L.eraseIdx k) := hS5
    refine EZ64_J6 rfl ?_
    refine then_norm ?_
    refine XW_sr ?_
    refine OW_mv rfl rfl ?_
    refine OW_mv rfl rfl ?_
    first
    | refine OW_nc rfl rfl ?_
    | refine OW_nce rfl rfl ?_
    refine EN64_J6 rfl ?_
    refine OW_fa rfl rfl rfl ?_
    refine OW_loadR hS5 (k := 1) rfl rfl rfl rfl rfl (by first | exact part_whole rfl rfl rfl | rfl) ?_
    refine OW_loadR hS5 (k := 0) rfl rfl rfl rfl rfl (by first | exact part_whole rfl rfl rfl | rfl) ?_
    refine EN64_J6 rfl ?_
    refine OW_bs rfl rfl (v := .lst [_]) rfl ?_
    refine OW_app hS5 (k := 3) rfl (le_lit (ν := ν) (a := [8, 1, 0, 1, 1, 1, 1]) (b := [7, 0, 1, 1, 1, 1, 1]) (by decide)) (under_app [7, 0, 1, 1, 1, 1, 1] hβ) rfl rfl rfl rfl rfl rfl rfl rfl (by first | rfl | exact Ls.elems (by assumption)) (by first | exact one_wide rfl | exact map_wide (fun _ => rfl) | assumption | (intro y hy; simp at hy; done)) (by first | omega | (simp only [ss]; omega) | (simp; omega)) (by decide) fun O1 H6 hS6 => ?_
    replace hS6 : Own _ _ _ (_ :: _ :: _ :: _ :: _ :: L.eraseIdx k) := hS6
    first
    | refine OW_nc rfl rfl ?_
    | refine OW_nce rfl rfl ?_
    refine EN64_J6 rfl ?_
    refine OW_fa rfl rfl rfl ?_
    refine OW_storeC hS6 (k := 1) rfl (le_lit (ν := ν) (a := [8, 0, 1, 1, 1, 1, 1]) (b := [10, 0, 1, 1, 1, 1, 1]) (by decide)) rfl rfl rfl (hS6.one (k := 3) rfl) rfl rfl (Nat.le_of_ble_eq_true rfl) (u2 := .agg [_, _, _, _]) rfl fun H7 hS7 => ?_
    replace hS7 : Own _ _ _ (_ :: _ :: _ :: _ :: _ :: L.eraseIdx k) := hS7
    refine EZ64_J6 rfl ?_
    refine XW_sr ?_
    refine OW_fa rfl rfl rfl ?_
    refine OW_loadR hS7 (k := 0) rfl rfl rfl rfl rfl (by first | exact part_whole rfl rfl rfl | rfl) ?_
    refine OW_as rfl rfl ?_
    refine EZ64_J6 rfl ?_
    refine XW_ret ?_
    -- outcome 1
    refine ret_ret (res1 rfl (rv_tmp rfl)) ?_
    rw [← hh] at hq; exact hq _ (Own.unpick (Own.re (Own.mk_rorc (m := S.bads + 1) (rs := S.rows ++ [Rw.mk x.t x.k x.n x.a x.b h]) (mt := S.met) (Own.drop0 (Own.mono hS7 (le_bef (bef_app (a := [11, 0, 1, 1, 1, 1, 1]) hp)))) (by simp) (by exact map_snoc (f := Rw.enc) (l := S.rows) (a := Rw.mk x.t x.k x.n x.a x.b h)) rfl) (by simp only [Rf.draw, ← hh]; rw [show S.isBad h = true by simp [Rf.isBad]; simp_all]; rfl)) hL)
   ·try simp only [bs] at g5_4
    refine OW_mv rfl rfl ?_
    refine EN64_J6 rfl ?_
    refine OW_fa rfl rfl rfl ?_
    refine OW_loadR hS4 (k := 0) rfl rfl rfl rfl rfl (by first | exact part_whole rfl rfl rfl | rfl) ?_
    refine OW_fn rfl rfl (rIssued (S := S) hS4 (k0 := 1) rfl (k1 := 2) rfl (le_app (p := 1 :: 1 :: 1 :: 1 :: ν) (b := [7, 0, 0])) (under_app [7, 0, 0, 1, 1, 1, 1] hβ) (before_lit (ν := ν) (a := [7, 0, 0, 1, 1, 1, 1]) (b := [8, 0, 0, 1, 1, 1, 1]) (by decide)) hn _ fun H8 hS8 => ?_) 
    replace hS8 : Own _ _ _ (_ :: _ :: _ :: _ :: _ :: L.eraseIdx k) := hS8
    refine EN64_J6 rfl ?_
    refine OW_pick rfl rfl rfl ?_
    refine OW_mv rfl rfl ?_
    refine OW_split (tt := 39) rfl (fun g5_10 => ?_) (fun g5_10 => ?_)
    ·try simp only [bs] at g5_10
     refine EN64_J6 rfl ?_
     refine OW_no rfl ?_
     refine OW_no rfl ?_
     refine OW_no rfl ?_
     refine EN64_J6 rfl ?_
     refine OW_no rfl ?_
     refine OW_pick rfl rfl rfl ?_
     refine EZ64_J6 rfl ?_
     refine XW_yes rfl rfl ?_
     refine XW_region ?_
     refine OW_mv rfl rfl ?_
     first
     | refine OW_nc rfl rfl ?_
     | refine OW_nce rfl rfl ?_
     refine OW_fa rfl rfl rfl ?_
     refine EN64_J6 rfl ?_
     refine OW_loadR hS8 (k := 1) rfl rfl rfl rfl rfl (by first | exact part_whole rfl rfl rfl | rfl) ?_
     first
     | refine OW_bin rfl rfl rfl rfl (add_w64 (by first | omega | assumption | (simp only [ss]; omega))) ?_
     | refine OW_bin rfl rfl rfl rfl rfl ?_
     first
     | refine OW_nc rfl rfl ?_
     | refine OW_nce rfl rfl ?_
     refine EN64_J6 rfl ?_
     refine OW_fa rfl rfl rfl ?_
     refine OW_storeR hS8 (k := 1) rfl (le_lit (ν := ν) (a := [8, 0, 0, 1, 1, 1, 1]) (b := [7, 1, 0, 1, 1, 1, 1]) (by decide)) rfl rfl rfl rfl ⟨rfl, rfl, Nat.le_of_ble_eq_true rfl⟩ (u2 := .agg [_, _, _, _]) rfl fun H9 hS9 => ?_
     replace hS9 : Own _ _ _ (_ :: _ :: _ :: _ :: _ :: L.eraseIdx k) := hS9
     refine EZ64_J6 rfl ?_
     refine then_norm ?_
     refine XW_sr ?_
     refine OW_mv rfl rfl ?_
     refine OW_mv rfl rfl ?_
     first
     | refine OW_nc rfl rfl ?_
     | refine OW_nce rfl rfl ?_
     refine EN64_J6 rfl ?_
     refine OW_fa rfl rfl rfl ?_
     refine OW_loadR hS9 (k := 1) rfl rfl rfl rfl rfl (by first | exact part_whole rfl rfl rfl | rfl) ?_
     refine OW_loadR hS9 (k := 0) rfl rfl rfl rfl rfl (by first | exact part_whole rfl rfl rfl | rfl) ?_
     refine EN64_J6 rfl ?_
     refine OW_bs rfl rfl (v := .lst [_]) rfl ?_
     refine OW_app hS9 (k := 3) rfl (le_lit (ν := ν) (a := [8, 1, 0, 1, 1, 1, 1]) (b := [7, 0, 1, 1, 1, 1, 1]) (by decide)) (under_app [7, 0, 1, 1, 1, 1, 1] hβ) rfl rfl rfl rfl rfl rfl rfl rfl (by first | rfl | exact Ls.elems (by assumption)) (by first | exact one_wide rfl | exact map_wide (fun _ => rfl) | assumption | (intro y hy; simp at hy; done)) (by first | omega | (simp only [ss]; omega) | (simp; omega)) (by decide) fun O2 H10 hS10 => ?_
     replace hS10 : Own _ _ _ (_ :: _ :: _ :: _ :: _ :: L.eraseIdx k) := hS10
     first
     | refine OW_nc rfl rfl ?_
     | refine OW_nce rfl rfl ?_
     refine EN64_J6 rfl ?_
     refine OW_fa rfl rfl rfl ?_
     refine OW_storeC hS10 (k := 1) rfl (le_lit (ν := ν) (a := [8, 0, 1, 1, 1, 1, 1]) (b := [10, 0, 1, 1, 1, 1, 1]) (by decide)) rfl rfl rfl (hS10.one (k := 3) rfl) rfl rfl (Nat.le_of_ble_eq_true rfl) (u2 := .agg [_, _, _, _]) rfl fun H11 hS11 => ?_
     replace hS11 : Own _ _ _ (_ :: _ :: _ :: _ :: _ :: L.eraseIdx k) := hS11
     refine EZ64_J6 rfl ?_
     refine XW_sr ?_
     refine OW_fa rfl rfl rfl ?_
     refine OW_loadR hS11 (k := 0) rfl rfl rfl rfl rfl (by first | exact part_whole rfl rfl rfl | rfl) ?_
     refine OW_as rfl rfl ?_
     refine EZ64_J6 rfl ?_
     refine XW_ret ?_
     -- outcome 2
     refine ret_ret (res1 rfl (rv_tmp rfl)) ?_
     rw [← hh] at hq; exact hq _ (Own.unpick (Own.re (Own.mk_rorc (m := S.bads + 1) (rs := S.rows ++ [Rw.mk x.t x.k x.n x.a x.b h]) (mt := S.met) (Own.drop0 (Own.mono hS11 (le_bef (bef_app (a := [11, 0, 1, 1, 1, 1, 1]) hp)))) (by simp) (by exact map_snoc (f := Rw.enc) (l := S.rows) (a := Rw.mk x.t x.k x.n x.a x.b h)) rfl) (by simp only [Rf.draw, ← hh]; rw [show S.isBad h = true by simp [Rf.isBad]; simp_all]; rfl)) hL)
    ·try simp only [bs] at g5_10
     refine EN64_J6 rfl ?_
     refine OW_mv rfl rfl ?_
     refine OW_fa rfl rfl rfl ?_
     refine OW_loadR hS8 (k := 0) rfl rfl rfl rfl rfl (by first | exact part_whole rfl rfl rfl | rfl) ?_
     refine EN64_J6 rfl ?_
     refine OW_fn rfl rfl (rShown (S := S) hS8 (k0 := 1) rfl (k1 := 3) rfl (le_lit (ν := ν) (a := [8, 0, 0, 1, 1, 1, 1]) (b := [13, 0, 0, 1, 1, 1, 1]) (by decide)) (under_app [13, 0, 0, 1, 1, 1, 1] hβ) (before_lit (ν := ν) (a := [13, 0, 0, 1, 1, 1, 1]) (b := [14, 0, 0, 1, 1, 1, 1]) (by decide)) hn _ fun H12 hS12 => ?_) 
     replace hS12 : Own _ _ _ (_ :: _ :: _ :: _ :: _ :: L.eraseIdx k) := hS12
     refine OW_pick rfl rfl rfl ?_
     refine EZ64_J6 rfl ?_
     refine XW_if rfl (fun h5 => ?_) (fun h5 => ?_)
     ·try simp only [bs] at h5
      refine XW_region ?_
      refine OW_mv rfl rfl ?_
      first
      | refine OW_nc rfl rfl ?_
      | refine OW_nce rfl rfl ?_
      refine OW_fa rfl rfl rfl ?_
      refine EN64_J6 rfl ?_
      refine OW_loadR hS12 (k := 1) rfl rfl rfl rfl rfl (by first | exact part_whole rfl rfl rfl | rfl) ?_
      first
      | refine OW_bin rfl rfl rfl rfl (add_w64 (by first | omega | assumption | (simp only [ss]; omega))) ?_
      | refine OW_bin rfl rfl rfl rfl rfl ?_
      first
      | refine OW_nc rfl rfl ?_
      | refine OW_nce rfl rfl ?_
      refine EN64_J6 rfl ?_
      refine OW_fa rfl rfl rfl ?_
      refine OW_storeR hS12 (k := 1) rfl (le_lit (ν := ν) (a := [14, 0, 0, 1, 1, 1, 1]) (b := [7, 1, 0, 1, 1, 1, 1]) (by decide)) rfl rfl rfl rfl ⟨rfl, rfl, Nat.le_of_ble_eq_true rfl⟩ (u2 := .agg [_, _, _, _]) rfl fun H13 hS13 => ?_
      replace hS13 : Own _ _ _ (_ :: _ :: _ :: _ :: _ :: L.eraseIdx k) := hS13
      refine EZ64_J6 rfl ?_
      refine then_norm ?_
      refine XW_sr ?_
      refine OW_mv rfl rfl ?_
      refine OW_mv rfl rfl ?_
      first
      | refine OW_nc rfl rfl ?_
      | refine OW_nce rfl rfl ?_
      refine EN64_J6 rfl ?_
      refine OW_fa rfl rfl rfl ?_
      refine OW_loadR hS13 (k := 1) rfl rfl rfl rfl rfl (by first | exact part_whole rfl rfl rfl | rfl) ?_
      refine OW_loadR hS13 (k := 0) rfl rfl rfl rfl rfl (by first | exact part_whole rfl rfl rfl | rfl) ?_
      refine EN64_J6 rfl ?_
      refine OW_bs rfl rfl (v := .lst [_]) rfl ?_
      refine OW_app hS13 (k := 3) rfl (le_lit (ν := ν) (a := [8, 1, 0, 1, 1, 1, 1]) (b := [7, 0, 1, 1, 1, 1, 1]) (by decide)) (under_app [7, 0, 1, 1, 1, 1, 1] hβ) rfl rfl rfl rfl rfl rfl rfl rfl (by first | rfl | exact Ls.elems (by assumption)) (by first | exact one_wide rfl | exact map_wide (fun _ => rfl) | assumption | (intro y hy; simp at hy; done)) (by first | omega | (simp only [ss]; omega) | (simp; omega)) (by decide) fun O3 H14 hS14 => ?_
      replace hS14 : Own _ _ _ (_ :: _ :: _ :: _ :: _ :: L.eraseIdx k) := hS14
      first
      | refine OW_nc rfl rfl ?_
      | refine OW_nce rfl rfl ?_
      refine EN64_J6 rfl ?_
      refine OW_fa rfl rfl rfl ?_
      refine OW_storeC hS14 (k := 1) rfl (le_lit (ν := ν) (a := [8, 0, 1, 1, 1, 1, 1]) (b := [10, 0, 1, 1, 1, 1, 1]) (by decide)) rfl rfl rfl (hS14.one (k := 3) rfl) rfl rfl (Nat.le_of_ble_eq_true rfl) (u2 := .agg [_, _, _, _]) rfl fun H15 hS15 => ?_
      replace hS15 : Own _ _ _ (_ :: _ :: _ :: _ :: _ :: L.eraseIdx k) := hS15
      refine EZ64_J6 rfl ?_
      refine XW_sr ?_
      refine OW_fa rfl rfl rfl ?_
      refine OW_loadR hS15 (k := 0) rfl rfl rfl rfl rfl (by first | exact part_whole rfl rfl rfl | rfl) ?_
      refine OW_as rfl rfl ?_
      refine EZ64_J6 rfl ?_
      refine XW_ret ?_
      -- outcome 3
      refine ret_ret (res1 rfl (rv_tmp rfl)) ?_
      rw [← hh] at hq; exact hq _ (Own.unpick (Own.re (Own.mk_rorc (m := S.bads + 1) (rs := S.rows ++ [Rw.mk x.t x.k x.n x.a x.b h]) (mt := S.met) (Own.drop0 (Own.mono hS15 (le_bef (bef_app (a := [11, 0, 1, 1, 1, 1, 1]) hp)))) (by simp) (by exact map_snoc (f := Rw.enc) (l := S.rows) (a := Rw.mk x.t x.k x.n x.a x.b h)) rfl) (by simp only [Rf.draw, ← hh]; rw [show S.isBad h = true by simp [Rf.isBad]; simp_all]; rfl)) hL)
     ·try simp only [bs] at h5
      refine XW_skip ?_
      refine then_norm ?_
      refine XW_sr ?_
      refine OW_mv rfl rfl ?_
      refine OW_mv rfl rfl ?_
      first
      | refine OW_nc rfl rfl ?_
      | refine OW_nce rfl rfl ?_
      refine EN64_J6 rfl ?_
      refine OW_fa rfl rfl rfl ?_
      refine OW_loadR hS12 (k := 1) rfl rfl rfl rfl rfl (by first | exact part_whole rfl rfl rfl | rfl) ?_
      refine OW_loadR hS12 (k := 0) rfl rfl rfl rfl rfl (by first | exact part_whole rfl rfl rfl | rfl) ?_
      refine EN64_J6 rfl ?_
      refine OW_bs rfl rfl (v := .lst [_]) rfl ?_
      refine OW_app hS12 (k := 3) rfl (le_lit (ν := ν) (a := [14, 0, 0, 1, 1, 1, 1]) (b := [7, 0, 1, 1, 1, 1, 1]) (by decide)) (under_app [7, 0, 1, 1, 1, 1, 1] hβ) rfl rfl rfl rfl rfl rfl rfl rfl (by first | rfl | exact Ls.elems (by assumption)) (by first | exact one_wide rfl | exact map_wide (fun _ => rfl) | assumption | (intro y hy; simp at hy; done)) (by first | omega | (simp only [ss]; omega) | (simp; omega)) (by decide) fun O4 H16 hS16 => ?_
      replace hS16 : Own _ _ _ (_ :: _ :: _ :: _ :: _ :: L.eraseIdx k) := hS16
      first
      | refine OW_nc rfl rfl ?_
      | refine OW_nce rfl rfl ?_
      refine EN64_J6 rfl ?_
      refine OW_fa rfl rfl rfl ?_
      refine OW_storeC hS16 (k := 1) rfl (le_lit (ν := ν) (a := [8, 0, 1, 1, 1, 1, 1]) (b := [10, 0, 1, 1, 1, 1, 1]) (by decide)) rfl rfl rfl (hS16.one (k := 3) rfl) rfl rfl (Nat.le_of_ble_eq_true rfl) (u2 := .agg [_, _, _, _]) rfl fun H17 hS17 => ?_
      replace hS17 : Own _ _ _ (_ :: _ :: _ :: _ :: _ :: L.eraseIdx k) := hS17
      refine EZ64_J6 rfl ?_
      refine XW_sr ?_
      refine OW_fa rfl rfl rfl ?_
      refine OW_loadR hS17 (k := 0) rfl rfl rfl rfl rfl (by first | exact part_whole rfl rfl rfl | rfl) ?_
      refine OW_as rfl rfl ?_
      refine EZ64_J6 rfl ?_
      refine XW_ret ?_
      -- outcome 4
      refine ret_ret (res1 rfl (rv_tmp rfl)) ?_
      rw [← hh] at hq; exact hq _ (Own.unpick (Own.re (Own.mk_rorc (m := S.bads) (rs := S.rows ++ [Rw.mk x.t x.k x.n x.a x.b h]) (mt := S.met) (Own.drop0 (Own.mono hS17 (le_bef (bef_app (a := [11, 0, 1, 1, 1, 1, 1]) hp)))) (by simp) (by exact map_snoc (f := Rw.enc) (l := S.rows) (a := Rw.mk x.t x.k x.n x.a x.b h)) rfl) (by simp only [Rf.draw, ← hh]; rw [show S.isBad h = false by simp [Rf.isBad]; simp_all]; rfl)) hL)
theorem rDrawn (hS : Own β ps H L) (hL : L[k]? = some (rorc q S)) (hle : le ps ν) (hβ : under β ν = true) (hp : before ν pos') (hq : ∀ H1, Own β pos' H1 L → Q (.int .i64 S.rows.length) H1) : CW cfg ν 20 [.ptr q 0 0] H Q := by
  obtain ⟨D, R, M, hS⟩ := (hS.pick hL).un_rorc
  refine CW_keep g20 F20 rfl ?_
  replace hS := Own.mono hS hle
  refine XW_sr ?_
  refine OW_as rfl rfl ?_
  refine OW_nilE (e' := [_,_,_,_,_,_,_,_]) rfl ?_
  refine XW_sr ?_
  refine OW_mv rfl rfl ?_
  first
  | refine OW_nc rfl rfl ?_
  | refine OW_nce rfl rfl ?_
  refine OW_fa rfl rfl rfl ?_
  refine OW_env (e' := [_,_,_,_,_,_,_,_]) rfl ?_
  refine OW_loadR hS (k := 0) rfl rfl rfl rfl rfl (by first | exact part_whole rfl rfl rfl | rfl) ?_
  refine OW_lenO hS (k := 2) rfl rfl rfl rfl rfl rfl (by first | exact List.length_map _ | exact len_app1 | exact len_drop | (simp only [ss]; rfl) | rfl) ?_
  refine OW_as rfl rfl ?_
  refine OW_nilE (e' := [_,_,_,_,_,_,_,_]) rfl ?_
  refine XW_ret ?_
  -- outcome 1
  refine ret_ret (res1 rfl (rv_tmp rfl)) ?_
  exact hq _ (Own.cast (Own.unpick (Own.mk_rorc (m := S.bads) (Own.mono hS (le_bef hp)) rfl) hL) (set_get_self hL))
theorem Rf.at_cases (S : Rf) (x : Rw) : (S.rows.find? (fun y => x.same y) = none ∧ S.at_ x = -1) ∨ ∃ (i : Nat) (h : i < S.rows.length), S.rows.find? (fun y => x.same y) = some S.rows[i] ∧ S.at_ x = i := by
  have hat := find_first (fun y => x.same y) S.rows 0 (by omega)
  rw [show firstI (fun y => x.same y) S.rows 0 = S.at_ x from rfl] at hat
  simpa using hat
theorem Rf.at_lt {S : Rf} {x : Rw} (h : S.at_ x ≥ 0) : (S.at_ x).toNat < S.rows.length := by
  rcases S.at_cases x with ⟨_, h1⟩ | ⟨i, h3, _, h1⟩ <;> omega
theorem Rf.at_old {S : Rf} {x : Rw} (h : S.at_ x ≥ 0) (hlt : (S.at_ x).toNat < S.rows.length) : S.rows.find? (fun y => x.same y) = some S.rows[(S.at_ x).toNat] := by
  rcases S.at_cases x with ⟨_, h1⟩ | ⟨i, h3, h2, h1⟩
  · omega
  · rw [h2]; simp only [h1, Int.toNat_natCast]
theorem Rf.at_new {S : Rf} {x : Rw} (h : ¬ S.at_ x ≥ 0) : S.rows.find? (fun y => x.same y) = none := by
  rcases S.at_cases x with ⟨h2, h1⟩ | ⟨i, h3, h2, h1⟩
  · exact h2
  · omega
theorem rDrawO {D R M : AVal} (hS : Own β ps H (row q 4 [.agg [D, R, M, .int .i64 S.bads]] :: sl D 1 (S.draws.map eU) :: sl R 6 (S.rows.map Rw.enc) :: sl M 1 (S.met.map eU) :: L)) (hle : le ps ν) (hβ : under β ν = true) (hp : before ν pos') (hn : S.le 4294967000) (x : Rw) (hq : ∀ H1 D R M, Own β pos' H1 (row q 4 [.agg [D, R, M, .int .i64 (S.draw x).bads]] :: sl D 1 ((S.draw x).draws.map eU) :: sl R 6 ((S.draw x).rows.map Rw.enc) :: sl M 1 ((S.draw x).met.map eU) :: L) → Q (.int .u64 S.next) H1) : CW cfg ν 92 [.ptr q 0 0, x.enc] H Q :=
  rDraw (L := rorc q S :: L) (k := 0) (Own.mk_rorc (m := S.bads) hS rfl) rfl hle hβ hp hn x fun H1 h1 => by
    obtain ⟨D, R, M, h1⟩ := Own.un_rorc h1
    exact hq _ _ _ _ h1
theorem rDrawX {X : Asr} {D R M : AVal} (hS : Own β ps H (X :: row q 4 [.agg [D, R, M, .int .i64 S.bads]] :: sl D 1 (S.draws.map eU) :: sl R 6 (S.rows.map Rw.enc) :: sl M 1 (S.met.map eU) :: L)) (hle : le ps ν) (hβ : under β ν = true) (hp : before ν pos') (hn : S.le 4294967000) (x : Rw) (hq : ∀ H1 D R M, Own β pos' H1 (X :: row q 4 [.agg [D, R, M, .int .i64 (S.draw x).bads]] :: sl D 1 ((S.draw x).draws.map eU) :: sl R 6 ((S.draw x).rows.map Rw.enc) :: sl M 1 ((S.draw x).met.map eU) :: L) → Q (.int .u64 S.next) H1) : CW cfg ν 92 [.ptr q 0 0, x.enc] H Q :=
  rDrawO (L := X :: L) (Own.rot (A := [_, _, _, _]) hS) hle hβ hp hn x fun H1 D R M h1 => hq _ _ _ _ (Own.tor (A := [_, _, _, _]) h1)
theorem rValue (hS : Own β ps H L) (hL : L[k]? = some (rorc q S)) (hle : le ps ν) (hβ : under β ν = true) (hp : before ν pos') (hn : S.le 4294967000) (x : Rw) (hq : ∀ H1, Own β pos' H1 (L.set k (rorc q (S.value x).2)) → Q (.int .u64 (S.value x).1) H1) : CW cfg ν 89 [.ptr q 0 0, x.enc] H Q := by
  have hnr := hn.rows
  obtain ⟨D, R, M, hS⟩ := (hS.pick hL).un_rorc
  refine CW_keep g89 F89 rfl ?_
  replace hS := Own.mono hS hle
  refine XW_sr ?_
  refine OW_boxR hS (le_app (p := ν) (b := [0, 0])) (under_app [0, 0] hβ) rfl rfl rfl ⟨rfl, rfl⟩ fun H1 hS1 => ?_
  replace hS1 : Own _ _ _ (_ :: _ :: _ :: _ :: _ :: L.eraseIdx k) := hS1
  refine OW_as rfl rfl ?_
  refine OW_nilE (e' := [_,_,_,_,_,_,_,_,_,_,_,_,_,_,_,_,_,_,_,_,_,_]) rfl ?_
  refine XW_sr ?_
  refine OW_mv rfl rfl ?_
  refine OW_loadR hS1 (k := 0) rfl rfl rfl rfl rfl (by first | exact part_whole rfl rfl rfl | rfl) ?_
  refine OW_fn rfl rfl (rAt (S := S) hS1 (k0 := 1) rfl (k1 := 2) rfl (le_lit (ν := ν) (a := [1, 0]) (b := [2, 0, 1]) (by decide)) (under_app [2, 0, 1] hβ) (before_lit (ν := ν) (a := [2, 0, 1]) (b := [3, 0, 1]) (by decide)) hn _ fun H2 hS2 => ?_) 
  replace hS2 : Own _ _ _ (_ :: _ :: _ :: _ :: _ :: L.eraseIdx k) := hS2
  refine OW_env (e' := [_,_,_,_,_,_,_,_,_,_,_,_,_,_,_,_,_,_,_,_,_,_]) rfl ?_
  refine OW_as rfl rfl ?_
  refine OW_nilE (e' := [_,_,_,_,_,_,_,_,_,_,_,_,_,_,_,_,_,_,_,_,_,_]) rfl ?_
  refine XW_seq ?_
  refine XW_sr ?_
  refine OW_mv rfl rfl ?_
  refine OW_bin rfl rfl rfl rfl rfl ?_
  refine OW_nilE (e' := [_,_,_,_,_,_,_,_,_,_,_,_,_,_,_,_,_,_,_,_,_,_]) rfl ?_
  refine XW_if rfl (fun h2 => ?_) (fun h2 => ?_)
  ·try simp only [bs] at h2
   refine XW_sr ?_
   have hlt := Rf.at_lt h2
   refine OW_mv rfl rfl ?_
   first
   | refine OW_nc rfl rfl ?_
   | refine OW_nce rfl rfl ?_
   refine OW_fa rfl rfl rfl ?_
   refine OW_env (e' := [_,_,_,_,_,_,_,_,_,_,_,_,_,_,_,_,_,_,_,_,_,_]) rfl ?_
   refine OW_loadR hS2 (k := 1) rfl rfl rfl rfl rfl (by first | exact part_whole rfl rfl rfl | rfl) ?_
   refine OW_mv rfl rfl ?_
   refine OW_iaO hS2 (k := 3) rfl rfl rfl rfl rfl rfl rfl rfl (by first | rfl | exact (Int.toNat_of_nonneg (by omega)).symm) (by first | assumption | exact at_map (by first | assumption | omega) | exact at_lst (by omega) | rfl) fun q1 ys1 hO1 hq1 ht1 hy1 hu1 => ?_
   subst hO1
   refine OW_env (e' := [_,_,_,_,_,_,_,_,_,_,_,_,_,_,_,_,_,_,_,_,_,_]) rfl ?_
   refine OW_fa rfl rfl rfl ?_
   refine OW_loadP rfl rfl hq1 hy1 rfl (by first | exact part_whole rfl rfl rfl | rfl) ?_
   refine OW_as rfl rfl ?_
   refine OW_nilE (e' := [_,_,_,_,_,_,_,_,_,_,_,_,_,_,_,_,_,_,_,_,_,_]) rfl ?_
   refine XW_ret ?_
   refine then_ret ?_
   -- outcome 1
   refine ret_ret (res1 rfl (rv_tmp rfl)) ?_
   simp only [Rf.value, Rf.at_old h2 hlt] at hq; exact hq _ (Own.unpick (Own.mk_rorc (m := S.bads) (Own.drop0 (Own.mono hS2 (le_bef (bef_app (a := [3, 0, 1]) hp)))) rfl) hL)
  ·try simp only [bs] at h2
   refine XW_skip ?_
   refine then_norm ?_
   refine XW_sr ?_
   refine OW_mv rfl rfl ?_
   refine OW_loadR hS2 (k := 0) rfl rfl rfl rfl rfl (by first | exact part_whole rfl rfl rfl | rfl) ?_
   refine OW_fn rfl rfl (rDrawX hS2 (le_lit (ν := ν) (a := [3, 0, 1]) (b := [2, 0, 1, 1, 1]) (by decide)) (under_app [2, 0, 1, 1, 1] hβ) (before_lit (ν := ν) (a := [2, 0, 1, 1, 1]) (b := [3, 0, 1, 1, 1]) (by decide)) hn _ fun H3 D1 R1 M1 hS3 => ?_) 
   replace hS3 : Own _ _ _ (_ :: _ :: _ :: _ :: _ :: L.eraseIdx k) := hS3
   refine OW_env (e' := [_,_,_,_,_,_,_,_,_,_,_,_,_,_,_,_,_,_,_,_,_,_]) rfl ?_
   refine OW_as rfl rfl ?_
   refine OW_nilE (e' := [_,_,_,_,_,_,_,_,_,_,_,_,_,_,_,_,_,_,_,_,_,_]) rfl ?_
   refine XW_ret ?_
   -- outcome 2
   refine ret_ret (res1 rfl (rv_tmp rfl)) ?_
   simp only [Rf.value, Rf.at_new h2] at hq; exact hq _ (Own.unpick (Own.mk_rorc (m := (S.draw x).bads) (Own.drop0 (Own.mono hS3 (le_bef (bef_app (a := [3, 0, 1, 1, 1]) hp)))) rfl) hL)
end Go.Proofs.Ytealccnfnpkngaa.X
/- What the reference's oracle does: any call, a new one. -/
set_option linter.unusedVariables false
set_option linter.unusedSimpArgs false
set_option maxRecDepth 100000
namespace Go.Proofs.Ytealccnfnpkngaa.X
open Go Go.RowKit
variable {ν β ps pos' : Nm} {H : Heap} {Q : AVal → Heap → Prop} {L : List Asr} {q : Nm} {k : Nat} {S : Rf}
theorem rMac (hS : Own β ps H L) (hL : L[k]? = some (rorc q S)) (hle : le ps ν) (hβ : under β ν = true) (hp : before ν pos') (hn : S.le 4294967000) (kk : Int) (a : ByteArray) (hq : ∀ H1, Own β pos' H1 (L.set k (rorc q (S.mac kk a).2)) → Q (.int .u64 (S.mac kk a).1) H1) : CW cfg ν 77 [.ptr q 0 0, .int .u64 kk, .str a] H Q := by
  replace hS := hS.pick hL
  refine CW_keep g77 F77 rfl ?_
  replace hS := Own.mono hS hle
  refine XW_sr ?_
  refine OW_as rfl rfl ?_
  refine OW_nilE (e' := [_,_,_,_,_,_,_,_,_,_,_,_]) rfl ?_
  refine XW_sr ?_
  refine OW_mv rfl rfl ?_
  refine OW_mv rfl rfl ?_
  refine OW_mv rfl rfl ?_
  refine OW_env (e' := [_,_,_,_,_,_,_,_,_,_,_,_]) rfl ?_
  refine OW_bd rfl rfl (v := .agg [_, _, _, _, _, _]) rfl ?_
  refine OW_fn rfl rfl (rValue hS (k := 0) rfl (le_app (p := ν) (b := [4, 0, 1])) (under_app [4, 0, 1] hβ) (before_lit (ν := ν) (a := [4, 0, 1]) (b := [5, 0, 1]) (by decide)) hn ⟨2, kk, 0, a, ⟨#[]⟩, 0⟩ fun H1 hS1 => ?_) 
  replace hS1 : Own _ _ _ (_ :: L.eraseIdx k) := hS1
  refine OW_as rfl rfl ?_
  refine OW_nilE (e' := [_,_,_,_,_,_,_,_,_,_,_,_]) rfl ?_
  refine XW_ret ?_
  -- outcome 1
  refine ret_ret (res1 rfl (rv_tmp rfl)) ?_
  exact hq _ (Own.unpick (Own.mono hS1 (le_bef (bef_app (a := [5, 0, 1]) hp))) hL)
def Rf.act (S : Rf) (c : Ca) : Int × ByteArray × Bool × Rf :=
  if c.d = 0 then (S.next, ⟨#[]⟩, true, S.fresh)
  else if c.d = 1 then ((S.hash c.a).1, ⟨#[]⟩, true, (S.hash c.a).2)
  else if c.d = 2 then ((S.mac c.k c.a).1, ⟨#[]⟩, true, (S.mac c.k c.a).2)
  else if c.d = 3 then (0, ⟨#[]⟩, (S.verify c.k c.a c.h).1, (S.verify c.k c.a c.h).2)
  else if c.d = 4 then ((S.sealv c.k c.n c.a c.b).1, ⟨#[]⟩, true, (S.sealv c.k c.n c.a c.b).2)
  else if c.d = 5 then (0, (S.opens c.k c.n c.a c.h).1.1, (S.opens c.k c.n c.a c.h).1.2, (S.opens c.k c.n c.a c.h).2)
  else if c.d = 6 then (0, ⟨#[]⟩, false, S.meet c.h)
  else (0, ⟨#[]⟩, false, S)
theorem Rf.act0 {c : Ca} (h : c.d = 0) : S.act c = (S.next, ⟨#[]⟩, true, S.fresh) := by simp [Rf.act, h]
theorem Rf.act1 {c : Ca} (h : c.d = 1) : S.act c = ((S.hash c.a).1, ⟨#[]⟩, true, (S.hash c.a).2) := by simp [Rf.act, h]
theorem Rf.act2 {c : Ca} (h : c.d = 2) : S.act c = ((S.mac c.k c.a).1, ⟨#[]⟩, true, (S.mac c.k c.a).2) := by simp [Rf.act, h]
theorem Rf.act3 {c : Ca} (h : c.d = 3) : S.act c = (0, ⟨#[]⟩, (S.verify c.k c.a c.h).1, (S.verify c.k c.a c.h).2) := by simp [Rf.act, h]
theorem Rf.act4 {c : Ca} (h : c.d = 4) : S.act c = ((S.sealv c.k c.n c.a c.b).1, ⟨#[]⟩, true, (S.sealv c.k c.n c.a c.b).2) := by simp [Rf.act, h]
theorem Rf.act5 {c : Ca} (h : c.d = 5) : S.act c = (0, (S.opens c.k c.n c.a c.h).1.1, (S.opens c.k c.n c.a c.h).1.2, (S.opens c.k c.n c.a c.h).2) := by simp [Rf.act, h]
theorem Rf.act6 {c : Ca} (h : c.d = 6) : S.act c = (0, ⟨#[]⟩, false, S.meet c.h) := by simp [Rf.act, h]
theorem Rf.act7 {c : Ca} (h0 : ¬ c.d = 0) (h1 : ¬ c.d = 1) (h2 : ¬ c.d = 2) (h3 : ¬ c.d = 3) (h4 : ¬ c.d = 4) (h5 : ¬ c.d = 5) (h6 : ¬ c.d = 6) : S.act c = (0, ⟨#[]⟩, false, S) := by simp [Rf.act, h0, h1, h2, h3, h4, h5, h6]
def Rf.new (d : List Int) : Rf := ⟨d, [], [], 0⟩
theorem rNew (hS : Own β ps H L) (hle : le ps ν) (hβ : under β ν = true) (hp : before ν pos') {v : AVal} {d : List Int} (hv : Ls v (d.map Int.enc)) (hd : d.length ≤ 4294967000)
    (hq : ∀ q H1, Own β pos' H1 (rorc q (Rf.new d) :: L) → Q (.ptr q 0 0) H1) : CW cfg ν 16 [v] H Q := by
  refine CW_keep g16 F16 rfl ?_
  replace hS := Own.mono hS hle
  refine XW_sr ?_
  refine OW_as rfl rfl ?_
  refine OW_nilE (e' := [_,_,_,_,_,_,_,_]) rfl ?_
  refine XW_sr ?_
  refine OW_bs rfl rfl rfl ?_
  refine OW_mv rfl rfl ?_
  refine OW_appE hS (le_app (p := ν) (b := [2, 0, 1])) (under_app [2, 0, 1] hβ) rfl rfl rfl rfl rfl rfl rfl rfl (by first | rfl | exact Ls.elems (by assumption)) (by first | exact one_wide rfl | exact map_wide (fun _ => rfl) | assumption | (intro y hy; simp at hy; done)) (by first | omega | (simp only [ss]; omega) | (simp; omega)) (by decide) fun O1 H1 hS1 => ?_
  replace hS1 : Own _ _ _ (_ :: L) := hS1
  refine OW_env (e' := [_,_,_,_,_,_,_,_]) rfl ?_
  refine OW_bdP rfl (pcons rfl (hS1.one (k := 0) rfl).1 rfl) rfl rfl rfl (cs := [_, _, _, _]) (fill1 rfl (hS1.one (k := 0) rfl).2 rfl (Nat.le_of_ble_eq_true rfl) rfl rfl) ?_
  refine OW_boxR hS1 (le_lit (ν := ν) (a := [3, 0, 1]) (b := [4, 0, 1]) (by decide)) (under_app [4, 0, 1] hβ) rfl rfl rfl ⟨rfl, rfl⟩ fun H2 hS2 => ?_
  replace hS2 : Own _ _ _ (_ :: _ :: L) := hS2
  refine OW_as rfl rfl ?_
  refine OW_nilE (e' := [_,_,_,_,_,_,_,_]) rfl ?_
  refine XW_ret ?_
  -- outcome 1
  refine ret_ret (res1 rfl (rv_tmp rfl)) ?_
  exact hq _ _ (Own.mk_rorc (m := 0) (d := d) (rs := []) (mt := []) (Own.tor (A := [_, _, _]) (Own.tor (A := [_, _, _]) (Own.addE (w := 6) (Own.addE (w := 1) (Own.mono hS2 (le_bef (bef_app (a := [5, 0, 1]) hp))))))) rfl rfl rfl)
end Go.Proofs.Ytealccnfnpkngaa.X
/- The program's oracle and the reference's: the same, call by call. -/
set_option linter.unusedVariables false
set_option linter.unusedSimpArgs false
namespace Go.Proofs.Ytealccnfnpkngaa.X
open Go Go.RowKit
namespace Rf
variable {S : Rf}
def t3 (y : Rw) : Bool := decide (y.t = 3)
def hsF (S : Rf) (a : ByteArray) : Option Int := (S.rows.find? fun y => (Rw.mk 1 0 0 a ⟨#[]⟩ 0).same y).map (·.h)
def tgF (S : Rf) (p : Int × ByteArray) : Option Int := (S.rows.find? fun y => (Rw.mk 2 p.1 0 p.2 ⟨#[]⟩ 0).same y).map (·.h)
def seF (S : Rf) (p : Int × Int × ByteArray × ByteArray) : Option Int := (S.rows.find? fun y => (Rw.mk 3 p.1 p.2.1 p.2.2.1 p.2.2.2 0).same y).map (·.h)
def opI (S : Rf) (p : Int × Int × Int × ByteArray) : Int := firstI (isOpen p.1 p.2.1 p.2.2.2 p.2.2.1) (S.rows.filter t3) 0
def opF (S : Rf) (p : Int × Int × Int × ByteArray) : Option Int := if S.opI p < 0 then none else some (S.opI p + 1)
def issF (S : Rf) (h : Int) : Option Int := if S.rows.countP (fun x => decide (x.h = h)) = 0 then none else some (S.rows.countP (fun x => decide (x.h = h)) : Nat)
def metF (S : Rf) (h : Int) : Option Int := if h ∈ S.met then some 1 else none
def of (S : Rf) : Orf := ⟨S.draws, S.rows.length, decide (S.bads > 0), S.issF, S.metF, S.hsF, S.tgF, S.seF, S.opF, (S.rows.filter t3).map (·.b)⟩
theorem iss_pos (h : Int) : ((S.issF h).getD 0 > 0) ↔ S.issued h = true := by
  unfold issF issued
  rw [List.any_eq_true]
  split
  · rename_i h0
    rw [List.countP_eq_zero] at h0
    simp only [Option.getD_none, gt_iff_lt, Int.lt_irrefl, false_iff, not_exists, not_and]
    exact fun x hx => h0 x hx
  · rename_i h0
    have h1 : 0 < S.rows.countP (fun x => decide (x.h = h)) := by omega
    have h2 := List.countP_pos_iff.1 h1
    simp only [Option.getD_some]
    exact ⟨fun _ => h2, fun _ => by omega⟩
theorem met_pos (h : Int) : ((S.metF h).getD 0 > 0) ↔ S.shown h = true := by
  unfold metF shown
  rw [List.any_eq_true]
  split
  · rename_i h0; simp; exact h0
  · rename_i h0; simp; exact h0
theorem iss_zero (h : Int) : ((S.issF h).getD 0 = 0) ↔ S.issued h = false := by
  have := S.iss_pos h
  have h0 : 0 ≤ (S.issF h).getD 0 := by unfold issF; split <;> simp
  cases hb : S.issued h with
  | true => rw [hb] at this; simp at this ⊢; omega
  | false => rw [hb] at this; simp at this ⊢; omega
theorem of_next : S.of.next = S.next := rfl
theorem of_isBad (h : Int) : S.of.isBad h = decide (S.bads + (if S.isBad h then 1 else 0) > 0) := by
  unfold Orf.isBad isBad
  show (decide (S.bads > 0) || (decide (h = 0) || decide ((S.issF h).getD 0 > 0) || decide ((S.metF h).getD 0 > 0))) = _
  rw [show decide ((S.issF h).getD 0 > 0) = S.issued h by rw [Bool.eq_iff_iff, decide_eq_true_eq]; exact S.iss_pos h, show decide ((S.metF h).getD 0 > 0) = S.shown h by rw [Bool.eq_iff_iff, decide_eq_true_eq]; exact S.met_pos h]
  cases (decide (h = 0) || S.issued h || S.shown h) <;> simp
theorem iss_draw (x : Rw) (h : Int) : (S.draw x).issF h = if h = S.next then some ((S.issF S.next).getD 0 + 1) else S.issF h := by
  unfold issF draw
  simp only [List.countP_append, List.countP_singleton]
  by_cases e : h = S.next
  · subst e
    simp only [decide_true, if_true]
    rw [if_neg (by omega)]
    split
    · rename_i h0; simp [h0]
    · simp
  · have e' : ¬ S.next = h := fun e2 => e e2.symm
    simp [e, e']
theorem find_draw (x : Rw) (p : Rw → Bool) : ((S.draw x).rows.find? p) = (S.rows.find? p).or (if p ⟨x.t, x.k, x.n, x.a, x.b, S.next⟩ then some ⟨x.t, x.k, x.n, x.a, x.b, S.next⟩ else none) := by
  unfold draw
  rw [List.find?_append]
  congr 1
  simp only [List.find?_cons, List.find?_nil]
  split <;> simp_all
theorem of_draw (x : Rw) : (S.draw x).of = ⟨S.draws, S.rows.length + 1, S.of.isBad S.next, fun h => if h = S.next then some ((S.issF S.next).getD 0 + 1) else S.issF h, S.metF,
    fun a => (S.hsF a).or (if (Rw.mk 1 0 0 a ⟨#[]⟩ 0).same ⟨x.t, x.k, x.n, x.a, x.b, S.next⟩ then some S.next else none),
    fun p => (S.tgF p).or (if (Rw.mk 2 p.1 0 p.2 ⟨#[]⟩ 0).same ⟨x.t, x.k, x.n, x.a, x.b, S.next⟩ then some S.next else none),
    fun p => (S.seF p).or (if (Rw.mk 3 p.1 p.2.1 p.2.2.1 p.2.2.2 0).same ⟨x.t, x.k, x.n, x.a, x.b, S.next⟩ then some S.next else none),
    (S.draw x).opF, ((S.draw x).rows.filter t3).map (·.b)⟩ := by
  have h1 : ∀ (p : Rw → Bool), ((S.draw x).rows.find? p).map (·.h) = ((S.rows.find? p).map (·.h)).or (if p ⟨x.t, x.k, x.n, x.a, x.b, S.next⟩ then some S.next else none) := by
    intro p
    rw [find_draw]
    cases S.rows.find? p
    · simp only [Option.none_or, Option.map_none]; split <;> rfl
    · rfl
  unfold of
  congr 1
  · simp [draw]
  · exact (of_isBad (S := S) S.next).symm
  · funext h; exact S.iss_draw x h
  · funext a; exact h1 _
  · funext a; exact h1 _
  · funext a; exact h1 _
theorem filt_draw (x : Rw) : (S.draw x).rows.filter t3 = S.rows.filter t3 ++ (if x.t = 3 then [⟨x.t, x.k, x.n, x.a, x.b, S.next⟩] else []) := by
  unfold draw
  rw [List.filter_append]
  congr 1
  simp only [List.filter_cons, List.filter_nil, t3]
  by_cases h : x.t = 3 <;> simp [h]
theorem op_draw (x : Rw) (h : ¬ x.t = 3) : (S.draw x).opF = S.opF := by
  funext p
  have : (S.draw x).rows.filter t3 = S.rows.filter t3 := by rw [filt_draw, if_neg h, List.append_nil]
  unfold opF opI
  rw [this]
theorem same1 {t : Int} {k n : Int} {a b : ByteArray} {h : Int} {x : Rw} (ht : ¬ x.t = t) (h' : Int) : (Rw.mk t k n a b h).same ⟨x.t, x.k, x.n, x.a, x.b, h'⟩ = false := by simp [Rw.same, ht]
theorem ite_f {α : Type} {b : Bool} {x : Option α} {y : Option α} (h : b = false) : (y.or (if b = true then x else none)) = y := by subst h; simp
theorem fresh_of : S.of.fresh = S.fresh.of := by
  unfold fresh
  rw [of_draw, op_draw _ (by decide)]
  simp only [filt_draw]
  unfold Orf.fresh
  rw [of_next]
  simp only [same1 (x := ⟨0, 0, 0, ⟨#[]⟩, ⟨#[]⟩, 0⟩) (t := 1) (by decide), same1 (x := ⟨0, 0, 0, ⟨#[]⟩, ⟨#[]⟩, 0⟩) (t := 2) (by decide), same1 (x := ⟨0, 0, 0, ⟨#[]⟩, ⟨#[]⟩, 0⟩) (t := 3) (by decide)]
  simp [of]
theorem isSome_find {α β : Type} {o : Option α} {f : α → β} : (o.map f).isSome = o.isSome := by cases o <;> rfl
theorem upd_or {α : Type} [DecidableEq α] {f : α → Option Int} {a : α} {v : Int} {c : α → Bool} (hc : ∀ x, c x = decide (x = a)) (h : f a = none) : (fun x => if x = a then some v else f x) = fun x => (f x).or (if c x = true then some v else none) := by
  funext x
  by_cases e : x = a
  · subst e; simp [hc, h]
  · simp [hc, e]
theorem draw_flds (x : Rw) (h : ¬ x.t = 3) : ((S.draw x).rows.filter t3).map (·.b) = (S.rows.filter t3).map (·.b) := by rw [filt_draw, if_neg h, List.append_nil]
theorem hash_of (a : ByteArray) : S.of.hash a = ((S.hash a).1, (S.hash a).2.of) := by
  unfold hash value Orf.hash
  show (if (S.hsF a).isSome = true then _ else _) = _
  cases hf : S.rows.find? (fun y => (Rw.mk 1 0 0 a ⟨#[]⟩ 0).same y) with
  | some y =>
    have : S.hsF a = some y.h := by unfold hsF; rw [hf]; rfl
    rw [this]
    simp only [Option.isSome_some, if_true]
    show ((S.hsF a).getD 0, S.of) = _
    rw [this]; rfl
  | none =>
    have h0 : S.hsF a = none := by unfold hsF; rw [hf]; rfl
    rw [h0]
    simp only [Option.isSome_none, Bool.false_eq_true, if_false]
    rw [fresh_of, of_next]
    congr 1
    rw [of_draw (x := ⟨1, 0, 0, a, ⟨#[]⟩, 0⟩), op_draw _ (by show ¬ (1 : Int) = 3; decide), draw_flds _ (by show ¬ (1 : Int) = 3; decide)]
    unfold fresh
    rw [of_draw, op_draw _ (by decide), draw_flds _ (by decide)]
    simp only [same1 (x := ⟨0, 0, 0, ⟨#[]⟩, ⟨#[]⟩, 0⟩) (t := 1) (by decide), same1 (x := ⟨0, 0, 0, ⟨#[]⟩, ⟨#[]⟩, 0⟩) (t := 2) (by decide), same1 (x := ⟨0, 0, 0, ⟨#[]⟩, ⟨#[]⟩, 0⟩) (t := 3) (by decide), same1 (x := ⟨1, 0, 0, a, ⟨#[]⟩, 0⟩) (t := 2) (by show ¬ (1 : Int) = 2; decide), same1 (x := ⟨1, 0, 0, a, ⟨#[]⟩, 0⟩) (t := 3) (by show ¬ (1 : Int) = 3; decide), Bool.false_eq_true, if_false, Option.or_none]
    congr 1
    exact upd_or (c := fun x => (Rw.mk 1 0 0 x ⟨#[]⟩ 0).same ⟨1, 0, 0, a, ⟨#[]⟩, S.next⟩) (fun x => by
      by_cases e : x = a
      · subst e; simp [Rw.same]
      · simp [Rw.same, e, Ne.symm e]) h0
theorem mac_of (k : Int) (a : ByteArray) : S.of.mac k a = ((S.mac k a).1, (S.mac k a).2.of) := by
  unfold mac value Orf.mac
  show (if (S.tgF (k, a)).isSome = true then _ else _) = _
  cases hf : S.rows.find? (fun y => (Rw.mk 2 k 0 a ⟨#[]⟩ 0).same y) with
  | some y =>
    have : S.tgF (k, a) = some y.h := by unfold tgF; rw [hf]; rfl
    rw [this]
    simp only [Option.isSome_some, if_true]
    show ((S.tgF (k, a)).getD 0, S.of) = _
    rw [this]; rfl
  | none =>
    have h0 : S.tgF (k, a) = none := by unfold tgF; rw [hf]; rfl
    rw [h0]
    simp only [Option.isSome_none, Bool.false_eq_true, if_false]
    rw [fresh_of, of_next]
    congr 1
    rw [of_draw (x := ⟨2, k, 0, a, ⟨#[]⟩, 0⟩), op_draw _ (by show ¬ (2 : Int) = 3; decide), draw_flds _ (by show ¬ (2 : Int) = 3; decide)]
    unfold fresh
    rw [of_draw, op_draw _ (by decide), draw_flds _ (by decide)]
    simp only [same1 (x := ⟨0, 0, 0, ⟨#[]⟩, ⟨#[]⟩, 0⟩) (t := 1) (by decide), same1 (x := ⟨0, 0, 0, ⟨#[]⟩, ⟨#[]⟩, 0⟩) (t := 2) (by decide), same1 (x := ⟨0, 0, 0, ⟨#[]⟩, ⟨#[]⟩, 0⟩) (t := 3) (by decide), same1 (x := ⟨2, k, 0, a, ⟨#[]⟩, 0⟩) (t := 1) (by show ¬ (2 : Int) = 1; decide), same1 (x := ⟨2, k, 0, a, ⟨#[]⟩, 0⟩) (t := 3) (by show ¬ (2 : Int) = 3; decide), Bool.false_eq_true, if_false, Option.or_none]
    congr 1
    exact upd_or (c := fun x : Int × ByteArray => (Rw.mk 2 x.1 0 x.2 ⟨#[]⟩ 0).same ⟨2, k, 0, a, ⟨#[]⟩, S.next⟩) (fun x => by obtain ⟨x1, x2⟩ := x; by_cases e : x1 = k <;> by_cases e2 : x2 = a <;> simp [Rw.same, e, e2, eq_comm]) h0
theorem meet_of (h : Int) : S.of.meet h = (S.meet h).of := by
  unfold Orf.meet meet
  show (if (S.issF h).getD 0 = 0 then _ else _) = _
  cases hb : S.issued h with
  | true =>
    rw [if_neg (by rw [iss_zero, hb]; decide)]; rfl
  | false =>
    rw [if_pos (by rw [iss_zero, hb])]
    simp only [Bool.false_eq_true, if_false]
    unfold of
    congr 1
    funext x
    show (if x = h then some 1 else S.metF x) = if x ∈ S.met ++ [h] then some 1 else none
    unfold metF
    by_cases e : x = h <;> simp [e]
theorem verify_of (k : Int) (a : ByteArray) (t : Int) : S.of.verify k a t = ((S.verify k a t).1, (S.verify k a t).2.of) := by
  unfold Orf.verify verify
  show (if (S.tgF (k, a)).isSome = true ∧ (S.tgF (k, a)).getD 0 = t then _ else _) = _
  cases hf : S.rows.find? (fun y => (Rw.mk 2 k 0 a ⟨#[]⟩ 0).same y) with
  | some y =>
    have : S.tgF (k, a) = some y.h := by unfold tgF; rw [hf]; rfl
    rw [this]
    by_cases e : y.h = t
    · simp [e]
    · simp [e, meet_of]
  | none =>
    have h0 : S.tgF (k, a) = none := by unfold tgF; rw [hf]; rfl
    rw [h0]; simp [meet_of]
theorem opens_of (k n : Int) (a : ByteArray) (c : Int) : S.of.opens k n a c = ((S.opens k n a c).1, (S.opens k n a c).2.of) := by
  have hff : (S.rows.filter t3).find? (isOpen k n a c) = S.rows.find? (isOpen k n a c) := by
    rw [List.find?_filter]
    congr 1
    funext y
    unfold t3 isOpen
    by_cases e : y.t = 3 <;> simp [e]
  unfold Orf.opens opens
  show (if (S.opF (k, n, c, a)).getD 0 > 0 then _ else _) = _
  have hop : S.opI (k, n, c, a) = firstI (isOpen k n a c) (S.rows.filter t3) 0 := rfl
  rcases find_first (isOpen k n a c) (S.rows.filter t3) 0 (by omega) with ⟨h1, h2⟩ | ⟨i, h0, h1, h2⟩
  · rw [hff] at h1
    have e : (S.opF (k, n, c, a)).getD 0 = 0 := by unfold opF; rw [hop, h2]; rfl
    rw [e, h1]
    simp [meet_of]
  · rw [hff] at h1
    have e : S.opF (k, n, c, a) = some ((i : Int) + 1) := by unfold opF; rw [hop, h2, if_neg (by omega)]; congr 1; omega
    rw [e, h1]
    simp only [Option.getD_some]
    rw [if_pos (by omega)]
    show ((S.of.pl.getD ((S.opF (k, n, c, a)).getD 0).toNat.pred ⟨#[]⟩, true), S.of) = _
    rw [e]
    simp only [Option.getD_some]
    have : ((i : Int) + 1).toNat.pred = i := by rw [Nat.pred_eq_sub_one]; omega
    rw [this]
    congr 2
    show (((S.rows.filter t3).map (·.b)).getD i ⟨#[]⟩) = _
    rw [List.getD_eq_getElem?_getD, List.getElem?_map, List.getElem?_eq_getElem h0]; rfl
theorem seal_of (k n : Int) (a b : ByteArray) : S.of.sealv k n a b = ((S.sealv k n a b).1, (S.sealv k n a b).2.of) := by
  unfold sealv value Orf.sealv
  show (if (S.seF (k, n, a, b)).isSome = true then _ else _) = _
  cases hf : S.rows.find? (fun y => (Rw.mk 3 k n a b 0).same y) with
  | some y =>
    have : S.seF (k, n, a, b) = some y.h := by unfold seF; rw [hf]; rfl
    rw [this]
    simp only [Option.isSome_some, if_true]
    show ((S.seF (k, n, a, b)).getD 0, S.of) = _
    rw [this]; rfl
  | none =>
    have h0 : S.seF (k, n, a, b) = none := by unfold seF; rw [hf]; rfl
    rw [h0]
    simp only [Option.isSome_none, Bool.false_eq_true, if_false]
    rw [fresh_of, of_next]
    congr 1
    rw [of_draw (x := ⟨3, k, n, a, b, 0⟩)]
    unfold fresh
    rw [of_draw, op_draw _ (by decide), draw_flds _ (by decide)]
    simp only [same1 (x := ⟨0, 0, 0, ⟨#[]⟩, ⟨#[]⟩, 0⟩) (t := 1) (by decide), same1 (x := ⟨0, 0, 0, ⟨#[]⟩, ⟨#[]⟩, 0⟩) (t := 2) (by decide), same1 (x := ⟨0, 0, 0, ⟨#[]⟩, ⟨#[]⟩, 0⟩) (t := 3) (by decide), same1 (x := ⟨3, k, n, a, b, 0⟩) (t := 1) (by show ¬ (3 : Int) = 1; decide), same1 (x := ⟨3, k, n, a, b, 0⟩) (t := 2) (by show ¬ (3 : Int) = 2; decide), Bool.false_eq_true, if_false, Option.or_none]
    congr 1
    · exact upd_or (c := fun x : Int × Int × ByteArray × ByteArray => (Rw.mk 3 x.1 x.2.1 x.2.2.1 x.2.2.2 0).same ⟨3, k, n, a, b, S.next⟩) (fun x => by
        obtain ⟨x1, x2, x3, x4⟩ := x
        rw [Bool.eq_iff_iff, decide_eq_true_eq]
        simp only [Rw.same, Bool.and_eq_true, decide_eq_true_eq, Prod.mk.injEq]
        constructor
        · rintro ⟨⟨⟨⟨⟨_, _⟩, h2⟩, h3⟩, h4⟩, h5⟩; exact ⟨h2.symm, h3.symm, h4.symm, h5.symm⟩
        · rintro ⟨h2, h3, h4, h5⟩; exact ⟨⟨⟨⟨⟨by decide, trivial⟩, h2.symm⟩, h3.symm⟩, h4.symm⟩, h5.symm⟩) h0
    · show (if (S.opF (k, n, S.next, a)).getD 0 = 0 then (fun x => if x = (k, n, S.next, a) then some ((((S.rows.filter t3).map (·.b)).length : Int) + 1) else S.opF x) else S.opF) = _
      have hI : ∀ p, (S.draw ⟨3, k, n, a, b, 0⟩).opI p = if S.opI p < 0 then (if p = (k, n, S.next, a) then ((S.rows.filter t3).length : Int) else -1) else S.opI p := by
        intro p
        unfold opI
        rw [filt_draw, if_pos rfl]
        have hone : ∀ (l : List Rw) (m : Int), 0 ≤ m → ∀ y : Rw, firstI (isOpen p.1 p.2.1 p.2.2.2 p.2.2.1) (l ++ [y]) m = if firstI (isOpen p.1 p.2.1 p.2.2.2 p.2.2.1) l m < 0 then (if isOpen p.1 p.2.1 p.2.2.2 p.2.2.1 y = true then m + l.length else -1) else firstI (isOpen p.1 p.2.1 p.2.2.2 p.2.2.1) l m := by
          intro l
          induction l with
          | nil => intro m hm y; simp [firstI]
          | cons z l ih =>
            intro m hm y
            simp only [List.cons_append, firstI]
            split
            · rw [if_neg (by omega)]
            · rw [ih (m + 1) (by omega) y]
              simp only [List.length_cons]
              split
              · split
                · push_cast; omega
                · rfl
              · rfl
        rw [hone _ 0 (by omega)]
        have e : (isOpen p.1 p.2.1 p.2.2.2 p.2.2.1 ⟨3, k, n, a, b, S.next⟩ = true) ↔ p = (k, n, S.next, a) := by
          obtain ⟨x1, x2, x3, x4⟩ := p
          simp only [isOpen, Bool.and_eq_true, decide_eq_true_eq, Prod.mk.injEq]
          constructor
          · rintro ⟨⟨⟨⟨_, h2⟩, h3⟩, h4⟩, h5⟩; exact ⟨h2.symm, h3.symm, h5.symm, h4.symm⟩
          · rintro ⟨h2, h3, h5, h4⟩; exact ⟨⟨⟨⟨trivial, h2.symm⟩, h3.symm⟩, h4.symm⟩, h5.symm⟩
        simp only [e, Int.zero_add]
      have hneg : ∀ p, S.opI p < 0 ∨ 0 ≤ S.opI p := fun p => by omega
      funext p
      unfold opF
      simp only [hI]
      have hlen : (((S.rows.filter t3).map (·.b)).length : Int) = ((S.rows.filter t3).length : Int) := by simp
      rw [hlen]
      by_cases hk : S.opI (k, n, S.next, a) < 0
      · simp only [hk, if_true, Option.getD_none]
        by_cases hp : p = (k, n, S.next, a)
        · subst hp; simp only [hk, if_true]; rw [if_neg (by omega)]
        · simp only [hp, if_false]
          by_cases h2 : S.opI p < 0
          · simp [h2]
          · simp [h2]
      · simp only [hk, if_false, Option.getD_some]
        rw [if_neg (by omega)]
        by_cases hp : p = (k, n, S.next, a)
        · subst hp; simp only [hk, if_false]
        · simp only [hp, if_false]
          by_cases h2 : S.opI p < 0
          · simp [h2]
          · simp [h2]
    · show (S.rows.filter t3).map (·.b) ++ [b] = ((S.draw ⟨3, k, n, a, b, 0⟩).rows.filter t3).map (·.b)
      rw [filt_draw, if_pos rfl]; simp
end Rf
/-- Call by call. -/
theorem act_of (S : Rf) (c : Ca) : S.of.act c = ((S.act c).1, (S.act c).2.1, (S.act c).2.2.1, (S.act c).2.2.2.of) := by
  unfold Orf.act Rf.act
  repeat' split
  all_goals first | rfl | (simp only [Rf.fresh_of, Rf.hash_of, Rf.mac_of, Rf.verify_of, Rf.seal_of, Rf.opens_of, Rf.meet_of, Rf.of_next]; done) | skip
theorem of_new (d : List Int) : (Rf.new d).of = Orf.new d := by
  unfold Rf.new Rf.of Orf.new
  congr 1
end Go.Proofs.Ytealccnfnpkngaa.X
