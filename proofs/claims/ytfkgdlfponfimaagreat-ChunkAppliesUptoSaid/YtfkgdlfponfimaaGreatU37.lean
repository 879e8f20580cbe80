import Derived.Test.YtfkgdlfponfimaaGreatU36
import Derived.Test.YtfkgdlfponfimaaGreatU33
import Derived.Test.YtfkgdlfponfimaaGreatU34
import Derived.Test.YtfkgdlfponfimaaGreatU35
/- Layer 13: the law ChunkApplies. -/
set_option maxRecDepth 100000
namespace Go.Proofs.YtfkgdlfponfimaaGreat.X
open Go Go.RowKit WM
variable {ν β ps pos pos' : Nm} {H H1 : Heap} {Q : AVal → Heap → Prop} {L : List Asr} {k : Nat} {S : Rf} {c : Ck} {q qo : Nm} {key : Int}
theorem rtoken_c (hS : Own β ps H L) (hL : L[k]? = some (rorc q S)) (hle : le ps ν) (hβ : under β ν = true) (hp : before ν pos') {N : Nat} (hN : S.le N) (hn : N ≤ 4294960000) (key : Int) (t : Tk) (ht : t.fit)
    (hq : ∀ H1, Own β pos' H1 (L.set k (rorc q (S.issue key t).2)) → Q (S.issue key t).1.enc H1) : CW cfg ν 9 [.ptr q 0 0, .int .u64 key, t.enc] H Q := by
  replace hS := hS.pick hL
  refine AX g9 F9 Z ?_
  replace hS := Own.mono hS hle
  refine Ac (AR hS (AE (p := ν) (b := [0, 0])) (Af [0, 0] hβ) Z Z Z ⟨Z, Z⟩ fun H1 (hS1 : Own _ _ _ (_ :: _ :: L.eraseIdx k)) => AG hS1 le_refl (Af [1, 0] hβ) Z Z Z Z fun H2 (hS2 : Own _ _ _ (_ :: _ :: _ :: L.eraseIdx k)) => Am (e' := [_,_,_,_,_,_,_,_,_,_,_]) Z (Ac (Aa Z Z (Aa Z Z (Ad hS2 (k := 1) Z Z Z Z Z (Aj Z Z Z) (Ay (e' := [_,_,_,_,_,_,_,_,_,_,_]) Z (AB Z Z (rissueW hS2 (k := 2) Z (Ar (ν := ν) (a := [2, 0]) (b := [3, 0, 1]) (by decide)) (Af [3, 0, 1] hβ) (Au (ν := ν) (a := [3, 0, 1]) (b := [4, 0, 1]) (by decide)) hN hn key t ht fun H3 hS3 => ?_) )))))))
  replace hS3 : Own _ _ _ (_ :: _ :: _ :: L.eraseIdx k) := hS3
  refine Av hS3 (k := 0) Z le_refl Z Z Z Z ⟨Z, Z, Nat.le_of_ble_eq_true Z⟩ (u2 := .agg [_, _, _, _, _]) Z fun H4 (hS4 : Own _ _ _ (_ :: _ :: _ :: L.eraseIdx k)) => Am (e' := [_,_,_,_,_,_,_,_,_,_,_]) Z (Ap (Ak (res1 Z (AP hS4 (k := 0) Z Z Z Z (Aj Z Z Z))) ?_))
  exact hq _ (Own.unpick (Own.drop0 (Own.drop0 (Own.mono hS4 (Ax (Az (a := [5, 0, 1]) hp))))) hL)
def stX (v : AVal) (c : Ck) : Asr := ⟨fun H fp => (∃ V S T, v = .agg [V, S, T] ∧ (stO V S T c).holds H fp) ∨ (v = c.enc ∧ fp = []), fun h hf => h.elim (fun ⟨V, S, T, e, h⟩ => .inl ⟨V, S, T, e, (stO V S T c).framed h hf⟩) .inr⟩
theorem stX_freeze {v : AVal} {f : List Nm} (h : (stX v c).holds H f) : X.freeze [] H 8 v = c.enc := by
  rcases h with ⟨V, S, T, rfl, h⟩ | ⟨rfl, _⟩
  · exact st_freeze (n := 4) h
  rfl
theorem own_loseX {v : AVal} (h : Own β ps H (stX v c :: L)) : Own β ps (X.lose (X.reach [] H 8 v) H) L := Own.lose h fun f hf => by
  rcases hf with ⟨V, S, T, rfl, h1⟩ | ⟨rfl, _⟩
  · exact st_reach h1
  intro q hq; exact absurd hq (by show ¬ q ∈ ([] : List Nm); simp)
theorem Own.toX {V S T : AVal} (h : Own β ps H (stO V S T c :: L)) : Own β ps H (stX (.agg [V, S, T]) c :: L) := by
  obtain ⟨fp, ⟨f1, f2, h0, h1, h2, h3⟩, h4⟩ := h
  exact ⟨fp, ⟨f1, f2, h0, h1, .inl ⟨V, S, T, rfl, h2⟩, h3⟩, h4⟩
theorem Own.addX (h : Own β ps H L) : Own β ps H (stX c.enc c :: L) := by
  obtain ⟨fp, h2, h3⟩ := h
  exact ⟨fp, ⟨[], fp, rfl, by simp, .inr ⟨rfl, rfl⟩, h2⟩, h3⟩
theorem Own.x_frz {v : AVal} (h : Own β ps H L) (hL : L[k]? = some (stX v c)) : X.freeze [] H 8 v = c.enc := by
  obtain ⟨f, hf, _⟩ := h.get hL
  exact stX_freeze hf
theorem leafE_le {N : Nat} {want : Int} {m : Cm} (h : S.le N) : (leafE S key c m want).2.le (N + 1) := by
  unfold leafE
  have h1 : (S.check key m.t m.vo (c.at m).ep want).2.le (N + 1) := Rf.verify_le h _ _ _
  split
  · exact h.mono (by omega)
  split
  · exact h1
  split <;> exact h1
theorem leafR_le {N : Nat} {want : Int} {m : Cm} {f : Ck → Cm → Rs} (h : S.le N) : (leafR S key c m want f).2.le (N + 1) := by
  unfold leafR; split <;> exact leafE_le h
theorem runR_le {N : Nat} {m : Cm} (h : S.le N) : (runR S key c m).2.le (N + 1) := by
  unfold runR
  have h0 : S.le (N + 1) := h.mono (by omega)
  split
  · exact h0
  split
  · exact h0
  split
  · exact h0
  split
  · exact leafR_le h
  split
  · exact leafR_le h
  split
  · exact leafR_le h
  exact h0
theorem applyR_le {N : Nat} {id nr : Int} {cmd : ByteArray} (h : S.le N) : (applyR S key c id nr cmd).2.le (N + 1) := by
  unfold applyR
  have h0 : S.le (N + 1) := h.mono (by omega)
  split
  · exact h0
  split
  · exact h0
  split
  · exact runR_le h
  exact h0
end Go.Proofs.YtfkgdlfponfimaaGreat.X
/- Layer 13: what a command leaves of the volumes. -/
set_option maxRecDepth 100000
namespace Go.Proofs.YtfkgdlfponfimaaGreat.X
open Go Go.RowKit WM
variable {S : Rf} {c : Ck} {key want id nr vo ep : Int} {m : Cm} {cmd : ByteArray}
structure Ext (vo : Int) (c d : Ck) : Prop where
  len : c.vs.length ≤ d.vs.length
  each : ∀ i (h : i < c.vs.length) (h' : i < d.vs.length), d.vs[i].vo = c.vs[i].vo ∧ c.vs[i].ep ≤ d.vs[i].ep ∧ d.vs[i].tn = c.vs[i].tn ∧ (c.vs[i].vo ≠ vo → d.vs[i] = c.vs[i])
theorem ext_of {d : Ck} (h : d.vs = c.vs) : Ext vo c d := by
  obtain ⟨a, b, e⟩ := d
  subst h
  exact ⟨Nat.le_refl _, fun i h h' => ⟨rfl, Int.le_refl _, rfl, fun _ => rfl⟩⟩
theorem ext_app {x : Vo} {ss : List SE.Se} {qs : List Qu} : Ext vo c ⟨c.vs ++ [x], ss, qs⟩ := by
  refine ⟨by simp, fun i h h' => ?_⟩
  have : (c.vs ++ [x])[i]'h' = c.vs[i] := List.getElem_append_left h
  show (c.vs ++ [x])[i].vo = _ ∧ _
  rw [this]
  exact ⟨rfl, Int.le_refl _, rfl, fun _ => rfl⟩
theorem ext_set {i : Nat} {y : Vo} {ss : List SE.Se} {qs : List Qu} (hi : i < c.vs.length) (hv : c.vs[i].vo = vo) (h1 : y.vo = c.vs[i].vo) (h2 : c.vs[i].ep ≤ y.ep) (h3 : y.tn = c.vs[i].tn) : Ext vo c ⟨c.vs.set i y, ss, qs⟩ := by
  refine ⟨by simp, fun j h h' => ?_⟩
  show (c.vs.set i y)[j].vo = _ ∧ _ ≤ (c.vs.set i y)[j].ep ∧ (c.vs.set i y)[j].tn = _ ∧ (_ → (c.vs.set i y)[j] = _)
  rw [List.getElem_set]
  split
  · rename_i e; subst e; exact ⟨h1, h2, h3, fun h => absurd hv h⟩
  exact ⟨rfl, Int.le_refl _, rfl, fun _ => rfl⟩
theorem ext_setL {i : Nat} {s : ByteArray} (h1 : atP m.vo c.vs = i) (hi : i < c.vs.length) (hv : c.vs[i].vo = m.vo) (qs : List Qu) : Ext m.vo c { c.setL m s with qs := qs } := by
  rw [setL_at h1 hi]
  exact ext_set (y := { c.vs[i] with lv := c.vs[i].lv.set m.se.toNat s }) hi hv rfl (Int.le_refl _) rfl
theorem leafR_ext {f : Ck → Cm → Rs} (hg : c.good) (hf : ∀ i, atP m.vo c.vs = (i : Nat) → (hi : i < c.vs.length) → c.vs[i].vo = m.vo → Ext m.vo c (f c m).c) : Ext m.vo c (leafR S key c m want f).1.c := by
  by_cases he : (leafE S key c m want).1 = 0
  · rw [leafR_ok he]
    obtain ⟨i, hi, h1, h2, _⟩ := leaf_at hg he
    exact hf i h1 hi h2
  rw [leafR_err he]; exact ext_of rfl
theorem runR_ext (hg : c.good) : Ext m.vo c (runR S key c m).1.c := by
  unfold runR
  split
  · unfold makeR
    split
    · exact ext_of rfl
    split
    · exact ext_of rfl
    split
    · exact ext_of rfl
    exact ext_app
  split
  · unfold epochR
    split
    · exact ext_of rfl
    rename_i h
    obtain ⟨i, hi, h1, h2, h3⟩ := atP_good hg h
    rw [at_eq h1 hi, setV_eq h1]
    exact ext_set (y := { c.vs[i] with ep := max c.vs[i].ep m.a }) hi h2 rfl (Int.le_max_left _ _) rfl
  split
  · unfold limitR; split <;> exact ext_of rfl
  split
  · refine leafR_ext hg fun i h1 hi hv => ?_
    unfold putR
    split
    · exact ext_of rfl
    split
    · split
      · exact ext_of rfl
      exact ext_setL h1 hi hv _
    exact ext_setL h1 hi hv c.qs
  split
  · exact leafR_ext hg fun i h1 hi hv => ext_of rfl
  split
  · refine leafR_ext hg fun i h1 hi hv => ?_
    unfold trimR
    split
    · exact ext_of rfl
    split
    · exact ext_setL h1 hi hv _
    exact ext_setL h1 hi hv c.qs
  exact ext_of rfl
def Ge (vo ep : Int) (c : Ck) : Prop := ∃ (i : Nat) (hi : i < c.vs.length), c.vs[i].vo = vo ∧ ep ≤ c.vs[i].ep
theorem Ge.ext {d : Ck} {w : Int} (h : Ge vo ep c) (he : Ext w c d) : Ge vo ep d := by
  obtain ⟨i, hi, h1, h2⟩ := h
  have hi' : i < d.vs.length := Nat.lt_of_lt_of_le hi he.len
  obtain ⟨e1, e2, _⟩ := he.each i hi hi'
  exact ⟨i, hi', by rw [e1]; exact h1, Int.le_trans h2 e2⟩
theorem applyR_ext (hg : c.good) : ∃ w, Ext w c (applyR S key c id nr cmd).1.c := by
  unfold applyR
  split
  · exact ⟨0, ext_of rfl⟩
  split
  · exact ⟨0, ext_of rfl⟩
  split
  · obtain ⟨h1, h2⟩ := runR_ext (S := S) (key := key) (m := (unpC cmd).1) hg
    exact ⟨(unpC cmd).1.vo, h1, h2⟩
  exact ⟨0, ext_of rfl⟩
theorem Ge.after : ∀ {l : List Stp} {c : Ck} {S : Rf}, Ge vo ep c → c.good → (∀ y ∈ l, y.fit) → Ge vo ep (afterS S key c l).1
  | [], _, _, h, _, _ => h
  | y :: l, c, S, h, hg, hl => by
    obtain ⟨w, hw⟩ := applyR_ext (S := S) (key := key) (id := y.id) (nr := y.nr) (cmd := y.bytes) hg
    exact Ge.after (l := l) (c := (stepS key (c, S) y).1) (S := (stepS key (c, S) y).2) (h.ext hw) (stepS_good (p := (c, S)) hg (hl y (by simp))) fun z hz => hl z (by simp [hz])
theorem Ge.at (h : Ge vo ep c) (hg : c.good) : ∃ (i : Nat) (hi : i < c.vs.length), atP vo c.vs = i ∧ ep ≤ c.vs[i].ep := by
  obtain ⟨i, hi, h1, h2⟩ := h
  exact ⟨i, hi, by rw [← h1]; exact nodup_atP hg.nd hi, h2⟩
end Go.Proofs.YtfkgdlfponfimaaGreat.X
/- Layer 13: what the statements' sizes say of their arguments. -/
set_option maxRecDepth 100000
namespace Go.Proofs.YtfkgdlfponfimaaGreat.X
open Go Go.RowKit WM
structure A2 where
  a : Int
  b : Int
def A2.enc (x : A2) : AVal := .agg [.int .u64 x.a, .int .u64 x.b]
def A2.Q (x : A2) (n : Nat) : Prop := Open.QSt (Open.QPair (Open.QInt .u64) (Open.QInt .u64)) (x.a, x.b) n
theorem A2.ok {a : A2} {n : Nat} (h : A2.Q a n) : (0 ≤ a.a ∧ a.a ≤ 18446744073709551615) ∧ (0 ≤ a.b ∧ a.b ≤ 18446744073709551615) := by
  obtain ⟨mm, hm, ⟨m0, k0, e0, h0, h1⟩⟩ := h
  exact ⟨(in_u64 h0), (in_u64 h1)⟩
theorem A2.Q_mono {a : A2} {n m : Nat} (h : A2.Q a n) (hm : n ≤ m) : A2.Q a m := let ⟨k, h1, h2⟩ := h; ⟨k, Nat.le_trans h1 hm, h2⟩
theorem A2.Q.pos {a : A2} {n : Nat} (h : A2.Q a n) : 1 ≤ n := let ⟨k, h1, _⟩ := h; by omega
def Tk.Q (x : Tk) (n : Nat) : Prop := Open.QSt (Open.QPair (Open.QInt .u64) (Open.QPair (Open.QInt .u64) (Open.QPair (Open.QInt .u64) (Open.QPair (Open.QInt .u64) (Open.QInt .u64))))) (x.tn, x.vo, x.ep, x.ri, x.tag) n
theorem Tk.ok {a : Tk} {n : Nat} (h : Tk.Q a n) : (0 ≤ a.tn ∧ a.tn ≤ 18446744073709551615) ∧ (0 ≤ a.vo ∧ a.vo ≤ 18446744073709551615) ∧ (0 ≤ a.ep ∧ a.ep ≤ 18446744073709551615) ∧ (0 ≤ a.ri ∧ a.ri ≤ 18446744073709551615) ∧ (0 ≤ a.tag ∧ a.tag ≤ 18446744073709551615) := by
  obtain ⟨mm, hm, ⟨m0, k0, e0, h0, ⟨m1, k1, e1, h1, ⟨m2, k2, e2, h2, ⟨m3, k3, e3, h3, h4⟩⟩⟩⟩⟩ := h
  exact ⟨(in_u64 h0), (in_u64 h1), (in_u64 h2), (in_u64 h3), (in_u64 h4)⟩
theorem Tk.Q_mono {a : Tk} {n m : Nat} (h : Tk.Q a n) (hm : n ≤ m) : Tk.Q a m := let ⟨k, h1, h2⟩ := h; ⟨k, Nat.le_trans h1 hm, h2⟩
theorem Tk.Q.pos {a : Tk} {n : Nat} (h : Tk.Q a n) : 1 ≤ n := let ⟨k, h1, _⟩ := h; by omega
def Cm.Q (x : Cm) (n : Nat) : Prop := Open.QSt (Open.QPair (Open.QInt .i64) (Open.QPair Tk.Q (Open.QPair (Open.QInt .u64) (Open.QPair (Open.QInt .u64) (Open.QPair (Open.QInt .u64) (Open.QPair (Open.QInt .u64) Open.QStr)))))) (x.d, x.t, x.vo, x.se, x.a, x.b, x.lf) n
theorem Cm.ok {a : Cm} {n : Nat} (h : Cm.Q a n) : (-9223372036854775808 ≤ a.d ∧ a.d ≤ 9223372036854775807) ∧ Tk.Q a.t n ∧ (0 ≤ a.vo ∧ a.vo ≤ 18446744073709551615) ∧ (0 ≤ a.se ∧ a.se ≤ 18446744073709551615) ∧ (0 ≤ a.a ∧ a.a ≤ 18446744073709551615) ∧ (0 ≤ a.b ∧ a.b ≤ 18446744073709551615) ∧ a.lf.size + 1 ≤ n := by
  obtain ⟨mm, hm, ⟨m0, k0, e0, h0, ⟨m1, k1, e1, h1, ⟨m2, k2, e2, h2, ⟨m3, k3, e3, h3, ⟨m4, k4, e4, h4, ⟨m5, k5, e5, h5, h6⟩⟩⟩⟩⟩⟩⟩ := h
  exact ⟨(in_i64 h0), (Tk.Q_mono h1 (by omega)), (in_u64 h2), (in_u64 h3), (in_u64 h4), (in_u64 h5), (Nat.le_trans h6.2 (by omega))⟩
theorem Cm.Q_mono {a : Cm} {n m : Nat} (h : Cm.Q a n) (hm : n ≤ m) : Cm.Q a m := let ⟨k, h1, h2⟩ := h; ⟨k, Nat.le_trans h1 hm, h2⟩
theorem Cm.Q.pos {a : Cm} {n : Nat} (h : Cm.Q a n) : 1 ≤ n := let ⟨k, h1, _⟩ := h; by omega
def Vo.Q (x : Vo) (n : Nat) : Prop := Open.QSt (Open.QPair (Open.QInt .u64) (Open.QPair (Open.QInt .u64) (Open.QPair (Open.QInt .u64) (Open.QPair (Open.QInt .i64) (Open.QSl Open.QStr))))) (x.vo, x.tn, x.ep, x.de, x.lv) n
theorem Vo.ok {a : Vo} {n : Nat} (h : Vo.Q a n) : (0 ≤ a.vo ∧ a.vo ≤ 18446744073709551615) ∧ (0 ≤ a.tn ∧ a.tn ≤ 18446744073709551615) ∧ (0 ≤ a.ep ∧ a.ep ≤ 18446744073709551615) ∧ (-9223372036854775808 ≤ a.de ∧ a.de ≤ 9223372036854775807) ∧ (a.lv.length + 1 ≤ n ∧ (a.lv.map ByteArray.size).sum + 1 ≤ n ∧ ∀ x ∈ a.lv, x.size + 1 ≤ n) := by
  obtain ⟨mm, hm, ⟨m0, k0, e0, h0, ⟨m1, k1, e1, h1, ⟨m2, k2, e2, h2, ⟨m3, k3, e3, h3, h4⟩⟩⟩⟩⟩ := h
  exact ⟨(in_u64 h0), (in_u64 h1), (in_u64 h2), (in_i64 h3), (⟨Nat.le_trans (qsl_len h4 (fun _ _ h => Nat.le_trans (by omega) h.2)) (by omega), Nat.le_trans (qsl_sum (f := ByteArray.size) (fun _ _ h => Nat.le_trans (by omega) h.2) h4) (by omega), fun x hx => let ⟨_, h⟩ := qsl_mem h4 x hx; Nat.le_trans h.2.2 (by omega)⟩)⟩
theorem Vo.Q_mono {a : Vo} {n m : Nat} (h : Vo.Q a n) (hm : n ≤ m) : Vo.Q a m := let ⟨k, h1, h2⟩ := h; ⟨k, Nat.le_trans h1 hm, h2⟩
theorem Vo.Q.pos {a : Vo} {n : Nat} (h : Vo.Q a n) : 1 ≤ n := let ⟨k, h1, _⟩ := h; by omega
def SE.Se.Q (x : SE.Se) (n : Nat) : Prop := Open.QSt (Open.QPair (Open.QInt .u64) (Open.QPair (Open.QInt .u64) Open.QStr)) (x.id, x.nr, x.an) n
theorem SE.Se.ok {a : SE.Se} {n : Nat} (h : SE.Se.Q a n) : (0 ≤ a.id ∧ a.id ≤ 18446744073709551615) ∧ (0 ≤ a.nr ∧ a.nr ≤ 18446744073709551615) ∧ a.an.size + 1 ≤ n := by
  obtain ⟨mm, hm, ⟨m0, k0, e0, h0, ⟨m1, k1, e1, h1, h2⟩⟩⟩ := h
  exact ⟨(in_u64 h0), (in_u64 h1), (Nat.le_trans h2.2 (by omega))⟩
theorem SE.Se.Q_mono {a : SE.Se} {n m : Nat} (h : SE.Se.Q a n) (hm : n ≤ m) : SE.Se.Q a m := let ⟨k, h1, h2⟩ := h; ⟨k, Nat.le_trans h1 hm, h2⟩
theorem SE.Se.Q.pos {a : SE.Se} {n : Nat} (h : SE.Se.Q a n) : 1 ≤ n := let ⟨k, h1, _⟩ := h; by omega
def Qu.Q (x : Qu) (n : Nat) : Prop := Open.QSt (Open.QPair (Open.QInt .u64) (Open.QPair (Open.QInt .u64) (Open.QInt .u64))) (x.tn, x.us, x.li) n
theorem Qu.ok {a : Qu} {n : Nat} (h : Qu.Q a n) : (0 ≤ a.tn ∧ a.tn ≤ 18446744073709551615) ∧ (0 ≤ a.us ∧ a.us ≤ 18446744073709551615) ∧ (0 ≤ a.li ∧ a.li ≤ 18446744073709551615) := by
  obtain ⟨mm, hm, ⟨m0, k0, e0, h0, ⟨m1, k1, e1, h1, h2⟩⟩⟩ := h
  exact ⟨(in_u64 h0), (in_u64 h1), (in_u64 h2)⟩
theorem Qu.Q_mono {a : Qu} {n m : Nat} (h : Qu.Q a n) (hm : n ≤ m) : Qu.Q a m := let ⟨k, h1, h2⟩ := h; ⟨k, Nat.le_trans h1 hm, h2⟩
theorem Qu.Q.pos {a : Qu} {n : Nat} (h : Qu.Q a n) : 1 ≤ n := let ⟨k, h1, _⟩ := h; by omega
def Ck.Q (x : Ck) (n : Nat) : Prop := Open.QSt (Open.QPair (Open.QSl Vo.Q) (Open.QPair (Open.QSl SE.Se.Q) (Open.QSl Qu.Q))) (x.vs, x.ss, x.qs) n
theorem Ck.ok {a : Ck} {n : Nat} (h : Ck.Q a n) : (a.vs.length + 1 ≤ n ∧ ∀ x ∈ a.vs, Vo.Q x n) ∧ (a.ss.length + 1 ≤ n ∧ ∀ x ∈ a.ss, SE.Se.Q x n) ∧ (a.qs.length + 1 ≤ n ∧ ∀ x ∈ a.qs, Qu.Q x n) := by
  obtain ⟨mm, hm, ⟨m0, k0, e0, h0, ⟨m1, k1, e1, h1, h2⟩⟩⟩ := h
  exact ⟨(⟨Nat.le_trans (qsl_len h0 (fun _ _ h => h.pos)) (by omega), fun x hx => let ⟨_, h⟩ := qsl_mem h0 x hx; Vo.Q_mono h.2 (by omega)⟩), (⟨Nat.le_trans (qsl_len h1 (fun _ _ h => h.pos)) (by omega), fun x hx => let ⟨_, h⟩ := qsl_mem h1 x hx; SE.Se.Q_mono h.2 (by omega)⟩), (⟨Nat.le_trans (qsl_len h2 (fun _ _ h => h.pos)) (by omega), fun x hx => let ⟨_, h⟩ := qsl_mem h2 x hx; Qu.Q_mono h.2 (by omega)⟩)⟩
theorem Ck.Q_mono {a : Ck} {n m : Nat} (h : Ck.Q a n) (hm : n ≤ m) : Ck.Q a m := let ⟨k, h1, h2⟩ := h; ⟨k, Nat.le_trans h1 hm, h2⟩
theorem Ck.Q.pos {a : Ck} {n : Nat} (h : Ck.Q a n) : 1 ≤ n := let ⟨k, h1, _⟩ := h; by omega
def Stp.Q (x : Stp) (n : Nat) : Prop := Open.QSt (Open.QPair (Open.QInt .u64) (Open.QPair (Open.QInt .u64) (Open.QPair Cm.Q Open.QStr))) (x.id, x.nr, x.m, x.raw) n
theorem Stp.ok {a : Stp} {n : Nat} (h : Stp.Q a n) : (0 ≤ a.id ∧ a.id ≤ 18446744073709551615) ∧ (0 ≤ a.nr ∧ a.nr ≤ 18446744073709551615) ∧ Cm.Q a.m n ∧ a.raw.size + 1 ≤ n := by
  obtain ⟨mm, hm, ⟨m0, k0, e0, h0, ⟨m1, k1, e1, h1, ⟨m2, k2, e2, h2, h3⟩⟩⟩⟩ := h
  exact ⟨(in_u64 h0), (in_u64 h1), (Cm.Q_mono h2 (by omega)), (Nat.le_trans h3.2 (by omega))⟩
theorem Stp.Q_mono {a : Stp} {n m : Nat} (h : Stp.Q a n) (hm : n ≤ m) : Stp.Q a m := let ⟨k, h1, h2⟩ := h; ⟨k, Nat.le_trans h1 hm, h2⟩
theorem Stp.Q.pos {a : Stp} {n : Nat} (h : Stp.Q a n) : 1 ≤ n := let ⟨k, h1, _⟩ := h; by omega
def Py.Q (x : Py) (n : Nat) : Prop := Open.QSt (Open.QPair Ck.Q (Open.QPair (Open.QSl (Open.QInt .u64)) (Open.QPair (Open.QInt .u64) (Open.QPair (Open.QSl Tk.Q) (Open.QSl Stp.Q))))) (x.c, x.d, x.key, x.iss, x.l) n
theorem Py.ok {a : Py} {n : Nat} (h : Py.Q a n) : Ck.Q a.c n ∧ (a.d.length + 1 ≤ n ∧ ∀ x ∈ a.d, 0 ≤ x ∧ x ≤ 18446744073709551615) ∧ (0 ≤ a.key ∧ a.key ≤ 18446744073709551615) ∧ (a.iss.length + 1 ≤ n ∧ ∀ x ∈ a.iss, Tk.Q x n) ∧ (a.l.length + 1 ≤ n ∧ ∀ x ∈ a.l, Stp.Q x n) := by
  obtain ⟨mm, hm, ⟨m0, k0, e0, h0, ⟨m1, k1, e1, h1, ⟨m2, k2, e2, h2, ⟨m3, k3, e3, h3, h4⟩⟩⟩⟩⟩ := h
  exact ⟨(Ck.Q_mono h0 (by omega)), (⟨Nat.le_trans (qsl_len h1 (fun _ _ h => h.2)) (by omega), fun x hx => let ⟨_, h⟩ := qsl_mem h1 x hx; in_u64 h.2⟩), (in_u64 h2), (⟨Nat.le_trans (qsl_len h3 (fun _ _ h => h.pos)) (by omega), fun x hx => let ⟨_, h⟩ := qsl_mem h3 x hx; Tk.Q_mono h.2 (by omega)⟩), (⟨Nat.le_trans (qsl_len h4 (fun _ _ h => h.pos)) (by omega), fun x hx => let ⟨_, h⟩ := qsl_mem h4 x hx; Stp.Q_mono h.2 (by omega)⟩)⟩
theorem Py.Q_mono {a : Py} {n m : Nat} (h : Py.Q a n) (hm : n ≤ m) : Py.Q a m := let ⟨k, h1, h2⟩ := h; ⟨k, Nat.le_trans h1 hm, h2⟩
theorem Py.Q.pos {a : Py} {n : Nat} (h : Py.Q a n) : 1 ≤ n := let ⟨k, h1, _⟩ := h; by omega
structure Ck.fits (c : Ck) : Prop where
  v : ∀ y ∈ c.vs, U64 y.vo ∧ U64 y.tn ∧ U64 y.ep
  s : ∀ y ∈ c.ss, y.fit
  q : Fit c.qs
  b : ∀ y ∈ c.ss, y.an.size ≤ 1048576
  l : ∀ y ∈ c.vs, sumB y.lv ≤ 1048576
  d : ∀ y ∈ c.vs, -9223372036854775808 ≤ y.de ∧ y.de ≤ 9223372036854775807
theorem ck_of {c : Ck} {n : Nat} (h : Ck.Q c n) (hn : n ≤ 1048576) : c.sz ∧ c.fits := by
  obtain ⟨⟨h1, h2⟩, ⟨h3, h4⟩, h5, h6⟩ := Ck.ok h
  refine ⟨⟨by omega, by omega, by omega, fun x hx => ?_⟩, fun x hx => ?_, fun x hx => ?_, fun x hx => ?_, fun x hx => ?_, fun x hx => ?_, fun x hx => ?_⟩
  · have := (Vo.ok (h2 x hx)).2.2.2.2.1; omega
  · have := Vo.ok (h2 x hx); exact ⟨this.1, this.2.1, this.2.2.1⟩
  · have := SE.Se.ok (h4 x hx); exact ⟨this.1, this.2.1⟩
  · exact Qu.ok (h6 x hx)
  · have := (SE.Se.ok (h4 x hx)).2.2; omega
  · have := (Vo.ok (h2 x hx)).2.2.2.2.2.1; unfold sumB; omega
  exact (Vo.ok (h2 x hx)).2.2.2.1
theorem cm_of {m : Cm} {n : Nat} (h : Cm.Q m n) (hn : n ≤ 1048576) : m.fit ∧ m.lf.size ≤ 1048576 := by
  obtain ⟨h1, h2, h3, h4, h5, h6, h7⟩ := Cm.ok h
  exact ⟨⟨h1, Tk.ok h2, h3, h4, h5, h6, by omega⟩, by omega⟩
theorem stp_of {s : Stp} {n : Nat} (h : Stp.Q s n) (hn : n ≤ 1048576) : s.fit := by
  obtain ⟨h1, h2, h3, h4⟩ := Stp.ok h
  obtain ⟨h5, h6⟩ := cm_of h3 hn
  exact ⟨h1, h2, h5, h6, by omega⟩
theorem py_of {x : Py} {n : Nat} (h : Py.Q x n) (hn : n ≤ 1048576) : x.good ∧ x.c.fits := by
  obtain ⟨h1, ⟨h2, h3⟩, h4, ⟨h5, h6⟩, h7, h8⟩ := Py.ok h
  obtain ⟨k1, k2⟩ := ck_of h1 hn
  exact ⟨⟨k1, by omega, by omega, fun t ht => Tk.ok (h6 t ht), by omega, fun s hs => stp_of (h8 s hs) hn⟩, k2⟩
end Go.Proofs.YtfkgdlfponfimaaGreat.X
/- Layer 13: texts of states. -/
set_option maxRecDepth 100000
namespace Go.Proofs.YtfkgdlfponfimaaGreat.X
open Go Go.RowKit WM
variable {ν : Nm} {H : Heap} {Q : AVal → Heap → Prop} {c : Ck}
def Cod.sub {α : Type} (c : Cod α) (p : α → Prop) [DecidablePred p] : Cod α where
  enc := c.enc
  ok a := c.ok a ∧ p a
  tk s := match c.tk s with
    | some (a, r) => if p a then some (a, r) else none
    | none => none
  iff s a r := by
    constructor
    · intro h
      cases h1 : c.tk s with
      | none => rw [h1] at h; cases h
      | some q =>
        obtain ⟨b, q⟩ := q
        rw [h1] at h
        simp only at h
        split at h
        · rename_i hp
          simp only [Option.some.injEq, Prod.mk.injEq] at h
          obtain ⟨rfl, rfl⟩ := h
          obtain ⟨k1, k2⟩ := (c.iff _ _ _).1 h1
          exact ⟨⟨k1, hp⟩, k2⟩
        cases h
    rintro ⟨⟨h1, h2⟩, rfl⟩
    rw [c.back h1]
    simp only [h2, if_true]
def cL16 : Cod (List ByteArray) := cX.list 16 (by decide)
def cVo : Cod Vo := (cI.pair (cI.pair (cI.pair ((Cod.sub cI fun d => d ≤ 4).pair cL16)))).iso (fun p => ⟨p.1, p.2.1, p.2.2.1, p.2.2.2.1, p.2.2.2.2⟩) (fun x => (x.vo, x.tn, x.ep, x.de, x.lv)) (fun _ => rfl) (fun _ => rfl)
def Vo.w (x : Vo) : Vo := ⟨x.vo, x.tn, x.ep, IntKind.u64.wrap x.de, x.lv⟩
theorem Vo.good.w {x : Vo} (h : x.good) : x.w = x := by
  obtain ⟨a, b, c, d, e⟩ := x
  have h2 : 0 ≤ d ∧ d ≤ 4 := h.de
  show Vo.mk a b c (IntKind.u64.wrap d) e = _
  rw [IntWalk.u64_in _ (show 0 ≤ d ∧ d ≤ 18446744073709551615 by omega)]
def encV (vs : List Vo) (i : Nat) : List UInt8 := encU vs.length ++ ((vs.take i).map fun x => cVo.enc x.w).flatten
def textC (c : Ck) : ByteArray := ba (encV c.vs c.vs.length) ++ (encS (SE.textS c.ss) ++ encS (textS c.qs))
def volW (vs : List Vo) : Nat := (vs.map fun v => 10 * v.lv.length + sumB v.lv).sum
structure Ck.tz (c : Ck) : Prop where
  v : c.vs.length ≤ 1048577
  vo : ∀ y ∈ c.vs, U64 y.vo ∧ U64 y.tn ∧ U64 y.ep
  l : ∀ y ∈ c.vs, y.lv.length ≤ 1048576 ∧ sumB y.lv ≤ 1073741824
  w : volW c.vs ≤ 1073741824
  s : c.ss.length ≤ 1048576
  sf : ∀ x ∈ c.ss, x.fit
  sa : SE.sumA c.ss ≤ 1073741824
  q : c.qs.length ≤ 1048576
  qf : Fit c.qs
def volR (s : ByteArray) : List Vo × ByteArray × Bool := match (cVo.list 8 (by decide)).tk s.data.toList with
  | some (l, r) => (l, ba r, true)
  | none => ([], ⟨#[]⟩, false)
def ck0 : Ck := ⟨[], [], []⟩
end Go.Proofs.YtfkgdlfponfimaaGreat.X
/- Layer 11: the reference's Parse; the laws SessionTexts and SessionBack. -/
set_option maxRecDepth 100000
namespace Go.Proofs.YtfkgdlfponfimaaGreat.X.SE
open Go Go.RowKit WM
variable {ν : Nm} {H : Heap} {Q : AVal → Heap → Prop}
def cSeB : Cod Se := (cI.pair (cI.pair (cT 4611686018427387904 (by decide)))).iso (fun p => ⟨p.1, p.2.1, p.2.2⟩) (fun x => (x.id, x.nr, x.an)) (fun _ => rfl) (fun _ => rfl)
end Go.Proofs.YtfkgdlfponfimaaGreat.X.SE
/- Layer 13: states that texts say. -/
set_option maxRecDepth 100000
namespace Go.Proofs.YtfkgdlfponfimaaGreat.X
open Go Go.RowKit WM
variable {ν : Nm} {H : Heap} {Q : AVal → Heap → Prop} {c : Ck}
def parC (s : ByteArray) : Ck × Bool :=
  if (volR s).2.2 = true ∧ (resT ((volR s).2.1.size : Int) (volR s).2.1).2.2 = true ∧ (resT ((resT ((volR s).2.1.size : Int) (volR s).2.1).2.1.size : Int) (resT ((volR s).2.1.size : Int) (volR s).2.1).2.1).2.2 = true
    ∧ (SE.resP (resT ((volR s).2.1.size : Int) (volR s).2.1).1).2 = true ∧ (resP (resT ((resT ((volR s).2.1.size : Int) (volR s).2.1).2.1.size : Int) (resT ((volR s).2.1.size : Int) (volR s).2.1).2.1).1).2 = true
    ∧ (resT ((resT ((volR s).2.1.size : Int) (volR s).2.1).2.1.size : Int) (resT ((volR s).2.1.size : Int) (volR s).2.1).2.1).2.1 = ⟨#[]⟩
    ∧ chkC ⟨(volR s).1, (SE.resP (resT ((volR s).2.1.size : Int) (volR s).2.1).1).1, (resP (resT ((resT ((volR s).2.1.size : Int) (volR s).2.1).2.1.size : Int) (resT ((volR s).2.1.size : Int) (volR s).2.1).2.1).1).1⟩ = true
  then (⟨(volR s).1, (SE.resP (resT ((volR s).2.1.size : Int) (volR s).2.1).1).1, (resP (resT ((resT ((volR s).2.1.size : Int) (volR s).2.1).2.1.size : Int) (resT ((volR s).2.1.size : Int) (volR s).2.1).2.1).1).1⟩, true)
  else (ck0, false)
end Go.Proofs.YtfkgdlfponfimaaGreat.X
/- Layer 13: texts, program and reference. -/
set_option maxRecDepth 100000
namespace Go.Proofs.YtfkgdlfponfimaaGreat.X
open Go Go.RowKit WM
variable {ν : Nm} {H : Heap} {Q : AVal → Heap → Prop} {c : Ck}
theorem fixedT13 (h : acall cfg (aexec cfg 100) ν 5 [] H = some (.bool true, H)) (hq : Q (.bool true) H) : CW cfg ν 5 [] H Q := ⟨100, _, _, h, hq⟩
theorem is_same (hz : c.sz) (hq : Q (.bool true) H) : CW cfg ν 14 [c.enc, c.enc] H Q := ckis_c hz hz (by rw [decide_eq_true rfl]; exact hq)
end Go.Proofs.YtfkgdlfponfimaaGreat.X
/- Layer 13: the law ChunkApplies, walked. -/
set_option maxRecDepth 100000
set_option maxHeartbeats 4000000
namespace Go.Proofs.YtfkgdlfponfimaaGreat.X
open Go Go.RowKit WM
variable {ν β ps pos pos' : Nm} {H H1 : Heap} {Q : AVal → Heap → Prop} {L : List Asr} {k kx : Nat} {S : Rf} {c : Ck} {q qo : Nm} {key id nr : Int} {cmd : ByteArray} {m : Cm}
theorem Rf.issuesLe {key : Int} : ∀ (l : List Tk) {S : Rf} {N : Nat}, S.le N → (S.issues key l).2.le (N + l.length)
  | [], _, _, h => h
  | t :: l, S, N, h => by
    have h1 : (S.issue key t).2.le (N + 1) := Rf.value_le h _
    have := issuesLe (key := key) l h1
    simp only [List.length_cons, Rf.issues]
    exact this.mono (by omega)
theorem rk_check_a {v : AVal} {b : Bool} (hv : X.freeze [] H 8 v = c.enc) (hz : c.sz) (hb : chkC c = b) (hq : Q (.bool b) H) : CW cfg ν 6 [v] H Q := rk_check hv hz (by rw [hb]; exact hq)
theorem good_chk (hz : c.sz) (hv : ∀ x ∈ c.vs, U64 x.vo ∧ U64 x.tn ∧ U64 x.ep) (hs : ∀ x ∈ c.ss, x.fit) (hq : Fit c.qs) (h : chkC c = true) : c.good := by
  unfold chkC at h
  simp only [Bool.and_eq_true, decide_eq_true_eq] at h
  obtain ⟨⟨⟨h1, h2, h3⟩, h4⟩, h5⟩ := h
  refine ⟨h1, fun x hx => ?_, h3, h4, hs, h5, hq⟩
  obtain ⟨a1, a2, a3, a4⟩ := h2 x hx
  obtain ⟨b1, b2, b3⟩ := hv x hx
  exact ⟨b1, b2, b3, ⟨a1, a2⟩, a3, a4⟩
theorem good_sz0 (h : c.good) : c.sz := ⟨h.sm.1, h.sm.2, h.sm.3, h.sm.4⟩
theorem neFi {T : TT} {t : TypeId} {a b : Int} (h : a = b) : aBin T .neq t (.int .i64 a) (.int .i64 b) = some (.bool false) := by subst h; simp [aBin, aIntB, aInt]
theorem neFs {T : TT} {t : TypeId} {a b : ByteArray} (h : a = b) : aBin T .neq t (.str a) (.str b) = some (.bool false) := by subst h; simp [aBin, aStr]
theorem neBx (a : Bool) : aBin cfg.T .neq 4 (.bool a) (.bool a) = some (.bool false) := by cases a <;> rfl
theorem swap_st {va : AVal} {d : Ck} {a b : Asr} (hX : L[kx]? = some (stX va c)) (hk : kx < k) (hS : Own β pos H ((L.eraseIdx kx).set (k - 1) b)) : Own β pos H ((L.set k b).set kx (stX d.enc d)) := by
  have e : (L.eraseIdx kx).set (k - 1) b = (L.set k b).eraseIdx kx := by
    rw [List.eraseIdx_set_lt hk]
  rw [e] at hS
  refine Own.unpick (Own.addX hS) (a := stX va c) ?_
  rw [List.getElem?_set_ne (by omega)]; exact hX
theorem lose_st {va : AVal} (h : Own β ps H L) (hX : L[kx]? = some (stX va c)) : Own β ps (X.lose (X.reach [] H 8 va) H) (L.eraseIdx kx) := own_loseX (h.pick hX)
theorem at_st {a : Asr} (hL : L[k]? = some a) (hk : kx < k) : (L.eraseIdx kx)[k - 1]? = some a := by
  rw [List.getElem?_eraseIdx_of_ge (by omega), show k - 1 + 1 = k by omega]; exact hL
theorem apply_x {va : AVal} (hg : c.good) (hc : cmd.size ≤ 1099511627776) (hS : Own β ps H L) (hX : L[kx]? = some (stX va c)) (hL : L[k]? = some (orc qo S.of)) (hk : kx < k) (hle : le ps ν) (hβ : under β ν = true) (hp : before ν pos')
    (hq : ∀ H1 d e an T, applyR S key c id nr cmd = (⟨d, e, an⟩, T) → Own β pos' H1 ((L.set k (orc qo T.of)).set kx (stX d.enc d)) → Q (.tup [d.enc, .int .i64 e, .str an]) H1) : CW cfg ν 11 [.ptr qo 0 0, .int .u64 key, va, .int .u64 id, .int .u64 nr, .str cmd] H Q :=
  apply_c (k := k - 1) hg hc (hS.x_frz hX) (lose_st hS hX) (at_st hL hk) hle hβ hp fun H1 h => hq H1 _ _ _ _ rfl (swap_st (a := orc qo S.of) hX hk h)
theorem rapply_x {va : AVal} {T : Rf} {d : Ck} {e : Int} {an : ByteArray} (hr : applyR S key c id nr cmd = (⟨d, e, an⟩, T)) (hg : c.good) (hc : cmd.size ≤ 1099511627776) (hS : Own β ps H L) (hX : L[kx]? = some (stX va c)) (hL : L[k]? = some (rorc qo S)) (hk : kx < k) (hle : le ps ν) (hβ : under β ν = true) (hp : before ν pos') {N : Nat} (hN : S.le N) (hn : N ≤ 4294960000)
    (hq : ∀ H1, Own β pos' H1 ((L.set k (rorc qo T)).set kx (stX d.enc d)) → Q (.tup [d.enc, .int .i64 e, .str an]) H1) : CW cfg ν 13 [.ptr qo 0 0, .int .u64 key, va, .int .u64 id, .int .u64 nr, .str cmd] H Q :=
  rapply_c (k := k - 1) hg hc (hS.x_frz hX) (lose_st hS hX) (at_st hL hk) hle hβ hp hN hn fun H1 h => by
    rw [hr] at h ⊢
    exact hq H1 (swap_st (a := rorc qo S) hX hk h)
theorem run_x (hg : c.good) (hm : m.fit) (hS : Own β ps H L) (hL : L[k]? = some (orc qo S.of)) (hle : le ps ν) (hβ : under β ν = true) (hp : before ν pos')
    (hq : ∀ H1 d e an T, runR S key c m = (⟨d, e, an⟩, T) → Own β pos' H1 (L.set k (orc qo T.of)) → Q (.tup [d.enc, .int .i64 e, .str an]) H1) : CW cfg ν 17 [.ptr qo 0 0, .int .u64 key, c.enc, m.enc] H Q :=
  run_c hg hm (v0 := c.enc) rfl (Bp hS rfl) hL hle hβ hp fun H1 h => hq H1 _ _ _ _ rfl h
theorem rrun_x {T : Rf} {d : Ck} {e : Int} {an : ByteArray} (hr : runR S key c m = (⟨d, e, an⟩, T)) (hg : c.good) (hm : m.fit) (hS : Own β ps H L) (hL : L[k]? = some (rorc qo S)) (hle : le ps ν) (hβ : under β ν = true) (hp : before ν pos') {N : Nat} (hN : S.le N) (hn : N ≤ 4294960000)
    (hq : ∀ H1, Own β pos' H1 (L.set k (rorc qo T)) → Q (.tup [d.enc, .int .i64 e, .str an]) H1) : CW cfg ν 18 [.ptr qo 0 0, .int .u64 key, c.enc, m.enc] H Q :=
  rrun_c hg hm (v0 := c.enc) rfl (Bp hS rfl) hL hle hβ hp hN hn fun H1 h => by
    rw [hr] at h ⊢
    exact hq H1 h
theorem Own.toXX {a b : Asr} {V S0 T0 V' S' T' : AVal} {c' : Ck} (h : Own β ps H (a :: b :: stO V S0 T0 c :: stO V' S' T' c' :: L)) : Own β ps H (a :: b :: stX (.agg [V, S0, T0]) c :: stX (.agg [V', S', T']) c' :: L) := by
  have h1 : Own β ps H (stX (.agg [V, S0, T0]) c :: a :: b :: stO V' S' T' c' :: L) := Own.toX (Own.tor (A := [a, b]) h)
  have h2 : Own β ps H (stX (.agg [V', S', T']) c' :: stX (.agg [V, S0, T0]) c :: a :: b :: L) := Own.toX (Own.tor (A := [_, a, b]) h1)
  have h3 : Own β ps H (stX (.agg [V, S0, T0]) c :: a :: b :: stX (.agg [V', S', T']) c' :: L) := Own.rot (A := [_, a, b]) h2
  exact Own.rot (A := [a, b]) h3
theorem lawApplies0 (x : Py) (hx : x.good) (hno : chkC x.c = false) (hq : Q (.bool true) H) : CW cfg [] 3 [x.enc] H Q := by
  refine Be g3 F3 Z ?_
  have hS0 : Own [] [] (fun _ => none) [] := Own.nil
  refine Ac (AR hS0 (AE (p := []) (b := [0, 0])) Bh Z Z Z ⟨Z, Z⟩ fun H1 (hS1 : Own _ _ _ ([_])) => Ab Z Z (EZ (c167 ..) Z (Aq (Ac (AB Z Z (fixedT13 (by kernel_rfl) ?_) )))))
  refine BE Z Z Z (Aa Z Z (EN (c167 ..) Z (Al Z Z Z (Ad hS1 (k := 0) Z Z Z Z Z Z (AB Z Z (rk_check_a (c := x.c) Z hx.sz hno ?_) )))))
  refine EN (c167 ..) Z (BE Z Z Z (Aw Z Z Z (EZ (c167 ..) Z (AZ Z Z (Ac (AB Z Z (fixedT13 (by kernel_rfl) ?_) ))))))
  refine Ab Z Z (EZ (c167 ..) Z (Ap (Ao (Ak (res1 Z (Ai Z)) (frz1 (Q := Q) (Ae Z) ?_)))))
  exact hq
theorem lawApplies1 (x : Py) (hx : x.good) (hf : x.c.fits) (hyes : chkC x.c = true) (hq : Q (.bool true) H) : CW cfg [] 3 [x.enc] H Q := by
  have hg := good_chk hx.sz hf.v hf.s hf.q hyes
  have hsm := hg.sm
  have hdl := hx.d
  have hil := hx.iss
  have hll := hx.l
  have hosl : x.os.le (2000000 + 2 * 0) := by
    have := Rf.issuesLe (x.iss.take 20) (key := x.key) (Rf.new_le x.d)
    rw [List.length_take] at this
    exact this.mono (by omega)
  refine Be g3 F3 Z ?_
  have hS0 : Own [] [] (fun _ => none) [] := Own.nil
  refine Ac (AR hS0 (AE (p := []) (b := [0, 0])) Bh Z Z Z ⟨Z, Z⟩ fun H1 (hS1 : Own _ _ _ ([_])) => Ab Z Z (EZ (c167 ..) Z (Aq (Ac (AB Z Z (fixedT13 (by kernel_rfl) ?_) )))))
  refine BE Z Z Z (Aa Z Z (EN (c167 ..) Z (Al Z Z Z (Ad hS1 (k := 0) Z Z Z Z Z Z (AB Z Z (rk_check_a (c := x.c) Z hx.sz hyes ?_) )))))
  refine EN (c167 ..) Z (BE Z Z Z (Aw Z Z Z (EZ (c167 ..) Z (Bd Z Z (At (Ag (Ac (Ad hS1 (k := 0) Z Z Z Z Z (Aj Z Z Z) (AB Z Z (oracle_c hx hS1 (Ar (ν := []) (a := [1, 0]) (b := [1, 0, 1, 1]) (by decide)) Bh (Au (ν := []) (a := [1, 0, 1, 1]) (b := [2, 0, 1, 1]) (by decide)) fun q1 H2 hS2 => ?_) )))))))))
  replace hS2 : Own _ _ _ ([_, _]) := hS2
  refine Ab Z Z (EZ (c167 ..) Z (Ac (Al Z Z Z (Ad hS2 (k := 1) Z Z Z Z Z Z (AB Z Z (rNew hS2 (Ar (ν := []) (a := [2, 0, 1, 1]) (b := [2, 0, 1, 1, 1]) (by decide)) Bh (Au (ν := []) (a := [2, 0, 1, 1, 1]) (b := [3, 0, 1, 1, 1]) (by decide)) Ls.of (by omega) fun q2 H3 hS3 => ?_) )))))
  replace hS3 : Own _ _ _ ([_, _, _]) := hS3
  refine EN (c167 ..) Z (Ab Z Z (EZ (c167 ..) Z (XW_mid (M := fun ee H' => Own [] (1 :: 1 :: 1 :: 1 :: 1 :: []) H' ([rorc q2 x.os, orc q1 x.os.of, row (0 :: 0 :: []) 7 [x.enc]]) ∧ (True) ∧ ∃ g : Nat → AVal, ee = [g 0, .ptr (0 :: 0 :: []) 0 0, g 2, .ptr q1 0 0, .ptr q2 0 0, g 5, g 6, g 7, g 8, g 9, g 10, g 11, g 12, g 13, g 14, g 15, g 16, g 17, g 18, g 19, g 20, g 21, g 22, g 23, g 24, g 25, g 26, g 27, g 28, g 29, g 30, g 31, g 32, g 33, g 34, g 35, g 36, g 37, g 38, g 39, g 40, g 41, g 42, g 43, g 44, g 45, g 46, g 47, g 48, g 49, g 50, g 51, g 52, g 53, g 54, g 55, g 56, g 57, g 58, g 59, g 60, g 61, g 62, g 63, g 64, g 65, g 66, g 67, g 68, g 69, g 70, g 71, g 72, g 73, g 74, g 75, g 76, g 77, g 78, g 79, g 80, g 81, g 82, g 83, g 84, g 85, g 86, g 87, g 88, g 89, g 90, g 91, g 92, g 93, g 94, g 95, g 96, g 97, g 98, g 99, g 100, g 101, g 102, g 103, g 104, g 105, g 106, g 107, g 108, g 109, g 110, g 111, g 112, g 113, g 114, g 115, g 116, g 117, g 118, g 119, g 120, g 121, g 122, g 123, g 124, g 125, g 126, g 127, g 128, g 129, g 130, g 131, g 132, g 133, g 134, g 135, g 136, g 137, g 138, g 139, g 140, g 141, g 142, g 143, g 144, g 145, g 146, g 147, g 148, g 149, g 150, g 151, g 152, g 153, g 154, g 155, g 156, g 157, g 158, g 159, g 160, g 161, g 162, g 163, g 164, g 165, g 166]) ?_ ?_)))
  ·skip
   refine Ac (Ab Z Z (EZ (c167 ..) Z (AD (AV (I := fun ν' mm ee H' => ∃ (i : Nat), mm = x.iss.length - i ∧ under (1 :: 0 :: 1 :: 1 :: 1 :: 1 :: []) ν' = true ∧ Own [] ν' H' ([rorc q2 ((Rf.new x.d).issues x.key (x.iss.take i)).2, orc q1 x.os.of, row (0 :: 0 :: []) 7 [x.enc]]) ∧ (i ≤ x.iss.length ∧ i ≤ 20) ∧ ∃ g : Nat → AVal, ee = [g 0, .ptr (0 :: 0 :: []) 0 0, g 2, .ptr q1 0 0, .ptr q2 0 0, .int .i64 i, g 6, g 7, g 8, g 9, g 10, g 11, g 12, g 13, g 14, g 15, g 16, g 17, g 18, g 19, g 20, g 21, g 22, g 23, g 24, g 25, g 26, g 27, g 28, g 29, g 30, g 31, g 32, g 33, g 34, g 35, g 36, g 37, g 38, g 39, g 40, g 41, g 42, g 43, g 44, g 45, g 46, g 47, g 48, g 49, g 50, g 51, g 52, g 53, g 54, g 55, g 56, g 57, g 58, g 59, g 60, g 61, g 62, g 63, g 64, g 65, g 66, g 67, g 68, g 69, g 70, g 71, g 72, g 73, g 74, g 75, g 76, g 77, g 78, g 79, g 80, g 81, g 82, g 83, g 84, g 85, g 86, g 87, g 88, g 89, g 90, g 91, g 92, g 93, g 94, g 95, g 96, g 97, g 98, g 99, g 100, g 101, g 102, g 103, g 104, g 105, g 106, g 107, g 108, g 109, g 110, g 111, g 112, g 113, g 114, g 115, g 116, g 117, g 118, g 119, g 120, g 121, g 122, g 123, g 124, g 125, g 126, g 127, g 128, g 129, g 130, g 131, g 132, g 133, g 134, g 135, g 136, g 137, g 138, g 139, g 140, g 141, g 142, g 143, g 144, g 145, g 146, g 147, g 148, g 149, g 150, g 151, g 152, g 153, g 154, g 155, g 156, g 157, g 158, g 159, g 160, g 161, g 162, g 163, g 164, g 165, g 166]) ?_ _ _ _ _ ⟨0, Z, AI, Own.cast (Own.mono (hS3) (Ar (ν := []) (a := [3, 0, 1, 1, 1]) (b := [1, 0, 1, 1, 1, 1]) (by decide))) (Z), (⟨Nat.zero_le _, by omega⟩), AU Z⟩))))
   rintro ν1 mm ee H4 ⟨i, rfl, hU1, hS4, ⟨hi, hi2⟩, g1, rfl⟩
   have hle0 := Rf.issuesLe (x.iss.take i) (key := x.key) (Rf.new_le x.d)
   rw [List.length_take] at hle0
   refine Aq (Ac (Aa Z Z (Al Z Z Z (Ad hS4 (k := 2) Z Z Z Z Z Z (EN (c167 ..) Z (Bj Z Z Ls.of Z Z Z (List.length_map _) (Ah Z Z Z Z Z (Aa Z Z (EN (c167 ..) Z (AT (tt := 41) Z (fun g6_6 => ?_) (fun g6_6 => ?_)))))))))))
   ·try simp only [bs] at g6_6
    refine Aa Z Z (Ah Z Z Z Z Z (EN (c167 ..) Z (Aw Z Z Z (EZ (c167 ..) Z (AH Z (fun h6 => ?_) (fun h6 => ?_))))))
    ·try simp only [bs] at h6
     refine At (Ag (Aq (AD (AC (Aa Z Z (Al Z Z Z (Ad hS4 (k := 2) Z Z Z Z Z Z (EN (c167 ..) Z (Al Z Z Z (Ad hS4 (k := 2) Z Z Z Z Z Z (Aa Z Z (EN (c167 ..) Z (Bb Z Z Z Ls.of Z Z Z Z (Ba (by omega)) Z (AS Z Z Z (Aj Z Z Z) (AB Z Z (rtoken_c hS4 (k := 0) Z (AE (p := ν1) (b := [8, 0, 1, 0])) Bh (Au (ν := ν1) (a := [8, 0, 1, 0]) (b := [9, 0, 1, 0]) (by decide)) hle0 (by omega) x.key x.iss[i] (hx.ifit _ (List.getElem_mem (by omega))) fun H5 hS5 => ?_) )))))))))))))))
     replace hS5 : Own _ _ _ ([_, _, _]) := hS5
     refine EZ (c167 ..) Z (AJ (Ag (AC (Aa Z Z (Ah Z Z Z Z (AW (by omega)) (Ab Z Z (EZ (c167 ..) Z (⟨_, ?_, i + 1, Z, AM hU1, Own.cast (Own.mono (hS5) (Ar (ν := ν1) (a := [9, 0, 1, 0]) (b := [1]) (by decide))) (by rw [Rf.issues_step (by omega)]), ?_, AU Z⟩))))))))
     · omega
     exact ⟨by omega, by omega⟩
    try simp only [bs] at h6
    refine AY (AQ (AN (⟨Own.cast (Own.mono (hS4) (Ax (Bg (a := []) hU1 (Au (ν := []) (a := [1, 0, 1, 1, 1, 1]) (b := [1, 1, 1, 1, 1]) (by decide))))) (by rw [Py.stop hi2 (by omega)]), ?_, AU Z⟩)))
    trivial
   try simp only [bs] at g6_6
   refine An Z (An Z (EN (c167 ..) Z (Aw Z Z Z (EZ (c167 ..) Z (Bd Z Z (AY (AQ (AN (⟨Own.cast (Own.mono (hS4) (Ax (Bg (a := []) hU1 (Au (ν := []) (a := [1, 0, 1, 1, 1, 1]) (b := [1, 1, 1, 1, 1]) (by decide))))) (by rw [Py.stop hi2 (by omega)]), ?_, AU Z⟩)))))))))
   trivial
  rintro ee H6 ⟨hS6, _, g2, rfl⟩
  refine XW_srF (qs := [0 :: 0 :: []]) Z Z ?_
  have hSF1 : Own _ _ _ ([_, _, _]) := (Own.hide (Own.hide0 hS6) (k := 2) Z)
  refine Bf Z (Al Z Z Z (AL (OWF_fl Z (BN hS6 (k := 2) Z (by simp) Z Z Z Z Z (AL (Bf Z (AB Z Z (copy_c (v0 := x.c.enc) Z (Bp hSF1 Z) (AE (p := 1 :: 1 :: 1 :: 1 :: 1 :: []) (b := [2, 0])) Bh (Au (ν := []) (a := [2, 0, 1, 1, 1, 1, 1]) (b := [3, 0, 1, 1, 1, 1, 1]) (by decide)) hsm fun H7 Va Sa Ta hS7 => ?_) )))))))
  replace hS7 : Own _ _ _ ([_, _, _, _]) := hS7
  refine AL (BK (e' := [_,_,_,_,_,_,_,_,_,_,_,_,_,_,_,_,_,_,_,_,_,_,_,_,_,_,_,_,_,_,_,_,_,_,_,_,_,_,_,_,_,_,_,_,_,_,_,_,_,_,_,_,_,_,_,_,_,_,_,_,_,_,_,_,_,_,_,_,_,_,_,_,_,_,_,_,_,_,_,_,_,_,_,_,_,_,_,_,_,_,_,_,_,_,_,_,_,_,_,_,_,_,_,_,_,_,_,_,_,_,_,_,_,_,_,_,_,_,_,_,_,_,_,_,_,_,_,_,_,_,_,_,_,_,_,_,_,_,_,_,_,_,_,_,_,_,_,_,_,_,_,_,_,_,_,_,_,_,_,_,_,_,_,_,_,_,_]) Z (Bf Z (Al Z Z Z (AL (OWF_fl Z (BN hS6 (k := 2) Z (by simp) Z Z Z Z Z (AL (Bf Z (AB Z Z (copy_c (v0 := x.c.enc) Z (Bp hS7 Z) (Ar (ν := []) (a := [3, 0, 1, 1, 1, 1, 1]) (b := [5, 0, 1, 1, 1, 1, 1]) (by decide)) Bh (Au (ν := []) (a := [5, 0, 1, 1, 1, 1, 1]) (b := [6, 0, 1, 1, 1, 1, 1]) (by decide)) hsm fun H8 Vb Sb Tb hS8 => ?_) )))))))))
  replace hS8 : Own _ _ _ ([_, _, _, _, _]) := hS8
  refine AL (BK (e' := [_,_,_,_,_,_,_,_,_,_,_,_,_,_,_,_,_,_,_,_,_,_,_,_,_,_,_,_,_,_,_,_,_,_,_,_,_,_,_,_,_,_,_,_,_,_,_,_,_,_,_,_,_,_,_,_,_,_,_,_,_,_,_,_,_,_,_,_,_,_,_,_,_,_,_,_,_,_,_,_,_,_,_,_,_,_,_,_,_,_,_,_,_,_,_,_,_,_,_,_,_,_,_,_,_,_,_,_,_,_,_,_,_,_,_,_,_,_,_,_,_,_,_,_,_,_,_,_,_,_,_,_,_,_,_,_,_,_,_,_,_,_,_,_,_,_,_,_,_,_,_,_,_,_,_,_,_,_,_,_,_,_,_,_,_,_,_]) Z (Bf Z (AG hS8 le_refl Bh Z Z Z Z fun H9 (hS9 : Own _ _ _ ([_, _, _, _, _, _])) => AL (Bf Z (AG hS9 le_refl Bh Z Z Z Z fun H10 (hS10 : Own _ _ _ ([_, _, _, _, _, _, _])) => AL (Bf Z (Av hS10 (k := 1) Z le_refl Z Z Z Z ⟨Z, Z, Nat.le_of_ble_eq_true Z⟩ (u2 := .agg [_, _, _]) Z fun H11 (hS11 : Own _ _ _ ([_, _, _, _, _, _, _])) => AL (BK (e' := [_,_,_,_,_,_,_,_,_,_,_,_,_,_,_,_,_,_,_,_,_,_,_,_,_,_,_,_,_,_,_,_,_,_,_,_,_,_,_,_,_,_,_,_,_,_,_,_,_,_,_,_,_,_,_,_,_,_,_,_,_,_,_,_,_,_,_,_,_,_,_,_,_,_,_,_,_,_,_,_,_,_,_,_,_,_,_,_,_,_,_,_,_,_,_,_,_,_,_,_,_,_,_,_,_,_,_,_,_,_,_,_,_,_,_,_,_,_,_,_,_,_,_,_,_,_,_,_,_,_,_,_,_,_,_,_,_,_,_,_,_,_,_,_,_,_,_,_,_,_,_,_,_,_,_,_,_,_,_,_,_,_,_,_,_,_,_]) Z ?_))))))))
  refine Bf Z (Av hS11 (k := 0) Z le_refl Z Z Z Z ⟨Z, Z, Nat.le_of_ble_eq_true Z⟩ (u2 := .agg [_, _, _]) Z fun H12 (hS12 : Own _ _ _ ([_, _, _, _, _, _, _])) => AL (OWF_nilE (e' := [_,_,_,_,_,_,_,_,_,_,_,_,_,_,_,_,_,_,_,_,_,_,_,_,_,_,_,_,_,_,_,_,_,_,_,_,_,_,_,_,_,_,_,_,_,_,_,_,_,_,_,_,_,_,_,_,_,_,_,_,_,_,_,_,_,_,_,_,_,_,_,_,_,_,_,_,_,_,_,_,_,_,_,_,_,_,_,_,_,_,_,_,_,_,_,_,_,_,_,_,_,_,_,_,_,_,_,_,_,_,_,_,_,_,_,_,_,_,_,_,_,_,_,_,_,_,_,_,_,_,_,_,_,_,_,_,_,_,_,_,_,_,_,_,_,_,_,_,_,_,_,_,_,_,_,_,_,_,_,_,_,_,_,_,_,_,_]) Z ?_))
  have hSB1 : Own _ _ _ ([_, _, _, _, _, _, _]) := (Own.back hS6 (k := 2) Z (Own.back0 hS12) (k' := 6) rfl)
  refine Aq (Ac (Ab Z Z (EZ (c167 ..) Z (AD (AV (I := fun ν' mm ee H' => ∃ (i : Nat) (d : Ck) (T : Rf) (Va : AVal) (Sa : AVal) (Ta : AVal) (Vb : AVal) (Sb : AVal) (Tb : AVal), mm = x.l.length - i ∧ under (1 :: 0 :: 1 :: 1 :: 1 :: 1 :: 1 :: 1 :: []) ν' = true ∧ Own [] ν' H' ([row (7 :: 0 :: 1 :: 1 :: 1 :: 1 :: 1 :: []) 3 [.agg [Vb, Sb, Tb]], row (6 :: 0 :: 1 :: 1 :: 1 :: 1 :: 1 :: []) 3 [.agg [Va, Sa, Ta]], stX (.agg [Vb, Sb, Tb]) d, stX (.agg [Va, Sa, Ta]) d, rorc q2 T, orc q1 T.of, row (0 :: 0 :: []) 7 [x.enc]]) ∧ (d.good ∧ T.le (2000000 + 2 * i) ∧ i ≤ x.l.length ∧ i ≤ 60) ∧ ∃ g : Nat → AVal, ee = [g 0, .ptr (0 :: 0 :: []) 0 0, g 2, .ptr q1 0 0, .ptr q2 0 0, g 5, .ptr (6 :: 0 :: 1 :: 1 :: 1 :: 1 :: 1 :: []) 0 0, .ptr (7 :: 0 :: 1 :: 1 :: 1 :: 1 :: 1 :: []) 0 0, .int .i64 i, g 9, g 10, g 11, g 12, g 13, g 14, g 15, g 16, g 17, g 18, g 19, g 20, g 21, g 22, g 23, g 24, g 25, g 26, g 27, g 28, g 29, g 30, g 31, g 32, g 33, g 34, g 35, g 36, g 37, g 38, g 39, g 40, g 41, g 42, g 43, g 44, g 45, g 46, g 47, g 48, g 49, g 50, g 51, g 52, g 53, g 54, g 55, g 56, g 57, g 58, g 59, g 60, g 61, g 62, g 63, g 64, g 65, g 66, g 67, g 68, g 69, g 70, g 71, g 72, g 73, g 74, g 75, g 76, g 77, g 78, g 79, g 80, g 81, g 82, g 83, g 84, g 85, g 86, g 87, g 88, g 89, g 90, g 91, g 92, g 93, g 94, g 95, g 96, g 97, g 98, g 99, g 100, g 101, g 102, g 103, g 104, g 105, g 106, g 107, g 108, g 109, g 110, g 111, g 112, g 113, g 114, g 115, g 116, g 117, g 118, g 119, g 120, g 121, g 122, g 123, g 124, g 125, g 126, g 127, g 128, g 129, g 130, g 131, g 132, g 133, g 134, g 135, g 136, g 137, g 138, g 139, g 140, g 141, g 142, g 143, g 144, g 145, g 146, g 147, g 148, g 149, g 150, g 151, g 152, g 153, g 154, g 155, g 156, g 157, g 158, g 159, g 160, g 161, g 162, g 163, g 164, g 165, g 166]) ?_ _ _ _ _ ⟨0, x.c, x.os, Va, Sa, Ta, Vb, Sb, Tb, Z, AI, Own.cast (Own.mono (Own.toXX hSB1) (Ar (ν := []) (a := [10, 0, 1, 1, 1, 1, 1]) (b := [1, 0, 1, 1, 1, 1, 1, 1]) (by decide))) (Z), (⟨hg, hosl, by omega, by omega⟩), AU Z⟩)))))
  rintro ν2 mm ee H13 ⟨i, d, T, Va, Sa, Ta, Vb, Sb, Tb, rfl, hU2, hS13, ⟨hgd, hTl, hi, hi2⟩, g3, rfl⟩
  refine Aq (Ac (Aa Z Z (Al Z Z Z (Ad hS13 (k := 6) Z Z Z Z Z Z (EN (c167 ..) Z (Bj Z Z Ls.of Z Z Z (List.length_map _) (Ah Z Z Z Z Z (Aa Z Z (EN (c167 ..) Z (AT (tt := 67) Z (fun g11_6 => ?_) (fun g11_6 => ?_)))))))))))
  ·try simp only [bs] at g11_6
   refine Aa Z Z (Ah Z Z Z Z Z (EN (c167 ..) Z (Aw Z Z Z (EZ (c167 ..) Z (AH Z (fun h11 => ?_) (fun h11 => ?_))))))
   ·try simp only [bs] at h11
    refine At (Ag (Aq (AD (Ac ?_))))
    have hyf := hx.lfit x.l[i] (List.getElem_mem (by omega))
    have hyb := hyf.bytes
    refine Al Z Z Z (Ad hS13 (k := 6) Z Z Z Z Z Z (Aa Z Z (EN (c167 ..) Z (Bb Z Z Z Ls.of Z Z Z Z (Ba (by omega)) Z (AS Z Z Z (Aj Z Z Z) (AG hS13 (AE (p := ν2) (b := [5, 0, 0, 1, 0])) Bh Z Z Z Z fun H14 (hS14 : Own _ _ _ ([_, _, _, _, _, _, _, _])) => EN (c167 ..) Z (Av hS14 (k := 0) Z le_refl Z Z Z Z ⟨Z, Z, Nat.le_of_ble_eq_true Z⟩ (u2 := .agg [_, _, _, _, _, _, _, _, _, _, _, _, _, _]) Z fun H15 (hS15 : Own _ _ _ ([_, _, _, _, _, _, _, _])) => EZ (c167 ..) Z (Ac (Aa Z Z (Al Z Z Z (Ad hS15 (k := 7) Z Z Z Z Z Z (EN (c167 ..) Z (Ad hS15 (k := 2) Z Z Z Z Z (Aj Z Z Z) (Al Z Z Z (Ad hS15 (k := 0) Z Z Z Z Z Z (EN (c167 ..) Z (Al Z Z Z (Ad hS15 (k := 0) Z Z Z Z Z Z (Ad hS15 (k := 0) Z Z Z Z Z (Aj Z Z Z) (EN (c167 ..) Z (AB Z Z (bytes_c hyf ?_) )))))))))))))))))))))
    refine AB Z Z (apply_x (c := d) (kx := 4) (k := 6) hgd hyb hS15 Z Z (by decide) (Ar (ν := ν2) (a := [7, 0, 0, 1, 0]) (b := [10, 0, 1, 0, 1, 0]) (by decide)) Bh (Au (ν := ν2) (a := [10, 0, 1, 0, 1, 0]) (b := [11, 0, 1, 0, 1, 0]) (by decide)) fun H16 d1 e1 an1 T1 hr1 hS16 => ?_) 
    replace hS16 : Own _ _ _ ([_, _, _, _, _, _, _, _]) := hS16
    refine Aa Z Z (EN (c167 ..) Z (AK Z Z Z (AK Z Z Z (AK Z Z Z (EN (c167 ..) Z (AG hS16 (Ar (ν := ν2) (a := [11, 0, 1, 0, 1, 0]) (b := [15, 0, 1, 0, 1, 0]) (by decide)) Bh Z Z Z Z fun H17 (hS17 : Own _ _ _ ([_, _, _, _, _, _, _, _, _])) => Av hS17 (k := 0) Z le_refl Z Z Z Z ⟨Z, Z, Nat.le_of_ble_eq_true Z⟩ (u2 := .agg [_, _, _]) Z fun H18 (hS18 : Own _ _ _ ([_, _, _, _, _, _, _, _, _])) => Ab Z Z (EN (c167 ..) Z (Ab Z Z (EZ (c167 ..) Z (Ac (Aa Z Z (Al Z Z Z (Ad hS18 (k := 8) Z Z Z Z Z Z (EN (c167 ..) Z (Ad hS18 (k := 2) Z Z Z Z Z (Aj Z Z Z) (Al Z Z Z (Ad hS18 (k := 1) Z Z Z Z Z Z (EN (c167 ..) Z (Al Z Z Z (Ad hS18 (k := 1) Z Z Z Z Z Z (Ad hS18 (k := 1) Z Z Z Z Z (Aj Z Z Z) (EN (c167 ..) Z (AB Z Z (bytes_c hyf ?_) )))))))))))))))))))))))
    refine AB Z Z (rapply_x (c := d) (kx := 4) (k := 6) hr1 hgd hyb hS18 Z Z (by decide) (Ar (ν := ν2) (a := [17, 0, 1, 0, 1, 0]) (b := [10, 0, 1, 1, 0, 1, 0]) (by decide)) Bh (Au (ν := ν2) (a := [10, 0, 1, 1, 0, 1, 0]) (b := [11, 0, 1, 1, 0, 1, 0]) (by decide)) hTl (by omega) fun H19 hS19 => ?_) 
    replace hS19 : Own _ _ _ ([_, _, _, _, _, _, _, _, _]) := hS19
    refine Aa Z Z (EN (c167 ..) Z (AK Z Z Z (AK Z Z Z (AK Z Z Z (EN (c167 ..) Z (AG hS19 (Ar (ν := ν2) (a := [11, 0, 1, 1, 0, 1, 0]) (b := [15, 0, 1, 1, 0, 1, 0]) (by decide)) Bh Z Z Z Z fun H20 (hS20 : Own _ _ _ ([_, _, _, _, _, _, _, _, _, _])) => Av hS20 (k := 0) Z le_refl Z Z Z Z ⟨Z, Z, Nat.le_of_ble_eq_true Z⟩ (u2 := .agg [_, _, _]) Z fun H21 (hS21 : Own _ _ _ ([_, _, _, _, _, _, _, _, _, _])) => Ab Z Z (EN (c167 ..) Z (Ab Z Z (EZ (c167 ..) Z (Aq (Ac ?_)))))))))))
    have hgd1 : d1.good := by have := applyR_good (S := T) (key := x.key) (c := d) hgd hyf.id hyf.nr hyb; rw [hr1] at this; exact this
    have hT1l : T1.le (2000001 + 2 * i) := by have := applyR_le (key := x.key) (c := d) (id := x.l[i].id) (nr := x.l[i].nr) (cmd := x.l[i].bytes) hTl; rw [hr1] at this; exact this.mono (by omega)
    refine Ad hS21 (k := 1) Z Z Z Z Z (Aj Z Z Z) (Ad hS21 (k := 0) Z Z Z Z Z (Aj Z Z Z) (AB Z Z (is_same (c := d1) (good_sz0 hgd1) ?_) ))
    refine EN (c167 ..) Z (BE Z Z Z (Aa Z Z (Aa Z Z (EN (c167 ..) Z (Aa Z Z (Ah Z Z Z Z (neFi Z) (Aw Z Z Z (EN (c167 ..) Z (Aa Z Z (Aa Z Z (Aa Z Z (EN (c167 ..) Z (Ah Z Z Z Z (neFs Z) (Aw Z Z Z (Aa Z Z (EN (c167 ..) Z (Aa Z Z (AB Z Z (oBad (S := T1) hS21 (k := 8) Z (Ar (ν := ν2) (a := [17, 0, 1, 1, 0, 1, 0]) (b := [16, 0, 0, 1, 1, 1, 0, 1, 0]) (by decide)) Bh (Au (ν := ν2) (a := [16, 0, 0, 1, 1, 1, 0, 1, 0]) (b := [17, 0, 0, 1, 1, 1, 0, 1, 0]) (by decide)) fun H22 hS22 => ?_) ))))))))))))))))))
    replace hS22 : Own _ _ _ ([_, _, _, _, _, _, _, _, _, _]) := hS22
    refine Aa Z Z (EN (c167 ..) Z (AB Z Z (rBad (S := T1) hS22 (k := 7) Z (Ar (ν := ν2) (a := [17, 0, 0, 1, 1, 1, 0, 1, 0]) (b := [18, 0, 0, 1, 1, 1, 0, 1, 0]) (by decide)) Bh (Au (ν := ν2) (a := [18, 0, 0, 1, 1, 1, 0, 1, 0]) (b := [19, 0, 0, 1, 1, 1, 0, 1, 0]) (by decide)) fun H23 hS23 => ?_) ))
    replace hS23 : Own _ _ _ ([_, _, _, _, _, _, _, _, _, _]) := hS23
    refine Ah Z Z Z Z (neBx _) (Aw Z Z Z (EZ (c167 ..) Z (Bd Z Z (At (Ag (XW_srF (qs := [15 :: 0 :: 1 :: 1 :: 0 :: 1 :: 0 :: ν2]) Z Z ?_))))))
    have hSF2 : Own _ _ _ ([_, _, _, _, _, _, _, _, _, _]) := (Own.hide (Own.hide0 hS23) (k := 0) Z)
    refine Bf Z (Ad hSF2 (k := 1) Z Z Z Z Z (Aj Z Z Z) (AL (OWF_fl Z (BN hS23 (k := 0) Z (by simp) Z Z Z Z (Aj Z Z Z) (AL (Bf Z (Av hSF2 (k := 4) Z (Ar (ν := ν2) (a := [19, 0, 0, 1, 1, 1, 0, 1, 0]) (b := [2, 0, 1, 1, 1, 1, 0, 1, 0]) (by decide)) Z Z Z Z ⟨Z, Z, Nat.le_of_ble_eq_true Z⟩ (u2 := .agg [_, _, _]) Z fun H24 (hS24 : Own _ _ _ ([_, _, _, _, _, _, _, _, _, _])) => AL (BK (e' := [_,_,_,_,_,_,_,_,_,_,_,_,_,_,_,_,_,_,_,_,_,_,_,_,_,_,_,_,_,_,_,_,_,_,_,_,_,_,_,_,_,_,_,_,_,_,_,_,_,_,_,_,_,_,_,_,_,_,_,_,_,_,_,_,_,_,_,_,_,_,_,_,_,_,_,_,_,_,_,_,_,_,_,_,_,_,_,_,_,_,_,_,_,_,_,_,_,_,_,_,_,_,_,_,_,_,_,_,_,_,_,_,_,_,_,_,_,_,_,_,_,_,_,_,_,_,_,_,_,_,_,_,_,_,_,_,_,_,_,_,_,_,_,_,_,_,_,_,_,_,_,_,_,_,_,_,_,_,_,_,_,_,_,_,_,_,_]) Z (Bf Z (Av hS24 (k := 3) Z le_refl Z Z Z Z ⟨Z, Z, Nat.le_of_ble_eq_true Z⟩ (u2 := .agg [_, _, _]) Z fun H25 (hS25 : Own _ _ _ ([_, _, _, _, _, _, _, _, _, _])) => AL (OWF_nilE (e' := [_,_,_,_,_,_,_,_,_,_,_,_,_,_,_,_,_,_,_,_,_,_,_,_,_,_,_,_,_,_,_,_,_,_,_,_,_,_,_,_,_,_,_,_,_,_,_,_,_,_,_,_,_,_,_,_,_,_,_,_,_,_,_,_,_,_,_,_,_,_,_,_,_,_,_,_,_,_,_,_,_,_,_,_,_,_,_,_,_,_,_,_,_,_,_,_,_,_,_,_,_,_,_,_,_,_,_,_,_,_,_,_,_,_,_,_,_,_,_,_,_,_,_,_,_,_,_,_,_,_,_,_,_,_,_,_,_,_,_,_,_,_,_,_,_,_,_,_,_,_,_,_,_,_,_,_,_,_,_,_,_,_,_,_,_,_,_]) Z ?_)))))))))))
    have hSB2 : Own _ _ _ ([_, _, _, _, _, _, _, _, _, _]) := (Own.back hS23 (k := 0) Z (Own.back0 hS25) (k' := 0) rfl)
    refine Ac (Aa Z Z (Al Z Z Z (Ad hSB2 (k := 9) Z Z Z Z Z Z (EN (c167 ..) Z (Ad hSB2 (k := 4) Z Z Z Z Z (Aj Z Z Z) (Al Z Z Z (Ad hSB2 (k := 2) Z Z Z Z Z Z (EN (c167 ..) Z (AB Z Z (run_x (c := d1) hgd1 hyf.m hSB2 (k := 8) Z (Ar (ν := ν2) (a := [4, 0, 1, 1, 1, 1, 0, 1, 0]) (b := [6, 0, 1, 1, 1, 1, 1, 0, 1, 0]) (by decide)) Bh (Au (ν := ν2) (a := [6, 0, 1, 1, 1, 1, 1, 0, 1, 0]) (b := [7, 0, 1, 1, 1, 1, 1, 0, 1, 0]) (by decide)) fun H26 d2 e2 an2 T2 hr2 hS26 => ?_) )))))))))
    replace hS26 : Own _ _ _ ([_, _, _, _, _, _, _, _, _, _]) := hS26
    refine Aa Z Z (AK Z Z Z (EN (c167 ..) Z (AK Z Z Z (AK Z Z Z (AG hS26 (Ar (ν := ν2) (a := [7, 0, 1, 1, 1, 1, 1, 0, 1, 0]) (b := [11, 0, 1, 1, 1, 1, 1, 0, 1, 0]) (by decide)) Bh Z Z Z Z fun H27 (hS27 : Own _ _ _ ([_, _, _, _, _, _, _, _, _, _, _])) => EN (c167 ..) Z (Av hS27 (k := 0) Z le_refl Z Z Z Z ⟨Z, Z, Nat.le_of_ble_eq_true Z⟩ (u2 := .agg [_, _, _]) Z fun H28 (hS28 : Own _ _ _ ([_, _, _, _, _, _, _, _, _, _, _])) => Ab Z Z (Ab Z Z (EZ (c167 ..) Z (Ac (Aa Z Z (Al Z Z Z (Ad hS28 (k := 10) Z Z Z Z Z Z (EN (c167 ..) Z (Ad hS28 (k := 4) Z Z Z Z Z (Aj Z Z Z) (Al Z Z Z (Ad hS28 (k := 3) Z Z Z Z Z Z (EN (c167 ..) Z (AB Z Z (rrun_x (c := d1) hr2 hgd1 hyf.m hS28 (k := 8) Z (Ar (ν := ν2) (a := [13, 0, 1, 1, 1, 1, 1, 0, 1, 0]) (b := [6, 0, 1, 1, 1, 1, 1, 1, 0, 1, 0]) (by decide)) Bh (Au (ν := ν2) (a := [6, 0, 1, 1, 1, 1, 1, 1, 0, 1, 0]) (b := [7, 0, 1, 1, 1, 1, 1, 1, 0, 1, 0]) (by decide)) hT1l (by omega) fun H29 hS29 => ?_) ))))))))))))))))))
    replace hS29 : Own _ _ _ ([_, _, _, _, _, _, _, _, _, _, _]) := hS29
    refine Aa Z Z (AK Z Z Z (EN (c167 ..) Z (AK Z Z Z (AK Z Z Z (AG hS29 (Ar (ν := ν2) (a := [7, 0, 1, 1, 1, 1, 1, 1, 0, 1, 0]) (b := [11, 0, 1, 1, 1, 1, 1, 1, 0, 1, 0]) (by decide)) Bh Z Z Z Z fun H30 (hS30 : Own _ _ _ ([_, _, _, _, _, _, _, _, _, _, _, _])) => EN (c167 ..) Z (Av hS30 (k := 0) Z le_refl Z Z Z Z ⟨Z, Z, Nat.le_of_ble_eq_true Z⟩ (u2 := .agg [_, _, _]) Z fun H31 (hS31 : Own _ _ _ ([_, _, _, _, _, _, _, _, _, _, _, _])) => Ab Z Z (Ab Z Z (EZ (c167 ..) Z (Ac ?_)))))))))
    have hgd2 : d2.good := by have := runR_good (S := T1) (key := x.key) (c := d1) hgd1 hyf.m; rw [hr2] at this; exact this
    have hT2l : T2.le (2000000 + 2 * (i + 1)) := by have := runR_le (key := x.key) (c := d1) (m := x.l[i].m) hT1l; rw [hr2] at this; exact this.mono (by omega)
    refine Ad hS31 (k := 1) Z Z Z Z Z (Aj Z Z Z) (Ad hS31 (k := 0) Z Z Z Z Z (Aj Z Z Z) (AB Z Z (is_same (c := d2) (good_sz0 hgd2) ?_) ))
    refine EN (c167 ..) Z (BE Z Z Z (Aa Z Z (Aa Z Z (EN (c167 ..) Z (Aa Z Z (Ah Z Z Z Z (neFi Z) (Aw Z Z Z (EN (c167 ..) Z (Aa Z Z (Aa Z Z (Aa Z Z (EN (c167 ..) Z (Ah Z Z Z Z (neFs Z) (Aw Z Z Z (EZ (c167 ..) Z (Bd Z Z (At (AJ (Ag (AC (Aa Z Z (Ah Z Z Z Z (AW (by omega)) (Ab Z Z (EZ (c167 ..) Z ?_))))))))))))))))))))))))
    have hSd1 : Own _ _ _ ([_, _, _, _, _, _, _]) := (Own.drop (Own.drop (Own.drop (Own.drop (Own.drop hS31 (k := 0) Z) (k := 0) Z) (k := 0) Z) (k := 0) Z) (k := 0) Z)
    refine ⟨_, ?_, i + 1, d1, T2, .lst (d1.vs.map Vo.enc), .lst (d1.ss.map SE.Se.enc), .lst (d1.qs.map Qu.enc), .lst (d1.vs.map Vo.enc), .lst (d1.ss.map SE.Se.enc), .lst (d1.qs.map Qu.enc), Z, AM hU2, Own.cast (Own.mono (hSd1) (Ar (ν := ν2) (a := [13, 0, 1, 1, 1, 1, 1, 1, 0, 1, 0]) (b := [1]) (by decide))) (Z), ?_, AU Z⟩
    · omega
    exact ⟨hgd1, hT2l, by omega, by omega⟩
   try simp only [bs] at h11
   refine AY (AQ (AN (Ag (Ac (Ab Z Z (EZ (c167 ..) Z (Ap (Ak (res1 Z (Ai Z)) (frz1 (Q := Q) (Ae Z) ?_)))))))))
   exact hq
  try simp only [bs] at g11_6
  refine An Z (An Z (EN (c167 ..) Z (Aw Z Z Z (EZ (c167 ..) Z (Bd Z Z (AY (AQ (AN (Ag (Ac (Ab Z Z (EZ (c167 ..) Z (Ap (Ak (res1 Z (Ai Z)) (frz1 (Q := Q) (Ae Z) ?_)))))))))))))))
  exact hq
theorem ChunkApplies_true (a0 : Py) (n0 : Nat) (q0 : Py.Q a0 n0) (hb : n0 + (0) ≤ 1048576) :
    CW cfg [] 3 [Py.enc a0] (fun _ => none) (fun v _ => v = .bool true) := by
  have h := py_of q0 (by omega)
  cases hc : chkC a0.c with
  | true => exact lawApplies1 a0 h.1 h.2 hc rfl
  | false => exact lawApplies0 a0 h.1 hc rfl
end Go.Proofs.YtfkgdlfponfimaaGreat.X
