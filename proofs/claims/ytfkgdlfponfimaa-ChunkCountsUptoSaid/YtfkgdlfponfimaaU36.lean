import Derived.Test.YtfkgdlfponfimaaU34
import Derived.Test.YtfkgdlfponfimaaU35
/- Layer 13: what a command makes of a state that may be; a job's resources. -/
set_option linter.unusedVariables false
set_option linter.unusedSimpArgs false
set_option maxRecDepth 100000
namespace Go.Proofs.Ytfkgdlfponfimaa.X
open Go Go.RowKit WM
variable {ν β ps pos pos' : Nm} {H H1 : Heap} {Q : AVal → Heap → Prop} {L : List Asr} {k : Nat} {S T : Rf} {c : Ck}
structure Cm where
  d : Int
  t : Tk
  vo : Int
  se : Int
  a : Int
  b : Int
  lf : ByteArray
  deriving DecidableEq
abbrev Cm.cells (m : Cm) : List AVal := [.int .i64 m.d, .int .u64 m.t.tn, .int .u64 m.t.vo, .int .u64 m.t.ep, .int .u64 m.t.ri, .int .u64 m.t.tag, .int .u64 m.vo, .int .u64 m.se, .int .u64 m.a, .int .u64 m.b, .str m.lf]
def Cm.enc (m : Cm) : AVal := .agg m.cells
structure Cm.fit (m : Cm) : Prop where
  d : -9223372036854775808 ≤ m.d ∧ m.d ≤ 9223372036854775807
  t : m.t.fit
  vo : U64 m.vo
  se : U64 m.se
  a : U64 m.a
  b : U64 m.b
  lf : m.lf.size ≤ 1099511627776
structure Vo.good (x : Vo) : Prop where
  vo : U64 x.vo
  tn : U64 x.tn
  ep : U64 x.ep
  de : 0 ≤ x.de ∧ x.de ≤ 4
  ll : x.lv.length = 2 ^ x.de.toNat
  lv : ∀ s ∈ x.lv, s.size ≤ 64
structure Ck.good (c : Ck) : Prop where
  vl : c.vs.length ≤ 8
  vg : ∀ x ∈ c.vs, x.good
  nd : (c.vs.map Vo.vo).Nodup
  sc : SE.chkL c.ss = true
  sf : ∀ x ∈ c.ss, x.fit
  qc : chkQ c.qs = true
  qf : Fit c.qs
theorem Vo.good.len {x : Vo} (h : x.good) : x.lv.length ≤ 16 := by
  rw [h.ll]
  have := h.de
  obtain ⟨n, hn⟩ := Int.eq_ofNat_of_zero_le this.1
  rw [hn, Int.toNat_natCast]
  have : n ≤ 4 := by omega
  exact Nat.le_trans (Nat.pow_le_pow_right (by decide) this) (by decide)
theorem Ck.good.ql {c : Ck} (h : c.good) : c.qs.length ≤ 16 := (of_decide_eq_true h.qc).1
theorem Ck.good.sl {c : Ck} (h : c.good) : c.ss.length ≤ 16 := (of_decide_eq_true h.sc).1
theorem Ck.good.sm {c : Ck} (h : c.good) : c.sm :=
  ⟨Nat.le_trans h.vl (by decide), Nat.le_trans h.sl (by decide), Nat.le_trans h.ql (by decide), fun x hx => Nat.le_trans (h.vg x hx).len (by decide)⟩
structure Rs where
  c : Ck
  e : Int
  an : ByteArray
def err (c : Ck) (e : Int) : Rs := ⟨c, e, ⟨#[]⟩⟩
def v0 : Vo := ⟨0, 0, 0, 0, []⟩
def makeR (c : Ck) (m : Cm) : Rs :=
  if 0 ≤ atP m.vo c.vs then err c 134 else if 8 ≤ c.vs.length then err c 135 else if 4 < m.b then err c 133
  else err { c with vs := c.vs ++ [⟨m.vo, m.a, m.se, m.b, List.replicate (2 ^ m.b.toNat) ⟨#[]⟩⟩] } 0
def Ck.at (c : Ck) (m : Cm) : Vo := c.vs.getD (atP m.vo c.vs).toNat v0
def Ck.setV (c : Ck) (m : Cm) (x : Vo) : Ck := { c with vs := c.vs.set (atP m.vo c.vs).toNat x }
def epochR (c : Ck) (m : Cm) : Rs := if atP m.vo c.vs < 0 then err c 132 else err (c.setV m { c.at m with ep := max (c.at m).ep m.a }) 0
def limitR (c : Ck) (m : Cm) : Rs := if (setQ c.qs m.a m.b).2 = false then err c 135 else err { c with qs := (setQ c.qs m.a m.b).1 } 0
def leafE (S : Rf) (key : Int) (c : Ck) (m : Cm) (want : Int) : Int × Rf :=
  if atP m.vo c.vs < 0 then (132, S) else if (S.check key m.t m.vo (c.at m).ep want).1 ≠ 0 then S.check key m.t m.vo (c.at m).ep want
  else if ((c.at m).lv.length : Int) ≤ m.se then (133, (S.check key m.t m.vo (c.at m).ep want).2) else (0, (S.check key m.t m.vo (c.at m).ep want).2)
def Ck.old (c : Ck) (m : Cm) : ByteArray := (c.at m).lv.getD m.se.toNat ⟨#[]⟩
def Ck.setL (c : Ck) (m : Cm) (s : ByteArray) : Ck := c.setV m { c.at m with lv := (c.at m).lv.set m.se.toNat s }
def putR (c : Ck) (m : Cm) : Rs :=
  if 64 < m.lf.size ∨ m.lf = ⟨#[]⟩ then err c 136
  else if c.old m = ⟨#[]⟩ then (if (takeQ c.qs (c.at m).tn 1).2 ≠ 0 then err c (takeQ c.qs (c.at m).tn 1).2 else err { c.setL m m.lf with qs := (takeQ c.qs (c.at m).tn 1).1 } 0)
  else err (c.setL m m.lf) 0
def getR (c : Ck) (m : Cm) : Rs := ⟨c, 0, c.old m⟩
def trimR (c : Ck) (m : Cm) : Rs :=
  if c.old m = ⟨#[]⟩ then err c 0
  else if (giveQ c.qs (c.at m).tn 1).2 = 0 then err { c.setL m ⟨#[]⟩ with qs := (giveQ c.qs (c.at m).tn 1).1 } 0 else err (c.setL m ⟨#[]⟩) 0
def leafR (S : Rf) (key : Int) (c : Ck) (m : Cm) (want : Int) (f : Ck → Cm → Rs) : Rs × Rf :=
  if (leafE S key c m want).1 ≠ 0 then (err c (leafE S key c m want).1, (leafE S key c m want).2) else (f c m, (leafE S key c m want).2)
def runR (S : Rf) (key : Int) (c : Ck) (m : Cm) : Rs × Rf :=
  if m.d = 0 then (makeR c m, S) else if m.d = 1 then (epochR c m, S) else if m.d = 2 then (limitR c m, S)
  else if m.d = 3 then leafR S key c m 2 putR else if m.d = 4 then leafR S key c m 1 getR else if m.d = 5 then leafR S key c m 2 trimR
  else (err c 130, S)
def lvX (i : Nat) (Us : List AVal) (vs : List Vo) : Asr := Asr.all ((lvsOf Us vs).eraseIdx i)
theorem lvs_get {Us : List AVal} {vs : List Vo} {i : Nat} (hl : Us.length = vs.length) (hi : i < vs.length) : (lvsOf Us vs)[i]? = some (sl (Us[i]'(by omega)) 1 (vs[i].lv.map AVal.str)) := by
  unfold lvsOf
  rw [List.getElem?_map, List.getElem?_eq_getElem (by rw [List.length_zip]; omega), List.getElem_zip]; rfl
theorem lvs_len {Us : List AVal} {vs : List Vo} (hl : Us.length = vs.length) : (lvsOf Us vs).length = vs.length := by
  unfold lvsOf; rw [List.length_map, List.length_zip]; omega
theorem lvs_set {Us : List AVal} {vs : List Vo} {i : Nat} {y : Vo} (hl : Us.length = vs.length) (hi : i < vs.length) : lvsOf Us (vs.set i y) = (lvsOf Us vs).set i (sl (Us[i]'(by omega)) 1 (y.lv.map AVal.str)) := by
  apply List.ext_getElem?
  intro n
  by_cases hn : n < vs.length
  · have hl2 : Us.length = (vs.set i y).length := by simpa using hl
    rw [lvs_get hl2 (by simpa using hn), List.getElem?_set]
    by_cases h : i = n
    · subst h; rw [if_pos rfl, if_pos (by rw [lvs_len hl]; omega)]; simp
    · rw [if_neg h, lvs_get hl hn]; simp [h]
  · rw [List.getElem?_eq_none (by rw [lvs_len (by simpa using hl)]; simpa using hn), List.getElem?_eq_none (by rw [List.length_set, lvs_len hl]; omega)]
theorem rows_get {Us : List AVal} {vs : List Vo} {i : Nat} (hl : Us.length = vs.length) (hi : i < vs.length) : (rowsOf Us vs)[i]? = some (vs[i].row (Us[i]'(by omega))) := by
  unfold rowsOf
  rw [List.getElem?_map, List.getElem?_eq_getElem (by rw [List.length_zip]; omega), List.getElem_zip]; rfl
theorem rows_lenE {Us : List AVal} {vs : List Vo} (hl : Us.length = vs.length) : (rowsOf Us vs).length = vs.length := by
  unfold rowsOf; rw [List.length_map, List.length_zip]; omega
theorem rows_set {Us : List AVal} {vs : List Vo} {i : Nat} {y : Vo} (hl : Us.length = vs.length) (hi : i < vs.length) : (rowsOf Us vs).set i (y.row (Us[i]'(by omega))) = rowsOf Us (vs.set i y) := by
  apply List.ext_getElem?
  intro n
  by_cases hn : n < vs.length
  · have hl2 : Us.length = (vs.set i y).length := by simpa using hl
    rw [rows_get hl2 (by simpa using hn), List.getElem?_set]
    by_cases h : i = n
    · subst h; rw [if_pos rfl, if_pos (by rw [rows_lenE hl]; omega)]; simp
    · rw [if_neg h, rows_get hl hn]; simp [h]
  · rw [List.getElem?_eq_none (by rw [List.length_set, rows_lenE hl]; omega), List.getElem?_eq_none (by rw [rows_lenE (by simpa using hl)]; simpa using hn)]
theorem rows_lv {Us : List AVal} {vs : List Vo} {i : Nat} {l : List ByteArray} (hl : Us.length = vs.length) (hi : i < vs.length) : rowsOf Us (vs.set i { vs[i] with lv := l }) = rowsOf Us vs := by
  rw [← rows_set hl hi]
  exact set_get_self (rows_get hl hi)
theorem erase_app {α : Type} {A B : List α} {i : Nat} (h : i < A.length) : (A ++ B).eraseIdx i = A.eraseIdx i ++ B := List.eraseIdx_append_of_lt_length h B
theorem Own.lv_at {Us : List AVal} {vs : List Vo} {i : Nat} (h : Own β ps H (lvA Us vs :: L)) (hl : Us.length = vs.length) (hi : i < vs.length) : Own β ps H (sl (Us[i]'(by omega)) 1 (vs[i].lv.map AVal.str) :: lvX i Us vs :: L) := by
  have h1 := h.un_all
  have hi2 : i < (lvsOf Us vs).length := by rw [lvs_len hl]; exact hi
  have h2 := h1.pick (k := i) (a := sl (Us[i]'(by omega)) 1 (vs[i].lv.map AVal.str)) (by rw [List.getElem?_append_left hi2]; exact lvs_get hl hi)
  rw [erase_app hi2] at h2
  exact Own.tor (A := [_]) (Own.mk_all (L1 := (lvsOf Us vs).eraseIdx i) (Own.rot (A := (lvsOf Us vs).eraseIdx i) h2))
theorem Own.lv_put {Us : List AVal} {vs : List Vo} {i : Nat} {y : Vo} {hU : i < Us.length} (h : Own β ps H (sl (Us[i]'hU) 1 (y.lv.map AVal.str) :: lvX i Us vs :: L)) (hl : Us.length = vs.length) (hi : i < vs.length) : Own β ps H (lvA Us (vs.set i y) :: L) := by
  have hi2 : i < (lvsOf Us vs).length := by rw [lvs_len hl]; exact hi
  have h1 := (Own.rot (A := [_]) h).un_all
  have h2 := Own.tor (A := (lvsOf Us vs).eraseIdx i) h1
  rw [← erase_app hi2] at h2
  have h3 := Own.unpick (a := sl (Us[i]'(by omega)) 1 (vs[i].lv.map AVal.str)) h2 (by rw [List.getElem?_append_left hi2]; exact lvs_get hl hi)
  rw [List.set_append_left _ _ hi2] at h3
  refine Own.mk_all (L1 := lvsOf Us (vs.set i y)) ?_
  rw [lvs_set hl hi]; exact h3
variable {q qo : Nm} {key : Int} {m : Cm}
def jrow (q qo : Nm) (key : Int) (V S T : AVal) (m : Cm) : Asr := row q 16 [.agg [.ptr qo 0 0, .int .u64 key, V, S, T, .int .i64 m.d, .int .u64 m.t.tn, .int .u64 m.t.vo, .int .u64 m.t.ep, .int .u64 m.t.ri, .int .u64 m.t.tag, .int .u64 m.vo, .int .u64 m.se, .int .u64 m.a, .int .u64 m.b, .str m.lf]]
def jobO (q qo : Nm) (key : Int) (c : Ck) (m : Cm) : Asr := Asr.ex fun z : AVal × AVal × AVal => Asr.all [jrow q qo key z.1 z.2.1 z.2.2 m, vols z.1 c.vs, sl z.2.1 3 (c.ss.map SE.Se.enc), sl z.2.2 3 (c.qs.map Qu.enc)]
theorem Own.un_job (h : Own β ps H (jobO q qo key c m :: L)) : ∃ V S T, Own β ps H (jrow q qo key V S T m :: vols V c.vs :: sl S 3 (c.ss.map SE.Se.enc) :: sl T 3 (c.qs.map Qu.enc) :: L) := by
  obtain ⟨⟨V, S, T⟩, h1⟩ := Own.un_ex h
  exact ⟨V, S, T, h1.un_all⟩
theorem Own.mk_job {V S T : AVal} (h : Own β ps H (jrow q qo key V S T m :: vols V c.vs :: sl S 3 (c.ss.map SE.Se.enc) :: sl T 3 (c.qs.map Qu.enc) :: L)) : Own β ps H (jobO q qo key c m :: L) :=
  Own.mk_ex (f := fun z : AVal × AVal × AVal => Asr.all [jrow q qo key z.1 z.2.1 z.2.2 m, vols z.1 c.vs, sl z.2.1 3 (c.ss.map SE.Se.enc), sl z.2.2 3 (c.qs.map Qu.enc)]) (V, S, T) (Own.mk_all h)
theorem Own.st_fz {V S T : AVal} {X1 : Asr} (h : Own β ps H (X1 :: vols V c.vs :: sl S 3 (c.ss.map SE.Se.enc) :: sl T 3 (c.qs.map Qu.enc) :: L)) : X.freeze [] H 8 (.agg [V, S, T]) = c.enc := by
  have h2 : Own β ps H (stO V S T c :: L) := Own.mk_all (L1 := [vols V c.vs, sl S 3 (c.ss.map SE.Se.enc), sl T 3 (c.qs.map Qu.enc)]) (Own.drop0 h)
  obtain ⟨f, hf, _⟩ := h2.get (k := 0) rfl
  exact st_freeze (n := 4) hf
theorem Own.st_fzU {V S T : AVal} {X1 : Asr} {Us : List AVal} (h : Own β ps H (X1 :: sl V 5 (rowsOf Us c.vs) :: lvA Us c.vs :: sl S 3 (c.ss.map SE.Se.enc) :: sl T 3 (c.qs.map Qu.enc) :: L)) (hl : Us.length = c.vs.length) : X.freeze [] H 8 (.agg [V, S, T]) = c.enc :=
  Own.st_fz (X1 := X1) (Own.tor (A := [vols V c.vs]) (Own.mk_vols (Own.rot (A := [_, _]) (show Own β ps H (X1 :: ([sl V 5 (rowsOf Us c.vs), lvA Us c.vs] ++ (sl S 3 (c.ss.map SE.Se.enc) :: sl T 3 (c.qs.map Qu.enc) :: L))) from h)) hl))
theorem Own.un_jobU (h : Own β ps H (jobO q qo key c m :: L)) : ∃ V S T Us, Us.length = c.vs.length ∧ Own β ps H (jrow q qo key V S T m :: sl V 5 (rowsOf Us c.vs) :: lvA Us c.vs :: sl S 3 (c.ss.map SE.Se.enc) :: sl T 3 (c.qs.map Qu.enc) :: L) := by
  obtain ⟨V, S, T, h⟩ := h.un_job
  obtain ⟨Us, hu, h⟩ := Own.un_vols (Own.rot (A := [_]) h)
  exact ⟨V, S, T, Us, hu, Own.tor (A := [_, _]) h⟩
theorem Own.mk_jobU {V S T : AVal} {Us : List AVal} (h : Own β ps H (jrow q qo key V S T m :: sl V 5 (rowsOf Us c.vs) :: lvA Us c.vs :: sl S 3 (c.ss.map SE.Se.enc) :: sl T 3 (c.qs.map Qu.enc) :: L)) (hu : Us.length = c.vs.length) : Own β ps H (jobO q qo key c m :: L) :=
  Own.mk_job (Own.tor (A := [vols V c.vs]) (Own.mk_vols (Own.rot (A := [_, _]) (show Own β ps H (jrow q qo key V S T m :: ([sl V 5 (rowsOf Us c.vs), lvA Us c.vs] ++ (sl S 3 (c.ss.map SE.Se.enc) :: sl T 3 (c.qs.map Qu.enc) :: L))) from h)) hu))
theorem lvs_same {Us : List AVal} {vs : List Vo} {i : Nat} {y : Vo} (hl : Us.length = vs.length) (hi : i < vs.length) (hy : y.lv = vs[i].lv) : lvA Us (vs.set i y) = lvA Us vs := by
  unfold lvA
  rw [lvs_set hl hi, hy, set_get_self (lvs_get hl hi)]
theorem Own.mk_jobV {V S T : AVal} {Us : List AVal} {i : Nat} {y : Vo} {hU : i < Us.length} (h : Own β ps H (jrow q qo key V S T m :: sl V 5 ((rowsOf Us c.vs).set i (y.row (Us[i]'hU))) :: lvA Us c.vs :: sl S 3 (c.ss.map SE.Se.enc) :: sl T 3 (c.qs.map Qu.enc) :: L)) (hu : Us.length = c.vs.length) (hi : i < c.vs.length) (hy : y.lv = c.vs[i].lv) : Own β ps H (jobO q qo key ⟨c.vs.set i y, c.ss, c.qs⟩ m :: L) := by
  rw [rows_set hu hi, ← lvs_same hu hi hy] at h
  exact Own.mk_jobU h (by rw [hu]; simp)
def slF (O : AVal) (w : Nat) (xs : List AVal) : Asr := ⟨fun H fp => Sl H w xs O fp ∨ (O = .lst xs ∧ fp = []), fun h hf => h.elim (fun h => .inl (h.frame hf)) .inr⟩
def lvsF (Us : List AVal) (vs : List Vo) : List Asr := (vs.zip Us).map fun p => slF p.2 1 (p.1.lv.map AVal.str)
def volsF (V : AVal) (vs : List Vo) : Asr := Asr.ex fun Us : { Us : List AVal // Us.length = vs.length } => Asr.all (sl V 5 (rowsOf Us.1 vs) :: lvsF Us.1 vs)
theorem slF_freeze {n : Nat} {O : AVal} {l : List ByteArray} {f : List Nm} (h : (slF O 1 (l.map AVal.str)).holds H f) : X.freeze [] H (n + 1) O = .lst (l.map AVal.str) := by
  rcases h with h | ⟨rfl, _⟩
  · exact Sl.freezeP (n := n) h str_plain
  · rfl
theorem slF_reach {n : Nat} {O : AVal} {l : List ByteArray} {f : List Nm} (h : (slF O 1 (l.map AVal.str)).holds H f) : ∀ q ∈ reach [] H n O, q ∈ f := by
  rcases h with h | ⟨rfl, _⟩
  · exact h.reachP str_plain
  · intro q hq; cases n <;> simp [reach] at hq
theorem rowsF_freeze {n : Nat} : ∀ (vs : List Vo) (Us : List AVal) (f : List Nm), Us.length = vs.length → hold (lvsF Us vs) H f → (rowsOf Us vs).map (X.freeze [] H (n + 2)) = vs.map Vo.enc
  | [], Us, f, _, _ => by simp [rowsOf]
  | v :: vs, [], f, h, _ => by simp at h
  | v :: vs, U :: Us, f, h, ⟨f1, f2, h0, h1, h2, h3⟩ => by
    have ih := rowsF_freeze (n := n) vs Us f2 (by simpa using h) h3
    have e : X.freeze [] H (n + 2) (v.row U) = v.enc := by
      have h4 : X.freeze [] H (n + 1) U = _ := slF_freeze (n := n) h2
      show AVal.agg [.int .u64 v.vo, .int .u64 v.tn, .int .u64 v.ep, .int .i64 v.de, X.freeze [] H (n + 1) U] = _
      rw [h4]; rfl
    simp only [rowsOf, List.zip_cons_cons, List.map_cons, e] at ih ⊢
    rw [ih]
theorem rowsF_reach {n : Nat} : ∀ (vs : List Vo) (Us : List AVal) (f : List Nm), hold (lvsF Us vs) H f → ∀ q ∈ ((rowsOf Us vs).map (reach [] H n)).flatten, q ∈ f
  | [], Us, f, _, q, hq => by simp [rowsOf] at hq
  | v :: vs, [], f, _, q, hq => by simp [rowsOf] at hq
  | v :: vs, U :: Us, f, ⟨f1, f2, h0, h1, h2, h3⟩, q, hq => by
    have ih := rowsF_reach (n := n) vs Us f2 h3
    simp only [rowsOf, List.zip_cons_cons, List.map_cons, List.flatten_cons, List.mem_append] at hq ih
    rw [h0]
    rcases hq with hq | hq
    · refine List.mem_append_left _ ?_
      cases n with
      | zero => simp [reach] at hq
      | succ n =>
        simp only [Vo.row, reach, List.map_cons, List.map_nil, List.flatten_cons, List.flatten_nil, List.append_nil, List.mem_append] at hq
        have nil : ∀ (c : AVal), plain c = true → q ∈ reach [] H n c → False := fun c hc hm => by rw [reach_plain hc] at hm; simp at hm
        rcases hq with hq | hq | hq | hq | hq
        · exact (nil _ rfl hq).elim
        · exact (nil _ rfl hq).elim
        · exact (nil _ rfl hq).elim
        · exact (nil _ rfl hq).elim
        · exact slF_reach h2 q hq
    · exact List.mem_append_right _ (ih q hq)
def stF (V S T : AVal) (c : Ck) : Asr := Asr.all [volsF V c.vs, sl S 3 (c.ss.map SE.Se.enc), sl T 3 (c.qs.map Qu.enc)]
theorem stF_freeze {V S T : AVal} {c : Ck} {f : List Nm} {n : Nat} (h : (stF V S T c).holds H f) : X.freeze [] H (n + 4) (.agg [V, S, T]) = c.enc := by
  obtain ⟨f1, f2, h0, h1, ⟨⟨Us, hU⟩, g1, g2, g0, g3, g4, g5⟩, f3, f4, k0, k1, k2, f5, f6, m0, m1, m2, m3⟩ := h
  have g4 : Sl H 5 (rowsOf Us c.vs) V g1 := g4
  have e1 : X.freeze [] H (n + 3) V = _ := g4.freezeN (n := n + 2)
  have e2 : X.freeze [] H (n + 3) S = _ := Sl.freezeP (n := n + 2) k2 se_plain
  have e3 : X.freeze [] H (n + 3) T = _ := Sl.freezeP (n := n + 2) m2 qu_plain
  show AVal.agg [X.freeze [] H (n + 3) V, X.freeze [] H (n + 3) S, X.freeze [] H (n + 3) T] = _
  rw [e1, e2, e3, rowsF_freeze c.vs Us g2 hU g5]
theorem stF_reach {V S T : AVal} {c : Ck} {f : List Nm} {n : Nat} (h : (stF V S T c).holds H f) : ∀ q ∈ reach [] H n (.agg [V, S, T]), q ∈ f := by
  obtain ⟨f1, f2, h0, h1, ⟨⟨Us, hU⟩, g1, g2, g0, g3, g4, g5⟩, f3, f4, k0, k1, k2, f5, f6, m0, m1, m2, m3⟩ := h
  have g4 : Sl H 5 (rowsOf Us c.vs) V g1 := g4
  intro q hq
  cases n with
  | zero => simp [reach] at hq
  | succ n =>
    simp only [reach, List.map_cons, List.map_nil, List.flatten_cons, List.flatten_nil, List.append_nil, List.mem_append] at hq
    rw [h0, k0, m0, g0]
    rcases hq with hq | hq | hq
    · cases n with
      | zero => simp [reach] at hq
      | succ n =>
        rcases g4.reachN q hq with h5 | h5
        · simp [h5]
        · simp [rowsF_reach c.vs Us g2 g5 q h5]
    · simp [Sl.reachP k2 se_plain q hq]
    · simp [Sl.reachP m2 qu_plain q hq]
theorem lvsF_hold : ∀ {vs : List Vo} {Us : List AVal} {L : List Asr} {f : List Nm}, hold (lvsOf Us vs ++ L) H f → hold (lvsF Us vs ++ L) H f
  | [], Us, L, f, h => by simpa [lvsF, lvsOf] using h
  | v :: vs, [], L, f, h => by simpa [lvsF, lvsOf] using h
  | v :: vs, U :: Us, L, f, ⟨f1, f2, h0, h1, h2, h3⟩ => ⟨f1, f2, h0, h1, .inl h2, lvsF_hold (vs := vs) (Us := Us) h3⟩
theorem stO_F {V S T : AVal} {c : Ck} {f : List Nm} (h : (stO V S T c).holds H f) : (stF V S T c).holds H f := by
  obtain ⟨f1, f2, h0, h1, ⟨⟨Us, hU⟩, g1, g2, g0, g3, g4, g5⟩, h3⟩ := h
  refine ⟨f1, f2, h0, h1, ⟨⟨Us, hU⟩, g1, g2, g0, g3, g4, ?_⟩, h3⟩
  have := lvsF_hold (L := []) (vs := c.vs) (Us := Us) (f := g2) (H := H) (by rw [List.append_nil]; exact g5)
  rwa [List.append_nil] at this
def lvFA (Us : List AVal) (vs : List Vo) : Asr := Asr.all (lvsF Us vs)
theorem Own.lvF {Us : List AVal} {vs : List Vo} (h : Own β ps H (lvA Us vs :: L)) : Own β ps H (lvFA Us vs :: L) := by
  have h1 := h.un_all
  obtain ⟨fp, h2, h3⟩ := h1
  exact Own.mk_all ⟨fp, lvsF_hold h2, h3⟩
theorem hold_addF {A B : List Asr} {O : AVal} {w : Nat} {xs : List AVal} {f : List Nm} (h : hold (A ++ B) H f) (hO : O = .lst xs) : hold (A ++ (slF O w xs :: B)) H f := by
  induction A generalizing f with
  | nil => exact ⟨[], f, rfl, by simp, .inr ⟨hO, rfl⟩, h⟩
  | cons a A ih =>
    obtain ⟨f1, f2, h0, h1, h2, h3⟩ := h
    exact ⟨f1, f2, h0, h1, h2, ih h3⟩
theorem Own.lvF_snoc {Us : List AVal} {vs : List Vo} {x : Vo} (h : Own β ps H (lvFA Us vs :: L)) (hl : Us.length = vs.length) : Own β ps H (lvFA (Us ++ [.lst (x.lv.map AVal.str)]) (vs ++ [x]) :: L) := by
  have h1 := h.un_all
  obtain ⟨fp, h2, h3⟩ := h1
  refine Own.mk_all (L1 := lvsF (Us ++ [.lst (x.lv.map AVal.str)]) (vs ++ [x])) ?_
  have e : lvsF (Us ++ [.lst (x.lv.map AVal.str)]) (vs ++ [x]) = lvsF Us vs ++ [slF (.lst (x.lv.map AVal.str)) 1 (x.lv.map AVal.str)] := by
    unfold lvsF
    rw [List.zip_append hl.symm, List.map_append]; rfl
  rw [e, List.append_assoc]
  exact ⟨fp, hold_addF h2 rfl, h3⟩
def jobF (q qo : Nm) (key : Int) (c : Ck) (m : Cm) : Asr := Asr.ex fun z : AVal × AVal × AVal => Asr.all [jrow q qo key z.1 z.2.1 z.2.2 m, stF z.1 z.2.1 z.2.2 c]
theorem Own.mk_volsF {Us : List AVal} {vs : List Vo} {V : AVal} (h : Own β ps H (sl V 5 (rowsOf Us vs) :: lvFA Us vs :: L)) (hl : Us.length = vs.length) : Own β ps H (volsF V vs :: L) := by
  have h1 := (Own.rot (A := [lvFA Us vs]) h).un_all
  have h2 : Own β ps H (sl V 5 (rowsOf Us vs) :: (lvsF Us vs ++ L)) := Own.tor (A := lvsF Us vs) h1
  exact Own.mk_ex (f := fun Us : { Us : List AVal // Us.length = vs.length } => Asr.all (sl V 5 (rowsOf Us.1 vs) :: lvsF Us.1 vs)) ⟨Us, hl⟩ (Own.mk_all (L1 := sl V 5 (rowsOf Us vs) :: lvsF Us vs) h2)
theorem Own.mk_jobF {V S T : AVal} {Us : List AVal} (h : Own β ps H (jrow q qo key V S T m :: sl V 5 (rowsOf Us c.vs) :: lvFA Us c.vs :: sl S 3 (c.ss.map SE.Se.enc) :: sl T 3 (c.qs.map Qu.enc) :: L)) (hu : Us.length = c.vs.length) : Own β ps H (jobF q qo key c m :: L) := by
  have h1 := Own.mk_volsF (Own.rot (A := [_, _]) (show Own β ps H (jrow q qo key V S T m :: ([sl V 5 (rowsOf Us c.vs), lvFA Us c.vs] ++ (sl S 3 (c.ss.map SE.Se.enc) :: sl T 3 (c.qs.map Qu.enc) :: L))) from h)) hu
  have h2 : Own β ps H (jrow q qo key V S T m :: ([volsF V c.vs, sl S 3 (c.ss.map SE.Se.enc), sl T 3 (c.qs.map Qu.enc)] ++ L)) := Own.tor (A := [volsF V c.vs]) h1
  have h3 : Own β ps H (stF V S T c :: jrow q qo key V S T m :: L) := Own.mk_all (L1 := [volsF V c.vs, sl S 3 (c.ss.map SE.Se.enc), sl T 3 (c.qs.map Qu.enc)]) (Own.rot (A := [volsF V c.vs, sl S 3 (c.ss.map SE.Se.enc), sl T 3 (c.qs.map Qu.enc)]) h2)
  exact Own.mk_ex (f := fun z : AVal × AVal × AVal => Asr.all [jrow q qo key z.1 z.2.1 z.2.2 m, stF z.1 z.2.1 z.2.2 c]) (V, S, T) (Own.mk_all (L1 := [jrow q qo key V S T m, stF V S T c]) (Own.tor (A := [_]) h3))
theorem Own.job_F (h : Own β ps H (jobO q qo key c m :: L)) : Own β ps H (jobF q qo key c m :: L) := by
  obtain ⟨V, S, T, Us, hu, h⟩ := h.un_jobU
  exact Own.mk_jobF (Own.tor (A := [_, _]) (Own.lvF (Own.rot (A := [_, _]) (show Own β ps H (jrow q qo key V S T m :: ([sl V 5 (rowsOf Us c.vs), lvA Us c.vs] ++ (sl S 3 (c.ss.map SE.Se.enc) :: sl T 3 (c.qs.map Qu.enc) :: L))) from h) |> fun h => Own.tor (A := [_]) h) |> fun h => Own.rot (A := [_]) h)) hu
theorem Own.mk_jobN {V S T : AVal} {Us : List AVal} {x : Vo} (h : Own β ps H (jrow q qo key V S T m :: sl V 5 (rowsOf Us c.vs ++ [x.row (.lst (x.lv.map AVal.str))]) :: lvA Us c.vs :: sl S 3 (c.ss.map SE.Se.enc) :: sl T 3 (c.qs.map Qu.enc) :: L)) (hu : Us.length = c.vs.length) : Own β ps H (jobF q qo key ⟨c.vs ++ [x], c.ss, c.qs⟩ m :: L) := by
  rw [rows_snoc hu] at h
  refine Own.mk_jobF (Us := Us ++ [.lst (x.lv.map AVal.str)]) (V := V) (S := S) (T := T) ?_ (by simp [hu])
  have h1 := Own.lvF_snoc (x := x) (Own.lvF (Own.tor (A := [_, _]) (show Own β ps H ([jrow q qo key V S T m, sl V 5 (rowsOf (Us ++ [.lst (x.lv.map AVal.str)]) (c.vs ++ [x]))] ++ lvA Us c.vs :: sl S 3 (c.ss.map SE.Se.enc) :: sl T 3 (c.qs.map Qu.enc) :: L) from h))) hu
  exact Own.rot (A := [jrow q qo key V S T m, sl V 5 (rowsOf (Us ++ [.lst (x.lv.map AVal.str)]) (c.vs ++ [x]))]) h1
theorem Own.un_jobF (h : Own β ps H (jobF q qo key c m :: L)) : ∃ V S T, Own β ps H (jrow q qo key V S T m :: stF V S T c :: L) := by
  obtain ⟨⟨V, S, T⟩, h1⟩ := Own.un_ex h
  exact ⟨V, S, T, h1.un_all⟩
end Go.Proofs.Ytfkgdlfponfimaa.X
/- Layer 13: a job's methods: epoch, limit, make. -/
set_option linter.unusedVariables false
set_option linter.unusedSimpArgs false
set_option maxRecDepth 100000
namespace Go.Proofs.Ytfkgdlfponfimaa.X
open Go Go.RowKit WM
theorem EN40_CK9 {c : Cfg} {ν : Nm} {e : Env} {H : Heap} {all : Array Oper} {r : List Oper} {i : Nat} {Q : Env → Heap → Prop} {x0 x1 x2 x3 x4 x5 x6 x7 x8 x9 x10 x11 x12 x13 x14 x15 x16 x17 x18 x19 x20 x21 x22 x23 x24 x25 x26 x27 x28 x29 x30 x31 x32 x33 x34 x35 x36 x37 x38 x39 : AVal} (he : e = [x0,x1,x2,x3,x4,x5,x6,x7,x8,x9,x10,x11,x12,x13,x14,x15,x16,x17,x18,x19,x20,x21,x22,x23,x24,x25,x26,x27,x28,x29,x30,x31,x32,x33,x34,x35,x36,x37,x38,x39]) (h : OW c ν all r i [x0,x1,x2,x3,x4,x5,x6,x7,x8,x9,x10,x11,x12,x13,x14,x15,x16,x17,x18,x19,x20,x21,x22,x23,x24,x25,x26,x27,x28,x29,x30,x31,x32,x33,x34,x35,x36,x37,x38,x39] H Q) : OW c ν all r i e H Q := by subst he; exact h
theorem EN72_CK9 {c : Cfg} {ν : Nm} {e : Env} {H : Heap} {all : Array Oper} {r : List Oper} {i : Nat} {Q : Env → Heap → Prop} {x0 x1 x2 x3 x4 x5 x6 x7 x8 x9 x10 x11 x12 x13 x14 x15 x16 x17 x18 x19 x20 x21 x22 x23 x24 x25 x26 x27 x28 x29 x30 x31 x32 x33 x34 x35 x36 x37 x38 x39 x40 x41 x42 x43 x44 x45 x46 x47 x48 x49 x50 x51 x52 x53 x54 x55 x56 x57 x58 x59 x60 x61 x62 x63 x64 x65 x66 x67 x68 x69 x70 x71 : AVal} (he : e = [x0,x1,x2,x3,x4,x5,x6,x7,x8,x9,x10,x11,x12,x13,x14,x15,x16,x17,x18,x19,x20,x21,x22,x23,x24,x25,x26,x27,x28,x29,x30,x31,x32,x33,x34,x35,x36,x37,x38,x39,x40,x41,x42,x43,x44,x45,x46,x47,x48,x49,x50,x51,x52,x53,x54,x55,x56,x57,x58,x59,x60,x61,x62,x63,x64,x65,x66,x67,x68,x69,x70,x71]) (h : OW c ν all r i [x0,x1,x2,x3,x4,x5,x6,x7,x8,x9,x10,x11,x12,x13,x14,x15,x16,x17,x18,x19,x20,x21,x22,x23,x24,x25,x26,x27,x28,x29,x30,x31,x32,x33,x34,x35,x36,x37,x38,x39,x40,x41,x42,x43,x44,x45,x46,x47,x48,x49,x50,x51,x52,x53,x54,x55,x56,x57,x58,x59,x60,x61,x62,x63,x64,x65,x66,x67,x68,x69,x70,x71] H Q) : OW c ν all r i e H Q := by subst he; exact h
theorem EZ72_CK9 {c : Cfg} {ν : Nm} {e : Env} {H : Heap} {all : Array Oper} {i : Nat} {Q : Env → Heap → Prop} {x0 x1 x2 x3 x4 x5 x6 x7 x8 x9 x10 x11 x12 x13 x14 x15 x16 x17 x18 x19 x20 x21 x22 x23 x24 x25 x26 x27 x28 x29 x30 x31 x32 x33 x34 x35 x36 x37 x38 x39 x40 x41 x42 x43 x44 x45 x46 x47 x48 x49 x50 x51 x52 x53 x54 x55 x56 x57 x58 x59 x60 x61 x62 x63 x64 x65 x66 x67 x68 x69 x70 x71 : AVal} (he : e = [x0,x1,x2,x3,x4,x5,x6,x7,x8,x9,x10,x11,x12,x13,x14,x15,x16,x17,x18,x19,x20,x21,x22,x23,x24,x25,x26,x27,x28,x29,x30,x31,x32,x33,x34,x35,x36,x37,x38,x39,x40,x41,x42,x43,x44,x45,x46,x47,x48,x49,x50,x51,x52,x53,x54,x55,x56,x57,x58,x59,x60,x61,x62,x63,x64,x65,x66,x67,x68,x69,x70,x71]) (h : Q [x0,x1,x2,x3,x4,x5,x6,x7,x8,x9,x10,x11,x12,x13,x14,x15,x16,x17,x18,x19,x20,x21,x22,x23,x24,x25,x26,x27,x28,x29,x30,x31,x32,x33,x34,x35,x36,x37,x38,x39,x40,x41,x42,x43,x44,x45,x46,x47,x48,x49,x50,x51,x52,x53,x54,x55,x56,x57,x58,x59,x60,x61,x62,x63,x64,x65,x66,x67,x68,x69,x70,x71] H) : OW c ν all [] i e H Q := by subst he; exact OW_nil h
section
variable {c : Cfg} {ν β ps : Nm} {all : Array Oper} {r : List Oper} {i w n k : Nat} {e : Env} {H : Heap} {Q : Env → Heap → Prop} {L : List Asr} {xs : List AVal} {q : Nm} {dst : Option Tmp} {t : TypeId} {x : Operand} {ti : TI} {u v : AVal}
theorem OW_loadS {ty pos after gd} (hS : Own β ps H L) (hL : L[k]? = some (sl (.slc q w 0 n) w xs)) (hw : Region.wanted ⟨dst, .load t x, ty, pos, after, gd⟩ (ayielded all e) = true) {j off : Nat} (hx : evq e x = some (.ptr q j off)) (ht : c.T t = some ti) (hu : xs[j]? = some u) (hp : part ti u off = some v)
    (h : OW c ν all r (i + 1) (putT e dst v) H Q) : OW c ν all (⟨dst, .load t x, ty, pos, after, gd⟩ :: r) i e H Q := by
  obtain ⟨f, hf, _⟩ := hS.get hL
  have hf : Sl H w xs (.slc q w 0 n) f := hf
  cases hf with
  | @row _ _ ys a1 a2 a3 =>
    have hu2 : ys[j]? = some u := by have hu2 := hu; rw [← a3, List.getElem?_take] at hu2; split at hu2 <;> simp_all
    exact OW_load hw hx (aLoad_ptr ht a1 hu2 hp) h
end
variable {ν β ps pos pos' : Nm} {H H1 : Heap} {Q : AVal → Heap → Prop} {L : List Asr} {k : Nat} {S T : Rf} {c : Ck} {q qo : Nm} {key : Int} {m : Cm}
theorem atP_some {at0 : Int} {c : Ck} (h : atP m.vo c.vs = at0) (h0 : ¬ at0 < 0) : ∃ (i : Nat) (hi : i < c.vs.length), at0 = i ∧ c.vs[i].vo = m.vo := by
  rcases atP_cases m.vo c.vs with ⟨h1, _⟩ | ⟨i, hi, h1, h2⟩
  · omega
  · exact ⟨i, hi, by omega, h2⟩
theorem at_eq {c : Ck} {i : Nat} (h : atP m.vo c.vs = i) (hi : i < c.vs.length) : c.at m = c.vs[i] := by
  unfold Ck.at; rw [h, Int.toNat_natCast]; simp [List.getD_eq_getElem?_getD, hi]
theorem setV_eq {c : Ck} {i : Nat} {x : Vo} (h : atP m.vo c.vs = i) : c.setV m x = { c with vs := c.vs.set i x } := by
  unfold Ck.setV; rw [h, Int.toNat_natCast]
theorem epoch_c (hg : c.good) (hS : Own β ps H (jobO q qo key c m :: L)) (hle : le ps ν) (hβ : under β ν = true) (hp : before ν pos')
    (hq : ∀ H1, Own β pos' H1 (jobO q qo key (epochR c m).c m :: L) → Q (.tup [.str (epochR c m).an, .int .i64 (epochR c m).e]) H1) : CW cfg ν 27 [.ptr q 0 0] H Q := by
  obtain ⟨V, S, T, Us, hu, hS⟩ := hS.un_jobU
  have hvl := hg.vl
  refine CW_keep g27 F27 rfl ?_
  replace hS := Own.mono hS hle
  refine XW_sr ?_
  refine OW_as rfl rfl ?_
  refine OW_as rfl rfl ?_
  refine OW_nilE (e' := [_,_,_,_,_,_,_,_,_,_,_,_,_,_,_,_,_,_,_,_,_,_,_,_,_,_,_,_,_,_,_,_,_,_,_,_,_,_,_,_]) rfl ?_
  refine XW_sr ?_
  refine OW_mv rfl rfl ?_
  first
  | refine OW_nc rfl rfl ?_
  | refine OW_nce rfl rfl ?_
  refine OW_fa rfl rfl rfl ?_
  refine EN40_CK9 rfl ?_
  refine OW_loadR hS (k := 0) rfl rfl rfl rfl rfl (by first | exact part_whole rfl rfl rfl | rfl) ?_
  refine OW_mv rfl rfl ?_
  first
  | refine OW_nc rfl rfl ?_
  | refine OW_nce rfl rfl ?_
  refine EN40_CK9 rfl ?_
  refine OW_fa rfl rfl rfl ?_
  refine OW_fa rfl rfl rfl ?_
  refine OW_loadR hS (k := 0) rfl rfl rfl rfl rfl (by first | exact part_whole rfl rfl rfl | rfl) ?_
  refine EN40_CK9 rfl ?_
  refine OW_fn rfl rfl (ck_find (Own.st_fzU hS hu) (by omega) _ ?_) 
  refine OW_as rfl rfl ?_
  refine OW_nilE (e' := [_,_,_,_,_,_,_,_,_,_,_,_,_,_,_,_,_,_,_,_,_,_,_,_,_,_,_,_,_,_,_,_,_,_,_,_,_,_,_,_]) rfl ?_
  refine XW_seq ?_
  refine XW_sr ?_
  generalize hat : atP m.vo c.vs = at0
  refine OW_mv rfl rfl ?_
  refine OW_bin rfl rfl rfl rfl rfl ?_
  refine OW_nilE (e' := [_,_,_,_,_,_,_,_,_,_,_,_,_,_,_,_,_,_,_,_,_,_,_,_,_,_,_,_,_,_,_,_,_,_,_,_,_,_,_,_]) rfl ?_
  refine XW_if rfl (fun h2 => ?_) (fun h2 => ?_)
  ·try simp only [bs] at h2
   refine XW_sr ?_
   refine OW_as rfl rfl ?_
   refine OW_as rfl rfl ?_
   refine OW_nilE (e' := [_,_,_,_,_,_,_,_,_,_,_,_,_,_,_,_,_,_,_,_,_,_,_,_,_,_,_,_,_,_,_,_,_,_,_,_,_,_,_,_]) rfl ?_
   refine XW_ret ?_
   refine then_ret ?_
   refine ret_ret (res2 rfl (rv_tmp rfl) (rv_tmp rfl)) ?_
   rw [show epochR c m = err c 132 from if_pos (by omega)] at hq; exact hq _ (Own.mk_jobU (Own.mono hS (le_bef hp)) hu)
  ·try simp only [bs] at h2
   refine XW_skip ?_
   refine then_norm ?_
   refine XW_sr ?_
   obtain ⟨i, hi, rfl, hvo⟩ := atP_some hat h2
   have hrow := rows_get (Us := Us) hu hi
   rw [show c.vs[i].row (Us[i]'(by omega)) = .agg [.int .u64 c.vs[i].vo, .int .u64 c.vs[i].tn, .int .u64 c.vs[i].ep, .int .i64 c.vs[i].de, Us[i]'(by omega)] from rfl] at hrow
   refine OW_mv rfl rfl ?_
   first
   | refine OW_nc rfl rfl ?_
   | refine OW_nce rfl rfl ?_
   refine OW_fa rfl rfl rfl ?_
   refine EN40_CK9 rfl ?_
   refine OW_fa rfl rfl rfl ?_
   refine OW_loadR hS (k := 0) rfl rfl rfl rfl rfl (by first | exact part_whole rfl rfl rfl | rfl) ?_
   refine OW_mv rfl rfl ?_
   refine EN40_CK9 rfl ?_
   refine OW_mv rfl rfl ?_
   first
   | refine OW_nc rfl rfl ?_
   | refine OW_nce rfl rfl ?_
   refine OW_fa rfl rfl rfl ?_
   refine EN40_CK9 rfl ?_
   refine OW_fa rfl rfl rfl ?_
   refine OW_loadR hS (k := 0) rfl rfl rfl rfl rfl (by first | exact part_whole rfl rfl rfl | rfl) ?_
   refine OW_mv rfl rfl ?_
   refine EN40_CK9 rfl ?_
   refine OW_iaO hS (k := 1) rfl rfl rfl rfl rfl rfl rfl rfl (by first | rfl | exact (Int.toNat_of_nonneg (by omega)).symm) (by first | assumption | exact at_map (by first | assumption | omega) | exact at_lst (by omega) | rfl) fun q1 ys1 hO1 hq1 ht1 hy1 hu1 => ?_
   subst hO1
   refine OW_fa rfl rfl rfl ?_
   refine OW_loadP rfl rfl hq1 hy1 rfl (by first | exact part_whole rfl rfl rfl | rfl) ?_
   refine EN40_CK9 rfl ?_
   refine OW_mv rfl rfl ?_
   first
   | refine OW_nc rfl rfl ?_
   | refine OW_nce rfl rfl ?_
   refine OW_fa rfl rfl rfl ?_
   refine EN40_CK9 rfl ?_
   refine OW_fa rfl rfl rfl ?_
   refine OW_loadR hS (k := 0) rfl rfl rfl rfl rfl (by first | exact part_whole rfl rfl rfl | rfl) ?_
   refine OW_bi rfl rfl mxu64 ?_
   refine EN40_CK9 rfl ?_
   refine OW_iaO hS (k := 1) rfl rfl rfl rfl rfl rfl rfl rfl (by first | rfl | exact (Int.toNat_of_nonneg (by omega)).symm) (by first | assumption | exact at_map (by first | assumption | omega) | exact at_lst (by omega) | rfl) fun q2 ys2 hO2 hq2 ht2 hy2 hu2 => ?_
   obtain rfl : q1 = q2 := (AVal.slc.inj hO2).1
   refine OW_fa rfl rfl rfl ?_
   refine OW_storeO hS (k := 1) rfl (le_app (p := ν) (b := [23, 0, 1, 1, 1])) rfl rfl rfl rfl hu2 ⟨rfl, rfl, Nat.le_of_ble_eq_true rfl⟩ (u2 := .agg [_, _, _, _, _]) rfl fun H1 hS1 => ?_
   replace hS1 : Own _ _ _ (_ :: _ :: _ :: _ :: _ :: L) := hS1
   refine OW_nilE (e' := [_,_,_,_,_,_,_,_,_,_,_,_,_,_,_,_,_,_,_,_,_,_,_,_,_,_,_,_,_,_,_,_,_,_,_,_,_,_,_,_]) rfl ?_
   refine XW_sr ?_
   refine OW_as rfl rfl ?_
   refine OW_as rfl rfl ?_
   refine OW_nilE (e' := [_,_,_,_,_,_,_,_,_,_,_,_,_,_,_,_,_,_,_,_,_,_,_,_,_,_,_,_,_,_,_,_,_,_,_,_,_,_,_,_]) rfl ?_
   refine XW_ret ?_
   refine ret_ret (res2 rfl (rv_tmp rfl) (rv_tmp rfl)) ?_
   rw [epochR, hat, if_neg (by omega), at_eq hat hi, setV_eq hat] at hq
   exact hq _ (Own.mk_jobV (y := { c.vs[i] with ep := max c.vs[i].ep m.a }) (Own.mono hS1 (le_bef (bef_app (a := [24, 0, 1, 1, 1]) hp))) hu hi rfl)
theorem limit_c (hg : c.good) (hS : Own β ps H (jobO q qo key c m :: L)) (hle : le ps ν) (hβ : under β ν = true) (hp : before ν pos')
    (hq : ∀ H1, Own β pos' H1 (jobO q qo key (limitR c m).c m :: L) → Q (.tup [.str (limitR c m).an, .int .i64 (limitR c m).e]) H1) : CW cfg ν 28 [.ptr q 0 0] H Q := by
  obtain ⟨V, S, T, hS⟩ := hS.un_job
  have hql := hg.ql
  refine CW_keep g28 F28 rfl ?_
  replace hS := Own.mono hS hle
  refine XW_sr ?_
  refine OW_as rfl rfl ?_
  refine OW_as rfl rfl ?_
  refine OW_nilE (e' := [_,_,_,_,_,_,_,_,_,_,_,_,_,_,_,_,_,_,_,_,_,_,_,_,_,_,_,_,_,_,_,_]) rfl ?_
  refine XW_sr ?_
  refine OW_mv rfl rfl ?_
  first
  | refine OW_nc rfl rfl ?_
  | refine OW_nce rfl rfl ?_
  refine OW_fa rfl rfl rfl ?_
  refine OW_env (e' := [_,_,_,_,_,_,_,_,_,_,_,_,_,_,_,_,_,_,_,_,_,_,_,_,_,_,_,_,_,_,_,_]) rfl ?_
  refine OW_fa rfl rfl rfl ?_
  refine OW_loadR hS (k := 0) rfl rfl rfl rfl rfl (by first | exact part_whole rfl rfl rfl | rfl) ?_
  refine OW_mv rfl rfl ?_
  refine OW_env (e' := [_,_,_,_,_,_,_,_,_,_,_,_,_,_,_,_,_,_,_,_,_,_,_,_,_,_,_,_,_,_,_,_]) rfl ?_
  first
  | refine OW_nc rfl rfl ?_
  | refine OW_nce rfl rfl ?_
  refine OW_fa rfl rfl rfl ?_
  refine OW_fa rfl rfl rfl ?_
  refine OW_env (e' := [_,_,_,_,_,_,_,_,_,_,_,_,_,_,_,_,_,_,_,_,_,_,_,_,_,_,_,_,_,_,_,_]) rfl ?_
  refine OW_loadR hS (k := 0) rfl rfl rfl rfl rfl (by first | exact part_whole rfl rfl rfl | rfl) ?_
  refine OW_mv rfl rfl ?_
  first
  | refine OW_nc rfl rfl ?_
  | refine OW_nce rfl rfl ?_
  refine OW_env (e' := [_,_,_,_,_,_,_,_,_,_,_,_,_,_,_,_,_,_,_,_,_,_,_,_,_,_,_,_,_,_,_,_]) rfl ?_
  refine OW_fa rfl rfl rfl ?_
  refine OW_fa rfl rfl rfl ?_
  refine OW_loadR hS (k := 0) rfl rfl rfl rfl rfl (by first | exact part_whole rfl rfl rfl | rfl) ?_
  refine OW_env (e' := [_,_,_,_,_,_,_,_,_,_,_,_,_,_,_,_,_,_,_,_,_,_,_,_,_,_,_,_,_,_,_,_]) rfl ?_
  refine OW_fn rfl rfl (pSetK hS (k := 3) rfl (le_app (p := ν) (b := [15, 0, 1])) (under_app [15, 0, 1] hβ) (before_lit (ν := ν) (a := [15, 0, 1]) (b := [16, 0, 1]) (by decide)) (by omega) _ _ fun H1 O1 hS1 => ?_) 
  replace hS1 : Own _ _ _ (_ :: _ :: _ :: _ :: _ :: L) := hS1
  refine OW_mv rfl rfl ?_
  refine OW_ex rfl rfl rfl ?_
  refine OW_env (e' := [_,_,_,_,_,_,_,_,_,_,_,_,_,_,_,_,_,_,_,_,_,_,_,_,_,_,_,_,_,_,_,_]) rfl ?_
  refine OW_ex rfl rfl rfl ?_
  refine OW_as rfl rfl ?_
  refine OW_as rfl rfl ?_
  refine OW_nilE (e' := [_,_,_,_,_,_,_,_,_,_,_,_,_,_,_,_,_,_,_,_,_,_,_,_,_,_,_,_,_,_,_,_]) rfl ?_
  refine XW_seq ?_
  refine XW_sr ?_
  refine OW_mv rfl rfl ?_
  refine OW_un rfl rfl rfl ?_
  refine OW_nilE (e' := [_,_,_,_,_,_,_,_,_,_,_,_,_,_,_,_,_,_,_,_,_,_,_,_,_,_,_,_,_,_,_,_]) rfl ?_
  refine XW_if rfl (fun h2 => ?_) (fun h2 => ?_)
  ·try simp only [bs] at h2
   refine XW_sr ?_
   refine OW_as rfl rfl ?_
   refine OW_as rfl rfl ?_
   refine OW_nilE (e' := [_,_,_,_,_,_,_,_,_,_,_,_,_,_,_,_,_,_,_,_,_,_,_,_,_,_,_,_,_,_,_,_]) rfl ?_
   refine XW_ret ?_
   refine then_ret ?_
   refine ret_ret (res2 rfl (rv_tmp rfl) (rv_tmp rfl)) ?_
   rw [limitR, if_pos (by simpa using h2)] at hq; exact hq _ (Own.mk_job (Own.drop0 (Own.mono hS1 (le_bef (bef_app (a := [16, 0, 1]) hp)))))
  ·try simp only [bs] at h2
   refine XW_skip ?_
   refine then_norm ?_
   refine XW_sr ?_
   refine OW_mv rfl rfl ?_
   refine OW_mv rfl rfl ?_
   first
   | refine OW_nc rfl rfl ?_
   | refine OW_nce rfl rfl ?_
   refine OW_env (e' := [_,_,_,_,_,_,_,_,_,_,_,_,_,_,_,_,_,_,_,_,_,_,_,_,_,_,_,_,_,_,_,_]) rfl ?_
   refine OW_fa rfl rfl rfl ?_
   refine OW_fa rfl rfl rfl ?_
   refine OW_storeC hS1 (k := 1) rfl (le_lit (ν := ν) (a := [16, 0, 1]) (b := [5, 0, 1, 1, 1]) (by decide)) rfl rfl rfl (hS1.one (k := 0) rfl) rfl rfl (Nat.le_of_ble_eq_true rfl) (u2 := .agg [_, _, _, _, _, _, _, _, _, _, _, _, _, _, _, _]) rfl fun H2 hS2 => ?_
   replace hS2 : Own _ _ _ (_ :: _ :: _ :: _ :: _ :: L) := hS2
   refine OW_nilE (e' := [_,_,_,_,_,_,_,_,_,_,_,_,_,_,_,_,_,_,_,_,_,_,_,_,_,_,_,_,_,_,_,_]) rfl ?_
   refine XW_sr ?_
   refine OW_as rfl rfl ?_
   refine OW_as rfl rfl ?_
   refine OW_nilE (e' := [_,_,_,_,_,_,_,_,_,_,_,_,_,_,_,_,_,_,_,_,_,_,_,_,_,_,_,_,_,_,_,_]) rfl ?_
   refine XW_ret ?_
   refine ret_ret (res2 rfl (rv_tmp rfl) (rv_tmp rfl)) ?_
   rw [limitR, if_neg (by simpa using h2)] at hq; exact hq _ (Own.mk_job (c := ⟨c.vs, c.ss, (setQ c.qs m.a m.b).1⟩) (Own.rot (A := [_, _, _]) (Own.drop (Own.mono hS2 (le_bef (bef_app (a := [6, 0, 1, 1, 1]) hp))) (k := 4) rfl)))
theorem few_pow {b : Int} (h : 0 ≤ b ∧ b ≤ 4) : few ((2 ^ b.toNat : Nat) : Int) ∧ aBin cfg.T .shl 3 (.int .i64 1) (.int .u64 b) = some (.int .i64 ((2 ^ b.toNat : Nat) : Int)) := by
  obtain ⟨n, rfl⟩ := Int.eq_ofNat_of_zero_le h.1
  rcases (by omega : n = 0 ∨ n = 1 ∨ n = 2 ∨ n = 3 ∨ n = 4) with rfl | rfl | rfl | rfl | rfl
  all_goals exact ⟨by unfold few; decide, rfl⟩
theorem repeat_n {n : Nat} (h : few n) (hq : Q (.lst ((List.replicate n ⟨#[]⟩).map AVal.str)) H) : CW cfg ν 64 [.lst [.str ⟨#[]⟩], .int .i64 n] H Q := repeat_c h hq
theorem make_c (hg : c.good) (hm : m.fit) (hS : Own β ps H (jobO q qo key c m :: L)) (hle : le ps ν) (hβ : under β ν = true) (hp : before ν pos')
    (hq : ∀ H1, Own β pos' H1 (jobF q qo key (makeR c m).c m :: L) → Q (.tup [.str (makeR c m).an, .int .i64 (makeR c m).e]) H1) : CW cfg ν 26 [.ptr q 0 0] H Q := by
  obtain ⟨V, S, T, Us, hu, hS⟩ := hS.un_jobU
  have hvl := hg.vl
  have hrl := rows_lenE (vs := c.vs) hu
  have hzl : (c.vs.zip Us).length = c.vs.length := by rw [List.length_zip]; omega
  have hmb := hm.b
  refine CW_keep g26 F26 rfl ?_
  replace hS := Own.mono hS hle
  refine XW_sr ?_
  refine OW_as rfl rfl ?_
  refine OW_as rfl rfl ?_
  refine EZ72_CK9 rfl ?_
  refine XW_seq ?_
  refine XW_block ?_
  refine XW_sr ?_
  refine OW_mv rfl rfl ?_
  first
  | refine OW_nc rfl rfl ?_
  | refine OW_nce rfl rfl ?_
  refine OW_fa rfl rfl rfl ?_
  refine EN72_CK9 rfl ?_
  refine OW_loadR hS (k := 0) rfl rfl rfl rfl rfl (by first | exact part_whole rfl rfl rfl | rfl) ?_
  refine OW_mv rfl rfl ?_
  first
  | refine OW_nc rfl rfl ?_
  | refine OW_nce rfl rfl ?_
  refine EN72_CK9 rfl ?_
  refine OW_fa rfl rfl rfl ?_
  refine OW_fa rfl rfl rfl ?_
  refine OW_loadR hS (k := 0) rfl rfl rfl rfl rfl (by first | exact part_whole rfl rfl rfl | rfl) ?_
  refine EN72_CK9 rfl ?_
  refine OW_fn rfl rfl (ck_find (Own.st_fzU hS hu) (by omega) _ ?_) 
  refine OW_bin rfl rfl rfl rfl rfl ?_
  refine OW_as rfl rfl ?_
  refine EZ72_CK9 rfl ?_
  refine XW_if rfl (fun h1 => ?_) (fun h1 => ?_)
  ·try simp only [bs] at h1
   refine XW_sr ?_
   refine OW_as rfl rfl ?_
   refine OW_as rfl rfl ?_
   refine EZ72_CK9 rfl ?_
   refine XW_ret ?_
   refine block_ret ?_
   refine then_ret ?_
   refine ret_ret (res2 rfl (rv_tmp rfl) (rv_tmp rfl)) ?_
   rw [makeR, if_pos (by omega)] at hq; exact hq _ (Own.job_F (Own.mk_jobU (Own.mono hS (le_bef hp)) hu))
  ·try simp only [bs] at h1
   refine XW_sr ?_
   refine OW_mv rfl rfl ?_
   first
   | refine OW_nc rfl rfl ?_
   | refine OW_nce rfl rfl ?_
   refine OW_fa rfl rfl rfl ?_
   refine EN72_CK9 rfl ?_
   refine OW_fa rfl rfl rfl ?_
   refine OW_loadR hS (k := 0) rfl rfl rfl rfl rfl (by first | exact part_whole rfl rfl rfl | rfl) ?_
   refine OW_lenO hS (k := 1) rfl rfl rfl rfl rfl rfl (by first | exact List.length_map _ | exact len_app1 | exact len_drop | (simp only [ss]; rfl) | rfl) ?_
   refine EN72_CK9 rfl ?_
   refine OW_bin rfl rfl rfl rfl rfl ?_
   refine OW_as rfl rfl ?_
   refine EZ72_CK9 rfl ?_
   refine XW_if rfl (fun h3 => ?_) (fun h3 => ?_)
   ·try simp only [bs] at h3
    refine XW_sr ?_
    refine OW_as rfl rfl ?_
    refine OW_as rfl rfl ?_
    refine EZ72_CK9 rfl ?_
    refine XW_ret ?_
    refine block_ret ?_
    refine then_ret ?_
    refine ret_ret (res2 rfl (rv_tmp rfl) (rv_tmp rfl)) ?_
    rw [makeR, if_neg (by omega), if_pos (by omega)] at hq; exact hq _ (Own.job_F (Own.mk_jobU (Own.mono hS (le_bef hp)) hu))
   ·try simp only [bs] at h3
    refine XW_sr ?_
    refine OW_mv rfl rfl ?_
    first
    | refine OW_nc rfl rfl ?_
    | refine OW_nce rfl rfl ?_
    refine OW_fa rfl rfl rfl ?_
    refine EN72_CK9 rfl ?_
    refine OW_fa rfl rfl rfl ?_
    refine OW_loadR hS (k := 0) rfl rfl rfl rfl rfl (by first | exact part_whole rfl rfl rfl | rfl) ?_
    refine OW_bin rfl rfl rfl rfl rfl ?_
    refine EN72_CK9 rfl ?_
    refine OW_as rfl rfl ?_
    refine EZ72_CK9 rfl ?_
    refine XW_if rfl (fun h5 => ?_) (fun h5 => ?_)
    ·try simp only [bs] at h5
     refine XW_sr ?_
     refine OW_as rfl rfl ?_
     refine OW_as rfl rfl ?_
     refine EZ72_CK9 rfl ?_
     refine XW_ret ?_
     refine block_ret ?_
     refine then_ret ?_
     refine ret_ret (res2 rfl (rv_tmp rfl) (rv_tmp rfl)) ?_
     rw [makeR, if_neg (by omega), if_neg (by omega), if_pos (by omega)] at hq; exact hq _ (Own.job_F (Own.mk_jobU (Own.mono hS (le_bef hp)) hu))
    ·try simp only [bs] at h5
     refine XW_skip ?_
     refine block_norm ?_
     refine then_norm ?_
     refine XW_sr ?_
     obtain ⟨hfew, hshl⟩ := few_pow (b := m.b) (by omega)
     refine OW_mv rfl rfl ?_
     refine OW_mv rfl rfl ?_
     first
     | refine OW_nc rfl rfl ?_
     | refine OW_nce rfl rfl ?_
     refine EN72_CK9 rfl ?_
     refine OW_fa rfl rfl rfl ?_
     refine OW_fa rfl rfl rfl ?_
     refine OW_loadR hS (k := 0) rfl rfl rfl rfl rfl (by first | exact part_whole rfl rfl rfl | rfl) ?_
     refine EN72_CK9 rfl ?_
     refine OW_mv rfl rfl ?_
     first
     | refine OW_nc rfl rfl ?_
     | refine OW_nce rfl rfl ?_
     refine OW_fa rfl rfl rfl ?_
     refine EN72_CK9 rfl ?_
     refine OW_fa rfl rfl rfl ?_
     refine OW_loadR hS (k := 0) rfl rfl rfl rfl rfl (by first | exact part_whole rfl rfl rfl | rfl) ?_
     refine OW_mv rfl rfl ?_
     refine EN72_CK9 rfl ?_
     first
     | refine OW_nc rfl rfl ?_
     | refine OW_nce rfl rfl ?_
     refine OW_fa rfl rfl rfl ?_
     refine OW_fa rfl rfl rfl ?_
     refine EN72_CK9 rfl ?_
     refine OW_loadR hS (k := 0) rfl rfl rfl rfl rfl (by first | exact part_whole rfl rfl rfl | rfl) ?_
     refine OW_mv rfl rfl ?_
     first
     | refine OW_nc rfl rfl ?_
     | refine OW_nce rfl rfl ?_
     refine EN72_CK9 rfl ?_
     refine OW_fa rfl rfl rfl ?_
     refine OW_fa rfl rfl rfl ?_
     refine OW_loadR hS (k := 0) rfl rfl rfl rfl rfl (by first | exact part_whole rfl rfl rfl | rfl) ?_
     refine EN72_CK9 rfl ?_
     refine OW_mv rfl rfl ?_
     first
     | refine OW_nc rfl rfl ?_
     | refine OW_nce rfl rfl ?_
     refine OW_fa rfl rfl rfl ?_
     refine EN72_CK9 rfl ?_
     refine OW_fa rfl rfl rfl ?_
     refine OW_loadR hS (k := 0) rfl rfl rfl rfl rfl (by first | exact part_whole rfl rfl rfl | rfl) ?_
     first
     | refine OW_conv rfl rfl (conv_in rfl rfl rfl (IntWalk.i64_in _ (by omega))) ?_
     | refine OW_conv rfl rfl rfl ?_
     refine EN72_CK9 rfl ?_
     refine OW_bs rfl rfl (v := .lst [_]) rfl ?_
     refine OW_mv rfl rfl ?_
     first
     | refine OW_nc rfl rfl ?_
     | refine OW_nce rfl rfl ?_
     refine EN72_CK9 rfl ?_
     refine OW_fa rfl rfl rfl ?_
     refine OW_fa rfl rfl rfl ?_
     refine OW_loadR hS (k := 0) rfl rfl rfl rfl rfl (by first | exact part_whole rfl rfl rfl | rfl) ?_
     refine EN72_CK9 rfl ?_
     refine OW_bin rfl rfl rfl rfl hshl ?_
     refine OW_fn rfl rfl (repeat_n hfew ?_) 
     refine OW_bd rfl rfl (v := .agg [_, _, _, _, _]) rfl ?_
     refine EN72_CK9 rfl ?_
     refine OW_bs rfl rfl (v := .lst [_]) rfl ?_
     refine OW_app hS (k := 1) rfl (le_app (p := ν) (b := [37, 0, 1, 1])) (under_app [37, 0, 1, 1] hβ) rfl rfl rfl rfl rfl rfl rfl rfl (by first | rfl | exact Ls.elems (by assumption)) (by first | exact one_wide rfl | exact map_wide (fun _ => rfl) | assumption | (intro y hy; simp at hy; done)) (by first | omega | (simp only [ss]; omega) | (simp; omega)) (by decide) fun O1 H1 hS1 => ?_
     replace hS1 : Own _ _ _ (_ :: _ :: _ :: _ :: _ :: L) := hS1
     first
     | refine OW_nc rfl rfl ?_
     | refine OW_nce rfl rfl ?_
     refine EN72_CK9 rfl ?_
     refine OW_fa rfl rfl rfl ?_
     refine OW_fa rfl rfl rfl ?_
     refine OW_storeC hS1 (k := 0) rfl (le_lit (ν := ν) (a := [38, 0, 1, 1]) (b := [41, 0, 1, 1]) (by decide)) rfl rfl rfl (hS1.one (k := 1) rfl) rfl rfl (Nat.le_of_ble_eq_true rfl) (u2 := .agg [_, _, _, _, _, _, _, _, _, _, _, _, _, _, _, _]) rfl fun H2 hS2 => ?_
     replace hS2 : Own _ _ _ (_ :: _ :: _ :: _ :: _ :: L) := hS2
     refine EZ72_CK9 rfl ?_
     refine XW_sr ?_
     refine OW_as rfl rfl ?_
     refine OW_as rfl rfl ?_
     refine EZ72_CK9 rfl ?_
     refine XW_ret ?_
     refine ret_ret (res2 rfl (rv_tmp rfl) (rv_tmp rfl)) ?_
     rw [makeR, if_neg (by omega), if_neg (by omega), if_neg (by omega)] at hq; exact hq _ (Own.mk_jobN (x := ⟨m.vo, m.a, m.se, m.b, List.replicate (2 ^ m.b.toNat) ⟨#[]⟩⟩) (Own.mono hS2 (le_bef (bef_app (a := [42, 0, 1, 1]) hp))) hu)
end Go.Proofs.Ytfkgdlfponfimaa.X
/- Layer 13: a job's leaf. -/
set_option linter.unusedVariables false
set_option linter.unusedSimpArgs false
set_option maxRecDepth 100000
namespace Go.Proofs.Ytfkgdlfponfimaa.X
open Go Go.RowKit WM
theorem EN106_CK10 {c : Cfg} {ν : Nm} {e : Env} {H : Heap} {all : Array Oper} {r : List Oper} {i : Nat} {Q : Env → Heap → Prop} {x0 x1 x2 x3 x4 x5 x6 x7 x8 x9 x10 x11 x12 x13 x14 x15 x16 x17 x18 x19 x20 x21 x22 x23 x24 x25 x26 x27 x28 x29 x30 x31 x32 x33 x34 x35 x36 x37 x38 x39 x40 x41 x42 x43 x44 x45 x46 x47 x48 x49 x50 x51 x52 x53 x54 x55 x56 x57 x58 x59 x60 x61 x62 x63 x64 x65 x66 x67 x68 x69 x70 x71 x72 x73 x74 x75 x76 x77 x78 x79 x80 x81 x82 x83 x84 x85 x86 x87 x88 x89 x90 x91 x92 x93 x94 x95 x96 x97 x98 x99 x100 x101 x102 x103 x104 x105 : AVal} (he : e = [x0,x1,x2,x3,x4,x5,x6,x7,x8,x9,x10,x11,x12,x13,x14,x15,x16,x17,x18,x19,x20,x21,x22,x23,x24,x25,x26,x27,x28,x29,x30,x31,x32,x33,x34,x35,x36,x37,x38,x39,x40,x41,x42,x43,x44,x45,x46,x47,x48,x49,x50,x51,x52,x53,x54,x55,x56,x57,x58,x59,x60,x61,x62,x63,x64,x65,x66,x67,x68,x69,x70,x71,x72,x73,x74,x75,x76,x77,x78,x79,x80,x81,x82,x83,x84,x85,x86,x87,x88,x89,x90,x91,x92,x93,x94,x95,x96,x97,x98,x99,x100,x101,x102,x103,x104,x105]) (h : OW c ν all r i [x0,x1,x2,x3,x4,x5,x6,x7,x8,x9,x10,x11,x12,x13,x14,x15,x16,x17,x18,x19,x20,x21,x22,x23,x24,x25,x26,x27,x28,x29,x30,x31,x32,x33,x34,x35,x36,x37,x38,x39,x40,x41,x42,x43,x44,x45,x46,x47,x48,x49,x50,x51,x52,x53,x54,x55,x56,x57,x58,x59,x60,x61,x62,x63,x64,x65,x66,x67,x68,x69,x70,x71,x72,x73,x74,x75,x76,x77,x78,x79,x80,x81,x82,x83,x84,x85,x86,x87,x88,x89,x90,x91,x92,x93,x94,x95,x96,x97,x98,x99,x100,x101,x102,x103,x104,x105] H Q) : OW c ν all r i e H Q := by subst he; exact h
theorem EZ106_CK10 {c : Cfg} {ν : Nm} {e : Env} {H : Heap} {all : Array Oper} {i : Nat} {Q : Env → Heap → Prop} {x0 x1 x2 x3 x4 x5 x6 x7 x8 x9 x10 x11 x12 x13 x14 x15 x16 x17 x18 x19 x20 x21 x22 x23 x24 x25 x26 x27 x28 x29 x30 x31 x32 x33 x34 x35 x36 x37 x38 x39 x40 x41 x42 x43 x44 x45 x46 x47 x48 x49 x50 x51 x52 x53 x54 x55 x56 x57 x58 x59 x60 x61 x62 x63 x64 x65 x66 x67 x68 x69 x70 x71 x72 x73 x74 x75 x76 x77 x78 x79 x80 x81 x82 x83 x84 x85 x86 x87 x88 x89 x90 x91 x92 x93 x94 x95 x96 x97 x98 x99 x100 x101 x102 x103 x104 x105 : AVal} (he : e = [x0,x1,x2,x3,x4,x5,x6,x7,x8,x9,x10,x11,x12,x13,x14,x15,x16,x17,x18,x19,x20,x21,x22,x23,x24,x25,x26,x27,x28,x29,x30,x31,x32,x33,x34,x35,x36,x37,x38,x39,x40,x41,x42,x43,x44,x45,x46,x47,x48,x49,x50,x51,x52,x53,x54,x55,x56,x57,x58,x59,x60,x61,x62,x63,x64,x65,x66,x67,x68,x69,x70,x71,x72,x73,x74,x75,x76,x77,x78,x79,x80,x81,x82,x83,x84,x85,x86,x87,x88,x89,x90,x91,x92,x93,x94,x95,x96,x97,x98,x99,x100,x101,x102,x103,x104,x105]) (h : Q [x0,x1,x2,x3,x4,x5,x6,x7,x8,x9,x10,x11,x12,x13,x14,x15,x16,x17,x18,x19,x20,x21,x22,x23,x24,x25,x26,x27,x28,x29,x30,x31,x32,x33,x34,x35,x36,x37,x38,x39,x40,x41,x42,x43,x44,x45,x46,x47,x48,x49,x50,x51,x52,x53,x54,x55,x56,x57,x58,x59,x60,x61,x62,x63,x64,x65,x66,x67,x68,x69,x70,x71,x72,x73,x74,x75,x76,x77,x78,x79,x80,x81,x82,x83,x84,x85,x86,x87,x88,x89,x90,x91,x92,x93,x94,x95,x96,x97,x98,x99,x100,x101,x102,x103,x104,x105] H) : OW c ν all [] i e H Q := by subst he; exact OW_nil h
variable {ν β ps pos pos' : Nm} {H H1 : Heap} {Q : AVal → Heap → Prop} {L : List Asr} {k : Nat} {S : Rf} {c : Ck} {q qo : Nm} {key want : Int} {m : Cm}
theorem Own.job_lv {X1 X2 : Asr} {Us : List AVal} {vs : List Vo} {i : Nat} (h : Own β ps H (X1 :: X2 :: lvA Us vs :: L)) (hl : Us.length = vs.length) (hi : i < vs.length) : Own β ps H (X1 :: X2 :: sl (Us[i]'(by omega)) 1 (vs[i].lv.map AVal.str) :: lvX i Us vs :: L) := by
  have h1 := Own.lv_at (Own.tor (A := [X1, X2]) (show Own β ps H ([X1, X2] ++ lvA Us vs :: L) from h)) hl hi
  have h2 := Own.rot (A := [lvX i Us vs, X1, X2]) (show Own β ps H (sl (Us[i]'(by omega)) 1 (vs[i].lv.map AVal.str) :: ([lvX i Us vs, X1, X2] ++ L)) from h1)
  have h3 := Own.rot (A := [X1, X2, sl (Us[i]'(by omega)) 1 (vs[i].lv.map AVal.str)]) (show Own β ps H (lvX i Us vs :: ([X1, X2, sl (Us[i]'(by omega)) 1 (vs[i].lv.map AVal.str)] ++ L)) from h2)
  exact h3
theorem Own.job_lvB {X1 X2 : Asr} {Us : List AVal} {vs : List Vo} {i : Nat} {y : Vo} {hU : i < Us.length} (h : Own β ps H (X1 :: X2 :: sl (Us[i]'hU) 1 (y.lv.map AVal.str) :: lvX i Us vs :: L)) (hl : Us.length = vs.length) (hi : i < vs.length) : Own β ps H (X1 :: X2 :: lvA Us (vs.set i y) :: L) := by
  have h1 := Own.tor (A := [X1, X2, sl (Us[i]'hU) 1 (y.lv.map AVal.str)]) (show Own β ps H ([X1, X2, sl (Us[i]'hU) 1 (y.lv.map AVal.str)] ++ lvX i Us vs :: L) from h)
  have h2 := Own.tor (A := [lvX i Us vs, X1, X2]) (show Own β ps H ([lvX i Us vs, X1, X2] ++ sl (Us[i]'hU) 1 (y.lv.map AVal.str) :: L) from h1)
  exact Own.rot (A := [X1, X2]) (Own.lv_put (L := X1 :: X2 :: L) h2 hl hi)
theorem ltFi {T : TT} {t : TypeId} {a b : Int} (h : b ≤ a) : aBin T .lss t (.int .i64 a) (.int .i64 b) = some (.bool false) := by
  simp only [aBin, aIntB, aInt]; simp; omega
theorem gtFi {T : TT} {t : TypeId} {a b : Int} (h : a ≤ b) : aBin T .gtr t (.int .i64 a) (.int .i64 b) = some (.bool false) := by
  simp only [aBin, aIntB, aInt]; simp; omega
theorem geFu {T : TT} {t : TypeId} {a b : Int} (h : a < b) : aBin T .geq t (.int .u64 a) (.int .u64 b) = some (.bool false) := by
  simp only [aBin, aIntB, aInt]; simp; omega
theorem geTu {T : TT} {t : TypeId} {a b : Int} (h : b ≤ a) : aBin T .geq t (.int .u64 a) (.int .u64 b) = some (.bool true) := by
  simp only [aBin, aIntB, aInt]; simp; omega
theorem shl_pow {b : Int} (h : 0 ≤ b ∧ b ≤ 4) : aBin cfg.T .shl 28 (.int .u64 1) (.int .i64 b) = some (.int .u64 ((2 ^ b.toNat : Nat) : Int)) := by
  obtain ⟨n, rfl⟩ := Int.eq_ofNat_of_zero_le h.1
  rcases (by omega : n = 0 ∨ n = 1 ∨ n = 2 ∨ n = 3 ∨ n = 4) with rfl | rfl | rfl | rfl | rfl <;> rfl
theorem leafE_at {i : Nat} (h : atP m.vo c.vs = i) (hi : i < c.vs.length) : leafE S key c m want = if (S.check key m.t m.vo c.vs[i].ep want).1 ≠ 0 then S.check key m.t m.vo c.vs[i].ep want
  else if (c.vs[i].lv.length : Int) ≤ m.se then (133, (S.check key m.t m.vo c.vs[i].ep want).2) else (0, (S.check key m.t m.vo c.vs[i].ep want).2) := by
  unfold leafE; rw [at_eq h hi, if_neg (by omega)]
theorem leaf_err (hg : c.good) (hm : m.fit) (he : (leafE S key c m want).1 ≠ 0) (hS : Own β ps H (jobO q qo key c m :: orc qo S.of :: L)) (hle : le ps ν) (hβ : under β ν = true) (hp : before ν pos')
    (hq : ∀ H1, Own β pos' H1 (jobO q qo key c m :: orc qo (leafE S key c m want).2.of :: L) → Q (.tup [.nilp, .nilp, .int .i64 (leafE S key c m want).1]) H1) : CW cfg ν 66 [.ptr q 0 0, .int .u64 want] H Q := by
  obtain ⟨V, S', T', Us, hu, hS⟩ := hS.un_jobU
  have hvl := hg.vl
  have hse := hm.se
  have hrl := rows_lenE (vs := c.vs) hu
  have hzl : (c.vs.zip Us).length = c.vs.length := by rw [List.length_zip]; omega
  refine CW_keep g66 F66 rfl ?_
  replace hS := Own.mono hS hle
  refine XW_sr ?_
  refine OW_as rfl rfl ?_
  refine OW_as rfl rfl ?_
  refine OW_as rfl rfl ?_
  refine EZ106_CK10 rfl ?_
  refine XW_sr ?_
  refine OW_mv rfl rfl ?_
  first
  | refine OW_nc rfl rfl ?_
  | refine OW_nce rfl rfl ?_
  refine OW_fa rfl rfl rfl ?_
  refine EN106_CK10 rfl ?_
  refine OW_loadR hS (k := 0) rfl rfl rfl rfl rfl (by first | exact part_whole rfl rfl rfl | rfl) ?_
  refine OW_mv rfl rfl ?_
  first
  | refine OW_nc rfl rfl ?_
  | refine OW_nce rfl rfl ?_
  refine EN106_CK10 rfl ?_
  refine OW_fa rfl rfl rfl ?_
  refine OW_fa rfl rfl rfl ?_
  refine OW_loadR hS (k := 0) rfl rfl rfl rfl rfl (by first | exact part_whole rfl rfl rfl | rfl) ?_
  refine EN106_CK10 rfl ?_
  refine OW_fn rfl rfl (ck_find (Own.st_fzU hS hu) (by omega) _ ?_) 
  refine OW_as rfl rfl ?_
  refine EZ106_CK10 rfl ?_
  refine XW_seq ?_
  refine XW_sr ?_
  generalize hat : atP m.vo c.vs = at0
  refine OW_mv rfl rfl ?_
  refine OW_bin rfl rfl rfl rfl rfl ?_
  refine EZ106_CK10 rfl ?_
  refine XW_if rfl (fun h2 => ?_) (fun h2 => ?_)
  ·try simp only [bs] at h2
   refine XW_sr ?_
   refine OW_as rfl rfl ?_
   refine OW_as rfl rfl ?_
   refine OW_as rfl rfl ?_
   refine EZ106_CK10 rfl ?_
   refine XW_ret ?_
   refine then_ret ?_
   refine ret_ret (res3 rfl (rv_tmp rfl) (rv_tmp rfl) (rv_tmp rfl)) ?_
   rw [show leafE S key c m want = (132, S) by unfold leafE; rw [if_pos (by omega)]] at hq; exact hq _ (Own.mk_jobU (Own.mono hS (le_bef hp)) hu)
  ·try simp only [bs] at h2
   refine XW_skip ?_
   refine then_norm ?_
   refine XW_sr ?_
   obtain ⟨i, hi, rfl, hvo⟩ := atP_some hat h2
   have hrow := rows_get (Us := Us) hu hi
   rw [show c.vs[i].row (Us[i]'(by omega)) = .agg [.int .u64 c.vs[i].vo, .int .u64 c.vs[i].tn, .int .u64 c.vs[i].ep, .int .i64 c.vs[i].de, Us[i]'(by omega)] from rfl] at hrow
   have hvg := hg.vg c.vs[i] (List.getElem_mem hi)
   have hde := hvg.de
   have hll := hvg.ll
   rw [leafE_at hat hi] at he hq
   refine OW_mv rfl rfl ?_
   first
   | refine OW_nc rfl rfl ?_
   | refine OW_nce rfl rfl ?_
   refine OW_fa rfl rfl rfl ?_
   refine EN106_CK10 rfl ?_
   refine OW_fa rfl rfl rfl ?_
   refine OW_loadR hS (k := 0) rfl rfl rfl rfl rfl (by first | exact part_whole rfl rfl rfl | rfl) ?_
   refine OW_mv rfl rfl ?_
   refine EN106_CK10 rfl ?_
   refine OW_iaO hS (k := 1) rfl rfl rfl rfl rfl rfl rfl rfl (by first | rfl | exact (Int.toNat_of_nonneg (by omega)).symm) (by first | assumption | exact at_map (by first | assumption | omega) | exact at_lst (by omega) | rfl) fun q1 ys1 hO1 hq1 ht1 hy1 hu1 => ?_
   subst hO1
   refine OW_as rfl rfl ?_
   refine EZ106_CK10 rfl ?_
   refine XW_seq ?_
   refine XW_sr ?_
   refine OW_mv rfl rfl ?_
   first
   | refine OW_nc rfl rfl ?_
   | refine OW_nce rfl rfl ?_
   refine OW_fa rfl rfl rfl ?_
   refine EN106_CK10 rfl ?_
   refine OW_loadR hS (k := 0) rfl rfl rfl rfl rfl (by first | exact part_whole rfl rfl rfl | rfl) ?_
   refine OW_mv rfl rfl ?_
   first
   | refine OW_nc rfl rfl ?_
   | refine OW_nce rfl rfl ?_
   refine EN106_CK10 rfl ?_
   refine OW_fa rfl rfl rfl ?_
   refine OW_loadR hS (k := 0) rfl rfl rfl rfl rfl (by first | exact part_whole rfl rfl rfl | rfl) ?_
   refine OW_mv rfl rfl ?_
   refine EN106_CK10 rfl ?_
   first
   | refine OW_nc rfl rfl ?_
   | refine OW_nce rfl rfl ?_
   refine OW_fa rfl rfl rfl ?_
   refine OW_fa rfl rfl rfl ?_
   refine EN106_CK10 rfl ?_
   refine OW_loadR hS (k := 0) rfl rfl rfl rfl rfl (by first | exact part_whole rfl rfl rfl | rfl) ?_
   refine OW_mv rfl rfl ?_
   first
   | refine OW_nc rfl rfl ?_
   | refine OW_nce rfl rfl ?_
   refine EN106_CK10 rfl ?_
   refine OW_fa rfl rfl rfl ?_
   refine OW_fa rfl rfl rfl ?_
   refine OW_loadR hS (k := 0) rfl rfl rfl rfl rfl (by first | exact part_whole rfl rfl rfl | rfl) ?_
   refine EN106_CK10 rfl ?_
   refine OW_mv rfl rfl ?_
   first
   | refine OW_nc rfl rfl ?_
   | refine OW_nce rfl rfl ?_
   refine OW_fa rfl rfl rfl ?_
   refine EN106_CK10 rfl ?_
   refine OW_loadS hS (k := 1) rfl rfl rfl rfl (by first | assumption | exact at_map (by first | assumption | omega) | exact at_lst (by omega) | rfl) (by first | exact part_whole rfl rfl rfl | rfl) ?_
   refine OW_mv rfl rfl ?_
   refine OW_fn rfl rfl (checkW hS (k := 5) rfl (le_app (p := ν) (b := [23, 0, 0, 1, 1, 1, 1])) (under_app [23, 0, 0, 1, 1, 1, 1] hβ) (before_lit (ν := ν) (a := [23, 0, 0, 1, 1, 1, 1]) (b := [24, 0, 0, 1, 1, 1, 1]) (by decide)) key m.t hm.t m.vo c.vs[i].ep want fun H1 hS1 => ?_) 
   replace hS1 : Own _ _ _ (_ :: _ :: _ :: _ :: _ :: _ :: L) := hS1
   refine EN106_CK10 rfl ?_
   refine OW_as rfl rfl ?_
   refine EZ106_CK10 rfl ?_
   refine XW_sr ?_
   refine OW_mv rfl rfl ?_
   refine OW_bin rfl rfl rfl rfl rfl ?_
   refine EZ106_CK10 rfl ?_
   refine XW_if rfl (fun h6 => ?_) (fun h6 => ?_)
   ·try simp only [bs] at h6
    refine XW_sr ?_
    refine OW_mv rfl rfl ?_
    refine OW_as rfl rfl ?_
    refine OW_as rfl rfl ?_
    refine EN106_CK10 rfl ?_
    refine OW_as rfl rfl ?_
    refine EZ106_CK10 rfl ?_
    refine XW_ret ?_
    refine then_ret ?_
    refine ret_ret (res3 rfl (rv_tmp rfl) (rv_tmp rfl) (rv_tmp rfl)) ?_
    rw [if_pos (by simpa using h6)] at hq; exact hq _ (Own.mk_jobU (Own.mono hS1 (le_bef (bef_app (a := [24, 0, 0, 1, 1, 1, 1]) hp))) hu)
   ·try simp only [bs] at h6
    refine XW_skip ?_
    refine then_norm ?_
    refine XW_seq ?_
    refine XW_sr ?_
    have h133 : (c.vs[i].lv.length : Int) ≤ m.se := by by_cases h : (c.vs[i].lv.length : Int) ≤ m.se; exact h; rw [if_neg (by simpa using h6), if_neg h] at he; exact absurd rfl he
    refine OW_mv rfl rfl ?_
    first
    | refine OW_nc rfl rfl ?_
    | refine OW_nce rfl rfl ?_
    refine OW_fa rfl rfl rfl ?_
    refine EN106_CK10 rfl ?_
    refine OW_loadS hS1 (k := 1) rfl rfl rfl rfl (by first | assumption | exact at_map (by first | assumption | omega) | exact at_lst (by omega) | rfl) (by first | exact part_whole rfl rfl rfl | rfl) ?_
    refine OW_bin rfl rfl rfl rfl (ltFi (by omega)) ?_
    refine OW_mv rfl rfl ?_
    refine EN106_CK10 rfl ?_
    refine OW_mv rfl rfl ?_
    first
    | refine OW_nc rfl rfl ?_
    | refine OW_nce rfl rfl ?_
    refine OW_fa rfl rfl rfl ?_
    refine EN106_CK10 rfl ?_
    refine OW_loadS hS1 (k := 1) rfl rfl rfl rfl (by first | assumption | exact at_map (by first | assumption | omega) | exact at_lst (by omega) | rfl) (by first | exact part_whole rfl rfl rfl | rfl) ?_
    refine OW_bin rfl rfl rfl rfl (gtFi (by omega)) ?_
    refine OW_pick rfl rfl rfl ?_
    refine EN106_CK10 rfl ?_
    refine OW_mv rfl rfl ?_
    refine OW_mv rfl rfl ?_
    first
    | refine OW_nc rfl rfl ?_
    | refine OW_nce rfl rfl ?_
    refine EN106_CK10 rfl ?_
    refine OW_fa rfl rfl rfl ?_
    refine OW_fa rfl rfl rfl ?_
    refine OW_loadR hS1 (k := 0) rfl rfl rfl rfl rfl (by first | exact part_whole rfl rfl rfl | rfl) ?_
    refine EN106_CK10 rfl ?_
    refine OW_mv rfl rfl ?_
    first
    | refine OW_nc rfl rfl ?_
    | refine OW_nce rfl rfl ?_
    refine OW_fa rfl rfl rfl ?_
    refine EN106_CK10 rfl ?_
    refine OW_loadS hS1 (k := 1) rfl rfl rfl rfl (by first | assumption | exact at_map (by first | assumption | omega) | exact at_lst (by omega) | rfl) (by first | exact part_whole rfl rfl rfl | rfl) ?_
    refine OW_bin rfl rfl rfl rfl (shl_pow hde) ?_
    refine OW_bin rfl rfl rfl rfl (geTu (by omega)) ?_
    refine EN106_CK10 rfl ?_
    refine OW_pick rfl rfl rfl ?_
    refine OW_mv rfl rfl ?_
    refine OW_no rfl ?_
    refine EN106_CK10 rfl ?_
    refine OW_no rfl ?_
    refine OW_no rfl ?_
    refine OW_no rfl ?_
    refine EN106_CK10 rfl ?_
    refine OW_no rfl ?_
    refine OW_no rfl ?_
    refine OW_no rfl ?_
    refine EN106_CK10 rfl ?_
    refine OW_no rfl ?_
    refine OW_no rfl ?_
    refine OW_no rfl ?_
    refine EN106_CK10 rfl ?_
    refine OW_no rfl ?_
    refine OW_no rfl ?_
    refine OW_pick rfl rfl rfl ?_
    refine EZ106_CK10 rfl ?_
    refine XW_yes rfl rfl ?_
    refine XW_sr ?_
    refine OW_as rfl rfl ?_
    refine OW_as rfl rfl ?_
    refine OW_as rfl rfl ?_
    refine EZ106_CK10 rfl ?_
    refine XW_ret ?_
    refine then_ret ?_
    refine ret_ret (res3 rfl (rv_tmp rfl) (rv_tmp rfl) (rv_tmp rfl)) ?_
    rw [if_neg (by simpa using h6), if_pos h133] at hq; exact hq _ (Own.mk_jobU (Own.mono hS1 (le_bef (bef_app (a := [24, 0, 0, 1, 1, 1, 1]) hp))) hu)
theorem leaf_ok (hg : c.good) (hm : m.fit) (he : (leafE S key c m want).1 = 0) (hS : Own β ps H (jobO q qo key c m :: orc qo S.of :: L)) (hle : le ps ν) (hβ : under β ν = true) (hp : before ν pos')
    (hq : ∀ H1 Us i bV bU S' T' (hu : Us.length = c.vs.length) (hi : i < c.vs.length), atP m.vo c.vs = i → m.se.toNat < c.vs[i].lv.length → (Us[i]'(by omega)) = .slc bU 1 0 (c.vs[i].lv.map AVal.str).length →
      Own β pos' H1 (jrow q qo key (.slc bV 5 0 (rowsOf Us c.vs).length) S' T' m :: sl (.slc bV 5 0 (rowsOf Us c.vs).length) 5 (rowsOf Us c.vs) :: sl (.slc bU 1 0 (c.vs[i].lv.map AVal.str).length) 1 (c.vs[i].lv.map AVal.str) :: lvX i Us c.vs :: sl S' 3 (c.ss.map SE.Se.enc) :: sl T' 3 (c.qs.map Qu.enc) :: orc qo (leafE S key c m want).2.of :: L) →
      Q (.tup [.ptr bU m.se.toNat 0, .ptr bV i 0, .int .i64 0]) H1) : CW cfg ν 66 [.ptr q 0 0, .int .u64 want] H Q := by
  obtain ⟨V, S', T', Us, hu, hS⟩ := hS.un_jobU
  have hvl := hg.vl
  have hse := hm.se
  have hrl := rows_lenE (vs := c.vs) hu
  have hzl : (c.vs.zip Us).length = c.vs.length := by rw [List.length_zip]; omega
  have h0 : 0 ≤ atP m.vo c.vs := by
    by_cases h : atP m.vo c.vs < 0
    · rw [leafE, if_pos h] at he; exact absurd he (show ¬ (132 : Int) = 0 by decide)
    · omega
  refine CW_keep g66 F66 rfl ?_
  replace hS := Own.mono hS hle
  refine XW_sr ?_
  refine OW_as rfl rfl ?_
  refine OW_as rfl rfl ?_
  refine OW_as rfl rfl ?_
  refine EZ106_CK10 rfl ?_
  refine XW_sr ?_
  refine OW_mv rfl rfl ?_
  first
  | refine OW_nc rfl rfl ?_
  | refine OW_nce rfl rfl ?_
  refine OW_fa rfl rfl rfl ?_
  refine EN106_CK10 rfl ?_
  refine OW_loadR hS (k := 0) rfl rfl rfl rfl rfl (by first | exact part_whole rfl rfl rfl | rfl) ?_
  refine OW_mv rfl rfl ?_
  first
  | refine OW_nc rfl rfl ?_
  | refine OW_nce rfl rfl ?_
  refine EN106_CK10 rfl ?_
  refine OW_fa rfl rfl rfl ?_
  refine OW_fa rfl rfl rfl ?_
  refine OW_loadR hS (k := 0) rfl rfl rfl rfl rfl (by first | exact part_whole rfl rfl rfl | rfl) ?_
  refine EN106_CK10 rfl ?_
  refine OW_fn rfl rfl (ck_find (Own.st_fzU hS hu) (by omega) _ ?_) 
  refine OW_as rfl rfl ?_
  refine EZ106_CK10 rfl ?_
  refine XW_seq ?_
  refine XW_sr ?_
  generalize hat : atP m.vo c.vs = at0 at h0 ⊢
  refine OW_mv rfl rfl ?_
  refine OW_bin rfl rfl rfl rfl rfl ?_
  refine EZ106_CK10 rfl ?_
  refine XW_if rfl (fun h2 => ?_) (fun h2 => ?_)
  · exfalso; (try simp only [bs] at h2) <;> (omega)
  ·try simp only [bs] at h2
   refine XW_skip ?_
   refine then_norm ?_
   refine XW_sr ?_
   obtain ⟨i, hi, rfl, hvo⟩ := atP_some hat h2
   have hrow := rows_get (Us := Us) hu hi
   rw [show c.vs[i].row (Us[i]'(by omega)) = .agg [.int .u64 c.vs[i].vo, .int .u64 c.vs[i].tn, .int .u64 c.vs[i].ep, .int .i64 c.vs[i].de, Us[i]'(by omega)] from rfl] at hrow
   have hvg := hg.vg c.vs[i] (List.getElem_mem hi)
   have hde := hvg.de
   have hll := hvg.ll
   rw [leafE_at hat hi] at he hq
   have hck : (S.check key m.t m.vo c.vs[i].ep want).1 = 0 := by by_cases h : (S.check key m.t m.vo c.vs[i].ep want).1 ≠ 0; rw [if_pos h] at he; exact absurd he h; exact Classical.not_not.1 h
   rw [if_neg (by simpa using hck)] at he hq
   have hlt : m.se < (c.vs[i].lv.length : Int) := by by_cases h : (c.vs[i].lv.length : Int) ≤ m.se; rw [if_pos h] at he; exact absurd he (show ¬ (133 : Int) = 0 by decide); omega
   rw [if_neg (by omega)] at hq
   have hlt2 : m.se.toNat < c.vs[i].lv.length := by omega
   refine OW_mv rfl rfl ?_
   first
   | refine OW_nc rfl rfl ?_
   | refine OW_nce rfl rfl ?_
   refine OW_fa rfl rfl rfl ?_
   refine EN106_CK10 rfl ?_
   refine OW_fa rfl rfl rfl ?_
   refine OW_loadR hS (k := 0) rfl rfl rfl rfl rfl (by first | exact part_whole rfl rfl rfl | rfl) ?_
   refine OW_mv rfl rfl ?_
   refine EN106_CK10 rfl ?_
   refine OW_iaO hS (k := 1) rfl rfl rfl rfl rfl rfl rfl rfl (by first | rfl | exact (Int.toNat_of_nonneg (by omega)).symm) (by first | assumption | exact at_map (by first | assumption | omega) | exact at_lst (by omega) | rfl) fun q1 ys1 hO1 hq1 ht1 hy1 hu1 => ?_
   subst hO1
   refine OW_as rfl rfl ?_
   refine EZ106_CK10 rfl ?_
   refine XW_seq ?_
   refine XW_sr ?_
   refine OW_mv rfl rfl ?_
   first
   | refine OW_nc rfl rfl ?_
   | refine OW_nce rfl rfl ?_
   refine OW_fa rfl rfl rfl ?_
   refine EN106_CK10 rfl ?_
   refine OW_loadR hS (k := 0) rfl rfl rfl rfl rfl (by first | exact part_whole rfl rfl rfl | rfl) ?_
   refine OW_mv rfl rfl ?_
   first
   | refine OW_nc rfl rfl ?_
   | refine OW_nce rfl rfl ?_
   refine EN106_CK10 rfl ?_
   refine OW_fa rfl rfl rfl ?_
   refine OW_loadR hS (k := 0) rfl rfl rfl rfl rfl (by first | exact part_whole rfl rfl rfl | rfl) ?_
   refine OW_mv rfl rfl ?_
   refine EN106_CK10 rfl ?_
   first
   | refine OW_nc rfl rfl ?_
   | refine OW_nce rfl rfl ?_
   refine OW_fa rfl rfl rfl ?_
   refine OW_fa rfl rfl rfl ?_
   refine EN106_CK10 rfl ?_
   refine OW_loadR hS (k := 0) rfl rfl rfl rfl rfl (by first | exact part_whole rfl rfl rfl | rfl) ?_
   refine OW_mv rfl rfl ?_
   first
   | refine OW_nc rfl rfl ?_
   | refine OW_nce rfl rfl ?_
   refine EN106_CK10 rfl ?_
   refine OW_fa rfl rfl rfl ?_
   refine OW_fa rfl rfl rfl ?_
   refine OW_loadR hS (k := 0) rfl rfl rfl rfl rfl (by first | exact part_whole rfl rfl rfl | rfl) ?_
   refine EN106_CK10 rfl ?_
   refine OW_mv rfl rfl ?_
   first
   | refine OW_nc rfl rfl ?_
   | refine OW_nce rfl rfl ?_
   refine OW_fa rfl rfl rfl ?_
   refine EN106_CK10 rfl ?_
   refine OW_loadS hS (k := 1) rfl rfl rfl rfl (by first | assumption | exact at_map (by first | assumption | omega) | exact at_lst (by omega) | rfl) (by first | exact part_whole rfl rfl rfl | rfl) ?_
   refine OW_mv rfl rfl ?_
   refine OW_fn rfl rfl (checkW hS (k := 5) rfl (le_app (p := ν) (b := [23, 0, 0, 1, 1, 1, 1])) (under_app [23, 0, 0, 1, 1, 1, 1] hβ) (before_lit (ν := ν) (a := [23, 0, 0, 1, 1, 1, 1]) (b := [24, 0, 0, 1, 1, 1, 1]) (by decide)) key m.t hm.t m.vo c.vs[i].ep want fun H1 hS1 => ?_) 
   replace hS1 : Own _ _ _ (_ :: _ :: _ :: _ :: _ :: _ :: L) := hS1
   refine EN106_CK10 rfl ?_
   refine OW_as rfl rfl ?_
   refine EZ106_CK10 rfl ?_
   refine XW_sr ?_
   refine OW_mv rfl rfl ?_
   refine OW_bin rfl rfl rfl rfl rfl ?_
   refine EZ106_CK10 rfl ?_
   refine XW_if rfl (fun h6 => ?_) (fun h6 => ?_)
   · exfalso; (try simp only [bs] at h6) <;> (exact h6 hck)
   ·try simp only [bs] at h6
    refine XW_skip ?_
    refine then_norm ?_
    refine XW_seq ?_
    refine XW_sr ?_
    have hl16 := hvg.len
    replace hS1 := Own.job_lv hS1 hu hi
    obtain ⟨bU, hbU⟩ := Own.slcOf hS1 (k := 2) rfl (by rw [List.length_map]; omega)
    rw [hbU] at hS1 hrow
    refine OW_mv rfl rfl ?_
    first
    | refine OW_nc rfl rfl ?_
    | refine OW_nce rfl rfl ?_
    refine OW_fa rfl rfl rfl ?_
    refine EN106_CK10 rfl ?_
    refine OW_loadS hS1 (k := 1) rfl rfl rfl rfl (by first | assumption | exact at_map (by first | assumption | omega) | exact at_lst (by omega) | rfl) (by first | exact part_whole rfl rfl rfl | rfl) ?_
    refine OW_bin rfl rfl rfl rfl (ltFi (by omega)) ?_
    refine OW_mv rfl rfl ?_
    refine EN106_CK10 rfl ?_
    refine OW_mv rfl rfl ?_
    first
    | refine OW_nc rfl rfl ?_
    | refine OW_nce rfl rfl ?_
    refine OW_fa rfl rfl rfl ?_
    refine EN106_CK10 rfl ?_
    refine OW_loadS hS1 (k := 1) rfl rfl rfl rfl (by first | assumption | exact at_map (by first | assumption | omega) | exact at_lst (by omega) | rfl) (by first | exact part_whole rfl rfl rfl | rfl) ?_
    refine OW_bin rfl rfl rfl rfl (gtFi (by omega)) ?_
    refine OW_pick rfl rfl rfl ?_
    refine EN106_CK10 rfl ?_
    refine OW_mv rfl rfl ?_
    refine OW_mv rfl rfl ?_
    first
    | refine OW_nc rfl rfl ?_
    | refine OW_nce rfl rfl ?_
    refine EN106_CK10 rfl ?_
    refine OW_fa rfl rfl rfl ?_
    refine OW_fa rfl rfl rfl ?_
    refine OW_loadR hS1 (k := 0) rfl rfl rfl rfl rfl (by first | exact part_whole rfl rfl rfl | rfl) ?_
    refine EN106_CK10 rfl ?_
    refine OW_mv rfl rfl ?_
    first
    | refine OW_nc rfl rfl ?_
    | refine OW_nce rfl rfl ?_
    refine OW_fa rfl rfl rfl ?_
    refine EN106_CK10 rfl ?_
    refine OW_loadS hS1 (k := 1) rfl rfl rfl rfl (by first | assumption | exact at_map (by first | assumption | omega) | exact at_lst (by omega) | rfl) (by first | exact part_whole rfl rfl rfl | rfl) ?_
    refine OW_bin rfl rfl rfl rfl (shl_pow hde) ?_
    refine OW_bin rfl rfl rfl rfl (geFu (by omega)) ?_
    refine EN106_CK10 rfl ?_
    refine OW_pick rfl rfl rfl ?_
    refine OW_mv rfl rfl ?_
    refine OW_mv rfl rfl ?_
    refine EN106_CK10 rfl ?_
    first
    | refine OW_nc rfl rfl ?_
    | refine OW_nce rfl rfl ?_
    refine OW_fa rfl rfl rfl ?_
    refine OW_fa rfl rfl rfl ?_
    refine EN106_CK10 rfl ?_
    refine OW_loadR hS1 (k := 0) rfl rfl rfl rfl rfl (by first | exact part_whole rfl rfl rfl | rfl) ?_
    refine OW_mv rfl rfl ?_
    first
    | refine OW_nc rfl rfl ?_
    | refine OW_nce rfl rfl ?_
    refine EN106_CK10 rfl ?_
    refine OW_fa rfl rfl rfl ?_
    refine OW_loadS hS1 (k := 1) rfl rfl rfl rfl (by first | assumption | exact at_map (by first | assumption | omega) | exact at_lst (by omega) | rfl) (by first | exact part_whole rfl rfl rfl | rfl) ?_
    refine OW_lenO hS1 (k := 2) rfl rfl rfl rfl rfl rfl (by first | exact List.length_map _ | exact len_app1 | exact len_drop | (simp only [ss]; rfl) | rfl) ?_
    refine EN106_CK10 rfl ?_
    first
    | refine OW_conv rfl rfl (conv_in rfl rfl rfl (IntWalk.u64_in _ (by omega))) ?_
    | refine OW_conv rfl rfl rfl ?_
    refine OW_bin rfl rfl rfl rfl (geFu (by omega)) ?_
    refine OW_pick rfl rfl rfl ?_
    refine EZ106_CK10 rfl ?_
    refine XW_no rfl rfl ?_
    refine XW_skip ?_
    refine then_norm ?_
    refine XW_sr ?_
    refine OW_mv rfl rfl ?_
    first
    | refine OW_nc rfl rfl ?_
    | refine OW_nce rfl rfl ?_
    refine OW_fa rfl rfl rfl ?_
    refine EN106_CK10 rfl ?_
    refine OW_loadS hS1 (k := 1) rfl rfl rfl rfl (by first | assumption | exact at_map (by first | assumption | omega) | exact at_lst (by omega) | rfl) (by first | exact part_whole rfl rfl rfl | rfl) ?_
    refine OW_mv rfl rfl ?_
    first
    | refine OW_nc rfl rfl ?_
    | refine OW_nce rfl rfl ?_
    refine EN106_CK10 rfl ?_
    refine OW_fa rfl rfl rfl ?_
    refine OW_fa rfl rfl rfl ?_
    refine OW_loadR hS1 (k := 0) rfl rfl rfl rfl rfl (by first | exact part_whole rfl rfl rfl | rfl) ?_
    refine EN106_CK10 rfl ?_
    refine OW_iaO hS1 (k := 2) rfl rfl rfl rfl rfl rfl rfl rfl (by first | rfl | exact (Int.toNat_of_nonneg (by omega)).symm) (by first | assumption | exact at_map (by first | assumption | omega) | exact at_lst (by omega) | rfl) fun q2 ys2 hO2 hq2 ht2 hy2 hu2 => ?_
    obtain rfl : bU = q2 := (AVal.slc.inj hO2).1
    refine OW_mv rfl rfl ?_
    refine OW_as rfl rfl ?_
    refine EN106_CK10 rfl ?_
    refine OW_as rfl rfl ?_
    refine OW_as rfl rfl ?_
    refine EZ106_CK10 rfl ?_
    refine XW_ret ?_
    refine ret_ret (res3 rfl (rv_tmp rfl) (rv_tmp rfl) (rv_tmp rfl)) ?_
    exact hq _ _ _ _ _ _ _ hu hi hat hlt2 hbU (Own.mono hS1 (le_bef (bef_app (a := [24, 0, 0, 1, 1, 1, 1]) hp)))
end Go.Proofs.Ytfkgdlfponfimaa.X
/- Layer 13: a job's put, get, trim. -/
set_option linter.unusedVariables false
set_option linter.unusedSimpArgs false
set_option maxRecDepth 100000
namespace Go.Proofs.Ytfkgdlfponfimaa.X
open Go Go.RowKit WM
theorem EN46_CK11 {c : Cfg} {ν : Nm} {e : Env} {H : Heap} {all : Array Oper} {r : List Oper} {i : Nat} {Q : Env → Heap → Prop} {x0 x1 x2 x3 x4 x5 x6 x7 x8 x9 x10 x11 x12 x13 x14 x15 x16 x17 x18 x19 x20 x21 x22 x23 x24 x25 x26 x27 x28 x29 x30 x31 x32 x33 x34 x35 x36 x37 x38 x39 x40 x41 x42 x43 x44 x45 : AVal} (he : e = [x0,x1,x2,x3,x4,x5,x6,x7,x8,x9,x10,x11,x12,x13,x14,x15,x16,x17,x18,x19,x20,x21,x22,x23,x24,x25,x26,x27,x28,x29,x30,x31,x32,x33,x34,x35,x36,x37,x38,x39,x40,x41,x42,x43,x44,x45]) (h : OW c ν all r i [x0,x1,x2,x3,x4,x5,x6,x7,x8,x9,x10,x11,x12,x13,x14,x15,x16,x17,x18,x19,x20,x21,x22,x23,x24,x25,x26,x27,x28,x29,x30,x31,x32,x33,x34,x35,x36,x37,x38,x39,x40,x41,x42,x43,x44,x45] H Q) : OW c ν all r i e H Q := by subst he; exact h
theorem EN67_CK11 {c : Cfg} {ν : Nm} {e : Env} {H : Heap} {all : Array Oper} {r : List Oper} {i : Nat} {Q : Env → Heap → Prop} {x0 x1 x2 x3 x4 x5 x6 x7 x8 x9 x10 x11 x12 x13 x14 x15 x16 x17 x18 x19 x20 x21 x22 x23 x24 x25 x26 x27 x28 x29 x30 x31 x32 x33 x34 x35 x36 x37 x38 x39 x40 x41 x42 x43 x44 x45 x46 x47 x48 x49 x50 x51 x52 x53 x54 x55 x56 x57 x58 x59 x60 x61 x62 x63 x64 x65 x66 : AVal} (he : e = [x0,x1,x2,x3,x4,x5,x6,x7,x8,x9,x10,x11,x12,x13,x14,x15,x16,x17,x18,x19,x20,x21,x22,x23,x24,x25,x26,x27,x28,x29,x30,x31,x32,x33,x34,x35,x36,x37,x38,x39,x40,x41,x42,x43,x44,x45,x46,x47,x48,x49,x50,x51,x52,x53,x54,x55,x56,x57,x58,x59,x60,x61,x62,x63,x64,x65,x66]) (h : OW c ν all r i [x0,x1,x2,x3,x4,x5,x6,x7,x8,x9,x10,x11,x12,x13,x14,x15,x16,x17,x18,x19,x20,x21,x22,x23,x24,x25,x26,x27,x28,x29,x30,x31,x32,x33,x34,x35,x36,x37,x38,x39,x40,x41,x42,x43,x44,x45,x46,x47,x48,x49,x50,x51,x52,x53,x54,x55,x56,x57,x58,x59,x60,x61,x62,x63,x64,x65,x66] H Q) : OW c ν all r i e H Q := by subst he; exact h
theorem EZ19_CK11 {c : Cfg} {ν : Nm} {e : Env} {H : Heap} {all : Array Oper} {i : Nat} {Q : Env → Heap → Prop} {x0 x1 x2 x3 x4 x5 x6 x7 x8 x9 x10 x11 x12 x13 x14 x15 x16 x17 x18 : AVal} (he : e = [x0,x1,x2,x3,x4,x5,x6,x7,x8,x9,x10,x11,x12,x13,x14,x15,x16,x17,x18]) (h : Q [x0,x1,x2,x3,x4,x5,x6,x7,x8,x9,x10,x11,x12,x13,x14,x15,x16,x17,x18] H) : OW c ν all [] i e H Q := by subst he; exact OW_nil h
theorem EZ46_CK11 {c : Cfg} {ν : Nm} {e : Env} {H : Heap} {all : Array Oper} {i : Nat} {Q : Env → Heap → Prop} {x0 x1 x2 x3 x4 x5 x6 x7 x8 x9 x10 x11 x12 x13 x14 x15 x16 x17 x18 x19 x20 x21 x22 x23 x24 x25 x26 x27 x28 x29 x30 x31 x32 x33 x34 x35 x36 x37 x38 x39 x40 x41 x42 x43 x44 x45 : AVal} (he : e = [x0,x1,x2,x3,x4,x5,x6,x7,x8,x9,x10,x11,x12,x13,x14,x15,x16,x17,x18,x19,x20,x21,x22,x23,x24,x25,x26,x27,x28,x29,x30,x31,x32,x33,x34,x35,x36,x37,x38,x39,x40,x41,x42,x43,x44,x45]) (h : Q [x0,x1,x2,x3,x4,x5,x6,x7,x8,x9,x10,x11,x12,x13,x14,x15,x16,x17,x18,x19,x20,x21,x22,x23,x24,x25,x26,x27,x28,x29,x30,x31,x32,x33,x34,x35,x36,x37,x38,x39,x40,x41,x42,x43,x44,x45] H) : OW c ν all [] i e H Q := by subst he; exact OW_nil h
theorem EZ67_CK11 {c : Cfg} {ν : Nm} {e : Env} {H : Heap} {all : Array Oper} {i : Nat} {Q : Env → Heap → Prop} {x0 x1 x2 x3 x4 x5 x6 x7 x8 x9 x10 x11 x12 x13 x14 x15 x16 x17 x18 x19 x20 x21 x22 x23 x24 x25 x26 x27 x28 x29 x30 x31 x32 x33 x34 x35 x36 x37 x38 x39 x40 x41 x42 x43 x44 x45 x46 x47 x48 x49 x50 x51 x52 x53 x54 x55 x56 x57 x58 x59 x60 x61 x62 x63 x64 x65 x66 : AVal} (he : e = [x0,x1,x2,x3,x4,x5,x6,x7,x8,x9,x10,x11,x12,x13,x14,x15,x16,x17,x18,x19,x20,x21,x22,x23,x24,x25,x26,x27,x28,x29,x30,x31,x32,x33,x34,x35,x36,x37,x38,x39,x40,x41,x42,x43,x44,x45,x46,x47,x48,x49,x50,x51,x52,x53,x54,x55,x56,x57,x58,x59,x60,x61,x62,x63,x64,x65,x66]) (h : Q [x0,x1,x2,x3,x4,x5,x6,x7,x8,x9,x10,x11,x12,x13,x14,x15,x16,x17,x18,x19,x20,x21,x22,x23,x24,x25,x26,x27,x28,x29,x30,x31,x32,x33,x34,x35,x36,x37,x38,x39,x40,x41,x42,x43,x44,x45,x46,x47,x48,x49,x50,x51,x52,x53,x54,x55,x56,x57,x58,x59,x60,x61,x62,x63,x64,x65,x66] H) : OW c ν all [] i e H Q := by subst he; exact OW_nil h
variable {ν β ps pos pos' : Nm} {H H1 : Heap} {Q : AVal → Heap → Prop} {L : List Asr} {k : Nat} {S : Rf} {c : Ck} {q qo : Nm} {key want : Int} {m : Cm}
theorem long_c {s : ByteArray} (hq : Q (.bool (decide (64 < s.size))) H) : CW cfg ν 39 [.str s] H Q := by
  refine CW_pure g39 F39 rfl ?_
  refine XW_sr ?_
  refine OW_as rfl rfl ?_
  refine OW_nilE (e' := [_,_,_,_,_,_]) rfl ?_
  refine XW_sr ?_
  refine OW_mv rfl rfl ?_
  refine OW_lenS rfl rfl rfl ?_
  refine OW_bin rfl rfl rfl rfl rfl ?_
  refine OW_env (e' := [_,_,_,_,_,_]) rfl ?_
  refine OW_as rfl rfl ?_
  refine OW_nilE (e' := [_,_,_,_,_,_]) rfl ?_
  refine XW_ret ?_
  refine ret_ret (res1 rfl (rv_tmp rfl)) (frz1 (Q := Q) (by first | exact freeze_plain rfl | exact Ls.freeze (by assumption) | exact Ls.freeze Ls.of | exact Ls.freeze Ls.emp | exact Ls.freeze Ls.nls) ?_)
  refine qcast hq ?_; congr 1; exact decide_eq_decide.2 (by simp only [gt_iff_lt]; omega)
theorem Own.mk_jobL {V S T U : AVal} {Us : List AVal} {i j : Nat} {s : ByteArray} {qs : List Qu} (hu : Us.length = c.vs.length) (hi : i < c.vs.length) (he : Us[i]'(by omega) = U) (h : Own β ps H (jrow q qo key V S T m :: sl V 5 (rowsOf Us c.vs) :: sl U 1 ((c.vs[i].lv.map AVal.str).set j (.str s)) :: lvX i Us c.vs :: sl S 3 (c.ss.map SE.Se.enc) :: sl T 3 (qs.map Qu.enc) :: L)) : Own β ps H (jobO q qo key ⟨c.vs.set i { c.vs[i] with lv := c.vs[i].lv.set j s }, c.ss, qs⟩ m :: L) := by
  subst he
  rw [show (c.vs[i].lv.map AVal.str).set j (.str s) = (c.vs[i].lv.set j s).map AVal.str from (List.map_set).symm] at h
  have h1 := Own.job_lvB (y := { c.vs[i] with lv := c.vs[i].lv.set j s }) h hu hi
  rw [← rows_lv (l := c.vs[i].lv.set j s) hu hi] at h1
  exact Own.mk_jobU (c := ⟨c.vs.set i { c.vs[i] with lv := c.vs[i].lv.set j s }, c.ss, qs⟩) h1 (by rw [hu]; simp)
theorem Own.mk_jobK {V S T U : AVal} {Us : List AVal} {i : Nat} {qs : List Qu} (hu : Us.length = c.vs.length) (hi : i < c.vs.length) (he : Us[i]'(by omega) = U) (h : Own β ps H (jrow q qo key V S T m :: sl V 5 (rowsOf Us c.vs) :: sl U 1 (c.vs[i].lv.map AVal.str) :: lvX i Us c.vs :: sl S 3 (c.ss.map SE.Se.enc) :: sl T 3 (qs.map Qu.enc) :: L)) : Own β ps H (jobO q qo key ⟨c.vs, c.ss, qs⟩ m :: L) := by
  subst he
  have h1 := Own.job_lvB (y := c.vs[i]) h hu hi
  rw [List.set_getElem_self] at h1
  exact Own.mk_jobU (c := ⟨c.vs, c.ss, qs⟩) h1 hu
theorem old_at {i : Nat} (h : atP m.vo c.vs = i) (hi : i < c.vs.length) (hl : m.se.toNat < c.vs[i].lv.length) : c.old m = c.vs[i].lv[m.se.toNat] := by
  unfold Ck.old; rw [at_eq h hi]; simp [List.getD_eq_getElem?_getD, hl]
theorem setL_at {i : Nat} {s : ByteArray} (h : atP m.vo c.vs = i) (hi : i < c.vs.length) : c.setL m s = ⟨c.vs.set i { c.vs[i] with lv := c.vs[i].lv.set m.se.toNat s }, c.ss, c.qs⟩ := by
  unfold Ck.setL; rw [at_eq h hi, setV_eq h]
theorem put_err (hg : c.good) (hm : m.fit) (he : (leafE S key c m 2).1 ≠ 0) (hS : Own β ps H (jobO q qo key c m :: orc qo S.of :: L)) (hle : le ps ν) (hβ : under β ν = true) (hp : before ν pos')
    (hq : ∀ H1, Own β pos' H1 (jobO q qo key c m :: orc qo (leafE S key c m 2).2.of :: L) → Q (.tup [.str ⟨#[]⟩, .int .i64 (leafE S key c m 2).1]) H1) : CW cfg ν 29 [.ptr q 0 0] H Q := by
  refine CW_keep g29 F29 rfl ?_
  replace hS := Own.mono hS hle
  refine XW_sr ?_
  refine OW_as rfl rfl ?_
  refine OW_as rfl rfl ?_
  refine EZ67_CK11 rfl ?_
  refine XW_sr ?_
  refine OW_mv rfl rfl ?_
  refine OW_fn rfl rfl (leaf_err hg hm he hS (le_app (p := ν) (b := [1, 0, 1])) (under_app [1, 0, 1] hβ) (before_lit (ν := ν) (a := [1, 0, 1]) (b := [2, 0, 1]) (by decide)) fun H1 hS1 => ?_) 
  replace hS1 : Own _ _ _ (_ :: _ :: L) := hS1
  refine OW_mv rfl rfl ?_
  refine EN67_CK11 rfl ?_
  refine OW_ex rfl rfl rfl ?_
  refine OW_ex rfl rfl rfl ?_
  refine OW_ex rfl rfl rfl ?_
  refine EN67_CK11 rfl ?_
  refine OW_as rfl rfl ?_
  refine OW_as rfl rfl ?_
  refine OW_as rfl rfl ?_
  refine EZ67_CK11 rfl ?_
  refine XW_seq ?_
  refine XW_block ?_
  refine XW_sr ?_
  refine OW_mv rfl rfl ?_
  refine OW_bin rfl rfl rfl rfl rfl ?_
  refine OW_as rfl rfl ?_
  refine EZ67_CK11 rfl ?_
  refine XW_if rfl (fun h2 => ?_) (fun h2 => ?_)
  ·try simp only [bs] at h2
   refine XW_sr ?_
   refine OW_mv rfl rfl ?_
   refine OW_as rfl rfl ?_
   refine OW_as rfl rfl ?_
   refine EZ67_CK11 rfl ?_
   refine XW_ret ?_
   refine block_ret ?_
   refine then_ret ?_
   refine ret_ret (res2 rfl (rv_tmp rfl) (rv_tmp rfl)) ?_
   exact hq _ (Own.mono hS1 (le_bef (bef_app (a := [2, 0, 1]) hp)))
  · exfalso; (try simp only [bs] at h2) <;> (exact absurd h2 he)
theorem get_err (hg : c.good) (hm : m.fit) (he : (leafE S key c m 1).1 ≠ 0) (hS : Own β ps H (jobO q qo key c m :: orc qo S.of :: L)) (hle : le ps ν) (hβ : under β ν = true) (hp : before ν pos')
    (hq : ∀ H1, Own β pos' H1 (jobO q qo key c m :: orc qo (leafE S key c m 1).2.of :: L) → Q (.tup [.str ⟨#[]⟩, .int .i64 (leafE S key c m 1).1]) H1) : CW cfg ν 30 [.ptr q 0 0] H Q := by
  refine CW_keep g30 F30 rfl ?_
  replace hS := Own.mono hS hle
  refine XW_sr ?_
  refine OW_as rfl rfl ?_
  refine OW_as rfl rfl ?_
  refine EZ19_CK11 rfl ?_
  refine XW_sr ?_
  refine OW_mv rfl rfl ?_
  refine OW_fn rfl rfl (leaf_err hg hm he hS (le_app (p := ν) (b := [1, 0, 1])) (under_app [1, 0, 1] hβ) (before_lit (ν := ν) (a := [1, 0, 1]) (b := [2, 0, 1]) (by decide)) fun H1 hS1 => ?_) 
  replace hS1 : Own _ _ _ (_ :: _ :: L) := hS1
  refine OW_mv rfl rfl ?_
  refine OW_env (e' := [_,_,_,_,_,_,_,_,_,_,_,_,_,_,_,_,_,_,_]) rfl ?_
  refine OW_ex rfl rfl rfl ?_
  refine OW_ex rfl rfl rfl ?_
  refine OW_ex rfl rfl rfl ?_
  refine OW_env (e' := [_,_,_,_,_,_,_,_,_,_,_,_,_,_,_,_,_,_,_]) rfl ?_
  refine OW_as rfl rfl ?_
  refine OW_as rfl rfl ?_
  refine OW_as rfl rfl ?_
  refine EZ19_CK11 rfl ?_
  refine XW_seq ?_
  refine XW_sr ?_
  refine OW_mv rfl rfl ?_
  refine OW_bin rfl rfl rfl rfl rfl ?_
  refine EZ19_CK11 rfl ?_
  refine XW_if rfl (fun h2 => ?_) (fun h2 => ?_)
  ·try simp only [bs] at h2
   refine XW_sr ?_
   refine OW_mv rfl rfl ?_
   refine OW_as rfl rfl ?_
   refine OW_as rfl rfl ?_
   refine EZ19_CK11 rfl ?_
   refine XW_ret ?_
   refine then_ret ?_
   refine ret_ret (res2 rfl (rv_tmp rfl) (rv_tmp rfl)) ?_
   exact hq _ (Own.mono hS1 (le_bef (bef_app (a := [2, 0, 1]) hp)))
  · exfalso; (try simp only [bs] at h2) <;> (exact absurd h2 he)
theorem neT0 {T : TT} {t : TypeId} {a : Int} (h : a ≠ 0) : aBin T .neq t (.int .i64 a) (.int .i64 0) = some (.bool true) := by
  simp only [aBin, aIntB, aInt]; simp [h]
theorem trim_err (hg : c.good) (hm : m.fit) (he : (leafE S key c m 2).1 ≠ 0) (hS : Own β ps H (jobO q qo key c m :: orc qo S.of :: L)) (hle : le ps ν) (hβ : under β ν = true) (hp : before ν pos')
    (hq : ∀ H1, Own β pos' H1 (jobO q qo key c m :: orc qo (leafE S key c m 2).2.of :: L) → Q (.tup [.str ⟨#[]⟩, .int .i64 (leafE S key c m 2).1]) H1) : CW cfg ν 31 [.ptr q 0 0] H Q := by
  refine CW_keep g31 F31 rfl ?_
  replace hS := Own.mono hS hle
  refine XW_sr ?_
  refine OW_as rfl rfl ?_
  refine OW_as rfl rfl ?_
  refine EZ46_CK11 rfl ?_
  refine XW_sr ?_
  refine OW_mv rfl rfl ?_
  refine OW_fn rfl rfl (leaf_err hg hm he hS (le_app (p := ν) (b := [1, 0, 1])) (under_app [1, 0, 1] hβ) (before_lit (ν := ν) (a := [1, 0, 1]) (b := [2, 0, 1]) (by decide)) fun H1 hS1 => ?_) 
  replace hS1 : Own _ _ _ (_ :: _ :: L) := hS1
  refine OW_mv rfl rfl ?_
  refine EN46_CK11 rfl ?_
  refine OW_ex rfl rfl rfl ?_
  refine OW_ex rfl rfl rfl ?_
  refine OW_ex rfl rfl rfl ?_
  refine EN46_CK11 rfl ?_
  refine OW_as rfl rfl ?_
  refine OW_as rfl rfl ?_
  refine OW_as rfl rfl ?_
  refine EZ46_CK11 rfl ?_
  refine XW_seq ?_
  refine XW_sr ?_
  refine OW_mv rfl rfl ?_
  refine OW_bin rfl rfl rfl rfl (neT0 he) ?_
  refine OW_mv rfl rfl ?_
  refine EN46_CK11 rfl ?_
  refine OW_no rfl ?_
  refine OW_no rfl ?_
  refine OW_no rfl ?_
  refine EN46_CK11 rfl ?_
  refine OW_no rfl ?_
  refine OW_pick rfl rfl rfl ?_
  refine EZ46_CK11 rfl ?_
  refine XW_yes rfl rfl ?_
  refine XW_sr ?_
  refine OW_mv rfl rfl ?_
  refine OW_as rfl rfl ?_
  refine OW_as rfl rfl ?_
  refine EZ46_CK11 rfl ?_
  refine XW_ret ?_
  refine then_ret ?_
  refine ret_ret (res2 rfl (rv_tmp rfl) (rv_tmp rfl)) ?_
  exact hq _ (Own.mono hS1 (le_bef (bef_app (a := [2, 0, 1]) hp)))
theorem get_ok (hg : c.good) (hm : m.fit) (he : (leafE S key c m 1).1 = 0) (hS : Own β ps H (jobO q qo key c m :: orc qo S.of :: L)) (hle : le ps ν) (hβ : under β ν = true) (hp : before ν pos')
    (hq : ∀ H1, Own β pos' H1 (jobO q qo key c m :: orc qo (leafE S key c m 1).2.of :: L) → Q (.tup [.str (c.old m), .int .i64 0]) H1) : CW cfg ν 30 [.ptr q 0 0] H Q := by
  refine CW_keep g30 F30 rfl ?_
  replace hS := Own.mono hS hle
  refine XW_sr ?_
  refine OW_as rfl rfl ?_
  refine OW_as rfl rfl ?_
  refine EZ19_CK11 rfl ?_
  refine XW_sr ?_
  refine OW_mv rfl rfl ?_
  refine OW_fn rfl rfl (leaf_ok hg hm he hS (le_app (p := ν) (b := [1, 0, 1])) (under_app [1, 0, 1] hβ) (before_lit (ν := ν) (a := [1, 0, 1]) (b := [2, 0, 1]) (by decide)) fun H1 Us i bV bU S' T' hu hi hat hlt hbU hS1 => ?_) 
  replace hS1 : Own _ _ _ (_ :: _ :: _ :: _ :: _ :: _ :: _ :: L) := hS1
  refine OW_mv rfl rfl ?_
  refine OW_env (e' := [_,_,_,_,_,_,_,_,_,_,_,_,_,_,_,_,_,_,_]) rfl ?_
  refine OW_ex rfl rfl rfl ?_
  refine OW_ex rfl rfl rfl ?_
  refine OW_ex rfl rfl rfl ?_
  refine OW_env (e' := [_,_,_,_,_,_,_,_,_,_,_,_,_,_,_,_,_,_,_]) rfl ?_
  refine OW_as rfl rfl ?_
  refine OW_as rfl rfl ?_
  refine OW_as rfl rfl ?_
  refine EZ19_CK11 rfl ?_
  refine XW_seq ?_
  refine XW_sr ?_
  refine OW_mv rfl rfl ?_
  refine OW_bin rfl rfl rfl rfl rfl ?_
  refine EZ19_CK11 rfl ?_
  refine XW_if rfl (fun h2 => ?_) (fun h2 => ?_)
  · exfalso; (try simp only [bs] at h2) <;> (exact h2 trivial)
  ·try simp only [bs] at h2
   refine XW_skip ?_
   refine then_norm ?_
   refine XW_sr ?_
   refine OW_mv rfl rfl ?_
   first
   | refine OW_nc rfl rfl ?_
   | refine OW_nce rfl rfl ?_
   refine OW_loadS hS1 (k := 2) rfl rfl rfl rfl (by first | assumption | exact at_map (by first | assumption | omega) | exact at_lst (by omega) | rfl) (by first | exact part_whole rfl rfl rfl | rfl) ?_
   refine OW_env (e' := [_,_,_,_,_,_,_,_,_,_,_,_,_,_,_,_,_,_,_]) rfl ?_
   refine OW_as rfl rfl ?_
   refine OW_as rfl rfl ?_
   refine EZ19_CK11 rfl ?_
   refine XW_ret ?_
   refine ret_ret (res2 rfl (rv_tmp rfl) (rv_tmp rfl)) ?_
   rw [old_at hat hi hlt] at hq; exact hq _ (Own.mk_jobK hu hi hbU (Own.mono hS1 (le_bef (bef_app (a := [2, 0, 1]) hp))))
theorem put_ok (hg : c.good) (hm : m.fit) (he : (leafE S key c m 2).1 = 0) (hS : Own β ps H (jobO q qo key c m :: orc qo S.of :: L)) (hle : le ps ν) (hβ : under β ν = true) (hp : before ν pos')
    (hq : ∀ H1, Own β pos' H1 (jobO q qo key (putR c m).c m :: orc qo (leafE S key c m 2).2.of :: L) → Q (.tup [.str (putR c m).an, .int .i64 (putR c m).e]) H1) : CW cfg ν 29 [.ptr q 0 0] H Q := by
  have hql := hg.ql
  refine CW_keep g29 F29 rfl ?_
  replace hS := Own.mono hS hle
  refine XW_sr ?_
  refine OW_as rfl rfl ?_
  refine OW_as rfl rfl ?_
  refine EZ67_CK11 rfl ?_
  refine XW_sr ?_
  refine OW_mv rfl rfl ?_
  refine OW_fn rfl rfl (leaf_ok hg hm he hS (le_app (p := ν) (b := [1, 0, 1])) (under_app [1, 0, 1] hβ) (before_lit (ν := ν) (a := [1, 0, 1]) (b := [2, 0, 1]) (by decide)) fun H1 Us i bV bU S' T' hu hi hat hlt hbU hS1 => ?_) 
  replace hS1 : Own _ _ _ (_ :: _ :: _ :: _ :: _ :: _ :: _ :: L) := hS1
  refine OW_mv rfl rfl ?_
  refine EN67_CK11 rfl ?_
  refine OW_ex rfl rfl rfl ?_
  refine OW_ex rfl rfl rfl ?_
  refine OW_ex rfl rfl rfl ?_
  refine EN67_CK11 rfl ?_
  refine OW_as rfl rfl ?_
  refine OW_as rfl rfl ?_
  refine OW_as rfl rfl ?_
  refine EZ67_CK11 rfl ?_
  refine XW_seq ?_
  refine XW_block ?_
  refine XW_sr ?_
  have hrow := rows_get (Us := Us) hu hi
  rw [show c.vs[i].row (Us[i]'(by omega)) = .agg [.int .u64 c.vs[i].vo, .int .u64 c.vs[i].tn, .int .u64 c.vs[i].ep, .int .i64 c.vs[i].de, Us[i]'(by omega)] from rfl] at hrow
  have hold := old_at hat hi hlt
  have hatc := at_eq hat hi
  refine OW_mv rfl rfl ?_
  refine OW_bin rfl rfl rfl rfl rfl ?_
  refine OW_as rfl rfl ?_
  refine EZ67_CK11 rfl ?_
  refine XW_if rfl (fun h2 => ?_) (fun h2 => ?_)
  · exfalso; (try simp only [bs] at h2) <;> (exact h2 trivial)
  ·try simp only [bs] at h2
   refine XW_sr ?_
   refine OW_mv rfl rfl ?_
   first
   | refine OW_nc rfl rfl ?_
   | refine OW_nce rfl rfl ?_
   refine OW_fa rfl rfl rfl ?_
   refine EN67_CK11 rfl ?_
   refine OW_fa rfl rfl rfl ?_
   refine OW_loadR hS1 (k := 0) rfl rfl rfl rfl rfl (by first | exact part_whole rfl rfl rfl | rfl) ?_
   refine OW_fn rfl rfl (long_c ?_) 
   refine EN67_CK11 rfl ?_
   refine OW_mv rfl rfl ?_
   refine OW_split (tt := 26) rfl (fun g4_7 => ?_) (fun g4_7 => ?_)
   ·try simp only [bs] at g4_7
    refine OW_no rfl ?_
    refine EN67_CK11 rfl ?_
    refine OW_no rfl ?_
    refine OW_no rfl ?_
    refine OW_no rfl ?_
    refine EN67_CK11 rfl ?_
    refine OW_no rfl ?_
    refine OW_no rfl ?_
    refine OW_pick rfl rfl rfl ?_
    refine EN67_CK11 rfl ?_
    refine OW_as rfl rfl ?_
    refine EZ67_CK11 rfl ?_
    refine XW_yes rfl rfl ?_
    refine XW_sr ?_
    refine OW_as rfl rfl ?_
    refine OW_as rfl rfl ?_
    refine EZ67_CK11 rfl ?_
    refine XW_ret ?_
    refine block_ret ?_
    refine then_ret ?_
    refine ret_ret (res2 rfl (rv_tmp rfl) (rv_tmp rfl)) ?_
    rw [putR, if_pos (.inl (by assumption))] at hq; exact hq _ (Own.mk_jobK (c := c) hu hi hbU (Own.mono hS1 (le_bef (bef_app (a := [2, 0, 1]) hp))))
   ·try simp only [bs] at g4_7
    refine OW_mv rfl rfl ?_
    refine EN67_CK11 rfl ?_
    first
    | refine OW_nc rfl rfl ?_
    | refine OW_nce rfl rfl ?_
    refine OW_fa rfl rfl rfl ?_
    refine OW_fa rfl rfl rfl ?_
    refine EN67_CK11 rfl ?_
    refine OW_loadR hS1 (k := 0) rfl rfl rfl rfl rfl (by first | exact part_whole rfl rfl rfl | rfl) ?_
    refine OW_bin rfl rfl rfl rfl rfl ?_
    refine OW_pick rfl rfl rfl ?_
    refine EN67_CK11 rfl ?_
    refine OW_as rfl rfl ?_
    refine EZ67_CK11 rfl ?_
    refine XW_if rfl (fun h4 => ?_) (fun h4 => ?_)
    ·try simp only [bs] at h4
     refine XW_sr ?_
     refine OW_as rfl rfl ?_
     refine OW_as rfl rfl ?_
     refine EZ67_CK11 rfl ?_
     refine XW_ret ?_
     refine block_ret ?_
     refine then_ret ?_
     refine ret_ret (res2 rfl (rv_tmp rfl) (rv_tmp rfl)) ?_
     rw [putR, if_pos (.inr (by assumption))] at hq; exact hq _ (Own.mk_jobK (c := c) hu hi hbU (Own.mono hS1 (le_bef (bef_app (a := [2, 0, 1]) hp))))
    ·try simp only [bs] at h4
     refine XW_sr ?_
     refine OW_mv rfl rfl ?_
     first
     | refine OW_nc rfl rfl ?_
     | refine OW_nce rfl rfl ?_
     refine OW_loadS hS1 (k := 2) rfl rfl rfl rfl (by first | assumption | exact at_map (by first | assumption | omega) | exact at_lst (by omega) | rfl) (by first | exact part_whole rfl rfl rfl | rfl) ?_
     refine EN67_CK11 rfl ?_
     refine OW_bin rfl rfl rfl rfl rfl ?_
     refine OW_as rfl rfl ?_
     refine EZ67_CK11 rfl ?_
     refine XW_if rfl (fun h6 => ?_) (fun h6 => ?_)
     ·try simp only [bs] at h6
      refine XW_sr ?_
      refine OW_mv rfl rfl ?_
      first
      | refine OW_nc rfl rfl ?_
      | refine OW_nce rfl rfl ?_
      refine OW_fa rfl rfl rfl ?_
      refine EN67_CK11 rfl ?_
      refine OW_fa rfl rfl rfl ?_
      refine OW_loadR hS1 (k := 0) rfl rfl rfl rfl rfl (by first | exact part_whole rfl rfl rfl | rfl) ?_
      refine OW_mv rfl rfl ?_
      refine EN67_CK11 rfl ?_
      first
      | refine OW_nc rfl rfl ?_
      | refine OW_nce rfl rfl ?_
      refine OW_fa rfl rfl rfl ?_
      refine OW_loadS hS1 (k := 1) rfl rfl rfl rfl (by first | assumption | exact at_map (by first | assumption | omega) | exact at_lst (by omega) | rfl) (by first | exact part_whole rfl rfl rfl | rfl) ?_
      refine EN67_CK11 rfl ?_
      refine OW_fn rfl rfl (pTakeK hS1 (k := 5) rfl (le_lit (ν := ν) (a := [2, 0, 1]) (b := [9, 0, 1, 1, 1, 0, 1, 1]) (by decide)) (under_app [9, 0, 1, 1, 1, 0, 1, 1] hβ) (before_lit (ν := ν) (a := [9, 0, 1, 1, 1, 0, 1, 1]) (b := [10, 0, 1, 1, 1, 0, 1, 1]) (by decide)) (by omega) hg.qf _ _ (by omega) fun H2 O1 hS2 => ?_) 
      replace hS2 : Own _ _ _ (_ :: _ :: _ :: _ :: _ :: _ :: _ :: _ :: L) := hS2
      refine OW_mv rfl rfl ?_
      refine OW_ex rfl rfl rfl ?_
      refine EN67_CK11 rfl ?_
      refine OW_ex rfl rfl rfl ?_
      refine OW_as rfl rfl ?_
      refine OW_as rfl rfl ?_
      refine EZ67_CK11 rfl ?_
      refine XW_seq ?_
      refine XW_sr ?_
      refine OW_mv rfl rfl ?_
      refine OW_bin rfl rfl rfl rfl rfl ?_
      refine EZ67_CK11 rfl ?_
      refine XW_if rfl (fun h8 => ?_) (fun h8 => ?_)
      ·try simp only [bs] at h8
       refine XW_sr ?_
       refine OW_mv rfl rfl ?_
       refine OW_as rfl rfl ?_
       refine OW_as rfl rfl ?_
       refine EZ67_CK11 rfl ?_
       refine XW_ret ?_
       refine then_ret ?_
       refine block_ret ?_
       refine then_ret ?_
       refine ret_ret (res2 rfl (rv_tmp rfl) (rv_tmp rfl)) ?_
       rw [putR, if_neg (by rintro (h | h) <;> contradiction), hold, hatc, if_pos h6, if_pos h8] at hq; exact hq _ (Own.mk_jobK (c := c) hu hi hbU (Own.drop0 (Own.mono hS2 (le_bef (bef_app (a := [10, 0, 1, 1, 1, 0, 1, 1]) hp)))))
      ·try simp only [bs] at h8
       refine XW_skip ?_
       refine then_norm ?_
       refine XW_region ?_
       refine OW_mv rfl rfl ?_
       refine OW_mv rfl rfl ?_
       first
       | refine OW_nc rfl rfl ?_
       | refine OW_nce rfl rfl ?_
       refine EN67_CK11 rfl ?_
       refine OW_fa rfl rfl rfl ?_
       refine OW_fa rfl rfl rfl ?_
       refine OW_storeC hS2 (k := 1) rfl (le_lit (ν := ν) (a := [10, 0, 1, 1, 1, 0, 1, 1]) (b := [5, 1, 1, 1, 1, 1, 0, 1, 1]) (by decide)) rfl rfl rfl (hS2.one (k := 0) rfl) rfl rfl (Nat.le_of_ble_eq_true rfl) (u2 := .agg [_, _, _, _, _, _, _, _, _, _, _, _, _, _, _, _]) rfl fun H3 hS3 => ?_
       replace hS3 : Own _ _ _ (_ :: _ :: _ :: _ :: _ :: _ :: _ :: _ :: L) := hS3
       refine EZ67_CK11 rfl ?_
       refine block_norm ?_
       refine then_norm ?_
       refine XW_sr ?_
       refine OW_mv rfl rfl ?_
       refine OW_mv rfl rfl ?_
       first
       | refine OW_nc rfl rfl ?_
       | refine OW_nce rfl rfl ?_
       refine EN67_CK11 rfl ?_
       refine OW_fa rfl rfl rfl ?_
       refine OW_fa rfl rfl rfl ?_
       refine OW_loadR hS3 (k := 1) rfl rfl rfl rfl rfl (by first | exact part_whole rfl rfl rfl | rfl) ?_
       refine EN67_CK11 rfl ?_
       first
       | refine OW_nc rfl rfl ?_
       | refine OW_nce rfl rfl ?_
       first
       | refine OW_storeO hS3 (k := 3) rfl (le_lit (ν := ν) (a := [6, 1, 1, 1, 1, 1, 0, 1, 1]) (b := [7, 0, 1, 1, 1]) (by decide)) rfl rfl rfl rfl (by first | assumption | exact at_map (by first | assumption | omega) | exact at_lst (by omega) | rfl) ⟨rfl, rfl, Nat.le_of_ble_eq_true rfl⟩ (set_whole rfl rfl) fun H4 hS4 => ?_
       | refine OW_storeO hS3 (k := 3) rfl (le_lit (ν := ν) (a := [6, 1, 1, 1, 1, 1, 0, 1, 1]) (b := [7, 0, 1, 1, 1]) (by decide)) rfl rfl rfl rfl (by first | assumption | exact at_map (by first | assumption | omega) | exact at_lst (by omega) | rfl) ⟨rfl, rfl, Nat.le_of_ble_eq_true rfl⟩ (u2 := _) rfl fun H4 hS4 => ?_
       replace hS4 : Own _ _ _ (_ :: _ :: _ :: _ :: _ :: _ :: _ :: _ :: L) := hS4
       refine EZ67_CK11 rfl ?_
       refine XW_sr ?_
       refine OW_as rfl rfl ?_
       refine OW_as rfl rfl ?_
       refine EZ67_CK11 rfl ?_
       refine XW_ret ?_
       refine ret_ret (res2 rfl (rv_tmp rfl) (rv_tmp rfl)) ?_
       rw [putR, if_neg (by rintro (h | h) <;> contradiction), hold, hatc, if_pos h6, if_neg (fun h => h h8), setL_at hat hi] at hq; exact hq _ (Own.mk_jobL (c := c) hu hi hbU (Own.rot (A := [_, _, _, _, _]) (Own.drop (Own.mono hS4 (le_bef (bef_app (a := [8, 0, 1, 1, 1]) hp))) (k := 6) rfl)))
     ·try simp only [bs] at h6
      refine XW_skip ?_
      refine block_norm ?_
      refine then_norm ?_
      refine XW_sr ?_
      refine OW_mv rfl rfl ?_
      refine OW_mv rfl rfl ?_
      first
      | refine OW_nc rfl rfl ?_
      | refine OW_nce rfl rfl ?_
      refine EN67_CK11 rfl ?_
      refine OW_fa rfl rfl rfl ?_
      refine OW_fa rfl rfl rfl ?_
      refine OW_loadR hS1 (k := 0) rfl rfl rfl rfl rfl (by first | exact part_whole rfl rfl rfl | rfl) ?_
      refine EN67_CK11 rfl ?_
      first
      | refine OW_nc rfl rfl ?_
      | refine OW_nce rfl rfl ?_
      first
      | refine OW_storeO hS1 (k := 2) rfl (le_lit (ν := ν) (a := [2, 0, 1]) (b := [7, 0, 1, 1, 1]) (by decide)) rfl rfl rfl rfl (by first | assumption | exact at_map (by first | assumption | omega) | exact at_lst (by omega) | rfl) ⟨rfl, rfl, Nat.le_of_ble_eq_true rfl⟩ (set_whole rfl rfl) fun H5 hS5 => ?_
      | refine OW_storeO hS1 (k := 2) rfl (le_lit (ν := ν) (a := [2, 0, 1]) (b := [7, 0, 1, 1, 1]) (by decide)) rfl rfl rfl rfl (by first | assumption | exact at_map (by first | assumption | omega) | exact at_lst (by omega) | rfl) ⟨rfl, rfl, Nat.le_of_ble_eq_true rfl⟩ (u2 := _) rfl fun H5 hS5 => ?_
      replace hS5 : Own _ _ _ (_ :: _ :: _ :: _ :: _ :: _ :: _ :: L) := hS5
      refine EZ67_CK11 rfl ?_
      refine XW_sr ?_
      refine OW_as rfl rfl ?_
      refine OW_as rfl rfl ?_
      refine EZ67_CK11 rfl ?_
      refine XW_ret ?_
      refine ret_ret (res2 rfl (rv_tmp rfl) (rv_tmp rfl)) ?_
      rw [putR, if_neg (by rintro (h | h) <;> contradiction), hold, if_neg h6, setL_at hat hi] at hq; exact hq _ (Own.mk_jobL (c := c) hu hi hbU (Own.mono hS5 (le_bef (bef_app (a := [8, 0, 1, 1, 1]) hp))))
theorem trim_ok (hg : c.good) (hm : m.fit) (he : (leafE S key c m 2).1 = 0) (hS : Own β ps H (jobO q qo key c m :: orc qo S.of :: L)) (hle : le ps ν) (hβ : under β ν = true) (hp : before ν pos')
    (hq : ∀ H1, Own β pos' H1 (jobO q qo key (trimR c m).c m :: orc qo (leafE S key c m 2).2.of :: L) → Q (.tup [.str (trimR c m).an, .int .i64 (trimR c m).e]) H1) : CW cfg ν 31 [.ptr q 0 0] H Q := by
  have hql := hg.ql
  refine CW_keep g31 F31 rfl ?_
  replace hS := Own.mono hS hle
  refine XW_sr ?_
  refine OW_as rfl rfl ?_
  refine OW_as rfl rfl ?_
  refine EZ46_CK11 rfl ?_
  refine XW_sr ?_
  refine OW_mv rfl rfl ?_
  refine OW_fn rfl rfl (leaf_ok hg hm he hS (le_app (p := ν) (b := [1, 0, 1])) (under_app [1, 0, 1] hβ) (before_lit (ν := ν) (a := [1, 0, 1]) (b := [2, 0, 1]) (by decide)) fun H1 Us i bV bU S' T' hu hi hat hlt hbU hS1 => ?_) 
  replace hS1 : Own _ _ _ (_ :: _ :: _ :: _ :: _ :: _ :: _ :: L) := hS1
  refine OW_mv rfl rfl ?_
  refine EN46_CK11 rfl ?_
  refine OW_ex rfl rfl rfl ?_
  refine OW_ex rfl rfl rfl ?_
  refine OW_ex rfl rfl rfl ?_
  refine EN46_CK11 rfl ?_
  refine OW_as rfl rfl ?_
  refine OW_as rfl rfl ?_
  refine OW_as rfl rfl ?_
  refine EZ46_CK11 rfl ?_
  refine XW_seq ?_
  refine XW_sr ?_
  have hrow := rows_get (Us := Us) hu hi
  rw [show c.vs[i].row (Us[i]'(by omega)) = .agg [.int .u64 c.vs[i].vo, .int .u64 c.vs[i].tn, .int .u64 c.vs[i].ep, .int .i64 c.vs[i].de, Us[i]'(by omega)] from rfl] at hrow
  have hold := old_at hat hi hlt
  have hatc := at_eq hat hi
  refine OW_mv rfl rfl ?_
  refine OW_bin rfl rfl rfl rfl rfl ?_
  refine OW_mv rfl rfl ?_
  refine EN46_CK11 rfl ?_
  refine OW_mv rfl rfl ?_
  first
  | refine OW_nc rfl rfl ?_
  | refine OW_nce rfl rfl ?_
  refine OW_loadS hS1 (k := 2) rfl rfl rfl rfl (by first | assumption | exact at_map (by first | assumption | omega) | exact at_lst (by omega) | rfl) (by first | exact part_whole rfl rfl rfl | rfl) ?_
  refine EN46_CK11 rfl ?_
  refine OW_bin rfl rfl rfl rfl rfl ?_
  refine OW_pick rfl rfl rfl ?_
  refine EZ46_CK11 rfl ?_
  refine XW_if rfl (fun h2 => ?_) (fun h2 => ?_)
  ·try simp only [bs] at h2
   refine XW_sr ?_
   refine OW_mv rfl rfl ?_
   refine OW_as rfl rfl ?_
   refine OW_as rfl rfl ?_
   refine EZ46_CK11 rfl ?_
   refine XW_ret ?_
   refine then_ret ?_
   refine ret_ret (res2 rfl (rv_tmp rfl) (rv_tmp rfl)) ?_
   rw [trimR, hold, if_pos h2] at hq; exact hq _ (Own.mk_jobK (c := c) hu hi hbU (Own.mono hS1 (le_bef (bef_app (a := [2, 0, 1]) hp))))
  ·try simp only [bs] at h2
   refine XW_skip ?_
   refine then_norm ?_
   refine XW_sr ?_
   refine OW_mv rfl rfl ?_
   first
   | refine OW_nc rfl rfl ?_
   | refine OW_nce rfl rfl ?_
   first
   | refine OW_storeO hS1 (k := 2) rfl (le_lit (ν := ν) (a := [2, 0, 1]) (b := [2, 0, 1, 1, 1]) (by decide)) rfl rfl rfl rfl (by first | assumption | exact at_map (by first | assumption | omega) | exact at_lst (by omega) | rfl) ⟨rfl, rfl, Nat.le_of_ble_eq_true rfl⟩ (set_whole rfl rfl) fun H2 hS2 => ?_
   | refine OW_storeO hS1 (k := 2) rfl (le_lit (ν := ν) (a := [2, 0, 1]) (b := [2, 0, 1, 1, 1]) (by decide)) rfl rfl rfl rfl (by first | assumption | exact at_map (by first | assumption | omega) | exact at_lst (by omega) | rfl) ⟨rfl, rfl, Nat.le_of_ble_eq_true rfl⟩ (u2 := _) rfl fun H2 hS2 => ?_
   replace hS2 : Own _ _ _ (_ :: _ :: _ :: _ :: _ :: _ :: _ :: L) := hS2
   refine EZ46_CK11 rfl ?_
   refine XW_seq ?_
   refine XW_sr ?_
   refine OW_mv rfl rfl ?_
   first
   | refine OW_nc rfl rfl ?_
   | refine OW_nce rfl rfl ?_
   refine OW_fa rfl rfl rfl ?_
   refine EN46_CK11 rfl ?_
   refine OW_fa rfl rfl rfl ?_
   refine OW_loadR hS2 (k := 0) rfl rfl rfl rfl rfl (by first | exact part_whole rfl rfl rfl | rfl) ?_
   refine OW_mv rfl rfl ?_
   refine EN46_CK11 rfl ?_
   first
   | refine OW_nc rfl rfl ?_
   | refine OW_nce rfl rfl ?_
   refine OW_fa rfl rfl rfl ?_
   refine OW_loadS hS2 (k := 1) rfl rfl rfl rfl (by first | assumption | exact at_map (by first | assumption | omega) | exact at_lst (by omega) | rfl) (by first | exact part_whole rfl rfl rfl | rfl) ?_
   refine EN46_CK11 rfl ?_
   refine OW_fn rfl rfl (pGiveK hS2 (k := 5) rfl (le_lit (ν := ν) (a := [3, 0, 1, 1, 1]) (b := [9, 0, 0, 1, 1, 1, 1]) (by decide)) (under_app [9, 0, 0, 1, 1, 1, 1] hβ) (before_lit (ν := ν) (a := [9, 0, 0, 1, 1, 1, 1]) (b := [10, 0, 0, 1, 1, 1, 1]) (by decide)) (by omega) hg.qf _ _ (by omega) fun H3 O1 hS3 => ?_) 
   replace hS3 : Own _ _ _ (_ :: _ :: _ :: _ :: _ :: _ :: _ :: _ :: L) := hS3
   refine OW_mv rfl rfl ?_
   refine OW_ex rfl rfl rfl ?_
   refine EN46_CK11 rfl ?_
   refine OW_ex rfl rfl rfl ?_
   refine OW_as rfl rfl ?_
   refine OW_as rfl rfl ?_
   refine EZ46_CK11 rfl ?_
   refine XW_sr ?_
   refine OW_mv rfl rfl ?_
   refine OW_bin rfl rfl rfl rfl rfl ?_
   refine EZ46_CK11 rfl ?_
   refine XW_if rfl (fun h6 => ?_) (fun h6 => ?_)
   ·try simp only [bs] at h6
    refine XW_region ?_
    refine OW_mv rfl rfl ?_
    refine OW_mv rfl rfl ?_
    first
    | refine OW_nc rfl rfl ?_
    | refine OW_nce rfl rfl ?_
    refine EN46_CK11 rfl ?_
    refine OW_fa rfl rfl rfl ?_
    refine OW_fa rfl rfl rfl ?_
    refine OW_storeC hS3 (k := 1) rfl (le_lit (ν := ν) (a := [10, 0, 0, 1, 1, 1, 1]) (b := [5, 1, 1, 0, 1, 1, 1, 1]) (by decide)) rfl rfl rfl (hS3.one (k := 0) rfl) rfl rfl (Nat.le_of_ble_eq_true rfl) (u2 := .agg [_, _, _, _, _, _, _, _, _, _, _, _, _, _, _, _]) rfl fun H4 hS4 => ?_
    replace hS4 : Own _ _ _ (_ :: _ :: _ :: _ :: _ :: _ :: _ :: _ :: L) := hS4
    refine EZ46_CK11 rfl ?_
    refine then_norm ?_
    refine XW_sr ?_
    refine OW_as rfl rfl ?_
    refine OW_as rfl rfl ?_
    refine EZ46_CK11 rfl ?_
    refine XW_ret ?_
    refine ret_ret (res2 rfl (rv_tmp rfl) (rv_tmp rfl)) ?_
    rw [trimR, hold, hatc, if_neg h2, if_pos h6, setL_at hat hi] at hq; exact hq _ (Own.mk_jobL (c := c) hu hi hbU (Own.rot (A := [_, _, _, _, _]) (Own.drop (Own.mono hS4 (le_bef (bef_app (a := [6, 1, 1, 0, 1, 1, 1, 1]) hp))) (k := 6) rfl)))
   ·try simp only [bs] at h6
    refine XW_skip ?_
    refine then_norm ?_
    refine XW_sr ?_
    refine OW_as rfl rfl ?_
    refine OW_as rfl rfl ?_
    refine EZ46_CK11 rfl ?_
    refine XW_ret ?_
    refine ret_ret (res2 rfl (rv_tmp rfl) (rv_tmp rfl)) ?_
    rw [trimR, hold, hatc, if_neg h2, if_neg h6, setL_at hat hi] at hq; exact hq _ (Own.mk_jobL (c := c) hu hi hbU (Own.drop0 (Own.mono hS3 (le_bef (bef_app (a := [10, 0, 0, 1, 1, 1, 1]) hp)))))
end Go.Proofs.Ytfkgdlfponfimaa.X
/- Layer 13: chunk.Run. -/
set_option linter.unusedVariables false
set_option linter.unusedSimpArgs false
set_option maxRecDepth 100000
namespace Go.Proofs.Ytfkgdlfponfimaa.X
open Go Go.RowKit WM
theorem EN50_CK12 {c : Cfg} {ν : Nm} {e : Env} {H : Heap} {all : Array Oper} {r : List Oper} {i : Nat} {Q : Env → Heap → Prop} {x0 x1 x2 x3 x4 x5 x6 x7 x8 x9 x10 x11 x12 x13 x14 x15 x16 x17 x18 x19 x20 x21 x22 x23 x24 x25 x26 x27 x28 x29 x30 x31 x32 x33 x34 x35 x36 x37 x38 x39 x40 x41 x42 x43 x44 x45 x46 x47 x48 x49 : AVal} (he : e = [x0,x1,x2,x3,x4,x5,x6,x7,x8,x9,x10,x11,x12,x13,x14,x15,x16,x17,x18,x19,x20,x21,x22,x23,x24,x25,x26,x27,x28,x29,x30,x31,x32,x33,x34,x35,x36,x37,x38,x39,x40,x41,x42,x43,x44,x45,x46,x47,x48,x49]) (h : OW c ν all r i [x0,x1,x2,x3,x4,x5,x6,x7,x8,x9,x10,x11,x12,x13,x14,x15,x16,x17,x18,x19,x20,x21,x22,x23,x24,x25,x26,x27,x28,x29,x30,x31,x32,x33,x34,x35,x36,x37,x38,x39,x40,x41,x42,x43,x44,x45,x46,x47,x48,x49] H Q) : OW c ν all r i e H Q := by subst he; exact h
theorem EZ50_CK12 {c : Cfg} {ν : Nm} {e : Env} {H : Heap} {all : Array Oper} {i : Nat} {Q : Env → Heap → Prop} {x0 x1 x2 x3 x4 x5 x6 x7 x8 x9 x10 x11 x12 x13 x14 x15 x16 x17 x18 x19 x20 x21 x22 x23 x24 x25 x26 x27 x28 x29 x30 x31 x32 x33 x34 x35 x36 x37 x38 x39 x40 x41 x42 x43 x44 x45 x46 x47 x48 x49 : AVal} (he : e = [x0,x1,x2,x3,x4,x5,x6,x7,x8,x9,x10,x11,x12,x13,x14,x15,x16,x17,x18,x19,x20,x21,x22,x23,x24,x25,x26,x27,x28,x29,x30,x31,x32,x33,x34,x35,x36,x37,x38,x39,x40,x41,x42,x43,x44,x45,x46,x47,x48,x49]) (h : Q [x0,x1,x2,x3,x4,x5,x6,x7,x8,x9,x10,x11,x12,x13,x14,x15,x16,x17,x18,x19,x20,x21,x22,x23,x24,x25,x26,x27,x28,x29,x30,x31,x32,x33,x34,x35,x36,x37,x38,x39,x40,x41,x42,x43,x44,x45,x46,x47,x48,x49] H) : OW c ν all [] i e H Q := by subst he; exact OW_nil h
theorem FN50_CK12 {c : Cfg} {ν : Nm} {e : Env} {H : Heap} {all : Array Oper} {rs : List Tmp} {HK : Heap} {r : List Oper} {i : Nat} {Q : Env → Heap → Prop} {x0 x1 x2 x3 x4 x5 x6 x7 x8 x9 x10 x11 x12 x13 x14 x15 x16 x17 x18 x19 x20 x21 x22 x23 x24 x25 x26 x27 x28 x29 x30 x31 x32 x33 x34 x35 x36 x37 x38 x39 x40 x41 x42 x43 x44 x45 x46 x47 x48 x49 : AVal} (he : e = [x0,x1,x2,x3,x4,x5,x6,x7,x8,x9,x10,x11,x12,x13,x14,x15,x16,x17,x18,x19,x20,x21,x22,x23,x24,x25,x26,x27,x28,x29,x30,x31,x32,x33,x34,x35,x36,x37,x38,x39,x40,x41,x42,x43,x44,x45,x46,x47,x48,x49]) (h : OWF c ν all rs HK r i [x0,x1,x2,x3,x4,x5,x6,x7,x8,x9,x10,x11,x12,x13,x14,x15,x16,x17,x18,x19,x20,x21,x22,x23,x24,x25,x26,x27,x28,x29,x30,x31,x32,x33,x34,x35,x36,x37,x38,x39,x40,x41,x42,x43,x44,x45,x46,x47,x48,x49] H Q) : OWF c ν all rs HK r i e H Q := by subst he; exact h
theorem FZ50_CK12 {c : Cfg} {ν : Nm} {e : Env} {H : Heap} {all : Array Oper} {rs : List Tmp} {HK : Heap} {i : Nat} {Q : Env → Heap → Prop} {x0 x1 x2 x3 x4 x5 x6 x7 x8 x9 x10 x11 x12 x13 x14 x15 x16 x17 x18 x19 x20 x21 x22 x23 x24 x25 x26 x27 x28 x29 x30 x31 x32 x33 x34 x35 x36 x37 x38 x39 x40 x41 x42 x43 x44 x45 x46 x47 x48 x49 : AVal} (he : e = [x0,x1,x2,x3,x4,x5,x6,x7,x8,x9,x10,x11,x12,x13,x14,x15,x16,x17,x18,x19,x20,x21,x22,x23,x24,x25,x26,x27,x28,x29,x30,x31,x32,x33,x34,x35,x36,x37,x38,x39,x40,x41,x42,x43,x44,x45,x46,x47,x48,x49]) (h : Q [x0,x1,x2,x3,x4,x5,x6,x7,x8,x9,x10,x11,x12,x13,x14,x15,x16,x17,x18,x19,x20,x21,x22,x23,x24,x25,x26,x27,x28,x29,x30,x31,x32,x33,x34,x35,x36,x37,x38,x39,x40,x41,x42,x43,x44,x45,x46,x47,x48,x49] H) : OWF c ν all rs HK [] i e H Q := by subst he; exact OWF_nil h
variable {ν β ps pos pos' : Nm} {H H1 : Heap} {Q : AVal → Heap → Prop} {L : List Asr} {k : Nat} {S : Rf} {c : Ck} {q qo : Nm} {key want : Int} {m : Cm} {V0 S0 T0 : AVal}
theorem runR_0 (h : m.d = 0) : runR S key c m = (makeR c m, S) := by rw [runR, if_pos h]
theorem runR_1 (h : m.d = 1) : runR S key c m = (epochR c m, S) := by rw [runR, if_neg (by omega), if_pos h]
theorem runR_2 (h : m.d = 2) : runR S key c m = (limitR c m, S) := by rw [runR, if_neg (by omega), if_neg (by omega), if_pos h]
theorem runR_3 (h : m.d = 3) : runR S key c m = leafR S key c m 2 putR := by rw [runR, if_neg (by omega), if_neg (by omega), if_neg (by omega), if_pos h]
theorem runR_4 (h : m.d = 4) : runR S key c m = leafR S key c m 1 getR := by rw [runR, if_neg (by omega), if_neg (by omega), if_neg (by omega), if_neg (by omega), if_pos h]
theorem runR_5 (h : m.d = 5) : runR S key c m = leafR S key c m 2 trimR := by rw [runR, if_neg (by omega), if_neg (by omega), if_neg (by omega), if_neg (by omega), if_neg (by omega), if_pos h]
theorem runR_b (h : m.d < 0 ∨ 6 ≤ m.d) : runR S key c m = (err c 130, S) := by rw [runR, if_neg (by omega), if_neg (by omega), if_neg (by omega), if_neg (by omega), if_neg (by omega), if_neg (by omega)]
theorem leafR_err {f : Ck → Cm → Rs} (h : (leafE S key c m want).1 ≠ 0) : leafR S key c m want f = (err c (leafE S key c m want).1, (leafE S key c m want).2) := if_pos h
theorem leafR_ok {f : Ck → Cm → Rs} (h : (leafE S key c m want).1 = 0) : leafR S key c m want f = (f c m, (leafE S key c m want).2) := if_neg (fun e => e h)
theorem fz3 {V S T : AVal} {c : Ck} {f : List Nm} {kk : IntKind} {e : Int} {s : ByteArray} (h : (stF V S T c).holds H f) : X.freeze [] H 8 (.tup [.agg [V, S, T], .int kk e, .str s]) = .tup [c.enc, .int kk e, .str s] := by
  have e1 := stF_freeze (n := 3) h
  show AVal.tup [X.freeze [] H 7 (.agg [V, S, T]), _, _] = _
  rw [e1]; rfl
theorem rc3 {V S T : AVal} {c : Ck} {f : List Nm} {kk : IntKind} {e : Int} {s : ByteArray} (h : (stF V S T c).holds H f) : ∀ q ∈ reach [] H 8 (.tup [.agg [V, S, T], .int kk e, .str s]), q ∈ f := by
  intro q hq
  rw [reach] at hq
  simp only [List.map_cons, List.map_nil, List.flatten_cons, List.flatten_nil, List.append_nil, List.mem_append] at hq
  rcases hq with hq | hq | hq
  · exact stF_reach (n := 7) h q hq
  · rw [reach_plain rfl] at hq; simp at hq
  · rw [reach_plain rfl] at hq; simp at hq
theorem Own.run_job {V S1 T : AVal} {X1 X2 X3 X4 O : Asr} (h : Own β ps H (X1 :: jrow q qo key V S1 T m :: stO V S1 T c :: X2 :: X3 :: X4 :: O :: L)) : Own β ps H (jobO q qo key c m :: O :: X1 :: X2 :: X3 :: X4 :: L) := by
  have h1 := Own.rot (A := [jrow q qo key V S1 T m, stO V S1 T c]) (show Own β ps H (X1 :: ([jrow q qo key V S1 T m, stO V S1 T c] ++ X2 :: X3 :: X4 :: O :: L)) from h)
  have h2 := (Own.rot (A := [stO V S1 T c]) (show Own β ps H (jrow q qo key V S1 T m :: ([stO V S1 T c] ++ X1 :: X2 :: X3 :: X4 :: O :: L)) from h1)).un_all
  have h3 := Own.mk_job (Own.tor (A := [vols V c.vs, sl S1 3 (c.ss.map SE.Se.enc), sl T 3 (c.qs.map Qu.enc)]) h2)
  have h4 := Own.tor (A := [jobO q qo key c m, X1, X2, X3, X4]) (show Own β ps H ([jobO q qo key c m, X1, X2, X3, X4] ++ O :: L) from h3)
  exact Own.rot (A := [jobO q qo key c m]) h4
theorem run_0 (hg : c.good) (hm : m.fit) (hd : m.d = 0)  (hV0 : Ls V0 (c.vs.map Vo.enc)) (hS0' : Ls S0 (c.ss.map SE.Se.enc)) (hT0 : Ls T0 (c.qs.map Qu.enc)) (hS : Own β ps H L) (hL : L[k]? = some (orc qo S.of)) (hle : le ps ν) (hβ : under β ν = true) (hp : before ν pos')
    (hq : ∀ H1, Own β pos' H1 (L.set k (orc qo (runR S key c m).2.of)) → Q (.tup [(runR S key c m).1.c.enc, .int .i64 (runR S key c m).1.e, .str (runR S key c m).1.an]) H1) : CW cfg ν 9 [.ptr qo 0 0, .int .u64 key, .agg [V0, S0, T0], m.enc] H Q := by
  replace hS := hS.pick hL
  have hsm := hg.sm
  rw [runR_0 hd] at hq
  refine CW_cast g9 F9 rfl ?_
  replace hS := Own.mono hS hle
  refine XW_sr ?_
  refine OW_boxR hS (le_app (p := ν) (b := [0, 0])) (under_app [0, 0] hβ) rfl rfl rfl ⟨rfl, rfl⟩ fun H1 hS1 => ?_
  replace hS1 : Own _ _ _ (_ :: _ :: L.eraseIdx k) := hS1
  refine OW_boxR hS1 le_refl (under_app [1, 0] hβ) rfl rfl rfl ⟨rfl, rfl⟩ fun H2 hS2 => ?_
  replace hS2 : Own _ _ _ (_ :: _ :: _ :: L.eraseIdx k) := hS2
  refine OW_allocR hS2 le_refl (under_app [2, 0] hβ) rfl rfl rfl rfl fun H3 hS3 => ?_
  replace hS3 : Own _ _ _ (_ :: _ :: _ :: _ :: L.eraseIdx k) := hS3
  refine EN50_CK12 rfl ?_
  refine OW_as rfl rfl ?_
  refine OW_as rfl rfl ?_
  refine EZ50_CK12 rfl ?_
  refine XW_srF (qs := [1 :: 0 :: ν]) rfl rfl ?_
  have hSF1 : Own _ _ _ (_ :: _ :: _ :: _ :: L.eraseIdx k) := (Own.hide (Own.hide0 hS3) (k := 1) rfl)
  refine OWF_op rfl ?_
  refine OW_mv rfl rfl ?_
  refine OW_nil ?_
  refine OWF_op rfl ?_
  refine OW_mv rfl rfl ?_
  refine OW_nil ?_
  refine OWF_op rfl ?_
  refine OW_loadR hSF1 (k := 2) rfl rfl rfl rfl rfl (by first | exact part_whole rfl rfl rfl | rfl) ?_
  refine OW_nil ?_
  refine FN50_CK12 rfl ?_
  refine OWF_op rfl ?_
  refine OW_fn rfl rfl (copied_c hV0 hS0' hT0 hSF1 (le_lit (ν := ν) (a := [3, 0]) (b := [3, 0, 1]) (by decide)) (under_app [3, 0, 1] hβ) (before_lit (ν := ν) (a := [3, 0, 1]) (b := [4, 0, 1]) (by decide)) hsm fun H4 V S1 T hS4 => ?_) 
  replace hS4 : Own _ _ _ (_ :: _ :: _ :: _ :: _ :: L.eraseIdx k) := hS4
  refine OW_nil ?_
  refine OWF_fl rfl ?_
  refine OW_loadK hS3 (k := 1) rfl (by simp) rfl rfl rfl rfl (by first | exact part_whole rfl rfl rfl | rfl) ?_
  refine OW_nil ?_
  refine OWF_op rfl ?_
  refine OW_bd rfl rfl (v := .agg [_, _, _, _, _, _, _, _, _, _, _, _, _, _, _, _]) rfl ?_
  refine OW_nil ?_
  refine FN50_CK12 rfl ?_
  refine OWF_op rfl ?_
  refine OW_boxR hS4 (le_lit (ν := ν) (a := [4, 0, 1]) (b := [6, 0, 1]) (by decide)) (under_app [6, 0, 1] hβ) rfl rfl rfl ⟨rfl, rfl⟩ fun H5 hS5 => ?_
  replace hS5 : Own _ _ _ (_ :: _ :: _ :: _ :: _ :: _ :: L.eraseIdx k) := hS5
  refine OW_nil ?_
  refine OWF_op rfl ?_
  refine OW_as rfl rfl ?_
  refine OW_nil ?_
  refine FZ50_CK12 rfl ?_
  have hSB1 : Own _ _ _ (_ :: _ :: _ :: _ :: _ :: _ :: L.eraseIdx k) := (Own.back hS3 (k := 1) rfl (Own.back0 hS5) (k' := 3) rfl)
  refine XW_sr ?_
  refine OW_bd rfl rfl (v := .agg [_, _, _, _, _, _]) rfl ?_
  refine OW_allocR hSB1 (le_lit (ν := ν) (a := [7, 0, 1]) (b := [1, 0, 1, 1]) (by decide)) (under_app [1, 0, 1, 1] hβ) rfl rfl rfl rfl fun H6 hS6 => ?_
  replace hS6 : Own _ _ _ (_ :: _ :: _ :: _ :: _ :: _ :: _ :: L.eraseIdx k) := hS6
  first
  | refine OW_storeR hS6 (k := 0) rfl le_refl rfl rfl rfl rfl ⟨rfl, rfl, Nat.le_of_ble_eq_true rfl⟩ (set_whole rfl rfl) fun H7 hS7 => ?_
  | refine OW_storeR hS6 (k := 0) rfl le_refl rfl rfl rfl rfl ⟨rfl, rfl, Nat.le_of_ble_eq_true rfl⟩ (u2 := .agg [_, _, _, _, _, _]) rfl fun H7 hS7 => ?_
  replace hS7 : Own _ _ _ (_ :: _ :: _ :: _ :: _ :: _ :: _ :: L.eraseIdx k) := hS7
  refine EZ50_CK12 rfl ?_
  refine XW_seq ?_
  refine XW_sr ?_
  refine OW_fa rfl rfl rfl ?_
  refine OW_loadR hS7 (k := 4) rfl rfl rfl rfl rfl (by first | exact part_whole rfl rfl rfl | rfl) ?_
  rw [hd]
  refine OW_bin rfl rfl rfl rfl rfl ?_
  refine EN50_CK12 rfl ?_
  refine OW_mv rfl rfl ?_
  refine OW_fa rfl rfl rfl ?_
  refine OW_loadR hS7 (k := 4) rfl rfl rfl rfl rfl (by first | exact part_whole rfl rfl rfl | rfl) ?_
  refine EN50_CK12 rfl ?_
  rw [hd]
  refine OW_bin rfl rfl rfl rfl rfl ?_
  refine OW_pick rfl rfl rfl ?_
  refine EZ50_CK12 rfl ?_
  refine XW_no rfl rfl ?_
  refine XW_skip ?_
  refine then_norm ?_
  refine XW_sr ?_
  replace hS7 := Own.run_job hS7
  refine OW_fa rfl rfl rfl ?_
  refine OW_loadR hS7 (k := 4) rfl rfl rfl rfl rfl (by first | exact part_whole rfl rfl rfl | rfl) ?_
  rw [hd]
  refine OW_ia rfl rfl rfl (by first | rfl | exact ia_arr rfl rfl rfl (by omega) (by omega)) ?_
  refine EN50_CK12 rfl ?_
  refine OW_loadR hS7 (k := 2) rfl rfl rfl rfl rfl (by first | exact part_whole rfl rfl rfl | rfl) ?_
  refine OW_mv rfl rfl ?_
  refine OW_fv rfl rfl rfl (make_c hg hm hS7 (le_lit (ν := ν) (a := [3, 0, 1, 1]) (b := [5, 0, 1, 1, 1, 1]) (by decide)) (under_app [5, 0, 1, 1, 1, 1] hβ) (before_lit (ν := ν) (a := [5, 0, 1, 1, 1, 1]) (b := [6, 0, 1, 1, 1, 1]) (by decide)) fun H8 hS8 => ?_)
  replace hS8 : Own _ _ _ (_ :: _ :: _ :: _ :: _ :: _ :: L.eraseIdx k) := hS8
  refine EN50_CK12 rfl ?_
  refine OW_mv rfl rfl ?_
  refine OW_ex rfl rfl rfl ?_
  refine OW_ex rfl rfl rfl ?_
  refine EN50_CK12 rfl ?_
  refine OW_as rfl rfl ?_
  refine OW_as rfl rfl ?_
  refine EZ50_CK12 rfl ?_
  refine XW_sr ?_
  obtain ⟨V2, S2, T2, hz⟩ := Own.un_jobF ( hS8)
  replace hS8 := hz
  refine OW_mv rfl rfl ?_
  first
  | refine OW_nc rfl rfl ?_
  | refine OW_nce rfl rfl ?_
  refine OW_fa rfl rfl rfl ?_
  refine EN50_CK12 rfl ?_
  refine OW_loadR hS8 (k := 0) rfl rfl rfl rfl rfl (by first | exact part_whole rfl rfl rfl | rfl) ?_
  refine OW_mv rfl rfl ?_
  refine OW_mv rfl rfl ?_
  refine EN50_CK12 rfl ?_
  first
  | refine OW_storeR hS8 (k := 4) rfl (le_lit (ν := ν) (a := [6, 0, 1, 1, 1, 1]) (b := [6, 0, 1, 1, 1, 1, 1]) (by decide)) rfl rfl rfl rfl ⟨rfl, rfl, Nat.le_of_ble_eq_true rfl⟩ (set_whole rfl rfl) fun H9 hS9 => ?_
  | refine OW_storeR hS8 (k := 4) rfl (le_lit (ν := ν) (a := [6, 0, 1, 1, 1, 1]) (b := [6, 0, 1, 1, 1, 1, 1]) (by decide)) rfl rfl rfl rfl ⟨rfl, rfl, Nat.le_of_ble_eq_true rfl⟩ (u2 := .agg [_, _, _]) rfl fun H9 hS9 => ?_
  replace hS9 : Own _ _ _ (_ :: _ :: _ :: _ :: _ :: _ :: _ :: L.eraseIdx k) := hS9
  refine OW_as rfl rfl ?_
  refine OW_as rfl rfl ?_
  refine EZ50_CK12 rfl ?_
  refine XW_ret ?_
  refine ret_ret (res3 rfl (rv_cellR hS9 (k := 4) rfl rfl rfl rfl (by first | exact part_whole rfl rfl rfl | rfl)) (rv_tmp rfl) (rv_tmp rfl)) ?_
  have hz := Own.drop (Own.drop (Own.drop (Own.drop (Own.drop0 (Own.mono hS9 (le_bef (bef_app (a := [7, 0, 1, 1, 1, 1, 1]) hp)))) (k := 5) rfl) (k := 4) rfl) (k := 3) rfl) (k := 2) rfl
  obtain ⟨fz, hfz, _⟩ := hz.get (k := 0) rfl
  rw [fz3 hfz]; exact hq _ (Own.unpick (Own.lose hz fun f hf => rc3 hf) hL)
theorem run_1 (hg : c.good) (hm : m.fit) (hd : m.d = 1)  (hV0 : Ls V0 (c.vs.map Vo.enc)) (hS0' : Ls S0 (c.ss.map SE.Se.enc)) (hT0 : Ls T0 (c.qs.map Qu.enc)) (hS : Own β ps H L) (hL : L[k]? = some (orc qo S.of)) (hle : le ps ν) (hβ : under β ν = true) (hp : before ν pos')
    (hq : ∀ H1, Own β pos' H1 (L.set k (orc qo (runR S key c m).2.of)) → Q (.tup [(runR S key c m).1.c.enc, .int .i64 (runR S key c m).1.e, .str (runR S key c m).1.an]) H1) : CW cfg ν 9 [.ptr qo 0 0, .int .u64 key, .agg [V0, S0, T0], m.enc] H Q := by
  replace hS := hS.pick hL
  have hsm := hg.sm
  rw [runR_1 hd] at hq
  refine CW_cast g9 F9 rfl ?_
  replace hS := Own.mono hS hle
  refine XW_sr ?_
  refine OW_boxR hS (le_app (p := ν) (b := [0, 0])) (under_app [0, 0] hβ) rfl rfl rfl ⟨rfl, rfl⟩ fun H1 hS1 => ?_
  replace hS1 : Own _ _ _ (_ :: _ :: L.eraseIdx k) := hS1
  refine OW_boxR hS1 le_refl (under_app [1, 0] hβ) rfl rfl rfl ⟨rfl, rfl⟩ fun H2 hS2 => ?_
  replace hS2 : Own _ _ _ (_ :: _ :: _ :: L.eraseIdx k) := hS2
  refine OW_allocR hS2 le_refl (under_app [2, 0] hβ) rfl rfl rfl rfl fun H3 hS3 => ?_
  replace hS3 : Own _ _ _ (_ :: _ :: _ :: _ :: L.eraseIdx k) := hS3
  refine EN50_CK12 rfl ?_
  refine OW_as rfl rfl ?_
  refine OW_as rfl rfl ?_
  refine EZ50_CK12 rfl ?_
  refine XW_srF (qs := [1 :: 0 :: ν]) rfl rfl ?_
  have hSF1 : Own _ _ _ (_ :: _ :: _ :: _ :: L.eraseIdx k) := (Own.hide (Own.hide0 hS3) (k := 1) rfl)
  refine OWF_op rfl ?_
  refine OW_mv rfl rfl ?_
  refine OW_nil ?_
  refine OWF_op rfl ?_
  refine OW_mv rfl rfl ?_
  refine OW_nil ?_
  refine OWF_op rfl ?_
  refine OW_loadR hSF1 (k := 2) rfl rfl rfl rfl rfl (by first | exact part_whole rfl rfl rfl | rfl) ?_
  refine OW_nil ?_
  refine FN50_CK12 rfl ?_
  refine OWF_op rfl ?_
  refine OW_fn rfl rfl (copied_c hV0 hS0' hT0 hSF1 (le_lit (ν := ν) (a := [3, 0]) (b := [3, 0, 1]) (by decide)) (under_app [3, 0, 1] hβ) (before_lit (ν := ν) (a := [3, 0, 1]) (b := [4, 0, 1]) (by decide)) hsm fun H4 V S1 T hS4 => ?_) 
  replace hS4 : Own _ _ _ (_ :: _ :: _ :: _ :: _ :: L.eraseIdx k) := hS4
  refine OW_nil ?_
  refine OWF_fl rfl ?_
  refine OW_loadK hS3 (k := 1) rfl (by simp) rfl rfl rfl rfl (by first | exact part_whole rfl rfl rfl | rfl) ?_
  refine OW_nil ?_
  refine OWF_op rfl ?_
  refine OW_bd rfl rfl (v := .agg [_, _, _, _, _, _, _, _, _, _, _, _, _, _, _, _]) rfl ?_
  refine OW_nil ?_
  refine FN50_CK12 rfl ?_
  refine OWF_op rfl ?_
  refine OW_boxR hS4 (le_lit (ν := ν) (a := [4, 0, 1]) (b := [6, 0, 1]) (by decide)) (under_app [6, 0, 1] hβ) rfl rfl rfl ⟨rfl, rfl⟩ fun H5 hS5 => ?_
  replace hS5 : Own _ _ _ (_ :: _ :: _ :: _ :: _ :: _ :: L.eraseIdx k) := hS5
  refine OW_nil ?_
  refine OWF_op rfl ?_
  refine OW_as rfl rfl ?_
  refine OW_nil ?_
  refine FZ50_CK12 rfl ?_
  have hSB1 : Own _ _ _ (_ :: _ :: _ :: _ :: _ :: _ :: L.eraseIdx k) := (Own.back hS3 (k := 1) rfl (Own.back0 hS5) (k' := 3) rfl)
  refine XW_sr ?_
  refine OW_bd rfl rfl (v := .agg [_, _, _, _, _, _]) rfl ?_
  refine OW_allocR hSB1 (le_lit (ν := ν) (a := [7, 0, 1]) (b := [1, 0, 1, 1]) (by decide)) (under_app [1, 0, 1, 1] hβ) rfl rfl rfl rfl fun H6 hS6 => ?_
  replace hS6 : Own _ _ _ (_ :: _ :: _ :: _ :: _ :: _ :: _ :: L.eraseIdx k) := hS6
  first
  | refine OW_storeR hS6 (k := 0) rfl le_refl rfl rfl rfl rfl ⟨rfl, rfl, Nat.le_of_ble_eq_true rfl⟩ (set_whole rfl rfl) fun H7 hS7 => ?_
  | refine OW_storeR hS6 (k := 0) rfl le_refl rfl rfl rfl rfl ⟨rfl, rfl, Nat.le_of_ble_eq_true rfl⟩ (u2 := .agg [_, _, _, _, _, _]) rfl fun H7 hS7 => ?_
  replace hS7 : Own _ _ _ (_ :: _ :: _ :: _ :: _ :: _ :: _ :: L.eraseIdx k) := hS7
  refine EZ50_CK12 rfl ?_
  refine XW_seq ?_
  refine XW_sr ?_
  refine OW_fa rfl rfl rfl ?_
  refine OW_loadR hS7 (k := 4) rfl rfl rfl rfl rfl (by first | exact part_whole rfl rfl rfl | rfl) ?_
  rw [hd]
  refine OW_bin rfl rfl rfl rfl rfl ?_
  refine EN50_CK12 rfl ?_
  refine OW_mv rfl rfl ?_
  refine OW_fa rfl rfl rfl ?_
  refine OW_loadR hS7 (k := 4) rfl rfl rfl rfl rfl (by first | exact part_whole rfl rfl rfl | rfl) ?_
  refine EN50_CK12 rfl ?_
  rw [hd]
  refine OW_bin rfl rfl rfl rfl rfl ?_
  refine OW_pick rfl rfl rfl ?_
  refine EZ50_CK12 rfl ?_
  refine XW_no rfl rfl ?_
  refine XW_skip ?_
  refine then_norm ?_
  refine XW_sr ?_
  replace hS7 := Own.run_job hS7
  refine OW_fa rfl rfl rfl ?_
  refine OW_loadR hS7 (k := 4) rfl rfl rfl rfl rfl (by first | exact part_whole rfl rfl rfl | rfl) ?_
  rw [hd]
  refine OW_ia rfl rfl rfl (by first | rfl | exact ia_arr rfl rfl rfl (by omega) (by omega)) ?_
  refine EN50_CK12 rfl ?_
  refine OW_loadR hS7 (k := 2) rfl rfl rfl rfl rfl (by first | exact part_whole rfl rfl rfl | rfl) ?_
  refine OW_mv rfl rfl ?_
  refine OW_fv rfl rfl rfl (epoch_c hg hS7 (le_lit (ν := ν) (a := [3, 0, 1, 1]) (b := [5, 0, 1, 1, 1, 1]) (by decide)) (under_app [5, 0, 1, 1, 1, 1] hβ) (before_lit (ν := ν) (a := [5, 0, 1, 1, 1, 1]) (b := [6, 0, 1, 1, 1, 1]) (by decide)) fun H8 hS8 => ?_)
  replace hS8 : Own _ _ _ (_ :: _ :: _ :: _ :: _ :: _ :: L.eraseIdx k) := hS8
  refine EN50_CK12 rfl ?_
  refine OW_mv rfl rfl ?_
  refine OW_ex rfl rfl rfl ?_
  refine OW_ex rfl rfl rfl ?_
  refine EN50_CK12 rfl ?_
  refine OW_as rfl rfl ?_
  refine OW_as rfl rfl ?_
  refine EZ50_CK12 rfl ?_
  refine XW_sr ?_
  obtain ⟨V2, S2, T2, hz⟩ := Own.un_jobF (Own.job_F hS8)
  replace hS8 := hz
  refine OW_mv rfl rfl ?_
  first
  | refine OW_nc rfl rfl ?_
  | refine OW_nce rfl rfl ?_
  refine OW_fa rfl rfl rfl ?_
  refine EN50_CK12 rfl ?_
  refine OW_loadR hS8 (k := 0) rfl rfl rfl rfl rfl (by first | exact part_whole rfl rfl rfl | rfl) ?_
  refine OW_mv rfl rfl ?_
  refine OW_mv rfl rfl ?_
  refine EN50_CK12 rfl ?_
  first
  | refine OW_storeR hS8 (k := 4) rfl (le_lit (ν := ν) (a := [6, 0, 1, 1, 1, 1]) (b := [6, 0, 1, 1, 1, 1, 1]) (by decide)) rfl rfl rfl rfl ⟨rfl, rfl, Nat.le_of_ble_eq_true rfl⟩ (set_whole rfl rfl) fun H9 hS9 => ?_
  | refine OW_storeR hS8 (k := 4) rfl (le_lit (ν := ν) (a := [6, 0, 1, 1, 1, 1]) (b := [6, 0, 1, 1, 1, 1, 1]) (by decide)) rfl rfl rfl rfl ⟨rfl, rfl, Nat.le_of_ble_eq_true rfl⟩ (u2 := .agg [_, _, _]) rfl fun H9 hS9 => ?_
  replace hS9 : Own _ _ _ (_ :: _ :: _ :: _ :: _ :: _ :: _ :: L.eraseIdx k) := hS9
  refine OW_as rfl rfl ?_
  refine OW_as rfl rfl ?_
  refine EZ50_CK12 rfl ?_
  refine XW_ret ?_
  refine ret_ret (res3 rfl (rv_cellR hS9 (k := 4) rfl rfl rfl rfl (by first | exact part_whole rfl rfl rfl | rfl)) (rv_tmp rfl) (rv_tmp rfl)) ?_
  have hz := Own.drop (Own.drop (Own.drop (Own.drop (Own.drop0 (Own.mono hS9 (le_bef (bef_app (a := [7, 0, 1, 1, 1, 1, 1]) hp)))) (k := 5) rfl) (k := 4) rfl) (k := 3) rfl) (k := 2) rfl
  obtain ⟨fz, hfz, _⟩ := hz.get (k := 0) rfl
  rw [fz3 hfz]; exact hq _ (Own.unpick (Own.lose hz fun f hf => rc3 hf) hL)
theorem run_2 (hg : c.good) (hm : m.fit) (hd : m.d = 2)  (hV0 : Ls V0 (c.vs.map Vo.enc)) (hS0' : Ls S0 (c.ss.map SE.Se.enc)) (hT0 : Ls T0 (c.qs.map Qu.enc)) (hS : Own β ps H L) (hL : L[k]? = some (orc qo S.of)) (hle : le ps ν) (hβ : under β ν = true) (hp : before ν pos')
    (hq : ∀ H1, Own β pos' H1 (L.set k (orc qo (runR S key c m).2.of)) → Q (.tup [(runR S key c m).1.c.enc, .int .i64 (runR S key c m).1.e, .str (runR S key c m).1.an]) H1) : CW cfg ν 9 [.ptr qo 0 0, .int .u64 key, .agg [V0, S0, T0], m.enc] H Q := by
  replace hS := hS.pick hL
  have hsm := hg.sm
  rw [runR_2 hd] at hq
  refine CW_cast g9 F9 rfl ?_
  replace hS := Own.mono hS hle
  refine XW_sr ?_
  refine OW_boxR hS (le_app (p := ν) (b := [0, 0])) (under_app [0, 0] hβ) rfl rfl rfl ⟨rfl, rfl⟩ fun H1 hS1 => ?_
  replace hS1 : Own _ _ _ (_ :: _ :: L.eraseIdx k) := hS1
  refine OW_boxR hS1 le_refl (under_app [1, 0] hβ) rfl rfl rfl ⟨rfl, rfl⟩ fun H2 hS2 => ?_
  replace hS2 : Own _ _ _ (_ :: _ :: _ :: L.eraseIdx k) := hS2
  refine OW_allocR hS2 le_refl (under_app [2, 0] hβ) rfl rfl rfl rfl fun H3 hS3 => ?_
  replace hS3 : Own _ _ _ (_ :: _ :: _ :: _ :: L.eraseIdx k) := hS3
  refine EN50_CK12 rfl ?_
  refine OW_as rfl rfl ?_
  refine OW_as rfl rfl ?_
  refine EZ50_CK12 rfl ?_
  refine XW_srF (qs := [1 :: 0 :: ν]) rfl rfl ?_
  have hSF1 : Own _ _ _ (_ :: _ :: _ :: _ :: L.eraseIdx k) := (Own.hide (Own.hide0 hS3) (k := 1) rfl)
  refine OWF_op rfl ?_
  refine OW_mv rfl rfl ?_
  refine OW_nil ?_
  refine OWF_op rfl ?_
  refine OW_mv rfl rfl ?_
  refine OW_nil ?_
  refine OWF_op rfl ?_
  refine OW_loadR hSF1 (k := 2) rfl rfl rfl rfl rfl (by first | exact part_whole rfl rfl rfl | rfl) ?_
  refine OW_nil ?_
  refine FN50_CK12 rfl ?_
  refine OWF_op rfl ?_
  refine OW_fn rfl rfl (copied_c hV0 hS0' hT0 hSF1 (le_lit (ν := ν) (a := [3, 0]) (b := [3, 0, 1]) (by decide)) (under_app [3, 0, 1] hβ) (before_lit (ν := ν) (a := [3, 0, 1]) (b := [4, 0, 1]) (by decide)) hsm fun H4 V S1 T hS4 => ?_) 
  replace hS4 : Own _ _ _ (_ :: _ :: _ :: _ :: _ :: L.eraseIdx k) := hS4
  refine OW_nil ?_
  refine OWF_fl rfl ?_
  refine OW_loadK hS3 (k := 1) rfl (by simp) rfl rfl rfl rfl (by first | exact part_whole rfl rfl rfl | rfl) ?_
  refine OW_nil ?_
  refine OWF_op rfl ?_
  refine OW_bd rfl rfl (v := .agg [_, _, _, _, _, _, _, _, _, _, _, _, _, _, _, _]) rfl ?_
  refine OW_nil ?_
  refine FN50_CK12 rfl ?_
  refine OWF_op rfl ?_
  refine OW_boxR hS4 (le_lit (ν := ν) (a := [4, 0, 1]) (b := [6, 0, 1]) (by decide)) (under_app [6, 0, 1] hβ) rfl rfl rfl ⟨rfl, rfl⟩ fun H5 hS5 => ?_
  replace hS5 : Own _ _ _ (_ :: _ :: _ :: _ :: _ :: _ :: L.eraseIdx k) := hS5
  refine OW_nil ?_
  refine OWF_op rfl ?_
  refine OW_as rfl rfl ?_
  refine OW_nil ?_
  refine FZ50_CK12 rfl ?_
  have hSB1 : Own _ _ _ (_ :: _ :: _ :: _ :: _ :: _ :: L.eraseIdx k) := (Own.back hS3 (k := 1) rfl (Own.back0 hS5) (k' := 3) rfl)
  refine XW_sr ?_
  refine OW_bd rfl rfl (v := .agg [_, _, _, _, _, _]) rfl ?_
  refine OW_allocR hSB1 (le_lit (ν := ν) (a := [7, 0, 1]) (b := [1, 0, 1, 1]) (by decide)) (under_app [1, 0, 1, 1] hβ) rfl rfl rfl rfl fun H6 hS6 => ?_
  replace hS6 : Own _ _ _ (_ :: _ :: _ :: _ :: _ :: _ :: _ :: L.eraseIdx k) := hS6
  first
  | refine OW_storeR hS6 (k := 0) rfl le_refl rfl rfl rfl rfl ⟨rfl, rfl, Nat.le_of_ble_eq_true rfl⟩ (set_whole rfl rfl) fun H7 hS7 => ?_
  | refine OW_storeR hS6 (k := 0) rfl le_refl rfl rfl rfl rfl ⟨rfl, rfl, Nat.le_of_ble_eq_true rfl⟩ (u2 := .agg [_, _, _, _, _, _]) rfl fun H7 hS7 => ?_
  replace hS7 : Own _ _ _ (_ :: _ :: _ :: _ :: _ :: _ :: _ :: L.eraseIdx k) := hS7
  refine EZ50_CK12 rfl ?_
  refine XW_seq ?_
  refine XW_sr ?_
  refine OW_fa rfl rfl rfl ?_
  refine OW_loadR hS7 (k := 4) rfl rfl rfl rfl rfl (by first | exact part_whole rfl rfl rfl | rfl) ?_
  rw [hd]
  refine OW_bin rfl rfl rfl rfl rfl ?_
  refine EN50_CK12 rfl ?_
  refine OW_mv rfl rfl ?_
  refine OW_fa rfl rfl rfl ?_
  refine OW_loadR hS7 (k := 4) rfl rfl rfl rfl rfl (by first | exact part_whole rfl rfl rfl | rfl) ?_
  refine EN50_CK12 rfl ?_
  rw [hd]
  refine OW_bin rfl rfl rfl rfl rfl ?_
  refine OW_pick rfl rfl rfl ?_
  refine EZ50_CK12 rfl ?_
  refine XW_no rfl rfl ?_
  refine XW_skip ?_
  refine then_norm ?_
  refine XW_sr ?_
  replace hS7 := Own.run_job hS7
  refine OW_fa rfl rfl rfl ?_
  refine OW_loadR hS7 (k := 4) rfl rfl rfl rfl rfl (by first | exact part_whole rfl rfl rfl | rfl) ?_
  rw [hd]
  refine OW_ia rfl rfl rfl (by first | rfl | exact ia_arr rfl rfl rfl (by omega) (by omega)) ?_
  refine EN50_CK12 rfl ?_
  refine OW_loadR hS7 (k := 2) rfl rfl rfl rfl rfl (by first | exact part_whole rfl rfl rfl | rfl) ?_
  refine OW_mv rfl rfl ?_
  refine OW_fv rfl rfl rfl (limit_c hg hS7 (le_lit (ν := ν) (a := [3, 0, 1, 1]) (b := [5, 0, 1, 1, 1, 1]) (by decide)) (under_app [5, 0, 1, 1, 1, 1] hβ) (before_lit (ν := ν) (a := [5, 0, 1, 1, 1, 1]) (b := [6, 0, 1, 1, 1, 1]) (by decide)) fun H8 hS8 => ?_)
  replace hS8 : Own _ _ _ (_ :: _ :: _ :: _ :: _ :: _ :: L.eraseIdx k) := hS8
  refine EN50_CK12 rfl ?_
  refine OW_mv rfl rfl ?_
  refine OW_ex rfl rfl rfl ?_
  refine OW_ex rfl rfl rfl ?_
  refine EN50_CK12 rfl ?_
  refine OW_as rfl rfl ?_
  refine OW_as rfl rfl ?_
  refine EZ50_CK12 rfl ?_
  refine XW_sr ?_
  obtain ⟨V2, S2, T2, hz⟩ := Own.un_jobF (Own.job_F hS8)
  replace hS8 := hz
  refine OW_mv rfl rfl ?_
  first
  | refine OW_nc rfl rfl ?_
  | refine OW_nce rfl rfl ?_
  refine OW_fa rfl rfl rfl ?_
  refine EN50_CK12 rfl ?_
  refine OW_loadR hS8 (k := 0) rfl rfl rfl rfl rfl (by first | exact part_whole rfl rfl rfl | rfl) ?_
  refine OW_mv rfl rfl ?_
  refine OW_mv rfl rfl ?_
  refine EN50_CK12 rfl ?_
  first
  | refine OW_storeR hS8 (k := 4) rfl (le_lit (ν := ν) (a := [6, 0, 1, 1, 1, 1]) (b := [6, 0, 1, 1, 1, 1, 1]) (by decide)) rfl rfl rfl rfl ⟨rfl, rfl, Nat.le_of_ble_eq_true rfl⟩ (set_whole rfl rfl) fun H9 hS9 => ?_
  | refine OW_storeR hS8 (k := 4) rfl (le_lit (ν := ν) (a := [6, 0, 1, 1, 1, 1]) (b := [6, 0, 1, 1, 1, 1, 1]) (by decide)) rfl rfl rfl rfl ⟨rfl, rfl, Nat.le_of_ble_eq_true rfl⟩ (u2 := .agg [_, _, _]) rfl fun H9 hS9 => ?_
  replace hS9 : Own _ _ _ (_ :: _ :: _ :: _ :: _ :: _ :: _ :: L.eraseIdx k) := hS9
  refine OW_as rfl rfl ?_
  refine OW_as rfl rfl ?_
  refine EZ50_CK12 rfl ?_
  refine XW_ret ?_
  refine ret_ret (res3 rfl (rv_cellR hS9 (k := 4) rfl rfl rfl rfl (by first | exact part_whole rfl rfl rfl | rfl)) (rv_tmp rfl) (rv_tmp rfl)) ?_
  have hz := Own.drop (Own.drop (Own.drop (Own.drop (Own.drop0 (Own.mono hS9 (le_bef (bef_app (a := [7, 0, 1, 1, 1, 1, 1]) hp)))) (k := 5) rfl) (k := 4) rfl) (k := 3) rfl) (k := 2) rfl
  obtain ⟨fz, hfz, _⟩ := hz.get (k := 0) rfl
  rw [fz3 hfz]; exact hq _ (Own.unpick (Own.lose hz fun f hf => rc3 hf) hL)
theorem run_3 (hg : c.good) (hm : m.fit) (hd : m.d = 3) (he : (leafE S key c m 2).1 = 0) (hV0 : Ls V0 (c.vs.map Vo.enc)) (hS0' : Ls S0 (c.ss.map SE.Se.enc)) (hT0 : Ls T0 (c.qs.map Qu.enc)) (hS : Own β ps H L) (hL : L[k]? = some (orc qo S.of)) (hle : le ps ν) (hβ : under β ν = true) (hp : before ν pos')
    (hq : ∀ H1, Own β pos' H1 (L.set k (orc qo (runR S key c m).2.of)) → Q (.tup [(runR S key c m).1.c.enc, .int .i64 (runR S key c m).1.e, .str (runR S key c m).1.an]) H1) : CW cfg ν 9 [.ptr qo 0 0, .int .u64 key, .agg [V0, S0, T0], m.enc] H Q := by
  replace hS := hS.pick hL
  have hsm := hg.sm
  rw [runR_3 hd, leafR_ok he] at hq
  refine CW_cast g9 F9 rfl ?_
  replace hS := Own.mono hS hle
  refine XW_sr ?_
  refine OW_boxR hS (le_app (p := ν) (b := [0, 0])) (under_app [0, 0] hβ) rfl rfl rfl ⟨rfl, rfl⟩ fun H1 hS1 => ?_
  replace hS1 : Own _ _ _ (_ :: _ :: L.eraseIdx k) := hS1
  refine OW_boxR hS1 le_refl (under_app [1, 0] hβ) rfl rfl rfl ⟨rfl, rfl⟩ fun H2 hS2 => ?_
  replace hS2 : Own _ _ _ (_ :: _ :: _ :: L.eraseIdx k) := hS2
  refine OW_allocR hS2 le_refl (under_app [2, 0] hβ) rfl rfl rfl rfl fun H3 hS3 => ?_
  replace hS3 : Own _ _ _ (_ :: _ :: _ :: _ :: L.eraseIdx k) := hS3
  refine EN50_CK12 rfl ?_
  refine OW_as rfl rfl ?_
  refine OW_as rfl rfl ?_
  refine EZ50_CK12 rfl ?_
  refine XW_srF (qs := [1 :: 0 :: ν]) rfl rfl ?_
  have hSF1 : Own _ _ _ (_ :: _ :: _ :: _ :: L.eraseIdx k) := (Own.hide (Own.hide0 hS3) (k := 1) rfl)
  refine OWF_op rfl ?_
  refine OW_mv rfl rfl ?_
  refine OW_nil ?_
  refine OWF_op rfl ?_
  refine OW_mv rfl rfl ?_
  refine OW_nil ?_
  refine OWF_op rfl ?_
  refine OW_loadR hSF1 (k := 2) rfl rfl rfl rfl rfl (by first | exact part_whole rfl rfl rfl | rfl) ?_
  refine OW_nil ?_
  refine FN50_CK12 rfl ?_
  refine OWF_op rfl ?_
  refine OW_fn rfl rfl (copied_c hV0 hS0' hT0 hSF1 (le_lit (ν := ν) (a := [3, 0]) (b := [3, 0, 1]) (by decide)) (under_app [3, 0, 1] hβ) (before_lit (ν := ν) (a := [3, 0, 1]) (b := [4, 0, 1]) (by decide)) hsm fun H4 V S1 T hS4 => ?_) 
  replace hS4 : Own _ _ _ (_ :: _ :: _ :: _ :: _ :: L.eraseIdx k) := hS4
  refine OW_nil ?_
  refine OWF_fl rfl ?_
  refine OW_loadK hS3 (k := 1) rfl (by simp) rfl rfl rfl rfl (by first | exact part_whole rfl rfl rfl | rfl) ?_
  refine OW_nil ?_
  refine OWF_op rfl ?_
  refine OW_bd rfl rfl (v := .agg [_, _, _, _, _, _, _, _, _, _, _, _, _, _, _, _]) rfl ?_
  refine OW_nil ?_
  refine FN50_CK12 rfl ?_
  refine OWF_op rfl ?_
  refine OW_boxR hS4 (le_lit (ν := ν) (a := [4, 0, 1]) (b := [6, 0, 1]) (by decide)) (under_app [6, 0, 1] hβ) rfl rfl rfl ⟨rfl, rfl⟩ fun H5 hS5 => ?_
  replace hS5 : Own _ _ _ (_ :: _ :: _ :: _ :: _ :: _ :: L.eraseIdx k) := hS5
  refine OW_nil ?_
  refine OWF_op rfl ?_
  refine OW_as rfl rfl ?_
  refine OW_nil ?_
  refine FZ50_CK12 rfl ?_
  have hSB1 : Own _ _ _ (_ :: _ :: _ :: _ :: _ :: _ :: L.eraseIdx k) := (Own.back hS3 (k := 1) rfl (Own.back0 hS5) (k' := 3) rfl)
  refine XW_sr ?_
  refine OW_bd rfl rfl (v := .agg [_, _, _, _, _, _]) rfl ?_
  refine OW_allocR hSB1 (le_lit (ν := ν) (a := [7, 0, 1]) (b := [1, 0, 1, 1]) (by decide)) (under_app [1, 0, 1, 1] hβ) rfl rfl rfl rfl fun H6 hS6 => ?_
  replace hS6 : Own _ _ _ (_ :: _ :: _ :: _ :: _ :: _ :: _ :: L.eraseIdx k) := hS6
  first
  | refine OW_storeR hS6 (k := 0) rfl le_refl rfl rfl rfl rfl ⟨rfl, rfl, Nat.le_of_ble_eq_true rfl⟩ (set_whole rfl rfl) fun H7 hS7 => ?_
  | refine OW_storeR hS6 (k := 0) rfl le_refl rfl rfl rfl rfl ⟨rfl, rfl, Nat.le_of_ble_eq_true rfl⟩ (u2 := .agg [_, _, _, _, _, _]) rfl fun H7 hS7 => ?_
  replace hS7 : Own _ _ _ (_ :: _ :: _ :: _ :: _ :: _ :: _ :: L.eraseIdx k) := hS7
  refine EZ50_CK12 rfl ?_
  refine XW_seq ?_
  refine XW_sr ?_
  refine OW_fa rfl rfl rfl ?_
  refine OW_loadR hS7 (k := 4) rfl rfl rfl rfl rfl (by first | exact part_whole rfl rfl rfl | rfl) ?_
  rw [hd]
  refine OW_bin rfl rfl rfl rfl rfl ?_
  refine EN50_CK12 rfl ?_
  refine OW_mv rfl rfl ?_
  refine OW_fa rfl rfl rfl ?_
  refine OW_loadR hS7 (k := 4) rfl rfl rfl rfl rfl (by first | exact part_whole rfl rfl rfl | rfl) ?_
  refine EN50_CK12 rfl ?_
  rw [hd]
  refine OW_bin rfl rfl rfl rfl rfl ?_
  refine OW_pick rfl rfl rfl ?_
  refine EZ50_CK12 rfl ?_
  refine XW_no rfl rfl ?_
  refine XW_skip ?_
  refine then_norm ?_
  refine XW_sr ?_
  replace hS7 := Own.run_job hS7
  refine OW_fa rfl rfl rfl ?_
  refine OW_loadR hS7 (k := 4) rfl rfl rfl rfl rfl (by first | exact part_whole rfl rfl rfl | rfl) ?_
  rw [hd]
  refine OW_ia rfl rfl rfl (by first | rfl | exact ia_arr rfl rfl rfl (by omega) (by omega)) ?_
  refine EN50_CK12 rfl ?_
  refine OW_loadR hS7 (k := 2) rfl rfl rfl rfl rfl (by first | exact part_whole rfl rfl rfl | rfl) ?_
  refine OW_mv rfl rfl ?_
  refine OW_fv rfl rfl rfl (put_ok hg hm he hS7 (le_lit (ν := ν) (a := [3, 0, 1, 1]) (b := [5, 0, 1, 1, 1, 1]) (by decide)) (under_app [5, 0, 1, 1, 1, 1] hβ) (before_lit (ν := ν) (a := [5, 0, 1, 1, 1, 1]) (b := [6, 0, 1, 1, 1, 1]) (by decide)) fun H8 hS8 => ?_)
  replace hS8 : Own _ _ _ (_ :: _ :: _ :: _ :: _ :: _ :: L.eraseIdx k) := hS8
  refine EN50_CK12 rfl ?_
  refine OW_mv rfl rfl ?_
  refine OW_ex rfl rfl rfl ?_
  refine OW_ex rfl rfl rfl ?_
  refine EN50_CK12 rfl ?_
  refine OW_as rfl rfl ?_
  refine OW_as rfl rfl ?_
  refine EZ50_CK12 rfl ?_
  refine XW_sr ?_
  obtain ⟨V2, S2, T2, hz⟩ := Own.un_jobF (Own.job_F hS8)
  replace hS8 := hz
  refine OW_mv rfl rfl ?_
  first
  | refine OW_nc rfl rfl ?_
  | refine OW_nce rfl rfl ?_
  refine OW_fa rfl rfl rfl ?_
  refine EN50_CK12 rfl ?_
  refine OW_loadR hS8 (k := 0) rfl rfl rfl rfl rfl (by first | exact part_whole rfl rfl rfl | rfl) ?_
  refine OW_mv rfl rfl ?_
  refine OW_mv rfl rfl ?_
  refine EN50_CK12 rfl ?_
  first
  | refine OW_storeR hS8 (k := 4) rfl (le_lit (ν := ν) (a := [6, 0, 1, 1, 1, 1]) (b := [6, 0, 1, 1, 1, 1, 1]) (by decide)) rfl rfl rfl rfl ⟨rfl, rfl, Nat.le_of_ble_eq_true rfl⟩ (set_whole rfl rfl) fun H9 hS9 => ?_
  | refine OW_storeR hS8 (k := 4) rfl (le_lit (ν := ν) (a := [6, 0, 1, 1, 1, 1]) (b := [6, 0, 1, 1, 1, 1, 1]) (by decide)) rfl rfl rfl rfl ⟨rfl, rfl, Nat.le_of_ble_eq_true rfl⟩ (u2 := .agg [_, _, _]) rfl fun H9 hS9 => ?_
  replace hS9 : Own _ _ _ (_ :: _ :: _ :: _ :: _ :: _ :: _ :: L.eraseIdx k) := hS9
  refine OW_as rfl rfl ?_
  refine OW_as rfl rfl ?_
  refine EZ50_CK12 rfl ?_
  refine XW_ret ?_
  refine ret_ret (res3 rfl (rv_cellR hS9 (k := 4) rfl rfl rfl rfl (by first | exact part_whole rfl rfl rfl | rfl)) (rv_tmp rfl) (rv_tmp rfl)) ?_
  have hz := Own.drop (Own.drop (Own.drop (Own.drop (Own.drop0 (Own.mono hS9 (le_bef (bef_app (a := [7, 0, 1, 1, 1, 1, 1]) hp)))) (k := 5) rfl) (k := 4) rfl) (k := 3) rfl) (k := 2) rfl
  obtain ⟨fz, hfz, _⟩ := hz.get (k := 0) rfl
  rw [fz3 hfz]; exact hq _ (Own.unpick (Own.lose hz fun f hf => rc3 hf) hL)
theorem run_3e (hg : c.good) (hm : m.fit) (hd : m.d = 3) (he : (leafE S key c m 2).1 ≠ 0) (hV0 : Ls V0 (c.vs.map Vo.enc)) (hS0' : Ls S0 (c.ss.map SE.Se.enc)) (hT0 : Ls T0 (c.qs.map Qu.enc)) (hS : Own β ps H L) (hL : L[k]? = some (orc qo S.of)) (hle : le ps ν) (hβ : under β ν = true) (hp : before ν pos')
    (hq : ∀ H1, Own β pos' H1 (L.set k (orc qo (runR S key c m).2.of)) → Q (.tup [(runR S key c m).1.c.enc, .int .i64 (runR S key c m).1.e, .str (runR S key c m).1.an]) H1) : CW cfg ν 9 [.ptr qo 0 0, .int .u64 key, .agg [V0, S0, T0], m.enc] H Q := by
  replace hS := hS.pick hL
  have hsm := hg.sm
  rw [runR_3 hd, leafR_err he] at hq
  refine CW_cast g9 F9 rfl ?_
  replace hS := Own.mono hS hle
  refine XW_sr ?_
  refine OW_boxR hS (le_app (p := ν) (b := [0, 0])) (under_app [0, 0] hβ) rfl rfl rfl ⟨rfl, rfl⟩ fun H1 hS1 => ?_
  replace hS1 : Own _ _ _ (_ :: _ :: L.eraseIdx k) := hS1
  refine OW_boxR hS1 le_refl (under_app [1, 0] hβ) rfl rfl rfl ⟨rfl, rfl⟩ fun H2 hS2 => ?_
  replace hS2 : Own _ _ _ (_ :: _ :: _ :: L.eraseIdx k) := hS2
  refine OW_allocR hS2 le_refl (under_app [2, 0] hβ) rfl rfl rfl rfl fun H3 hS3 => ?_
  replace hS3 : Own _ _ _ (_ :: _ :: _ :: _ :: L.eraseIdx k) := hS3
  refine EN50_CK12 rfl ?_
  refine OW_as rfl rfl ?_
  refine OW_as rfl rfl ?_
  refine EZ50_CK12 rfl ?_
  refine XW_srF (qs := [1 :: 0 :: ν]) rfl rfl ?_
  have hSF1 : Own _ _ _ (_ :: _ :: _ :: _ :: L.eraseIdx k) := (Own.hide (Own.hide0 hS3) (k := 1) rfl)
  refine OWF_op rfl ?_
  refine OW_mv rfl rfl ?_
  refine OW_nil ?_
  refine OWF_op rfl ?_
  refine OW_mv rfl rfl ?_
  refine OW_nil ?_
  refine OWF_op rfl ?_
  refine OW_loadR hSF1 (k := 2) rfl rfl rfl rfl rfl (by first | exact part_whole rfl rfl rfl | rfl) ?_
  refine OW_nil ?_
  refine FN50_CK12 rfl ?_
  refine OWF_op rfl ?_
  refine OW_fn rfl rfl (copied_c hV0 hS0' hT0 hSF1 (le_lit (ν := ν) (a := [3, 0]) (b := [3, 0, 1]) (by decide)) (under_app [3, 0, 1] hβ) (before_lit (ν := ν) (a := [3, 0, 1]) (b := [4, 0, 1]) (by decide)) hsm fun H4 V S1 T hS4 => ?_) 
  replace hS4 : Own _ _ _ (_ :: _ :: _ :: _ :: _ :: L.eraseIdx k) := hS4
  refine OW_nil ?_
  refine OWF_fl rfl ?_
  refine OW_loadK hS3 (k := 1) rfl (by simp) rfl rfl rfl rfl (by first | exact part_whole rfl rfl rfl | rfl) ?_
  refine OW_nil ?_
  refine OWF_op rfl ?_
  refine OW_bd rfl rfl (v := .agg [_, _, _, _, _, _, _, _, _, _, _, _, _, _, _, _]) rfl ?_
  refine OW_nil ?_
  refine FN50_CK12 rfl ?_
  refine OWF_op rfl ?_
  refine OW_boxR hS4 (le_lit (ν := ν) (a := [4, 0, 1]) (b := [6, 0, 1]) (by decide)) (under_app [6, 0, 1] hβ) rfl rfl rfl ⟨rfl, rfl⟩ fun H5 hS5 => ?_
  replace hS5 : Own _ _ _ (_ :: _ :: _ :: _ :: _ :: _ :: L.eraseIdx k) := hS5
  refine OW_nil ?_
  refine OWF_op rfl ?_
  refine OW_as rfl rfl ?_
  refine OW_nil ?_
  refine FZ50_CK12 rfl ?_
  have hSB1 : Own _ _ _ (_ :: _ :: _ :: _ :: _ :: _ :: L.eraseIdx k) := (Own.back hS3 (k := 1) rfl (Own.back0 hS5) (k' := 3) rfl)
  refine XW_sr ?_
  refine OW_bd rfl rfl (v := .agg [_, _, _, _, _, _]) rfl ?_
  refine OW_allocR hSB1 (le_lit (ν := ν) (a := [7, 0, 1]) (b := [1, 0, 1, 1]) (by decide)) (under_app [1, 0, 1, 1] hβ) rfl rfl rfl rfl fun H6 hS6 => ?_
  replace hS6 : Own _ _ _ (_ :: _ :: _ :: _ :: _ :: _ :: _ :: L.eraseIdx k) := hS6
  first
  | refine OW_storeR hS6 (k := 0) rfl le_refl rfl rfl rfl rfl ⟨rfl, rfl, Nat.le_of_ble_eq_true rfl⟩ (set_whole rfl rfl) fun H7 hS7 => ?_
  | refine OW_storeR hS6 (k := 0) rfl le_refl rfl rfl rfl rfl ⟨rfl, rfl, Nat.le_of_ble_eq_true rfl⟩ (u2 := .agg [_, _, _, _, _, _]) rfl fun H7 hS7 => ?_
  replace hS7 : Own _ _ _ (_ :: _ :: _ :: _ :: _ :: _ :: _ :: L.eraseIdx k) := hS7
  refine EZ50_CK12 rfl ?_
  refine XW_seq ?_
  refine XW_sr ?_
  refine OW_fa rfl rfl rfl ?_
  refine OW_loadR hS7 (k := 4) rfl rfl rfl rfl rfl (by first | exact part_whole rfl rfl rfl | rfl) ?_
  rw [hd]
  refine OW_bin rfl rfl rfl rfl rfl ?_
  refine EN50_CK12 rfl ?_
  refine OW_mv rfl rfl ?_
  refine OW_fa rfl rfl rfl ?_
  refine OW_loadR hS7 (k := 4) rfl rfl rfl rfl rfl (by first | exact part_whole rfl rfl rfl | rfl) ?_
  refine EN50_CK12 rfl ?_
  rw [hd]
  refine OW_bin rfl rfl rfl rfl rfl ?_
  refine OW_pick rfl rfl rfl ?_
  refine EZ50_CK12 rfl ?_
  refine XW_no rfl rfl ?_
  refine XW_skip ?_
  refine then_norm ?_
  refine XW_sr ?_
  replace hS7 := Own.run_job hS7
  refine OW_fa rfl rfl rfl ?_
  refine OW_loadR hS7 (k := 4) rfl rfl rfl rfl rfl (by first | exact part_whole rfl rfl rfl | rfl) ?_
  rw [hd]
  refine OW_ia rfl rfl rfl (by first | rfl | exact ia_arr rfl rfl rfl (by omega) (by omega)) ?_
  refine EN50_CK12 rfl ?_
  refine OW_loadR hS7 (k := 2) rfl rfl rfl rfl rfl (by first | exact part_whole rfl rfl rfl | rfl) ?_
  refine OW_mv rfl rfl ?_
  refine OW_fv rfl rfl rfl (put_err hg hm he hS7 (le_lit (ν := ν) (a := [3, 0, 1, 1]) (b := [5, 0, 1, 1, 1, 1]) (by decide)) (under_app [5, 0, 1, 1, 1, 1] hβ) (before_lit (ν := ν) (a := [5, 0, 1, 1, 1, 1]) (b := [6, 0, 1, 1, 1, 1]) (by decide)) fun H8 hS8 => ?_)
  replace hS8 : Own _ _ _ (_ :: _ :: _ :: _ :: _ :: _ :: L.eraseIdx k) := hS8
  refine EN50_CK12 rfl ?_
  refine OW_mv rfl rfl ?_
  refine OW_ex rfl rfl rfl ?_
  refine OW_ex rfl rfl rfl ?_
  refine EN50_CK12 rfl ?_
  refine OW_as rfl rfl ?_
  refine OW_as rfl rfl ?_
  refine EZ50_CK12 rfl ?_
  refine XW_sr ?_
  obtain ⟨V2, S2, T2, hz⟩ := Own.un_jobF (Own.job_F hS8)
  replace hS8 := hz
  refine OW_mv rfl rfl ?_
  first
  | refine OW_nc rfl rfl ?_
  | refine OW_nce rfl rfl ?_
  refine OW_fa rfl rfl rfl ?_
  refine EN50_CK12 rfl ?_
  refine OW_loadR hS8 (k := 0) rfl rfl rfl rfl rfl (by first | exact part_whole rfl rfl rfl | rfl) ?_
  refine OW_mv rfl rfl ?_
  refine OW_mv rfl rfl ?_
  refine EN50_CK12 rfl ?_
  first
  | refine OW_storeR hS8 (k := 4) rfl (le_lit (ν := ν) (a := [6, 0, 1, 1, 1, 1]) (b := [6, 0, 1, 1, 1, 1, 1]) (by decide)) rfl rfl rfl rfl ⟨rfl, rfl, Nat.le_of_ble_eq_true rfl⟩ (set_whole rfl rfl) fun H9 hS9 => ?_
  | refine OW_storeR hS8 (k := 4) rfl (le_lit (ν := ν) (a := [6, 0, 1, 1, 1, 1]) (b := [6, 0, 1, 1, 1, 1, 1]) (by decide)) rfl rfl rfl rfl ⟨rfl, rfl, Nat.le_of_ble_eq_true rfl⟩ (u2 := .agg [_, _, _]) rfl fun H9 hS9 => ?_
  replace hS9 : Own _ _ _ (_ :: _ :: _ :: _ :: _ :: _ :: _ :: L.eraseIdx k) := hS9
  refine OW_as rfl rfl ?_
  refine OW_as rfl rfl ?_
  refine EZ50_CK12 rfl ?_
  refine XW_ret ?_
  refine ret_ret (res3 rfl (rv_cellR hS9 (k := 4) rfl rfl rfl rfl (by first | exact part_whole rfl rfl rfl | rfl)) (rv_tmp rfl) (rv_tmp rfl)) ?_
  have hz := Own.drop (Own.drop (Own.drop (Own.drop (Own.drop0 (Own.mono hS9 (le_bef (bef_app (a := [7, 0, 1, 1, 1, 1, 1]) hp)))) (k := 5) rfl) (k := 4) rfl) (k := 3) rfl) (k := 2) rfl
  obtain ⟨fz, hfz, _⟩ := hz.get (k := 0) rfl
  rw [fz3 hfz]; exact hq _ (Own.unpick (Own.lose hz fun f hf => rc3 hf) hL)
theorem run_4 (hg : c.good) (hm : m.fit) (hd : m.d = 4) (he : (leafE S key c m 1).1 = 0) (hV0 : Ls V0 (c.vs.map Vo.enc)) (hS0' : Ls S0 (c.ss.map SE.Se.enc)) (hT0 : Ls T0 (c.qs.map Qu.enc)) (hS : Own β ps H L) (hL : L[k]? = some (orc qo S.of)) (hle : le ps ν) (hβ : under β ν = true) (hp : before ν pos')
    (hq : ∀ H1, Own β pos' H1 (L.set k (orc qo (runR S key c m).2.of)) → Q (.tup [(runR S key c m).1.c.enc, .int .i64 (runR S key c m).1.e, .str (runR S key c m).1.an]) H1) : CW cfg ν 9 [.ptr qo 0 0, .int .u64 key, .agg [V0, S0, T0], m.enc] H Q := by
  replace hS := hS.pick hL
  have hsm := hg.sm
  rw [runR_4 hd, leafR_ok he] at hq
  refine CW_cast g9 F9 rfl ?_
  replace hS := Own.mono hS hle
  refine XW_sr ?_
  refine OW_boxR hS (le_app (p := ν) (b := [0, 0])) (under_app [0, 0] hβ) rfl rfl rfl ⟨rfl, rfl⟩ fun H1 hS1 => ?_
  replace hS1 : Own _ _ _ (_ :: _ :: L.eraseIdx k) := hS1
  refine OW_boxR hS1 le_refl (under_app [1, 0] hβ) rfl rfl rfl ⟨rfl, rfl⟩ fun H2 hS2 => ?_
  replace hS2 : Own _ _ _ (_ :: _ :: _ :: L.eraseIdx k) := hS2
  refine OW_allocR hS2 le_refl (under_app [2, 0] hβ) rfl rfl rfl rfl fun H3 hS3 => ?_
  replace hS3 : Own _ _ _ (_ :: _ :: _ :: _ :: L.eraseIdx k) := hS3
  refine EN50_CK12 rfl ?_
  refine OW_as rfl rfl ?_
  refine OW_as rfl rfl ?_
  refine EZ50_CK12 rfl ?_
  refine XW_srF (qs := [1 :: 0 :: ν]) rfl rfl ?_
  have hSF1 : Own _ _ _ (_ :: _ :: _ :: _ :: L.eraseIdx k) := (Own.hide (Own.hide0 hS3) (k := 1) rfl)
  refine OWF_op rfl ?_
  refine OW_mv rfl rfl ?_
  refine OW_nil ?_
  refine OWF_op rfl ?_
  refine OW_mv rfl rfl ?_
  refine OW_nil ?_
  refine OWF_op rfl ?_
  refine OW_loadR hSF1 (k := 2) rfl rfl rfl rfl rfl (by first | exact part_whole rfl rfl rfl | rfl) ?_
  refine OW_nil ?_
  refine FN50_CK12 rfl ?_
  refine OWF_op rfl ?_
  refine OW_fn rfl rfl (copied_c hV0 hS0' hT0 hSF1 (le_lit (ν := ν) (a := [3, 0]) (b := [3, 0, 1]) (by decide)) (under_app [3, 0, 1] hβ) (before_lit (ν := ν) (a := [3, 0, 1]) (b := [4, 0, 1]) (by decide)) hsm fun H4 V S1 T hS4 => ?_) 
  replace hS4 : Own _ _ _ (_ :: _ :: _ :: _ :: _ :: L.eraseIdx k) := hS4
  refine OW_nil ?_
  refine OWF_fl rfl ?_
  refine OW_loadK hS3 (k := 1) rfl (by simp) rfl rfl rfl rfl (by first | exact part_whole rfl rfl rfl | rfl) ?_
  refine OW_nil ?_
  refine OWF_op rfl ?_
  refine OW_bd rfl rfl (v := .agg [_, _, _, _, _, _, _, _, _, _, _, _, _, _, _, _]) rfl ?_
  refine OW_nil ?_
  refine FN50_CK12 rfl ?_
  refine OWF_op rfl ?_
  refine OW_boxR hS4 (le_lit (ν := ν) (a := [4, 0, 1]) (b := [6, 0, 1]) (by decide)) (under_app [6, 0, 1] hβ) rfl rfl rfl ⟨rfl, rfl⟩ fun H5 hS5 => ?_
  replace hS5 : Own _ _ _ (_ :: _ :: _ :: _ :: _ :: _ :: L.eraseIdx k) := hS5
  refine OW_nil ?_
  refine OWF_op rfl ?_
  refine OW_as rfl rfl ?_
  refine OW_nil ?_
  refine FZ50_CK12 rfl ?_
  have hSB1 : Own _ _ _ (_ :: _ :: _ :: _ :: _ :: _ :: L.eraseIdx k) := (Own.back hS3 (k := 1) rfl (Own.back0 hS5) (k' := 3) rfl)
  refine XW_sr ?_
  refine OW_bd rfl rfl (v := .agg [_, _, _, _, _, _]) rfl ?_
  refine OW_allocR hSB1 (le_lit (ν := ν) (a := [7, 0, 1]) (b := [1, 0, 1, 1]) (by decide)) (under_app [1, 0, 1, 1] hβ) rfl rfl rfl rfl fun H6 hS6 => ?_
  replace hS6 : Own _ _ _ (_ :: _ :: _ :: _ :: _ :: _ :: _ :: L.eraseIdx k) := hS6
  first
  | refine OW_storeR hS6 (k := 0) rfl le_refl rfl rfl rfl rfl ⟨rfl, rfl, Nat.le_of_ble_eq_true rfl⟩ (set_whole rfl rfl) fun H7 hS7 => ?_
  | refine OW_storeR hS6 (k := 0) rfl le_refl rfl rfl rfl rfl ⟨rfl, rfl, Nat.le_of_ble_eq_true rfl⟩ (u2 := .agg [_, _, _, _, _, _]) rfl fun H7 hS7 => ?_
  replace hS7 : Own _ _ _ (_ :: _ :: _ :: _ :: _ :: _ :: _ :: L.eraseIdx k) := hS7
  refine EZ50_CK12 rfl ?_
  refine XW_seq ?_
  refine XW_sr ?_
  refine OW_fa rfl rfl rfl ?_
  refine OW_loadR hS7 (k := 4) rfl rfl rfl rfl rfl (by first | exact part_whole rfl rfl rfl | rfl) ?_
  rw [hd]
  refine OW_bin rfl rfl rfl rfl rfl ?_
  refine EN50_CK12 rfl ?_
  refine OW_mv rfl rfl ?_
  refine OW_fa rfl rfl rfl ?_
  refine OW_loadR hS7 (k := 4) rfl rfl rfl rfl rfl (by first | exact part_whole rfl rfl rfl | rfl) ?_
  refine EN50_CK12 rfl ?_
  rw [hd]
  refine OW_bin rfl rfl rfl rfl rfl ?_
  refine OW_pick rfl rfl rfl ?_
  refine EZ50_CK12 rfl ?_
  refine XW_no rfl rfl ?_
  refine XW_skip ?_
  refine then_norm ?_
  refine XW_sr ?_
  replace hS7 := Own.run_job hS7
  refine OW_fa rfl rfl rfl ?_
  refine OW_loadR hS7 (k := 4) rfl rfl rfl rfl rfl (by first | exact part_whole rfl rfl rfl | rfl) ?_
  rw [hd]
  refine OW_ia rfl rfl rfl (by first | rfl | exact ia_arr rfl rfl rfl (by omega) (by omega)) ?_
  refine EN50_CK12 rfl ?_
  refine OW_loadR hS7 (k := 2) rfl rfl rfl rfl rfl (by first | exact part_whole rfl rfl rfl | rfl) ?_
  refine OW_mv rfl rfl ?_
  refine OW_fv rfl rfl rfl (get_ok hg hm he hS7 (le_lit (ν := ν) (a := [3, 0, 1, 1]) (b := [5, 0, 1, 1, 1, 1]) (by decide)) (under_app [5, 0, 1, 1, 1, 1] hβ) (before_lit (ν := ν) (a := [5, 0, 1, 1, 1, 1]) (b := [6, 0, 1, 1, 1, 1]) (by decide)) fun H8 hS8 => ?_)
  replace hS8 : Own _ _ _ (_ :: _ :: _ :: _ :: _ :: _ :: L.eraseIdx k) := hS8
  refine EN50_CK12 rfl ?_
  refine OW_mv rfl rfl ?_
  refine OW_ex rfl rfl rfl ?_
  refine OW_ex rfl rfl rfl ?_
  refine EN50_CK12 rfl ?_
  refine OW_as rfl rfl ?_
  refine OW_as rfl rfl ?_
  refine EZ50_CK12 rfl ?_
  refine XW_sr ?_
  obtain ⟨V2, S2, T2, hz⟩ := Own.un_jobF (Own.job_F hS8)
  replace hS8 := hz
  refine OW_mv rfl rfl ?_
  first
  | refine OW_nc rfl rfl ?_
  | refine OW_nce rfl rfl ?_
  refine OW_fa rfl rfl rfl ?_
  refine EN50_CK12 rfl ?_
  refine OW_loadR hS8 (k := 0) rfl rfl rfl rfl rfl (by first | exact part_whole rfl rfl rfl | rfl) ?_
  refine OW_mv rfl rfl ?_
  refine OW_mv rfl rfl ?_
  refine EN50_CK12 rfl ?_
  first
  | refine OW_storeR hS8 (k := 4) rfl (le_lit (ν := ν) (a := [6, 0, 1, 1, 1, 1]) (b := [6, 0, 1, 1, 1, 1, 1]) (by decide)) rfl rfl rfl rfl ⟨rfl, rfl, Nat.le_of_ble_eq_true rfl⟩ (set_whole rfl rfl) fun H9 hS9 => ?_
  | refine OW_storeR hS8 (k := 4) rfl (le_lit (ν := ν) (a := [6, 0, 1, 1, 1, 1]) (b := [6, 0, 1, 1, 1, 1, 1]) (by decide)) rfl rfl rfl rfl ⟨rfl, rfl, Nat.le_of_ble_eq_true rfl⟩ (u2 := .agg [_, _, _]) rfl fun H9 hS9 => ?_
  replace hS9 : Own _ _ _ (_ :: _ :: _ :: _ :: _ :: _ :: _ :: L.eraseIdx k) := hS9
  refine OW_as rfl rfl ?_
  refine OW_as rfl rfl ?_
  refine EZ50_CK12 rfl ?_
  refine XW_ret ?_
  refine ret_ret (res3 rfl (rv_cellR hS9 (k := 4) rfl rfl rfl rfl (by first | exact part_whole rfl rfl rfl | rfl)) (rv_tmp rfl) (rv_tmp rfl)) ?_
  have hz := Own.drop (Own.drop (Own.drop (Own.drop (Own.drop0 (Own.mono hS9 (le_bef (bef_app (a := [7, 0, 1, 1, 1, 1, 1]) hp)))) (k := 5) rfl) (k := 4) rfl) (k := 3) rfl) (k := 2) rfl
  obtain ⟨fz, hfz, _⟩ := hz.get (k := 0) rfl
  rw [fz3 hfz]; exact hq _ (Own.unpick (Own.lose hz fun f hf => rc3 hf) hL)
theorem run_4e (hg : c.good) (hm : m.fit) (hd : m.d = 4) (he : (leafE S key c m 1).1 ≠ 0) (hV0 : Ls V0 (c.vs.map Vo.enc)) (hS0' : Ls S0 (c.ss.map SE.Se.enc)) (hT0 : Ls T0 (c.qs.map Qu.enc)) (hS : Own β ps H L) (hL : L[k]? = some (orc qo S.of)) (hle : le ps ν) (hβ : under β ν = true) (hp : before ν pos')
    (hq : ∀ H1, Own β pos' H1 (L.set k (orc qo (runR S key c m).2.of)) → Q (.tup [(runR S key c m).1.c.enc, .int .i64 (runR S key c m).1.e, .str (runR S key c m).1.an]) H1) : CW cfg ν 9 [.ptr qo 0 0, .int .u64 key, .agg [V0, S0, T0], m.enc] H Q := by
  replace hS := hS.pick hL
  have hsm := hg.sm
  rw [runR_4 hd, leafR_err he] at hq
  refine CW_cast g9 F9 rfl ?_
  replace hS := Own.mono hS hle
  refine XW_sr ?_
  refine OW_boxR hS (le_app (p := ν) (b := [0, 0])) (under_app [0, 0] hβ) rfl rfl rfl ⟨rfl, rfl⟩ fun H1 hS1 => ?_
  replace hS1 : Own _ _ _ (_ :: _ :: L.eraseIdx k) := hS1
  refine OW_boxR hS1 le_refl (under_app [1, 0] hβ) rfl rfl rfl ⟨rfl, rfl⟩ fun H2 hS2 => ?_
  replace hS2 : Own _ _ _ (_ :: _ :: _ :: L.eraseIdx k) := hS2
  refine OW_allocR hS2 le_refl (under_app [2, 0] hβ) rfl rfl rfl rfl fun H3 hS3 => ?_
  replace hS3 : Own _ _ _ (_ :: _ :: _ :: _ :: L.eraseIdx k) := hS3
  refine EN50_CK12 rfl ?_
  refine OW_as rfl rfl ?_
  refine OW_as rfl rfl ?_
  refine EZ50_CK12 rfl ?_
  refine XW_srF (qs := [1 :: 0 :: ν]) rfl rfl ?_
  have hSF1 : Own _ _ _ (_ :: _ :: _ :: _ :: L.eraseIdx k) := (Own.hide (Own.hide0 hS3) (k := 1) rfl)
  refine OWF_op rfl ?_
  refine OW_mv rfl rfl ?_
  refine OW_nil ?_
  refine OWF_op rfl ?_
  refine OW_mv rfl rfl ?_
  refine OW_nil ?_
  refine OWF_op rfl ?_
  refine OW_loadR hSF1 (k := 2) rfl rfl rfl rfl rfl (by first | exact part_whole rfl rfl rfl | rfl) ?_
  refine OW_nil ?_
  refine FN50_CK12 rfl ?_
  refine OWF_op rfl ?_
  refine OW_fn rfl rfl (copied_c hV0 hS0' hT0 hSF1 (le_lit (ν := ν) (a := [3, 0]) (b := [3, 0, 1]) (by decide)) (under_app [3, 0, 1] hβ) (before_lit (ν := ν) (a := [3, 0, 1]) (b := [4, 0, 1]) (by decide)) hsm fun H4 V S1 T hS4 => ?_) 
  replace hS4 : Own _ _ _ (_ :: _ :: _ :: _ :: _ :: L.eraseIdx k) := hS4
  refine OW_nil ?_
  refine OWF_fl rfl ?_
  refine OW_loadK hS3 (k := 1) rfl (by simp) rfl rfl rfl rfl (by first | exact part_whole rfl rfl rfl | rfl) ?_
  refine OW_nil ?_
  refine OWF_op rfl ?_
  refine OW_bd rfl rfl (v := .agg [_, _, _, _, _, _, _, _, _, _, _, _, _, _, _, _]) rfl ?_
  refine OW_nil ?_
  refine FN50_CK12 rfl ?_
  refine OWF_op rfl ?_
  refine OW_boxR hS4 (le_lit (ν := ν) (a := [4, 0, 1]) (b := [6, 0, 1]) (by decide)) (under_app [6, 0, 1] hβ) rfl rfl rfl ⟨rfl, rfl⟩ fun H5 hS5 => ?_
  replace hS5 : Own _ _ _ (_ :: _ :: _ :: _ :: _ :: _ :: L.eraseIdx k) := hS5
  refine OW_nil ?_
  refine OWF_op rfl ?_
  refine OW_as rfl rfl ?_
  refine OW_nil ?_
  refine FZ50_CK12 rfl ?_
  have hSB1 : Own _ _ _ (_ :: _ :: _ :: _ :: _ :: _ :: L.eraseIdx k) := (Own.back hS3 (k := 1) rfl (Own.back0 hS5) (k' := 3) rfl)
  refine XW_sr ?_
  refine OW_bd rfl rfl (v := .agg [_, _, _, _, _, _]) rfl ?_
  refine OW_allocR hSB1 (le_lit (ν := ν) (a := [7, 0, 1]) (b := [1, 0, 1, 1]) (by decide)) (under_app [1, 0, 1, 1] hβ) rfl rfl rfl rfl fun H6 hS6 => ?_
  replace hS6 : Own _ _ _ (_ :: _ :: _ :: _ :: _ :: _ :: _ :: L.eraseIdx k) := hS6
  first
  | refine OW_storeR hS6 (k := 0) rfl le_refl rfl rfl rfl rfl ⟨rfl, rfl, Nat.le_of_ble_eq_true rfl⟩ (set_whole rfl rfl) fun H7 hS7 => ?_
  | refine OW_storeR hS6 (k := 0) rfl le_refl rfl rfl rfl rfl ⟨rfl, rfl, Nat.le_of_ble_eq_true rfl⟩ (u2 := .agg [_, _, _, _, _, _]) rfl fun H7 hS7 => ?_
  replace hS7 : Own _ _ _ (_ :: _ :: _ :: _ :: _ :: _ :: _ :: L.eraseIdx k) := hS7
  refine EZ50_CK12 rfl ?_
  refine XW_seq ?_
  refine XW_sr ?_
  refine OW_fa rfl rfl rfl ?_
  refine OW_loadR hS7 (k := 4) rfl rfl rfl rfl rfl (by first | exact part_whole rfl rfl rfl | rfl) ?_
  rw [hd]
  refine OW_bin rfl rfl rfl rfl rfl ?_
  refine EN50_CK12 rfl ?_
  refine OW_mv rfl rfl ?_
  refine OW_fa rfl rfl rfl ?_
  refine OW_loadR hS7 (k := 4) rfl rfl rfl rfl rfl (by first | exact part_whole rfl rfl rfl | rfl) ?_
  refine EN50_CK12 rfl ?_
  rw [hd]
  refine OW_bin rfl rfl rfl rfl rfl ?_
  refine OW_pick rfl rfl rfl ?_
  refine EZ50_CK12 rfl ?_
  refine XW_no rfl rfl ?_
  refine XW_skip ?_
  refine then_norm ?_
  refine XW_sr ?_
  replace hS7 := Own.run_job hS7
  refine OW_fa rfl rfl rfl ?_
  refine OW_loadR hS7 (k := 4) rfl rfl rfl rfl rfl (by first | exact part_whole rfl rfl rfl | rfl) ?_
  rw [hd]
  refine OW_ia rfl rfl rfl (by first | rfl | exact ia_arr rfl rfl rfl (by omega) (by omega)) ?_
  refine EN50_CK12 rfl ?_
  refine OW_loadR hS7 (k := 2) rfl rfl rfl rfl rfl (by first | exact part_whole rfl rfl rfl | rfl) ?_
  refine OW_mv rfl rfl ?_
  refine OW_fv rfl rfl rfl (get_err hg hm he hS7 (le_lit (ν := ν) (a := [3, 0, 1, 1]) (b := [5, 0, 1, 1, 1, 1]) (by decide)) (under_app [5, 0, 1, 1, 1, 1] hβ) (before_lit (ν := ν) (a := [5, 0, 1, 1, 1, 1]) (b := [6, 0, 1, 1, 1, 1]) (by decide)) fun H8 hS8 => ?_)
  replace hS8 : Own _ _ _ (_ :: _ :: _ :: _ :: _ :: _ :: L.eraseIdx k) := hS8
  refine EN50_CK12 rfl ?_
  refine OW_mv rfl rfl ?_
  refine OW_ex rfl rfl rfl ?_
  refine OW_ex rfl rfl rfl ?_
  refine EN50_CK12 rfl ?_
  refine OW_as rfl rfl ?_
  refine OW_as rfl rfl ?_
  refine EZ50_CK12 rfl ?_
  refine XW_sr ?_
  obtain ⟨V2, S2, T2, hz⟩ := Own.un_jobF (Own.job_F hS8)
  replace hS8 := hz
  refine OW_mv rfl rfl ?_
  first
  | refine OW_nc rfl rfl ?_
  | refine OW_nce rfl rfl ?_
  refine OW_fa rfl rfl rfl ?_
  refine EN50_CK12 rfl ?_
  refine OW_loadR hS8 (k := 0) rfl rfl rfl rfl rfl (by first | exact part_whole rfl rfl rfl | rfl) ?_
  refine OW_mv rfl rfl ?_
  refine OW_mv rfl rfl ?_
  refine EN50_CK12 rfl ?_
  first
  | refine OW_storeR hS8 (k := 4) rfl (le_lit (ν := ν) (a := [6, 0, 1, 1, 1, 1]) (b := [6, 0, 1, 1, 1, 1, 1]) (by decide)) rfl rfl rfl rfl ⟨rfl, rfl, Nat.le_of_ble_eq_true rfl⟩ (set_whole rfl rfl) fun H9 hS9 => ?_
  | refine OW_storeR hS8 (k := 4) rfl (le_lit (ν := ν) (a := [6, 0, 1, 1, 1, 1]) (b := [6, 0, 1, 1, 1, 1, 1]) (by decide)) rfl rfl rfl rfl ⟨rfl, rfl, Nat.le_of_ble_eq_true rfl⟩ (u2 := .agg [_, _, _]) rfl fun H9 hS9 => ?_
  replace hS9 : Own _ _ _ (_ :: _ :: _ :: _ :: _ :: _ :: _ :: L.eraseIdx k) := hS9
  refine OW_as rfl rfl ?_
  refine OW_as rfl rfl ?_
  refine EZ50_CK12 rfl ?_
  refine XW_ret ?_
  refine ret_ret (res3 rfl (rv_cellR hS9 (k := 4) rfl rfl rfl rfl (by first | exact part_whole rfl rfl rfl | rfl)) (rv_tmp rfl) (rv_tmp rfl)) ?_
  have hz := Own.drop (Own.drop (Own.drop (Own.drop (Own.drop0 (Own.mono hS9 (le_bef (bef_app (a := [7, 0, 1, 1, 1, 1, 1]) hp)))) (k := 5) rfl) (k := 4) rfl) (k := 3) rfl) (k := 2) rfl
  obtain ⟨fz, hfz, _⟩ := hz.get (k := 0) rfl
  rw [fz3 hfz]; exact hq _ (Own.unpick (Own.lose hz fun f hf => rc3 hf) hL)
theorem run_5 (hg : c.good) (hm : m.fit) (hd : m.d = 5) (he : (leafE S key c m 2).1 = 0) (hV0 : Ls V0 (c.vs.map Vo.enc)) (hS0' : Ls S0 (c.ss.map SE.Se.enc)) (hT0 : Ls T0 (c.qs.map Qu.enc)) (hS : Own β ps H L) (hL : L[k]? = some (orc qo S.of)) (hle : le ps ν) (hβ : under β ν = true) (hp : before ν pos')
    (hq : ∀ H1, Own β pos' H1 (L.set k (orc qo (runR S key c m).2.of)) → Q (.tup [(runR S key c m).1.c.enc, .int .i64 (runR S key c m).1.e, .str (runR S key c m).1.an]) H1) : CW cfg ν 9 [.ptr qo 0 0, .int .u64 key, .agg [V0, S0, T0], m.enc] H Q := by
  replace hS := hS.pick hL
  have hsm := hg.sm
  rw [runR_5 hd, leafR_ok he] at hq
  refine CW_cast g9 F9 rfl ?_
  replace hS := Own.mono hS hle
  refine XW_sr ?_
  refine OW_boxR hS (le_app (p := ν) (b := [0, 0])) (under_app [0, 0] hβ) rfl rfl rfl ⟨rfl, rfl⟩ fun H1 hS1 => ?_
  replace hS1 : Own _ _ _ (_ :: _ :: L.eraseIdx k) := hS1
  refine OW_boxR hS1 le_refl (under_app [1, 0] hβ) rfl rfl rfl ⟨rfl, rfl⟩ fun H2 hS2 => ?_
  replace hS2 : Own _ _ _ (_ :: _ :: _ :: L.eraseIdx k) := hS2
  refine OW_allocR hS2 le_refl (under_app [2, 0] hβ) rfl rfl rfl rfl fun H3 hS3 => ?_
  replace hS3 : Own _ _ _ (_ :: _ :: _ :: _ :: L.eraseIdx k) := hS3
  refine EN50_CK12 rfl ?_
  refine OW_as rfl rfl ?_
  refine OW_as rfl rfl ?_
  refine EZ50_CK12 rfl ?_
  refine XW_srF (qs := [1 :: 0 :: ν]) rfl rfl ?_
  have hSF1 : Own _ _ _ (_ :: _ :: _ :: _ :: L.eraseIdx k) := (Own.hide (Own.hide0 hS3) (k := 1) rfl)
  refine OWF_op rfl ?_
  refine OW_mv rfl rfl ?_
  refine OW_nil ?_
  refine OWF_op rfl ?_
  refine OW_mv rfl rfl ?_
  refine OW_nil ?_
  refine OWF_op rfl ?_
  refine OW_loadR hSF1 (k := 2) rfl rfl rfl rfl rfl (by first | exact part_whole rfl rfl rfl | rfl) ?_
  refine OW_nil ?_
  refine FN50_CK12 rfl ?_
  refine OWF_op rfl ?_
  refine OW_fn rfl rfl (copied_c hV0 hS0' hT0 hSF1 (le_lit (ν := ν) (a := [3, 0]) (b := [3, 0, 1]) (by decide)) (under_app [3, 0, 1] hβ) (before_lit (ν := ν) (a := [3, 0, 1]) (b := [4, 0, 1]) (by decide)) hsm fun H4 V S1 T hS4 => ?_) 
  replace hS4 : Own _ _ _ (_ :: _ :: _ :: _ :: _ :: L.eraseIdx k) := hS4
  refine OW_nil ?_
  refine OWF_fl rfl ?_
  refine OW_loadK hS3 (k := 1) rfl (by simp) rfl rfl rfl rfl (by first | exact part_whole rfl rfl rfl | rfl) ?_
  refine OW_nil ?_
  refine OWF_op rfl ?_
  refine OW_bd rfl rfl (v := .agg [_, _, _, _, _, _, _, _, _, _, _, _, _, _, _, _]) rfl ?_
  refine OW_nil ?_
  refine FN50_CK12 rfl ?_
  refine OWF_op rfl ?_
  refine OW_boxR hS4 (le_lit (ν := ν) (a := [4, 0, 1]) (b := [6, 0, 1]) (by decide)) (under_app [6, 0, 1] hβ) rfl rfl rfl ⟨rfl, rfl⟩ fun H5 hS5 => ?_
  replace hS5 : Own _ _ _ (_ :: _ :: _ :: _ :: _ :: _ :: L.eraseIdx k) := hS5
  refine OW_nil ?_
  refine OWF_op rfl ?_
  refine OW_as rfl rfl ?_
  refine OW_nil ?_
  refine FZ50_CK12 rfl ?_
  have hSB1 : Own _ _ _ (_ :: _ :: _ :: _ :: _ :: _ :: L.eraseIdx k) := (Own.back hS3 (k := 1) rfl (Own.back0 hS5) (k' := 3) rfl)
  refine XW_sr ?_
  refine OW_bd rfl rfl (v := .agg [_, _, _, _, _, _]) rfl ?_
  refine OW_allocR hSB1 (le_lit (ν := ν) (a := [7, 0, 1]) (b := [1, 0, 1, 1]) (by decide)) (under_app [1, 0, 1, 1] hβ) rfl rfl rfl rfl fun H6 hS6 => ?_
  replace hS6 : Own _ _ _ (_ :: _ :: _ :: _ :: _ :: _ :: _ :: L.eraseIdx k) := hS6
  first
  | refine OW_storeR hS6 (k := 0) rfl le_refl rfl rfl rfl rfl ⟨rfl, rfl, Nat.le_of_ble_eq_true rfl⟩ (set_whole rfl rfl) fun H7 hS7 => ?_
  | refine OW_storeR hS6 (k := 0) rfl le_refl rfl rfl rfl rfl ⟨rfl, rfl, Nat.le_of_ble_eq_true rfl⟩ (u2 := .agg [_, _, _, _, _, _]) rfl fun H7 hS7 => ?_
  replace hS7 : Own _ _ _ (_ :: _ :: _ :: _ :: _ :: _ :: _ :: L.eraseIdx k) := hS7
  refine EZ50_CK12 rfl ?_
  refine XW_seq ?_
  refine XW_sr ?_
  refine OW_fa rfl rfl rfl ?_
  refine OW_loadR hS7 (k := 4) rfl rfl rfl rfl rfl (by first | exact part_whole rfl rfl rfl | rfl) ?_
  rw [hd]
  refine OW_bin rfl rfl rfl rfl rfl ?_
  refine EN50_CK12 rfl ?_
  refine OW_mv rfl rfl ?_
  refine OW_fa rfl rfl rfl ?_
  refine OW_loadR hS7 (k := 4) rfl rfl rfl rfl rfl (by first | exact part_whole rfl rfl rfl | rfl) ?_
  refine EN50_CK12 rfl ?_
  rw [hd]
  refine OW_bin rfl rfl rfl rfl rfl ?_
  refine OW_pick rfl rfl rfl ?_
  refine EZ50_CK12 rfl ?_
  refine XW_no rfl rfl ?_
  refine XW_skip ?_
  refine then_norm ?_
  refine XW_sr ?_
  replace hS7 := Own.run_job hS7
  refine OW_fa rfl rfl rfl ?_
  refine OW_loadR hS7 (k := 4) rfl rfl rfl rfl rfl (by first | exact part_whole rfl rfl rfl | rfl) ?_
  rw [hd]
  refine OW_ia rfl rfl rfl (by first | rfl | exact ia_arr rfl rfl rfl (by omega) (by omega)) ?_
  refine EN50_CK12 rfl ?_
  refine OW_loadR hS7 (k := 2) rfl rfl rfl rfl rfl (by first | exact part_whole rfl rfl rfl | rfl) ?_
  refine OW_mv rfl rfl ?_
  refine OW_fv rfl rfl rfl (trim_ok hg hm he hS7 (le_lit (ν := ν) (a := [3, 0, 1, 1]) (b := [5, 0, 1, 1, 1, 1]) (by decide)) (under_app [5, 0, 1, 1, 1, 1] hβ) (before_lit (ν := ν) (a := [5, 0, 1, 1, 1, 1]) (b := [6, 0, 1, 1, 1, 1]) (by decide)) fun H8 hS8 => ?_)
  replace hS8 : Own _ _ _ (_ :: _ :: _ :: _ :: _ :: _ :: L.eraseIdx k) := hS8
  refine EN50_CK12 rfl ?_
  refine OW_mv rfl rfl ?_
  refine OW_ex rfl rfl rfl ?_
  refine OW_ex rfl rfl rfl ?_
  refine EN50_CK12 rfl ?_
  refine OW_as rfl rfl ?_
  refine OW_as rfl rfl ?_
  refine EZ50_CK12 rfl ?_
  refine XW_sr ?_
  obtain ⟨V2, S2, T2, hz⟩ := Own.un_jobF (Own.job_F hS8)
  replace hS8 := hz
  refine OW_mv rfl rfl ?_
  first
  | refine OW_nc rfl rfl ?_
  | refine OW_nce rfl rfl ?_
  refine OW_fa rfl rfl rfl ?_
  refine EN50_CK12 rfl ?_
  refine OW_loadR hS8 (k := 0) rfl rfl rfl rfl rfl (by first | exact part_whole rfl rfl rfl | rfl) ?_
  refine OW_mv rfl rfl ?_
  refine OW_mv rfl rfl ?_
  refine EN50_CK12 rfl ?_
  first
  | refine OW_storeR hS8 (k := 4) rfl (le_lit (ν := ν) (a := [6, 0, 1, 1, 1, 1]) (b := [6, 0, 1, 1, 1, 1, 1]) (by decide)) rfl rfl rfl rfl ⟨rfl, rfl, Nat.le_of_ble_eq_true rfl⟩ (set_whole rfl rfl) fun H9 hS9 => ?_
  | refine OW_storeR hS8 (k := 4) rfl (le_lit (ν := ν) (a := [6, 0, 1, 1, 1, 1]) (b := [6, 0, 1, 1, 1, 1, 1]) (by decide)) rfl rfl rfl rfl ⟨rfl, rfl, Nat.le_of_ble_eq_true rfl⟩ (u2 := .agg [_, _, _]) rfl fun H9 hS9 => ?_
  replace hS9 : Own _ _ _ (_ :: _ :: _ :: _ :: _ :: _ :: _ :: L.eraseIdx k) := hS9
  refine OW_as rfl rfl ?_
  refine OW_as rfl rfl ?_
  refine EZ50_CK12 rfl ?_
  refine XW_ret ?_
  refine ret_ret (res3 rfl (rv_cellR hS9 (k := 4) rfl rfl rfl rfl (by first | exact part_whole rfl rfl rfl | rfl)) (rv_tmp rfl) (rv_tmp rfl)) ?_
  have hz := Own.drop (Own.drop (Own.drop (Own.drop (Own.drop0 (Own.mono hS9 (le_bef (bef_app (a := [7, 0, 1, 1, 1, 1, 1]) hp)))) (k := 5) rfl) (k := 4) rfl) (k := 3) rfl) (k := 2) rfl
  obtain ⟨fz, hfz, _⟩ := hz.get (k := 0) rfl
  rw [fz3 hfz]; exact hq _ (Own.unpick (Own.lose hz fun f hf => rc3 hf) hL)
theorem run_5e (hg : c.good) (hm : m.fit) (hd : m.d = 5) (he : (leafE S key c m 2).1 ≠ 0) (hV0 : Ls V0 (c.vs.map Vo.enc)) (hS0' : Ls S0 (c.ss.map SE.Se.enc)) (hT0 : Ls T0 (c.qs.map Qu.enc)) (hS : Own β ps H L) (hL : L[k]? = some (orc qo S.of)) (hle : le ps ν) (hβ : under β ν = true) (hp : before ν pos')
    (hq : ∀ H1, Own β pos' H1 (L.set k (orc qo (runR S key c m).2.of)) → Q (.tup [(runR S key c m).1.c.enc, .int .i64 (runR S key c m).1.e, .str (runR S key c m).1.an]) H1) : CW cfg ν 9 [.ptr qo 0 0, .int .u64 key, .agg [V0, S0, T0], m.enc] H Q := by
  replace hS := hS.pick hL
  have hsm := hg.sm
  rw [runR_5 hd, leafR_err he] at hq
  refine CW_cast g9 F9 rfl ?_
  replace hS := Own.mono hS hle
  refine XW_sr ?_
  refine OW_boxR hS (le_app (p := ν) (b := [0, 0])) (under_app [0, 0] hβ) rfl rfl rfl ⟨rfl, rfl⟩ fun H1 hS1 => ?_
  replace hS1 : Own _ _ _ (_ :: _ :: L.eraseIdx k) := hS1
  refine OW_boxR hS1 le_refl (under_app [1, 0] hβ) rfl rfl rfl ⟨rfl, rfl⟩ fun H2 hS2 => ?_
  replace hS2 : Own _ _ _ (_ :: _ :: _ :: L.eraseIdx k) := hS2
  refine OW_allocR hS2 le_refl (under_app [2, 0] hβ) rfl rfl rfl rfl fun H3 hS3 => ?_
  replace hS3 : Own _ _ _ (_ :: _ :: _ :: _ :: L.eraseIdx k) := hS3
  refine EN50_CK12 rfl ?_
  refine OW_as rfl rfl ?_
  refine OW_as rfl rfl ?_
  refine EZ50_CK12 rfl ?_
  refine XW_srF (qs := [1 :: 0 :: ν]) rfl rfl ?_
  have hSF1 : Own _ _ _ (_ :: _ :: _ :: _ :: L.eraseIdx k) := (Own.hide (Own.hide0 hS3) (k := 1) rfl)
  refine OWF_op rfl ?_
  refine OW_mv rfl rfl ?_
  refine OW_nil ?_
  refine OWF_op rfl ?_
  refine OW_mv rfl rfl ?_
  refine OW_nil ?_
  refine OWF_op rfl ?_
  refine OW_loadR hSF1 (k := 2) rfl rfl rfl rfl rfl (by first | exact part_whole rfl rfl rfl | rfl) ?_
  refine OW_nil ?_
  refine FN50_CK12 rfl ?_
  refine OWF_op rfl ?_
  refine OW_fn rfl rfl (copied_c hV0 hS0' hT0 hSF1 (le_lit (ν := ν) (a := [3, 0]) (b := [3, 0, 1]) (by decide)) (under_app [3, 0, 1] hβ) (before_lit (ν := ν) (a := [3, 0, 1]) (b := [4, 0, 1]) (by decide)) hsm fun H4 V S1 T hS4 => ?_) 
  replace hS4 : Own _ _ _ (_ :: _ :: _ :: _ :: _ :: L.eraseIdx k) := hS4
  refine OW_nil ?_
  refine OWF_fl rfl ?_
  refine OW_loadK hS3 (k := 1) rfl (by simp) rfl rfl rfl rfl (by first | exact part_whole rfl rfl rfl | rfl) ?_
  refine OW_nil ?_
  refine OWF_op rfl ?_
  refine OW_bd rfl rfl (v := .agg [_, _, _, _, _, _, _, _, _, _, _, _, _, _, _, _]) rfl ?_
  refine OW_nil ?_
  refine FN50_CK12 rfl ?_
  refine OWF_op rfl ?_
  refine OW_boxR hS4 (le_lit (ν := ν) (a := [4, 0, 1]) (b := [6, 0, 1]) (by decide)) (under_app [6, 0, 1] hβ) rfl rfl rfl ⟨rfl, rfl⟩ fun H5 hS5 => ?_
  replace hS5 : Own _ _ _ (_ :: _ :: _ :: _ :: _ :: _ :: L.eraseIdx k) := hS5
  refine OW_nil ?_
  refine OWF_op rfl ?_
  refine OW_as rfl rfl ?_
  refine OW_nil ?_
  refine FZ50_CK12 rfl ?_
  have hSB1 : Own _ _ _ (_ :: _ :: _ :: _ :: _ :: _ :: L.eraseIdx k) := (Own.back hS3 (k := 1) rfl (Own.back0 hS5) (k' := 3) rfl)
  refine XW_sr ?_
  refine OW_bd rfl rfl (v := .agg [_, _, _, _, _, _]) rfl ?_
  refine OW_allocR hSB1 (le_lit (ν := ν) (a := [7, 0, 1]) (b := [1, 0, 1, 1]) (by decide)) (under_app [1, 0, 1, 1] hβ) rfl rfl rfl rfl fun H6 hS6 => ?_
  replace hS6 : Own _ _ _ (_ :: _ :: _ :: _ :: _ :: _ :: _ :: L.eraseIdx k) := hS6
  first
  | refine OW_storeR hS6 (k := 0) rfl le_refl rfl rfl rfl rfl ⟨rfl, rfl, Nat.le_of_ble_eq_true rfl⟩ (set_whole rfl rfl) fun H7 hS7 => ?_
  | refine OW_storeR hS6 (k := 0) rfl le_refl rfl rfl rfl rfl ⟨rfl, rfl, Nat.le_of_ble_eq_true rfl⟩ (u2 := .agg [_, _, _, _, _, _]) rfl fun H7 hS7 => ?_
  replace hS7 : Own _ _ _ (_ :: _ :: _ :: _ :: _ :: _ :: _ :: L.eraseIdx k) := hS7
  refine EZ50_CK12 rfl ?_
  refine XW_seq ?_
  refine XW_sr ?_
  refine OW_fa rfl rfl rfl ?_
  refine OW_loadR hS7 (k := 4) rfl rfl rfl rfl rfl (by first | exact part_whole rfl rfl rfl | rfl) ?_
  rw [hd]
  refine OW_bin rfl rfl rfl rfl rfl ?_
  refine EN50_CK12 rfl ?_
  refine OW_mv rfl rfl ?_
  refine OW_fa rfl rfl rfl ?_
  refine OW_loadR hS7 (k := 4) rfl rfl rfl rfl rfl (by first | exact part_whole rfl rfl rfl | rfl) ?_
  refine EN50_CK12 rfl ?_
  rw [hd]
  refine OW_bin rfl rfl rfl rfl rfl ?_
  refine OW_pick rfl rfl rfl ?_
  refine EZ50_CK12 rfl ?_
  refine XW_no rfl rfl ?_
  refine XW_skip ?_
  refine then_norm ?_
  refine XW_sr ?_
  replace hS7 := Own.run_job hS7
  refine OW_fa rfl rfl rfl ?_
  refine OW_loadR hS7 (k := 4) rfl rfl rfl rfl rfl (by first | exact part_whole rfl rfl rfl | rfl) ?_
  rw [hd]
  refine OW_ia rfl rfl rfl (by first | rfl | exact ia_arr rfl rfl rfl (by omega) (by omega)) ?_
  refine EN50_CK12 rfl ?_
  refine OW_loadR hS7 (k := 2) rfl rfl rfl rfl rfl (by first | exact part_whole rfl rfl rfl | rfl) ?_
  refine OW_mv rfl rfl ?_
  refine OW_fv rfl rfl rfl (trim_err hg hm he hS7 (le_lit (ν := ν) (a := [3, 0, 1, 1]) (b := [5, 0, 1, 1, 1, 1]) (by decide)) (under_app [5, 0, 1, 1, 1, 1] hβ) (before_lit (ν := ν) (a := [5, 0, 1, 1, 1, 1]) (b := [6, 0, 1, 1, 1, 1]) (by decide)) fun H8 hS8 => ?_)
  replace hS8 : Own _ _ _ (_ :: _ :: _ :: _ :: _ :: _ :: L.eraseIdx k) := hS8
  refine EN50_CK12 rfl ?_
  refine OW_mv rfl rfl ?_
  refine OW_ex rfl rfl rfl ?_
  refine OW_ex rfl rfl rfl ?_
  refine EN50_CK12 rfl ?_
  refine OW_as rfl rfl ?_
  refine OW_as rfl rfl ?_
  refine EZ50_CK12 rfl ?_
  refine XW_sr ?_
  obtain ⟨V2, S2, T2, hz⟩ := Own.un_jobF (Own.job_F hS8)
  replace hS8 := hz
  refine OW_mv rfl rfl ?_
  first
  | refine OW_nc rfl rfl ?_
  | refine OW_nce rfl rfl ?_
  refine OW_fa rfl rfl rfl ?_
  refine EN50_CK12 rfl ?_
  refine OW_loadR hS8 (k := 0) rfl rfl rfl rfl rfl (by first | exact part_whole rfl rfl rfl | rfl) ?_
  refine OW_mv rfl rfl ?_
  refine OW_mv rfl rfl ?_
  refine EN50_CK12 rfl ?_
  first
  | refine OW_storeR hS8 (k := 4) rfl (le_lit (ν := ν) (a := [6, 0, 1, 1, 1, 1]) (b := [6, 0, 1, 1, 1, 1, 1]) (by decide)) rfl rfl rfl rfl ⟨rfl, rfl, Nat.le_of_ble_eq_true rfl⟩ (set_whole rfl rfl) fun H9 hS9 => ?_
  | refine OW_storeR hS8 (k := 4) rfl (le_lit (ν := ν) (a := [6, 0, 1, 1, 1, 1]) (b := [6, 0, 1, 1, 1, 1, 1]) (by decide)) rfl rfl rfl rfl ⟨rfl, rfl, Nat.le_of_ble_eq_true rfl⟩ (u2 := .agg [_, _, _]) rfl fun H9 hS9 => ?_
  replace hS9 : Own _ _ _ (_ :: _ :: _ :: _ :: _ :: _ :: _ :: L.eraseIdx k) := hS9
  refine OW_as rfl rfl ?_
  refine OW_as rfl rfl ?_
  refine EZ50_CK12 rfl ?_
  refine XW_ret ?_
  refine ret_ret (res3 rfl (rv_cellR hS9 (k := 4) rfl rfl rfl rfl (by first | exact part_whole rfl rfl rfl | rfl)) (rv_tmp rfl) (rv_tmp rfl)) ?_
  have hz := Own.drop (Own.drop (Own.drop (Own.drop (Own.drop0 (Own.mono hS9 (le_bef (bef_app (a := [7, 0, 1, 1, 1, 1, 1]) hp)))) (k := 5) rfl) (k := 4) rfl) (k := 3) rfl) (k := 2) rfl
  obtain ⟨fz, hfz, _⟩ := hz.get (k := 0) rfl
  rw [fz3 hfz]; exact hq _ (Own.unpick (Own.lose hz fun f hf => rc3 hf) hL)
theorem run_bad (hg : c.good) (hm : m.fit) (hd : m.d < 0 ∨ 6 ≤ m.d) (hV0 : Ls V0 (c.vs.map Vo.enc)) (hS0' : Ls S0 (c.ss.map SE.Se.enc)) (hT0 : Ls T0 (c.qs.map Qu.enc)) (hS : Own β ps H L) (hL : L[k]? = some (orc qo S.of)) (hle : le ps ν) (hβ : under β ν = true) (hp : before ν pos')
    (hq : ∀ H1, Own β pos' H1 (L.set k (orc qo (runR S key c m).2.of)) → Q (.tup [(runR S key c m).1.c.enc, .int .i64 (runR S key c m).1.e, .str (runR S key c m).1.an]) H1) : CW cfg ν 9 [.ptr qo 0 0, .int .u64 key, .agg [V0, S0, T0], m.enc] H Q := by
  replace hS := hS.pick hL
  have hsm := hg.sm
  rw [runR_b hd] at hq
  refine CW_cast g9 F9 rfl ?_
  replace hS := Own.mono hS hle
  refine XW_sr ?_
  refine OW_boxR hS (le_app (p := ν) (b := [0, 0])) (under_app [0, 0] hβ) rfl rfl rfl ⟨rfl, rfl⟩ fun H1 hS1 => ?_
  replace hS1 : Own _ _ _ (_ :: _ :: L.eraseIdx k) := hS1
  refine OW_boxR hS1 le_refl (under_app [1, 0] hβ) rfl rfl rfl ⟨rfl, rfl⟩ fun H2 hS2 => ?_
  replace hS2 : Own _ _ _ (_ :: _ :: _ :: L.eraseIdx k) := hS2
  refine OW_allocR hS2 le_refl (under_app [2, 0] hβ) rfl rfl rfl rfl fun H3 hS3 => ?_
  replace hS3 : Own _ _ _ (_ :: _ :: _ :: _ :: L.eraseIdx k) := hS3
  refine EN50_CK12 rfl ?_
  refine OW_as rfl rfl ?_
  refine OW_as rfl rfl ?_
  refine EZ50_CK12 rfl ?_
  refine XW_srF (qs := [1 :: 0 :: ν]) rfl rfl ?_
  have hSF1 : Own _ _ _ (_ :: _ :: _ :: _ :: L.eraseIdx k) := (Own.hide (Own.hide0 hS3) (k := 1) rfl)
  refine OWF_op rfl ?_
  refine OW_mv rfl rfl ?_
  refine OW_nil ?_
  refine OWF_op rfl ?_
  refine OW_mv rfl rfl ?_
  refine OW_nil ?_
  refine OWF_op rfl ?_
  refine OW_loadR hSF1 (k := 2) rfl rfl rfl rfl rfl (by first | exact part_whole rfl rfl rfl | rfl) ?_
  refine OW_nil ?_
  refine FN50_CK12 rfl ?_
  refine OWF_op rfl ?_
  refine OW_fn rfl rfl (copied_c hV0 hS0' hT0 hSF1 (le_lit (ν := ν) (a := [3, 0]) (b := [3, 0, 1]) (by decide)) (under_app [3, 0, 1] hβ) (before_lit (ν := ν) (a := [3, 0, 1]) (b := [4, 0, 1]) (by decide)) hsm fun H4 V S1 T hS4 => ?_) 
  replace hS4 : Own _ _ _ (_ :: _ :: _ :: _ :: _ :: L.eraseIdx k) := hS4
  refine OW_nil ?_
  refine OWF_fl rfl ?_
  refine OW_loadK hS3 (k := 1) rfl (by simp) rfl rfl rfl rfl (by first | exact part_whole rfl rfl rfl | rfl) ?_
  refine OW_nil ?_
  refine OWF_op rfl ?_
  refine OW_bd rfl rfl (v := .agg [_, _, _, _, _, _, _, _, _, _, _, _, _, _, _, _]) rfl ?_
  refine OW_nil ?_
  refine FN50_CK12 rfl ?_
  refine OWF_op rfl ?_
  refine OW_boxR hS4 (le_lit (ν := ν) (a := [4, 0, 1]) (b := [6, 0, 1]) (by decide)) (under_app [6, 0, 1] hβ) rfl rfl rfl ⟨rfl, rfl⟩ fun H5 hS5 => ?_
  replace hS5 : Own _ _ _ (_ :: _ :: _ :: _ :: _ :: _ :: L.eraseIdx k) := hS5
  refine OW_nil ?_
  refine OWF_op rfl ?_
  refine OW_as rfl rfl ?_
  refine OW_nil ?_
  refine FZ50_CK12 rfl ?_
  have hSB1 : Own _ _ _ (_ :: _ :: _ :: _ :: _ :: _ :: L.eraseIdx k) := (Own.back hS3 (k := 1) rfl (Own.back0 hS5) (k' := 3) rfl)
  refine XW_sr ?_
  refine OW_bd rfl rfl (v := .agg [_, _, _, _, _, _]) rfl ?_
  refine OW_allocR hSB1 (le_lit (ν := ν) (a := [7, 0, 1]) (b := [1, 0, 1, 1]) (by decide)) (under_app [1, 0, 1, 1] hβ) rfl rfl rfl rfl fun H6 hS6 => ?_
  replace hS6 : Own _ _ _ (_ :: _ :: _ :: _ :: _ :: _ :: _ :: L.eraseIdx k) := hS6
  first
  | refine OW_storeR hS6 (k := 0) rfl le_refl rfl rfl rfl rfl ⟨rfl, rfl, Nat.le_of_ble_eq_true rfl⟩ (set_whole rfl rfl) fun H7 hS7 => ?_
  | refine OW_storeR hS6 (k := 0) rfl le_refl rfl rfl rfl rfl ⟨rfl, rfl, Nat.le_of_ble_eq_true rfl⟩ (u2 := .agg [_, _, _, _, _, _]) rfl fun H7 hS7 => ?_
  replace hS7 : Own _ _ _ (_ :: _ :: _ :: _ :: _ :: _ :: _ :: L.eraseIdx k) := hS7
  refine EZ50_CK12 rfl ?_
  refine XW_seq ?_
  refine XW_sr ?_
  refine OW_fa rfl rfl rfl ?_
  refine OW_loadR hS7 (k := 4) rfl rfl rfl rfl rfl (by first | exact part_whole rfl rfl rfl | rfl) ?_
  refine OW_bin rfl rfl rfl rfl rfl ?_
  refine EN50_CK12 rfl ?_
  refine OW_mv rfl rfl ?_
  refine OW_split (tt := 26) rfl (fun g3_4 => ?_) (fun g3_4 => ?_)
  ·first
   |(exfalso; (try simp only [bs] at g3_4) <;> (omega); done)
   |skip
    try simp only [bs] at g3_4
    refine OW_no rfl ?_
    refine EN50_CK12 rfl ?_
    refine OW_no rfl ?_
    refine OW_no rfl ?_
    refine OW_pick rfl rfl rfl ?_
    refine EZ50_CK12 rfl ?_
    refine XW_yes rfl rfl ?_
    refine XW_sr ?_
    refine OW_mv rfl rfl ?_
    first
    | refine OW_nc rfl rfl ?_
    | refine OW_nce rfl rfl ?_
    refine OW_fa rfl rfl rfl ?_
    refine EN50_CK12 rfl ?_
    refine OW_loadR hS7 (k := 1) rfl rfl rfl rfl rfl (by first | exact part_whole rfl rfl rfl | rfl) ?_
    first
    | refine OW_storeR hS7 (k := 3) rfl (le_lit (ν := ν) (a := [3, 0, 1, 1]) (b := [4, 0, 1, 0, 1, 1, 1]) (by decide)) rfl rfl rfl rfl ⟨rfl, rfl, Nat.le_of_ble_eq_true rfl⟩ (set_whole rfl rfl) fun H8 hS8 => ?_
    | refine OW_storeR hS7 (k := 3) rfl (le_lit (ν := ν) (a := [3, 0, 1, 1]) (b := [4, 0, 1, 0, 1, 1, 1]) (by decide)) rfl rfl rfl rfl ⟨rfl, rfl, Nat.le_of_ble_eq_true rfl⟩ (u2 := .agg [_, _, _]) rfl fun H8 hS8 => ?_
    replace hS8 : Own _ _ _ (_ :: _ :: _ :: _ :: _ :: _ :: _ :: L.eraseIdx k) := hS8
    refine OW_as rfl rfl ?_
    refine EN50_CK12 rfl ?_
    refine OW_as rfl rfl ?_
    refine EZ50_CK12 rfl ?_
    refine XW_ret ?_
    refine then_ret ?_
    refine ret_ret (res3 rfl (rv_cellR hS8 (k := 3) rfl rfl rfl rfl (by first | exact part_whole rfl rfl rfl | rfl)) (rv_tmp rfl) (rv_tmp rfl)) ?_
    have hz := Own.tor (A := [_, _]) (Own.mono hS8 (le_bef (bef_app (a := [5, 0, 1, 0, 1, 1, 1]) hp)))
    replace hz := Own.drop (Own.drop (Own.drop (Own.drop (Own.drop hz (k := 5) rfl) (k := 4) rfl) (k := 3) rfl) (k := 2) rfl) (k := 1) rfl
    obtain ⟨fz, hfz, _⟩ := hz.get (k := 0) rfl
    rw [fz3 (stO_F hfz)]; exact hq _ (Own.unpick (Own.lose hz fun f hf => rc3 (stO_F hf)) hL)
  ·first
   |(exfalso; (try simp only [bs] at g3_4) <;> (omega); done)
   |skip
    try simp only [bs] at g3_4
    refine OW_fa rfl rfl rfl ?_
    refine EN50_CK12 rfl ?_
    refine OW_loadR hS7 (k := 4) rfl rfl rfl rfl rfl (by first | exact part_whole rfl rfl rfl | rfl) ?_
    refine OW_bin rfl rfl rfl rfl rfl ?_
    refine OW_pick rfl rfl rfl ?_
    refine EZ50_CK12 rfl ?_
    refine XW_if rfl (fun h3 => ?_) (fun h3 => ?_)
    ·first
     |(exfalso; (try simp only [bs] at h3) <;> (omega); done)
     |skip
      try simp only [bs] at h3
      refine XW_sr ?_
      refine OW_mv rfl rfl ?_
      first
      | refine OW_nc rfl rfl ?_
      | refine OW_nce rfl rfl ?_
      refine OW_fa rfl rfl rfl ?_
      refine EN50_CK12 rfl ?_
      refine OW_loadR hS7 (k := 1) rfl rfl rfl rfl rfl (by first | exact part_whole rfl rfl rfl | rfl) ?_
      first
      | refine OW_storeR hS7 (k := 3) rfl (le_lit (ν := ν) (a := [3, 0, 1, 1]) (b := [4, 0, 1, 0, 1, 1, 1]) (by decide)) rfl rfl rfl rfl ⟨rfl, rfl, Nat.le_of_ble_eq_true rfl⟩ (set_whole rfl rfl) fun H9 hS9 => ?_
      | refine OW_storeR hS7 (k := 3) rfl (le_lit (ν := ν) (a := [3, 0, 1, 1]) (b := [4, 0, 1, 0, 1, 1, 1]) (by decide)) rfl rfl rfl rfl ⟨rfl, rfl, Nat.le_of_ble_eq_true rfl⟩ (u2 := .agg [_, _, _]) rfl fun H9 hS9 => ?_
      replace hS9 : Own _ _ _ (_ :: _ :: _ :: _ :: _ :: _ :: _ :: L.eraseIdx k) := hS9
      refine OW_as rfl rfl ?_
      refine EN50_CK12 rfl ?_
      refine OW_as rfl rfl ?_
      refine EZ50_CK12 rfl ?_
      refine XW_ret ?_
      refine then_ret ?_
      refine ret_ret (res3 rfl (rv_cellR hS9 (k := 3) rfl rfl rfl rfl (by first | exact part_whole rfl rfl rfl | rfl)) (rv_tmp rfl) (rv_tmp rfl)) ?_
      have hz := Own.tor (A := [_, _]) (Own.mono hS9 (le_bef (bef_app (a := [5, 0, 1, 0, 1, 1, 1]) hp)))
      replace hz := Own.drop (Own.drop (Own.drop (Own.drop (Own.drop hz (k := 5) rfl) (k := 4) rfl) (k := 3) rfl) (k := 2) rfl) (k := 1) rfl
      obtain ⟨fz, hfz, _⟩ := hz.get (k := 0) rfl
      rw [fz3 (stO_F hfz)]; exact hq _ (Own.unpick (Own.lose hz fun f hf => rc3 (stO_F hf)) hL)
    · exfalso; (try simp only [bs] at h3) <;> (omega)
theorem run_c (hg : c.good) (hm : m.fit) (hV0 : Ls V0 (c.vs.map Vo.enc)) (hS0' : Ls S0 (c.ss.map SE.Se.enc)) (hT0 : Ls T0 (c.qs.map Qu.enc)) (hS : Own β ps H L) (hL : L[k]? = some (orc qo S.of)) (hle : le ps ν) (hβ : under β ν = true) (hp : before ν pos')
    (hq : ∀ H1, Own β pos' H1 (L.set k (orc qo (runR S key c m).2.of)) → Q (.tup [(runR S key c m).1.c.enc, .int .i64 (runR S key c m).1.e, .str (runR S key c m).1.an]) H1) : CW cfg ν 9 [.ptr qo 0 0, .int .u64 key, .agg [V0, S0, T0], m.enc] H Q := by
  rcases (by omega : m.d = 0 ∨ m.d = 1 ∨ m.d = 2 ∨ m.d = 3 ∨ m.d = 4 ∨ m.d = 5 ∨ (m.d < 0 ∨ 6 ≤ m.d)) with hd | hd | hd | hd | hd | hd | hd
  · exact run_0 hg hm hd hV0 hS0' hT0 hS hL hle hβ hp hq
  · exact run_1 hg hm hd hV0 hS0' hT0 hS hL hle hβ hp hq
  · exact run_2 hg hm hd hV0 hS0' hT0 hS hL hle hβ hp hq
  · by_cases he : (leafE S key c m 2).1 = 0
    · exact run_3 hg hm hd he hV0 hS0' hT0 hS hL hle hβ hp hq
    · exact run_3e hg hm hd he hV0 hS0' hT0 hS hL hle hβ hp hq
  · by_cases he : (leafE S key c m 1).1 = 0
    · exact run_4 hg hm hd he hV0 hS0' hT0 hS hL hle hβ hp hq
    · exact run_4e hg hm hd he hV0 hS0' hT0 hS hL hle hβ hp hq
  · by_cases he : (leafE S key c m 2).1 = 0
    · exact run_5 hg hm hd he hV0 hS0' hT0 hS hL hle hβ hp hq
    · exact run_5e hg hm hd he hV0 hS0' hT0 hS hL hle hβ hp hq
  · exact run_bad hg hm hd hV0 hS0' hT0 hS hL hle hβ hp hq
end Go.Proofs.Ytfkgdlfponfimaa.X

/- Layer 13: texts of commands. -/
set_option linter.unusedVariables false
set_option linter.unusedSimpArgs false
set_option maxRecDepth 100000
namespace Go.Proofs.Ytfkgdlfponfimaa.X
open Go Go.RowKit WM
theorem EN31_CK13 {c : Cfg} {ν : Nm} {e : Env} {H : Heap} {all : Array Oper} {r : List Oper} {i : Nat} {Q : Env → Heap → Prop} {x0 x1 x2 x3 x4 x5 x6 x7 x8 x9 x10 x11 x12 x13 x14 x15 x16 x17 x18 x19 x20 x21 x22 x23 x24 x25 x26 x27 x28 x29 x30 : AVal} (he : e = [x0,x1,x2,x3,x4,x5,x6,x7,x8,x9,x10,x11,x12,x13,x14,x15,x16,x17,x18,x19,x20,x21,x22,x23,x24,x25,x26,x27,x28,x29,x30]) (h : OW c ν all r i [x0,x1,x2,x3,x4,x5,x6,x7,x8,x9,x10,x11,x12,x13,x14,x15,x16,x17,x18,x19,x20,x21,x22,x23,x24,x25,x26,x27,x28,x29,x30] H Q) : OW c ν all r i e H Q := by subst he; exact h
theorem EN75_CK13 {c : Cfg} {ν : Nm} {e : Env} {H : Heap} {all : Array Oper} {r : List Oper} {i : Nat} {Q : Env → Heap → Prop} {x0 x1 x2 x3 x4 x5 x6 x7 x8 x9 x10 x11 x12 x13 x14 x15 x16 x17 x18 x19 x20 x21 x22 x23 x24 x25 x26 x27 x28 x29 x30 x31 x32 x33 x34 x35 x36 x37 x38 x39 x40 x41 x42 x43 x44 x45 x46 x47 x48 x49 x50 x51 x52 x53 x54 x55 x56 x57 x58 x59 x60 x61 x62 x63 x64 x65 x66 x67 x68 x69 x70 x71 x72 x73 x74 : AVal} (he : e = [x0,x1,x2,x3,x4,x5,x6,x7,x8,x9,x10,x11,x12,x13,x14,x15,x16,x17,x18,x19,x20,x21,x22,x23,x24,x25,x26,x27,x28,x29,x30,x31,x32,x33,x34,x35,x36,x37,x38,x39,x40,x41,x42,x43,x44,x45,x46,x47,x48,x49,x50,x51,x52,x53,x54,x55,x56,x57,x58,x59,x60,x61,x62,x63,x64,x65,x66,x67,x68,x69,x70,x71,x72,x73,x74]) (h : OW c ν all r i [x0,x1,x2,x3,x4,x5,x6,x7,x8,x9,x10,x11,x12,x13,x14,x15,x16,x17,x18,x19,x20,x21,x22,x23,x24,x25,x26,x27,x28,x29,x30,x31,x32,x33,x34,x35,x36,x37,x38,x39,x40,x41,x42,x43,x44,x45,x46,x47,x48,x49,x50,x51,x52,x53,x54,x55,x56,x57,x58,x59,x60,x61,x62,x63,x64,x65,x66,x67,x68,x69,x70,x71,x72,x73,x74] H Q) : OW c ν all r i e H Q := by subst he; exact h
theorem EZ75_CK13 {c : Cfg} {ν : Nm} {e : Env} {H : Heap} {all : Array Oper} {i : Nat} {Q : Env → Heap → Prop} {x0 x1 x2 x3 x4 x5 x6 x7 x8 x9 x10 x11 x12 x13 x14 x15 x16 x17 x18 x19 x20 x21 x22 x23 x24 x25 x26 x27 x28 x29 x30 x31 x32 x33 x34 x35 x36 x37 x38 x39 x40 x41 x42 x43 x44 x45 x46 x47 x48 x49 x50 x51 x52 x53 x54 x55 x56 x57 x58 x59 x60 x61 x62 x63 x64 x65 x66 x67 x68 x69 x70 x71 x72 x73 x74 : AVal} (he : e = [x0,x1,x2,x3,x4,x5,x6,x7,x8,x9,x10,x11,x12,x13,x14,x15,x16,x17,x18,x19,x20,x21,x22,x23,x24,x25,x26,x27,x28,x29,x30,x31,x32,x33,x34,x35,x36,x37,x38,x39,x40,x41,x42,x43,x44,x45,x46,x47,x48,x49,x50,x51,x52,x53,x54,x55,x56,x57,x58,x59,x60,x61,x62,x63,x64,x65,x66,x67,x68,x69,x70,x71,x72,x73,x74]) (h : Q [x0,x1,x2,x3,x4,x5,x6,x7,x8,x9,x10,x11,x12,x13,x14,x15,x16,x17,x18,x19,x20,x21,x22,x23,x24,x25,x26,x27,x28,x29,x30,x31,x32,x33,x34,x35,x36,x37,x38,x39,x40,x41,x42,x43,x44,x45,x46,x47,x48,x49,x50,x51,x52,x53,x54,x55,x56,x57,x58,x59,x60,x61,x62,x63,x64,x65,x66,x67,x68,x69,x70,x71,x72,x73,x74] H) : OW c ν all [] i e H Q := by subst he; exact OW_nil h
variable {ν : Nm} {H : Heap} {Q : AVal → Heap → Prop} {m : Cm}
theorem u64_wr (d : Int) : 0 ≤ IntKind.u64.wrap d ∧ IntKind.u64.wrap d ≤ 18446744073709551615 := by rw [IntKind.wrap_u64]; omega
def packC (m : Cm) : ByteArray := ba (encU (IntKind.u64.wrap m.d).toNat) ++ pkB m.t ++ ba (encU m.vo.toNat) ++ ba (encU m.se.toNat) ++ ba (encU m.a.toNat) ++ ba (encU m.b.toNat) ++ encS m.lf
theorem packC_size (hm : m.fit) : (packC m).size ≤ 120 + m.lf.size := by
  have h1 := encU_i (u64_wr m.d); have h2 := pkB_size hm.t; have h3 := encU_i hm.vo; have h4 := encU_i hm.se; have h5 := encU_i hm.a; have h6 := encU_i hm.b; have h7 := encS_size (s := m.lf) (by have := hm.lf; omega)
  simp only [packC, ss]; omega
theorem p_packC (hm : m.fit) (hq : Q (.str (packC m)) H) : CW cfg ν 56 [m.enc] H Q := by
  have h1 := encU_i (u64_wr m.d); have h2 := pkB_size hm.t; have h3 := encU_i hm.vo; have h4 := encU_i hm.se; have h5 := encU_i hm.a; have h6 := encU_i hm.b; have hlf := hm.lf; have h7 := encS_size (s := m.lf) (by omega)
  have hvo := hm.vo; have hse := hm.se; have ha := hm.a; have hb := hm.b
  refine CW_pure g56 F56 rfl ?_
  have hS0 : Own ν ν (fun _ => none) [] := Own.nil
  refine XW_sr ?_
  refine OW_boxR hS0 (le_app (p := ν) (b := [0, 0])) (under_app [0, 0] under_me) rfl rfl rfl ⟨rfl, rfl⟩ fun H1 hS1 => ?_
  replace hS1 : Own _ _ _ ([_]) := hS1
  refine OW_as rfl rfl ?_
  refine OW_nilE (e' := [_,_,_,_,_,_,_,_,_,_,_,_,_,_,_,_,_,_,_,_,_,_,_,_,_,_,_,_,_,_,_]) rfl ?_
  refine XW_sr ?_
  refine OW_fa rfl rfl rfl ?_
  refine OW_loadR hS1 (k := 0) rfl rfl rfl rfl rfl (by first | exact part_whole rfl rfl rfl | rfl) ?_
  refine OW_conv rfl rfl rfl ?_
  refine EN31_CK13 rfl ?_
  refine OW_fn rfl rfl (putUi (u64_wr m.d) ?_) 
  refine OW_fa rfl rfl rfl ?_
  refine OW_loadR hS1 (k := 0) rfl rfl rfl rfl rfl (by first | exact part_whole rfl rfl rfl | rfl) ?_
  refine EN31_CK13 rfl ?_
  refine OW_fn rfl rfl (packW hm.t ?_) 
  refine OW_bin rfl rfl rfl rfl (cat (by first | omega | assumption | (simp only [ss]; omega) | (refine Nat.le_trans (Nat.add_le_add_left (show _ ≤ 256 by decide) _) (by first | omega | (simp only [ss]; omega))) | (refine Nat.le_trans (Nat.add_le_add_right (show _ ≤ 256 by decide) _) (by first | omega | (simp only [ss]; omega))))) ?_
  refine OW_fa rfl rfl rfl ?_
  refine EN31_CK13 rfl ?_
  refine OW_loadR hS1 (k := 0) rfl rfl rfl rfl rfl (by first | exact part_whole rfl rfl rfl | rfl) ?_
  refine OW_fn rfl rfl (putUi (by assumption) ?_) 
  refine OW_bin rfl rfl rfl rfl (cat (by first | omega | assumption | (simp only [ss]; omega) | (refine Nat.le_trans (Nat.add_le_add_left (show _ ≤ 256 by decide) _) (by first | omega | (simp only [ss]; omega))) | (refine Nat.le_trans (Nat.add_le_add_right (show _ ≤ 256 by decide) _) (by first | omega | (simp only [ss]; omega))))) ?_
  refine EN31_CK13 rfl ?_
  refine OW_fa rfl rfl rfl ?_
  refine OW_loadR hS1 (k := 0) rfl rfl rfl rfl rfl (by first | exact part_whole rfl rfl rfl | rfl) ?_
  refine OW_fn rfl rfl (putUi (by assumption) ?_) 
  refine EN31_CK13 rfl ?_
  refine OW_bin rfl rfl rfl rfl (cat (by first | omega | assumption | (simp only [ss]; omega) | (refine Nat.le_trans (Nat.add_le_add_left (show _ ≤ 256 by decide) _) (by first | omega | (simp only [ss]; omega))) | (refine Nat.le_trans (Nat.add_le_add_right (show _ ≤ 256 by decide) _) (by first | omega | (simp only [ss]; omega))))) ?_
  refine OW_fa rfl rfl rfl ?_
  refine OW_loadR hS1 (k := 0) rfl rfl rfl rfl rfl (by first | exact part_whole rfl rfl rfl | rfl) ?_
  refine EN31_CK13 rfl ?_
  refine OW_fn rfl rfl (putUi (by assumption) ?_) 
  refine OW_bin rfl rfl rfl rfl (cat (by first | omega | assumption | (simp only [ss]; omega) | (refine Nat.le_trans (Nat.add_le_add_left (show _ ≤ 256 by decide) _) (by first | omega | (simp only [ss]; omega))) | (refine Nat.le_trans (Nat.add_le_add_right (show _ ≤ 256 by decide) _) (by first | omega | (simp only [ss]; omega))))) ?_
  refine OW_fa rfl rfl rfl ?_
  refine EN31_CK13 rfl ?_
  refine OW_loadR hS1 (k := 0) rfl rfl rfl rfl rfl (by first | exact part_whole rfl rfl rfl | rfl) ?_
  refine OW_fn rfl rfl (putUi (by assumption) ?_) 
  refine OW_bin rfl rfl rfl rfl (cat (by first | omega | assumption | (simp only [ss]; omega) | (refine Nat.le_trans (Nat.add_le_add_left (show _ ≤ 256 by decide) _) (by first | omega | (simp only [ss]; omega))) | (refine Nat.le_trans (Nat.add_le_add_right (show _ ≤ 256 by decide) _) (by first | omega | (simp only [ss]; omega))))) ?_
  refine EN31_CK13 rfl ?_
  refine OW_fa rfl rfl rfl ?_
  refine OW_loadR hS1 (k := 0) rfl rfl rfl rfl rfl (by first | exact part_whole rfl rfl rfl | rfl) ?_
  refine OW_fn rfl rfl (putTx (by omega) ?_) 
  refine EN31_CK13 rfl ?_
  refine OW_bin rfl rfl rfl rfl (cat (by first | omega | assumption | (simp only [ss]; omega) | (refine Nat.le_trans (Nat.add_le_add_left (show _ ≤ 256 by decide) _) (by first | omega | (simp only [ss]; omega))) | (refine Nat.le_trans (Nat.add_le_add_right (show _ ≤ 256 by decide) _) (by first | omega | (simp only [ss]; omega))))) ?_
  refine OW_as rfl rfl ?_
  refine OW_nilE (e' := [_,_,_,_,_,_,_,_,_,_,_,_,_,_,_,_,_,_,_,_,_,_,_,_,_,_,_,_,_,_,_]) rfl ?_
  refine XW_ret ?_
  refine ret_ret (res1 rfl (rv_tmp rfl)) (frz1 (Q := Q) (by first | exact freeze_plain rfl | exact Ls.freeze (by assumption) | exact Ls.freeze Ls.of | exact Ls.freeze Ls.emp | exact Ls.freeze Ls.nls) ?_)
  exact hq
theorem num10 (s : ByteArray) : resN 10 s = ([], ⟨#[]⟩, false) ∨ ∃ a0 a1 a2 a3 a4 a5 a6 a7 a8 a9 r, resN 10 s = ([a0, a1, a2, a3, a4, a5, a6, a7, a8, a9], r, true) ∧ r.size ≤ s.size ∧ (∀ x ∈ [a0, a1, a2, a3, a4, a5, a6, a7, a8, a9], U64 x) ∧ cI.manyT 10 s.data.toList = some ([a0, a1, a2, a3, a4, a5, a6, a7, a8, a9], r.data.toList) := by
  unfold resN
  cases h : cI.manyT 10 s.data.toList with
  | none => exact .inl rfl
  | some p =>
    obtain ⟨l, r⟩ := p
    obtain ⟨⟨h1, h2⟩, h3⟩ := (cI.manyT_iff _ _ _ _).1 h
    have hsz : (ba r).size ≤ s.size := by
      have := congrArg List.length h3
      rw [List.length_append] at this
      rw [ba_size]
      have e : s.data.toList.length = s.size := rfl
      omega
    match l, h1, h2 with
    | [a0, a1, a2, a3, a4, a5, a6, a7, a8, a9], _, h2 => exact .inr ⟨a0, a1, a2, a3, a4, a5, a6, a7, a8, a9, ba r, rfl, hsz, h2, rfl⟩
def cm0 : Cm := ⟨0, ⟨0, 0, 0, 0, 0⟩, 0, 0, 0, 0, ⟨#[]⟩⟩
def unpC (s : ByteArray) : Cm × Bool := match resN 10 s with
  | ([a0, a1, a2, a3, a4, a5, a6, a7, a8, a9], r, true) => if (resT (r.size : Int) r).2.2 = true ∧ (resT (r.size : Int) r).2.1 = ⟨#[]⟩ ∧ a0 < 6 then (⟨a0, ⟨a1, a2, a3, a4, a5⟩, a6, a7, a8, a9, (resT (r.size : Int) r).1⟩, true) else (cm0, false)
  | _ => (cm0, false)
theorem takeK_e {s : ByteArray} {m : Nat} {l : List Int} {r : ByteArray} {b : Bool} (hs : s.size ≤ 4611686018427387904) (hm : m ≤ 16) (he : resN m s = (l, r, b)) (hq : Q (.tup [.lst (l.map encN), .str r, .bool b]) H) : CW cfg ν 76 [.str s, .int .i64 m] H Q := takeK_c hs hm (by rw [he]; exact hq)
theorem p_unpackC {s : ByteArray} (hs : s.size ≤ 4611686018427387904) (hq : Q (.tup [(unpC s).1.enc, .bool (unpC s).2]) H) : CW cfg ν 54 [.str s] H Q := by
  rcases num10 s with h | ⟨a0, a1, a2, a3, a4, a5, a6, a7, a8, a9, r, h, hr, hx, _⟩
  · rw [unpC, h] at hq
    refine CW_pure g54 F54 rfl ?_
    have hS0 : Own ν ν (fun _ => none) [] := Own.nil
    refine XW_sr ?_
    refine OW_allocR hS0 (le_app (p := ν) (b := [0, 0])) (under_app [0, 0] under_me) rfl rfl rfl rfl fun H1 hS1 => ?_
    replace hS1 : Own _ _ _ ([_]) := hS1
    refine OW_as rfl rfl ?_
    refine EZ75_CK13 rfl ?_
    refine XW_sr ?_
    refine OW_mv rfl rfl ?_
    refine OW_fn rfl rfl (takeK_e (m := 10) hs (by decide) h ?_) 
    refine OW_mv rfl rfl ?_
    refine EN75_CK13 rfl ?_
    refine OW_ex rfl rfl rfl ?_
    refine OW_ex rfl rfl rfl ?_
    refine OW_ex rfl rfl rfl ?_
    refine EN75_CK13 rfl ?_
    refine OW_as rfl rfl ?_
    refine OW_as rfl rfl ?_
    refine OW_as rfl rfl ?_
    refine EZ75_CK13 rfl ?_
    refine XW_sr ?_
    refine OW_mv rfl rfl ?_
    refine OW_mv rfl rfl ?_
    refine OW_lenS rfl rfl rfl ?_
    refine EN75_CK13 rfl ?_
    refine OW_fn rfl rfl (takeT_c (by decide) (by decide) ?_) 
    refine OW_mv rfl rfl ?_
    refine OW_ex rfl rfl rfl ?_
    refine EN75_CK13 rfl ?_
    refine OW_ex rfl rfl rfl ?_
    refine OW_ex rfl rfl rfl ?_
    refine OW_as rfl rfl ?_
    refine EN75_CK13 rfl ?_
    refine OW_as rfl rfl ?_
    refine OW_as rfl rfl ?_
    refine EZ75_CK13 rfl ?_
    refine XW_seq ?_
    refine XW_sr ?_
    refine OW_mv rfl rfl ?_
    refine OW_un rfl rfl rfl ?_
    refine OW_mv rfl rfl ?_
    refine EN75_CK13 rfl ?_
    refine OW_no rfl ?_
    refine OW_no rfl ?_
    refine OW_pick rfl rfl rfl ?_
    refine EN75_CK13 rfl ?_
    refine OW_mv rfl rfl ?_
    refine OW_no rfl ?_
    refine OW_no rfl ?_
    refine EN75_CK13 rfl ?_
    refine OW_pick rfl rfl rfl ?_
    refine OW_mv rfl rfl ?_
    refine OW_no rfl ?_
    refine EN75_CK13 rfl ?_
    refine OW_no rfl ?_
    refine OW_no rfl ?_
    refine OW_no rfl ?_
    refine EN75_CK13 rfl ?_
    refine OW_pick rfl rfl rfl ?_
    refine EZ75_CK13 rfl ?_
    refine XW_yes rfl rfl ?_
    refine XW_sr ?_
    refine OW_bd rfl rfl (v := .agg [_, _, _, _, _, _, _, _, _, _, _]) rfl ?_
    first
    | refine OW_storeR hS1 (k := 0) rfl (le_lit (ν := ν) (a := [1, 0]) (b := [1, 0, 1, 0, 1, 1, 1]) (by decide)) rfl rfl rfl rfl ⟨rfl, rfl, Nat.le_of_ble_eq_true rfl⟩ (set_whole rfl rfl) fun H2 hS2 => ?_
    | refine OW_storeR hS1 (k := 0) rfl (le_lit (ν := ν) (a := [1, 0]) (b := [1, 0, 1, 0, 1, 1, 1]) (by decide)) rfl rfl rfl rfl ⟨rfl, rfl, Nat.le_of_ble_eq_true rfl⟩ (u2 := .agg [_, _, _, _, _, _, _, _, _, _, _]) rfl fun H2 hS2 => ?_
    replace hS2 : Own _ _ _ ([_]) := hS2
    refine OW_as rfl rfl ?_
    refine EZ75_CK13 rfl ?_
    refine XW_ret ?_
    refine then_ret ?_
    refine ret_ret (res2 rfl (rv_cellR hS2 (k := 0) rfl rfl rfl rfl (by first | exact part_whole rfl rfl rfl | rfl)) (rv_tmp rfl)) (frz2 (Q := Q) (by first | exact freeze_plain rfl | exact Ls.freeze (by assumption) | exact Ls.freeze Ls.of | exact Ls.freeze Ls.emp | exact Ls.freeze Ls.nls | exact frA (frAc (by first | exact freeze_plain rfl | assumption | exact Ls.freeze Ls.of | exact Ls.freeze Ls.emp | exact Ls.freeze Ls.nls | exact Ls.freeze (by assumption)) (frAc (by first | exact freeze_plain rfl | assumption | exact Ls.freeze Ls.of | exact Ls.freeze Ls.emp | exact Ls.freeze Ls.nls | exact Ls.freeze (by assumption)) (frAc (by first | exact freeze_plain rfl | assumption | exact Ls.freeze Ls.of | exact Ls.freeze Ls.emp | exact Ls.freeze Ls.nls | exact Ls.freeze (by assumption)) (frAc (by first | exact freeze_plain rfl | assumption | exact Ls.freeze Ls.of | exact Ls.freeze Ls.emp | exact Ls.freeze Ls.nls | exact Ls.freeze (by assumption)) (frAc (by first | exact freeze_plain rfl | assumption | exact Ls.freeze Ls.of | exact Ls.freeze Ls.emp | exact Ls.freeze Ls.nls | exact Ls.freeze (by assumption)) (frAc (by first | exact freeze_plain rfl | assumption | exact Ls.freeze Ls.of | exact Ls.freeze Ls.emp | exact Ls.freeze Ls.nls | exact Ls.freeze (by assumption)) (frAc (by first | exact freeze_plain rfl | assumption | exact Ls.freeze Ls.of | exact Ls.freeze Ls.emp | exact Ls.freeze Ls.nls | exact Ls.freeze (by assumption)) (frAc (by first | exact freeze_plain rfl | assumption | exact Ls.freeze Ls.of | exact Ls.freeze Ls.emp | exact Ls.freeze Ls.nls | exact Ls.freeze (by assumption)) (frAc (by first | exact freeze_plain rfl | assumption | exact Ls.freeze Ls.of | exact Ls.freeze Ls.emp | exact Ls.freeze Ls.nls | exact Ls.freeze (by assumption)) (frAc (by first | exact freeze_plain rfl | assumption | exact Ls.freeze Ls.of | exact Ls.freeze Ls.emp | exact Ls.freeze Ls.nls | exact Ls.freeze (by assumption)) (frAc (by first | exact freeze_plain rfl | assumption | exact Ls.freeze Ls.of | exact Ls.freeze Ls.emp | exact Ls.freeze Ls.nls | exact Ls.freeze (by assumption)) frAn)))))))))))) (by first | exact freeze_plain rfl | exact Ls.freeze (by assumption) | exact Ls.freeze Ls.of | exact Ls.freeze Ls.emp | exact Ls.freeze Ls.nls) ?_)
    exact hq
  · rw [unpC, h] at hq
    simp only at hq
    have h0 := hx a0 (by simp)
    refine CW_pure g54 F54 rfl ?_
    have hS0 : Own ν ν (fun _ => none) [] := Own.nil
    refine XW_sr ?_
    refine OW_allocR hS0 (le_app (p := ν) (b := [0, 0])) (under_app [0, 0] under_me) rfl rfl rfl rfl fun H1 hS1 => ?_
    replace hS1 : Own _ _ _ ([_]) := hS1
    refine OW_as rfl rfl ?_
    refine EZ75_CK13 rfl ?_
    refine XW_sr ?_
    refine OW_mv rfl rfl ?_
    refine OW_fn rfl rfl (takeK_e (m := 10) hs (by decide) h ?_) 
    refine OW_mv rfl rfl ?_
    refine EN75_CK13 rfl ?_
    refine OW_ex rfl rfl rfl ?_
    refine OW_ex rfl rfl rfl ?_
    refine OW_ex rfl rfl rfl ?_
    refine EN75_CK13 rfl ?_
    refine OW_as rfl rfl ?_
    refine OW_as rfl rfl ?_
    refine OW_as rfl rfl ?_
    refine EZ75_CK13 rfl ?_
    refine XW_sr ?_
    refine OW_mv rfl rfl ?_
    refine OW_mv rfl rfl ?_
    refine OW_lenS rfl rfl rfl ?_
    refine EN75_CK13 rfl ?_
    refine OW_fn rfl rfl (takeT_c (by omega) (by omega) ?_) 
    refine OW_mv rfl rfl ?_
    refine OW_ex rfl rfl rfl ?_
    refine EN75_CK13 rfl ?_
    refine OW_ex rfl rfl rfl ?_
    refine OW_ex rfl rfl rfl ?_
    refine OW_as rfl rfl ?_
    refine EN75_CK13 rfl ?_
    refine OW_as rfl rfl ?_
    refine OW_as rfl rfl ?_
    refine EZ75_CK13 rfl ?_
    refine XW_seq ?_
    refine XW_sr ?_
    refine OW_mv rfl rfl ?_
    refine OW_un rfl rfl rfl ?_
    refine OW_mv rfl rfl ?_
    refine EN75_CK13 rfl ?_
    refine OW_mv rfl rfl ?_
    refine OW_un rfl rfl rfl ?_
    refine OW_pick rfl rfl rfl ?_
    refine EN75_CK13 rfl ?_
    refine OW_mv rfl rfl ?_
    refine OW_split (tt := 30) rfl (fun g3_7 => ?_) (fun g3_7 => ?_)
    ·first
     |(exfalso; (try simp only [bs] at g3_7) <;> (first | (exact absurd rfl g3_7) | (exact g3_7 trivial) | omega | (simp at g3_7; done)); done)
     |skip
      try simp only [bs] at g3_7
      refine OW_no rfl ?_
      refine EN75_CK13 rfl ?_
      refine OW_no rfl ?_
      refine OW_pick rfl rfl rfl ?_
      refine OW_mv rfl rfl ?_
      refine EN75_CK13 rfl ?_
      refine OW_no rfl ?_
      refine OW_no rfl ?_
      refine OW_no rfl ?_
      refine EN75_CK13 rfl ?_
      refine OW_no rfl ?_
      refine OW_pick rfl rfl rfl ?_
      refine EZ75_CK13 rfl ?_
      refine XW_yes rfl rfl ?_
      refine XW_sr ?_
      refine OW_bd rfl rfl (v := .agg [_, _, _, _, _, _, _, _, _, _, _]) rfl ?_
      first
      | refine OW_storeR hS1 (k := 0) rfl (le_lit (ν := ν) (a := [1, 0]) (b := [1, 0, 1, 0, 1, 1, 1]) (by decide)) rfl rfl rfl rfl ⟨rfl, rfl, Nat.le_of_ble_eq_true rfl⟩ (set_whole rfl rfl) fun H2 hS2 => ?_
      | refine OW_storeR hS1 (k := 0) rfl (le_lit (ν := ν) (a := [1, 0]) (b := [1, 0, 1, 0, 1, 1, 1]) (by decide)) rfl rfl rfl rfl ⟨rfl, rfl, Nat.le_of_ble_eq_true rfl⟩ (u2 := .agg [_, _, _, _, _, _, _, _, _, _, _]) rfl fun H2 hS2 => ?_
      replace hS2 : Own _ _ _ ([_]) := hS2
      refine OW_as rfl rfl ?_
      refine EZ75_CK13 rfl ?_
      refine XW_ret ?_
      refine then_ret ?_
      refine ret_ret (res2 rfl (rv_cellR hS2 (k := 0) rfl rfl rfl rfl (by first | exact part_whole rfl rfl rfl | rfl)) (rv_tmp rfl)) (frz2 (Q := Q) (by first | exact freeze_plain rfl | exact Ls.freeze (by assumption) | exact Ls.freeze Ls.of | exact Ls.freeze Ls.emp | exact Ls.freeze Ls.nls | exact frA (frAc (by first | exact freeze_plain rfl | assumption | exact Ls.freeze Ls.of | exact Ls.freeze Ls.emp | exact Ls.freeze Ls.nls | exact Ls.freeze (by assumption)) (frAc (by first | exact freeze_plain rfl | assumption | exact Ls.freeze Ls.of | exact Ls.freeze Ls.emp | exact Ls.freeze Ls.nls | exact Ls.freeze (by assumption)) (frAc (by first | exact freeze_plain rfl | assumption | exact Ls.freeze Ls.of | exact Ls.freeze Ls.emp | exact Ls.freeze Ls.nls | exact Ls.freeze (by assumption)) (frAc (by first | exact freeze_plain rfl | assumption | exact Ls.freeze Ls.of | exact Ls.freeze Ls.emp | exact Ls.freeze Ls.nls | exact Ls.freeze (by assumption)) (frAc (by first | exact freeze_plain rfl | assumption | exact Ls.freeze Ls.of | exact Ls.freeze Ls.emp | exact Ls.freeze Ls.nls | exact Ls.freeze (by assumption)) (frAc (by first | exact freeze_plain rfl | assumption | exact Ls.freeze Ls.of | exact Ls.freeze Ls.emp | exact Ls.freeze Ls.nls | exact Ls.freeze (by assumption)) (frAc (by first | exact freeze_plain rfl | assumption | exact Ls.freeze Ls.of | exact Ls.freeze Ls.emp | exact Ls.freeze Ls.nls | exact Ls.freeze (by assumption)) (frAc (by first | exact freeze_plain rfl | assumption | exact Ls.freeze Ls.of | exact Ls.freeze Ls.emp | exact Ls.freeze Ls.nls | exact Ls.freeze (by assumption)) (frAc (by first | exact freeze_plain rfl | assumption | exact Ls.freeze Ls.of | exact Ls.freeze Ls.emp | exact Ls.freeze Ls.nls | exact Ls.freeze (by assumption)) (frAc (by first | exact freeze_plain rfl | assumption | exact Ls.freeze Ls.of | exact Ls.freeze Ls.emp | exact Ls.freeze Ls.nls | exact Ls.freeze (by assumption)) (frAc (by first | exact freeze_plain rfl | assumption | exact Ls.freeze Ls.of | exact Ls.freeze Ls.emp | exact Ls.freeze Ls.nls | exact Ls.freeze (by assumption)) frAn)))))))))))) (by first | exact freeze_plain rfl | exact Ls.freeze (by assumption) | exact Ls.freeze Ls.of | exact Ls.freeze Ls.emp | exact Ls.freeze Ls.nls) ?_)
      rw [if_neg (by rintro ⟨e1, e2, e3⟩; rw [g3_7] at e1; cases e1)] at hq; exact hq
    ·first
     |(exfalso; (try simp only [bs] at g3_7) <;> (first | (exact absurd rfl g3_7) | (exact g3_7 trivial) | omega | (simp at g3_7; done)); done)
     |skip
      try simp only [bs] at g3_7
      refine OW_mv rfl rfl ?_
      refine EN75_CK13 rfl ?_
      refine OW_bin rfl rfl rfl rfl rfl ?_
      refine OW_pick rfl rfl rfl ?_
      refine OW_mv rfl rfl ?_
      refine EN75_CK13 rfl ?_
      refine OW_split (tt := 34) rfl (fun g3_11 => ?_) (fun g3_11 => ?_)
      ·first
       |(exfalso; (try simp only [bs] at g3_11) <;> (first | (exact absurd rfl g3_11) | (exact g3_11 trivial) | omega | (simp at g3_11; done)); done)
       |skip
        try simp only [bs] at g3_11
        refine OW_no rfl ?_
        refine OW_no rfl ?_
        refine EN75_CK13 rfl ?_
        refine OW_no rfl ?_
        refine OW_no rfl ?_
        refine OW_pick rfl rfl rfl ?_
        refine EZ75_CK13 rfl ?_
        refine XW_yes rfl rfl ?_
        refine XW_sr ?_
        refine OW_bd rfl rfl (v := .agg [_, _, _, _, _, _, _, _, _, _, _]) rfl ?_
        first
        | refine OW_storeR hS1 (k := 0) rfl (le_lit (ν := ν) (a := [1, 0]) (b := [1, 0, 1, 0, 1, 1, 1]) (by decide)) rfl rfl rfl rfl ⟨rfl, rfl, Nat.le_of_ble_eq_true rfl⟩ (set_whole rfl rfl) fun H3 hS3 => ?_
        | refine OW_storeR hS1 (k := 0) rfl (le_lit (ν := ν) (a := [1, 0]) (b := [1, 0, 1, 0, 1, 1, 1]) (by decide)) rfl rfl rfl rfl ⟨rfl, rfl, Nat.le_of_ble_eq_true rfl⟩ (u2 := .agg [_, _, _, _, _, _, _, _, _, _, _]) rfl fun H3 hS3 => ?_
        replace hS3 : Own _ _ _ ([_]) := hS3
        refine OW_as rfl rfl ?_
        refine EZ75_CK13 rfl ?_
        refine XW_ret ?_
        refine then_ret ?_
        refine ret_ret (res2 rfl (rv_cellR hS3 (k := 0) rfl rfl rfl rfl (by first | exact part_whole rfl rfl rfl | rfl)) (rv_tmp rfl)) (frz2 (Q := Q) (by first | exact freeze_plain rfl | exact Ls.freeze (by assumption) | exact Ls.freeze Ls.of | exact Ls.freeze Ls.emp | exact Ls.freeze Ls.nls | exact frA (frAc (by first | exact freeze_plain rfl | assumption | exact Ls.freeze Ls.of | exact Ls.freeze Ls.emp | exact Ls.freeze Ls.nls | exact Ls.freeze (by assumption)) (frAc (by first | exact freeze_plain rfl | assumption | exact Ls.freeze Ls.of | exact Ls.freeze Ls.emp | exact Ls.freeze Ls.nls | exact Ls.freeze (by assumption)) (frAc (by first | exact freeze_plain rfl | assumption | exact Ls.freeze Ls.of | exact Ls.freeze Ls.emp | exact Ls.freeze Ls.nls | exact Ls.freeze (by assumption)) (frAc (by first | exact freeze_plain rfl | assumption | exact Ls.freeze Ls.of | exact Ls.freeze Ls.emp | exact Ls.freeze Ls.nls | exact Ls.freeze (by assumption)) (frAc (by first | exact freeze_plain rfl | assumption | exact Ls.freeze Ls.of | exact Ls.freeze Ls.emp | exact Ls.freeze Ls.nls | exact Ls.freeze (by assumption)) (frAc (by first | exact freeze_plain rfl | assumption | exact Ls.freeze Ls.of | exact Ls.freeze Ls.emp | exact Ls.freeze Ls.nls | exact Ls.freeze (by assumption)) (frAc (by first | exact freeze_plain rfl | assumption | exact Ls.freeze Ls.of | exact Ls.freeze Ls.emp | exact Ls.freeze Ls.nls | exact Ls.freeze (by assumption)) (frAc (by first | exact freeze_plain rfl | assumption | exact Ls.freeze Ls.of | exact Ls.freeze Ls.emp | exact Ls.freeze Ls.nls | exact Ls.freeze (by assumption)) (frAc (by first | exact freeze_plain rfl | assumption | exact Ls.freeze Ls.of | exact Ls.freeze Ls.emp | exact Ls.freeze Ls.nls | exact Ls.freeze (by assumption)) (frAc (by first | exact freeze_plain rfl | assumption | exact Ls.freeze Ls.of | exact Ls.freeze Ls.emp | exact Ls.freeze Ls.nls | exact Ls.freeze (by assumption)) (frAc (by first | exact freeze_plain rfl | assumption | exact Ls.freeze Ls.of | exact Ls.freeze Ls.emp | exact Ls.freeze Ls.nls | exact Ls.freeze (by assumption)) frAn)))))))))))) (by first | exact freeze_plain rfl | exact Ls.freeze (by assumption) | exact Ls.freeze Ls.of | exact Ls.freeze Ls.emp | exact Ls.freeze Ls.nls) ?_)
        first | (rw [if_pos ⟨by assumption, by assumption, by omega⟩] at hq; exact hq) | (rw [if_neg (by rintro ⟨e1, e2, e3⟩; first | contradiction | omega)] at hq; exact hq)
      ·first
       |(exfalso; (try simp only [bs] at g3_11) <;> (first | (exact absurd rfl g3_11) | (exact g3_11 trivial) | omega | (simp at g3_11; done)); done)
       |skip
        try simp only [bs] at g3_11
        refine OW_mv rfl rfl ?_
        first
        | refine OW_iaL rfl rfl rfl Ls.of rfl rfl rfl (by first | rfl | exact (Int.toNat_of_nonneg (by omega)).symm) (by first | assumption | exact at_map (by first | assumption | omega) | exact at_lst (by omega) | rfl) rfl ?_
        | refine OW_iaL rfl rfl rfl (by assumption) rfl rfl rfl (by first | rfl | exact (Int.toNat_of_nonneg (by omega)).symm) (by first | assumption | exact at_map (by first | assumption | omega) | exact at_lst (by omega) | rfl) rfl ?_
        refine EN75_CK13 rfl ?_
        refine OW_loadE rfl rfl rfl (by first | exact part_whole rfl rfl rfl | rfl) ?_
        refine OW_bin rfl rfl rfl rfl rfl ?_
        refine OW_pick rfl rfl rfl ?_
        refine EZ75_CK13 rfl ?_
        refine XW_if rfl (fun h3 => ?_) (fun h3 => ?_)
        ·first
         |(exfalso; (try simp only [bs] at h3) <;> (first | (exact absurd rfl h3) | (exact h3 trivial) | omega | (simp at h3; done)); done)
         |skip
          try simp only [bs] at h3
          refine XW_sr ?_
          refine OW_bd rfl rfl (v := .agg [_, _, _, _, _, _, _, _, _, _, _]) rfl ?_
          first
          | refine OW_storeR hS1 (k := 0) rfl (le_lit (ν := ν) (a := [1, 0]) (b := [1, 0, 1, 0, 1, 1, 1]) (by decide)) rfl rfl rfl rfl ⟨rfl, rfl, Nat.le_of_ble_eq_true rfl⟩ (set_whole rfl rfl) fun H4 hS4 => ?_
          | refine OW_storeR hS1 (k := 0) rfl (le_lit (ν := ν) (a := [1, 0]) (b := [1, 0, 1, 0, 1, 1, 1]) (by decide)) rfl rfl rfl rfl ⟨rfl, rfl, Nat.le_of_ble_eq_true rfl⟩ (u2 := .agg [_, _, _, _, _, _, _, _, _, _, _]) rfl fun H4 hS4 => ?_
          replace hS4 : Own _ _ _ ([_]) := hS4
          refine OW_as rfl rfl ?_
          refine EZ75_CK13 rfl ?_
          refine XW_ret ?_
          refine then_ret ?_
          refine ret_ret (res2 rfl (rv_cellR hS4 (k := 0) rfl rfl rfl rfl (by first | exact part_whole rfl rfl rfl | rfl)) (rv_tmp rfl)) (frz2 (Q := Q) (by first | exact freeze_plain rfl | exact Ls.freeze (by assumption) | exact Ls.freeze Ls.of | exact Ls.freeze Ls.emp | exact Ls.freeze Ls.nls | exact frA (frAc (by first | exact freeze_plain rfl | assumption | exact Ls.freeze Ls.of | exact Ls.freeze Ls.emp | exact Ls.freeze Ls.nls | exact Ls.freeze (by assumption)) (frAc (by first | exact freeze_plain rfl | assumption | exact Ls.freeze Ls.of | exact Ls.freeze Ls.emp | exact Ls.freeze Ls.nls | exact Ls.freeze (by assumption)) (frAc (by first | exact freeze_plain rfl | assumption | exact Ls.freeze Ls.of | exact Ls.freeze Ls.emp | exact Ls.freeze Ls.nls | exact Ls.freeze (by assumption)) (frAc (by first | exact freeze_plain rfl | assumption | exact Ls.freeze Ls.of | exact Ls.freeze Ls.emp | exact Ls.freeze Ls.nls | exact Ls.freeze (by assumption)) (frAc (by first | exact freeze_plain rfl | assumption | exact Ls.freeze Ls.of | exact Ls.freeze Ls.emp | exact Ls.freeze Ls.nls | exact Ls.freeze (by assumption)) (frAc (by first | exact freeze_plain rfl | assumption | exact Ls.freeze Ls.of | exact Ls.freeze Ls.emp | exact Ls.freeze Ls.nls | exact Ls.freeze (by assumption)) (frAc (by first | exact freeze_plain rfl | assumption | exact Ls.freeze Ls.of | exact Ls.freeze Ls.emp | exact Ls.freeze Ls.nls | exact Ls.freeze (by assumption)) (frAc (by first | exact freeze_plain rfl | assumption | exact Ls.freeze Ls.of | exact Ls.freeze Ls.emp | exact Ls.freeze Ls.nls | exact Ls.freeze (by assumption)) (frAc (by first | exact freeze_plain rfl | assumption | exact Ls.freeze Ls.of | exact Ls.freeze Ls.emp | exact Ls.freeze Ls.nls | exact Ls.freeze (by assumption)) (frAc (by first | exact freeze_plain rfl | assumption | exact Ls.freeze Ls.of | exact Ls.freeze Ls.emp | exact Ls.freeze Ls.nls | exact Ls.freeze (by assumption)) (frAc (by first | exact freeze_plain rfl | assumption | exact Ls.freeze Ls.of | exact Ls.freeze Ls.emp | exact Ls.freeze Ls.nls | exact Ls.freeze (by assumption)) frAn)))))))))))) (by first | exact freeze_plain rfl | exact Ls.freeze (by assumption) | exact Ls.freeze Ls.of | exact Ls.freeze Ls.emp | exact Ls.freeze Ls.nls) ?_)
          first | (rw [if_pos ⟨by assumption, by assumption, by omega⟩] at hq; exact hq) | (rw [if_neg (by rintro ⟨e1, e2, e3⟩; first | contradiction | omega)] at hq; exact hq)
        ·first
         |(exfalso; (try simp only [bs] at h3) <;> (first | (exact absurd rfl h3) | (exact h3 trivial) | omega | (simp at h3; done)); done)
         |skip
          try simp only [bs] at h3
          refine XW_skip ?_
          refine then_norm ?_
          refine XW_sr ?_
          refine OW_mv rfl rfl ?_
          first
          | refine OW_iaL rfl rfl rfl Ls.of rfl rfl rfl (by first | rfl | exact (Int.toNat_of_nonneg (by omega)).symm) (by first | assumption | exact at_map (by first | assumption | omega) | exact at_lst (by omega) | rfl) rfl ?_
          | refine OW_iaL rfl rfl rfl (by assumption) rfl rfl rfl (by first | rfl | exact (Int.toNat_of_nonneg (by omega)).symm) (by first | assumption | exact at_map (by first | assumption | omega) | exact at_lst (by omega) | rfl) rfl ?_
          refine OW_loadE rfl rfl rfl (by first | exact part_whole rfl rfl rfl | rfl) ?_
          refine EN75_CK13 rfl ?_
          first
          | refine OW_conv rfl rfl (conv_in rfl rfl rfl (IntWalk.i64_in _ (by omega))) ?_
          | refine OW_conv rfl rfl rfl ?_
          refine OW_mv rfl rfl ?_
          first
          | refine OW_iaL rfl rfl rfl Ls.of rfl rfl rfl (by first | rfl | exact (Int.toNat_of_nonneg (by omega)).symm) (by first | assumption | exact at_map (by first | assumption | omega) | exact at_lst (by omega) | rfl) rfl ?_
          | refine OW_iaL rfl rfl rfl (by assumption) rfl rfl rfl (by first | rfl | exact (Int.toNat_of_nonneg (by omega)).symm) (by first | assumption | exact at_map (by first | assumption | omega) | exact at_lst (by omega) | rfl) rfl ?_
          refine EN75_CK13 rfl ?_
          refine OW_loadE rfl rfl rfl (by first | exact part_whole rfl rfl rfl | rfl) ?_
          refine OW_mv rfl rfl ?_
          first
          | refine OW_iaL rfl rfl rfl Ls.of rfl rfl rfl (by first | rfl | exact (Int.toNat_of_nonneg (by omega)).symm) (by first | assumption | exact at_map (by first | assumption | omega) | exact at_lst (by omega) | rfl) rfl ?_
          | refine OW_iaL rfl rfl rfl (by assumption) rfl rfl rfl (by first | rfl | exact (Int.toNat_of_nonneg (by omega)).symm) (by first | assumption | exact at_map (by first | assumption | omega) | exact at_lst (by omega) | rfl) rfl ?_
          refine EN75_CK13 rfl ?_
          refine OW_loadE rfl rfl rfl (by first | exact part_whole rfl rfl rfl | rfl) ?_
          refine OW_mv rfl rfl ?_
          first
          | refine OW_iaL rfl rfl rfl Ls.of rfl rfl rfl (by first | rfl | exact (Int.toNat_of_nonneg (by omega)).symm) (by first | assumption | exact at_map (by first | assumption | omega) | exact at_lst (by omega) | rfl) rfl ?_
          | refine OW_iaL rfl rfl rfl (by assumption) rfl rfl rfl (by first | rfl | exact (Int.toNat_of_nonneg (by omega)).symm) (by first | assumption | exact at_map (by first | assumption | omega) | exact at_lst (by omega) | rfl) rfl ?_
          refine EN75_CK13 rfl ?_
          refine OW_loadE rfl rfl rfl (by first | exact part_whole rfl rfl rfl | rfl) ?_
          refine OW_mv rfl rfl ?_
          first
          | refine OW_iaL rfl rfl rfl Ls.of rfl rfl rfl (by first | rfl | exact (Int.toNat_of_nonneg (by omega)).symm) (by first | assumption | exact at_map (by first | assumption | omega) | exact at_lst (by omega) | rfl) rfl ?_
          | refine OW_iaL rfl rfl rfl (by assumption) rfl rfl rfl (by first | rfl | exact (Int.toNat_of_nonneg (by omega)).symm) (by first | assumption | exact at_map (by first | assumption | omega) | exact at_lst (by omega) | rfl) rfl ?_
          refine EN75_CK13 rfl ?_
          refine OW_loadE rfl rfl rfl (by first | exact part_whole rfl rfl rfl | rfl) ?_
          refine OW_mv rfl rfl ?_
          first
          | refine OW_iaL rfl rfl rfl Ls.of rfl rfl rfl (by first | rfl | exact (Int.toNat_of_nonneg (by omega)).symm) (by first | assumption | exact at_map (by first | assumption | omega) | exact at_lst (by omega) | rfl) rfl ?_
          | refine OW_iaL rfl rfl rfl (by assumption) rfl rfl rfl (by first | rfl | exact (Int.toNat_of_nonneg (by omega)).symm) (by first | assumption | exact at_map (by first | assumption | omega) | exact at_lst (by omega) | rfl) rfl ?_
          refine EN75_CK13 rfl ?_
          refine OW_loadE rfl rfl rfl (by first | exact part_whole rfl rfl rfl | rfl) ?_
          refine OW_bd rfl rfl (v := .agg [_, _, _, _, _]) rfl ?_
          refine OW_mv rfl rfl ?_
          refine EN75_CK13 rfl ?_
          first
          | refine OW_iaL rfl rfl rfl Ls.of rfl rfl rfl (by first | rfl | exact (Int.toNat_of_nonneg (by omega)).symm) (by first | assumption | exact at_map (by first | assumption | omega) | exact at_lst (by omega) | rfl) rfl ?_
          | refine OW_iaL rfl rfl rfl (by assumption) rfl rfl rfl (by first | rfl | exact (Int.toNat_of_nonneg (by omega)).symm) (by first | assumption | exact at_map (by first | assumption | omega) | exact at_lst (by omega) | rfl) rfl ?_
          refine OW_loadE rfl rfl rfl (by first | exact part_whole rfl rfl rfl | rfl) ?_
          refine OW_mv rfl rfl ?_
          refine EN75_CK13 rfl ?_
          first
          | refine OW_iaL rfl rfl rfl Ls.of rfl rfl rfl (by first | rfl | exact (Int.toNat_of_nonneg (by omega)).symm) (by first | assumption | exact at_map (by first | assumption | omega) | exact at_lst (by omega) | rfl) rfl ?_
          | refine OW_iaL rfl rfl rfl (by assumption) rfl rfl rfl (by first | rfl | exact (Int.toNat_of_nonneg (by omega)).symm) (by first | assumption | exact at_map (by first | assumption | omega) | exact at_lst (by omega) | rfl) rfl ?_
          refine OW_loadE rfl rfl rfl (by first | exact part_whole rfl rfl rfl | rfl) ?_
          refine OW_mv rfl rfl ?_
          refine EN75_CK13 rfl ?_
          first
          | refine OW_iaL rfl rfl rfl Ls.of rfl rfl rfl (by first | rfl | exact (Int.toNat_of_nonneg (by omega)).symm) (by first | assumption | exact at_map (by first | assumption | omega) | exact at_lst (by omega) | rfl) rfl ?_
          | refine OW_iaL rfl rfl rfl (by assumption) rfl rfl rfl (by first | rfl | exact (Int.toNat_of_nonneg (by omega)).symm) (by first | assumption | exact at_map (by first | assumption | omega) | exact at_lst (by omega) | rfl) rfl ?_
          refine OW_loadE rfl rfl rfl (by first | exact part_whole rfl rfl rfl | rfl) ?_
          refine OW_mv rfl rfl ?_
          refine EN75_CK13 rfl ?_
          first
          | refine OW_iaL rfl rfl rfl Ls.of rfl rfl rfl (by first | rfl | exact (Int.toNat_of_nonneg (by omega)).symm) (by first | assumption | exact at_map (by first | assumption | omega) | exact at_lst (by omega) | rfl) rfl ?_
          | refine OW_iaL rfl rfl rfl (by assumption) rfl rfl rfl (by first | rfl | exact (Int.toNat_of_nonneg (by omega)).symm) (by first | assumption | exact at_map (by first | assumption | omega) | exact at_lst (by omega) | rfl) rfl ?_
          refine OW_loadE rfl rfl rfl (by first | exact part_whole rfl rfl rfl | rfl) ?_
          refine OW_mv rfl rfl ?_
          refine EN75_CK13 rfl ?_
          refine OW_bd rfl rfl (v := .agg [_, _, _, _, _, _, _, _, _, _, _]) rfl ?_
          first
          | refine OW_storeR hS1 (k := 0) rfl (le_lit (ν := ν) (a := [1, 0]) (b := [34, 0, 1, 1, 1, 1]) (by decide)) rfl rfl rfl rfl ⟨rfl, rfl, Nat.le_of_ble_eq_true rfl⟩ (set_whole rfl rfl) fun H5 hS5 => ?_
          | refine OW_storeR hS1 (k := 0) rfl (le_lit (ν := ν) (a := [1, 0]) (b := [34, 0, 1, 1, 1, 1]) (by decide)) rfl rfl rfl rfl ⟨rfl, rfl, Nat.le_of_ble_eq_true rfl⟩ (u2 := .agg [_, _, _, _, _, _, _, _, _, _, _]) rfl fun H5 hS5 => ?_
          replace hS5 : Own _ _ _ ([_]) := hS5
          refine OW_as rfl rfl ?_
          refine EZ75_CK13 rfl ?_
          refine XW_ret ?_
          refine ret_ret (res2 rfl (rv_cellR hS5 (k := 0) rfl rfl rfl rfl (by first | exact part_whole rfl rfl rfl | rfl)) (rv_tmp rfl)) (frz2 (Q := Q) (by first | exact freeze_plain rfl | exact Ls.freeze (by assumption) | exact Ls.freeze Ls.of | exact Ls.freeze Ls.emp | exact Ls.freeze Ls.nls | exact frA (frAc (by first | exact freeze_plain rfl | assumption | exact Ls.freeze Ls.of | exact Ls.freeze Ls.emp | exact Ls.freeze Ls.nls | exact Ls.freeze (by assumption)) (frAc (by first | exact freeze_plain rfl | assumption | exact Ls.freeze Ls.of | exact Ls.freeze Ls.emp | exact Ls.freeze Ls.nls | exact Ls.freeze (by assumption)) (frAc (by first | exact freeze_plain rfl | assumption | exact Ls.freeze Ls.of | exact Ls.freeze Ls.emp | exact Ls.freeze Ls.nls | exact Ls.freeze (by assumption)) (frAc (by first | exact freeze_plain rfl | assumption | exact Ls.freeze Ls.of | exact Ls.freeze Ls.emp | exact Ls.freeze Ls.nls | exact Ls.freeze (by assumption)) (frAc (by first | exact freeze_plain rfl | assumption | exact Ls.freeze Ls.of | exact Ls.freeze Ls.emp | exact Ls.freeze Ls.nls | exact Ls.freeze (by assumption)) (frAc (by first | exact freeze_plain rfl | assumption | exact Ls.freeze Ls.of | exact Ls.freeze Ls.emp | exact Ls.freeze Ls.nls | exact Ls.freeze (by assumption)) (frAc (by first | exact freeze_plain rfl | assumption | exact Ls.freeze Ls.of | exact Ls.freeze Ls.emp | exact Ls.freeze Ls.nls | exact Ls.freeze (by assumption)) (frAc (by first | exact freeze_plain rfl | assumption | exact Ls.freeze Ls.of | exact Ls.freeze Ls.emp | exact Ls.freeze Ls.nls | exact Ls.freeze (by assumption)) (frAc (by first | exact freeze_plain rfl | assumption | exact Ls.freeze Ls.of | exact Ls.freeze Ls.emp | exact Ls.freeze Ls.nls | exact Ls.freeze (by assumption)) (frAc (by first | exact freeze_plain rfl | assumption | exact Ls.freeze Ls.of | exact Ls.freeze Ls.emp | exact Ls.freeze Ls.nls | exact Ls.freeze (by assumption)) (frAc (by first | exact freeze_plain rfl | assumption | exact Ls.freeze Ls.of | exact Ls.freeze Ls.emp | exact Ls.freeze Ls.nls | exact Ls.freeze (by assumption)) frAn)))))))))))) (by first | exact freeze_plain rfl | exact Ls.freeze (by assumption) | exact Ls.freeze Ls.of | exact Ls.freeze Ls.emp | exact Ls.freeze Ls.nls) ?_)
          first | (rw [if_pos ⟨by assumption, by assumption, by omega⟩] at hq; exact hq) | (rw [if_neg (by rintro ⟨e1, e2, e3⟩; first | contradiction | omega)] at hq; exact hq)
end Go.Proofs.Ytfkgdlfponfimaa.X
/- Layer 13: chunk.Apply. -/
set_option linter.unusedVariables false
set_option linter.unusedSimpArgs false
set_option maxRecDepth 100000
namespace Go.Proofs.Ytfkgdlfponfimaa.X
open Go Go.RowKit WM
theorem EN80_CK14 {c : Cfg} {ν : Nm} {e : Env} {H : Heap} {all : Array Oper} {r : List Oper} {i : Nat} {Q : Env → Heap → Prop} {x0 x1 x2 x3 x4 x5 x6 x7 x8 x9 x10 x11 x12 x13 x14 x15 x16 x17 x18 x19 x20 x21 x22 x23 x24 x25 x26 x27 x28 x29 x30 x31 x32 x33 x34 x35 x36 x37 x38 x39 x40 x41 x42 x43 x44 x45 x46 x47 x48 x49 x50 x51 x52 x53 x54 x55 x56 x57 x58 x59 x60 x61 x62 x63 x64 x65 x66 x67 x68 x69 x70 x71 x72 x73 x74 x75 x76 x77 x78 x79 : AVal} (he : e = [x0,x1,x2,x3,x4,x5,x6,x7,x8,x9,x10,x11,x12,x13,x14,x15,x16,x17,x18,x19,x20,x21,x22,x23,x24,x25,x26,x27,x28,x29,x30,x31,x32,x33,x34,x35,x36,x37,x38,x39,x40,x41,x42,x43,x44,x45,x46,x47,x48,x49,x50,x51,x52,x53,x54,x55,x56,x57,x58,x59,x60,x61,x62,x63,x64,x65,x66,x67,x68,x69,x70,x71,x72,x73,x74,x75,x76,x77,x78,x79]) (h : OW c ν all r i [x0,x1,x2,x3,x4,x5,x6,x7,x8,x9,x10,x11,x12,x13,x14,x15,x16,x17,x18,x19,x20,x21,x22,x23,x24,x25,x26,x27,x28,x29,x30,x31,x32,x33,x34,x35,x36,x37,x38,x39,x40,x41,x42,x43,x44,x45,x46,x47,x48,x49,x50,x51,x52,x53,x54,x55,x56,x57,x58,x59,x60,x61,x62,x63,x64,x65,x66,x67,x68,x69,x70,x71,x72,x73,x74,x75,x76,x77,x78,x79] H Q) : OW c ν all r i e H Q := by subst he; exact h
theorem EZ80_CK14 {c : Cfg} {ν : Nm} {e : Env} {H : Heap} {all : Array Oper} {i : Nat} {Q : Env → Heap → Prop} {x0 x1 x2 x3 x4 x5 x6 x7 x8 x9 x10 x11 x12 x13 x14 x15 x16 x17 x18 x19 x20 x21 x22 x23 x24 x25 x26 x27 x28 x29 x30 x31 x32 x33 x34 x35 x36 x37 x38 x39 x40 x41 x42 x43 x44 x45 x46 x47 x48 x49 x50 x51 x52 x53 x54 x55 x56 x57 x58 x59 x60 x61 x62 x63 x64 x65 x66 x67 x68 x69 x70 x71 x72 x73 x74 x75 x76 x77 x78 x79 : AVal} (he : e = [x0,x1,x2,x3,x4,x5,x6,x7,x8,x9,x10,x11,x12,x13,x14,x15,x16,x17,x18,x19,x20,x21,x22,x23,x24,x25,x26,x27,x28,x29,x30,x31,x32,x33,x34,x35,x36,x37,x38,x39,x40,x41,x42,x43,x44,x45,x46,x47,x48,x49,x50,x51,x52,x53,x54,x55,x56,x57,x58,x59,x60,x61,x62,x63,x64,x65,x66,x67,x68,x69,x70,x71,x72,x73,x74,x75,x76,x77,x78,x79]) (h : Q [x0,x1,x2,x3,x4,x5,x6,x7,x8,x9,x10,x11,x12,x13,x14,x15,x16,x17,x18,x19,x20,x21,x22,x23,x24,x25,x26,x27,x28,x29,x30,x31,x32,x33,x34,x35,x36,x37,x38,x39,x40,x41,x42,x43,x44,x45,x46,x47,x48,x49,x50,x51,x52,x53,x54,x55,x56,x57,x58,x59,x60,x61,x62,x63,x64,x65,x66,x67,x68,x69,x70,x71,x72,x73,x74,x75,x76,x77,x78,x79] H) : OW c ν all [] i e H Q := by subst he; exact OW_nil h
variable {ν β ps pos pos' : Nm} {H H1 : Heap} {Q : AVal → Heap → Prop} {L : List Asr} {k : Nat} {S : Rf} {c : Ck} {q qo : Nm} {key want id nr : Int} {m : Cm} {V0 S0 T0 : AVal} {cmd : ByteArray}
def noteE (e : Int) (an : ByteArray) : ByteArray := ba (encU (IntKind.u64.wrap e).toNat) ++ encS an
def noteR (r : Rs) (id nr : Int) : Rs := ⟨{ r.c with ss := SE.noteL r.c.ss id nr (noteE r.e r.an) }, r.e, r.an⟩
def applyR (S : Rf) (key : Int) (c : Ck) (id nr : Int) (cmd : ByteArray) : Rs × Rf :=
  if (SE.seekL id nr c.ss).1 = 2 then (err c 131, S)
  else if (SE.seekL id nr c.ss).1 = 1 then (⟨c, (ntS (SE.seekL id nr c.ss).2).1, (ntS (SE.seekL id nr c.ss).2).2⟩, S)
  else if (unpC cmd).2 = true then (noteR (runR S key c (unpC cmd).1).1 id nr, (runR S key c (unpC cmd).1).2)
  else (noteR (err c 130) id nr, S)
theorem seek_e {ν : Nm} {H : Heap} {v : AVal} {t : List SE.Se} {kk : Int} {s : ByteArray} (hv : Ls v (t.map SE.Se.enc)) (hn : t.length ≤ 4294967296) (id nr : Int) (he : SE.seekL id nr t = (kk, s)) (hq : Q (.tup [.int .i64 kk, .str s]) H) : CW cfg ν 52 [v, .int .u64 id, .int .u64 nr] H Q := SE.pSeek hv hn id nr (by rw [he]; exact hq)
theorem apply_old {s : ByteArray} (he : SE.seekL id nr c.ss = (2, s)) (hg : c.good) (hV0 : Ls V0 (c.vs.map Vo.enc)) (hS0' : Ls S0 (c.ss.map SE.Se.enc)) (hT0 : Ls T0 (c.qs.map Qu.enc)) (hS : Own β ps H L) (hL : L[k]? = some (orc qo S.of)) (hle : le ps ν) (hβ : under β ν = true) (hp : before ν pos')
    (hq : ∀ H1, Own β pos' H1 L → Q (.tup [c.enc, .int .i64 131, .str ⟨#[]⟩]) H1) : CW cfg ν 17 [.ptr qo 0 0, .int .u64 key, .agg [V0, S0, T0], .int .u64 id, .int .u64 nr, .str cmd] H Q := by
  have hsm := hg.sm
  have hsl := hg.sl
  refine CW_cast g17 F17 rfl ?_
  replace hS := Own.mono hS hle
  refine XW_sr ?_
  refine OW_boxR hS (le_app (p := ν) (b := [0, 0])) (under_app [0, 0] hβ) rfl rfl rfl ⟨rfl, rfl⟩ fun H1 hS1 => ?_
  replace hS1 : Own _ _ _ (_ :: L) := hS1
  refine OW_allocR hS1 le_refl (under_app [1, 0] hβ) rfl rfl rfl rfl fun H2 hS2 => ?_
  replace hS2 : Own _ _ _ (_ :: _ :: L) := hS2
  refine OW_as rfl rfl ?_
  refine EN80_CK14 rfl ?_
  refine OW_as rfl rfl ?_
  refine EZ80_CK14 rfl ?_
  refine XW_seq ?_
  refine XW_sr ?_
  refine OW_fa rfl rfl rfl ?_
  refine OW_loadR hS2 (k := 1) rfl rfl rfl rfl rfl (by first | exact part_whole rfl rfl rfl | rfl) ?_
  refine OW_mv rfl rfl ?_
  refine EN80_CK14 rfl ?_
  refine OW_mv rfl rfl ?_
  refine OW_fn rfl rfl (seek_e hS0' (by omega) id nr he ?_) 
  refine OW_mv rfl rfl ?_
  refine EN80_CK14 rfl ?_
  refine OW_ex rfl rfl rfl ?_
  refine OW_ex rfl rfl rfl ?_
  refine OW_as rfl rfl ?_
  refine EN80_CK14 rfl ?_
  refine OW_as rfl rfl ?_
  refine EZ80_CK14 rfl ?_
  refine XW_sr ?_
  refine OW_mv rfl rfl ?_
  refine EZ80_CK14 rfl ?_
  refine XW_block ?_
  refine XW_sr ?_
  refine OW_bin rfl rfl rfl rfl rfl ?_
  refine OW_as rfl rfl ?_
  refine EZ80_CK14 rfl ?_
  refine XW_yes rfl rfl ?_
  refine XW_sr ?_
  refine OW_loadR hS2 (k := 1) rfl rfl rfl rfl rfl (by first | exact part_whole rfl rfl rfl | rfl) ?_
  refine OW_fn rfl rfl (copied_c hV0 hS0' hT0 hS2 (le_lit (ν := ν) (a := [2, 0]) (b := [1, 0, 1, 1, 1, 0, 1]) (by decide)) (under_app [1, 0, 1, 1, 1, 0, 1] hβ) (before_lit (ν := ν) (a := [1, 0, 1, 1, 1, 0, 1]) (b := [2, 0, 1, 1, 1, 0, 1]) (by decide)) hsm fun H3 V S1 T hS3 => ?_) 
  replace hS3 : Own _ _ _ (_ :: _ :: _ :: L) := hS3
  first
  | refine OW_storeR hS3 (k := 1) rfl le_refl rfl rfl rfl rfl ⟨rfl, rfl, Nat.le_of_ble_eq_true rfl⟩ (set_whole rfl rfl) fun H4 hS4 => ?_
  | refine OW_storeR hS3 (k := 1) rfl le_refl rfl rfl rfl rfl ⟨rfl, rfl, Nat.le_of_ble_eq_true rfl⟩ (u2 := .agg [_, _, _]) rfl fun H4 hS4 => ?_
  replace hS4 : Own _ _ _ (_ :: _ :: _ :: L) := hS4
  refine EN80_CK14 rfl ?_
  refine OW_as rfl rfl ?_
  refine OW_as rfl rfl ?_
  refine EZ80_CK14 rfl ?_
  refine XW_ret ?_
  refine block_ret ?_
  refine then_ret ?_
  refine ret_ret (res3 rfl (rv_cellR hS4 (k := 1) rfl rfl rfl rfl (by first | exact part_whole rfl rfl rfl | rfl)) (rv_tmp rfl) (rv_tmp rfl)) ?_
  have hz := Own.drop (Own.drop (Own.mono hS4 (le_bef (bef_app (a := [3, 0, 1, 1, 1, 0, 1]) hp))) (k := 2) rfl) (k := 1) rfl
  obtain ⟨fz, hfz, _⟩ := hz.get (k := 0) rfl
  rw [fz3 (stO_F hfz)]; exact hq _ (Own.lose hz fun f hf => rc3 (stO_F hf))
theorem apply_again {s : ByteArray} (he : SE.seekL id nr c.ss = (1, s)) (hs : s.size ≤ 4611686018427387904) (hg : c.good) (hV0 : Ls V0 (c.vs.map Vo.enc)) (hS0' : Ls S0 (c.ss.map SE.Se.enc)) (hT0 : Ls T0 (c.qs.map Qu.enc)) (hS : Own β ps H L) (hL : L[k]? = some (orc qo S.of)) (hle : le ps ν) (hβ : under β ν = true) (hp : before ν pos')
    (hq : ∀ H1, Own β pos' H1 L → Q (.tup [c.enc, .int .i64 (ntS s).1, .str (ntS s).2]) H1) : CW cfg ν 17 [.ptr qo 0 0, .int .u64 key, .agg [V0, S0, T0], .int .u64 id, .int .u64 nr, .str cmd] H Q := by
  have hsm := hg.sm
  have hsl := hg.sl
  refine CW_cast g17 F17 rfl ?_
  replace hS := Own.mono hS hle
  refine XW_sr ?_
  refine OW_boxR hS (le_app (p := ν) (b := [0, 0])) (under_app [0, 0] hβ) rfl rfl rfl ⟨rfl, rfl⟩ fun H1 hS1 => ?_
  replace hS1 : Own _ _ _ (_ :: L) := hS1
  refine OW_allocR hS1 le_refl (under_app [1, 0] hβ) rfl rfl rfl rfl fun H2 hS2 => ?_
  replace hS2 : Own _ _ _ (_ :: _ :: L) := hS2
  refine OW_as rfl rfl ?_
  refine EN80_CK14 rfl ?_
  refine OW_as rfl rfl ?_
  refine EZ80_CK14 rfl ?_
  refine XW_seq ?_
  refine XW_sr ?_
  refine OW_fa rfl rfl rfl ?_
  refine OW_loadR hS2 (k := 1) rfl rfl rfl rfl rfl (by first | exact part_whole rfl rfl rfl | rfl) ?_
  refine OW_mv rfl rfl ?_
  refine EN80_CK14 rfl ?_
  refine OW_mv rfl rfl ?_
  refine OW_fn rfl rfl (seek_e hS0' (by omega) id nr he ?_) 
  refine OW_mv rfl rfl ?_
  refine EN80_CK14 rfl ?_
  refine OW_ex rfl rfl rfl ?_
  refine OW_ex rfl rfl rfl ?_
  refine OW_as rfl rfl ?_
  refine EN80_CK14 rfl ?_
  refine OW_as rfl rfl ?_
  refine EZ80_CK14 rfl ?_
  refine XW_sr ?_
  refine OW_mv rfl rfl ?_
  refine EZ80_CK14 rfl ?_
  refine XW_block ?_
  refine XW_sr ?_
  refine OW_bin rfl rfl rfl rfl rfl ?_
  refine OW_as rfl rfl ?_
  refine EZ80_CK14 rfl ?_
  refine XW_no rfl rfl ?_
  refine XW_sr ?_
  refine OW_bin rfl rfl rfl rfl rfl ?_
  refine OW_as rfl rfl ?_
  refine EZ80_CK14 rfl ?_
  refine XW_yes rfl rfl ?_
  refine XW_sr ?_
  refine OW_mv rfl rfl ?_
  refine OW_fn rfl rfl (noted_c hs ?_) 
  refine OW_mv rfl rfl ?_
  refine EN80_CK14 rfl ?_
  refine OW_ex rfl rfl rfl ?_
  refine OW_ex rfl rfl rfl ?_
  refine OW_as rfl rfl ?_
  refine EN80_CK14 rfl ?_
  refine OW_as rfl rfl ?_
  refine EZ80_CK14 rfl ?_
  refine XW_sr ?_
  refine OW_loadR hS2 (k := 1) rfl rfl rfl rfl rfl (by first | exact part_whole rfl rfl rfl | rfl) ?_
  refine OW_fn rfl rfl (copied_c hV0 hS0' hT0 hS2 (le_lit (ν := ν) (a := [2, 0]) (b := [1, 0, 1, 1, 1, 1, 1, 0, 1]) (by decide)) (under_app [1, 0, 1, 1, 1, 1, 1, 0, 1] hβ) (before_lit (ν := ν) (a := [1, 0, 1, 1, 1, 1, 1, 0, 1]) (b := [2, 0, 1, 1, 1, 1, 1, 0, 1]) (by decide)) hsm fun H3 V S1 T hS3 => ?_) 
  replace hS3 : Own _ _ _ (_ :: _ :: _ :: L) := hS3
  refine OW_mv rfl rfl ?_
  refine EN80_CK14 rfl ?_
  refine OW_mv rfl rfl ?_
  first
  | refine OW_storeR hS3 (k := 1) rfl (le_lit (ν := ν) (a := [2, 0, 1, 1, 1, 1, 1, 0, 1]) (b := [4, 0, 1, 1, 1, 1, 1, 0, 1]) (by decide)) rfl rfl rfl rfl ⟨rfl, rfl, Nat.le_of_ble_eq_true rfl⟩ (set_whole rfl rfl) fun H4 hS4 => ?_
  | refine OW_storeR hS3 (k := 1) rfl (le_lit (ν := ν) (a := [2, 0, 1, 1, 1, 1, 1, 0, 1]) (b := [4, 0, 1, 1, 1, 1, 1, 0, 1]) (by decide)) rfl rfl rfl rfl ⟨rfl, rfl, Nat.le_of_ble_eq_true rfl⟩ (u2 := .agg [_, _, _]) rfl fun H4 hS4 => ?_
  replace hS4 : Own _ _ _ (_ :: _ :: _ :: L) := hS4
  refine OW_as rfl rfl ?_
  refine EN80_CK14 rfl ?_
  refine OW_as rfl rfl ?_
  refine EZ80_CK14 rfl ?_
  refine XW_ret ?_
  refine block_ret ?_
  refine then_ret ?_
  refine ret_ret (res3 rfl (rv_cellR hS4 (k := 1) rfl rfl rfl rfl (by first | exact part_whole rfl rfl rfl | rfl)) (rv_tmp rfl) (rv_tmp rfl)) ?_
  have hz := Own.drop (Own.drop (Own.mono hS4 (le_bef (bef_app (a := [5, 0, 1, 1, 1, 1, 1, 0, 1]) hp))) (k := 2) rfl) (k := 1) rfl
  obtain ⟨fz, hfz, _⟩ := hz.get (k := 0) rfl
  rw [fz3 (stO_F hfz)]; exact hq _ (Own.lose hz fun f hf => rc3 (stO_F hf))
end Go.Proofs.Ytfkgdlfponfimaa.X
/- Layer 13: a state that may be stays one. -/
set_option linter.unusedVariables false
set_option linter.unusedSimpArgs false
set_option maxRecDepth 100000
namespace Go.Proofs.Ytfkgdlfponfimaa.X
open Go Go.RowKit WM
variable {S : Rf} {c : Ck} {key want id nr : Int} {m : Cm} {cmd : ByteArray}
theorem resT_size1 (m : Int) (s : ByteArray) : (resT m s).1.size ≤ s.size := by
  unfold resT
  cases h : WM.takeT m s.data.toList with
  | none => exact Nat.zero_le _
  | some p => obtain ⟨t, r⟩ := p; have := takeT_short h; show (ba t).size ≤ _; rw [ba_size]; have e : s.data.toList.length = s.size := rfl; omega
theorem give_fit {t : List Qu} {tn n : Int} (hf : Fit t) (h0 : 0 ≤ n) : Fit (giveQ t tn n).1 := by
  unfold giveQ
  cases hg : getQ tn t with
  | none => intro x hx; simp at hx
  | some r =>
    intro x hx
    rcases modQ_mem hx with h | ⟨r', h1, rfl⟩
    · exact hf x h
    · rw [hg] at h1
      obtain rfl := Option.some.inj h1
      obtain ⟨f1, f2, f3⟩ := hf r (getQ_mem hg).1
      exact ⟨f1, ⟨by show 0 ≤ r.us - min n r.us; omega, by show r.us - min n r.us ≤ _; omega⟩, f3⟩
theorem good_vs {i : Nat} {y : Vo} (hg : c.good) (hi : i < c.vs.length) (hy : y.good) (hv : y.vo = c.vs[i].vo) : (⟨c.vs.set i y, c.ss, c.qs⟩ : Ck).good := by
  refine ⟨by rw [List.length_set]; exact hg.vl, fun x hx => ?_, ?_, hg.sc, hg.sf, hg.qc, hg.qf⟩
  · rcases List.mem_or_eq_of_mem_set hx with h | rfl
    · exact hg.vg x h
    · exact hy
  · show ((c.vs.set i y).map Vo.vo).Nodup
    rw [List.map_set, hv, show c.vs[i].vo = (c.vs.map Vo.vo)[i]'(by simpa using hi) by simp, List.set_getElem_self]
    exact hg.nd
theorem good_qs {qs : List Qu} (hg : c.good) (h1 : chkQ qs = true) (h2 : Fit qs) : (⟨c.vs, c.ss, qs⟩ : Ck).good := ⟨hg.vl, hg.vg, hg.nd, hg.sc, hg.sf, h1, h2⟩
theorem good_ss {ss : List SE.Se} (hg : c.good) (h1 : SE.chkL ss = true) (h2 : ∀ x ∈ ss, x.fit) : (⟨c.vs, ss, c.qs⟩ : Ck).good := ⟨hg.vl, hg.vg, hg.nd, h1, h2, hg.qc, hg.qf⟩
theorem atP_good (hg : c.good) (h : ¬ atP m.vo c.vs < 0) : ∃ (i : Nat) (hi : i < c.vs.length), atP m.vo c.vs = i ∧ c.vs[i].vo = m.vo ∧ c.vs[i].good := by
  obtain ⟨i, hi, h1, h2⟩ := atP_some (c := c) (m := m) rfl h
  exact ⟨i, hi, h1, h2, hg.vg _ (List.getElem_mem hi)⟩
theorem makeR_good (hg : c.good) (hm : m.fit) : (makeR c m).c.good := by
  unfold makeR
  split
  · exact hg
  · rename_i h1
    split
    · exact hg
    · split
      · exact hg
      · rename_i h2 h3
        have hb := hm.b
        refine ⟨by simp [err]; omega, fun x hx => ?_, ?_, hg.sc, hg.sf, hg.qc, hg.qf⟩
        · rcases List.mem_append.1 hx with h | h
          · exact hg.vg x h
          · simp only [List.mem_singleton] at h
            subst h
            exact ⟨hm.vo, hm.a, hm.se, ⟨hb.1, by show m.b ≤ 4; omega⟩, by simp, fun s hs => by rw [(List.mem_replicate.1 hs).2]; decide⟩
        · show ((c.vs ++ [_]).map Vo.vo).Nodup
          rw [List.map_append, List.nodup_append]
          refine ⟨hg.nd, by simp, ?_⟩
          intro a ha b hb'
          obtain ⟨x, hx, rfl⟩ := List.mem_map.1 ha
          simp only [List.map_cons, List.map_nil, List.mem_singleton] at hb'
          subst hb'
          rcases atP_cases m.vo c.vs with ⟨_, h⟩ | ⟨i, hi, h, _⟩
          · exact h x hx
          · omega
theorem epochR_good (hg : c.good) (hm : m.fit) : (epochR c m).c.good := by
  unfold epochR
  split
  · exact hg
  · rename_i h
    obtain ⟨i, hi, h1, h2, h3⟩ := atP_good hg h
    rw [at_eq h1 hi, setV_eq h1]
    have ha := hm.a
    have he := h3.ep
    exact good_vs (y := { c.vs[i] with ep := max c.vs[i].ep m.a }) hg hi ⟨h3.vo, h3.tn, ⟨by show 0 ≤ max c.vs[i].ep m.a; omega, by show max c.vs[i].ep m.a ≤ _; omega⟩, h3.de, h3.ll, h3.lv⟩ rfl
theorem limitR_good (hg : c.good) (hm : m.fit) : (limitR c m).c.good := by
  unfold limitR
  split
  · exact hg
  · rename_i h
    exact good_qs hg (good_set hg.qc (by simpa using h)).1 (set_fit hg.qf hm.a hm.b)
theorem leaf_at (hg : c.good) (he : (leafE S key c m want).1 = 0) : ∃ (i : Nat) (hi : i < c.vs.length), atP m.vo c.vs = i ∧ c.vs[i].vo = m.vo ∧ c.vs[i].good ∧ m.se < c.vs[i].lv.length ∧ (S.check key m.t m.vo c.vs[i].ep want).1 = 0 := by
  have h0 : ¬ atP m.vo c.vs < 0 := fun h => by rw [leafE, if_pos h] at he; exact absurd he (show ¬ (132 : Int) = 0 by decide)
  obtain ⟨i, hi, h1, h2, h3⟩ := atP_good hg h0
  rw [leafE_at h1 hi] at he
  split at he
  · rename_i h; exact absurd he h
  · rename_i h
    split at he
    · exact absurd he (show ¬ (133 : Int) = 0 by decide)
    · rename_i h4
      exact ⟨i, hi, h1, h2, h3, by omega, Classical.not_not.1 h⟩
theorem setL_good {s : ByteArray} {i : Nat} (hg : c.good) (hs : s.size ≤ 64) (h1 : atP m.vo c.vs = i) (hi : i < c.vs.length) : (c.setL m s).good := by
  rw [setL_at h1 hi]
  have h3 := hg.vg _ (List.getElem_mem hi)
  exact good_vs (y := { c.vs[i] with lv := c.vs[i].lv.set m.se.toNat s }) hg hi ⟨h3.vo, h3.tn, h3.ep, h3.de, by show (c.vs[i].lv.set _ _).length = _; rw [List.length_set]; exact h3.ll, fun x hx => by
    rcases List.mem_or_eq_of_mem_set hx with h | rfl
    · exact h3.lv x h
    · exact hs⟩ rfl
theorem putR_good {i : Nat} (hg : c.good) (h1 : atP m.vo c.vs = i) (hi : i < c.vs.length) : (putR c m).c.good := by
  unfold putR
  split
  · exact hg
  · rename_i h
    have hs : m.lf.size ≤ 64 := by omega
    split
    · split
      · exact hg
      · rename_i h4
        have h5 : (takeQ c.qs (c.at m).tn 1).2 = 0 := Classical.not_not.1 h4
        exact good_qs (setL_good hg hs h1 hi) (good_take hg.qc h5).1 (take_fit hg.qf (by decide))
    · exact setL_good hg hs h1 hi
theorem trimR_good {i : Nat} (hg : c.good) (h1 : atP m.vo c.vs = i) (hi : i < c.vs.length) : (trimR c m).c.good := by
  unfold trimR
  split
  · exact hg
  · split
    · rename_i h4
      exact good_qs (setL_good hg (by decide) h1 hi) (good_give hg.qc h4).1 (give_fit hg.qf (by decide))
    · exact setL_good hg (by decide) h1 hi
theorem leafR_good {f : Ck → Cm → Rs} (hg : c.good) (hf : ∀ i, atP m.vo c.vs = (i : Nat) → i < c.vs.length → (f c m).c.good) : (leafR S key c m want f).1.c.good := by
  by_cases he : (leafE S key c m want).1 = 0
  · rw [leafR_ok he]
    obtain ⟨i, hi, h1, _⟩ := leaf_at hg he
    exact hf i h1 hi
  · rw [leafR_err he]; exact hg
theorem runR_good (hg : c.good) (hm : m.fit) : (runR S key c m).1.c.good := by
  unfold runR
  split
  · exact makeR_good hg hm
  · split
    · exact epochR_good hg hm
    · split
      · exact limitR_good hg hm
      · split
        · exact leafR_good hg fun i h hi => putR_good hg h hi
        · split
          · exact leafR_good hg fun i h hi => hg
          · split
            · exact leafR_good hg fun i h hi => trimR_good hg h hi
            · exact hg
theorem old_size {i : Nat} (hg : c.good) (h1 : atP m.vo c.vs = i) (hi : i < c.vs.length) : (c.old m).size ≤ 64 := by
  unfold Ck.old
  rw [at_eq h1 hi, List.getD_eq_getElem?_getD]
  cases h : c.vs[i].lv[m.se.toNat]? with
  | none => decide
  | some s => exact (hg.vg _ (List.getElem_mem hi)).lv s (List.mem_of_getElem? h)
theorem runR_an (hg : c.good) : (runR S key c m).1.an.size ≤ 64 := by
  have e : ∀ c e, (err c e).an.size ≤ 64 := fun _ _ => by show (⟨#[]⟩ : ByteArray).size ≤ 64; decide
  unfold runR
  split
  · unfold makeR; repeat' split
    all_goals exact e _ _
  · split
    · unfold epochR; split <;> exact e _ _
    · split
      · unfold limitR; split <;> exact e _ _
      · split
        · unfold leafR putR; repeat' split
          all_goals exact e _ _
        · split
          · by_cases he : (leafE S key c m 1).1 = 0
            · rw [leafR_ok he]
              obtain ⟨i, hi, h1, _⟩ := leaf_at hg he
              exact old_size hg h1 hi
            · rw [leafR_err he]; exact e _ _
          · split
            · unfold leafR trimR; repeat' split
              all_goals exact e _ _
            · exact e _ _
theorem noteL_good {t : List SE.Se} {a : ByteArray} (h : SE.chkL t = true) (hf : ∀ x ∈ t, x.fit) (hi : U64 id) (hn : U64 nr) : SE.chkL (SE.noteL t id nr a) = true ∧ ∀ x ∈ SE.noteL t id nr a, x.fit := by
  obtain ⟨h1, h2, h3⟩ := of_decide_eq_true h
  have hsub : (SE.keepL id t).Sublist t := List.filter_sublist
  have hmem : ∀ x ∈ SE.noteL t id nr a, x ∈ SE.keepL id t ∨ x = ⟨id, nr, SE.cutA a⟩ := fun x hx => by
    have := List.mem_of_mem_drop hx
    simpa using this
  refine ⟨decide_eq_true ⟨?_, ?_, ?_⟩, ?_⟩
  · simp only [SE.noteL, SE.lastL, List.length_drop]; omega
  · intro x hx
    rcases hmem x hx with h | rfl
    · exact h2 x (hsub.subset h)
    · show (SE.cutA a).size ≤ 256
      simp only [SE.cutA, ss]; omega
  · have hd : ((SE.keepL id t ++ [(⟨id, nr, SE.cutA a⟩ : SE.Se)]).map SE.Se.id).Nodup := by
      rw [List.map_append, List.nodup_append]
      refine ⟨(hsub.map _).nodup h3, by simp, ?_⟩
      intro x hx y hy
      simp only [List.map_cons, List.map_nil, List.mem_singleton] at hy
      subst hy
      obtain ⟨z, hz, rfl⟩ := List.mem_map.1 hx
      have := (List.mem_filter.1 hz).2
      simpa using this
    exact ((List.drop_sublist _ _).map _).nodup hd
  · intro x hx
    rcases hmem x hx with h | rfl
    · exact hf x (hsub.subset h)
    · exact ⟨hi, hn⟩
theorem noteR_good {r : Rs} (hg : r.c.good) (hi : U64 id) (hn : U64 nr) : (noteR r id nr).c.good := by
  obtain ⟨h1, h2⟩ := noteL_good (a := noteE r.e r.an) hg.sc hg.sf hi hn
  exact good_ss hg h1 h2
theorem unpC_fit (hc : cmd.size ≤ 1099511627776) : (unpC cmd).1.fit := by
  have u0 : U64 0 := by decide
  have h0 : cm0.fit := ⟨by decide, ⟨u0, u0, u0, u0, u0⟩, u0, u0, u0, u0, by decide⟩
  rcases num10 cmd with h | ⟨a0, a1, a2, a3, a4, a5, a6, a7, a8, a9, r, h, hr, hx, _⟩
  · rw [unpC, h]; exact h0
  · rw [unpC, h]
    simp only
    split
    · rename_i hh
      refine ⟨by have := hx a0 (by simp); show -9223372036854775808 ≤ a0 ∧ a0 ≤ _; omega, ⟨hx a1 (by simp), hx a2 (by simp), hx a3 (by simp), hx a4 (by simp), hx a5 (by simp)⟩, hx a6 (by simp), hx a7 (by simp), hx a8 (by simp), hx a9 (by simp), ?_⟩
      have := resT_size1 (r.size : Int) r
      show (resT (r.size : Int) r).1.size ≤ _
      omega
    · exact h0
theorem applyR_good (hg : c.good) (hi : U64 id) (hn : U64 nr) (hc : cmd.size ≤ 1099511627776) : (applyR S key c id nr cmd).1.c.good := by
  unfold applyR
  split
  · exact hg
  · split
    · exact hg
    · split
      · exact noteR_good (runR_good hg (unpC_fit hc)) hi hn
      · exact noteR_good (r := err c 130) hg hi hn
end Go.Proofs.Ytfkgdlfponfimaa.X
/- Layer 13: chunk.Apply of a new command. -/
set_option linter.unusedVariables false
set_option linter.unusedSimpArgs false
set_option maxRecDepth 100000
namespace Go.Proofs.Ytfkgdlfponfimaa.X
open Go Go.RowKit WM
theorem EN80_CK16 {c : Cfg} {ν : Nm} {e : Env} {H : Heap} {all : Array Oper} {r : List Oper} {i : Nat} {Q : Env → Heap → Prop} {x0 x1 x2 x3 x4 x5 x6 x7 x8 x9 x10 x11 x12 x13 x14 x15 x16 x17 x18 x19 x20 x21 x22 x23 x24 x25 x26 x27 x28 x29 x30 x31 x32 x33 x34 x35 x36 x37 x38 x39 x40 x41 x42 x43 x44 x45 x46 x47 x48 x49 x50 x51 x52 x53 x54 x55 x56 x57 x58 x59 x60 x61 x62 x63 x64 x65 x66 x67 x68 x69 x70 x71 x72 x73 x74 x75 x76 x77 x78 x79 : AVal} (he : e = [x0,x1,x2,x3,x4,x5,x6,x7,x8,x9,x10,x11,x12,x13,x14,x15,x16,x17,x18,x19,x20,x21,x22,x23,x24,x25,x26,x27,x28,x29,x30,x31,x32,x33,x34,x35,x36,x37,x38,x39,x40,x41,x42,x43,x44,x45,x46,x47,x48,x49,x50,x51,x52,x53,x54,x55,x56,x57,x58,x59,x60,x61,x62,x63,x64,x65,x66,x67,x68,x69,x70,x71,x72,x73,x74,x75,x76,x77,x78,x79]) (h : OW c ν all r i [x0,x1,x2,x3,x4,x5,x6,x7,x8,x9,x10,x11,x12,x13,x14,x15,x16,x17,x18,x19,x20,x21,x22,x23,x24,x25,x26,x27,x28,x29,x30,x31,x32,x33,x34,x35,x36,x37,x38,x39,x40,x41,x42,x43,x44,x45,x46,x47,x48,x49,x50,x51,x52,x53,x54,x55,x56,x57,x58,x59,x60,x61,x62,x63,x64,x65,x66,x67,x68,x69,x70,x71,x72,x73,x74,x75,x76,x77,x78,x79] H Q) : OW c ν all r i e H Q := by subst he; exact h
theorem EZ80_CK16 {c : Cfg} {ν : Nm} {e : Env} {H : Heap} {all : Array Oper} {i : Nat} {Q : Env → Heap → Prop} {x0 x1 x2 x3 x4 x5 x6 x7 x8 x9 x10 x11 x12 x13 x14 x15 x16 x17 x18 x19 x20 x21 x22 x23 x24 x25 x26 x27 x28 x29 x30 x31 x32 x33 x34 x35 x36 x37 x38 x39 x40 x41 x42 x43 x44 x45 x46 x47 x48 x49 x50 x51 x52 x53 x54 x55 x56 x57 x58 x59 x60 x61 x62 x63 x64 x65 x66 x67 x68 x69 x70 x71 x72 x73 x74 x75 x76 x77 x78 x79 : AVal} (he : e = [x0,x1,x2,x3,x4,x5,x6,x7,x8,x9,x10,x11,x12,x13,x14,x15,x16,x17,x18,x19,x20,x21,x22,x23,x24,x25,x26,x27,x28,x29,x30,x31,x32,x33,x34,x35,x36,x37,x38,x39,x40,x41,x42,x43,x44,x45,x46,x47,x48,x49,x50,x51,x52,x53,x54,x55,x56,x57,x58,x59,x60,x61,x62,x63,x64,x65,x66,x67,x68,x69,x70,x71,x72,x73,x74,x75,x76,x77,x78,x79]) (h : Q [x0,x1,x2,x3,x4,x5,x6,x7,x8,x9,x10,x11,x12,x13,x14,x15,x16,x17,x18,x19,x20,x21,x22,x23,x24,x25,x26,x27,x28,x29,x30,x31,x32,x33,x34,x35,x36,x37,x38,x39,x40,x41,x42,x43,x44,x45,x46,x47,x48,x49,x50,x51,x52,x53,x54,x55,x56,x57,x58,x59,x60,x61,x62,x63,x64,x65,x66,x67,x68,x69,x70,x71,x72,x73,x74,x75,x76,x77,x78,x79] H) : OW c ν all [] i e H Q := by subst he; exact OW_nil h
variable {ν β ps pos pos' : Nm} {H H1 : Heap} {Q : AVal → Heap → Prop} {L : List Asr} {k : Nat} {S : Rf} {c : Ck} {q qo : Nm} {key want id nr : Int} {m : Cm} {V0 S0 T0 : AVal} {cmd : ByteArray}
theorem unpack_e {s : ByteArray} {m : Cm} {b : Bool} (hs : s.size ≤ 4611686018427387904) (he : unpC s = (m, b)) (hq : Q (.tup [m.enc, .bool b]) H) : CW cfg ν 54 [.str s] H Q := p_unpackC hs (by rw [he]; exact hq)
theorem noteE_size {e : Int} {an : ByteArray} (h : an.size ≤ 64) : (noteE e an).size ≤ 84 := by
  have h1 := encU_i (u64_wr e)
  have h2 := encS_size (s := an) (by omega)
  simp only [noteE, ss]; omega
theorem own_lose0 {D : List Nm} (h : Own β pos H L) (hD : D = []) : Own β pos (X.lose D H) L := by
  subst hD
  exact h.same fun p _ _ => by simp [X.lose]
theorem fzC {vs ss qs : List AVal} {kk : IntKind} {e : Int} {s : ByteArray} : X.freeze [] H 8 (.tup [.agg [.lst vs, .lst ss, .lst qs], .int kk e, .str s]) = .tup [.agg [.lst vs, .lst ss, .lst qs], .int kk e, .str s] := rfl
theorem rcC {vs ss qs : List AVal} {kk : IntKind} {e : Int} {s : ByteArray} : reach [] H 8 (.tup [.agg [.lst vs, .lst ss, .lst qs], .int kk e, .str s]) = [] := rfl
theorem fzM {V T : AVal} {ss : List AVal} {vs : List Vo} {qs : List Qu} {f : List Nm} {kk : IntKind} {e : Int} {s : ByteArray} (h : (Asr.all [vols V vs, sl T 3 (qs.map Qu.enc)]).holds H f) : X.freeze [] H 8 (.tup [.agg [V, .lst ss, T], .int kk e, .str s]) = .tup [.agg [.lst (vs.map Vo.enc), .lst ss, .lst (qs.map Qu.enc)], .int kk e, .str s] := by
  obtain ⟨f1, f2, h0, h1, h2, f3, f4, k0, k1, k2, k3⟩ := h
  have e1 := vols_freeze (n := 3) h2
  have e3 : X.freeze [] H 6 T = _ := Sl.freezeP (n := 5) k2 qu_plain
  show AVal.tup [.agg [X.freeze [] H 6 V, _, X.freeze [] H 6 T], _, _] = _
  rw [e1, e3]; rfl
theorem rcM {V T : AVal} {ss : List AVal} {vs : List Vo} {qs : List Qu} {f : List Nm} {kk : IntKind} {e : Int} {s : ByteArray} (h : (Asr.all [vols V vs, sl T 3 (qs.map Qu.enc)]).holds H f) : ∀ q ∈ reach [] H 8 (.tup [.agg [V, .lst ss, T], .int kk e, .str s]), q ∈ f := by
  obtain ⟨f1, f2, h0, h1, h2, f3, f4, k0, k1, k2, k3⟩ := h
  intro q hq
  have e : reach [] H 8 (.tup [.agg [V, .lst ss, T], .int kk e, .str s]) = reach [] H 6 V ++ reach [] H 6 T := by
    rw [reach]
    simp only [List.map_cons, List.map_nil, List.flatten_cons, List.flatten_nil, List.append_nil]
    rw [reach_plain (v := .int kk e) rfl, reach_plain (v := .str s) rfl, reach]
    simp only [List.map_cons, List.map_nil, List.flatten_cons, List.flatten_nil, List.append_nil]
    rw [reach_plain (v := .lst ss) rfl]; simp
  rw [e] at hq
  rw [h0, k0]
  rcases List.mem_append.1 hq with hq | hq
  · simp [vols_reach h2 q hq]
  · simp [Sl.reachP k2 qu_plain q hq]
theorem apply_ok {s0 : ByteArray} (he : SE.seekL id nr c.ss = (0, s0)) (hu : unpC cmd = (m, true)) (hm : m.fit) (hg : c.good) (hc : cmd.size ≤ 1099511627776) (hV0 : Ls V0 (c.vs.map Vo.enc)) (hS0' : Ls S0 (c.ss.map SE.Se.enc)) (hT0 : Ls T0 (c.qs.map Qu.enc)) (hS : Own β ps H L) (hL : L[k]? = some (orc qo S.of)) (hle : le ps ν) (hβ : under β ν = true) (hp : before ν pos')
    (hq : ∀ H1, Own β pos' H1 (L.set k (orc qo (runR S key c m).2.of)) → Q (.tup [(noteR (runR S key c m).1 id nr).c.enc, .int .i64 (runR S key c m).1.e, .str (runR S key c m).1.an]) H1) : CW cfg ν 17 [.ptr qo 0 0, .int .u64 key, .agg [V0, S0, T0], .int .u64 id, .int .u64 nr, .str cmd] H Q := by
  have hsm := hg.sm
  have hsl := hg.sl
  have han := runR_an (S := S) (key := key) (m := m) hg
  have hne := noteE_size (e := (runR S key c m).1.e) han
  have hs1 := encS_size (s := (runR S key c m).1.an) (by omega)
  have hs2 := encU_i (u64_wr (runR S key c m).1.e)
  have hg2 := (runR_good (S := S) (key := key) hg hm).sl
  replace hS := hS.pick hL
  refine CW_cast g17 F17 rfl ?_
  replace hS := Own.mono hS hle
  refine XW_sr ?_
  refine OW_boxR hS (le_app (p := ν) (b := [0, 0])) (under_app [0, 0] hβ) rfl rfl rfl ⟨rfl, rfl⟩ fun H1 hS1 => ?_
  replace hS1 : Own _ _ _ (_ :: _ :: L.eraseIdx k) := hS1
  refine OW_allocR hS1 le_refl (under_app [1, 0] hβ) rfl rfl rfl rfl fun H2 hS2 => ?_
  replace hS2 : Own _ _ _ (_ :: _ :: _ :: L.eraseIdx k) := hS2
  refine OW_as rfl rfl ?_
  refine EN80_CK16 rfl ?_
  refine OW_as rfl rfl ?_
  refine EZ80_CK16 rfl ?_
  refine XW_seq ?_
  refine XW_sr ?_
  refine OW_fa rfl rfl rfl ?_
  refine OW_loadR hS2 (k := 1) rfl rfl rfl rfl rfl (by first | exact part_whole rfl rfl rfl | rfl) ?_
  refine OW_mv rfl rfl ?_
  refine EN80_CK16 rfl ?_
  refine OW_mv rfl rfl ?_
  refine OW_fn rfl rfl (seek_e hS0' (by omega) id nr he ?_) 
  refine OW_mv rfl rfl ?_
  refine EN80_CK16 rfl ?_
  refine OW_ex rfl rfl rfl ?_
  refine OW_ex rfl rfl rfl ?_
  refine OW_as rfl rfl ?_
  refine EN80_CK16 rfl ?_
  refine OW_as rfl rfl ?_
  refine EZ80_CK16 rfl ?_
  refine XW_sr ?_
  refine OW_mv rfl rfl ?_
  refine EZ80_CK16 rfl ?_
  refine XW_block ?_
  refine XW_sr ?_
  refine OW_bin rfl rfl rfl rfl rfl ?_
  refine OW_as rfl rfl ?_
  refine EZ80_CK16 rfl ?_
  refine XW_no rfl rfl ?_
  refine XW_sr ?_
  refine OW_bin rfl rfl rfl rfl rfl ?_
  refine OW_as rfl rfl ?_
  refine EZ80_CK16 rfl ?_
  refine XW_no rfl rfl ?_
  refine XW_skip ?_
  refine block_norm ?_
  refine then_norm ?_
  refine XW_sr ?_
  refine OW_loadR hS2 (k := 1) rfl rfl rfl rfl rfl (by first | exact part_whole rfl rfl rfl | rfl) ?_
  refine OW_fn rfl rfl (copied_c hV0 hS0' hT0 hS2 (le_lit (ν := ν) (a := [2, 0]) (b := [1, 0, 1, 1]) (by decide)) (under_app [1, 0, 1, 1] hβ) (before_lit (ν := ν) (a := [1, 0, 1, 1]) (b := [2, 0, 1, 1]) (by decide)) hsm fun H3 V S1 T hS3 => ?_) 
  replace hS3 : Own _ _ _ (_ :: _ :: _ :: _ :: L.eraseIdx k) := hS3
  refine OW_allocR hS3 le_refl (under_app [2, 0, 1, 1] hβ) rfl rfl rfl rfl fun H4 hS4 => ?_
  replace hS4 : Own _ _ _ (_ :: _ :: _ :: _ :: _ :: L.eraseIdx k) := hS4
  refine EN80_CK16 rfl ?_
  first
  | refine OW_storeR hS4 (k := 0) rfl le_refl rfl rfl rfl rfl ⟨rfl, rfl, Nat.le_of_ble_eq_true rfl⟩ (set_whole rfl rfl) fun H5 hS5 => ?_
  | refine OW_storeR hS4 (k := 0) rfl le_refl rfl rfl rfl rfl ⟨rfl, rfl, Nat.le_of_ble_eq_true rfl⟩ (u2 := .agg [_, _, _]) rfl fun H5 hS5 => ?_
  replace hS5 : Own _ _ _ (_ :: _ :: _ :: _ :: _ :: L.eraseIdx k) := hS5
  refine OW_as rfl rfl ?_
  refine OW_as rfl rfl ?_
  refine EZ80_CK16 rfl ?_
  refine XW_seq ?_
  refine XW_sr ?_
  refine OW_mv rfl rfl ?_
  refine OW_fn rfl rfl (unpack_e (by omega) hu ?_) 
  refine OW_mv rfl rfl ?_
  refine EN80_CK16 rfl ?_
  refine OW_ex rfl rfl rfl ?_
  refine OW_ex rfl rfl rfl ?_
  refine OW_allocR hS5 (le_lit (ν := ν) (a := [4, 0, 1, 1]) (b := [5, 0, 0, 1, 1, 1]) (by decide)) (under_app [5, 0, 0, 1, 1, 1] hβ) rfl rfl rfl rfl fun H6 hS6 => ?_
  replace hS6 : Own _ _ _ (_ :: _ :: _ :: _ :: _ :: _ :: L.eraseIdx k) := hS6
  refine EN80_CK16 rfl ?_
  first
  | refine OW_storeR hS6 (k := 0) rfl le_refl rfl rfl rfl rfl ⟨rfl, rfl, Nat.le_of_ble_eq_true rfl⟩ (set_whole rfl rfl) fun H7 hS7 => ?_
  | refine OW_storeR hS6 (k := 0) rfl le_refl rfl rfl rfl rfl ⟨rfl, rfl, Nat.le_of_ble_eq_true rfl⟩ (u2 := .agg [_, _, _, _, _, _, _, _, _, _, _]) rfl fun H7 hS7 => ?_
  replace hS7 : Own _ _ _ (_ :: _ :: _ :: _ :: _ :: _ :: L.eraseIdx k) := hS7
  refine OW_as rfl rfl ?_
  refine EZ80_CK16 rfl ?_
  refine XW_sr ?_
  refine OW_mv rfl rfl ?_
  refine EZ80_CK16 rfl ?_
  refine XW_yes rfl rfl ?_
  refine XW_region ?_
  refine OW_mv rfl rfl ?_
  refine OW_mv rfl rfl ?_
  refine OW_loadR hS7 (k := 4) rfl rfl rfl rfl rfl (by first | exact part_whole rfl rfl rfl | rfl) ?_
  refine EN80_CK16 rfl ?_
  refine OW_loadR hS7 (k := 0) rfl rfl rfl rfl rfl (by first | exact part_whole rfl rfl rfl | rfl) ?_
  refine OW_fn rfl rfl (run_c hg hm hV0 hS0' hT0 hS7 (k := 5) rfl (le_lit (ν := ν) (a := [7, 0, 0, 1, 1, 1]) (b := [4, 1, 1, 0, 1, 1, 1]) (by decide)) (under_app [4, 1, 1, 0, 1, 1, 1] hβ) (before_lit (ν := ν) (a := [4, 1, 1, 0, 1, 1, 1]) (b := [5, 1, 1, 0, 1, 1, 1]) (by decide)) fun H8 hS8 => ?_) 
  replace hS8 : Own _ _ _ (_ :: _ :: _ :: _ :: _ :: _ :: L.eraseIdx k) := hS8
  refine OW_mv rfl rfl ?_
  refine EN80_CK16 rfl ?_
  refine OW_ex rfl rfl rfl ?_
  refine OW_ex rfl rfl rfl ?_
  refine OW_ex rfl rfl rfl ?_
  refine EN80_CK16 rfl ?_
  first
  | refine OW_storeR hS8 (k := 1) rfl (le_lit (ν := ν) (a := [5, 1, 1, 0, 1, 1, 1]) (b := [9, 1, 1, 0, 1, 1, 1]) (by decide)) rfl rfl rfl rfl ⟨rfl, rfl, Nat.le_of_ble_eq_true rfl⟩ (set_whole rfl rfl) fun H9 hS9 => ?_
  | refine OW_storeR hS8 (k := 1) rfl (le_lit (ν := ν) (a := [5, 1, 1, 0, 1, 1, 1]) (b := [9, 1, 1, 0, 1, 1, 1]) (by decide)) rfl rfl rfl rfl ⟨rfl, rfl, Nat.le_of_ble_eq_true rfl⟩ (u2 := .agg [_, _, _]) rfl fun H9 hS9 => ?_
  replace hS9 : Own _ _ _ (_ :: _ :: _ :: _ :: _ :: _ :: L.eraseIdx k) := hS9
  refine OW_as rfl rfl ?_
  refine OW_as rfl rfl ?_
  refine EZ80_CK16 rfl ?_
  refine then_norm ?_
  refine XW_sr ?_
  refine OW_fa rfl rfl rfl ?_
  refine OW_loadR hS9 (k := 1) rfl rfl rfl rfl rfl (by first | exact part_whole rfl rfl rfl | rfl) ?_
  refine OW_mv rfl rfl ?_
  refine EN80_CK16 rfl ?_
  refine OW_mv rfl rfl ?_
  refine OW_mv rfl rfl ?_
  refine OW_conv rfl rfl rfl ?_
  refine EN80_CK16 rfl ?_
  refine OW_fn rfl rfl (putUi (u64_wr (runR S key c m).1.e) ?_) 
  refine OW_mv rfl rfl ?_
  refine OW_fn rfl rfl (putTx (by omega) ?_) 
  refine EN80_CK16 rfl ?_
  refine OW_bin rfl rfl rfl rfl (cat (by first | omega | assumption | (simp only [ss]; omega) | (refine Nat.le_trans (Nat.add_le_add_left (show _ ≤ 256 by decide) _) (by first | omega | (simp only [ss]; omega))) | (refine Nat.le_trans (Nat.add_le_add_right (show _ ≤ 256 by decide) _) (by first | omega | (simp only [ss]; omega))))) ?_
  refine OW_fn rfl rfl (SE.pNoteL Ls.of hS9 (le_lit (ν := ν) (a := [10, 1, 1, 0, 1, 1, 1]) (b := [10, 0, 1, 1, 1, 1]) (by decide)) (under_app [10, 0, 1, 1, 1, 1] hβ) (before_lit (ν := ν) (a := [10, 0, 1, 1, 1, 1]) (b := [11, 0, 1, 1, 1, 1]) (by decide)) (by omega) id nr _ (by simp only [ss]; omega) fun H10 hS10 => ?_) 
  replace hS10 : Own _ _ _ (_ :: _ :: _ :: _ :: _ :: _ :: L.eraseIdx k) := hS10
  refine OW_fa rfl rfl rfl ?_
  refine EN80_CK16 rfl ?_
  refine OW_storeR hS10 (k := 1) rfl (le_lit (ν := ν) (a := [11, 0, 1, 1, 1, 1]) (b := [12, 0, 1, 1, 1, 1]) (by decide)) rfl rfl rfl rfl ⟨rfl, rfl, Nat.le_of_ble_eq_true rfl⟩ (u2 := .agg [_, _, _]) rfl fun H11 hS11 => ?_
  replace hS11 : Own _ _ _ (_ :: _ :: _ :: _ :: _ :: _ :: L.eraseIdx k) := hS11
  refine EZ80_CK16 rfl ?_
  refine XW_sr ?_
  refine OW_loadR hS11 (k := 1) rfl rfl rfl rfl rfl (by first | exact part_whole rfl rfl rfl | rfl) ?_
  refine OW_mv rfl rfl ?_
  refine OW_mv rfl rfl ?_
  refine EN80_CK16 rfl ?_
  first
  | refine OW_storeR hS11 (k := 3) rfl (le_lit (ν := ν) (a := [13, 0, 1, 1, 1, 1]) (b := [3, 0, 1, 1, 1, 1, 1]) (by decide)) rfl rfl rfl rfl ⟨rfl, rfl, Nat.le_of_ble_eq_true rfl⟩ (set_whole rfl rfl) fun H12 hS12 => ?_
  | refine OW_storeR hS11 (k := 3) rfl (le_lit (ν := ν) (a := [13, 0, 1, 1, 1, 1]) (b := [3, 0, 1, 1, 1, 1, 1]) (by decide)) rfl rfl rfl rfl ⟨rfl, rfl, Nat.le_of_ble_eq_true rfl⟩ (u2 := .agg [_, _, _]) rfl fun H12 hS12 => ?_
  replace hS12 : Own _ _ _ (_ :: _ :: _ :: _ :: _ :: _ :: L.eraseIdx k) := hS12
  refine OW_as rfl rfl ?_
  refine OW_as rfl rfl ?_
  refine EZ80_CK16 rfl ?_
  refine XW_ret ?_
  refine ret_ret (res3 rfl (rv_cellR hS12 (k := 3) rfl rfl rfl rfl (by first | exact part_whole rfl rfl rfl | rfl)) (rv_tmp rfl) (rv_tmp rfl)) ?_
  have hz := Own.drop (Own.drop (Own.drop (Own.drop (Own.drop0 (Own.mono hS12 (le_bef (bef_app (a := [4, 0, 1, 1, 1, 1, 1]) hp)))) (k := 0) rfl) (k := 0) rfl) (k := 0) rfl) (k := 0) rfl
  rw [fzC]; exact hq _ (own_lose0 (Own.unpick hz hL) rcC)
theorem apply_bad {s0 : ByteArray} (he : SE.seekL id nr c.ss = (0, s0)) (hu : unpC cmd = (m, false)) (hg : c.good) (hc : cmd.size ≤ 1099511627776) (hV0 : Ls V0 (c.vs.map Vo.enc)) (hS0' : Ls S0 (c.ss.map SE.Se.enc)) (hT0 : Ls T0 (c.qs.map Qu.enc)) (hS : Own β ps H L) (hL : L[k]? = some (orc qo S.of)) (hle : le ps ν) (hβ : under β ν = true) (hp : before ν pos')
    (hq : ∀ H1, Own β pos' H1 L → Q (.tup [(noteR (err c 130) id nr).c.enc, .int .i64 130, .str ⟨#[]⟩]) H1) : CW cfg ν 17 [.ptr qo 0 0, .int .u64 key, .agg [V0, S0, T0], .int .u64 id, .int .u64 nr, .str cmd] H Q := by
  have hsm := hg.sm
  have hsl := hg.sl
  have hs1 := encS_size (s := ⟨#[]⟩) (by decide)
  have hs2 := encU_i (u64_wr 130)
  have h00 : (⟨#[]⟩ : ByteArray).size = 0 := rfl
  refine CW_cast g17 F17 rfl ?_
  replace hS := Own.mono hS hle
  refine XW_sr ?_
  refine OW_boxR hS (le_app (p := ν) (b := [0, 0])) (under_app [0, 0] hβ) rfl rfl rfl ⟨rfl, rfl⟩ fun H1 hS1 => ?_
  replace hS1 : Own _ _ _ (_ :: L) := hS1
  refine OW_allocR hS1 le_refl (under_app [1, 0] hβ) rfl rfl rfl rfl fun H2 hS2 => ?_
  replace hS2 : Own _ _ _ (_ :: _ :: L) := hS2
  refine OW_as rfl rfl ?_
  refine EN80_CK16 rfl ?_
  refine OW_as rfl rfl ?_
  refine EZ80_CK16 rfl ?_
  refine XW_seq ?_
  refine XW_sr ?_
  refine OW_fa rfl rfl rfl ?_
  refine OW_loadR hS2 (k := 1) rfl rfl rfl rfl rfl (by first | exact part_whole rfl rfl rfl | rfl) ?_
  refine OW_mv rfl rfl ?_
  refine EN80_CK16 rfl ?_
  refine OW_mv rfl rfl ?_
  refine OW_fn rfl rfl (seek_e hS0' (by omega) id nr he ?_) 
  refine OW_mv rfl rfl ?_
  refine EN80_CK16 rfl ?_
  refine OW_ex rfl rfl rfl ?_
  refine OW_ex rfl rfl rfl ?_
  refine OW_as rfl rfl ?_
  refine EN80_CK16 rfl ?_
  refine OW_as rfl rfl ?_
  refine EZ80_CK16 rfl ?_
  refine XW_sr ?_
  refine OW_mv rfl rfl ?_
  refine EZ80_CK16 rfl ?_
  refine XW_block ?_
  refine XW_sr ?_
  refine OW_bin rfl rfl rfl rfl rfl ?_
  refine OW_as rfl rfl ?_
  refine EZ80_CK16 rfl ?_
  refine XW_no rfl rfl ?_
  refine XW_sr ?_
  refine OW_bin rfl rfl rfl rfl rfl ?_
  refine OW_as rfl rfl ?_
  refine EZ80_CK16 rfl ?_
  refine XW_no rfl rfl ?_
  refine XW_skip ?_
  refine block_norm ?_
  refine then_norm ?_
  refine XW_sr ?_
  refine OW_loadR hS2 (k := 1) rfl rfl rfl rfl rfl (by first | exact part_whole rfl rfl rfl | rfl) ?_
  refine OW_fn rfl rfl (copied_c hV0 hS0' hT0 hS2 (le_lit (ν := ν) (a := [2, 0]) (b := [1, 0, 1, 1]) (by decide)) (under_app [1, 0, 1, 1] hβ) (before_lit (ν := ν) (a := [1, 0, 1, 1]) (b := [2, 0, 1, 1]) (by decide)) hsm fun H3 V S1 T hS3 => ?_) 
  replace hS3 : Own _ _ _ (_ :: _ :: _ :: L) := hS3
  refine OW_allocR hS3 le_refl (under_app [2, 0, 1, 1] hβ) rfl rfl rfl rfl fun H4 hS4 => ?_
  replace hS4 : Own _ _ _ (_ :: _ :: _ :: _ :: L) := hS4
  refine EN80_CK16 rfl ?_
  first
  | refine OW_storeR hS4 (k := 0) rfl le_refl rfl rfl rfl rfl ⟨rfl, rfl, Nat.le_of_ble_eq_true rfl⟩ (set_whole rfl rfl) fun H5 hS5 => ?_
  | refine OW_storeR hS4 (k := 0) rfl le_refl rfl rfl rfl rfl ⟨rfl, rfl, Nat.le_of_ble_eq_true rfl⟩ (u2 := .agg [_, _, _]) rfl fun H5 hS5 => ?_
  replace hS5 : Own _ _ _ (_ :: _ :: _ :: _ :: L) := hS5
  refine OW_as rfl rfl ?_
  refine OW_as rfl rfl ?_
  refine EZ80_CK16 rfl ?_
  refine XW_seq ?_
  refine XW_sr ?_
  refine OW_mv rfl rfl ?_
  refine OW_fn rfl rfl (unpack_e (by omega) hu ?_) 
  refine OW_mv rfl rfl ?_
  refine EN80_CK16 rfl ?_
  refine OW_ex rfl rfl rfl ?_
  refine OW_ex rfl rfl rfl ?_
  refine OW_allocR hS5 (le_lit (ν := ν) (a := [4, 0, 1, 1]) (b := [5, 0, 0, 1, 1, 1]) (by decide)) (under_app [5, 0, 0, 1, 1, 1] hβ) rfl rfl rfl rfl fun H6 hS6 => ?_
  replace hS6 : Own _ _ _ (_ :: _ :: _ :: _ :: _ :: L) := hS6
  refine EN80_CK16 rfl ?_
  first
  | refine OW_storeR hS6 (k := 0) rfl le_refl rfl rfl rfl rfl ⟨rfl, rfl, Nat.le_of_ble_eq_true rfl⟩ (set_whole rfl rfl) fun H7 hS7 => ?_
  | refine OW_storeR hS6 (k := 0) rfl le_refl rfl rfl rfl rfl ⟨rfl, rfl, Nat.le_of_ble_eq_true rfl⟩ (u2 := .agg [_, _, _, _, _, _, _, _, _, _, _]) rfl fun H7 hS7 => ?_
  replace hS7 : Own _ _ _ (_ :: _ :: _ :: _ :: _ :: L) := hS7
  refine OW_as rfl rfl ?_
  refine EZ80_CK16 rfl ?_
  refine XW_sr ?_
  refine OW_mv rfl rfl ?_
  refine EZ80_CK16 rfl ?_
  refine XW_no rfl rfl ?_
  refine XW_skip ?_
  refine then_norm ?_
  refine XW_sr ?_
  replace hS7 := Own.un_all (Own.tor (A := [_, _]) hS7)
  refine OW_fa rfl rfl rfl ?_
  refine OW_loadR hS7 (k := 4) rfl rfl rfl rfl rfl (by first | exact part_whole rfl rfl rfl | rfl) ?_
  refine OW_mv rfl rfl ?_
  refine EN80_CK16 rfl ?_
  refine OW_mv rfl rfl ?_
  refine OW_mv rfl rfl ?_
  refine OW_conv rfl rfl rfl ?_
  refine EN80_CK16 rfl ?_
  refine OW_fn rfl rfl (putUi (u64_wr 130) ?_) 
  refine OW_mv rfl rfl ?_
  refine OW_fn rfl rfl (putTx (by decide) ?_) 
  refine EN80_CK16 rfl ?_
  refine OW_bin rfl rfl rfl rfl (cat (by first | omega | assumption | (simp only [ss]; omega) | (refine Nat.le_trans (Nat.add_le_add_left (show _ ≤ 256 by decide) _) (by first | omega | (simp only [ss]; omega))) | (refine Nat.le_trans (Nat.add_le_add_right (show _ ≤ 256 by decide) _) (by first | omega | (simp only [ss]; omega))))) ?_
  refine OW_fn rfl rfl (SE.pNoteO hS7 (k := 1) rfl (le_lit (ν := ν) (a := [7, 0, 0, 1, 1, 1]) (b := [10, 0, 1, 1, 1, 1]) (by decide)) (under_app [10, 0, 1, 1, 1, 1] hβ) (before_lit (ν := ν) (a := [10, 0, 1, 1, 1, 1]) (b := [11, 0, 1, 1, 1, 1]) (by decide)) (by omega) id nr _ (by simp only [ss]; omega) fun H8 hS8 => ?_) 
  replace hS8 : Own _ _ _ (_ :: _ :: _ :: _ :: _ :: _ :: _ :: L) := hS8
  refine OW_fa rfl rfl rfl ?_
  refine EN80_CK16 rfl ?_
  refine OW_storeR hS8 (k := 4) rfl (le_lit (ν := ν) (a := [11, 0, 1, 1, 1, 1]) (b := [12, 0, 1, 1, 1, 1]) (by decide)) rfl rfl rfl rfl ⟨rfl, rfl, Nat.le_of_ble_eq_true rfl⟩ (u2 := .agg [_, _, _]) rfl fun H9 hS9 => ?_
  replace hS9 : Own _ _ _ (_ :: _ :: _ :: _ :: _ :: _ :: _ :: L) := hS9
  refine EZ80_CK16 rfl ?_
  refine XW_sr ?_
  refine OW_loadR hS9 (k := 4) rfl rfl rfl rfl rfl (by first | exact part_whole rfl rfl rfl | rfl) ?_
  refine OW_mv rfl rfl ?_
  refine OW_mv rfl rfl ?_
  refine EN80_CK16 rfl ?_
  first
  | refine OW_storeR hS9 (k := 5) rfl (le_lit (ν := ν) (a := [13, 0, 1, 1, 1, 1]) (b := [3, 0, 1, 1, 1, 1, 1]) (by decide)) rfl rfl rfl rfl ⟨rfl, rfl, Nat.le_of_ble_eq_true rfl⟩ (set_whole rfl rfl) fun H10 hS10 => ?_
  | refine OW_storeR hS9 (k := 5) rfl (le_lit (ν := ν) (a := [13, 0, 1, 1, 1, 1]) (b := [3, 0, 1, 1, 1, 1, 1]) (by decide)) rfl rfl rfl rfl ⟨rfl, rfl, Nat.le_of_ble_eq_true rfl⟩ (u2 := .agg [_, _, _]) rfl fun H10 hS10 => ?_
  replace hS10 : Own _ _ _ (_ :: _ :: _ :: _ :: _ :: _ :: _ :: L) := hS10
  refine OW_as rfl rfl ?_
  refine OW_as rfl rfl ?_
  refine EZ80_CK16 rfl ?_
  refine XW_ret ?_
  refine ret_ret (res3 rfl (rv_cellR hS10 (k := 5) rfl rfl rfl rfl (by first | exact part_whole rfl rfl rfl | rfl)) (rv_tmp rfl) (rv_tmp rfl)) ?_
  have hz := Own.drop (Own.drop (Own.drop (Own.drop (Own.drop (Own.mono hS10 (le_bef (bef_app (a := [4, 0, 1, 1, 1, 1, 1]) hp))) (k := 6) rfl) (k := 5) rfl) (k := 4) rfl) (k := 3) rfl) (k := 1) rfl
  replace hz : Own _ _ _ (Asr.all [vols V c.vs, sl T 3 (c.qs.map Qu.enc)] :: L) := Own.mk_all (L1 := [_, _]) hz
  obtain ⟨fz, hfz, _⟩ := hz.get (k := 0) rfl
  rw [fzM hfz]; exact hq _ (Own.lose hz fun f hf => rcM hf)
theorem seekL_k (t : List SE.Se) : (SE.seekL id nr t).1 = 0 ∨ (SE.seekL id nr t).1 = 1 ∨ (SE.seekL id nr t).1 = 2 := by
  induction t with
  | nil => exact .inl rfl
  | cons x r ih =>
    rw [SE.seekL]
    split
    · split
      · exact .inr (.inl rfl)
      · split
        · exact .inr (.inr rfl)
        · exact .inl rfl
    · exact ih
theorem seekL_an {n : Nat} {t : List SE.Se} (h : ∀ x ∈ t, x.an.size ≤ n) : (SE.seekL id nr t).2.size ≤ n := by
  induction t with
  | nil => exact Nat.zero_le _
  | cons x r ih =>
    rw [SE.seekL]
    split
    · split
      · exact h x (by simp)
      · split <;> exact Nat.zero_le _
    · exact ih fun y hy => h y (by simp [hy])
theorem apply_c (hg : c.good) (hc : cmd.size ≤ 1099511627776) (hV0 : Ls V0 (c.vs.map Vo.enc)) (hS0' : Ls S0 (c.ss.map SE.Se.enc)) (hT0 : Ls T0 (c.qs.map Qu.enc)) (hS : Own β ps H L) (hL : L[k]? = some (orc qo S.of)) (hle : le ps ν) (hβ : under β ν = true) (hp : before ν pos')
    (hq : ∀ H1, Own β pos' H1 (L.set k (orc qo (applyR S key c id nr cmd).2.of)) → Q (.tup [(applyR S key c id nr cmd).1.c.enc, .int .i64 (applyR S key c id nr cmd).1.e, .str (applyR S key c id nr cmd).1.an]) H1) : CW cfg ν 17 [.ptr qo 0 0, .int .u64 key, .agg [V0, S0, T0], .int .u64 id, .int .u64 nr, .str cmd] H Q := by
  have han := seekL_an (id := id) (nr := nr) (of_decide_eq_true hg.sc).2.1
  rcases seekL_k (id := id) (nr := nr) c.ss with h | h | h
  · cases hu : unpC cmd with
    | mk m b =>
      have e : ∀ r, applyR S key c id nr cmd = r ↔ (if b = true then (noteR (runR S key c m).1 id nr, (runR S key c m).2) else (noteR (err c 130) id nr, S)) = r := fun r => by
        unfold applyR; rw [if_neg (by omega), if_neg (by omega), hu]
      cases b with
      | true =>
        rw [(e _).2 (if_pos rfl)] at hq
        exact apply_ok (Prod.ext h rfl : SE.seekL id nr c.ss = (0, _)) hu (by have := unpC_fit hc; rw [hu] at this; exact this) hg hc hV0 hS0' hT0 hS hL hle hβ hp hq
      | false =>
        rw [(e _).2 (if_neg (by decide))] at hq
        rw [set_get_self hL] at hq
        exact apply_bad (Prod.ext h rfl : SE.seekL id nr c.ss = (0, _)) hu hg hc hV0 hS0' hT0 hS hL hle hβ hp hq
  · rw [applyR, if_neg (by omega), if_pos h, set_get_self hL] at hq
    exact apply_again (Prod.ext h rfl : SE.seekL id nr c.ss = (1, (SE.seekL id nr c.ss).2)) (Nat.le_trans han (by decide)) hg hV0 hS0' hT0 hS hL hle hβ hp hq
  · rw [applyR, if_pos h, set_get_self hL] at hq
    exact apply_old (Prod.ext h rfl : SE.seekL id nr c.ss = (2, _)) hg hV0 hS0' hT0 hS hL hle hβ hp hq
end Go.Proofs.Ytfkgdlfponfimaa.X
