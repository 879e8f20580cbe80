/- Layer 07: the laws, reckoned. -/
import Derived.Test.YtoljfmghcfdbpaaTK2
import Derived.Test.YtoljfmghcfdbpaaI
set_option linter.unusedVariables false
set_option linter.unusedSimpArgs false
set_option maxRecDepth 100000
namespace Go.Proofs.Ytoljfmghcfdbpaa.X
open Go Go.RowKit WM
variable {ν β ps pos' : Nm} {H : Heap} {Q : AVal → Heap → Prop} {L : List Asr} {q : Nm} {k : Nat} {S T : Rf}
theorem eqI {T : TT} {t : TypeId} {a b : Int} (h : a = b) : aBin T .eql t (.int .i64 a) (.int .i64 b) = some (.bool true) := by simp [aBin, aIntB, aInt, h]
theorem eqB {a b : Bool} (h : a = b) : aBin cfg.T .eql 4 (.bool a) (.bool b) = some (.bool true) := by subst h; cases a <;> rfl
theorem neB {a b : Bool} (h : a = b) : aBin cfg.T .neq 4 (.bool a) (.bool b) = some (.bool false) := by subst h; cases a <;> rfl
theorem eqS {T : TT} {t : TypeId} {a b : ByteArray} (h : a = b) : aBin T .eql t (.str a) (.str b) = some (.bool true) := by subst h; simp [aBin, aStr]
theorem eqTk (x y : Tk) : aBin cfg.T .eql 24 x.enc y.enc = some (.bool (decide (x = y))) := by
  have e : aBin cfg.T .eql 24 x.enc y.enc = some (.bool (decide (x.tn = y.tn) && (decide (x.vo = y.vo) && (decide (x.ep = y.ep) && (decide (x.ri = y.ri) && (decide (x.tag = y.tag) && true)))))) := rfl
  rw [e]
  obtain ⟨a1, a2, a3, a4, a5⟩ := x; obtain ⟨b1, b2, b3, b4, b5⟩ := y
  by_cases h1 : a1 = b1 <;> by_cases h2 : a2 = b2 <;> by_cases h3 : a3 = b3 <;> by_cases h4 : a4 = b4 <;> by_cases h5 : a5 = b5 <;> simp [h1, h2, h3, h4, h5]
theorem eqTkT {x y : Tk} (h : x = y) : aBin cfg.T .eql 24 x.enc y.enc = some (.bool true) := by rw [eqTk, decide_eq_true h]
theorem fixedW (h : acall cfg (aexec cfg 60) ν 11 [] H = some (.bool true, H)) (hq : Q (.bool true) H) : CW cfg ν 11 [] H Q := ⟨60, _, _, h, hq⟩
/-! ### What was issued -/
structure Isd (S : Rf) (key : Int) (l : List Tk) : Prop where
  inv : S.Inv
  row : ∀ t ∈ l, ⟨2, key, 0, tkB t, ⟨#[]⟩, t.tag⟩ ∈ S.rows
  only : ∀ y ∈ S.rows, y.t = 2 → ∃ t ∈ l, y.k = key ∧ y.a = tkB t ∧ y.h = t.tag
theorem value_only {x y : Rw} (h : y ∈ (S.value x).2.rows) : y ∈ S.rows ∨ y = ⟨x.t, x.k, x.n, x.a, x.b, (S.value x).1⟩ := by
  unfold Rf.value at h ⊢
  split at h
  · exact .inl h
  · simp only [Rf.draw, List.mem_append, List.mem_singleton] at h
    exact h
theorem Isd.issue {key : Int} {l : List Tk} (h : Isd S key l) (t : Tk) : Isd (S.issue key t).2 key (l ++ [(S.issue key t).1]) := by
  have hu : S.Up (S.issue key t).2 := Rf.value_up _
  refine ⟨hu.inv h.inv, fun u hu' => ?_, fun y hy h2 => ?_⟩
  · rcases List.mem_append.1 hu' with h1 | h1
    · exact hu.sub _ (h.row u h1)
    · simp only [List.mem_singleton] at h1
      subst h1
      exact Rf.mac_row (S := S) (kk := key) (a := tkB t) rfl
  · rcases value_only (S := S) hy with h1 | h1
    · obtain ⟨u, h3, h4⟩ := h.only y h1 h2
      exact ⟨u, by simp [h3], h4⟩
    · exact ⟨(S.issue key t).1, by simp, by rw [h1], by rw [h1]; rfl, by rw [h1]; rfl⟩
theorem Isd.issues {key : Int} : ∀ (m : List Tk) {l : List Tk} {S : Rf}, Isd S key l → Isd (S.issues key m).2 key (l ++ (S.issues key m).1)
  | [], l, S, h => by simpa [Rf.issues] using h
  | t :: m, l, S, h => by
    have := Isd.issues m (h.issue t)
    simpa [Rf.issues] using this
theorem Us.isd (x : Us) : Isd x.ts.2 x.key x.ts.1 := by
  have h0 : Isd (Rf.new x.d) x.key [] := ⟨Rf.new_inv _, by simp, fun y hy => by simp [Rf.new] at hy⟩
  have := h0.issues (x.iss.take 100)
  rw [List.nil_append] at this
  exact this
theorem issue_fit {key : Int} {t : Tk} (ht : t.fit) (hU : U64 (S.issue key t).1.tag) : (S.issue key t).1.fit := ⟨ht.1, ht.2.1, ht.2.2.1, ht.2.2.2.1, hU⟩
/-- The fields of what is issued are those that were asked for. -/
theorem issues_flds {key : Int} {p : Tk → Prop} (hp : ∀ (t : Tk) (v : Int), p t → p ⟨t.tn, t.vo, t.ep, t.ri, v⟩) : ∀ (m : List Tk) {S : Rf}, (∀ t ∈ m, p t) → ∀ t ∈ (S.issues key m).1, p t
  | [], _, _, t, ht => by simp [Rf.issues] at ht
  | a :: m, S, h, t, ht => by
    simp only [Rf.issues, List.mem_cons] at ht
    rcases ht with rfl | ht
    · exact hp a _ (h a (by simp))
    · exact issues_flds hp m (fun t ht => h t (by simp [ht])) t ht
def fit4 (t : Tk) : Prop := U64 t.tn ∧ U64 t.vo ∧ U64 t.ep ∧ U64 t.ri
theorem tkB_inj {t u : Tk} (h : fit4 t) (h' : fit4 u) (e : tkB t = tkB u) : t.tn = u.tn ∧ t.vo = u.vo ∧ t.ep = u.ep ∧ t.ri = u.ri :=
  fdB_inj (t := ⟨t.tn, t.vo, t.ep, t.ri, 0⟩) (u := ⟨u.tn, u.vo, u.ep, u.ri, 0⟩) ⟨h.1, h.2.1, h.2.2.1, h.2.2.2, (by decide : U64 0)⟩ ⟨h'.1, h'.2.1, h'.2.2.1, h'.2.2.2, (by decide : U64 0)⟩ e
theorem Us.fit4 {x : Us} (hx : x.good) : ∀ t ∈ x.ts.1, X.fit4 t := issues_flds (p := X.fit4) (fun t v h => h) _ (fun t ht => have h := hx.fit t (List.mem_of_mem_take ht); ⟨h.1, h.2.1, h.2.2.1, h.2.2.2.1⟩)
theorem Us.rows (x : Us) : x.ts.2.rows.length ≤ 100 := by
  have h1 := Rf.issues_rows (x.iss.take 100) (S := Rf.new x.d) (key := x.key)
  have h2 : (Rf.new x.d).rows.length = 0 := rfl
  rw [List.length_take] at h1
  show ((Rf.new x.d).issues x.key (x.iss.take 100)).2.rows.length ≤ 100
  omega
theorem Us.len (x : Us) : x.ts.1.length ≤ 100 := by
  show ((Rf.new x.d).issues x.key (x.iss.take 100)).1.length ≤ 100
  rw [Rf.issues_len, List.length_take]; omega
/-- A tag is verified just if its token was issued. -/
theorem Isd.ver {key : Int} {l : List Tk} (h : Isd S key l) (hf : ∀ t ∈ l, X.fit4 t) {a : Tk} (ha : X.fit4 a) : (S.verify key (tkB a) a.tag).1 = decide (a ∈ l) ∧ (a ∈ l → (S.verify key (tkB a) a.tag).2 = S) := by
  by_cases hm : a ∈ l
  · have := h.inv.verA (h.row a hm) a.tag
    rw [if_pos rfl] at this
    rw [this]; simp [hm]
  · refine ⟨?_, fun e => absurd e hm⟩
    rw [decide_eq_false hm]
    unfold Rf.verify
    split
    · rename_i y hy
      split
      · rename_i he
        exfalso
        have h1 := Rf.same_iff.1 (List.find?_some hy)
        obtain ⟨t, h2, h3, h4, h5⟩ := h.only y (List.mem_of_find?_eq_some hy) h1.2.1
        have h6 : tkB a = tkB t := by rw [← h4]; exact h1.2.2.2.2.1.symm
        have h7 := tkB_inj ha (hf t h2) h6
        obtain ⟨a1, a2, a3, a4, a5⟩ := a
        obtain ⟨t1, t2, t3, t4, t5⟩ := t
        simp only at h7 he h5
        obtain ⟨rfl, rfl, rfl, rfl⟩ := h7
        rw [← h5, he] at h2
        exact hm h2
      · rfl
    · rfl
theorem parseBack {l : Tk} (h : l.fit) (hq : Q (.tup [l.enc, .bool true]) H) : CW cfg ν 8 [.str (pkB l)] H Q := by
  have := pkB_size h
  exact parseW (by omega) (by rw [resK_back h]; exact hq)
theorem lawTexts (l : Tk) (s : ByteArray) (hl : l.fit) (hs : s.size ≤ 1048576) (hq : Q (.bool true) H) : CW cfg [] 3 [l.enc, .str s] H Q := by
  have hf := resK_fit s
  have hz := fdB_size hl
  refine CW_pure g3 F3 rfl ?_
  have hS0 : Own [] [] (fun _ => none) [] := Own.nil
  refine XW_sr ?_
  refine OW_boxR hS0 (le_app (p := []) (b := [0, 0])) under_nil rfl rfl rfl ⟨rfl, rfl⟩ fun H1 hS1 => ?_
  replace hS1 : Own _ _ _ ([_]) := hS1
  refine OW_as rfl rfl ?_
  refine OW_nilE (e' := [_, _, _, _, _, _, _, _, _, _, _, _, _, _, _, _, _, _, _, _, _, _, _, _, _, _, _, _, _, _, _, _, _, _, _, _, _, _, _, _, _, _, _, _, _, _, _, _, _, _, _, _, _, _, _, _, _, _, _, _, _, _, _, _, _, _, _, _, _, _, _]) rfl ?_
  refine XW_sr ?_
  refine OW_mv rfl rfl ?_
  refine OW_fn rfl rfl (parseW (by omega) ?_) 
  refine OW_mv rfl rfl ?_
  refine OW_env (e' := [_, _, _, _, _, _, _, _, _, _, _, _, _, _, _, _, _, _, _, _, _, _, _, _, _, _, _, _, _, _, _, _, _, _, _, _, _, _, _, _, _, _, _, _, _, _, _, _, _, _, _, _, _, _, _, _, _, _, _, _, _, _, _, _, _, _, _, _, _, _, _]) rfl ?_
  refine OW_ex rfl rfl rfl ?_
  refine OW_ex rfl rfl rfl ?_
  refine OW_allocR hS1 (le_lit (ν := []) (a := [1, 0]) (b := [5, 0, 1]) (by decide)) under_nil rfl rfl rfl rfl fun H2 hS2 => ?_
  replace hS2 : Own _ _ _ ([_, _]) := hS2
  refine OW_env (e' := [_, _, _, _, _, _, _, _, _, _, _, _, _, _, _, _, _, _, _, _, _, _, _, _, _, _, _, _, _, _, _, _, _, _, _, _, _, _, _, _, _, _, _, _, _, _, _, _, _, _, _, _, _, _, _, _, _, _, _, _, _, _, _, _, _, _, _, _, _, _, _]) rfl ?_
  first
  | refine OW_storeR hS2 (k := 0) rfl le_refl rfl rfl rfl rfl ⟨rfl, rfl, Nat.le_of_ble_eq_true rfl⟩ (set_whole rfl rfl) fun H3 hS3 => ?_
  | refine OW_storeR hS2 (k := 0) rfl le_refl rfl rfl rfl rfl ⟨rfl, rfl, Nat.le_of_ble_eq_true rfl⟩ (u2 := .agg [_, _, _, _, _]) rfl fun H3 hS3 => ?_
  replace hS3 : Own _ _ _ ([_, _]) := hS3
  refine OW_as rfl rfl ?_
  refine OW_nilE (e' := [_, _, _, _, _, _, _, _, _, _, _, _, _, _, _, _, _, _, _, _, _, _, _, _, _, _, _, _, _, _, _, _, _, _, _, _, _, _, _, _, _, _, _, _, _, _, _, _, _, _, _, _, _, _, _, _, _, _, _, _, _, _, _, _, _, _, _, _, _, _, _]) rfl ?_
  refine XW_sr ?_
  refine OW_mv rfl rfl ?_
  refine OW_fn rfl rfl (rparseW (by omega) ?_) 
  refine OW_mv rfl rfl ?_
  refine OW_env (e' := [_, _, _, _, _, _, _, _, _, _, _, _, _, _, _, _, _, _, _, _, _, _, _, _, _, _, _, _, _, _, _, _, _, _, _, _, _, _, _, _, _, _, _, _, _, _, _, _, _, _, _, _, _, _, _, _, _, _, _, _, _, _, _, _, _, _, _, _, _, _, _]) rfl ?_
  refine OW_ex rfl rfl rfl ?_
  refine OW_ex rfl rfl rfl ?_
  refine OW_allocR hS3 (le_lit (ν := []) (a := [7, 0, 1]) (b := [5, 0, 1, 1]) (by decide)) under_nil rfl rfl rfl rfl fun H4 hS4 => ?_
  replace hS4 : Own _ _ _ ([_, _, _]) := hS4
  refine OW_env (e' := [_, _, _, _, _, _, _, _, _, _, _, _, _, _, _, _, _, _, _, _, _, _, _, _, _, _, _, _, _, _, _, _, _, _, _, _, _, _, _, _, _, _, _, _, _, _, _, _, _, _, _, _, _, _, _, _, _, _, _, _, _, _, _, _, _, _, _, _, _, _, _]) rfl ?_
  first
  | refine OW_storeR hS4 (k := 0) rfl le_refl rfl rfl rfl rfl ⟨rfl, rfl, Nat.le_of_ble_eq_true rfl⟩ (set_whole rfl rfl) fun H5 hS5 => ?_
  | refine OW_storeR hS4 (k := 0) rfl le_refl rfl rfl rfl rfl ⟨rfl, rfl, Nat.le_of_ble_eq_true rfl⟩ (u2 := .agg [_, _, _, _, _]) rfl fun H5 hS5 => ?_
  replace hS5 : Own _ _ _ ([_, _, _]) := hS5
  refine OW_as rfl rfl ?_
  refine OW_nilE (e' := [_, _, _, _, _, _, _, _, _, _, _, _, _, _, _, _, _, _, _, _, _, _, _, _, _, _, _, _, _, _, _, _, _, _, _, _, _, _, _, _, _, _, _, _, _, _, _, _, _, _, _, _, _, _, _, _, _, _, _, _, _, _, _, _, _, _, _, _, _, _, _]) rfl ?_
  refine XW_sr ?_
  refine OW_loadR hS5 (k := 2) rfl rfl rfl rfl rfl (by first | exact part_whole rfl rfl rfl | rfl) ?_
  refine OW_fn rfl rfl (packW (by assumption) ?_) 
  refine OW_fn rfl rfl (parseBack hl ?_) 
  refine OW_env (e' := [_, _, _, _, _, _, _, _, _, _, _, _, _, _, _, _, _, _, _, _, _, _, _, _, _, _, _, _, _, _, _, _, _, _, _, _, _, _, _, _, _, _, _, _, _, _, _, _, _, _, _, _, _, _, _, _, _, _, _, _, _, _, _, _, _, _, _, _, _, _, _]) rfl ?_
  refine OW_mv rfl rfl ?_
  refine OW_ex rfl rfl rfl ?_
  refine OW_ex rfl rfl rfl ?_
  refine OW_env (e' := [_, _, _, _, _, _, _, _, _, _, _, _, _, _, _, _, _, _, _, _, _, _, _, _, _, _, _, _, _, _, _, _, _, _, _, _, _, _, _, _, _, _, _, _, _, _, _, _, _, _, _, _, _, _, _, _, _, _, _, _, _, _, _, _, _, _, _, _, _, _, _]) rfl ?_
  refine OW_allocR hS5 (le_lit (ν := []) (a := [7, 0, 1, 1]) (b := [6, 0, 1, 1, 1]) (by decide)) under_nil rfl rfl rfl rfl fun H6 hS6 => ?_
  replace hS6 : Own _ _ _ ([_, _, _, _]) := hS6
  first
  | refine OW_storeR hS6 (k := 0) rfl le_refl rfl rfl rfl rfl ⟨rfl, rfl, Nat.le_of_ble_eq_true rfl⟩ (set_whole rfl rfl) fun H7 hS7 => ?_
  | refine OW_storeR hS6 (k := 0) rfl le_refl rfl rfl rfl rfl ⟨rfl, rfl, Nat.le_of_ble_eq_true rfl⟩ (u2 := .agg [_, _, _, _, _]) rfl fun H7 hS7 => ?_
  replace hS7 : Own _ _ _ ([_, _, _, _]) := hS7
  refine OW_as rfl rfl ?_
  refine OW_nilE (e' := [_, _, _, _, _, _, _, _, _, _, _, _, _, _, _, _, _, _, _, _, _, _, _, _, _, _, _, _, _, _, _, _, _, _, _, _, _, _, _, _, _, _, _, _, _, _, _, _, _, _, _, _, _, _, _, _, _, _, _, _, _, _, _, _, _, _, _, _, _, _, _]) rfl ?_
  refine XW_sr ?_
  refine OW_fn rfl rfl (fixedW (by kernel_rfl) ?_) 
  refine OW_mv rfl rfl ?_
  refine OW_loadR hS7 (k := 3) rfl rfl rfl rfl rfl (by first | exact part_whole rfl rfl rfl | rfl) ?_
  refine OW_env (e' := [_, _, _, _, _, _, _, _, _, _, _, _, _, _, _, _, _, _, _, _, _, _, _, _, _, _, _, _, _, _, _, _, _, _, _, _, _, _, _, _, _, _, _, _, _, _, _, _, _, _, _, _, _, _, _, _, _, _, _, _, _, _, _, _, _, _, _, _, _, _, _]) rfl ?_
  refine OW_fn rfl rfl (packW (by assumption) ?_) 
  refine OW_loadR hS7 (k := 3) rfl rfl rfl rfl rfl (by first | exact part_whole rfl rfl rfl | rfl) ?_
  refine OW_fn rfl rfl (rpackW (by assumption) ?_) 
  refine OW_env (e' := [_, _, _, _, _, _, _, _, _, _, _, _, _, _, _, _, _, _, _, _, _, _, _, _, _, _, _, _, _, _, _, _, _, _, _, _, _, _, _, _, _, _, _, _, _, _, _, _, _, _, _, _, _, _, _, _, _, _, _, _, _, _, _, _, _, _, _, _, _, _, _]) rfl ?_
  refine OW_bin rfl rfl rfl rfl (eqS rfl) ?_
  refine OW_pick rfl rfl rfl ?_
  refine OW_mv rfl rfl ?_
  refine OW_env (e' := [_, _, _, _, _, _, _, _, _, _, _, _, _, _, _, _, _, _, _, _, _, _, _, _, _, _, _, _, _, _, _, _, _, _, _, _, _, _, _, _, _, _, _, _, _, _, _, _, _, _, _, _, _, _, _, _, _, _, _, _, _, _, _, _, _, _, _, _, _, _, _]) rfl ?_
  refine OW_loadR hS7 (k := 3) rfl rfl rfl rfl rfl (by first | exact part_whole rfl rfl rfl | rfl) ?_
  refine OW_fn rfl rfl (textW (by assumption) ?_) 
  refine OW_loadR hS7 (k := 3) rfl rfl rfl rfl rfl (by first | exact part_whole rfl rfl rfl | rfl) ?_
  refine OW_env (e' := [_, _, _, _, _, _, _, _, _, _, _, _, _, _, _, _, _, _, _, _, _, _, _, _, _, _, _, _, _, _, _, _, _, _, _, _, _, _, _, _, _, _, _, _, _, _, _, _, _, _, _, _, _, _, _, _, _, _, _, _, _, _, _, _, _, _, _, _, _, _, _]) rfl ?_
  refine OW_fn rfl rfl (saidW (by assumption) ?_) 
  refine OW_bin rfl rfl rfl rfl (cat (by show 5 + _ ≤ 9223372036854775807; omega)) ?_
  refine OW_bin rfl rfl rfl rfl (eqS rfl) ?_
  refine OW_env (e' := [_, _, _, _, _, _, _, _, _, _, _, _, _, _, _, _, _, _, _, _, _, _, _, _, _, _, _, _, _, _, _, _, _, _, _, _, _, _, _, _, _, _, _, _, _, _, _, _, _, _, _, _, _, _, _, _, _, _, _, _, _, _, _, _, _, _, _, _, _, _, _]) rfl ?_
  refine OW_pick rfl rfl rfl ?_
  refine OW_mv rfl rfl ?_
  refine OW_loadR hS7 (k := 2) rfl rfl rfl rfl rfl (by first | exact part_whole rfl rfl rfl | rfl) ?_
  refine OW_env (e' := [_, _, _, _, _, _, _, _, _, _, _, _, _, _, _, _, _, _, _, _, _, _, _, _, _, _, _, _, _, _, _, _, _, _, _, _, _, _, _, _, _, _, _, _, _, _, _, _, _, _, _, _, _, _, _, _, _, _, _, _, _, _, _, _, _, _, _, _, _, _, _]) rfl ?_
  refine OW_loadR hS7 (k := 1) rfl rfl rfl rfl rfl (by first | exact part_whole rfl rfl rfl | rfl) ?_
  refine OW_bin rfl rfl rfl rfl (eqTkT rfl) ?_
  refine OW_pick rfl rfl rfl ?_
  refine OW_env (e' := [_, _, _, _, _, _, _, _, _, _, _, _, _, _, _, _, _, _, _, _, _, _, _, _, _, _, _, _, _, _, _, _, _, _, _, _, _, _, _, _, _, _, _, _, _, _, _, _, _, _, _, _, _, _, _, _, _, _, _, _, _, _, _, _, _, _, _, _, _, _, _]) rfl ?_
  refine OW_mv rfl rfl ?_
  refine OW_mv rfl rfl ?_
  refine OW_mv rfl rfl ?_
  refine OW_env (e' := [_, _, _, _, _, _, _, _, _, _, _, _, _, _, _, _, _, _, _, _, _, _, _, _, _, _, _, _, _, _, _, _, _, _, _, _, _, _, _, _, _, _, _, _, _, _, _, _, _, _, _, _, _, _, _, _, _, _, _, _, _, _, _, _, _, _, _, _, _, _, _]) rfl ?_
  refine OW_bin rfl rfl rfl rfl (eqB rfl) ?_
  refine OW_pick rfl rfl rfl ?_
  refine OW_mv rfl rfl ?_
  refine OW_env (e' := [_, _, _, _, _, _, _, _, _, _, _, _, _, _, _, _, _, _, _, _, _, _, _, _, _, _, _, _, _, _, _, _, _, _, _, _, _, _, _, _, _, _, _, _, _, _, _, _, _, _, _, _, _, _, _, _, _, _, _, _, _, _, _, _, _, _, _, _, _, _, _]) rfl ?_
  refine OW_mv rfl rfl ?_
  refine OW_pick rfl rfl rfl ?_
  refine OW_mv rfl rfl ?_
  refine OW_env (e' := [_, _, _, _, _, _, _, _, _, _, _, _, _, _, _, _, _, _, _, _, _, _, _, _, _, _, _, _, _, _, _, _, _, _, _, _, _, _, _, _, _, _, _, _, _, _, _, _, _, _, _, _, _, _, _, _, _, _, _, _, _, _, _, _, _, _, _, _, _, _, _]) rfl ?_
  refine OW_loadR hS7 (k := 0) rfl rfl rfl rfl rfl (by first | exact part_whole rfl rfl rfl | rfl) ?_
  refine OW_loadR hS7 (k := 3) rfl rfl rfl rfl rfl (by first | exact part_whole rfl rfl rfl | rfl) ?_
  refine OW_bin rfl rfl rfl rfl (eqTkT rfl) ?_
  refine OW_env (e' := [_, _, _, _, _, _, _, _, _, _, _, _, _, _, _, _, _, _, _, _, _, _, _, _, _, _, _, _, _, _, _, _, _, _, _, _, _, _, _, _, _, _, _, _, _, _, _, _, _, _, _, _, _, _, _, _, _, _, _, _, _, _, _, _, _, _, _, _, _, _, _]) rfl ?_
  refine OW_pick rfl rfl rfl ?_
  refine OW_mv rfl rfl ?_
  refine OW_mv rfl rfl ?_
  refine OW_env (e' := [_, _, _, _, _, _, _, _, _, _, _, _, _, _, _, _, _, _, _, _, _, _, _, _, _, _, _, _, _, _, _, _, _, _, _, _, _, _, _, _, _, _, _, _, _, _, _, _, _, _, _, _, _, _, _, _, _, _, _, _, _, _, _, _, _, _, _, _, _, _, _]) rfl ?_
  refine OW_un rfl rfl rfl ?_
  refine OW_mv rfl rfl ?_
  refine OW_split (tt := 64) rfl (fun g4_38 => ?_) (fun g4_38 => ?_)
  · try simp only [decide_eq_true_eq, decide_eq_false_iff_not, Bool.not_eq_true', Bool.not_eq_false', Bool.and_eq_true, Bool.or_eq_true, Bool.not_eq_true, Bool.not_eq_false, Decidable.not_not, bne_iff_ne, beq_iff_eq, List.length_append, List.length_cons, List.length_nil, List.length_drop, List.length_take] at g4_38
    refine OW_env (e' := [_, _, _, _, _, _, _, _, _, _, _, _, _, _, _, _, _, _, _, _, _, _, _, _, _, _, _, _, _, _, _, _, _, _, _, _, _, _, _, _, _, _, _, _, _, _, _, _, _, _, _, _, _, _, _, _, _, _, _, _, _, _, _, _, _, _, _, _, _, _, _]) rfl ?_
    refine OW_no rfl ?_
    refine OW_no rfl ?_
    refine OW_no rfl ?_
    refine OW_env (e' := [_, _, _, _, _, _, _, _, _, _, _, _, _, _, _, _, _, _, _, _, _, _, _, _, _, _, _, _, _, _, _, _, _, _, _, _, _, _, _, _, _, _, _, _, _, _, _, _, _, _, _, _, _, _, _, _, _, _, _, _, _, _, _, _, _, _, _, _, _, _, _]) rfl ?_
    refine OW_no rfl ?_
    refine OW_pick rfl rfl rfl ?_
    refine OW_pick rfl rfl rfl ?_
    refine OW_env (e' := [_, _, _, _, _, _, _, _, _, _, _, _, _, _, _, _, _, _, _, _, _, _, _, _, _, _, _, _, _, _, _, _, _, _, _, _, _, _, _, _, _, _, _, _, _, _, _, _, _, _, _, _, _, _, _, _, _, _, _, _, _, _, _, _, _, _, _, _, _, _, _]) rfl ?_
    refine OW_as rfl rfl ?_
    refine OW_nilE (e' := [_, _, _, _, _, _, _, _, _, _, _, _, _, _, _, _, _, _, _, _, _, _, _, _, _, _, _, _, _, _, _, _, _, _, _, _, _, _, _, _, _, _, _, _, _, _, _, _, _, _, _, _, _, _, _, _, _, _, _, _, _, _, _, _, _, _, _, _, _, _, _]) rfl ?_
    refine XW_ret ?_
    -- outcome 1
    refine ret_ret (res1 rfl (rv_tmp rfl)) (frz1 (Q := Q) (by first | exact freeze_plain rfl | exact Ls.freeze (by assumption) | exact Ls.freeze Ls.of | exact Ls.freeze Ls.emp | exact Ls.freeze Ls.nls) ?_)
    first
    | exact hq
    | (refine qcast hq ?_; rfl)
    | (refine qcast hq ?_; simp; done)
    | (refine qcast hq ?_; simp; omega)
    | (refine qcast hq ?_; simp_all; done)
  · try simp only [decide_eq_true_eq, decide_eq_false_iff_not, Bool.not_eq_true', Bool.not_eq_false', Bool.and_eq_true, Bool.or_eq_true, Bool.not_eq_true, Bool.not_eq_false, Decidable.not_not, bne_iff_ne, beq_iff_eq, List.length_append, List.length_cons, List.length_nil, List.length_drop, List.length_take] at g4_38
    refine OW_env (e' := [_, _, _, _, _, _, _, _, _, _, _, _, _, _, _, _, _, _, _, _, _, _, _, _, _, _, _, _, _, _, _, _, _, _, _, _, _, _, _, _, _, _, _, _, _, _, _, _, _, _, _, _, _, _, _, _, _, _, _, _, _, _, _, _, _, _, _, _, _, _, _]) rfl ?_
    refine OW_loadR hS7 (k := 2) rfl rfl rfl rfl rfl (by first | exact part_whole rfl rfl rfl | rfl) ?_
    refine OW_fn rfl rfl (packW (by assumption) ?_) 
    refine OW_mv rfl rfl ?_
    refine OW_env (e' := [_, _, _, _, _, _, _, _, _, _, _, _, _, _, _, _, _, _, _, _, _, _, _, _, _, _, _, _, _, _, _, _, _, _, _, _, _, _, _, _, _, _, _, _, _, _, _, _, _, _, _, _, _, _, _, _, _, _, _, _, _, _, _, _, _, _, _, _, _, _, _]) rfl ?_
    refine OW_bin rfl rfl rfl rfl (eqS (resK_once (by simpa using g4_38))) ?_
    refine OW_pick rfl rfl rfl ?_
    refine OW_pick rfl rfl rfl ?_
    refine OW_env (e' := [_, _, _, _, _, _, _, _, _, _, _, _, _, _, _, _, _, _, _, _, _, _, _, _, _, _, _, _, _, _, _, _, _, _, _, _, _, _, _, _, _, _, _, _, _, _, _, _, _, _, _, _, _, _, _, _, _, _, _, _, _, _, _, _, _, _, _, _, _, _, _]) rfl ?_
    refine OW_as rfl rfl ?_
    refine OW_nilE (e' := [_, _, _, _, _, _, _, _, _, _, _, _, _, _, _, _, _, _, _, _, _, _, _, _, _, _, _, _, _, _, _, _, _, _, _, _, _, _, _, _, _, _, _, _, _, _, _, _, _, _, _, _, _, _, _, _, _, _, _, _, _, _, _, _, _, _, _, _, _, _, _]) rfl ?_
    refine XW_ret ?_
    -- outcome 2
    refine ret_ret (res1 rfl (rv_tmp rfl)) (frz1 (Q := Q) (by first | exact freeze_plain rfl | exact Ls.freeze (by assumption) | exact Ls.freeze Ls.of | exact Ls.freeze Ls.emp | exact Ls.freeze Ls.nls) ?_)
    first
    | exact hq
    | (refine qcast hq ?_; rfl)
    | (refine qcast hq ?_; simp; done)
    | (refine qcast hq ?_; simp; omega)
    | (refine qcast hq ?_; simp_all; done)
end Go.Proofs.Ytoljfmghcfdbpaa.X
