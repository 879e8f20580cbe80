/- Layer 05: the laws, reckoned. -/
import Derived.Test.YtcihdjdcmahacaaSL1
import Derived.Test.YtcihdjdcmahacaaI
set_option linter.unusedVariables false
set_option linter.unusedSimpArgs false
set_option maxRecDepth 100000
namespace Go.Proofs.Ytcihdjdcmahacaa.X
open Go Go.RowKit WM
variable {ν β ps pos' : Nm} {H : Heap} {Q : AVal → Heap → Prop} {L : List Asr} {q : Nm} {k : Nat} {S T : Rf}
structure Cs where
  d : List Int
  key : Int
  vol : Int
  sec : Int
  ver : Int
  ep : Int
  plain : ByteArray
def Cs.enc (x : Cs) : AVal := .agg [.lst (x.d.map (fun a : Int => AVal.int .u64 a)), .int .u64 x.key, .int .u64 x.vol, .int .u64 x.sec, .int .u64 x.ver, .int .u64 x.ep, .str x.plain]
structure Cs.good (x : Cs) : Prop where
  d : x.d.length ≤ 1048576
  vol : U64 x.vol
  sec : U64 x.sec
  ver : U64 x.ver
  ep : U64 x.ep
theorem eqI {T : TT} {t : TypeId} {a b : Int} (h : a = b) : aBin T .eql t (.int .i64 a) (.int .i64 b) = some (.bool true) := by simp [aBin, aIntB, aInt, h]
theorem eqB {a b : Bool} (h : a = b) : aBin cfg.T .eql 4 (.bool a) (.bool b) = some (.bool true) := by subst h; cases a <;> rfl
theorem eqS {T : TT} {t : TypeId} {a b : ByteArray} (h : a = b) : aBin T .eql t (.str a) (.str b) = some (.bool true) := by subst h; simp [aBin, aStr]
theorem eqLf (x y : Lf) : aBin cfg.T .eql 24 x.enc y.enc = some (.bool (decide (x = y))) := by
  have e : aBin cfg.T .eql 24 x.enc y.enc = some (.bool (decide (x.v = y.v) && (decide (x.e = y.e) && (decide (x.n = y.n) && (decide (x.c = y.c) && true))))) := rfl
  rw [e]
  obtain ⟨a1, a2, a3, a4⟩ := x; obtain ⟨b1, b2, b3, b4⟩ := y
  by_cases h1 : a1 = b1 <;> by_cases h2 : a2 = b2 <;> by_cases h3 : a3 = b3 <;> by_cases h4 : a4 = b4 <;> simp [h1, h2, h3, h4]
theorem eqLfT {x y : Lf} (h : x = y) : aBin cfg.T .eql 24 x.enc y.enc = some (.bool true) := by rw [eqLf, decide_eq_true h]
theorem fixedW (h : acall cfg (aexec cfg 60) ν 12 [] H = some (.bool true, H)) (hq : Q (.bool true) H) : CW cfg ν 12 [] H Q := ⟨60, _, _, h, hq⟩
namespace Rf
theorem lock_up (key vol sec ver ep : Int) (p : ByteArray) : S.Up (S.lock key vol sec ver ep p).2 := fresh_up.trans (value_up _)
theorem lock_row (key vol sec ver ep : Int) (p : ByteArray) : ⟨3, key, (S.lock key vol sec ver ep p).1.n, adB vol sec ver ep, p, (S.lock key vol sec ver ep p).1.c⟩ ∈ (S.lock key vol sec ver ep p).2.rows := seal_row rfl
theorem lock_nonce (key vol sec ver ep : Int) (p : ByteArray) : ⟨0, 0, 0, ⟨#[]⟩, ⟨#[]⟩, (S.lock key vol sec ver ep p).1.n⟩ ∈ (S.lock key vol sec ver ep p).2.rows := (value_up _).sub _ fresh_row
theorem lock_rows (key vol sec ver ep : Int) (p : ByteArray) : (S.lock key vol sec ver ep p).2.rows.length ≤ S.rows.length + 2 := by
  have h1 : (S.fresh.sealv key S.next (adB vol sec ver ep) p).2.rows.length ≤ S.fresh.rows.length + 1 := value_rows _
  rw [fresh_len] at h1
  exact h1
theorem lock_new (key vol sec ver ep : Int) (p : ByteArray) (hb : (S.lock key vol sec ver ep p).2.bads = 0) : ∀ x ∈ S.rows, x.h ≠ (S.lock key vol sec ver ep p).1.n := by
  have h1 : S.fresh.bads ≤ (S.lock key vol sec ver ep p).2.bads := (value_up _).bads
  have h2 : S.fresh.bads = S.bads + if S.isBad S.next then 1 else 0 := rfl
  intro x hx e
  have : S.isBad S.next = true := by
    unfold isBad
    rw [show S.issued S.next = true from issued_iff.2 ⟨x, hx, e⟩]; simp
  rw [this, if_pos rfl] at h2
  omega
theorem value_only {x y : Rw} (h : y ∈ (S.value x).2.rows) : y ∈ S.rows ∨ y = ⟨x.t, x.k, x.n, x.a, x.b, (S.value x).1⟩ := by
  unfold value at h ⊢
  split at h
  · exact .inl h
  · simp only [draw, List.mem_append, List.mem_singleton] at h
    exact h
theorem lock_only {key vol sec ver ep : Int} {p : ByteArray} {y : Rw} (h : y ∈ (S.lock key vol sec ver ep p).2.rows) (h3 : y.t = 3) : y ∈ S.rows ∨ y = ⟨3, key, (S.lock key vol sec ver ep p).1.n, adB vol sec ver ep, p, (S.lock key vol sec ver ep p).1.c⟩ := by
  rcases value_only (S := S.fresh) h with h | h
  · simp only [fresh, draw, List.mem_append, List.mem_singleton] at h
    rcases h with h | h
    · exact .inl h
    · subst h; simp at h3
  · exact .inr h
end Rf
def Cs.s0 (x : Cs) : Rf := (Rf.new x.d).fresh
def Cs.lk (x : Cs) : Lf × Rf := x.s0.lock x.key x.vol x.sec x.ver x.ep x.plain
theorem Cs.s0_inv (x : Cs) : x.s0.Inv := Rf.fresh_inv (Rf.new_inv _)
theorem Cs.inv (x : Cs) : x.lk.2.Inv := (Rf.lock_up _ _ _ _ _ _).inv x.s0_inv
theorem Cs.rows (x : Cs) : x.lk.2.rows.length ≤ 3 := by
  have h1 := Rf.lock_rows (S := x.s0) x.key x.vol x.sec x.ver x.ep x.plain
  have h2 : x.s0.rows.length = 1 := rfl
  have h3 : x.lk.2 = (x.s0.lock x.key x.vol x.sec x.ver x.ep x.plain).2 := rfl
  rw [h3]; omega
theorem Cs.row (x : Cs) : ⟨3, x.key, x.lk.1.n, adB x.vol x.sec x.ver x.ep, x.plain, x.lk.1.c⟩ ∈ x.lk.2.rows := Rf.lock_row _ _ _ _ _ _
theorem Cs.nonce (x : Cs) : ⟨0, 0, 0, ⟨#[]⟩, ⟨#[]⟩, x.lk.1.n⟩ ∈ x.lk.2.rows := Rf.lock_nonce _ _ _ _ _ _
theorem Cs.only (x : Cs) {y : Rw} (h : y ∈ x.lk.2.rows) (h3 : y.t = 3) : y = ⟨3, x.key, x.lk.1.n, adB x.vol x.sec x.ver x.ep, x.plain, x.lk.1.c⟩ := by
  rcases Rf.lock_only (S := x.s0) h h3 with h | h
  · have : y ∈ [(⟨0, 0, 0, ⟨#[]⟩, ⟨#[]⟩, (Rf.new x.d).next⟩ : Rw)] := h
    simp at this; subst this; simp at h3
  · exact h
theorem Cs.fit {x : Cs} : x.lk.1.v = x.ver ∧ x.lk.1.e = x.ep := ⟨rfl, rfl⟩
theorem mk_fit {l : Lf} {a b : Int} (ha : U64 a) (hb : U64 b) (h : l.v = a ∧ l.e = b) (h2 : U64 l.v ∧ U64 l.e) : U64 a ∧ U64 b ∧ U64 l.v ∧ U64 l.e := ⟨ha, hb, h2⟩
theorem lockedW (x : Cs) (hx : x.good) (hS : Own β ps H L) (hle : le ps ν) (hβ : under β ν = true) (hp : before ν pos')
    (hq : ∀ q H1, Own β pos' H1 (orc q x.lk.2.of :: L) → Q (.tup [.ptr q 0 0, x.lk.1.enc]) H1) : CW cfg ν 14 [x.enc] H Q := by
  refine CW_keep g14 F14 rfl ?_
  replace hS := Own.mono hS hle
  refine XW_sr ?_
  refine OW_boxR hS (le_app (p := ν) (b := [0, 0])) (under_app [0, 0] hβ) rfl rfl rfl ⟨rfl, rfl⟩ fun H1 hS1 => ?_
  replace hS1 : Own _ _ _ (_ :: L) := hS1
  refine OW_as rfl rfl ?_
  refine OW_allocR hS1 (le_lit (ν := ν) (a := [1, 0]) (b := [2, 0]) (by decide)) (under_app [2, 0] hβ) rfl rfl rfl rfl fun H2 hS2 => ?_
  replace hS2 : Own _ _ _ (_ :: _ :: L) := hS2
  refine OW_nilE (e' := [_, _, _, _, _, _, _, _, _, _, _, _, _, _, _, _, _, _, _, _, _, _, _, _, _]) rfl ?_
  refine XW_sr ?_
  refine OW_fa rfl rfl rfl ?_
  refine OW_loadR hS2 (k := 1) rfl rfl rfl rfl rfl (by first | exact part_whole rfl rfl rfl | rfl) ?_
  refine OW_fn rfl rfl (oNew hS2 (le_lit (ν := ν) (a := [3, 0]) (b := [2, 0, 1]) (by decide)) (under_app [2, 0, 1] hβ) (before_lit (ν := ν) (a := [2, 0, 1]) (b := [3, 0, 1]) (by decide)) Ls.of (by have := hx.d; omega) fun q1 H3 hS3 => ?_) 
  replace hS3 : Own _ _ _ (_ :: _ :: _ :: L) := hS3
  refine OW_env (e' := [_, _, _, _, _, _, _, _, _, _, _, _, _, _, _, _, _, _, _, _, _, _, _, _, _]) rfl ?_
  refine OW_as rfl rfl ?_
  refine OW_nilE (e' := [_, _, _, _, _, _, _, _, _, _, _, _, _, _, _, _, _, _, _, _, _, _, _, _, _]) rfl ?_
  refine XW_sr ?_
  refine OW_mv rfl rfl ?_
  refine OW_fn rfl rfl (oFresh hS3 (k := 0) rfl (le_lit (ν := ν) (a := [3, 0, 1]) (b := [1, 0, 1, 1]) (by decide)) (under_app [1, 0, 1, 1] hβ) (before_lit (ν := ν) (a := [1, 0, 1, 1]) (b := [2, 0, 1, 1]) (by decide)) (by show 0 ≤ _; omega) fun H4 hS4 => ?_) 
  replace hS4 : Own _ _ _ (_ :: _ :: _ :: L) := hS4
  refine OW_nilE (e' := [_, _, _, _, _, _, _, _, _, _, _, _, _, _, _, _, _, _, _, _, _, _, _, _, _]) rfl ?_
  refine XW_sr ?_
  refine OW_mv rfl rfl ?_
  refine OW_mv rfl rfl ?_
  refine OW_fa rfl rfl rfl ?_
  refine OW_env (e' := [_, _, _, _, _, _, _, _, _, _, _, _, _, _, _, _, _, _, _, _, _, _, _, _, _]) rfl ?_
  refine OW_loadR hS4 (k := 2) rfl rfl rfl rfl rfl (by first | exact part_whole rfl rfl rfl | rfl) ?_
  refine OW_fa rfl rfl rfl ?_
  refine OW_loadR hS4 (k := 2) rfl rfl rfl rfl rfl (by first | exact part_whole rfl rfl rfl | rfl) ?_
  refine OW_env (e' := [_, _, _, _, _, _, _, _, _, _, _, _, _, _, _, _, _, _, _, _, _, _, _, _, _]) rfl ?_
  refine OW_fa rfl rfl rfl ?_
  refine OW_loadR hS4 (k := 2) rfl rfl rfl rfl rfl (by first | exact part_whole rfl rfl rfl | rfl) ?_
  refine OW_fa rfl rfl rfl ?_
  refine OW_env (e' := [_, _, _, _, _, _, _, _, _, _, _, _, _, _, _, _, _, _, _, _, _, _, _, _, _]) rfl ?_
  refine OW_loadR hS4 (k := 2) rfl rfl rfl rfl rfl (by first | exact part_whole rfl rfl rfl | rfl) ?_
  refine OW_fa rfl rfl rfl ?_
  refine OW_loadR hS4 (k := 2) rfl rfl rfl rfl rfl (by first | exact part_whole rfl rfl rfl | rfl) ?_
  refine OW_env (e' := [_, _, _, _, _, _, _, _, _, _, _, _, _, _, _, _, _, _, _, _, _, _, _, _, _]) rfl ?_
  refine OW_fa rfl rfl rfl ?_
  refine OW_loadR hS4 (k := 2) rfl rfl rfl rfl rfl (by first | exact part_whole rfl rfl rfl | rfl) ?_
  refine OW_fn rfl rfl (lockW hS4 (k := 0) rfl (le_lit (ν := ν) (a := [2, 0, 1, 1]) (b := [14, 0, 1, 1, 1]) (by decide)) (under_app [14, 0, 1, 1, 1] hβ) (before_lit (ν := ν) (a := [14, 0, 1, 1, 1]) (b := [15, 0, 1, 1, 1]) (by decide)) (by show 1 ≤ _; omega) _ _ _ _ _ _ ⟨hx.vol, hx.sec, hx.ver, hx.ep⟩ fun H5 hS5 => ?_) 
  replace hS5 : Own _ _ _ (_ :: _ :: _ :: L) := hS5
  refine OW_env (e' := [_, _, _, _, _, _, _, _, _, _, _, _, _, _, _, _, _, _, _, _, _, _, _, _, _]) rfl ?_
  refine OW_as rfl rfl ?_
  first
  | refine OW_storeR hS5 (k := 1) rfl (le_lit (ν := ν) (a := [15, 0, 1, 1, 1]) (b := [16, 0, 1, 1, 1]) (by decide)) rfl rfl rfl rfl ⟨rfl, rfl, Nat.le_of_ble_eq_true rfl⟩ (set_whole rfl rfl) fun H6 hS6 => ?_
  | refine OW_storeR hS5 (k := 1) rfl (le_lit (ν := ν) (a := [15, 0, 1, 1, 1]) (b := [16, 0, 1, 1, 1]) (by decide)) rfl rfl rfl rfl ⟨rfl, rfl, Nat.le_of_ble_eq_true rfl⟩ (u2 := .agg [_, _, _, _]) rfl fun H6 hS6 => ?_
  replace hS6 : Own _ _ _ (_ :: _ :: _ :: L) := hS6
  refine OW_nilE (e' := [_, _, _, _, _, _, _, _, _, _, _, _, _, _, _, _, _, _, _, _, _, _, _, _, _]) rfl ?_
  refine XW_ret ?_
  -- outcome 1
  refine ret_ret (res2 rfl (rv_tmp rfl) (rv_cellR hS6 (k := 1) rfl rfl rfl rfl (by first | exact part_whole rfl rfl rfl | rfl))) ?_
  exact hq _ _ (Own.drop (Own.drop (Own.mono hS6 (le_bef (bef_app (a := [17, 0, 1, 1, 1]) hp))) (k := 1) rfl) (k := 1) rfl)
theorem parseBack {l : Lf} (h : l.fit) (hq : Q (.tup [l.enc, .bool true]) H) : CW cfg ν 9 [.str (adB l.v l.e l.n l.c)] H Q := by
  have := adB_size h
  exact parseW (by omega) (by rw [resL_back h]; exact hq)
theorem lawTexts (l : Lf) (s : ByteArray) (hl : l.fit) (hs : s.size ≤ 1048576) (hq : Q (.bool true) H) : CW cfg [] 3 [l.enc, .str s] H Q := by
  have hf := resL_fit s
  refine CW_pure g3 F3 rfl ?_
  have hS0 : Own [] [] (fun _ => none) [] := Own.nil
  refine XW_sr ?_
  refine OW_boxR hS0 (le_app (p := []) (b := [0, 0])) under_nil rfl rfl rfl ⟨rfl, rfl⟩ fun H1 hS1 => ?_
  replace hS1 : Own _ _ _ ([_]) := hS1
  refine OW_as rfl rfl ?_
  refine OW_nilE (e' := [_, _, _, _, _, _, _, _, _, _, _, _, _, _, _, _, _, _, _, _, _, _, _, _, _, _, _, _, _, _, _, _, _, _, _, _, _, _, _, _, _, _, _, _, _, _, _, _, _, _, _, _, _, _, _, _, _, _, _, _, _, _, _]) rfl ?_
  refine XW_sr ?_
  refine OW_mv rfl rfl ?_
  refine OW_fn rfl rfl (parseW (by omega) ?_) 
  refine OW_mv rfl rfl ?_
  refine OW_env (e' := [_, _, _, _, _, _, _, _, _, _, _, _, _, _, _, _, _, _, _, _, _, _, _, _, _, _, _, _, _, _, _, _, _, _, _, _, _, _, _, _, _, _, _, _, _, _, _, _, _, _, _, _, _, _, _, _, _, _, _, _, _, _, _]) rfl ?_
  refine OW_ex rfl rfl rfl ?_
  refine OW_ex rfl rfl rfl ?_
  refine OW_allocR hS1 (le_lit (ν := []) (a := [1, 0]) (b := [5, 0, 1]) (by decide)) under_nil rfl rfl rfl rfl fun H2 hS2 => ?_
  replace hS2 : Own _ _ _ ([_, _]) := hS2
  refine OW_env (e' := [_, _, _, _, _, _, _, _, _, _, _, _, _, _, _, _, _, _, _, _, _, _, _, _, _, _, _, _, _, _, _, _, _, _, _, _, _, _, _, _, _, _, _, _, _, _, _, _, _, _, _, _, _, _, _, _, _, _, _, _, _, _, _]) rfl ?_
  first
  | refine OW_storeR hS2 (k := 0) rfl le_refl rfl rfl rfl rfl ⟨rfl, rfl, Nat.le_of_ble_eq_true rfl⟩ (set_whole rfl rfl) fun H3 hS3 => ?_
  | refine OW_storeR hS2 (k := 0) rfl le_refl rfl rfl rfl rfl ⟨rfl, rfl, Nat.le_of_ble_eq_true rfl⟩ (u2 := .agg [_, _, _, _]) rfl fun H3 hS3 => ?_
  replace hS3 : Own _ _ _ ([_, _]) := hS3
  refine OW_as rfl rfl ?_
  refine OW_nilE (e' := [_, _, _, _, _, _, _, _, _, _, _, _, _, _, _, _, _, _, _, _, _, _, _, _, _, _, _, _, _, _, _, _, _, _, _, _, _, _, _, _, _, _, _, _, _, _, _, _, _, _, _, _, _, _, _, _, _, _, _, _, _, _, _]) rfl ?_
  refine XW_sr ?_
  refine OW_mv rfl rfl ?_
  refine OW_fn rfl rfl (rparseW (by omega) ?_) 
  refine OW_mv rfl rfl ?_
  refine OW_env (e' := [_, _, _, _, _, _, _, _, _, _, _, _, _, _, _, _, _, _, _, _, _, _, _, _, _, _, _, _, _, _, _, _, _, _, _, _, _, _, _, _, _, _, _, _, _, _, _, _, _, _, _, _, _, _, _, _, _, _, _, _, _, _, _]) rfl ?_
  refine OW_ex rfl rfl rfl ?_
  refine OW_ex rfl rfl rfl ?_
  refine OW_allocR hS3 (le_lit (ν := []) (a := [7, 0, 1]) (b := [5, 0, 1, 1]) (by decide)) under_nil rfl rfl rfl rfl fun H4 hS4 => ?_
  replace hS4 : Own _ _ _ ([_, _, _]) := hS4
  refine OW_env (e' := [_, _, _, _, _, _, _, _, _, _, _, _, _, _, _, _, _, _, _, _, _, _, _, _, _, _, _, _, _, _, _, _, _, _, _, _, _, _, _, _, _, _, _, _, _, _, _, _, _, _, _, _, _, _, _, _, _, _, _, _, _, _, _]) rfl ?_
  first
  | refine OW_storeR hS4 (k := 0) rfl le_refl rfl rfl rfl rfl ⟨rfl, rfl, Nat.le_of_ble_eq_true rfl⟩ (set_whole rfl rfl) fun H5 hS5 => ?_
  | refine OW_storeR hS4 (k := 0) rfl le_refl rfl rfl rfl rfl ⟨rfl, rfl, Nat.le_of_ble_eq_true rfl⟩ (u2 := .agg [_, _, _, _]) rfl fun H5 hS5 => ?_
  replace hS5 : Own _ _ _ ([_, _, _]) := hS5
  refine OW_as rfl rfl ?_
  refine OW_nilE (e' := [_, _, _, _, _, _, _, _, _, _, _, _, _, _, _, _, _, _, _, _, _, _, _, _, _, _, _, _, _, _, _, _, _, _, _, _, _, _, _, _, _, _, _, _, _, _, _, _, _, _, _, _, _, _, _, _, _, _, _, _, _, _, _]) rfl ?_
  refine XW_sr ?_
  refine OW_loadR hS5 (k := 2) rfl rfl rfl rfl rfl (by first | exact part_whole rfl rfl rfl | rfl) ?_
  refine OW_fn rfl rfl (textW (by assumption) ?_) 
  refine OW_fn rfl rfl (parseBack hl ?_) 
  refine OW_env (e' := [_, _, _, _, _, _, _, _, _, _, _, _, _, _, _, _, _, _, _, _, _, _, _, _, _, _, _, _, _, _, _, _, _, _, _, _, _, _, _, _, _, _, _, _, _, _, _, _, _, _, _, _, _, _, _, _, _, _, _, _, _, _, _]) rfl ?_
  refine OW_mv rfl rfl ?_
  refine OW_ex rfl rfl rfl ?_
  refine OW_ex rfl rfl rfl ?_
  refine OW_env (e' := [_, _, _, _, _, _, _, _, _, _, _, _, _, _, _, _, _, _, _, _, _, _, _, _, _, _, _, _, _, _, _, _, _, _, _, _, _, _, _, _, _, _, _, _, _, _, _, _, _, _, _, _, _, _, _, _, _, _, _, _, _, _, _]) rfl ?_
  refine OW_allocR hS5 (le_lit (ν := []) (a := [7, 0, 1, 1]) (b := [6, 0, 1, 1, 1]) (by decide)) under_nil rfl rfl rfl rfl fun H6 hS6 => ?_
  replace hS6 : Own _ _ _ ([_, _, _, _]) := hS6
  first
  | refine OW_storeR hS6 (k := 0) rfl le_refl rfl rfl rfl rfl ⟨rfl, rfl, Nat.le_of_ble_eq_true rfl⟩ (set_whole rfl rfl) fun H7 hS7 => ?_
  | refine OW_storeR hS6 (k := 0) rfl le_refl rfl rfl rfl rfl ⟨rfl, rfl, Nat.le_of_ble_eq_true rfl⟩ (u2 := .agg [_, _, _, _]) rfl fun H7 hS7 => ?_
  replace hS7 : Own _ _ _ ([_, _, _, _]) := hS7
  refine OW_as rfl rfl ?_
  refine OW_nilE (e' := [_, _, _, _, _, _, _, _, _, _, _, _, _, _, _, _, _, _, _, _, _, _, _, _, _, _, _, _, _, _, _, _, _, _, _, _, _, _, _, _, _, _, _, _, _, _, _, _, _, _, _, _, _, _, _, _, _, _, _, _, _, _, _]) rfl ?_
  refine XW_sr ?_
  refine OW_fn rfl rfl (fixedW (by kernel_rfl) ?_) 
  refine OW_mv rfl rfl ?_
  refine OW_loadR hS7 (k := 3) rfl rfl rfl rfl rfl (by first | exact part_whole rfl rfl rfl | rfl) ?_
  refine OW_env (e' := [_, _, _, _, _, _, _, _, _, _, _, _, _, _, _, _, _, _, _, _, _, _, _, _, _, _, _, _, _, _, _, _, _, _, _, _, _, _, _, _, _, _, _, _, _, _, _, _, _, _, _, _, _, _, _, _, _, _, _, _, _, _, _]) rfl ?_
  refine OW_fn rfl rfl (textW (by assumption) ?_) 
  refine OW_loadR hS7 (k := 3) rfl rfl rfl rfl rfl (by first | exact part_whole rfl rfl rfl | rfl) ?_
  refine OW_fn rfl rfl (rtextW (by assumption) ?_) 
  refine OW_env (e' := [_, _, _, _, _, _, _, _, _, _, _, _, _, _, _, _, _, _, _, _, _, _, _, _, _, _, _, _, _, _, _, _, _, _, _, _, _, _, _, _, _, _, _, _, _, _, _, _, _, _, _, _, _, _, _, _, _, _, _, _, _, _, _]) rfl ?_
  refine OW_bin rfl rfl rfl rfl (eqS rfl) ?_
  refine OW_pick rfl rfl rfl ?_
  refine OW_mv rfl rfl ?_
  refine OW_env (e' := [_, _, _, _, _, _, _, _, _, _, _, _, _, _, _, _, _, _, _, _, _, _, _, _, _, _, _, _, _, _, _, _, _, _, _, _, _, _, _, _, _, _, _, _, _, _, _, _, _, _, _, _, _, _, _, _, _, _, _, _, _, _, _]) rfl ?_
  refine OW_loadR hS7 (k := 2) rfl rfl rfl rfl rfl (by first | exact part_whole rfl rfl rfl | rfl) ?_
  refine OW_loadR hS7 (k := 1) rfl rfl rfl rfl rfl (by first | exact part_whole rfl rfl rfl | rfl) ?_
  refine OW_bin rfl rfl rfl rfl (eqLfT rfl) ?_
  refine OW_env (e' := [_, _, _, _, _, _, _, _, _, _, _, _, _, _, _, _, _, _, _, _, _, _, _, _, _, _, _, _, _, _, _, _, _, _, _, _, _, _, _, _, _, _, _, _, _, _, _, _, _, _, _, _, _, _, _, _, _, _, _, _, _, _, _]) rfl ?_
  refine OW_pick rfl rfl rfl ?_
  refine OW_mv rfl rfl ?_
  refine OW_mv rfl rfl ?_
  refine OW_env (e' := [_, _, _, _, _, _, _, _, _, _, _, _, _, _, _, _, _, _, _, _, _, _, _, _, _, _, _, _, _, _, _, _, _, _, _, _, _, _, _, _, _, _, _, _, _, _, _, _, _, _, _, _, _, _, _, _, _, _, _, _, _, _, _]) rfl ?_
  refine OW_mv rfl rfl ?_
  refine OW_bin rfl rfl rfl rfl (eqB rfl) ?_
  refine OW_pick rfl rfl rfl ?_
  refine OW_env (e' := [_, _, _, _, _, _, _, _, _, _, _, _, _, _, _, _, _, _, _, _, _, _, _, _, _, _, _, _, _, _, _, _, _, _, _, _, _, _, _, _, _, _, _, _, _, _, _, _, _, _, _, _, _, _, _, _, _, _, _, _, _, _, _]) rfl ?_
  refine OW_mv rfl rfl ?_
  refine OW_mv rfl rfl ?_
  refine OW_pick rfl rfl rfl ?_
  refine OW_env (e' := [_, _, _, _, _, _, _, _, _, _, _, _, _, _, _, _, _, _, _, _, _, _, _, _, _, _, _, _, _, _, _, _, _, _, _, _, _, _, _, _, _, _, _, _, _, _, _, _, _, _, _, _, _, _, _, _, _, _, _, _, _, _, _]) rfl ?_
  refine OW_mv rfl rfl ?_
  refine OW_loadR hS7 (k := 0) rfl rfl rfl rfl rfl (by first | exact part_whole rfl rfl rfl | rfl) ?_
  refine OW_loadR hS7 (k := 3) rfl rfl rfl rfl rfl (by first | exact part_whole rfl rfl rfl | rfl) ?_
  refine OW_env (e' := [_, _, _, _, _, _, _, _, _, _, _, _, _, _, _, _, _, _, _, _, _, _, _, _, _, _, _, _, _, _, _, _, _, _, _, _, _, _, _, _, _, _, _, _, _, _, _, _, _, _, _, _, _, _, _, _, _, _, _, _, _, _, _]) rfl ?_
  refine OW_bin rfl rfl rfl rfl (eqLfT rfl) ?_
  refine OW_pick rfl rfl rfl ?_
  refine OW_mv rfl rfl ?_
  refine OW_env (e' := [_, _, _, _, _, _, _, _, _, _, _, _, _, _, _, _, _, _, _, _, _, _, _, _, _, _, _, _, _, _, _, _, _, _, _, _, _, _, _, _, _, _, _, _, _, _, _, _, _, _, _, _, _, _, _, _, _, _, _, _, _, _, _]) rfl ?_
  refine OW_mv rfl rfl ?_
  refine OW_un rfl rfl rfl ?_
  refine OW_mv rfl rfl ?_
  refine OW_env (e' := [_, _, _, _, _, _, _, _, _, _, _, _, _, _, _, _, _, _, _, _, _, _, _, _, _, _, _, _, _, _, _, _, _, _, _, _, _, _, _, _, _, _, _, _, _, _, _, _, _, _, _, _, _, _, _, _, _, _, _, _, _, _, _]) rfl ?_
  refine OW_split (tt := 56) rfl (fun g4_30 => ?_) (fun g4_30 => ?_)
  · try simp only [decide_eq_true_eq, decide_eq_false_iff_not, Bool.not_eq_true', Bool.not_eq_false', Bool.and_eq_true, Bool.or_eq_true, Bool.not_eq_true, Bool.not_eq_false, Decidable.not_not, bne_iff_ne, beq_iff_eq, List.length_append, List.length_cons, List.length_nil, List.length_drop, List.length_take] at g4_30
    refine OW_no rfl ?_
    refine OW_no rfl ?_
    refine OW_env (e' := [_, _, _, _, _, _, _, _, _, _, _, _, _, _, _, _, _, _, _, _, _, _, _, _, _, _, _, _, _, _, _, _, _, _, _, _, _, _, _, _, _, _, _, _, _, _, _, _, _, _, _, _, _, _, _, _, _, _, _, _, _, _, _]) rfl ?_
    refine OW_no rfl ?_
    refine OW_no rfl ?_
    refine OW_pick rfl rfl rfl ?_
    refine OW_env (e' := [_, _, _, _, _, _, _, _, _, _, _, _, _, _, _, _, _, _, _, _, _, _, _, _, _, _, _, _, _, _, _, _, _, _, _, _, _, _, _, _, _, _, _, _, _, _, _, _, _, _, _, _, _, _, _, _, _, _, _, _, _, _, _]) rfl ?_
    refine OW_pick rfl rfl rfl ?_
    refine OW_as rfl rfl ?_
    refine OW_nilE (e' := [_, _, _, _, _, _, _, _, _, _, _, _, _, _, _, _, _, _, _, _, _, _, _, _, _, _, _, _, _, _, _, _, _, _, _, _, _, _, _, _, _, _, _, _, _, _, _, _, _, _, _, _, _, _, _, _, _, _, _, _, _, _, _]) rfl ?_
    refine XW_ret ?_
    -- outcome 1
    refine ret_ret (res1 rfl (rv_tmp rfl)) (frz1 (Q := Q) (by first | exact freeze_plain rfl | exact Ls.freeze (by assumption) | exact Ls.freeze Ls.of | exact Ls.freeze Ls.emp | exact Ls.freeze Ls.nls) ?_)
    first
    | exact hq
    | (refine qcast hq ?_; rfl)
    | (refine qcast hq ?_; simp; done)
    | (refine qcast hq ?_; simp; omega)
    | (refine qcast hq ?_; simp_all; done)
  · try simp only [decide_eq_true_eq, decide_eq_false_iff_not, Bool.not_eq_true', Bool.not_eq_false', Bool.and_eq_true, Bool.or_eq_true, Bool.not_eq_true, Bool.not_eq_false, Decidable.not_not, bne_iff_ne, beq_iff_eq, List.length_append, List.length_cons, List.length_nil, List.length_drop, List.length_take] at g4_30
    refine OW_loadR hS7 (k := 2) rfl rfl rfl rfl rfl (by first | exact part_whole rfl rfl rfl | rfl) ?_
    refine OW_fn rfl rfl (textW (by assumption) ?_) 
    refine OW_env (e' := [_, _, _, _, _, _, _, _, _, _, _, _, _, _, _, _, _, _, _, _, _, _, _, _, _, _, _, _, _, _, _, _, _, _, _, _, _, _, _, _, _, _, _, _, _, _, _, _, _, _, _, _, _, _, _, _, _, _, _, _, _, _, _]) rfl ?_
    refine OW_mv rfl rfl ?_
    refine OW_bin rfl rfl rfl rfl (eqS (resL_once (by simpa using g4_30))) ?_
    refine OW_pick rfl rfl rfl ?_
    refine OW_env (e' := [_, _, _, _, _, _, _, _, _, _, _, _, _, _, _, _, _, _, _, _, _, _, _, _, _, _, _, _, _, _, _, _, _, _, _, _, _, _, _, _, _, _, _, _, _, _, _, _, _, _, _, _, _, _, _, _, _, _, _, _, _, _, _]) rfl ?_
    refine OW_pick rfl rfl rfl ?_
    refine OW_as rfl rfl ?_
    refine OW_nilE (e' := [_, _, _, _, _, _, _, _, _, _, _, _, _, _, _, _, _, _, _, _, _, _, _, _, _, _, _, _, _, _, _, _, _, _, _, _, _, _, _, _, _, _, _, _, _, _, _, _, _, _, _, _, _, _, _, _, _, _, _, _, _, _, _]) rfl ?_
    refine XW_ret ?_
    -- outcome 2
    refine ret_ret (res1 rfl (rv_tmp rfl)) (frz1 (Q := Q) (by first | exact freeze_plain rfl | exact Ls.freeze (by assumption) | exact Ls.freeze Ls.of | exact Ls.freeze Ls.emp | exact Ls.freeze Ls.nls) ?_)
    first
    | exact hq
    | (refine qcast hq ?_; rfl)
    | (refine qcast hq ?_; simp; done)
    | (refine qcast hq ?_; simp; omega)
    | (refine qcast hq ?_; simp_all; done)
end Go.Proofs.Ytcihdjdcmahacaa.X
