/- Layer 07: issuing and checking, walked. -/
import Derived.Test.YtoljfmghcfdbpaaTK1
set_option linter.unusedVariables false
set_option linter.unusedSimpArgs false
set_option maxRecDepth 100000
namespace Go.Proofs.Ytoljfmghcfdbpaa.X
open Go Go.RowKit WM
variable {ν β ps pos' : Nm} {H : Heap} {Q : AVal → Heap → Prop} {L : List Asr} {q : Nm} {k : Nat} {S T : Rf}
def andN (w r : Int) : Int := IntKind.u64.wrap (((BitVec.ofInt 64 w &&& ~~~ BitVec.ofInt 64 r).toNat : Nat) : Int)
namespace Rf
def issue (S : Rf) (key : Int) (t : Tk) : Tk × Rf := (⟨t.tn, t.vo, t.ep, t.ri, (S.mac key (tkB t)).1⟩, (S.mac key (tkB t)).2)
def ans (b : Bool) (t : Tk) (vol ep want : Int) : Int := if b = false then 70 else if t.vo ≠ vol then 71 else if t.ep < ep then 72 else if andN want t.ri ≠ 0 then 73 else 0
def check (S : Rf) (key : Int) (t : Tk) (vol ep want : Int) : Int × Rf := (ans (S.verify key (tkB t) t.tag).1 t vol ep want, (S.verify key (tkB t) t.tag).2)
def issues (S : Rf) (key : Int) : List Tk → List Tk × Rf
  | [] => ([], S)
  | t :: l => ((S.issue key t).1 :: ((S.issue key t).2.issues key l).1, ((S.issue key t).2.issues key l).2)
theorem issues_snoc {key : Int} : ∀ (l : List Tk) (t : Tk) {S : Rf}, S.issues key (l ++ [t]) = ((S.issues key l).1 ++ [((S.issues key l).2.issue key t).1], ((S.issues key l).2.issue key t).2)
  | [], t, _ => rfl
  | a :: l, t, _ => by simp only [List.cons_append, issues]; rw [issues_snoc l t]
theorem issues_step {key : Int} {l : List Tk} {i : Nat} (h : i < l.length) : S.issues key (l.take (i + 1)) = ((S.issues key (l.take i)).1 ++ [((S.issues key (l.take i)).2.issue key l[i]).1], ((S.issues key (l.take i)).2.issue key l[i]).2) := by
  rw [← List.take_append_getElem h, issues_snoc]
theorem issues_rows {key : Int} : ∀ (l : List Tk) {S : Rf}, (S.issues key l).2.rows.length ≤ S.rows.length + l.length
  | [], _ => Nat.le_refl _
  | t :: l, S => by
    have h1 : (S.issue key t).2.rows.length ≤ S.rows.length + 1 := value_rows _
    have h2 := issues_rows (key := key) l (S := (S.issue key t).2)
    simp only [issues, List.length_cons]; omega
theorem issues_up {key : Int} : ∀ (l : List Tk) {S : Rf}, S.Up (S.issues key l).2
  | [], _ => Up.refl
  | t :: l, S => (value_up _ : S.Up (S.issue key t).2).trans (issues_up l)
theorem issues_len {key : Int} : ∀ (l : List Tk) {S : Rf}, (S.issues key l).1.length = l.length
  | [], _ => rfl
  | t :: l, S => by simp only [issues, List.length_cons, issues_len l]
end Rf
theorem issueW (hS : Own β ps H L) (hL : L[k]? = some (orc q S.of)) (hle : le ps ν) (hβ : under β ν = true) (hp : before ν pos') (hn : S.rows.length ≤ 4294960000) (key : Int) (t : Tk) (ht : t.fit)
    (hq : ∀ H1, Own β pos' H1 (L.set k (orc q (S.issue key t).2.of)) → Q (S.issue key t).1.enc H1) : CW cfg ν 29 [.ptr q 0 0, .int .u64 key, .int .u64 t.tn, .int .u64 t.vo, .int .u64 t.ep, .int .u64 t.ri] H Q := by
  replace hS := hS.pick hL
  have ht0 : (⟨t.tn, t.vo, t.ep, t.ri, 0⟩ : Tk).fit := ⟨ht.1, ht.2.1, ht.2.2.1, ht.2.2.2.1, (by decide : U64 0)⟩
  refine CW_keep g29 F29 rfl ?_
  replace hS := Own.mono hS hle
  refine XW_sr ?_
  refine OW_allocR hS (le_app (p := ν) (b := [0, 0])) (under_app [0, 0] hβ) rfl rfl rfl rfl fun H1 hS1 => ?_
  replace hS1 : Own _ _ _ (_ :: _ :: L.eraseIdx k) := hS1
  refine OW_nilE (e' := [_, _, _, _, _, _, _, _, _, _, _, _, _, _, _, _, _, _, _, _, _, _, _, _, _, _]) rfl ?_
  refine XW_sr ?_
  refine OW_mv rfl rfl ?_
  refine OW_mv rfl rfl ?_
  refine OW_mv rfl rfl ?_
  refine OW_env (e' := [_, _, _, _, _, _, _, _, _, _, _, _, _, _, _, _, _, _, _, _, _, _, _, _, _, _]) rfl ?_
  refine OW_mv rfl rfl ?_
  refine OW_bd rfl rfl (v := .agg [_, _, _, _, _]) rfl ?_
  refine OW_allocR hS1 (le_lit (ν := ν) (a := [1, 0]) (b := [5, 0, 1]) (by decide)) (under_app [5, 0, 1] hβ) rfl rfl rfl rfl fun H2 hS2 => ?_
  replace hS2 : Own _ _ _ (_ :: _ :: _ :: L.eraseIdx k) := hS2
  refine OW_env (e' := [_, _, _, _, _, _, _, _, _, _, _, _, _, _, _, _, _, _, _, _, _, _, _, _, _, _]) rfl ?_
  first
  | refine OW_storeR hS2 (k := 0) rfl le_refl rfl rfl rfl rfl ⟨rfl, rfl, Nat.le_of_ble_eq_true rfl⟩ (set_whole rfl rfl) fun H3 hS3 => ?_
  | refine OW_storeR hS2 (k := 0) rfl le_refl rfl rfl rfl rfl ⟨rfl, rfl, Nat.le_of_ble_eq_true rfl⟩ (u2 := .agg [_, _, _, _, _]) rfl fun H3 hS3 => ?_
  replace hS3 : Own _ _ _ (_ :: _ :: _ :: L.eraseIdx k) := hS3
  refine OW_nilE (e' := [_, _, _, _, _, _, _, _, _, _, _, _, _, _, _, _, _, _, _, _, _, _, _, _, _, _]) rfl ?_
  refine XW_sr ?_
  refine OW_mv rfl rfl ?_
  refine OW_mv rfl rfl ?_
  refine OW_loadR hS3 (k := 0) rfl rfl rfl rfl rfl (by first | exact part_whole rfl rfl rfl | rfl) ?_
  refine OW_env (e' := [_, _, _, _, _, _, _, _, _, _, _, _, _, _, _, _, _, _, _, _, _, _, _, _, _, _]) rfl ?_
  refine OW_fn rfl rfl (textW ht0 ?_) 
  refine OW_fn rfl rfl (oMac hS3 (k := 2) rfl (le_lit (ν := ν) (a := [7, 0, 1]) (b := [4, 0, 1, 1]) (by decide)) (under_app [4, 0, 1, 1] hβ) (before_lit (ν := ν) (a := [4, 0, 1, 1]) (b := [5, 0, 1, 1]) (by decide)) (by omega) _ _ fun H4 hS4 => ?_) 
  replace hS4 : Own _ _ _ (_ :: _ :: _ :: L.eraseIdx k) := hS4
  refine OW_fa rfl rfl rfl ?_
  refine OW_env (e' := [_, _, _, _, _, _, _, _, _, _, _, _, _, _, _, _, _, _, _, _, _, _, _, _, _, _]) rfl ?_
  refine OW_storeR hS4 (k := 0) rfl (le_lit (ν := ν) (a := [5, 0, 1, 1]) (b := [6, 0, 1, 1]) (by decide)) rfl rfl rfl rfl ⟨rfl, rfl, Nat.le_of_ble_eq_true rfl⟩ (u2 := .agg [_, _, _, _, _]) rfl fun H5 hS5 => ?_
  replace hS5 : Own _ _ _ (_ :: _ :: _ :: L.eraseIdx k) := hS5
  refine OW_nilE (e' := [_, _, _, _, _, _, _, _, _, _, _, _, _, _, _, _, _, _, _, _, _, _, _, _, _, _]) rfl ?_
  refine XW_sr ?_
  refine OW_loadR hS5 (k := 0) rfl rfl rfl rfl rfl (by first | exact part_whole rfl rfl rfl | rfl) ?_
  first
  | refine OW_storeR hS5 (k := 1) rfl (le_lit (ν := ν) (a := [7, 0, 1, 1]) (b := [1, 0, 1, 1, 1]) (by decide)) rfl rfl rfl rfl ⟨rfl, rfl, Nat.le_of_ble_eq_true rfl⟩ (set_whole rfl rfl) fun H6 hS6 => ?_
  | refine OW_storeR hS5 (k := 1) rfl (le_lit (ν := ν) (a := [7, 0, 1, 1]) (b := [1, 0, 1, 1, 1]) (by decide)) rfl rfl rfl rfl ⟨rfl, rfl, Nat.le_of_ble_eq_true rfl⟩ (u2 := .agg [_, _, _, _, _]) rfl fun H6 hS6 => ?_
  replace hS6 : Own _ _ _ (_ :: _ :: _ :: L.eraseIdx k) := hS6
  refine OW_nilE (e' := [_, _, _, _, _, _, _, _, _, _, _, _, _, _, _, _, _, _, _, _, _, _, _, _, _, _]) rfl ?_
  refine XW_ret ?_
  -- outcome 1
  refine ret_ret (res1 rfl (rv_cellR hS6 (k := 1) rfl rfl rfl rfl (by first | exact part_whole rfl rfl rfl | rfl))) ?_
  exact hq _ (Own.unpick (Own.drop0 (Own.drop0 (Own.mono hS6 (le_bef (bef_app (a := [2, 0, 1, 1, 1]) hp))))) hL)
theorem checkW (hS : Own β ps H L) (hL : L[k]? = some (orc q S.of)) (hle : le ps ν) (hβ : under β ν = true) (hp : before ν pos') (key : Int) (t : Tk) (ht : t.fit) (vol ep want : Int)
    (hq : ∀ H1, Own β pos' H1 (L.set k (orc q (S.check key t vol ep want).2.of)) → Q (.int .i64 (S.check key t vol ep want).1) H1) : CW cfg ν 16 [.ptr q 0 0, .int .u64 key, t.enc, .int .u64 vol, .int .u64 ep, .int .u64 want] H Q := by
  replace hS := hS.pick hL
  refine CW_keep g16 F16 rfl ?_
  replace hS := Own.mono hS hle
  refine XW_sr ?_
  refine OW_boxR hS (le_app (p := ν) (b := [0, 0])) (under_app [0, 0] hβ) rfl rfl rfl ⟨rfl, rfl⟩ fun H1 hS1 => ?_
  replace hS1 : Own _ _ _ (_ :: _ :: L.eraseIdx k) := hS1
  refine OW_as rfl rfl ?_
  refine OW_nilE (e' := [_, _, _, _, _, _, _, _, _, _, _, _, _, _, _, _, _, _, _, _, _, _, _, _, _, _, _, _, _, _, _, _, _, _, _, _, _, _]) rfl ?_
  refine XW_seq ?_
  refine XW_block ?_
  refine XW_sr ?_
  refine OW_mv rfl rfl ?_
  refine OW_mv rfl rfl ?_
  refine OW_loadR hS1 (k := 0) rfl rfl rfl rfl rfl (by first | exact part_whole rfl rfl rfl | rfl) ?_
  refine OW_env (e' := [_, _, _, _, _, _, _, _, _, _, _, _, _, _, _, _, _, _, _, _, _, _, _, _, _, _, _, _, _, _, _, _, _, _, _, _, _, _]) rfl ?_
  refine OW_fn rfl rfl (textW (by assumption) ?_) 
  refine OW_fa rfl rfl rfl ?_
  refine OW_loadR hS1 (k := 0) rfl rfl rfl rfl rfl (by first | exact part_whole rfl rfl rfl | rfl) ?_
  refine OW_env (e' := [_, _, _, _, _, _, _, _, _, _, _, _, _, _, _, _, _, _, _, _, _, _, _, _, _, _, _, _, _, _, _, _, _, _, _, _, _, _]) rfl ?_
  refine OW_fn rfl rfl (oVerify hS1 (k := 1) rfl (le_lit (ν := ν) (a := [1, 0]) (b := [6, 0, 0, 1]) (by decide)) (under_app [6, 0, 0, 1] hβ) (before_lit (ν := ν) (a := [6, 0, 0, 1]) (b := [7, 0, 0, 1]) (by decide)) _ _ _ fun H2 hS2 => ?_) 
  replace hS2 : Own _ _ _ (_ :: _ :: L.eraseIdx k) := hS2
  refine OW_un rfl rfl rfl ?_
  refine OW_as rfl rfl ?_
  refine OW_nilE (e' := [_, _, _, _, _, _, _, _, _, _, _, _, _, _, _, _, _, _, _, _, _, _, _, _, _, _, _, _, _, _, _, _, _, _, _, _, _, _]) rfl ?_
  refine XW_if rfl (fun h1 => ?_) (fun h1 => ?_)
  · try simp only [decide_eq_true_eq, decide_eq_false_iff_not, Bool.not_eq_true', Bool.not_eq_false', Bool.and_eq_true, Bool.or_eq_true, Bool.not_eq_true, Bool.not_eq_false, Decidable.not_not, bne_iff_ne, beq_iff_eq, List.length_append, List.length_cons, List.length_nil, List.length_drop, List.length_take] at h1
    refine XW_sr ?_
    refine OW_as rfl rfl ?_
    refine OW_nilE (e' := [_, _, _, _, _, _, _, _, _, _, _, _, _, _, _, _, _, _, _, _, _, _, _, _, _, _, _, _, _, _, _, _, _, _, _, _, _, _]) rfl ?_
    refine XW_ret ?_
    refine block_ret ?_
    refine then_ret ?_
    -- outcome 1
    refine ret_ret (res1 rfl (rv_tmp rfl)) ?_
    refine qcast (hq _ (Own.unpick (Own.drop0 (Own.mono hS2 (le_bef (bef_app (a := [7, 0, 0, 1]) hp)))) hL)) ?_; simp [Rf.check, Rf.ans, h1]
  · try simp only [decide_eq_true_eq, decide_eq_false_iff_not, Bool.not_eq_true', Bool.not_eq_false', Bool.and_eq_true, Bool.or_eq_true, Bool.not_eq_true, Bool.not_eq_false, Decidable.not_not, bne_iff_ne, beq_iff_eq, List.length_append, List.length_cons, List.length_nil, List.length_drop, List.length_take] at h1
    refine XW_sr ?_
    refine OW_fa rfl rfl rfl ?_
    refine OW_loadR hS2 (k := 0) rfl rfl rfl rfl rfl (by first | exact part_whole rfl rfl rfl | rfl) ?_
    refine OW_mv rfl rfl ?_
    refine OW_env (e' := [_, _, _, _, _, _, _, _, _, _, _, _, _, _, _, _, _, _, _, _, _, _, _, _, _, _, _, _, _, _, _, _, _, _, _, _, _, _]) rfl ?_
    refine OW_bin rfl rfl rfl rfl rfl ?_
    refine OW_as rfl rfl ?_
    refine OW_nilE (e' := [_, _, _, _, _, _, _, _, _, _, _, _, _, _, _, _, _, _, _, _, _, _, _, _, _, _, _, _, _, _, _, _, _, _, _, _, _, _]) rfl ?_
    refine XW_if rfl (fun h3 => ?_) (fun h3 => ?_)
    · try simp only [decide_eq_true_eq, decide_eq_false_iff_not, Bool.not_eq_true', Bool.not_eq_false', Bool.and_eq_true, Bool.or_eq_true, Bool.not_eq_true, Bool.not_eq_false, Decidable.not_not, bne_iff_ne, beq_iff_eq, List.length_append, List.length_cons, List.length_nil, List.length_drop, List.length_take] at h3
      refine XW_sr ?_
      refine OW_as rfl rfl ?_
      refine OW_nilE (e' := [_, _, _, _, _, _, _, _, _, _, _, _, _, _, _, _, _, _, _, _, _, _, _, _, _, _, _, _, _, _, _, _, _, _, _, _, _, _]) rfl ?_
      refine XW_ret ?_
      refine block_ret ?_
      refine then_ret ?_
      -- outcome 2
      refine ret_ret (res1 rfl (rv_tmp rfl)) ?_
      refine qcast (hq _ (Own.unpick (Own.drop0 (Own.mono hS2 (le_bef (bef_app (a := [7, 0, 0, 1]) hp)))) hL)) ?_; simp [Rf.check, Rf.ans, h1, h3]
    · try simp only [decide_eq_true_eq, decide_eq_false_iff_not, Bool.not_eq_true', Bool.not_eq_false', Bool.and_eq_true, Bool.or_eq_true, Bool.not_eq_true, Bool.not_eq_false, Decidable.not_not, bne_iff_ne, beq_iff_eq, List.length_append, List.length_cons, List.length_nil, List.length_drop, List.length_take] at h3
      refine XW_sr ?_
      refine OW_fa rfl rfl rfl ?_
      refine OW_loadR hS2 (k := 0) rfl rfl rfl rfl rfl (by first | exact part_whole rfl rfl rfl | rfl) ?_
      refine OW_mv rfl rfl ?_
      refine OW_env (e' := [_, _, _, _, _, _, _, _, _, _, _, _, _, _, _, _, _, _, _, _, _, _, _, _, _, _, _, _, _, _, _, _, _, _, _, _, _, _]) rfl ?_
      refine OW_bin rfl rfl rfl rfl rfl ?_
      refine OW_as rfl rfl ?_
      refine OW_nilE (e' := [_, _, _, _, _, _, _, _, _, _, _, _, _, _, _, _, _, _, _, _, _, _, _, _, _, _, _, _, _, _, _, _, _, _, _, _, _, _]) rfl ?_
      refine XW_if rfl (fun h5 => ?_) (fun h5 => ?_)
      · try simp only [decide_eq_true_eq, decide_eq_false_iff_not, Bool.not_eq_true', Bool.not_eq_false', Bool.and_eq_true, Bool.or_eq_true, Bool.not_eq_true, Bool.not_eq_false, Decidable.not_not, bne_iff_ne, beq_iff_eq, List.length_append, List.length_cons, List.length_nil, List.length_drop, List.length_take] at h5
        refine XW_sr ?_
        refine OW_as rfl rfl ?_
        refine OW_nilE (e' := [_, _, _, _, _, _, _, _, _, _, _, _, _, _, _, _, _, _, _, _, _, _, _, _, _, _, _, _, _, _, _, _, _, _, _, _, _, _]) rfl ?_
        refine XW_ret ?_
        refine block_ret ?_
        refine then_ret ?_
        -- outcome 3
        refine ret_ret (res1 rfl (rv_tmp rfl)) ?_
        refine qcast (hq _ (Own.unpick (Own.drop0 (Own.mono hS2 (le_bef (bef_app (a := [7, 0, 0, 1]) hp)))) hL)) ?_; simp [Rf.check, Rf.ans, h1, h3, h5]
      · try simp only [decide_eq_true_eq, decide_eq_false_iff_not, Bool.not_eq_true', Bool.not_eq_false', Bool.and_eq_true, Bool.or_eq_true, Bool.not_eq_true, Bool.not_eq_false, Decidable.not_not, bne_iff_ne, beq_iff_eq, List.length_append, List.length_cons, List.length_nil, List.length_drop, List.length_take] at h5
        refine XW_sr ?_
        refine OW_mv rfl rfl ?_
        refine OW_fa rfl rfl rfl ?_
        refine OW_loadR hS2 (k := 0) rfl rfl rfl rfl rfl (by first | exact part_whole rfl rfl rfl | rfl) ?_
        refine OW_env (e' := [_, _, _, _, _, _, _, _, _, _, _, _, _, _, _, _, _, _, _, _, _, _, _, _, _, _, _, _, _, _, _, _, _, _, _, _, _, _]) rfl ?_
        refine OW_bin rfl rfl rfl rfl rfl ?_
        refine OW_bin rfl rfl rfl rfl rfl ?_
        refine OW_as rfl rfl ?_
        refine OW_nilE (e' := [_, _, _, _, _, _, _, _, _, _, _, _, _, _, _, _, _, _, _, _, _, _, _, _, _, _, _, _, _, _, _, _, _, _, _, _, _, _]) rfl ?_
        refine XW_if rfl (fun h7 => ?_) (fun h7 => ?_)
        · try simp only [decide_eq_true_eq, decide_eq_false_iff_not, Bool.not_eq_true', Bool.not_eq_false', Bool.and_eq_true, Bool.or_eq_true, Bool.not_eq_true, Bool.not_eq_false, Decidable.not_not, bne_iff_ne, beq_iff_eq, List.length_append, List.length_cons, List.length_nil, List.length_drop, List.length_take] at h7
          refine XW_sr ?_
          refine OW_as rfl rfl ?_
          refine OW_nilE (e' := [_, _, _, _, _, _, _, _, _, _, _, _, _, _, _, _, _, _, _, _, _, _, _, _, _, _, _, _, _, _, _, _, _, _, _, _, _, _]) rfl ?_
          refine XW_ret ?_
          refine block_ret ?_
          refine then_ret ?_
          -- outcome 4
          refine ret_ret (res1 rfl (rv_tmp rfl)) ?_
          refine qcast (hq _ (Own.unpick (Own.drop0 (Own.mono hS2 (le_bef (bef_app (a := [7, 0, 0, 1]) hp)))) hL)) ?_; replace h7 : andN want t.ri ≠ 0 := h7; simp [Rf.check, Rf.ans, h1, h3, h5, h7]
        · try simp only [decide_eq_true_eq, decide_eq_false_iff_not, Bool.not_eq_true', Bool.not_eq_false', Bool.and_eq_true, Bool.or_eq_true, Bool.not_eq_true, Bool.not_eq_false, Decidable.not_not, bne_iff_ne, beq_iff_eq, List.length_append, List.length_cons, List.length_nil, List.length_drop, List.length_take] at h7
          refine XW_skip ?_
          refine block_norm ?_
          refine then_norm ?_
          refine XW_sr ?_
          refine OW_as rfl rfl ?_
          refine OW_nilE (e' := [_, _, _, _, _, _, _, _, _, _, _, _, _, _, _, _, _, _, _, _, _, _, _, _, _, _, _, _, _, _, _, _, _, _, _, _, _, _]) rfl ?_
          refine XW_ret ?_
          -- outcome 5
          refine ret_ret (res1 rfl (rv_tmp rfl)) ?_
          refine qcast (hq _ (Own.unpick (Own.drop0 (Own.mono hS2 (le_bef (bef_app (a := [7, 0, 0, 1]) hp)))) hL)) ?_; replace h7 : andN want t.ri = 0 := h7; simp [Rf.check, Rf.ans, h1, h3, h5, h7]
structure Us where
  d : List Int
  key : Int
  iss : List Tk
def Us.enc (x : Us) : AVal := .agg [.lst (x.d.map (fun a : Int => AVal.int .u64 a)), .int .u64 x.key, .lst (x.iss.map Tk.enc)]
structure Us.good (x : Us) : Prop where
  d : x.d.length ≤ 1048576
  iss : x.iss.length ≤ 1048576
  fit : ∀ t ∈ x.iss, t.fit
def Us.ts (x : Us) : List Tk × Rf := (Rf.new x.d).issues x.key (x.iss.take 100)
theorem Us.stop {x : Us} {i : Nat} (hi : i ≤ 100) (h : x.iss.length ≤ i ∨ 100 ≤ i) : (Rf.new x.d).issues x.key (x.iss.take i) = x.ts := by
  unfold Us.ts
  rcases h with h | h
  · rw [List.take_of_length_le h, List.take_of_length_le (by omega)]
  · obtain rfl : i = 100 := by omega
    rfl
theorem issuedW (x : Us) (hx : x.good) (hS : Own β ps H L) (hle : le ps ν) (hβ : under β ν = true) (hp : before ν pos')
    (hq : ∀ q O H1, Own β pos' H1 (sl O 5 (x.ts.1.map Tk.enc) :: orc q x.ts.2.of :: L) → Q (.tup [.ptr q 0 0, O]) H1) : CW cfg ν 15 [x.enc] H Q := by
  have hil := hx.iss
  refine CW_keep g15 F15 rfl ?_
  replace hS := Own.mono hS hle
  refine XW_sr ?_
  refine OW_boxR hS (le_app (p := ν) (b := [0, 0])) (under_app [0, 0] hβ) rfl rfl rfl ⟨rfl, rfl⟩ fun H1 hS1 => ?_
  replace hS1 : Own _ _ _ (_ :: L) := hS1
  refine OW_as rfl rfl ?_
  refine OW_as rfl rfl ?_
  refine OW_nilE (e' := [_, _, _, _, _, _, _, _, _, _, _, _, _, _, _, _, _, _, _, _, _, _, _, _, _, _, _, _, _, _, _, _, _, _, _, _, _, _, _, _, _, _, _, _, _]) rfl ?_
  refine XW_sr ?_
  refine OW_fa rfl rfl rfl ?_
  refine OW_loadR hS1 (k := 0) rfl rfl rfl rfl rfl (by first | exact part_whole rfl rfl rfl | rfl) ?_
  refine OW_fn rfl rfl (oNew hS1 (le_lit (ν := ν) (a := [1, 0]) (b := [2, 0, 1]) (by decide)) (under_app [2, 0, 1] hβ) (before_lit (ν := ν) (a := [2, 0, 1]) (b := [3, 0, 1]) (by decide)) Ls.of (by have := hx.d; omega) fun q1 H2 hS2 => ?_) 
  replace hS2 : Own _ _ _ (_ :: _ :: L) := hS2
  refine OW_env (e' := [_, _, _, _, _, _, _, _, _, _, _, _, _, _, _, _, _, _, _, _, _, _, _, _, _, _, _, _, _, _, _, _, _, _, _, _, _, _, _, _, _, _, _, _, _]) rfl ?_
  refine OW_as rfl rfl ?_
  refine OW_nilE (e' := [_, _, _, _, _, _, _, _, _, _, _, _, _, _, _, _, _, _, _, _, _, _, _, _, _, _, _, _, _, _, _, _, _, _, _, _, _, _, _, _, _, _, _, _, _]) rfl ?_
  refine XW_sr ?_
  refine OW_bs rfl rfl rfl ?_
  refine OW_as rfl rfl ?_
  refine OW_nilE (e' := [_, _, _, _, _, _, _, _, _, _, _, _, _, _, _, _, _, _, _, _, _, _, _, _, _, _, _, _, _, _, _, _, _, _, _, _, _, _, _, _, _, _, _, _, _]) rfl ?_
  refine XW_seq ?_
  refine XW_sr ?_
  replace hS2 := hS2.addE (w := 5)
  refine OW_as rfl rfl ?_
  refine OW_nilE (e' := [_, _, _, _, _, _, _, _, _, _, _, _, _, _, _, _, _, _, _, _, _, _, _, _, _, _, _, _, _, _, _, _, _, _, _, _, _, _, _, _, _, _, _, _, _]) rfl ?_
  refine XW_block ?_
  refine XW_whileN (I := fun ν' mm ee H' => ∃ (i : Nat) (O : AVal), mm = x.iss.length - i ∧ under (1 :: 0 :: 1 :: 1 :: 1 :: ν) ν' = true ∧ Own β ν' H' (sl O 5 (((Rf.new x.d).issues x.key (x.iss.take i)).1.map Tk.enc) :: orc q1 ((Rf.new x.d).issues x.key (x.iss.take i)).2.of :: row (0 :: 0 :: ν) 3 [x.enc] :: L) ∧ (i ≤ x.iss.length ∧ i ≤ 100) ∧ ∃ g : Nat → AVal, ee = [g 0, .ptr (0 :: 0 :: ν) 0 0, g 2, g 3, .ptr q1 0 0, O, .int .i64 i, g 7, g 8, g 9, g 10, g 11, g 12, g 13, g 14, g 15, g 16, g 17, g 18, g 19, g 20, g 21, g 22, g 23, g 24, g 25, g 26, g 27, g 28, g 29, g 30, g 31, g 32, g 33, g 34, g 35, g 36, g 37, g 38, g 39, g 40, g 41, g 42, g 43, g 44]) ?_ _ _ _ _ ⟨0, .emp, rfl, under_me, Own.cast (Own.mono (hS2) (le_lit (ν := ν) (a := [3, 0, 1]) (b := [1, 0, 1, 1, 1]) (by decide))) (rfl), (⟨Nat.zero_le _, by omega⟩), env_g rfl⟩
  rintro ν1 mm ee H3 ⟨i, O, rfl, hU1, hS3, ⟨hi, hi2⟩, g1, rfl⟩
  have hr := Rf.issues_rows (x.iss.take i) (S := Rf.new x.d) (key := x.key)
  rw [List.length_take] at hr
  have hln := Rf.issues_len (x.iss.take i) (S := Rf.new x.d) (key := x.key)
  rw [List.length_take] at hln
  refine XW_seq ?_
  refine XW_sr ?_
  refine OW_mv rfl rfl ?_
  refine OW_fa rfl rfl rfl ?_
  refine OW_loadR hS3 (k := 2) rfl rfl rfl rfl rfl (by first | exact part_whole rfl rfl rfl | rfl) ?_
  refine OW_env (e' := [_, _, _, _, _, _, _, _, _, _, _, _, _, _, _, _, _, _, _, _, _, _, _, _, _, _, _, _, _, _, _, _, _, _, _, _, _, _, _, _, _, _, _, _, _]) rfl ?_
  first
  | refine OW_lenL rfl rfl (by first | assumption | exact Ls.of | exact Ls.emp | exact Ls.nls) rfl rfl rfl (by first | exact List.length_map _ | rfl) ?_
  | refine OW_bi rfl rfl rfl ?_
  | refine OW_lenO hS3 (k := 0) rfl rfl rfl rfl rfl rfl (by first | exact List.length_map _ | exact len_app1 | exact len_drop | (simp only [List.length_append, List.length_map, List.length_singleton, List.length_cons, List.length_nil]; rfl) | rfl) ?_
  refine OW_bin rfl rfl rfl rfl rfl ?_
  refine OW_mv rfl rfl ?_
  refine OW_env (e' := [_, _, _, _, _, _, _, _, _, _, _, _, _, _, _, _, _, _, _, _, _, _, _, _, _, _, _, _, _, _, _, _, _, _, _, _, _, _, _, _, _, _, _, _, _]) rfl ?_
  refine OW_split (tt := 17) rfl (fun g4_6 => ?_) (fun g4_6 => ?_)
  · try simp only [decide_eq_true_eq, decide_eq_false_iff_not, Bool.not_eq_true', Bool.not_eq_false', Bool.and_eq_true, Bool.or_eq_true, Bool.not_eq_true, Bool.not_eq_false, Decidable.not_not, bne_iff_ne, beq_iff_eq, List.length_append, List.length_cons, List.length_nil, List.length_drop, List.length_take] at g4_6
    refine OW_mv rfl rfl ?_
    refine OW_bin rfl rfl rfl rfl rfl ?_
    refine OW_env (e' := [_, _, _, _, _, _, _, _, _, _, _, _, _, _, _, _, _, _, _, _, _, _, _, _, _, _, _, _, _, _, _, _, _, _, _, _, _, _, _, _, _, _, _, _, _]) rfl ?_
    refine OW_pick rfl rfl rfl ?_
    refine OW_nilE (e' := [_, _, _, _, _, _, _, _, _, _, _, _, _, _, _, _, _, _, _, _, _, _, _, _, _, _, _, _, _, _, _, _, _, _, _, _, _, _, _, _, _, _, _, _, _]) rfl ?_
    refine XW_if rfl (fun h4 => ?_) (fun h4 => ?_)
    · try simp only [decide_eq_true_eq, decide_eq_false_iff_not, Bool.not_eq_true', Bool.not_eq_false', Bool.and_eq_true, Bool.or_eq_true, Bool.not_eq_true, Bool.not_eq_false, Decidable.not_not, bne_iff_ne, beq_iff_eq, List.length_append, List.length_cons, List.length_nil, List.length_drop, List.length_take] at h4
      refine XW_skip ?_
      refine then_norm ?_
      refine XW_seq ?_
      refine XW_block ?_
      refine XW_sr ?_
      refine OW_fa rfl rfl rfl ?_
      refine OW_loadR hS3 (k := 2) rfl rfl rfl rfl rfl (by first | exact part_whole rfl rfl rfl | rfl) ?_
      refine OW_mv rfl rfl ?_
      refine OW_env (e' := [_, _, _, _, _, _, _, _, _, _, _, _, _, _, _, _, _, _, _, _, _, _, _, _, _, _, _, _, _, _, _, _, _, _, _, _, _, _, _, _, _, _, _, _, _]) rfl ?_
      first
      | refine OW_iaL rfl rfl rfl Ls.of rfl rfl rfl (by first | rfl | exact (Int.toNat_of_nonneg (by omega)).symm) (by first | assumption | exact at_map (by first | assumption | omega) | exact at_lst (by omega) | rfl) rfl ?_
      | refine OW_iaL rfl rfl rfl (by assumption) rfl rfl rfl (by first | rfl | exact (Int.toNat_of_nonneg (by omega)).symm) (by first | assumption | exact at_map (by first | assumption | omega) | exact at_lst (by omega) | rfl) rfl ?_
      refine OW_loadE rfl rfl rfl (by first | exact part_whole rfl rfl rfl | rfl) ?_
      refine OW_allocR hS3 (le_app (p := ν1) (b := [5, 0, 0, 1, 0])) (under_app [5, 0, 0, 1, 0] (under_trans (under_app [1, 0, 1, 1, 1] hβ) hU1)) rfl rfl rfl rfl fun H4 hS4 => ?_
      replace hS4 : Own _ _ _ (_ :: _ :: _ :: _ :: L) := hS4
      refine OW_env (e' := [_, _, _, _, _, _, _, _, _, _, _, _, _, _, _, _, _, _, _, _, _, _, _, _, _, _, _, _, _, _, _, _, _, _, _, _, _, _, _, _, _, _, _, _, _]) rfl ?_
      first
      | refine OW_storeR hS4 (k := 0) rfl le_refl rfl rfl rfl rfl ⟨rfl, rfl, Nat.le_of_ble_eq_true rfl⟩ (set_whole rfl rfl) fun H5 hS5 => ?_
      | refine OW_storeR hS4 (k := 0) rfl le_refl rfl rfl rfl rfl ⟨rfl, rfl, Nat.le_of_ble_eq_true rfl⟩ (u2 := .agg [_, _, _, _, _]) rfl fun H5 hS5 => ?_
      replace hS5 : Own _ _ _ (_ :: _ :: _ :: _ :: L) := hS5
      refine OW_nilE (e' := [_, _, _, _, _, _, _, _, _, _, _, _, _, _, _, _, _, _, _, _, _, _, _, _, _, _, _, _, _, _, _, _, _, _, _, _, _, _, _, _, _, _, _, _, _]) rfl ?_
      refine XW_region ?_
      refine OW_mv rfl rfl ?_
      refine OW_mv rfl rfl ?_
      refine OW_fa rfl rfl rfl ?_
      refine OW_env (e' := [_, _, _, _, _, _, _, _, _, _, _, _, _, _, _, _, _, _, _, _, _, _, _, _, _, _, _, _, _, _, _, _, _, _, _, _, _, _, _, _, _, _, _, _, _]) rfl ?_
      refine OW_loadR hS5 (k := 3) rfl rfl rfl rfl rfl (by first | exact part_whole rfl rfl rfl | rfl) ?_
      refine OW_fa rfl rfl rfl ?_
      refine OW_loadR hS5 (k := 0) rfl rfl rfl rfl rfl (by first | exact part_whole rfl rfl rfl | rfl) ?_
      refine OW_env (e' := [_, _, _, _, _, _, _, _, _, _, _, _, _, _, _, _, _, _, _, _, _, _, _, _, _, _, _, _, _, _, _, _, _, _, _, _, _, _, _, _, _, _, _, _, _]) rfl ?_
      refine OW_fa rfl rfl rfl ?_
      refine OW_loadR hS5 (k := 0) rfl rfl rfl rfl rfl (by first | exact part_whole rfl rfl rfl | rfl) ?_
      refine OW_fa rfl rfl rfl ?_
      refine OW_env (e' := [_, _, _, _, _, _, _, _, _, _, _, _, _, _, _, _, _, _, _, _, _, _, _, _, _, _, _, _, _, _, _, _, _, _, _, _, _, _, _, _, _, _, _, _, _]) rfl ?_
      refine OW_loadR hS5 (k := 0) rfl rfl rfl rfl rfl (by first | exact part_whole rfl rfl rfl | rfl) ?_
      refine OW_fa rfl rfl rfl ?_
      refine OW_loadR hS5 (k := 0) rfl rfl rfl rfl rfl (by first | exact part_whole rfl rfl rfl | rfl) ?_
      refine OW_env (e' := [_, _, _, _, _, _, _, _, _, _, _, _, _, _, _, _, _, _, _, _, _, _, _, _, _, _, _, _, _, _, _, _, _, _, _, _, _, _, _, _, _, _, _, _, _]) rfl ?_
      refine OW_fn rfl rfl (issueW hS5 (k := 2) rfl (le_lit (ν := ν1) (a := [7, 0, 0, 1, 0]) (b := [12, 1, 0, 1, 0]) (by decide)) (under_app [12, 1, 0, 1, 0] (under_trans (under_app [1, 0, 1, 1, 1] hβ) hU1)) (before_lit (ν := ν1) (a := [12, 1, 0, 1, 0]) (b := [13, 1, 0, 1, 0]) (by decide)) (by show _ ≤ _; have : (Rf.new x.d).rows.length = 0 := rfl; omega) x.key x.iss[i] (hx.fit _ (List.getElem_mem (by omega))) fun H6 hS6 => ?_) 
      replace hS6 : Own _ _ _ (_ :: _ :: _ :: _ :: L) := hS6
      refine OW_bs rfl rfl (v := .lst [_]) rfl ?_
      refine OW_app hS6 (k := 1) rfl (le_lit (ν := ν1) (a := [13, 1, 0, 1, 0]) (b := [14, 1, 0, 1, 0]) (by decide)) (under_app [14, 1, 0, 1, 0] (under_trans (under_app [1, 0, 1, 1, 1] hβ) hU1)) rfl rfl rfl rfl rfl rfl rfl rfl (by first | rfl | exact Ls.elems (by assumption)) (by first | exact one_wide rfl | exact map_wide (fun _ => rfl) | assumption | (intro y hy; simp at hy; done)) (by first | omega | (simp only [List.length_map, List.length_append, List.length_singleton, List.length_cons, List.length_nil, List.length_take, List.length_drop]; omega) | (simp; omega)) (by decide) fun O1 H7 hS7 => ?_
      replace hS7 : Own _ _ _ (_ :: _ :: _ :: _ :: L) := hS7
      refine OW_env (e' := [_, _, _, _, _, _, _, _, _, _, _, _, _, _, _, _, _, _, _, _, _, _, _, _, _, _, _, _, _, _, _, _, _, _, _, _, _, _, _, _, _, _, _, _, _]) rfl ?_
      refine OW_as rfl rfl ?_
      refine OW_nilE (e' := [_, _, _, _, _, _, _, _, _, _, _, _, _, _, _, _, _, _, _, _, _, _, _, _, _, _, _, _, _, _, _, _, _, _, _, _, _, _, _, _, _, _, _, _, _]) rfl ?_
      refine block_norm ?_
      refine then_norm ?_
      refine XW_region ?_
      refine OW_mv rfl rfl ?_
      first
      | refine OW_bin rfl rfl rfl rfl (add_w64 (by first | omega | assumption | (simp only [ByteArray.size_append, ByteArray.size_extract, List.length_map, List.length_append, List.length_cons, List.length_nil, List.length_drop, List.length_take]; omega))) ?_
      | refine OW_bin rfl rfl rfl rfl rfl ?_
      refine OW_as rfl rfl ?_
      refine OW_nilE (e' := [_, _, _, _, _, _, _, _, _, _, _, _, _, _, _, _, _, _, _, _, _, _, _, _, _, _, _, _, _, _, _, _, _, _, _, _, _, _, _, _, _, _, _, _, _]) rfl ?_
      have hSd1 : Own _ _ _ (_ :: _ :: _ :: L) := (Own.drop hS7 (k := 0) rfl)
      -- round 0.1
      refine ⟨_, ?_, i + 1, O1, rfl, under_in hU1, Own.cast (Own.mono (hSd1) (le_lit (ν := ν1) (a := [15, 1, 0, 1, 0]) (b := [1]) (by decide))) (by rw [Rf.issues_step (by omega)]; simp), ?_, env_g rfl⟩
      · first | omega | (simp; omega)
      · exact ⟨by omega, by omega⟩
    · try simp only [decide_eq_true_eq, decide_eq_false_iff_not, Bool.not_eq_true', Bool.not_eq_false', Bool.and_eq_true, Bool.or_eq_true, Bool.not_eq_true, Bool.not_eq_false, Decidable.not_not, bne_iff_ne, beq_iff_eq, List.length_append, List.length_cons, List.length_nil, List.length_drop, List.length_take] at h4
      refine XW_exit ?_
      refine then_exit ?_
      refine block_exit ?_
      refine then_norm ?_
      refine XW_sr ?_
      refine OW_mv rfl rfl ?_
      refine OW_mv rfl rfl ?_
      refine OW_as rfl rfl ?_
      refine OW_env (e' := [_, _, _, _, _, _, _, _, _, _, _, _, _, _, _, _, _, _, _, _, _, _, _, _, _, _, _, _, _, _, _, _, _, _, _, _, _, _, _, _, _, _, _, _, _]) rfl ?_
      refine OW_as rfl rfl ?_
      refine OW_nilE (e' := [_, _, _, _, _, _, _, _, _, _, _, _, _, _, _, _, _, _, _, _, _, _, _, _, _, _, _, _, _, _, _, _, _, _, _, _, _, _, _, _, _, _, _, _, _]) rfl ?_
      refine XW_ret ?_
      -- outcome 1
      refine ret_ret (res2 rfl (rv_tmp rfl) (rv_tmp rfl)) ?_
      have he := Us.stop (x := x) hi2 (by omega)
      refine hq _ _ _ (Own.cast (Own.drop (Own.mono hS3 (le_bef (bef_under (a := []) hU1 (bef_app (a := [1, 0, 1, 1, 1]) hp)))) (k := 2) rfl) (by rw [he]; rfl))
  · try simp only [decide_eq_true_eq, decide_eq_false_iff_not, Bool.not_eq_true', Bool.not_eq_false', Bool.and_eq_true, Bool.or_eq_true, Bool.not_eq_true, Bool.not_eq_false, Decidable.not_not, bne_iff_ne, beq_iff_eq, List.length_append, List.length_cons, List.length_nil, List.length_drop, List.length_take] at g4_6
    refine OW_no rfl ?_
    refine OW_no rfl ?_
    refine OW_env (e' := [_, _, _, _, _, _, _, _, _, _, _, _, _, _, _, _, _, _, _, _, _, _, _, _, _, _, _, _, _, _, _, _, _, _, _, _, _, _, _, _, _, _, _, _, _]) rfl ?_
    refine OW_pick rfl rfl rfl ?_
    refine OW_nilE (e' := [_, _, _, _, _, _, _, _, _, _, _, _, _, _, _, _, _, _, _, _, _, _, _, _, _, _, _, _, _, _, _, _, _, _, _, _, _, _, _, _, _, _, _, _, _]) rfl ?_
    refine XW_no rfl rfl ?_
    refine XW_exit ?_
    refine then_exit ?_
    refine block_exit ?_
    refine then_norm ?_
    refine XW_sr ?_
    refine OW_mv rfl rfl ?_
    refine OW_mv rfl rfl ?_
    refine OW_as rfl rfl ?_
    refine OW_env (e' := [_, _, _, _, _, _, _, _, _, _, _, _, _, _, _, _, _, _, _, _, _, _, _, _, _, _, _, _, _, _, _, _, _, _, _, _, _, _, _, _, _, _, _, _, _]) rfl ?_
    refine OW_as rfl rfl ?_
    refine OW_nilE (e' := [_, _, _, _, _, _, _, _, _, _, _, _, _, _, _, _, _, _, _, _, _, _, _, _, _, _, _, _, _, _, _, _, _, _, _, _, _, _, _, _, _, _, _, _, _]) rfl ?_
    refine XW_ret ?_
    -- outcome 2
    refine ret_ret (res2 rfl (rv_tmp rfl) (rv_tmp rfl)) ?_
    have he := Us.stop (x := x) hi2 (by omega)
    refine hq _ _ _ (Own.cast (Own.drop (Own.mono hS3 (le_bef (bef_under (a := []) hU1 (bef_app (a := [1, 0, 1, 1, 1]) hp)))) (k := 2) rfl) (by rw [he]; rfl))
end Go.Proofs.Ytoljfmghcfdbpaa.X
