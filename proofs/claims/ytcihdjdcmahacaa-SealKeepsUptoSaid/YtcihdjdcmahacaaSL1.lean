/- Layer 05: leaves: their texts, locking and unlocking; what the functions of seal and of the reference do. -/
import Derived.Test.YtcihdjdcmahacaaJ20
import Derived.Test.YtcihdjdcmahacaaY3
set_option linter.unusedVariables false
set_option linter.unusedSimpArgs false
set_option maxRecDepth 100000
namespace Go.Proofs.Ytcihdjdcmahacaa.X
open Go Go.RowKit WM
variable {ν β ps pos' : Nm} {H : Heap} {Q : AVal → Heap → Prop} {L : List Asr} {q : Nm} {k : Nat} {S T : Rf}
abbrev U64 (n : Int) : Prop := 0 ≤ n ∧ n ≤ 18446744073709551615
structure Lf where
  v : Int
  e : Int
  n : Int
  c : Int
  deriving DecidableEq
def Lf.enc (x : Lf) : AVal := .agg [.int .u64 x.v, .int .u64 x.e, .int .u64 x.n, .int .u64 x.c]
def Lf.fit (x : Lf) : Prop := U64 x.v ∧ U64 x.e ∧ U64 x.n ∧ U64 x.c
def cLf : Cod Lf := (cI.pair (cI.pair (cI.pair cI))).iso (fun p => ⟨p.1, p.2.1, p.2.2.1, p.2.2.2⟩) (fun x => (x.v, x.e, x.n, x.c)) (fun _ => rfl) (fun _ => rfl)
theorem cLf_ok {x : Lf} (h : x.fit) : cLf.ok x := ⟨h.1, h.2.1, h.2.2.1, h.2.2.2⟩
def adB (a b c d : Int) : ByteArray := ba (cLf.enc ⟨a, b, c, d⟩)
theorem adB_eq (a b c d : Int) : ba (encU a.toNat) ++ ba (encU b.toNat) ++ ba (encU c.toNat) ++ ba (encU d.toNat) = adB a b c d := by
  rw [ba_append, ba_append, ba_append, List.append_assoc, List.append_assoc]; rfl
theorem adB_inj {a b c d a' b' c' d' : Int} (h : U64 a ∧ U64 b ∧ U64 c ∧ U64 d) (h' : U64 a' ∧ U64 b' ∧ U64 c' ∧ U64 d') (e : adB a b c d = adB a' b' c' d') : a = a' ∧ b = b' ∧ c = c' ∧ d = d' := by
  have e1 : cLf.enc ⟨a, b, c, d⟩ ++ [] = cLf.enc ⟨a', b', c', d'⟩ ++ [] := by
    have := congrArg (fun x : ByteArray => x.data.toList) e
    simpa [adB, ba_data] using this
  have := (cLf.inj (cLf_ok (x := ⟨a, b, c, d⟩) h) (cLf_ok (x := ⟨a', b', c', d'⟩) h') e1).1
  simpa using this
theorem adB_size {a b c d : Int} (h : U64 a ∧ U64 b ∧ U64 c ∧ U64 d) : (adB a b c d).size ≤ 40 := by
  have h1 := encU_i h.1; have h2 := encU_i h.2.1; have h3 := encU_i h.2.2.1; have h4 := encU_i h.2.2.2
  rw [← adB_eq]; simp only [ByteArray.size_append]; omega
def resL (s : ByteArray) : Lf × Bool := match cLf.all s.data.toList with
  | some l => (l, true)
  | none => (⟨0, 0, 0, 0⟩, false)
abbrev r1 (s : ByteArray) := resU s
abbrev r2 (s : ByteArray) := resU (r1 s).2.1
abbrev r3 (s : ByteArray) := resU (r2 s).2.1
abbrev r4 (s : ByteArray) := resU (r3 s).2.1
theorem tkLf (s : ByteArray) : cLf.tk s.data.toList = if (r1 s).2.2 = true ∧ (r2 s).2.2 = true ∧ (r3 s).2.2 = true ∧ (r4 s).2.2 = true then some (⟨(r1 s).1, (r2 s).1, (r3 s).1, (r4 s).1⟩, (r4 s).2.1.data.toList) else none := by
  rcases cI_res s with ⟨h1, _, h2⟩ | ⟨h1, h2⟩
  · rw [if_neg (by rw [h1]; simp)]
    exact Cod.iso_tk1 (Cod.pair_tk1 h2)
  · rcases cI_res (resU s).2.1 with ⟨h3, _, h4⟩ | ⟨h3, h4⟩
    · rw [if_neg (by rw [show (r2 s).2.2 = false from h3]; simp)]
      exact Cod.iso_tk1 (Cod.pair_tk2 h2 (Cod.pair_tk1 h4))
    · rcases cI_res (resU (resU s).2.1).2.1 with ⟨h5, _, h6⟩ | ⟨h5, h6⟩
      · rw [if_neg (by rw [show (r3 s).2.2 = false from h5]; simp)]
        exact Cod.iso_tk1 (Cod.pair_tk2 h2 (Cod.pair_tk2 h4 (Cod.pair_tk1 h6)))
      · rcases cI_res (resU (resU (resU s).2.1).2.1).2.1 with ⟨h7, _, h8⟩ | ⟨h7, h8⟩
        · rw [if_neg (by rw [show (r4 s).2.2 = false from h7]; simp)]
          exact Cod.iso_tk1 (Cod.pair_tk2 h2 (Cod.pair_tk2 h4 (Cod.pair_tk2 h6 h8)))
        · rw [if_pos ⟨h1, h3, h5, h7⟩]
          exact Cod.iso_tk2 (Cod.pair_tk3 h2 (Cod.pair_tk3 h4 (Cod.pair_tk3 h6 h8)))
theorem nil_str {s : ByteArray} (h : s.data.toList = []) : s = ⟨#[]⟩ := by rw [← ba_of s, h]; rfl
theorem resL_eq (s : ByteArray) : resL s = if (r1 s).2.2 = true ∧ (r2 s).2.2 = true ∧ (r3 s).2.2 = true ∧ (r4 s).2.2 = true ∧ (r4 s).2.1 = ⟨#[]⟩ then (⟨(r1 s).1, (r2 s).1, (r3 s).1, (r4 s).1⟩, true) else (⟨0, 0, 0, 0⟩, false) := by
  unfold resL Cod.all
  rw [tkLf]
  by_cases h : (r1 s).2.2 = true ∧ (r2 s).2.2 = true ∧ (r3 s).2.2 = true ∧ (r4 s).2.2 = true
  · rw [if_pos h]
    by_cases h5 : (r4 s).2.1 = ⟨#[]⟩
    · rw [if_pos ⟨h.1, h.2.1, h.2.2.1, h.2.2.2, h5⟩, h5]
    · rw [if_neg (fun e => h5 e.2.2.2.2)]
      cases h6 : (r4 s).2.1.data.toList with
      | nil => exact absurd (nil_str h6) h5
      | cons a b => rfl
  · rw [if_neg h, if_neg (fun e => h ⟨e.1, e.2.1, e.2.2.1, e.2.2.2.1⟩)]
theorem resL_back {l : Lf} (h : l.fit) : resL (adB l.v l.e l.n l.c) = (l, true) := by
  unfold resL
  have : cLf.all (adB l.v l.e l.n l.c).data.toList = some l := (cLf.all_iff _ _).2 ⟨cLf_ok h, by rw [adB, ba_data]⟩
  rw [this]
theorem resL_once {s : ByteArray} (h : (resL s).2 = true) : adB (resL s).1.v (resL s).1.e (resL s).1.n (resL s).1.c = s := by
  unfold resL at h ⊢
  cases hc : cLf.all s.data.toList with
  | none => rw [hc] at h; cases h
  | some l =>
    have := ((cLf.all_iff _ _).1 hc).2
    show adB l.v l.e l.n l.c = s
    rw [adB, ← ba_of s, this]
theorem resL_fit (s : ByteArray) : (resL s).1.fit := by
  unfold resL
  cases hc : cLf.all s.data.toList with
  | none => exact ⟨by decide, by decide, by decide, by decide⟩
  | some l => have := ((cLf.all_iff _ _).1 hc).1; exact ⟨this.1, this.2.1, this.2.2.1, this.2.2.2⟩
theorem fourW {a b c d : Int} (h : U64 a ∧ U64 b ∧ U64 c ∧ U64 d) (hq : Q (.str (adB a b c d)) H) : CW cfg ν 29 [.int .u64 a, .int .u64 b, .int .u64 c, .int .u64 d] H Q := by
  obtain ⟨ha, hb, hc, hd⟩ := h
  have h1 := encU_i ha; have h2 := encU_i hb; have h3 := encU_i hc; have h4 := encU_i hd
  rw [← adB_eq] at hq
  refine CW_pure g29 F29 rfl ?_
  refine XW_sr ?_
  refine OW_as rfl rfl ?_
  refine OW_nilE (e' := [_, _, _, _, _, _, _, _, _, _, _, _, _, _, _, _, _, _, _, _]) rfl ?_
  refine XW_sr ?_
  refine OW_mv rfl rfl ?_
  refine OW_fn rfl rfl (putUi (by assumption) ?_) 
  refine OW_mv rfl rfl ?_
  refine OW_env (e' := [_, _, _, _, _, _, _, _, _, _, _, _, _, _, _, _, _, _, _, _]) rfl ?_
  refine OW_fn rfl rfl (putUi (by assumption) ?_) 
  refine OW_bin rfl rfl rfl rfl (cat (by first | omega | assumption | (simp only [ByteArray.size_append, ByteArray.size_extract, List.length_map, List.length_append, List.length_cons, List.length_nil, List.length_drop, List.length_take]; omega) | (refine Nat.le_trans (Nat.add_le_add_left (show _ ≤ 256 by decide) _) (by first | omega | (simp only [ByteArray.size_append, ByteArray.size_extract, List.length_map, List.length_append, List.length_cons, List.length_nil, List.length_drop, List.length_take]; omega))) | (refine Nat.le_trans (Nat.add_le_add_right (show _ ≤ 256 by decide) _) (by first | omega | (simp only [ByteArray.size_append, ByteArray.size_extract, List.length_map, List.length_append, List.length_cons, List.length_nil, List.length_drop, List.length_take]; omega))))) ?_
  refine OW_mv rfl rfl ?_
  refine OW_env (e' := [_, _, _, _, _, _, _, _, _, _, _, _, _, _, _, _, _, _, _, _]) rfl ?_
  refine OW_fn rfl rfl (putUi (by assumption) ?_) 
  refine OW_bin rfl rfl rfl rfl (cat (by first | omega | assumption | (simp only [ByteArray.size_append, ByteArray.size_extract, List.length_map, List.length_append, List.length_cons, List.length_nil, List.length_drop, List.length_take]; omega) | (refine Nat.le_trans (Nat.add_le_add_left (show _ ≤ 256 by decide) _) (by first | omega | (simp only [ByteArray.size_append, ByteArray.size_extract, List.length_map, List.length_append, List.length_cons, List.length_nil, List.length_drop, List.length_take]; omega))) | (refine Nat.le_trans (Nat.add_le_add_right (show _ ≤ 256 by decide) _) (by first | omega | (simp only [ByteArray.size_append, ByteArray.size_extract, List.length_map, List.length_append, List.length_cons, List.length_nil, List.length_drop, List.length_take]; omega))))) ?_
  refine OW_mv rfl rfl ?_
  refine OW_env (e' := [_, _, _, _, _, _, _, _, _, _, _, _, _, _, _, _, _, _, _, _]) rfl ?_
  refine OW_fn rfl rfl (putUi (by assumption) ?_) 
  refine OW_bin rfl rfl rfl rfl (cat (by first | omega | assumption | (simp only [ByteArray.size_append, ByteArray.size_extract, List.length_map, List.length_append, List.length_cons, List.length_nil, List.length_drop, List.length_take]; omega) | (refine Nat.le_trans (Nat.add_le_add_left (show _ ≤ 256 by decide) _) (by first | omega | (simp only [ByteArray.size_append, ByteArray.size_extract, List.length_map, List.length_append, List.length_cons, List.length_nil, List.length_drop, List.length_take]; omega))) | (refine Nat.le_trans (Nat.add_le_add_right (show _ ≤ 256 by decide) _) (by first | omega | (simp only [ByteArray.size_append, ByteArray.size_extract, List.length_map, List.length_append, List.length_cons, List.length_nil, List.length_drop, List.length_take]; omega))))) ?_
  refine OW_as rfl rfl ?_
  refine OW_nilE (e' := [_, _, _, _, _, _, _, _, _, _, _, _, _, _, _, _, _, _, _, _]) rfl ?_
  refine XW_ret ?_
  -- outcome 1
  refine ret_ret (res1 rfl (rv_tmp rfl)) (frz1 (Q := Q) (by first | exact freeze_plain rfl | exact Ls.freeze (by assumption) | exact Ls.freeze Ls.of | exact Ls.freeze Ls.emp | exact Ls.freeze Ls.nls) ?_)
  exact hq
theorem adW {a b c d : Int} (h : U64 a ∧ U64 b ∧ U64 c ∧ U64 d) (hq : Q (.str (adB a b c d)) H) : CW cfg ν 25 [.int .u64 a, .int .u64 b, .int .u64 c, .int .u64 d] H Q := by
  refine CW_pure g25 F25 rfl ?_
  refine XW_sr ?_
  refine OW_as rfl rfl ?_
  refine OW_nilE (e' := [_, _, _, _, _, _, _, _, _, _, _, _, _, _]) rfl ?_
  refine XW_sr ?_
  refine OW_mv rfl rfl ?_
  refine OW_mv rfl rfl ?_
  refine OW_mv rfl rfl ?_
  refine OW_env (e' := [_, _, _, _, _, _, _, _, _, _, _, _, _, _]) rfl ?_
  refine OW_mv rfl rfl ?_
  refine OW_fn rfl rfl (fourW (by first | assumption | exact ⟨by assumption, by assumption, by assumption, by assumption⟩) ?_) 
  refine OW_as rfl rfl ?_
  refine OW_nilE (e' := [_, _, _, _, _, _, _, _, _, _, _, _, _, _]) rfl ?_
  refine XW_ret ?_
  -- outcome 1
  refine ret_ret (res1 rfl (rv_tmp rfl)) (frz1 (Q := Q) (by first | exact freeze_plain rfl | exact Ls.freeze (by assumption) | exact Ls.freeze Ls.of | exact Ls.freeze Ls.emp | exact Ls.freeze Ls.nls) ?_)
  exact hq
theorem radW {a b c d : Int} (h : U64 a ∧ U64 b ∧ U64 c ∧ U64 d) (hq : Q (.str (adB a b c d)) H) : CW cfg ν 26 [.int .u64 a, .int .u64 b, .int .u64 c, .int .u64 d] H Q := by
  obtain ⟨ha, hb, hc, hd⟩ := h
  have h1 := encU_i ha; have h2 := encU_i hb; have h3 := encU_i hc; have h4 := encU_i hd
  rw [← adB_eq] at hq
  refine CW_pure g26 F26 rfl ?_
  refine XW_sr ?_
  refine OW_as rfl rfl ?_
  refine OW_nilE (e' := [_, _, _, _, _, _, _, _, _, _, _, _, _, _, _, _, _, _, _, _]) rfl ?_
  refine XW_sr ?_
  refine OW_mv rfl rfl ?_
  refine OW_fn rfl rfl (rputUi (by assumption) ?_) 
  refine OW_mv rfl rfl ?_
  refine OW_env (e' := [_, _, _, _, _, _, _, _, _, _, _, _, _, _, _, _, _, _, _, _]) rfl ?_
  refine OW_fn rfl rfl (rputUi (by assumption) ?_) 
  refine OW_bin rfl rfl rfl rfl (cat (by first | omega | assumption | (simp only [ByteArray.size_append, ByteArray.size_extract, List.length_map, List.length_append, List.length_cons, List.length_nil, List.length_drop, List.length_take]; omega) | (refine Nat.le_trans (Nat.add_le_add_left (show _ ≤ 256 by decide) _) (by first | omega | (simp only [ByteArray.size_append, ByteArray.size_extract, List.length_map, List.length_append, List.length_cons, List.length_nil, List.length_drop, List.length_take]; omega))) | (refine Nat.le_trans (Nat.add_le_add_right (show _ ≤ 256 by decide) _) (by first | omega | (simp only [ByteArray.size_append, ByteArray.size_extract, List.length_map, List.length_append, List.length_cons, List.length_nil, List.length_drop, List.length_take]; omega))))) ?_
  refine OW_mv rfl rfl ?_
  refine OW_env (e' := [_, _, _, _, _, _, _, _, _, _, _, _, _, _, _, _, _, _, _, _]) rfl ?_
  refine OW_fn rfl rfl (rputUi (by assumption) ?_) 
  refine OW_bin rfl rfl rfl rfl (cat (by first | omega | assumption | (simp only [ByteArray.size_append, ByteArray.size_extract, List.length_map, List.length_append, List.length_cons, List.length_nil, List.length_drop, List.length_take]; omega) | (refine Nat.le_trans (Nat.add_le_add_left (show _ ≤ 256 by decide) _) (by first | omega | (simp only [ByteArray.size_append, ByteArray.size_extract, List.length_map, List.length_append, List.length_cons, List.length_nil, List.length_drop, List.length_take]; omega))) | (refine Nat.le_trans (Nat.add_le_add_right (show _ ≤ 256 by decide) _) (by first | omega | (simp only [ByteArray.size_append, ByteArray.size_extract, List.length_map, List.length_append, List.length_cons, List.length_nil, List.length_drop, List.length_take]; omega))))) ?_
  refine OW_mv rfl rfl ?_
  refine OW_env (e' := [_, _, _, _, _, _, _, _, _, _, _, _, _, _, _, _, _, _, _, _]) rfl ?_
  refine OW_fn rfl rfl (rputUi (by assumption) ?_) 
  refine OW_bin rfl rfl rfl rfl (cat (by first | omega | assumption | (simp only [ByteArray.size_append, ByteArray.size_extract, List.length_map, List.length_append, List.length_cons, List.length_nil, List.length_drop, List.length_take]; omega) | (refine Nat.le_trans (Nat.add_le_add_left (show _ ≤ 256 by decide) _) (by first | omega | (simp only [ByteArray.size_append, ByteArray.size_extract, List.length_map, List.length_append, List.length_cons, List.length_nil, List.length_drop, List.length_take]; omega))) | (refine Nat.le_trans (Nat.add_le_add_right (show _ ≤ 256 by decide) _) (by first | omega | (simp only [ByteArray.size_append, ByteArray.size_extract, List.length_map, List.length_append, List.length_cons, List.length_nil, List.length_drop, List.length_take]; omega))))) ?_
  refine OW_as rfl rfl ?_
  refine OW_nilE (e' := [_, _, _, _, _, _, _, _, _, _, _, _, _, _, _, _, _, _, _, _]) rfl ?_
  refine XW_ret ?_
  -- outcome 1
  refine ret_ret (res1 rfl (rv_tmp rfl)) (frz1 (Q := Q) (by first | exact freeze_plain rfl | exact Ls.freeze (by assumption) | exact Ls.freeze Ls.of | exact Ls.freeze Ls.emp | exact Ls.freeze Ls.nls) ?_)
  exact hq
theorem textW {l : Lf} (h : l.fit) (hq : Q (.str (adB l.v l.e l.n l.c)) H) : CW cfg ν 11 [l.enc] H Q := by
  refine CW_pure g11 F11 rfl ?_
  have hS0 : Own ν ν (fun _ => none) [] := Own.nil
  refine XW_sr ?_
  refine OW_boxR hS0 (le_app (p := ν) (b := [0, 0])) (under_app [0, 0] under_me) rfl rfl rfl ⟨rfl, rfl⟩ fun H1 hS1 => ?_
  replace hS1 : Own _ _ _ ([_]) := hS1
  refine OW_as rfl rfl ?_
  refine OW_nilE (e' := [_, _, _, _, _, _, _, _, _, _, _, _]) rfl ?_
  refine XW_sr ?_
  refine OW_fa rfl rfl rfl ?_
  refine OW_loadR hS1 (k := 0) rfl rfl rfl rfl rfl (by first | exact part_whole rfl rfl rfl | rfl) ?_
  refine OW_fa rfl rfl rfl ?_
  refine OW_env (e' := [_, _, _, _, _, _, _, _, _, _, _, _]) rfl ?_
  refine OW_loadR hS1 (k := 0) rfl rfl rfl rfl rfl (by first | exact part_whole rfl rfl rfl | rfl) ?_
  refine OW_fa rfl rfl rfl ?_
  refine OW_loadR hS1 (k := 0) rfl rfl rfl rfl rfl (by first | exact part_whole rfl rfl rfl | rfl) ?_
  refine OW_env (e' := [_, _, _, _, _, _, _, _, _, _, _, _]) rfl ?_
  refine OW_fa rfl rfl rfl ?_
  refine OW_loadR hS1 (k := 0) rfl rfl rfl rfl rfl (by first | exact part_whole rfl rfl rfl | rfl) ?_
  refine OW_fn rfl rfl (fourW h ?_) 
  refine OW_env (e' := [_, _, _, _, _, _, _, _, _, _, _, _]) rfl ?_
  refine OW_as rfl rfl ?_
  refine OW_nilE (e' := [_, _, _, _, _, _, _, _, _, _, _, _]) rfl ?_
  refine XW_ret ?_
  -- outcome 1
  refine ret_ret (res1 rfl (rv_tmp rfl)) (frz1 (Q := Q) (by first | exact freeze_plain rfl | exact Ls.freeze (by assumption) | exact Ls.freeze Ls.of | exact Ls.freeze Ls.emp | exact Ls.freeze Ls.nls) ?_)
  exact hq
theorem rtextW {l : Lf} (h : l.fit) (hq : Q (.str (adB l.v l.e l.n l.c)) H) : CW cfg ν 13 [l.enc] H Q := by
  refine CW_pure g13 F13 rfl ?_
  have hS0 : Own ν ν (fun _ => none) [] := Own.nil
  refine XW_sr ?_
  refine OW_boxR hS0 (le_app (p := ν) (b := [0, 0])) (under_app [0, 0] under_me) rfl rfl rfl ⟨rfl, rfl⟩ fun H1 hS1 => ?_
  replace hS1 : Own _ _ _ ([_]) := hS1
  refine OW_as rfl rfl ?_
  refine OW_nilE (e' := [_, _, _, _, _, _, _, _, _, _, _, _]) rfl ?_
  refine XW_sr ?_
  refine OW_fa rfl rfl rfl ?_
  refine OW_loadR hS1 (k := 0) rfl rfl rfl rfl rfl (by first | exact part_whole rfl rfl rfl | rfl) ?_
  refine OW_fa rfl rfl rfl ?_
  refine OW_env (e' := [_, _, _, _, _, _, _, _, _, _, _, _]) rfl ?_
  refine OW_loadR hS1 (k := 0) rfl rfl rfl rfl rfl (by first | exact part_whole rfl rfl rfl | rfl) ?_
  refine OW_fa rfl rfl rfl ?_
  refine OW_loadR hS1 (k := 0) rfl rfl rfl rfl rfl (by first | exact part_whole rfl rfl rfl | rfl) ?_
  refine OW_env (e' := [_, _, _, _, _, _, _, _, _, _, _, _]) rfl ?_
  refine OW_fa rfl rfl rfl ?_
  refine OW_loadR hS1 (k := 0) rfl rfl rfl rfl rfl (by first | exact part_whole rfl rfl rfl | rfl) ?_
  refine OW_fn rfl rfl (radW h ?_) 
  refine OW_env (e' := [_, _, _, _, _, _, _, _, _, _, _, _]) rfl ?_
  refine OW_as rfl rfl ?_
  refine OW_nilE (e' := [_, _, _, _, _, _, _, _, _, _, _, _]) rfl ?_
  refine XW_ret ?_
  -- outcome 1
  refine ret_ret (res1 rfl (rv_tmp rfl)) (frz1 (Q := Q) (by first | exact freeze_plain rfl | exact Ls.freeze (by assumption) | exact Ls.freeze Ls.of | exact Ls.freeze Ls.emp | exact Ls.freeze Ls.nls) ?_)
  exact hq
theorem parseW {s : ByteArray} (hs : s.size ≤ 4611686018427387904) (hq : Q (.tup [(resL s).1.enc, .bool (resL s).2]) H) : CW cfg ν 9 [.str s] H Q := by
  have z1 := resU_size s; have z2 := resU_size (resU s).2.1; have z3 := resU_size (resU (resU s).2.1).2.1; have z4 := resU_size (resU (resU (resU s).2.1).2.1).2.1
  rw [resL_eq] at hq
  refine CW_pure g9 F9 rfl ?_
  have hS0 : Own ν ν (fun _ => none) [] := Own.nil
  refine XW_sr ?_
  refine OW_allocR hS0 (le_app (p := ν) (b := [0, 0])) (under_app [0, 0] under_me) rfl rfl rfl rfl fun H1 hS1 => ?_
  replace hS1 : Own _ _ _ ([_]) := hS1
  refine OW_as rfl rfl ?_
  refine OW_nilE (e' := [_, _, _, _, _, _, _, _, _, _, _, _, _, _, _, _, _, _, _, _, _, _, _, _, _, _, _, _, _, _, _, _, _, _, _, _, _, _]) rfl ?_
  refine XW_sr ?_
  refine OW_allocR hS1 (le_lit (ν := ν) (a := [1, 0]) (b := [0, 0, 1]) (by decide)) (under_app [0, 0, 1] under_me) rfl rfl rfl rfl fun H2 hS2 => ?_
  replace hS2 : Own _ _ _ ([_, _]) := hS2
  refine OW_nilE (e' := [_, _, _, _, _, _, _, _, _, _, _, _, _, _, _, _, _, _, _, _, _, _, _, _, _, _, _, _, _, _, _, _, _, _, _, _, _, _]) rfl ?_
  refine XW_seq ?_
  refine XW_sr ?_
  refine OW_fa rfl rfl rfl ?_
  refine OW_fa rfl rfl rfl ?_
  refine OW_fa rfl rfl rfl ?_
  refine OW_env (e' := [_, _, _, _, _, _, _, _, _, _, _, _, _, _, _, _, _, _, _, _, _, _, _, _, _, _, _, _, _, _, _, _, _, _, _, _, _, _]) rfl ?_
  refine OW_fa rfl rfl rfl ?_
  refine OW_bs rfl rfl (v := .lst [_, _, _, _]) rfl ?_
  first
  | refine OW_lenL rfl rfl (by first | assumption | exact Ls.of | exact Ls.emp | exact Ls.nls) rfl rfl rfl (by first | exact List.length_map _ | rfl) ?_
  | refine OW_bi rfl rfl rfl ?_
  refine OW_env (e' := [_, _, _, _, _, _, _, _, _, _, _, _, _, _, _, _, _, _, _, _, _, _, _, _, _, _, _, _, _, _, _, _, _, _, _, _, _, _]) rfl ?_
  refine OW_mv rfl rfl ?_
  refine OW_nilE (e' := [_, _, _, _, _, _, _, _, _, _, _, _, _, _, _, _, _, _, _, _, _, _, _, _, _, _, _, _, _, _, _, _, _, _, _, _, _, _]) rfl ?_
  refine XW_block ?_
  refine XW_loop ?_
  refine XW_sr ?_
  refine OW_bin rfl rfl rfl rfl rfl ?_
  refine OW_nilE (e' := [_, _, _, _, _, _, _, _, _, _, _, _, _, _, _, _, _, _, _, _, _, _, _, _, _, _, _, _, _, _, _, _, _, _, _, _, _, _]) rfl ?_
  refine XW_seq ?_
  refine XW_yes rfl (by first | rfl | decide | (simp; omega)) ?_
  refine XW_skip ?_
  refine then_norm ?_
  refine XW_seq ?_
  refine XW_block ?_
  refine XW_sr ?_
  first
  | refine OW_iaL rfl rfl rfl Ls.of rfl rfl rfl (by first | rfl | exact (Int.toNat_of_nonneg (by omega)).symm) (by first | assumption | exact at_map (by first | assumption | omega) | exact at_lst (by omega) | rfl) rfl ?_
  | refine OW_iaL rfl rfl rfl (by assumption) rfl rfl rfl (by first | rfl | exact (Int.toNat_of_nonneg (by omega)).symm) (by first | assumption | exact at_map (by first | assumption | omega) | exact at_lst (by omega) | rfl) rfl ?_
  refine OW_loadE rfl rfl rfl (by first | exact part_whole rfl rfl rfl | rfl) ?_
  refine OW_as rfl rfl ?_
  refine OW_nilE (e' := [_, _, _, _, _, _, _, _, _, _, _, _, _, _, _, _, _, _, _, _, _, _, _, _, _, _, _, _, _, _, _, _, _, _, _, _, _, _]) rfl ?_
  refine XW_sr ?_
  refine OW_mv rfl rfl ?_
  refine OW_fn rfl rfl (takeU_c (by first | assumption | omega) ?_) 
  refine OW_mv rfl rfl ?_
  refine OW_env (e' := [_, _, _, _, _, _, _, _, _, _, _, _, _, _, _, _, _, _, _, _, _, _, _, _, _, _, _, _, _, _, _, _, _, _, _, _, _, _]) rfl ?_
  refine OW_ex rfl rfl rfl ?_
  refine OW_ex rfl rfl rfl ?_
  refine OW_ex rfl rfl rfl ?_
  refine OW_env (e' := [_, _, _, _, _, _, _, _, _, _, _, _, _, _, _, _, _, _, _, _, _, _, _, _, _, _, _, _, _, _, _, _, _, _, _, _, _, _]) rfl ?_
  refine OW_as rfl rfl ?_
  refine OW_as rfl rfl ?_
  refine OW_as rfl rfl ?_
  refine OW_nilE (e' := [_, _, _, _, _, _, _, _, _, _, _, _, _, _, _, _, _, _, _, _, _, _, _, _, _, _, _, _, _, _, _, _, _, _, _, _, _, _]) rfl ?_
  refine XW_seq ?_
  refine XW_sr ?_
  refine OW_mv rfl rfl ?_
  refine OW_un rfl rfl rfl ?_
  refine OW_nilE (e' := [_, _, _, _, _, _, _, _, _, _, _, _, _, _, _, _, _, _, _, _, _, _, _, _, _, _, _, _, _, _, _, _, _, _, _, _, _, _]) rfl ?_
  refine XW_if rfl (fun h6 => ?_) (fun h6 => ?_)
  · try simp only [decide_eq_true_eq, decide_eq_false_iff_not, Bool.not_eq_true', Bool.not_eq_false', Bool.and_eq_true, Bool.or_eq_true, Bool.not_eq_true, Bool.not_eq_false, Decidable.not_not, bne_iff_ne, beq_iff_eq, List.length_append, List.length_cons, List.length_nil, List.length_drop, List.length_take] at h6
    refine XW_sr ?_
    refine OW_bd rfl rfl (v := .agg [_, _, _, _]) rfl ?_
    first
    | refine OW_storeR hS2 (k := 1) rfl (le_lit (ν := ν) (a := [1, 0, 1]) (b := [1, 0, 1, 0, 1, 1, 0, 1, 1, 0, 1, 0, 1, 1]) (by decide)) rfl rfl rfl rfl ⟨rfl, rfl, Nat.le_of_ble_eq_true rfl⟩ (set_whole rfl rfl) fun H3 hS3 => ?_
    | refine OW_storeR hS2 (k := 1) rfl (le_lit (ν := ν) (a := [1, 0, 1]) (b := [1, 0, 1, 0, 1, 1, 0, 1, 1, 0, 1, 0, 1, 1]) (by decide)) rfl rfl rfl rfl ⟨rfl, rfl, Nat.le_of_ble_eq_true rfl⟩ (u2 := .agg [_, _, _, _]) rfl fun H3 hS3 => ?_
    replace hS3 : Own _ _ _ ([_, _]) := hS3
    refine OW_as rfl rfl ?_
    refine OW_nilE (e' := [_, _, _, _, _, _, _, _, _, _, _, _, _, _, _, _, _, _, _, _, _, _, _, _, _, _, _, _, _, _, _, _, _, _, _, _, _, _]) rfl ?_
    refine XW_ret ?_
    refine then_ret ?_
    refine block_ret ?_
    refine then_ret ?_
    refine then_ret ?_
    refine block_ret ?_
    refine then_ret ?_
    -- outcome 1
    refine ret_ret (res2 rfl (rv_cellR hS3 (k := 1) rfl rfl rfl rfl (by first | exact part_whole rfl rfl rfl | rfl)) (rv_tmp rfl)) (frz2 (Q := Q) (by first | exact freeze_plain rfl | exact Ls.freeze (by assumption) | exact Ls.freeze Ls.of | exact Ls.freeze Ls.emp | exact Ls.freeze Ls.nls) (by first | exact freeze_plain rfl | exact Ls.freeze (by assumption) | exact Ls.freeze Ls.of | exact Ls.freeze Ls.emp | exact Ls.freeze Ls.nls) ?_)
    first | (rw [if_pos ⟨by simp_all, by simp_all, by simp_all, by simp_all, by simp_all⟩] at hq; exact hq) | (rw [if_neg (by rintro ⟨a1, a2, a3, a4, a5⟩; simp_all)] at hq; exact hq)
  · try simp only [decide_eq_true_eq, decide_eq_false_iff_not, Bool.not_eq_true', Bool.not_eq_false', Bool.and_eq_true, Bool.or_eq_true, Bool.not_eq_true, Bool.not_eq_false, Decidable.not_not, bne_iff_ne, beq_iff_eq, List.length_append, List.length_cons, List.length_nil, List.length_drop, List.length_take] at h6
    refine XW_skip ?_
    refine then_norm ?_
    refine XW_region ?_
    refine OW_mv rfl rfl ?_
    refine OW_mv rfl rfl ?_
    refine OW_mv rfl rfl ?_
    refine OW_env (e' := [_, _, _, _, _, _, _, _, _, _, _, _, _, _, _, _, _, _, _, _, _, _, _, _, _, _, _, _, _, _, _, _, _, _, _, _, _, _]) rfl ?_
    first
    | refine OW_nc rfl rfl ?_
    | refine OW_nce rfl rfl ?_
    refine OW_storeR hS2 (k := 0) rfl (le_lit (ν := ν) (a := [1, 0, 1]) (b := [4, 1, 1, 1, 0, 1, 1, 0, 1, 0, 1, 1]) (by decide)) rfl rfl rfl rfl ⟨rfl, rfl, Nat.le_of_ble_eq_true rfl⟩ (u2 := .agg [_, _, _, _]) rfl fun H4 hS4 => ?_
    replace hS4 : Own _ _ _ ([_, _]) := hS4
    refine OW_as rfl rfl ?_
    refine OW_nilE (e' := [_, _, _, _, _, _, _, _, _, _, _, _, _, _, _, _, _, _, _, _, _, _, _, _, _, _, _, _, _, _, _, _, _, _, _, _, _, _]) rfl ?_
    refine block_norm ?_
    refine then_norm ?_
    refine XW_region ?_
    first
    | refine OW_bin rfl rfl rfl rfl (add_w64 (by first | omega | assumption | (simp only [ByteArray.size_append, ByteArray.size_extract, List.length_map, List.length_append, List.length_cons, List.length_nil, List.length_drop, List.length_take]; omega))) ?_
    | refine OW_bin rfl rfl rfl rfl rfl ?_
    refine OW_mv rfl rfl ?_
    refine OW_nilE (e' := [_, _, _, _, _, _, _, _, _, _, _, _, _, _, _, _, _, _, _, _, _, _, _, _, _, _, _, _, _, _, _, _, _, _, _, _, _, _]) rfl ?_
    refine then_norm ?_
    refine XW_loop ?_
    refine XW_sr ?_
    refine OW_bin rfl rfl rfl rfl rfl ?_
    refine OW_nilE (e' := [_, _, _, _, _, _, _, _, _, _, _, _, _, _, _, _, _, _, _, _, _, _, _, _, _, _, _, _, _, _, _, _, _, _, _, _, _, _]) rfl ?_
    refine XW_seq ?_
    refine XW_yes rfl (by first | rfl | decide | (simp; omega)) ?_
    refine XW_skip ?_
    refine then_norm ?_
    refine XW_seq ?_
    refine XW_block ?_
    refine XW_sr ?_
    first
    | refine OW_iaL rfl rfl rfl Ls.of rfl rfl rfl (by first | rfl | exact (Int.toNat_of_nonneg (by omega)).symm) (by first | assumption | exact at_map (by first | assumption | omega) | exact at_lst (by omega) | rfl) rfl ?_
    | refine OW_iaL rfl rfl rfl (by assumption) rfl rfl rfl (by first | rfl | exact (Int.toNat_of_nonneg (by omega)).symm) (by first | assumption | exact at_map (by first | assumption | omega) | exact at_lst (by omega) | rfl) rfl ?_
    refine OW_loadE rfl rfl rfl (by first | exact part_whole rfl rfl rfl | rfl) ?_
    refine OW_as rfl rfl ?_
    refine OW_nilE (e' := [_, _, _, _, _, _, _, _, _, _, _, _, _, _, _, _, _, _, _, _, _, _, _, _, _, _, _, _, _, _, _, _, _, _, _, _, _, _]) rfl ?_
    refine XW_sr ?_
    refine OW_mv rfl rfl ?_
    refine OW_fn rfl rfl (takeU_c (by first | assumption | omega) ?_) 
    refine OW_mv rfl rfl ?_
    refine OW_env (e' := [_, _, _, _, _, _, _, _, _, _, _, _, _, _, _, _, _, _, _, _, _, _, _, _, _, _, _, _, _, _, _, _, _, _, _, _, _, _]) rfl ?_
    refine OW_ex rfl rfl rfl ?_
    refine OW_ex rfl rfl rfl ?_
    refine OW_ex rfl rfl rfl ?_
    refine OW_env (e' := [_, _, _, _, _, _, _, _, _, _, _, _, _, _, _, _, _, _, _, _, _, _, _, _, _, _, _, _, _, _, _, _, _, _, _, _, _, _]) rfl ?_
    refine OW_as rfl rfl ?_
    refine OW_as rfl rfl ?_
    refine OW_as rfl rfl ?_
    refine OW_nilE (e' := [_, _, _, _, _, _, _, _, _, _, _, _, _, _, _, _, _, _, _, _, _, _, _, _, _, _, _, _, _, _, _, _, _, _, _, _, _, _]) rfl ?_
    refine XW_seq ?_
    refine XW_sr ?_
    refine OW_mv rfl rfl ?_
    refine OW_un rfl rfl rfl ?_
    refine OW_nilE (e' := [_, _, _, _, _, _, _, _, _, _, _, _, _, _, _, _, _, _, _, _, _, _, _, _, _, _, _, _, _, _, _, _, _, _, _, _, _, _]) rfl ?_
    refine XW_if rfl (fun h6 => ?_) (fun h6 => ?_)
    · try simp only [decide_eq_true_eq, decide_eq_false_iff_not, Bool.not_eq_true', Bool.not_eq_false', Bool.and_eq_true, Bool.or_eq_true, Bool.not_eq_true, Bool.not_eq_false, Decidable.not_not, bne_iff_ne, beq_iff_eq, List.length_append, List.length_cons, List.length_nil, List.length_drop, List.length_take] at h6
      refine XW_sr ?_
      refine OW_bd rfl rfl (v := .agg [_, _, _, _]) rfl ?_
      first
      | refine OW_storeR hS4 (k := 1) rfl (le_lit (ν := ν) (a := [5, 1, 1, 1, 0, 1, 1, 0, 1, 0, 1, 1]) (b := [1, 0, 1, 0, 1, 1, 0, 1, 1, 0, 1, 1, 0, 1, 1]) (by decide)) rfl rfl rfl rfl ⟨rfl, rfl, Nat.le_of_ble_eq_true rfl⟩ (set_whole rfl rfl) fun H5 hS5 => ?_
      | refine OW_storeR hS4 (k := 1) rfl (le_lit (ν := ν) (a := [5, 1, 1, 1, 0, 1, 1, 0, 1, 0, 1, 1]) (b := [1, 0, 1, 0, 1, 1, 0, 1, 1, 0, 1, 1, 0, 1, 1]) (by decide)) rfl rfl rfl rfl ⟨rfl, rfl, Nat.le_of_ble_eq_true rfl⟩ (u2 := .agg [_, _, _, _]) rfl fun H5 hS5 => ?_
      replace hS5 : Own _ _ _ ([_, _]) := hS5
      refine OW_as rfl rfl ?_
      refine OW_nilE (e' := [_, _, _, _, _, _, _, _, _, _, _, _, _, _, _, _, _, _, _, _, _, _, _, _, _, _, _, _, _, _, _, _, _, _, _, _, _, _]) rfl ?_
      refine XW_ret ?_
      refine then_ret ?_
      refine block_ret ?_
      refine then_ret ?_
      refine then_ret ?_
      refine block_ret ?_
      refine then_ret ?_
      -- outcome 2
      refine ret_ret (res2 rfl (rv_cellR hS5 (k := 1) rfl rfl rfl rfl (by first | exact part_whole rfl rfl rfl | rfl)) (rv_tmp rfl)) (frz2 (Q := Q) (by first | exact freeze_plain rfl | exact Ls.freeze (by assumption) | exact Ls.freeze Ls.of | exact Ls.freeze Ls.emp | exact Ls.freeze Ls.nls) (by first | exact freeze_plain rfl | exact Ls.freeze (by assumption) | exact Ls.freeze Ls.of | exact Ls.freeze Ls.emp | exact Ls.freeze Ls.nls) ?_)
      first | (rw [if_pos ⟨by simp_all, by simp_all, by simp_all, by simp_all, by simp_all⟩] at hq; exact hq) | (rw [if_neg (by rintro ⟨a1, a2, a3, a4, a5⟩; simp_all)] at hq; exact hq)
    · try simp only [decide_eq_true_eq, decide_eq_false_iff_not, Bool.not_eq_true', Bool.not_eq_false', Bool.and_eq_true, Bool.or_eq_true, Bool.not_eq_true, Bool.not_eq_false, Decidable.not_not, bne_iff_ne, beq_iff_eq, List.length_append, List.length_cons, List.length_nil, List.length_drop, List.length_take] at h6
      refine XW_skip ?_
      refine then_norm ?_
      refine XW_region ?_
      refine OW_mv rfl rfl ?_
      refine OW_mv rfl rfl ?_
      refine OW_mv rfl rfl ?_
      refine OW_env (e' := [_, _, _, _, _, _, _, _, _, _, _, _, _, _, _, _, _, _, _, _, _, _, _, _, _, _, _, _, _, _, _, _, _, _, _, _, _, _]) rfl ?_
      first
      | refine OW_nc rfl rfl ?_
      | refine OW_nce rfl rfl ?_
      refine OW_storeR hS4 (k := 0) rfl (le_lit (ν := ν) (a := [5, 1, 1, 1, 0, 1, 1, 0, 1, 0, 1, 1]) (b := [4, 1, 1, 1, 0, 1, 1, 0, 1, 1, 0, 1, 1]) (by decide)) rfl rfl rfl rfl ⟨rfl, rfl, Nat.le_of_ble_eq_true rfl⟩ (u2 := .agg [_, _, _, _]) rfl fun H6 hS6 => ?_
      replace hS6 : Own _ _ _ ([_, _]) := hS6
      refine OW_as rfl rfl ?_
      refine OW_nilE (e' := [_, _, _, _, _, _, _, _, _, _, _, _, _, _, _, _, _, _, _, _, _, _, _, _, _, _, _, _, _, _, _, _, _, _, _, _, _, _]) rfl ?_
      refine block_norm ?_
      refine then_norm ?_
      refine XW_region ?_
      first
      | refine OW_bin rfl rfl rfl rfl (add_w64 (by first | omega | assumption | (simp only [ByteArray.size_append, ByteArray.size_extract, List.length_map, List.length_append, List.length_cons, List.length_nil, List.length_drop, List.length_take]; omega))) ?_
      | refine OW_bin rfl rfl rfl rfl rfl ?_
      refine OW_mv rfl rfl ?_
      refine OW_nilE (e' := [_, _, _, _, _, _, _, _, _, _, _, _, _, _, _, _, _, _, _, _, _, _, _, _, _, _, _, _, _, _, _, _, _, _, _, _, _, _]) rfl ?_
      refine then_norm ?_
      refine XW_loop ?_
      refine XW_sr ?_
      refine OW_bin rfl rfl rfl rfl rfl ?_
      refine OW_nilE (e' := [_, _, _, _, _, _, _, _, _, _, _, _, _, _, _, _, _, _, _, _, _, _, _, _, _, _, _, _, _, _, _, _, _, _, _, _, _, _]) rfl ?_
      refine XW_seq ?_
      refine XW_yes rfl (by first | rfl | decide | (simp; omega)) ?_
      refine XW_skip ?_
      refine then_norm ?_
      refine XW_seq ?_
      refine XW_block ?_
      refine XW_sr ?_
      first
      | refine OW_iaL rfl rfl rfl Ls.of rfl rfl rfl (by first | rfl | exact (Int.toNat_of_nonneg (by omega)).symm) (by first | assumption | exact at_map (by first | assumption | omega) | exact at_lst (by omega) | rfl) rfl ?_
      | refine OW_iaL rfl rfl rfl (by assumption) rfl rfl rfl (by first | rfl | exact (Int.toNat_of_nonneg (by omega)).symm) (by first | assumption | exact at_map (by first | assumption | omega) | exact at_lst (by omega) | rfl) rfl ?_
      refine OW_loadE rfl rfl rfl (by first | exact part_whole rfl rfl rfl | rfl) ?_
      refine OW_as rfl rfl ?_
      refine OW_nilE (e' := [_, _, _, _, _, _, _, _, _, _, _, _, _, _, _, _, _, _, _, _, _, _, _, _, _, _, _, _, _, _, _, _, _, _, _, _, _, _]) rfl ?_
      refine XW_sr ?_
      refine OW_mv rfl rfl ?_
      refine OW_fn rfl rfl (takeU_c (by first | assumption | omega) ?_) 
      refine OW_mv rfl rfl ?_
      refine OW_env (e' := [_, _, _, _, _, _, _, _, _, _, _, _, _, _, _, _, _, _, _, _, _, _, _, _, _, _, _, _, _, _, _, _, _, _, _, _, _, _]) rfl ?_
      refine OW_ex rfl rfl rfl ?_
      refine OW_ex rfl rfl rfl ?_
      refine OW_ex rfl rfl rfl ?_
      refine OW_env (e' := [_, _, _, _, _, _, _, _, _, _, _, _, _, _, _, _, _, _, _, _, _, _, _, _, _, _, _, _, _, _, _, _, _, _, _, _, _, _]) rfl ?_
      refine OW_as rfl rfl ?_
      refine OW_as rfl rfl ?_
      refine OW_as rfl rfl ?_
      refine OW_nilE (e' := [_, _, _, _, _, _, _, _, _, _, _, _, _, _, _, _, _, _, _, _, _, _, _, _, _, _, _, _, _, _, _, _, _, _, _, _, _, _]) rfl ?_
      refine XW_seq ?_
      refine XW_sr ?_
      refine OW_mv rfl rfl ?_
      refine OW_un rfl rfl rfl ?_
      refine OW_nilE (e' := [_, _, _, _, _, _, _, _, _, _, _, _, _, _, _, _, _, _, _, _, _, _, _, _, _, _, _, _, _, _, _, _, _, _, _, _, _, _]) rfl ?_
      refine XW_if rfl (fun h6 => ?_) (fun h6 => ?_)
      · try simp only [decide_eq_true_eq, decide_eq_false_iff_not, Bool.not_eq_true', Bool.not_eq_false', Bool.and_eq_true, Bool.or_eq_true, Bool.not_eq_true, Bool.not_eq_false, Decidable.not_not, bne_iff_ne, beq_iff_eq, List.length_append, List.length_cons, List.length_nil, List.length_drop, List.length_take] at h6
        refine XW_sr ?_
        refine OW_bd rfl rfl (v := .agg [_, _, _, _]) rfl ?_
        first
        | refine OW_storeR hS6 (k := 1) rfl (le_lit (ν := ν) (a := [5, 1, 1, 1, 0, 1, 1, 0, 1, 1, 0, 1, 1]) (b := [1, 0, 1, 0, 1, 1, 0, 1, 1, 0, 1, 1, 1, 0, 1, 1]) (by decide)) rfl rfl rfl rfl ⟨rfl, rfl, Nat.le_of_ble_eq_true rfl⟩ (set_whole rfl rfl) fun H7 hS7 => ?_
        | refine OW_storeR hS6 (k := 1) rfl (le_lit (ν := ν) (a := [5, 1, 1, 1, 0, 1, 1, 0, 1, 1, 0, 1, 1]) (b := [1, 0, 1, 0, 1, 1, 0, 1, 1, 0, 1, 1, 1, 0, 1, 1]) (by decide)) rfl rfl rfl rfl ⟨rfl, rfl, Nat.le_of_ble_eq_true rfl⟩ (u2 := .agg [_, _, _, _]) rfl fun H7 hS7 => ?_
        replace hS7 : Own _ _ _ ([_, _]) := hS7
        refine OW_as rfl rfl ?_
        refine OW_nilE (e' := [_, _, _, _, _, _, _, _, _, _, _, _, _, _, _, _, _, _, _, _, _, _, _, _, _, _, _, _, _, _, _, _, _, _, _, _, _, _]) rfl ?_
        refine XW_ret ?_
        refine then_ret ?_
        refine block_ret ?_
        refine then_ret ?_
        refine then_ret ?_
        refine block_ret ?_
        refine then_ret ?_
        -- outcome 3
        refine ret_ret (res2 rfl (rv_cellR hS7 (k := 1) rfl rfl rfl rfl (by first | exact part_whole rfl rfl rfl | rfl)) (rv_tmp rfl)) (frz2 (Q := Q) (by first | exact freeze_plain rfl | exact Ls.freeze (by assumption) | exact Ls.freeze Ls.of | exact Ls.freeze Ls.emp | exact Ls.freeze Ls.nls) (by first | exact freeze_plain rfl | exact Ls.freeze (by assumption) | exact Ls.freeze Ls.of | exact Ls.freeze Ls.emp | exact Ls.freeze Ls.nls) ?_)
        first | (rw [if_pos ⟨by simp_all, by simp_all, by simp_all, by simp_all, by simp_all⟩] at hq; exact hq) | (rw [if_neg (by rintro ⟨a1, a2, a3, a4, a5⟩; simp_all)] at hq; exact hq)
      · try simp only [decide_eq_true_eq, decide_eq_false_iff_not, Bool.not_eq_true', Bool.not_eq_false', Bool.and_eq_true, Bool.or_eq_true, Bool.not_eq_true, Bool.not_eq_false, Decidable.not_not, bne_iff_ne, beq_iff_eq, List.length_append, List.length_cons, List.length_nil, List.length_drop, List.length_take] at h6
        refine XW_skip ?_
        refine then_norm ?_
        refine XW_region ?_
        refine OW_mv rfl rfl ?_
        refine OW_mv rfl rfl ?_
        refine OW_mv rfl rfl ?_
        refine OW_env (e' := [_, _, _, _, _, _, _, _, _, _, _, _, _, _, _, _, _, _, _, _, _, _, _, _, _, _, _, _, _, _, _, _, _, _, _, _, _, _]) rfl ?_
        first
        | refine OW_nc rfl rfl ?_
        | refine OW_nce rfl rfl ?_
        refine OW_storeR hS6 (k := 0) rfl (le_lit (ν := ν) (a := [5, 1, 1, 1, 0, 1, 1, 0, 1, 1, 0, 1, 1]) (b := [4, 1, 1, 1, 0, 1, 1, 0, 1, 1, 1, 0, 1, 1]) (by decide)) rfl rfl rfl rfl ⟨rfl, rfl, Nat.le_of_ble_eq_true rfl⟩ (u2 := .agg [_, _, _, _]) rfl fun H8 hS8 => ?_
        replace hS8 : Own _ _ _ ([_, _]) := hS8
        refine OW_as rfl rfl ?_
        refine OW_nilE (e' := [_, _, _, _, _, _, _, _, _, _, _, _, _, _, _, _, _, _, _, _, _, _, _, _, _, _, _, _, _, _, _, _, _, _, _, _, _, _]) rfl ?_
        refine block_norm ?_
        refine then_norm ?_
        refine XW_region ?_
        first
        | refine OW_bin rfl rfl rfl rfl (add_w64 (by first | omega | assumption | (simp only [ByteArray.size_append, ByteArray.size_extract, List.length_map, List.length_append, List.length_cons, List.length_nil, List.length_drop, List.length_take]; omega))) ?_
        | refine OW_bin rfl rfl rfl rfl rfl ?_
        refine OW_mv rfl rfl ?_
        refine OW_nilE (e' := [_, _, _, _, _, _, _, _, _, _, _, _, _, _, _, _, _, _, _, _, _, _, _, _, _, _, _, _, _, _, _, _, _, _, _, _, _, _]) rfl ?_
        refine then_norm ?_
        refine XW_loop ?_
        refine XW_sr ?_
        refine OW_bin rfl rfl rfl rfl rfl ?_
        refine OW_nilE (e' := [_, _, _, _, _, _, _, _, _, _, _, _, _, _, _, _, _, _, _, _, _, _, _, _, _, _, _, _, _, _, _, _, _, _, _, _, _, _]) rfl ?_
        refine XW_seq ?_
        refine XW_yes rfl (by first | rfl | decide | (simp; omega)) ?_
        refine XW_skip ?_
        refine then_norm ?_
        refine XW_seq ?_
        refine XW_block ?_
        refine XW_sr ?_
        first
        | refine OW_iaL rfl rfl rfl Ls.of rfl rfl rfl (by first | rfl | exact (Int.toNat_of_nonneg (by omega)).symm) (by first | assumption | exact at_map (by first | assumption | omega) | exact at_lst (by omega) | rfl) rfl ?_
        | refine OW_iaL rfl rfl rfl (by assumption) rfl rfl rfl (by first | rfl | exact (Int.toNat_of_nonneg (by omega)).symm) (by first | assumption | exact at_map (by first | assumption | omega) | exact at_lst (by omega) | rfl) rfl ?_
        refine OW_loadE rfl rfl rfl (by first | exact part_whole rfl rfl rfl | rfl) ?_
        refine OW_as rfl rfl ?_
        refine OW_nilE (e' := [_, _, _, _, _, _, _, _, _, _, _, _, _, _, _, _, _, _, _, _, _, _, _, _, _, _, _, _, _, _, _, _, _, _, _, _, _, _]) rfl ?_
        refine XW_sr ?_
        refine OW_mv rfl rfl ?_
        refine OW_fn rfl rfl (takeU_c (by first | assumption | omega) ?_) 
        refine OW_mv rfl rfl ?_
        refine OW_env (e' := [_, _, _, _, _, _, _, _, _, _, _, _, _, _, _, _, _, _, _, _, _, _, _, _, _, _, _, _, _, _, _, _, _, _, _, _, _, _]) rfl ?_
        refine OW_ex rfl rfl rfl ?_
        refine OW_ex rfl rfl rfl ?_
        refine OW_ex rfl rfl rfl ?_
        refine OW_env (e' := [_, _, _, _, _, _, _, _, _, _, _, _, _, _, _, _, _, _, _, _, _, _, _, _, _, _, _, _, _, _, _, _, _, _, _, _, _, _]) rfl ?_
        refine OW_as rfl rfl ?_
        refine OW_as rfl rfl ?_
        refine OW_as rfl rfl ?_
        refine OW_nilE (e' := [_, _, _, _, _, _, _, _, _, _, _, _, _, _, _, _, _, _, _, _, _, _, _, _, _, _, _, _, _, _, _, _, _, _, _, _, _, _]) rfl ?_
        refine XW_seq ?_
        refine XW_sr ?_
        refine OW_mv rfl rfl ?_
        refine OW_un rfl rfl rfl ?_
        refine OW_nilE (e' := [_, _, _, _, _, _, _, _, _, _, _, _, _, _, _, _, _, _, _, _, _, _, _, _, _, _, _, _, _, _, _, _, _, _, _, _, _, _]) rfl ?_
        refine XW_if rfl (fun h6 => ?_) (fun h6 => ?_)
        · try simp only [decide_eq_true_eq, decide_eq_false_iff_not, Bool.not_eq_true', Bool.not_eq_false', Bool.and_eq_true, Bool.or_eq_true, Bool.not_eq_true, Bool.not_eq_false, Decidable.not_not, bne_iff_ne, beq_iff_eq, List.length_append, List.length_cons, List.length_nil, List.length_drop, List.length_take] at h6
          refine XW_sr ?_
          refine OW_bd rfl rfl (v := .agg [_, _, _, _]) rfl ?_
          first
          | refine OW_storeR hS8 (k := 1) rfl (le_lit (ν := ν) (a := [5, 1, 1, 1, 0, 1, 1, 0, 1, 1, 1, 0, 1, 1]) (b := [1, 0, 1, 0, 1, 1, 0, 1, 1, 0, 1, 1, 1, 1, 0, 1, 1]) (by decide)) rfl rfl rfl rfl ⟨rfl, rfl, Nat.le_of_ble_eq_true rfl⟩ (set_whole rfl rfl) fun H9 hS9 => ?_
          | refine OW_storeR hS8 (k := 1) rfl (le_lit (ν := ν) (a := [5, 1, 1, 1, 0, 1, 1, 0, 1, 1, 1, 0, 1, 1]) (b := [1, 0, 1, 0, 1, 1, 0, 1, 1, 0, 1, 1, 1, 1, 0, 1, 1]) (by decide)) rfl rfl rfl rfl ⟨rfl, rfl, Nat.le_of_ble_eq_true rfl⟩ (u2 := .agg [_, _, _, _]) rfl fun H9 hS9 => ?_
          replace hS9 : Own _ _ _ ([_, _]) := hS9
          refine OW_as rfl rfl ?_
          refine OW_nilE (e' := [_, _, _, _, _, _, _, _, _, _, _, _, _, _, _, _, _, _, _, _, _, _, _, _, _, _, _, _, _, _, _, _, _, _, _, _, _, _]) rfl ?_
          refine XW_ret ?_
          refine then_ret ?_
          refine block_ret ?_
          refine then_ret ?_
          refine then_ret ?_
          refine block_ret ?_
          refine then_ret ?_
          -- outcome 4
          refine ret_ret (res2 rfl (rv_cellR hS9 (k := 1) rfl rfl rfl rfl (by first | exact part_whole rfl rfl rfl | rfl)) (rv_tmp rfl)) (frz2 (Q := Q) (by first | exact freeze_plain rfl | exact Ls.freeze (by assumption) | exact Ls.freeze Ls.of | exact Ls.freeze Ls.emp | exact Ls.freeze Ls.nls) (by first | exact freeze_plain rfl | exact Ls.freeze (by assumption) | exact Ls.freeze Ls.of | exact Ls.freeze Ls.emp | exact Ls.freeze Ls.nls) ?_)
          first | (rw [if_pos ⟨by simp_all, by simp_all, by simp_all, by simp_all, by simp_all⟩] at hq; exact hq) | (rw [if_neg (by rintro ⟨a1, a2, a3, a4, a5⟩; simp_all)] at hq; exact hq)
        · try simp only [decide_eq_true_eq, decide_eq_false_iff_not, Bool.not_eq_true', Bool.not_eq_false', Bool.and_eq_true, Bool.or_eq_true, Bool.not_eq_true, Bool.not_eq_false, Decidable.not_not, bne_iff_ne, beq_iff_eq, List.length_append, List.length_cons, List.length_nil, List.length_drop, List.length_take] at h6
          refine XW_skip ?_
          refine then_norm ?_
          refine XW_region ?_
          refine OW_mv rfl rfl ?_
          refine OW_mv rfl rfl ?_
          refine OW_mv rfl rfl ?_
          refine OW_env (e' := [_, _, _, _, _, _, _, _, _, _, _, _, _, _, _, _, _, _, _, _, _, _, _, _, _, _, _, _, _, _, _, _, _, _, _, _, _, _]) rfl ?_
          first
          | refine OW_nc rfl rfl ?_
          | refine OW_nce rfl rfl ?_
          refine OW_storeR hS8 (k := 0) rfl (le_lit (ν := ν) (a := [5, 1, 1, 1, 0, 1, 1, 0, 1, 1, 1, 0, 1, 1]) (b := [4, 1, 1, 1, 0, 1, 1, 0, 1, 1, 1, 1, 0, 1, 1]) (by decide)) rfl rfl rfl rfl ⟨rfl, rfl, Nat.le_of_ble_eq_true rfl⟩ (u2 := .agg [_, _, _, _]) rfl fun H10 hS10 => ?_
          replace hS10 : Own _ _ _ ([_, _]) := hS10
          refine OW_as rfl rfl ?_
          refine OW_nilE (e' := [_, _, _, _, _, _, _, _, _, _, _, _, _, _, _, _, _, _, _, _, _, _, _, _, _, _, _, _, _, _, _, _, _, _, _, _, _, _]) rfl ?_
          refine block_norm ?_
          refine then_norm ?_
          refine XW_region ?_
          first
          | refine OW_bin rfl rfl rfl rfl (add_w64 (by first | omega | assumption | (simp only [ByteArray.size_append, ByteArray.size_extract, List.length_map, List.length_append, List.length_cons, List.length_nil, List.length_drop, List.length_take]; omega))) ?_
          | refine OW_bin rfl rfl rfl rfl rfl ?_
          refine OW_mv rfl rfl ?_
          refine OW_nilE (e' := [_, _, _, _, _, _, _, _, _, _, _, _, _, _, _, _, _, _, _, _, _, _, _, _, _, _, _, _, _, _, _, _, _, _, _, _, _, _]) rfl ?_
          refine then_norm ?_
          refine XW_loop ?_
          refine XW_sr ?_
          refine OW_bin rfl rfl rfl rfl rfl ?_
          refine OW_nilE (e' := [_, _, _, _, _, _, _, _, _, _, _, _, _, _, _, _, _, _, _, _, _, _, _, _, _, _, _, _, _, _, _, _, _, _, _, _, _, _]) rfl ?_
          refine XW_seq ?_
          refine XW_no rfl (by first | rfl | decide | (simp; omega)) ?_
          refine XW_exit ?_
          refine then_exit ?_
          refine then_exit ?_
          refine block_exit ?_
          refine then_norm ?_
          refine XW_seq ?_
          refine XW_sr ?_
          refine OW_mv rfl rfl ?_
          refine OW_bin rfl rfl rfl rfl rfl ?_
          refine OW_nilE (e' := [_, _, _, _, _, _, _, _, _, _, _, _, _, _, _, _, _, _, _, _, _, _, _, _, _, _, _, _, _, _, _, _, _, _, _, _, _, _]) rfl ?_
          refine XW_if rfl (fun h10 => ?_) (fun h10 => ?_)
          · try simp only [decide_eq_true_eq, decide_eq_false_iff_not, Bool.not_eq_true', Bool.not_eq_false', Bool.and_eq_true, Bool.or_eq_true, Bool.not_eq_true, Bool.not_eq_false, Decidable.not_not, bne_iff_ne, beq_iff_eq, List.length_append, List.length_cons, List.length_nil, List.length_drop, List.length_take] at h10
            refine XW_sr ?_
            refine OW_bd rfl rfl (v := .agg [_, _, _, _]) rfl ?_
            first
            | refine OW_storeR hS10 (k := 1) rfl (le_lit (ν := ν) (a := [5, 1, 1, 1, 0, 1, 1, 0, 1, 1, 1, 1, 0, 1, 1]) (b := [1, 0, 1, 0, 1, 1, 1]) (by decide)) rfl rfl rfl rfl ⟨rfl, rfl, Nat.le_of_ble_eq_true rfl⟩ (set_whole rfl rfl) fun H11 hS11 => ?_
            | refine OW_storeR hS10 (k := 1) rfl (le_lit (ν := ν) (a := [5, 1, 1, 1, 0, 1, 1, 0, 1, 1, 1, 1, 0, 1, 1]) (b := [1, 0, 1, 0, 1, 1, 1]) (by decide)) rfl rfl rfl rfl ⟨rfl, rfl, Nat.le_of_ble_eq_true rfl⟩ (u2 := .agg [_, _, _, _]) rfl fun H11 hS11 => ?_
            replace hS11 : Own _ _ _ ([_, _]) := hS11
            refine OW_as rfl rfl ?_
            refine OW_nilE (e' := [_, _, _, _, _, _, _, _, _, _, _, _, _, _, _, _, _, _, _, _, _, _, _, _, _, _, _, _, _, _, _, _, _, _, _, _, _, _]) rfl ?_
            refine XW_ret ?_
            refine then_ret ?_
            -- outcome 5
            refine ret_ret (res2 rfl (rv_cellR hS11 (k := 1) rfl rfl rfl rfl (by first | exact part_whole rfl rfl rfl | rfl)) (rv_tmp rfl)) (frz2 (Q := Q) (by first | exact freeze_plain rfl | exact Ls.freeze (by assumption) | exact Ls.freeze Ls.of | exact Ls.freeze Ls.emp | exact Ls.freeze Ls.nls) (by first | exact freeze_plain rfl | exact Ls.freeze (by assumption) | exact Ls.freeze Ls.of | exact Ls.freeze Ls.emp | exact Ls.freeze Ls.nls) ?_)
            first | (rw [if_pos ⟨by simp_all, by simp_all, by simp_all, by simp_all, by simp_all⟩] at hq; exact hq) | (rw [if_neg (by rintro ⟨a1, a2, a3, a4, a5⟩; simp_all)] at hq; exact hq)
          · try simp only [decide_eq_true_eq, decide_eq_false_iff_not, Bool.not_eq_true', Bool.not_eq_false', Bool.and_eq_true, Bool.or_eq_true, Bool.not_eq_true, Bool.not_eq_false, Decidable.not_not, bne_iff_ne, beq_iff_eq, List.length_append, List.length_cons, List.length_nil, List.length_drop, List.length_take] at h10
            refine XW_skip ?_
            refine then_norm ?_
            refine XW_sr ?_
            refine OW_loadR hS10 (k := 0) rfl rfl rfl rfl rfl (by first | exact part_whole rfl rfl rfl | rfl) ?_
            first
            | refine OW_storeR hS10 (k := 1) rfl (le_lit (ν := ν) (a := [5, 1, 1, 1, 0, 1, 1, 0, 1, 1, 1, 1, 0, 1, 1]) (b := [1, 0, 1, 1, 1, 1]) (by decide)) rfl rfl rfl rfl ⟨rfl, rfl, Nat.le_of_ble_eq_true rfl⟩ (set_whole rfl rfl) fun H12 hS12 => ?_
            | refine OW_storeR hS10 (k := 1) rfl (le_lit (ν := ν) (a := [5, 1, 1, 1, 0, 1, 1, 0, 1, 1, 1, 1, 0, 1, 1]) (b := [1, 0, 1, 1, 1, 1]) (by decide)) rfl rfl rfl rfl ⟨rfl, rfl, Nat.le_of_ble_eq_true rfl⟩ (u2 := .agg [_, _, _, _]) rfl fun H12 hS12 => ?_
            replace hS12 : Own _ _ _ ([_, _]) := hS12
            refine OW_as rfl rfl ?_
            refine OW_nilE (e' := [_, _, _, _, _, _, _, _, _, _, _, _, _, _, _, _, _, _, _, _, _, _, _, _, _, _, _, _, _, _, _, _, _, _, _, _, _, _]) rfl ?_
            refine XW_ret ?_
            -- outcome 6
            refine ret_ret (res2 rfl (rv_cellR hS12 (k := 1) rfl rfl rfl rfl (by first | exact part_whole rfl rfl rfl | rfl)) (rv_tmp rfl)) (frz2 (Q := Q) (by first | exact freeze_plain rfl | exact Ls.freeze (by assumption) | exact Ls.freeze Ls.of | exact Ls.freeze Ls.emp | exact Ls.freeze Ls.nls) (by first | exact freeze_plain rfl | exact Ls.freeze (by assumption) | exact Ls.freeze Ls.of | exact Ls.freeze Ls.emp | exact Ls.freeze Ls.nls) ?_)
            first | (rw [if_pos ⟨by simp_all, by simp_all, by simp_all, by simp_all, by simp_all⟩] at hq; exact hq) | (rw [if_neg (by rintro ⟨a1, a2, a3, a4, a5⟩; simp_all)] at hq; exact hq)
theorem rparseW {s : ByteArray} (hs : s.size ≤ 4611686018427387904) (hq : Q (.tup [(resL s).1.enc, .bool (resL s).2]) H) : CW cfg ν 10 [.str s] H Q := by
  have z1 := resU_size s; have z2 := resU_size (resU s).2.1; have z3 := resU_size (resU (resU s).2.1).2.1; have z4 := resU_size (resU (resU (resU s).2.1).2.1).2.1
  rw [resL_eq] at hq
  refine CW_pure g10 F10 rfl ?_
  have hS0 : Own ν ν (fun _ => none) [] := Own.nil
  refine XW_sr ?_
  refine OW_allocR hS0 (le_app (p := ν) (b := [0, 0])) (under_app [0, 0] under_me) rfl rfl rfl rfl fun H1 hS1 => ?_
  replace hS1 : Own _ _ _ ([_]) := hS1
  refine OW_as rfl rfl ?_
  refine OW_nilE (e' := [_, _, _, _, _, _, _, _, _, _, _, _, _, _, _, _, _, _, _, _, _, _, _, _, _, _, _, _, _, _, _, _, _, _, _, _, _, _, _, _, _, _, _, _, _, _, _, _, _, _, _, _, _, _, _, _, _, _, _, _, _, _, _, _]) rfl ?_
  refine XW_sr ?_
  refine OW_mv rfl rfl ?_
  refine OW_fn rfl rfl (rtakeU (by first | assumption | omega) ?_) 
  refine OW_mv rfl rfl ?_
  refine OW_env (e' := [_, _, _, _, _, _, _, _, _, _, _, _, _, _, _, _, _, _, _, _, _, _, _, _, _, _, _, _, _, _, _, _, _, _, _, _, _, _, _, _, _, _, _, _, _, _, _, _, _, _, _, _, _, _, _, _, _, _, _, _, _, _, _, _]) rfl ?_
  refine OW_ex rfl rfl rfl ?_
  refine OW_ex rfl rfl rfl ?_
  refine OW_ex rfl rfl rfl ?_
  refine OW_env (e' := [_, _, _, _, _, _, _, _, _, _, _, _, _, _, _, _, _, _, _, _, _, _, _, _, _, _, _, _, _, _, _, _, _, _, _, _, _, _, _, _, _, _, _, _, _, _, _, _, _, _, _, _, _, _, _, _, _, _, _, _, _, _, _, _]) rfl ?_
  refine OW_as rfl rfl ?_
  refine OW_as rfl rfl ?_
  refine OW_as rfl rfl ?_
  refine OW_nilE (e' := [_, _, _, _, _, _, _, _, _, _, _, _, _, _, _, _, _, _, _, _, _, _, _, _, _, _, _, _, _, _, _, _, _, _, _, _, _, _, _, _, _, _, _, _, _, _, _, _, _, _, _, _, _, _, _, _, _, _, _, _, _, _, _, _]) rfl ?_
  refine XW_sr ?_
  refine OW_mv rfl rfl ?_
  refine OW_fn rfl rfl (rtakeU (by first | assumption | omega) ?_) 
  refine OW_mv rfl rfl ?_
  refine OW_env (e' := [_, _, _, _, _, _, _, _, _, _, _, _, _, _, _, _, _, _, _, _, _, _, _, _, _, _, _, _, _, _, _, _, _, _, _, _, _, _, _, _, _, _, _, _, _, _, _, _, _, _, _, _, _, _, _, _, _, _, _, _, _, _, _, _]) rfl ?_
  refine OW_ex rfl rfl rfl ?_
  refine OW_ex rfl rfl rfl ?_
  refine OW_ex rfl rfl rfl ?_
  refine OW_env (e' := [_, _, _, _, _, _, _, _, _, _, _, _, _, _, _, _, _, _, _, _, _, _, _, _, _, _, _, _, _, _, _, _, _, _, _, _, _, _, _, _, _, _, _, _, _, _, _, _, _, _, _, _, _, _, _, _, _, _, _, _, _, _, _, _]) rfl ?_
  refine OW_as rfl rfl ?_
  refine OW_as rfl rfl ?_
  refine OW_as rfl rfl ?_
  refine OW_nilE (e' := [_, _, _, _, _, _, _, _, _, _, _, _, _, _, _, _, _, _, _, _, _, _, _, _, _, _, _, _, _, _, _, _, _, _, _, _, _, _, _, _, _, _, _, _, _, _, _, _, _, _, _, _, _, _, _, _, _, _, _, _, _, _, _, _]) rfl ?_
  refine XW_sr ?_
  refine OW_mv rfl rfl ?_
  refine OW_fn rfl rfl (rtakeU (by first | assumption | omega) ?_) 
  refine OW_mv rfl rfl ?_
  refine OW_env (e' := [_, _, _, _, _, _, _, _, _, _, _, _, _, _, _, _, _, _, _, _, _, _, _, _, _, _, _, _, _, _, _, _, _, _, _, _, _, _, _, _, _, _, _, _, _, _, _, _, _, _, _, _, _, _, _, _, _, _, _, _, _, _, _, _]) rfl ?_
  refine OW_ex rfl rfl rfl ?_
  refine OW_ex rfl rfl rfl ?_
  refine OW_ex rfl rfl rfl ?_
  refine OW_env (e' := [_, _, _, _, _, _, _, _, _, _, _, _, _, _, _, _, _, _, _, _, _, _, _, _, _, _, _, _, _, _, _, _, _, _, _, _, _, _, _, _, _, _, _, _, _, _, _, _, _, _, _, _, _, _, _, _, _, _, _, _, _, _, _, _]) rfl ?_
  refine OW_as rfl rfl ?_
  refine OW_as rfl rfl ?_
  refine OW_as rfl rfl ?_
  refine OW_nilE (e' := [_, _, _, _, _, _, _, _, _, _, _, _, _, _, _, _, _, _, _, _, _, _, _, _, _, _, _, _, _, _, _, _, _, _, _, _, _, _, _, _, _, _, _, _, _, _, _, _, _, _, _, _, _, _, _, _, _, _, _, _, _, _, _, _]) rfl ?_
  refine XW_sr ?_
  refine OW_mv rfl rfl ?_
  refine OW_fn rfl rfl (rtakeU (by first | assumption | omega) ?_) 
  refine OW_mv rfl rfl ?_
  refine OW_env (e' := [_, _, _, _, _, _, _, _, _, _, _, _, _, _, _, _, _, _, _, _, _, _, _, _, _, _, _, _, _, _, _, _, _, _, _, _, _, _, _, _, _, _, _, _, _, _, _, _, _, _, _, _, _, _, _, _, _, _, _, _, _, _, _, _]) rfl ?_
  refine OW_ex rfl rfl rfl ?_
  refine OW_ex rfl rfl rfl ?_
  refine OW_ex rfl rfl rfl ?_
  refine OW_env (e' := [_, _, _, _, _, _, _, _, _, _, _, _, _, _, _, _, _, _, _, _, _, _, _, _, _, _, _, _, _, _, _, _, _, _, _, _, _, _, _, _, _, _, _, _, _, _, _, _, _, _, _, _, _, _, _, _, _, _, _, _, _, _, _, _]) rfl ?_
  refine OW_as rfl rfl ?_
  refine OW_as rfl rfl ?_
  refine OW_as rfl rfl ?_
  refine OW_nilE (e' := [_, _, _, _, _, _, _, _, _, _, _, _, _, _, _, _, _, _, _, _, _, _, _, _, _, _, _, _, _, _, _, _, _, _, _, _, _, _, _, _, _, _, _, _, _, _, _, _, _, _, _, _, _, _, _, _, _, _, _, _, _, _, _, _]) rfl ?_
  refine XW_seq ?_
  refine XW_sr ?_
  refine OW_mv rfl rfl ?_
  refine OW_un rfl rfl rfl ?_
  refine OW_mv rfl rfl ?_
  refine OW_env (e' := [_, _, _, _, _, _, _, _, _, _, _, _, _, _, _, _, _, _, _, _, _, _, _, _, _, _, _, _, _, _, _, _, _, _, _, _, _, _, _, _, _, _, _, _, _, _, _, _, _, _, _, _, _, _, _, _, _, _, _, _, _, _, _, _]) rfl ?_
  refine OW_split (tt := 42) rfl (fun g5_3 => ?_) (fun g5_3 => ?_)
  · first
    | (exfalso; (try simp only [decide_eq_true_eq, decide_eq_false_iff_not, Bool.not_eq_true', Bool.not_eq_false', Bool.and_eq_true, Bool.or_eq_true, Bool.not_eq_true, Bool.not_eq_false, Decidable.not_not, bne_iff_ne, beq_iff_eq, List.length_append, List.length_cons, List.length_nil, List.length_drop, List.length_take] at g5_3) <;> (first | (exact absurd rfl g5_3) | (exact g5_3 trivial) | omega | (simp at g5_3; done)); done)
    | skip
      try simp only [decide_eq_true_eq, decide_eq_false_iff_not, Bool.not_eq_true', Bool.not_eq_false', Bool.and_eq_true, Bool.or_eq_true, Bool.not_eq_true, Bool.not_eq_false, Decidable.not_not, bne_iff_ne, beq_iff_eq, List.length_append, List.length_cons, List.length_nil, List.length_drop, List.length_take] at g5_3
      refine OW_no rfl ?_
      refine OW_no rfl ?_
      refine OW_env (e' := [_, _, _, _, _, _, _, _, _, _, _, _, _, _, _, _, _, _, _, _, _, _, _, _, _, _, _, _, _, _, _, _, _, _, _, _, _, _, _, _, _, _, _, _, _, _, _, _, _, _, _, _, _, _, _, _, _, _, _, _, _, _, _, _]) rfl ?_
      refine OW_pick rfl rfl rfl ?_
      refine OW_mv rfl rfl ?_
      refine OW_no rfl ?_
      refine OW_env (e' := [_, _, _, _, _, _, _, _, _, _, _, _, _, _, _, _, _, _, _, _, _, _, _, _, _, _, _, _, _, _, _, _, _, _, _, _, _, _, _, _, _, _, _, _, _, _, _, _, _, _, _, _, _, _, _, _, _, _, _, _, _, _, _, _]) rfl ?_
      refine OW_no rfl ?_
      refine OW_pick rfl rfl rfl ?_
      refine OW_mv rfl rfl ?_
      refine OW_env (e' := [_, _, _, _, _, _, _, _, _, _, _, _, _, _, _, _, _, _, _, _, _, _, _, _, _, _, _, _, _, _, _, _, _, _, _, _, _, _, _, _, _, _, _, _, _, _, _, _, _, _, _, _, _, _, _, _, _, _, _, _, _, _, _, _]) rfl ?_
      refine OW_no rfl ?_
      refine OW_no rfl ?_
      refine OW_pick rfl rfl rfl ?_
      refine OW_env (e' := [_, _, _, _, _, _, _, _, _, _, _, _, _, _, _, _, _, _, _, _, _, _, _, _, _, _, _, _, _, _, _, _, _, _, _, _, _, _, _, _, _, _, _, _, _, _, _, _, _, _, _, _, _, _, _, _, _, _, _, _, _, _, _, _]) rfl ?_
      refine OW_mv rfl rfl ?_
      refine OW_no rfl ?_
      refine OW_no rfl ?_
      refine OW_env (e' := [_, _, _, _, _, _, _, _, _, _, _, _, _, _, _, _, _, _, _, _, _, _, _, _, _, _, _, _, _, _, _, _, _, _, _, _, _, _, _, _, _, _, _, _, _, _, _, _, _, _, _, _, _, _, _, _, _, _, _, _, _, _, _, _]) rfl ?_
      refine OW_pick rfl rfl rfl ?_
      refine OW_nilE (e' := [_, _, _, _, _, _, _, _, _, _, _, _, _, _, _, _, _, _, _, _, _, _, _, _, _, _, _, _, _, _, _, _, _, _, _, _, _, _, _, _, _, _, _, _, _, _, _, _, _, _, _, _, _, _, _, _, _, _, _, _, _, _, _, _]) rfl ?_
      refine XW_yes rfl rfl ?_
      refine XW_sr ?_
      refine OW_bd rfl rfl (v := .agg [_, _, _, _]) rfl ?_
      first
      | refine OW_storeR hS1 (k := 0) rfl (le_lit (ν := ν) (a := [1, 0]) (b := [1, 0, 1, 0, 1, 1, 1, 1, 1]) (by decide)) rfl rfl rfl rfl ⟨rfl, rfl, Nat.le_of_ble_eq_true rfl⟩ (set_whole rfl rfl) fun H2 hS2 => ?_
      | refine OW_storeR hS1 (k := 0) rfl (le_lit (ν := ν) (a := [1, 0]) (b := [1, 0, 1, 0, 1, 1, 1, 1, 1]) (by decide)) rfl rfl rfl rfl ⟨rfl, rfl, Nat.le_of_ble_eq_true rfl⟩ (u2 := .agg [_, _, _, _]) rfl fun H2 hS2 => ?_
      replace hS2 : Own _ _ _ ([_]) := hS2
      refine OW_as rfl rfl ?_
      refine OW_nilE (e' := [_, _, _, _, _, _, _, _, _, _, _, _, _, _, _, _, _, _, _, _, _, _, _, _, _, _, _, _, _, _, _, _, _, _, _, _, _, _, _, _, _, _, _, _, _, _, _, _, _, _, _, _, _, _, _, _, _, _, _, _, _, _, _, _]) rfl ?_
      refine XW_ret ?_
      refine then_ret ?_
      -- outcome 1
      refine ret_ret (res2 rfl (rv_cellR hS2 (k := 0) rfl rfl rfl rfl (by first | exact part_whole rfl rfl rfl | rfl)) (rv_tmp rfl)) (frz2 (Q := Q) (by first | exact freeze_plain rfl | exact Ls.freeze (by assumption) | exact Ls.freeze Ls.of | exact Ls.freeze Ls.emp | exact Ls.freeze Ls.nls) (by first | exact freeze_plain rfl | exact Ls.freeze (by assumption) | exact Ls.freeze Ls.of | exact Ls.freeze Ls.emp | exact Ls.freeze Ls.nls) ?_)
      first | (rw [if_pos ⟨by simp_all, by simp_all, by simp_all, by simp_all, by simp_all⟩] at hq; exact hq) | (rw [if_neg (by rintro ⟨a1, a2, a3, a4, a5⟩; simp_all)] at hq; exact hq)
  · first
    | (exfalso; (try simp only [decide_eq_true_eq, decide_eq_false_iff_not, Bool.not_eq_true', Bool.not_eq_false', Bool.and_eq_true, Bool.or_eq_true, Bool.not_eq_true, Bool.not_eq_false, Decidable.not_not, bne_iff_ne, beq_iff_eq, List.length_append, List.length_cons, List.length_nil, List.length_drop, List.length_take] at g5_3) <;> (first | (exact absurd rfl g5_3) | (exact g5_3 trivial) | omega | (simp at g5_3; done)); done)
    | skip
      try simp only [decide_eq_true_eq, decide_eq_false_iff_not, Bool.not_eq_true', Bool.not_eq_false', Bool.and_eq_true, Bool.or_eq_true, Bool.not_eq_true, Bool.not_eq_false, Decidable.not_not, bne_iff_ne, beq_iff_eq, List.length_append, List.length_cons, List.length_nil, List.length_drop, List.length_take] at g5_3
      refine OW_mv rfl rfl ?_
      refine OW_un rfl rfl rfl ?_
      refine OW_env (e' := [_, _, _, _, _, _, _, _, _, _, _, _, _, _, _, _, _, _, _, _, _, _, _, _, _, _, _, _, _, _, _, _, _, _, _, _, _, _, _, _, _, _, _, _, _, _, _, _, _, _, _, _, _, _, _, _, _, _, _, _, _, _, _, _]) rfl ?_
      refine OW_pick rfl rfl rfl ?_
      refine OW_mv rfl rfl ?_
      refine OW_split (tt := 46) rfl (fun g5_7 => ?_) (fun g5_7 => ?_)
      · first
        | (exfalso; (try simp only [decide_eq_true_eq, decide_eq_false_iff_not, Bool.not_eq_true', Bool.not_eq_false', Bool.and_eq_true, Bool.or_eq_true, Bool.not_eq_true, Bool.not_eq_false, Decidable.not_not, bne_iff_ne, beq_iff_eq, List.length_append, List.length_cons, List.length_nil, List.length_drop, List.length_take] at g5_7) <;> (first | (exact absurd rfl g5_7) | (exact g5_7 trivial) | omega | (simp at g5_7; done)); done)
        | skip
          try simp only [decide_eq_true_eq, decide_eq_false_iff_not, Bool.not_eq_true', Bool.not_eq_false', Bool.and_eq_true, Bool.or_eq_true, Bool.not_eq_true, Bool.not_eq_false, Decidable.not_not, bne_iff_ne, beq_iff_eq, List.length_append, List.length_cons, List.length_nil, List.length_drop, List.length_take] at g5_7
          refine OW_env (e' := [_, _, _, _, _, _, _, _, _, _, _, _, _, _, _, _, _, _, _, _, _, _, _, _, _, _, _, _, _, _, _, _, _, _, _, _, _, _, _, _, _, _, _, _, _, _, _, _, _, _, _, _, _, _, _, _, _, _, _, _, _, _, _, _]) rfl ?_
          refine OW_no rfl ?_
          refine OW_no rfl ?_
          refine OW_pick rfl rfl rfl ?_
          refine OW_env (e' := [_, _, _, _, _, _, _, _, _, _, _, _, _, _, _, _, _, _, _, _, _, _, _, _, _, _, _, _, _, _, _, _, _, _, _, _, _, _, _, _, _, _, _, _, _, _, _, _, _, _, _, _, _, _, _, _, _, _, _, _, _, _, _, _]) rfl ?_
          refine OW_mv rfl rfl ?_
          refine OW_no rfl ?_
          refine OW_no rfl ?_
          refine OW_env (e' := [_, _, _, _, _, _, _, _, _, _, _, _, _, _, _, _, _, _, _, _, _, _, _, _, _, _, _, _, _, _, _, _, _, _, _, _, _, _, _, _, _, _, _, _, _, _, _, _, _, _, _, _, _, _, _, _, _, _, _, _, _, _, _, _]) rfl ?_
          refine OW_pick rfl rfl rfl ?_
          refine OW_mv rfl rfl ?_
          refine OW_no rfl ?_
          refine OW_env (e' := [_, _, _, _, _, _, _, _, _, _, _, _, _, _, _, _, _, _, _, _, _, _, _, _, _, _, _, _, _, _, _, _, _, _, _, _, _, _, _, _, _, _, _, _, _, _, _, _, _, _, _, _, _, _, _, _, _, _, _, _, _, _, _, _]) rfl ?_
          refine OW_no rfl ?_
          refine OW_pick rfl rfl rfl ?_
          refine OW_nilE (e' := [_, _, _, _, _, _, _, _, _, _, _, _, _, _, _, _, _, _, _, _, _, _, _, _, _, _, _, _, _, _, _, _, _, _, _, _, _, _, _, _, _, _, _, _, _, _, _, _, _, _, _, _, _, _, _, _, _, _, _, _, _, _, _, _]) rfl ?_
          refine XW_yes rfl rfl ?_
          refine XW_sr ?_
          refine OW_bd rfl rfl (v := .agg [_, _, _, _]) rfl ?_
          first
          | refine OW_storeR hS1 (k := 0) rfl (le_lit (ν := ν) (a := [1, 0]) (b := [1, 0, 1, 0, 1, 1, 1, 1, 1]) (by decide)) rfl rfl rfl rfl ⟨rfl, rfl, Nat.le_of_ble_eq_true rfl⟩ (set_whole rfl rfl) fun H3 hS3 => ?_
          | refine OW_storeR hS1 (k := 0) rfl (le_lit (ν := ν) (a := [1, 0]) (b := [1, 0, 1, 0, 1, 1, 1, 1, 1]) (by decide)) rfl rfl rfl rfl ⟨rfl, rfl, Nat.le_of_ble_eq_true rfl⟩ (u2 := .agg [_, _, _, _]) rfl fun H3 hS3 => ?_
          replace hS3 : Own _ _ _ ([_]) := hS3
          refine OW_as rfl rfl ?_
          refine OW_nilE (e' := [_, _, _, _, _, _, _, _, _, _, _, _, _, _, _, _, _, _, _, _, _, _, _, _, _, _, _, _, _, _, _, _, _, _, _, _, _, _, _, _, _, _, _, _, _, _, _, _, _, _, _, _, _, _, _, _, _, _, _, _, _, _, _, _]) rfl ?_
          refine XW_ret ?_
          refine then_ret ?_
          -- outcome 2
          refine ret_ret (res2 rfl (rv_cellR hS3 (k := 0) rfl rfl rfl rfl (by first | exact part_whole rfl rfl rfl | rfl)) (rv_tmp rfl)) (frz2 (Q := Q) (by first | exact freeze_plain rfl | exact Ls.freeze (by assumption) | exact Ls.freeze Ls.of | exact Ls.freeze Ls.emp | exact Ls.freeze Ls.nls) (by first | exact freeze_plain rfl | exact Ls.freeze (by assumption) | exact Ls.freeze Ls.of | exact Ls.freeze Ls.emp | exact Ls.freeze Ls.nls) ?_)
          first | (rw [if_pos ⟨by simp_all, by simp_all, by simp_all, by simp_all, by simp_all⟩] at hq; exact hq) | (rw [if_neg (by rintro ⟨a1, a2, a3, a4, a5⟩; simp_all)] at hq; exact hq)
      · first
        | (exfalso; (try simp only [decide_eq_true_eq, decide_eq_false_iff_not, Bool.not_eq_true', Bool.not_eq_false', Bool.and_eq_true, Bool.or_eq_true, Bool.not_eq_true, Bool.not_eq_false, Decidable.not_not, bne_iff_ne, beq_iff_eq, List.length_append, List.length_cons, List.length_nil, List.length_drop, List.length_take] at g5_7) <;> (first | (exact absurd rfl g5_7) | (exact g5_7 trivial) | omega | (simp at g5_7; done)); done)
        | skip
          try simp only [decide_eq_true_eq, decide_eq_false_iff_not, Bool.not_eq_true', Bool.not_eq_false', Bool.and_eq_true, Bool.or_eq_true, Bool.not_eq_true, Bool.not_eq_false, Decidable.not_not, bne_iff_ne, beq_iff_eq, List.length_append, List.length_cons, List.length_nil, List.length_drop, List.length_take] at g5_7
          refine OW_env (e' := [_, _, _, _, _, _, _, _, _, _, _, _, _, _, _, _, _, _, _, _, _, _, _, _, _, _, _, _, _, _, _, _, _, _, _, _, _, _, _, _, _, _, _, _, _, _, _, _, _, _, _, _, _, _, _, _, _, _, _, _, _, _, _, _]) rfl ?_
          refine OW_mv rfl rfl ?_
          refine OW_un rfl rfl rfl ?_
          refine OW_pick rfl rfl rfl ?_
          refine OW_env (e' := [_, _, _, _, _, _, _, _, _, _, _, _, _, _, _, _, _, _, _, _, _, _, _, _, _, _, _, _, _, _, _, _, _, _, _, _, _, _, _, _, _, _, _, _, _, _, _, _, _, _, _, _, _, _, _, _, _, _, _, _, _, _, _, _]) rfl ?_
          refine OW_mv rfl rfl ?_
          refine OW_split (tt := 50) rfl (fun g5_11 => ?_) (fun g5_11 => ?_)
          · first
            | (exfalso; (try simp only [decide_eq_true_eq, decide_eq_false_iff_not, Bool.not_eq_true', Bool.not_eq_false', Bool.and_eq_true, Bool.or_eq_true, Bool.not_eq_true, Bool.not_eq_false, Decidable.not_not, bne_iff_ne, beq_iff_eq, List.length_append, List.length_cons, List.length_nil, List.length_drop, List.length_take] at g5_11) <;> (first | (exact absurd rfl g5_11) | (exact g5_11 trivial) | omega | (simp at g5_11; done)); done)
            | skip
              try simp only [decide_eq_true_eq, decide_eq_false_iff_not, Bool.not_eq_true', Bool.not_eq_false', Bool.and_eq_true, Bool.or_eq_true, Bool.not_eq_true, Bool.not_eq_false, Decidable.not_not, bne_iff_ne, beq_iff_eq, List.length_append, List.length_cons, List.length_nil, List.length_drop, List.length_take] at g5_11
              refine OW_no rfl ?_
              refine OW_env (e' := [_, _, _, _, _, _, _, _, _, _, _, _, _, _, _, _, _, _, _, _, _, _, _, _, _, _, _, _, _, _, _, _, _, _, _, _, _, _, _, _, _, _, _, _, _, _, _, _, _, _, _, _, _, _, _, _, _, _, _, _, _, _, _, _]) rfl ?_
              refine OW_no rfl ?_
              refine OW_pick rfl rfl rfl ?_
              refine OW_mv rfl rfl ?_
              refine OW_env (e' := [_, _, _, _, _, _, _, _, _, _, _, _, _, _, _, _, _, _, _, _, _, _, _, _, _, _, _, _, _, _, _, _, _, _, _, _, _, _, _, _, _, _, _, _, _, _, _, _, _, _, _, _, _, _, _, _, _, _, _, _, _, _, _, _]) rfl ?_
              refine OW_no rfl ?_
              refine OW_no rfl ?_
              refine OW_pick rfl rfl rfl ?_
              refine OW_nilE (e' := [_, _, _, _, _, _, _, _, _, _, _, _, _, _, _, _, _, _, _, _, _, _, _, _, _, _, _, _, _, _, _, _, _, _, _, _, _, _, _, _, _, _, _, _, _, _, _, _, _, _, _, _, _, _, _, _, _, _, _, _, _, _, _, _]) rfl ?_
              refine XW_yes rfl rfl ?_
              refine XW_sr ?_
              refine OW_bd rfl rfl (v := .agg [_, _, _, _]) rfl ?_
              first
              | refine OW_storeR hS1 (k := 0) rfl (le_lit (ν := ν) (a := [1, 0]) (b := [1, 0, 1, 0, 1, 1, 1, 1, 1]) (by decide)) rfl rfl rfl rfl ⟨rfl, rfl, Nat.le_of_ble_eq_true rfl⟩ (set_whole rfl rfl) fun H4 hS4 => ?_
              | refine OW_storeR hS1 (k := 0) rfl (le_lit (ν := ν) (a := [1, 0]) (b := [1, 0, 1, 0, 1, 1, 1, 1, 1]) (by decide)) rfl rfl rfl rfl ⟨rfl, rfl, Nat.le_of_ble_eq_true rfl⟩ (u2 := .agg [_, _, _, _]) rfl fun H4 hS4 => ?_
              replace hS4 : Own _ _ _ ([_]) := hS4
              refine OW_as rfl rfl ?_
              refine OW_nilE (e' := [_, _, _, _, _, _, _, _, _, _, _, _, _, _, _, _, _, _, _, _, _, _, _, _, _, _, _, _, _, _, _, _, _, _, _, _, _, _, _, _, _, _, _, _, _, _, _, _, _, _, _, _, _, _, _, _, _, _, _, _, _, _, _, _]) rfl ?_
              refine XW_ret ?_
              refine then_ret ?_
              -- outcome 3
              refine ret_ret (res2 rfl (rv_cellR hS4 (k := 0) rfl rfl rfl rfl (by first | exact part_whole rfl rfl rfl | rfl)) (rv_tmp rfl)) (frz2 (Q := Q) (by first | exact freeze_plain rfl | exact Ls.freeze (by assumption) | exact Ls.freeze Ls.of | exact Ls.freeze Ls.emp | exact Ls.freeze Ls.nls) (by first | exact freeze_plain rfl | exact Ls.freeze (by assumption) | exact Ls.freeze Ls.of | exact Ls.freeze Ls.emp | exact Ls.freeze Ls.nls) ?_)
              first | (rw [if_pos ⟨by simp_all, by simp_all, by simp_all, by simp_all, by simp_all⟩] at hq; exact hq) | (rw [if_neg (by rintro ⟨a1, a2, a3, a4, a5⟩; simp_all)] at hq; exact hq)
          · first
            | (exfalso; (try simp only [decide_eq_true_eq, decide_eq_false_iff_not, Bool.not_eq_true', Bool.not_eq_false', Bool.and_eq_true, Bool.or_eq_true, Bool.not_eq_true, Bool.not_eq_false, Decidable.not_not, bne_iff_ne, beq_iff_eq, List.length_append, List.length_cons, List.length_nil, List.length_drop, List.length_take] at g5_11) <;> (first | (exact absurd rfl g5_11) | (exact g5_11 trivial) | omega | (simp at g5_11; done)); done)
            | skip
              try simp only [decide_eq_true_eq, decide_eq_false_iff_not, Bool.not_eq_true', Bool.not_eq_false', Bool.and_eq_true, Bool.or_eq_true, Bool.not_eq_true, Bool.not_eq_false, Decidable.not_not, bne_iff_ne, beq_iff_eq, List.length_append, List.length_cons, List.length_nil, List.length_drop, List.length_take] at g5_11
              refine OW_mv rfl rfl ?_
              refine OW_env (e' := [_, _, _, _, _, _, _, _, _, _, _, _, _, _, _, _, _, _, _, _, _, _, _, _, _, _, _, _, _, _, _, _, _, _, _, _, _, _, _, _, _, _, _, _, _, _, _, _, _, _, _, _, _, _, _, _, _, _, _, _, _, _, _, _]) rfl ?_
              refine OW_un rfl rfl rfl ?_
              refine OW_pick rfl rfl rfl ?_
              refine OW_mv rfl rfl ?_
              refine OW_env (e' := [_, _, _, _, _, _, _, _, _, _, _, _, _, _, _, _, _, _, _, _, _, _, _, _, _, _, _, _, _, _, _, _, _, _, _, _, _, _, _, _, _, _, _, _, _, _, _, _, _, _, _, _, _, _, _, _, _, _, _, _, _, _, _, _]) rfl ?_
              refine OW_split (tt := 54) rfl (fun g5_15 => ?_) (fun g5_15 => ?_)
              · first
                | (exfalso; (try simp only [decide_eq_true_eq, decide_eq_false_iff_not, Bool.not_eq_true', Bool.not_eq_false', Bool.and_eq_true, Bool.or_eq_true, Bool.not_eq_true, Bool.not_eq_false, Decidable.not_not, bne_iff_ne, beq_iff_eq, List.length_append, List.length_cons, List.length_nil, List.length_drop, List.length_take] at g5_15) <;> (first | (exact absurd rfl g5_15) | (exact g5_15 trivial) | omega | (simp at g5_15; done)); done)
                | skip
                  try simp only [decide_eq_true_eq, decide_eq_false_iff_not, Bool.not_eq_true', Bool.not_eq_false', Bool.and_eq_true, Bool.or_eq_true, Bool.not_eq_true, Bool.not_eq_false, Decidable.not_not, bne_iff_ne, beq_iff_eq, List.length_append, List.length_cons, List.length_nil, List.length_drop, List.length_take] at g5_15
                  refine OW_no rfl ?_
                  refine OW_no rfl ?_
                  refine OW_env (e' := [_, _, _, _, _, _, _, _, _, _, _, _, _, _, _, _, _, _, _, _, _, _, _, _, _, _, _, _, _, _, _, _, _, _, _, _, _, _, _, _, _, _, _, _, _, _, _, _, _, _, _, _, _, _, _, _, _, _, _, _, _, _, _, _]) rfl ?_
                  refine OW_pick rfl rfl rfl ?_
                  refine OW_nilE (e' := [_, _, _, _, _, _, _, _, _, _, _, _, _, _, _, _, _, _, _, _, _, _, _, _, _, _, _, _, _, _, _, _, _, _, _, _, _, _, _, _, _, _, _, _, _, _, _, _, _, _, _, _, _, _, _, _, _, _, _, _, _, _, _, _]) rfl ?_
                  refine XW_yes rfl rfl ?_
                  refine XW_sr ?_
                  refine OW_bd rfl rfl (v := .agg [_, _, _, _]) rfl ?_
                  first
                  | refine OW_storeR hS1 (k := 0) rfl (le_lit (ν := ν) (a := [1, 0]) (b := [1, 0, 1, 0, 1, 1, 1, 1, 1]) (by decide)) rfl rfl rfl rfl ⟨rfl, rfl, Nat.le_of_ble_eq_true rfl⟩ (set_whole rfl rfl) fun H5 hS5 => ?_
                  | refine OW_storeR hS1 (k := 0) rfl (le_lit (ν := ν) (a := [1, 0]) (b := [1, 0, 1, 0, 1, 1, 1, 1, 1]) (by decide)) rfl rfl rfl rfl ⟨rfl, rfl, Nat.le_of_ble_eq_true rfl⟩ (u2 := .agg [_, _, _, _]) rfl fun H5 hS5 => ?_
                  replace hS5 : Own _ _ _ ([_]) := hS5
                  refine OW_as rfl rfl ?_
                  refine OW_nilE (e' := [_, _, _, _, _, _, _, _, _, _, _, _, _, _, _, _, _, _, _, _, _, _, _, _, _, _, _, _, _, _, _, _, _, _, _, _, _, _, _, _, _, _, _, _, _, _, _, _, _, _, _, _, _, _, _, _, _, _, _, _, _, _, _, _]) rfl ?_
                  refine XW_ret ?_
                  refine then_ret ?_
                  -- outcome 4
                  refine ret_ret (res2 rfl (rv_cellR hS5 (k := 0) rfl rfl rfl rfl (by first | exact part_whole rfl rfl rfl | rfl)) (rv_tmp rfl)) (frz2 (Q := Q) (by first | exact freeze_plain rfl | exact Ls.freeze (by assumption) | exact Ls.freeze Ls.of | exact Ls.freeze Ls.emp | exact Ls.freeze Ls.nls) (by first | exact freeze_plain rfl | exact Ls.freeze (by assumption) | exact Ls.freeze Ls.of | exact Ls.freeze Ls.emp | exact Ls.freeze Ls.nls) ?_)
                  first | (rw [if_pos ⟨by simp_all, by simp_all, by simp_all, by simp_all, by simp_all⟩] at hq; exact hq) | (rw [if_neg (by rintro ⟨a1, a2, a3, a4, a5⟩; simp_all)] at hq; exact hq)
              · first
                | (exfalso; (try simp only [decide_eq_true_eq, decide_eq_false_iff_not, Bool.not_eq_true', Bool.not_eq_false', Bool.and_eq_true, Bool.or_eq_true, Bool.not_eq_true, Bool.not_eq_false, Decidable.not_not, bne_iff_ne, beq_iff_eq, List.length_append, List.length_cons, List.length_nil, List.length_drop, List.length_take] at g5_15) <;> (first | (exact absurd rfl g5_15) | (exact g5_15 trivial) | omega | (simp at g5_15; done)); done)
                | skip
                  try simp only [decide_eq_true_eq, decide_eq_false_iff_not, Bool.not_eq_true', Bool.not_eq_false', Bool.and_eq_true, Bool.or_eq_true, Bool.not_eq_true, Bool.not_eq_false, Decidable.not_not, bne_iff_ne, beq_iff_eq, List.length_append, List.length_cons, List.length_nil, List.length_drop, List.length_take] at g5_15
                  refine OW_mv rfl rfl ?_
                  refine OW_bin rfl rfl rfl rfl rfl ?_
                  refine OW_env (e' := [_, _, _, _, _, _, _, _, _, _, _, _, _, _, _, _, _, _, _, _, _, _, _, _, _, _, _, _, _, _, _, _, _, _, _, _, _, _, _, _, _, _, _, _, _, _, _, _, _, _, _, _, _, _, _, _, _, _, _, _, _, _, _, _]) rfl ?_
                  refine OW_pick rfl rfl rfl ?_
                  refine OW_nilE (e' := [_, _, _, _, _, _, _, _, _, _, _, _, _, _, _, _, _, _, _, _, _, _, _, _, _, _, _, _, _, _, _, _, _, _, _, _, _, _, _, _, _, _, _, _, _, _, _, _, _, _, _, _, _, _, _, _, _, _, _, _, _, _, _, _]) rfl ?_
                  refine XW_if rfl (fun h5 => ?_) (fun h5 => ?_)
                  · first
                    | (exfalso; (try simp only [decide_eq_true_eq, decide_eq_false_iff_not, Bool.not_eq_true', Bool.not_eq_false', Bool.and_eq_true, Bool.or_eq_true, Bool.not_eq_true, Bool.not_eq_false, Decidable.not_not, bne_iff_ne, beq_iff_eq, List.length_append, List.length_cons, List.length_nil, List.length_drop, List.length_take] at h5) <;> (first | (exact absurd rfl h5) | (exact h5 trivial) | omega | (simp at h5; done)); done)
                    | skip
                      try simp only [decide_eq_true_eq, decide_eq_false_iff_not, Bool.not_eq_true', Bool.not_eq_false', Bool.and_eq_true, Bool.or_eq_true, Bool.not_eq_true, Bool.not_eq_false, Decidable.not_not, bne_iff_ne, beq_iff_eq, List.length_append, List.length_cons, List.length_nil, List.length_drop, List.length_take] at h5
                      refine XW_sr ?_
                      refine OW_bd rfl rfl (v := .agg [_, _, _, _]) rfl ?_
                      first
                      | refine OW_storeR hS1 (k := 0) rfl (le_lit (ν := ν) (a := [1, 0]) (b := [1, 0, 1, 0, 1, 1, 1, 1, 1]) (by decide)) rfl rfl rfl rfl ⟨rfl, rfl, Nat.le_of_ble_eq_true rfl⟩ (set_whole rfl rfl) fun H6 hS6 => ?_
                      | refine OW_storeR hS1 (k := 0) rfl (le_lit (ν := ν) (a := [1, 0]) (b := [1, 0, 1, 0, 1, 1, 1, 1, 1]) (by decide)) rfl rfl rfl rfl ⟨rfl, rfl, Nat.le_of_ble_eq_true rfl⟩ (u2 := .agg [_, _, _, _]) rfl fun H6 hS6 => ?_
                      replace hS6 : Own _ _ _ ([_]) := hS6
                      refine OW_as rfl rfl ?_
                      refine OW_nilE (e' := [_, _, _, _, _, _, _, _, _, _, _, _, _, _, _, _, _, _, _, _, _, _, _, _, _, _, _, _, _, _, _, _, _, _, _, _, _, _, _, _, _, _, _, _, _, _, _, _, _, _, _, _, _, _, _, _, _, _, _, _, _, _, _, _]) rfl ?_
                      refine XW_ret ?_
                      refine then_ret ?_
                      -- outcome 5
                      refine ret_ret (res2 rfl (rv_cellR hS6 (k := 0) rfl rfl rfl rfl (by first | exact part_whole rfl rfl rfl | rfl)) (rv_tmp rfl)) (frz2 (Q := Q) (by first | exact freeze_plain rfl | exact Ls.freeze (by assumption) | exact Ls.freeze Ls.of | exact Ls.freeze Ls.emp | exact Ls.freeze Ls.nls) (by first | exact freeze_plain rfl | exact Ls.freeze (by assumption) | exact Ls.freeze Ls.of | exact Ls.freeze Ls.emp | exact Ls.freeze Ls.nls) ?_)
                      first | (rw [if_pos ⟨by simp_all, by simp_all, by simp_all, by simp_all, by simp_all⟩] at hq; exact hq) | (rw [if_neg (by rintro ⟨a1, a2, a3, a4, a5⟩; simp_all)] at hq; exact hq)
                  · first
                    | (exfalso; (try simp only [decide_eq_true_eq, decide_eq_false_iff_not, Bool.not_eq_true', Bool.not_eq_false', Bool.and_eq_true, Bool.or_eq_true, Bool.not_eq_true, Bool.not_eq_false, Decidable.not_not, bne_iff_ne, beq_iff_eq, List.length_append, List.length_cons, List.length_nil, List.length_drop, List.length_take] at h5) <;> (first | (exact absurd rfl h5) | (exact h5 trivial) | omega | (simp at h5; done)); done)
                    | skip
                      try simp only [decide_eq_true_eq, decide_eq_false_iff_not, Bool.not_eq_true', Bool.not_eq_false', Bool.and_eq_true, Bool.or_eq_true, Bool.not_eq_true, Bool.not_eq_false, Decidable.not_not, bne_iff_ne, beq_iff_eq, List.length_append, List.length_cons, List.length_nil, List.length_drop, List.length_take] at h5
                      refine XW_skip ?_
                      refine then_norm ?_
                      refine XW_sr ?_
                      refine OW_mv rfl rfl ?_
                      refine OW_mv rfl rfl ?_
                      refine OW_mv rfl rfl ?_
                      refine OW_env (e' := [_, _, _, _, _, _, _, _, _, _, _, _, _, _, _, _, _, _, _, _, _, _, _, _, _, _, _, _, _, _, _, _, _, _, _, _, _, _, _, _, _, _, _, _, _, _, _, _, _, _, _, _, _, _, _, _, _, _, _, _, _, _, _, _]) rfl ?_
                      refine OW_mv rfl rfl ?_
                      refine OW_bd rfl rfl (v := .agg [_, _, _, _]) rfl ?_
                      first
                      | refine OW_storeR hS1 (k := 0) rfl (le_lit (ν := ν) (a := [1, 0]) (b := [5, 0, 1, 1, 1, 1, 1, 1]) (by decide)) rfl rfl rfl rfl ⟨rfl, rfl, Nat.le_of_ble_eq_true rfl⟩ (set_whole rfl rfl) fun H7 hS7 => ?_
                      | refine OW_storeR hS1 (k := 0) rfl (le_lit (ν := ν) (a := [1, 0]) (b := [5, 0, 1, 1, 1, 1, 1, 1]) (by decide)) rfl rfl rfl rfl ⟨rfl, rfl, Nat.le_of_ble_eq_true rfl⟩ (u2 := .agg [_, _, _, _]) rfl fun H7 hS7 => ?_
                      replace hS7 : Own _ _ _ ([_]) := hS7
                      refine OW_env (e' := [_, _, _, _, _, _, _, _, _, _, _, _, _, _, _, _, _, _, _, _, _, _, _, _, _, _, _, _, _, _, _, _, _, _, _, _, _, _, _, _, _, _, _, _, _, _, _, _, _, _, _, _, _, _, _, _, _, _, _, _, _, _, _, _]) rfl ?_
                      refine OW_as rfl rfl ?_
                      refine OW_nilE (e' := [_, _, _, _, _, _, _, _, _, _, _, _, _, _, _, _, _, _, _, _, _, _, _, _, _, _, _, _, _, _, _, _, _, _, _, _, _, _, _, _, _, _, _, _, _, _, _, _, _, _, _, _, _, _, _, _, _, _, _, _, _, _, _, _]) rfl ?_
                      refine XW_ret ?_
                      -- outcome 6
                      refine ret_ret (res2 rfl (rv_cellR hS7 (k := 0) rfl rfl rfl rfl (by first | exact part_whole rfl rfl rfl | rfl)) (rv_tmp rfl)) (frz2 (Q := Q) (by first | exact freeze_plain rfl | exact Ls.freeze (by assumption) | exact Ls.freeze Ls.of | exact Ls.freeze Ls.emp | exact Ls.freeze Ls.nls) (by first | exact freeze_plain rfl | exact Ls.freeze (by assumption) | exact Ls.freeze Ls.of | exact Ls.freeze Ls.emp | exact Ls.freeze Ls.nls) ?_)
                      first | (rw [if_pos ⟨by simp_all, by simp_all, by simp_all, by simp_all, by simp_all⟩] at hq; exact hq) | (rw [if_neg (by rintro ⟨a1, a2, a3, a4, a5⟩; simp_all)] at hq; exact hq)
def Rf.lock (S : Rf) (key vol sec ver ep : Int) (plain : ByteArray) : Lf × Rf := (⟨ver, ep, S.next, (S.fresh.sealv key S.next (adB vol sec ver ep) plain).1⟩, (S.fresh.sealv key S.next (adB vol sec ver ep) plain).2)
theorem lockW (hS : Own β ps H L) (hL : L[k]? = some (orc q S.of)) (hle : le ps ν) (hβ : under β ν = true) (hp : before ν pos') (hn : S.rows.length ≤ 4294960000) (key vol sec ver ep : Int) (plain : ByteArray) (h : U64 vol ∧ U64 sec ∧ U64 ver ∧ U64 ep)
    (hq : ∀ H1, Own β pos' H1 (L.set k (orc q (S.lock key vol sec ver ep plain).2.of)) → Q (S.lock key vol sec ver ep plain).1.enc H1) : CW cfg ν 15 [.ptr q 0 0, .int .u64 key, .int .u64 vol, .int .u64 sec, .int .u64 ver, .int .u64 ep, .str plain] H Q := by
  replace hS := hS.pick hL
  refine CW_keep g15 F15 rfl ?_
  replace hS := Own.mono hS hle
  refine XW_sr ?_
  refine OW_allocR hS (le_app (p := ν) (b := [0, 0])) (under_app [0, 0] hβ) rfl rfl rfl rfl fun H1 hS1 => ?_
  replace hS1 : Own _ _ _ (_ :: _ :: L.eraseIdx k) := hS1
  refine OW_nilE (e' := [_, _, _, _, _, _, _, _, _, _, _, _, _, _, _, _, _, _, _, _, _, _, _, _, _, _, _, _, _, _, _, _, _, _]) rfl ?_
  refine XW_sr ?_
  refine OW_mv rfl rfl ?_
  refine OW_mv rfl rfl ?_
  refine OW_mv rfl rfl ?_
  refine OW_env (e' := [_, _, _, _, _, _, _, _, _, _, _, _, _, _, _, _, _, _, _, _, _, _, _, _, _, _, _, _, _, _, _, _, _, _]) rfl ?_
  refine OW_fn rfl rfl (oFresh hS1 (k := 1) rfl (le_lit (ν := ν) (a := [1, 0]) (b := [3, 0, 1]) (by decide)) (under_app [3, 0, 1] hβ) (before_lit (ν := ν) (a := [3, 0, 1]) (b := [4, 0, 1]) (by decide)) (by omega) fun H2 hS2 => ?_) 
  replace hS2 : Own _ _ _ (_ :: _ :: L.eraseIdx k) := hS2
  refine OW_bd rfl rfl (v := .agg [_, _, _, _]) rfl ?_
  refine OW_allocR hS2 (le_lit (ν := ν) (a := [4, 0, 1]) (b := [5, 0, 1]) (by decide)) (under_app [5, 0, 1] hβ) rfl rfl rfl rfl fun H3 hS3 => ?_
  replace hS3 : Own _ _ _ (_ :: _ :: _ :: L.eraseIdx k) := hS3
  refine OW_env (e' := [_, _, _, _, _, _, _, _, _, _, _, _, _, _, _, _, _, _, _, _, _, _, _, _, _, _, _, _, _, _, _, _, _, _]) rfl ?_
  first
  | refine OW_storeR hS3 (k := 0) rfl le_refl rfl rfl rfl rfl ⟨rfl, rfl, Nat.le_of_ble_eq_true rfl⟩ (set_whole rfl rfl) fun H4 hS4 => ?_
  | refine OW_storeR hS3 (k := 0) rfl le_refl rfl rfl rfl rfl ⟨rfl, rfl, Nat.le_of_ble_eq_true rfl⟩ (u2 := .agg [_, _, _, _]) rfl fun H4 hS4 => ?_
  replace hS4 : Own _ _ _ (_ :: _ :: _ :: L.eraseIdx k) := hS4
  refine OW_nilE (e' := [_, _, _, _, _, _, _, _, _, _, _, _, _, _, _, _, _, _, _, _, _, _, _, _, _, _, _, _, _, _, _, _, _, _]) rfl ?_
  refine XW_sr ?_
  refine OW_mv rfl rfl ?_
  refine OW_mv rfl rfl ?_
  refine OW_fa rfl rfl rfl ?_
  refine OW_env (e' := [_, _, _, _, _, _, _, _, _, _, _, _, _, _, _, _, _, _, _, _, _, _, _, _, _, _, _, _, _, _, _, _, _, _]) rfl ?_
  refine OW_loadR hS4 (k := 0) rfl rfl rfl rfl rfl (by first | exact part_whole rfl rfl rfl | rfl) ?_
  refine OW_mv rfl rfl ?_
  refine OW_mv rfl rfl ?_
  refine OW_env (e' := [_, _, _, _, _, _, _, _, _, _, _, _, _, _, _, _, _, _, _, _, _, _, _, _, _, _, _, _, _, _, _, _, _, _]) rfl ?_
  refine OW_mv rfl rfl ?_
  refine OW_mv rfl rfl ?_
  refine OW_fn rfl rfl (adW (by first | assumption | exact ⟨by assumption, by assumption, by assumption, by assumption⟩) ?_) 
  refine OW_env (e' := [_, _, _, _, _, _, _, _, _, _, _, _, _, _, _, _, _, _, _, _, _, _, _, _, _, _, _, _, _, _, _, _, _, _]) rfl ?_
  refine OW_mv rfl rfl ?_
  refine OW_fn rfl rfl (oSeal hS4 (k := 2) rfl (le_lit (ν := ν) (a := [7, 0, 1]) (b := [10, 0, 1, 1]) (by decide)) (under_app [10, 0, 1, 1] hβ) (before_lit (ν := ν) (a := [10, 0, 1, 1]) (b := [11, 0, 1, 1]) (by decide)) (by rw [Rf.fresh_len]; omega) _ _ _ _ fun H5 hS5 => ?_) 
  replace hS5 : Own _ _ _ (_ :: _ :: _ :: L.eraseIdx k) := hS5
  refine OW_fa rfl rfl rfl ?_
  refine OW_env (e' := [_, _, _, _, _, _, _, _, _, _, _, _, _, _, _, _, _, _, _, _, _, _, _, _, _, _, _, _, _, _, _, _, _, _]) rfl ?_
  refine OW_storeR hS5 (k := 0) rfl (le_lit (ν := ν) (a := [11, 0, 1, 1]) (b := [12, 0, 1, 1]) (by decide)) rfl rfl rfl rfl ⟨rfl, rfl, Nat.le_of_ble_eq_true rfl⟩ (u2 := .agg [_, _, _, _]) rfl fun H6 hS6 => ?_
  replace hS6 : Own _ _ _ (_ :: _ :: _ :: L.eraseIdx k) := hS6
  refine OW_nilE (e' := [_, _, _, _, _, _, _, _, _, _, _, _, _, _, _, _, _, _, _, _, _, _, _, _, _, _, _, _, _, _, _, _, _, _]) rfl ?_
  refine XW_sr ?_
  refine OW_loadR hS6 (k := 0) rfl rfl rfl rfl rfl (by first | exact part_whole rfl rfl rfl | rfl) ?_
  first
  | refine OW_storeR hS6 (k := 1) rfl (le_lit (ν := ν) (a := [13, 0, 1, 1]) (b := [1, 0, 1, 1, 1]) (by decide)) rfl rfl rfl rfl ⟨rfl, rfl, Nat.le_of_ble_eq_true rfl⟩ (set_whole rfl rfl) fun H7 hS7 => ?_
  | refine OW_storeR hS6 (k := 1) rfl (le_lit (ν := ν) (a := [13, 0, 1, 1]) (b := [1, 0, 1, 1, 1]) (by decide)) rfl rfl rfl rfl ⟨rfl, rfl, Nat.le_of_ble_eq_true rfl⟩ (u2 := .agg [_, _, _, _]) rfl fun H7 hS7 => ?_
  replace hS7 : Own _ _ _ (_ :: _ :: _ :: L.eraseIdx k) := hS7
  refine OW_nilE (e' := [_, _, _, _, _, _, _, _, _, _, _, _, _, _, _, _, _, _, _, _, _, _, _, _, _, _, _, _, _, _, _, _, _, _]) rfl ?_
  refine XW_ret ?_
  -- outcome 1
  refine ret_ret (res1 rfl (rv_cellR hS7 (k := 1) rfl rfl rfl rfl (by first | exact part_whole rfl rfl rfl | rfl))) ?_
  exact hq _ (Own.unpick (Own.drop0 (Own.drop0 (Own.mono hS7 (le_bef (bef_app (a := [2, 0, 1, 1, 1]) hp))))) hL)
theorem unlockW (hS : Own β ps H L) (hL : L[k]? = some (orc q S.of)) (hle : le ps ν) (hβ : under β ν = true) (hp : before ν pos') (hn : S.rows.length ≤ 4294960000) (key vol sec : Int) (l : Lf) (h : U64 vol ∧ U64 sec ∧ U64 l.v ∧ U64 l.e)
    (hq : ∀ H1, Own β pos' H1 (L.set k (orc q (S.opens key l.n (adB vol sec l.v l.e) l.c).2.of)) → Q (.tup [.str (S.opens key l.n (adB vol sec l.v l.e) l.c).1.1, .bool (S.opens key l.n (adB vol sec l.v l.e) l.c).1.2]) H1) : CW cfg ν 17 [.ptr q 0 0, .int .u64 key, .int .u64 vol, .int .u64 sec, l.enc] H Q := by
  replace hS := hS.pick hL
  refine CW_keep g17 F17 rfl ?_
  replace hS := Own.mono hS hle
  refine XW_sr ?_
  refine OW_boxR hS (le_app (p := ν) (b := [0, 0])) (under_app [0, 0] hβ) rfl rfl rfl ⟨rfl, rfl⟩ fun H1 hS1 => ?_
  replace hS1 : Own _ _ _ (_ :: _ :: L.eraseIdx k) := hS1
  refine OW_as rfl rfl ?_
  refine OW_as rfl rfl ?_
  refine OW_nilE (e' := [_, _, _, _, _, _, _, _, _, _, _, _, _, _, _, _, _, _, _, _, _, _, _, _, _, _, _, _]) rfl ?_
  refine XW_sr ?_
  refine OW_mv rfl rfl ?_
  refine OW_mv rfl rfl ?_
  refine OW_fa rfl rfl rfl ?_
  refine OW_env (e' := [_, _, _, _, _, _, _, _, _, _, _, _, _, _, _, _, _, _, _, _, _, _, _, _, _, _, _, _]) rfl ?_
  refine OW_loadR hS1 (k := 0) rfl rfl rfl rfl rfl (by first | exact part_whole rfl rfl rfl | rfl) ?_
  refine OW_mv rfl rfl ?_
  refine OW_mv rfl rfl ?_
  refine OW_env (e' := [_, _, _, _, _, _, _, _, _, _, _, _, _, _, _, _, _, _, _, _, _, _, _, _, _, _, _, _]) rfl ?_
  refine OW_fa rfl rfl rfl ?_
  refine OW_loadR hS1 (k := 0) rfl rfl rfl rfl rfl (by first | exact part_whole rfl rfl rfl | rfl) ?_
  refine OW_fa rfl rfl rfl ?_
  refine OW_env (e' := [_, _, _, _, _, _, _, _, _, _, _, _, _, _, _, _, _, _, _, _, _, _, _, _, _, _, _, _]) rfl ?_
  refine OW_loadR hS1 (k := 0) rfl rfl rfl rfl rfl (by first | exact part_whole rfl rfl rfl | rfl) ?_
  refine OW_fn rfl rfl (adW (by first | assumption | exact ⟨by assumption, by assumption, by assumption, by assumption⟩) ?_) 
  refine OW_fa rfl rfl rfl ?_
  refine OW_env (e' := [_, _, _, _, _, _, _, _, _, _, _, _, _, _, _, _, _, _, _, _, _, _, _, _, _, _, _, _]) rfl ?_
  refine OW_loadR hS1 (k := 0) rfl rfl rfl rfl rfl (by first | exact part_whole rfl rfl rfl | rfl) ?_
  refine OW_fn rfl rfl (oOpen hS1 (k := 1) rfl (le_lit (ν := ν) (a := [1, 0]) (b := [13, 0, 1]) (by decide)) (under_app [13, 0, 1] hβ) (before_lit (ν := ν) (a := [13, 0, 1]) (b := [14, 0, 1]) (by decide)) (by omega) _ _ _ _ fun H2 hS2 => ?_) 
  replace hS2 : Own _ _ _ (_ :: _ :: L.eraseIdx k) := hS2
  refine OW_ex rfl rfl rfl ?_
  refine OW_env (e' := [_, _, _, _, _, _, _, _, _, _, _, _, _, _, _, _, _, _, _, _, _, _, _, _, _, _, _, _]) rfl ?_
  refine OW_ex rfl rfl rfl ?_
  refine OW_as rfl rfl ?_
  refine OW_as rfl rfl ?_
  refine OW_nilE (e' := [_, _, _, _, _, _, _, _, _, _, _, _, _, _, _, _, _, _, _, _, _, _, _, _, _, _, _, _]) rfl ?_
  refine XW_ret ?_
  -- outcome 1
  refine ret_ret (res2 rfl (rv_tmp rfl) (rv_tmp rfl)) ?_
  exact hq _ (Own.unpick (Own.drop0 (Own.mono hS2 (le_bef (bef_app (a := [14, 0, 1]) hp)))) hL)
theorem rlockW (hS : Own β ps H L) (hL : L[k]? = some (rorc q S)) (hle : le ps ν) (hβ : under β ν = true) (hp : before ν pos') {N : Nat} (hN : S.le N) (hn : N ≤ 4294960000) (key vol sec ver ep : Int) (plain : ByteArray) (h : U64 vol ∧ U64 sec ∧ U64 ver ∧ U64 ep)
    (hq : ∀ H1, Own β pos' H1 (L.set k (rorc q (S.lock key vol sec ver ep plain).2)) → Q (S.lock key vol sec ver ep plain).1.enc H1) : CW cfg ν 20 [.ptr q 0 0, .int .u64 key, .int .u64 vol, .int .u64 sec, .int .u64 ver, .int .u64 ep, .str plain] H Q := by
  replace hS := hS.pick hL
  refine CW_keep g20 F20 rfl ?_
  replace hS := Own.mono hS hle
  refine XW_sr ?_
  refine OW_allocR hS (le_app (p := ν) (b := [0, 0])) (under_app [0, 0] hβ) rfl rfl rfl rfl fun H1 hS1 => ?_
  replace hS1 : Own _ _ _ (_ :: _ :: L.eraseIdx k) := hS1
  refine OW_nilE (e' := [_, _, _, _, _, _, _, _, _, _, _, _, _, _, _, _, _, _, _, _, _, _, _, _, _, _, _, _, _, _, _, _, _, _]) rfl ?_
  refine XW_sr ?_
  refine OW_mv rfl rfl ?_
  refine OW_fn rfl rfl (rFresh hS1 (k := 1) rfl (le_lit (ν := ν) (a := [1, 0]) (b := [1, 0, 1]) (by decide)) (under_app [1, 0, 1] hβ) (before_lit (ν := ν) (a := [1, 0, 1]) (b := [2, 0, 1]) (by decide)) (hN.mono (by omega)) fun H2 hS2 => ?_) 
  replace hS2 : Own _ _ _ (_ :: _ :: L.eraseIdx k) := hS2
  refine OW_as rfl rfl ?_
  refine OW_nilE (e' := [_, _, _, _, _, _, _, _, _, _, _, _, _, _, _, _, _, _, _, _, _, _, _, _, _, _, _, _, _, _, _, _, _, _]) rfl ?_
  refine XW_sr ?_
  refine OW_mv rfl rfl ?_
  refine OW_mv rfl rfl ?_
  refine OW_mv rfl rfl ?_
  refine OW_env (e' := [_, _, _, _, _, _, _, _, _, _, _, _, _, _, _, _, _, _, _, _, _, _, _, _, _, _, _, _, _, _, _, _, _, _]) rfl ?_
  refine OW_mv rfl rfl ?_
  refine OW_mv rfl rfl ?_
  refine OW_mv rfl rfl ?_
  refine OW_env (e' := [_, _, _, _, _, _, _, _, _, _, _, _, _, _, _, _, _, _, _, _, _, _, _, _, _, _, _, _, _, _, _, _, _, _]) rfl ?_
  refine OW_mv rfl rfl ?_
  refine OW_fn rfl rfl (radW (by first | assumption | exact ⟨by assumption, by assumption, by assumption, by assumption⟩) ?_) 
  refine OW_mv rfl rfl ?_
  refine OW_env (e' := [_, _, _, _, _, _, _, _, _, _, _, _, _, _, _, _, _, _, _, _, _, _, _, _, _, _, _, _, _, _, _, _, _, _]) rfl ?_
  refine OW_fn rfl rfl (rSeal hS2 (k := 1) rfl (le_lit (ν := ν) (a := [2, 0, 1]) (b := [9, 0, 1, 1]) (by decide)) (under_app [9, 0, 1, 1] hβ) (before_lit (ν := ν) (a := [9, 0, 1, 1]) (b := [10, 0, 1, 1]) (by decide)) ((Rf.draw_le hN _).mono (by omega)) _ _ _ _ fun H3 hS3 => ?_) 
  replace hS3 : Own _ _ _ (_ :: _ :: L.eraseIdx k) := hS3
  refine OW_as rfl rfl ?_
  refine OW_nilE (e' := [_, _, _, _, _, _, _, _, _, _, _, _, _, _, _, _, _, _, _, _, _, _, _, _, _, _, _, _, _, _, _, _, _, _]) rfl ?_
  refine XW_sr ?_
  refine OW_mv rfl rfl ?_
  refine OW_mv rfl rfl ?_
  refine OW_mv rfl rfl ?_
  refine OW_env (e' := [_, _, _, _, _, _, _, _, _, _, _, _, _, _, _, _, _, _, _, _, _, _, _, _, _, _, _, _, _, _, _, _, _, _]) rfl ?_
  refine OW_mv rfl rfl ?_
  refine OW_bd rfl rfl (v := .agg [_, _, _, _]) rfl ?_
  first
  | refine OW_storeR hS3 (k := 0) rfl (le_lit (ν := ν) (a := [10, 0, 1, 1]) (b := [5, 0, 1, 1, 1]) (by decide)) rfl rfl rfl rfl ⟨rfl, rfl, Nat.le_of_ble_eq_true rfl⟩ (set_whole rfl rfl) fun H4 hS4 => ?_
  | refine OW_storeR hS3 (k := 0) rfl (le_lit (ν := ν) (a := [10, 0, 1, 1]) (b := [5, 0, 1, 1, 1]) (by decide)) rfl rfl rfl rfl ⟨rfl, rfl, Nat.le_of_ble_eq_true rfl⟩ (u2 := .agg [_, _, _, _]) rfl fun H4 hS4 => ?_
  replace hS4 : Own _ _ _ (_ :: _ :: L.eraseIdx k) := hS4
  refine OW_nilE (e' := [_, _, _, _, _, _, _, _, _, _, _, _, _, _, _, _, _, _, _, _, _, _, _, _, _, _, _, _, _, _, _, _, _, _]) rfl ?_
  refine XW_ret ?_
  -- outcome 1
  refine ret_ret (res1 rfl (rv_cellR hS4 (k := 0) rfl rfl rfl rfl (by first | exact part_whole rfl rfl rfl | rfl))) ?_
  exact hq _ (Own.unpick (Own.drop0 (Own.mono hS4 (le_bef (bef_app (a := [6, 0, 1, 1, 1]) hp)))) hL)
theorem runlockW (hS : Own β ps H L) (hL : L[k]? = some (rorc q S)) (hle : le ps ν) (hβ : under β ν = true) (hp : before ν pos') {N : Nat} (hN : S.le N) (hn : N ≤ 4294960000) (key vol sec : Int) (l : Lf) (h : U64 vol ∧ U64 sec ∧ U64 l.v ∧ U64 l.e)
    (hq : ∀ H1, Own β pos' H1 (L.set k (rorc q (S.opens key l.n (adB vol sec l.v l.e) l.c).2)) → Q (.tup [.str (S.opens key l.n (adB vol sec l.v l.e) l.c).1.1, .bool (S.opens key l.n (adB vol sec l.v l.e) l.c).1.2]) H1) : CW cfg ν 21 [.ptr q 0 0, .int .u64 key, .int .u64 vol, .int .u64 sec, l.enc] H Q := by
  replace hS := hS.pick hL
  refine CW_keep g21 F21 rfl ?_
  replace hS := Own.mono hS hle
  refine XW_sr ?_
  refine OW_boxR hS (le_app (p := ν) (b := [0, 0])) (under_app [0, 0] hβ) rfl rfl rfl ⟨rfl, rfl⟩ fun H1 hS1 => ?_
  replace hS1 : Own _ _ _ (_ :: _ :: L.eraseIdx k) := hS1
  refine OW_as rfl rfl ?_
  refine OW_as rfl rfl ?_
  refine OW_nilE (e' := [_, _, _, _, _, _, _, _, _, _, _, _, _, _, _, _, _, _, _, _, _, _, _, _, _, _, _, _]) rfl ?_
  refine XW_sr ?_
  refine OW_mv rfl rfl ?_
  refine OW_mv rfl rfl ?_
  refine OW_fa rfl rfl rfl ?_
  refine OW_env (e' := [_, _, _, _, _, _, _, _, _, _, _, _, _, _, _, _, _, _, _, _, _, _, _, _, _, _, _, _]) rfl ?_
  refine OW_loadR hS1 (k := 0) rfl rfl rfl rfl rfl (by first | exact part_whole rfl rfl rfl | rfl) ?_
  refine OW_mv rfl rfl ?_
  refine OW_mv rfl rfl ?_
  refine OW_env (e' := [_, _, _, _, _, _, _, _, _, _, _, _, _, _, _, _, _, _, _, _, _, _, _, _, _, _, _, _]) rfl ?_
  refine OW_fa rfl rfl rfl ?_
  refine OW_loadR hS1 (k := 0) rfl rfl rfl rfl rfl (by first | exact part_whole rfl rfl rfl | rfl) ?_
  refine OW_fa rfl rfl rfl ?_
  refine OW_env (e' := [_, _, _, _, _, _, _, _, _, _, _, _, _, _, _, _, _, _, _, _, _, _, _, _, _, _, _, _]) rfl ?_
  refine OW_loadR hS1 (k := 0) rfl rfl rfl rfl rfl (by first | exact part_whole rfl rfl rfl | rfl) ?_
  refine OW_fn rfl rfl (radW (by first | assumption | exact ⟨by assumption, by assumption, by assumption, by assumption⟩) ?_) 
  refine OW_fa rfl rfl rfl ?_
  refine OW_env (e' := [_, _, _, _, _, _, _, _, _, _, _, _, _, _, _, _, _, _, _, _, _, _, _, _, _, _, _, _]) rfl ?_
  refine OW_loadR hS1 (k := 0) rfl rfl rfl rfl rfl (by first | exact part_whole rfl rfl rfl | rfl) ?_
  refine OW_fn rfl rfl (rOpen hS1 (k := 1) rfl (le_lit (ν := ν) (a := [1, 0]) (b := [13, 0, 1]) (by decide)) (under_app [13, 0, 1] hβ) (before_lit (ν := ν) (a := [13, 0, 1]) (b := [14, 0, 1]) (by decide)) (hN.mono (by omega)) _ _ _ _ fun H2 hS2 => ?_) 
  replace hS2 : Own _ _ _ (_ :: _ :: L.eraseIdx k) := hS2
  refine OW_ex rfl rfl rfl ?_
  refine OW_env (e' := [_, _, _, _, _, _, _, _, _, _, _, _, _, _, _, _, _, _, _, _, _, _, _, _, _, _, _, _]) rfl ?_
  refine OW_ex rfl rfl rfl ?_
  refine OW_as rfl rfl ?_
  refine OW_as rfl rfl ?_
  refine OW_nilE (e' := [_, _, _, _, _, _, _, _, _, _, _, _, _, _, _, _, _, _, _, _, _, _, _, _, _, _, _, _]) rfl ?_
  refine XW_ret ?_
  -- outcome 1
  refine ret_ret (res2 rfl (rv_tmp rfl) (rv_tmp rfl)) ?_
  exact hq _ (Own.unpick (Own.drop0 (Own.mono hS2 (le_bef (bef_app (a := [14, 0, 1]) hp)))) hL)
end Go.Proofs.Ytcihdjdcmahacaa.X
