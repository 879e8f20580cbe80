import Derived.Test.YtealccnfnpkngaaJC
import Derived.Test.YtealccnfnpkngaaY3
/- Layer 07: tokens: their texts, issuing and checking; what the functions of token and of the reference do. -/
set_option linter.unusedVariables false
set_option linter.unusedSimpArgs false
set_option maxRecDepth 100000
namespace Go.Proofs.Ytealccnfnpkngaa.X
open Go Go.RowKit WM
theorem EN18_TK1 {c : Cfg} {ν : Nm} {e : Env} {H : Heap} {all : Array Oper} {r : List Oper} {i : Nat} {Q : Env → Heap → Prop} {x0 x1 x2 x3 x4 x5 x6 x7 x8 x9 x10 x11 x12 x13 x14 x15 x16 x17 : AVal} (he : e = [x0,x1,x2,x3,x4,x5,x6,x7,x8,x9,x10,x11,x12,x13,x14,x15,x16,x17]) (h : OW c ν all r i [x0,x1,x2,x3,x4,x5,x6,x7,x8,x9,x10,x11,x12,x13,x14,x15,x16,x17] H Q) : OW c ν all r i e H Q := by subst he; exact h
variable {ν β ps pos' : Nm} {H : Heap} {Q : AVal → Heap → Prop} {L : List Asr} {q : Nm} {k : Nat} {S T : Rf}
abbrev U64 (n : Int) : Prop := 0 ≤ n ∧ n ≤ 18446744073709551615
structure Tk where
  tn : Int
  vo : Int
  ep : Int
  ri : Int
  tag : Int
  deriving DecidableEq
def Tk.enc (x : Tk) : AVal := .agg [.int .u64 x.tn, .int .u64 x.vo, .int .u64 x.ep, .int .u64 x.ri, .int .u64 x.tag]
def Tk.fit (x : Tk) : Prop := U64 x.tn ∧ U64 x.vo ∧ U64 x.ep ∧ U64 x.ri ∧ U64 x.tag
def Tk.z : Tk := ⟨0, 0, 0, 0, 0⟩
def cFd : Cod (Int × Int × Int × Int) := cI.pair (cI.pair (cI.pair cI))
def cTk : Cod Tk := (cI.pair (cI.pair (cI.pair (cI.pair cI)))).iso (fun p => ⟨p.1, p.2.1, p.2.2.1, p.2.2.2.1, p.2.2.2.2⟩) (fun x => (x.tn, x.vo, x.ep, x.ri, x.tag)) (fun _ => rfl) (fun _ => rfl)
theorem cTk_ok {x : Tk} (h : x.fit) : cTk.ok x := ⟨h.1, h.2.1, h.2.2.1, h.2.2.2.1, h.2.2.2.2⟩
/-- What a token says, as bytes; the text that its tag is of; its bytes. -/
def fdB (t : Tk) : ByteArray := ba (cFd.enc (t.tn, t.vo, t.ep, t.ri))
def tkB (t : Tk) : ByteArray := (⟨#[116, 111, 107, 101, 110]⟩ : ByteArray) ++ fdB t
def pkB (t : Tk) : ByteArray := ba (cTk.enc t)
theorem fdB_eq (t : Tk) : ba (encU t.tn.toNat) ++ ba (encU t.vo.toNat) ++ ba (encU t.ep.toNat) ++ ba (encU t.ri.toNat) = fdB t := by
  rw [ba_append, ba_append, ba_append, List.append_assoc, List.append_assoc]; rfl
theorem pkB_eq (t : Tk) : fdB t ++ ba (encU t.tag.toNat) = pkB t := by
  rw [← fdB_eq, ba_append, ba_append, ba_append, ba_append, List.append_assoc, List.append_assoc, List.append_assoc]; rfl
theorem fdB_inj {t u : Tk} (h : t.fit) (h' : u.fit) (e : tkB t = tkB u) : t.tn = u.tn ∧ t.vo = u.vo ∧ t.ep = u.ep ∧ t.ri = u.ri := by
  have e1 : cFd.enc (t.tn, t.vo, t.ep, t.ri) ++ [] = cFd.enc (u.tn, u.vo, u.ep, u.ri) ++ [] := by
    have := congrArg (fun b : ByteArray => b.data.toList) e
    simp only [tkB, fdB] at this
    have e : ∀ l : List UInt8, ((⟨#[116, 111, 107, 101, 110]⟩ : ByteArray) ++ ba l).data.toList = [116, 111, 107, 101, 110] ++ l := fun l => by
      rw [ByteArray.data_append, Array.toList_append]; rfl
    rw [e, e] at this
    simpa using this
  have := (cFd.inj (show cFd.ok (t.tn, t.vo, t.ep, t.ri) from ⟨h.1, h.2.1, h.2.2.1, h.2.2.2.1⟩) (show cFd.ok (u.tn, u.vo, u.ep, u.ri) from ⟨h'.1, h'.2.1, h'.2.2.1, h'.2.2.2.1⟩) e1).1
  simpa using this
theorem fdB_size {t : Tk} (h : t.fit) : (fdB t).size ≤ 40 := by
  have h1 := encU_i h.1; have h2 := encU_i h.2.1; have h3 := encU_i h.2.2.1; have h4 := encU_i h.2.2.2.1
  rw [← fdB_eq]; simp only [ByteArray.size_append]; omega
theorem pkB_size {t : Tk} (h : t.fit) : (pkB t).size ≤ 50 := by
  have h1 := encU_i h.2.2.2.2; have h2 := fdB_size h
  rw [← pkB_eq]; simp only [ByteArray.size_append]; omega
def resK (s : ByteArray) : Tk × Bool := match cTk.all s.data.toList with
  | some l => (l, true)
  | none => (Tk.z, false)
abbrev r1 (s : ByteArray) := resU s
abbrev r2 (s : ByteArray) := resU (r1 s).2.1
abbrev r3 (s : ByteArray) := resU (r2 s).2.1
abbrev r4 (s : ByteArray) := resU (r3 s).2.1
abbrev r5 (s : ByteArray) := resU (r4 s).2.1
theorem tkTk (s : ByteArray) : cTk.tk s.data.toList = if (r1 s).2.2 = true ∧ (r2 s).2.2 = true ∧ (r3 s).2.2 = true ∧ (r4 s).2.2 = true ∧ (r5 s).2.2 = true then some (⟨(r1 s).1, (r2 s).1, (r3 s).1, (r4 s).1, (r5 s).1⟩, (r5 s).2.1.data.toList) else none := by
  rcases cI_res s with ⟨h1, _, h2⟩ | ⟨h1, h2⟩
  · rw [if_neg (by rw [h1]; simp)]
    exact Cod.iso_tk1 (Cod.pair_tk1 h2)
  · rcases cI_res (r1 s).2.1 with ⟨h3, _, h4⟩ | ⟨h3, h4⟩
    · rw [if_neg (by rw [show (r2 s).2.2 = false from h3]; simp)]
      exact Cod.iso_tk1 (Cod.pair_tk2 h2 (Cod.pair_tk1 h4))
    · rcases cI_res (r2 s).2.1 with ⟨h5, _, h6⟩ | ⟨h5, h6⟩
      · rw [if_neg (by rw [show (r3 s).2.2 = false from h5]; simp)]
        exact Cod.iso_tk1 (Cod.pair_tk2 h2 (Cod.pair_tk2 h4 (Cod.pair_tk1 h6)))
      · rcases cI_res (r3 s).2.1 with ⟨h7, _, h8⟩ | ⟨h7, h8⟩
        · rw [if_neg (by rw [show (r4 s).2.2 = false from h7]; simp)]
          exact Cod.iso_tk1 (Cod.pair_tk2 h2 (Cod.pair_tk2 h4 (Cod.pair_tk2 h6 (Cod.pair_tk1 h8))))
        · rcases cI_res (r4 s).2.1 with ⟨h9, _, h10⟩ | ⟨h9, h10⟩
          · rw [if_neg (by rw [show (r5 s).2.2 = false from h9]; simp)]
            exact Cod.iso_tk1 (Cod.pair_tk2 h2 (Cod.pair_tk2 h4 (Cod.pair_tk2 h6 (Cod.pair_tk2 h8 h10))))
          · rw [if_pos ⟨h1, h3, h5, h7, h9⟩]
            exact Cod.iso_tk2 (Cod.pair_tk3 h2 (Cod.pair_tk3 h4 (Cod.pair_tk3 h6 (Cod.pair_tk3 h8 h10))))
theorem nil_str {s : ByteArray} (h : s.data.toList = []) : s = ⟨#[]⟩ := by rw [← ba_of s, h]; rfl
theorem resK_eq (s : ByteArray) : resK s = if (r1 s).2.2 = true ∧ (r2 s).2.2 = true ∧ (r3 s).2.2 = true ∧ (r4 s).2.2 = true ∧ (r5 s).2.2 = true ∧ (r5 s).2.1 = ⟨#[]⟩ then (⟨(r1 s).1, (r2 s).1, (r3 s).1, (r4 s).1, (r5 s).1⟩, true) else (Tk.z, false) := by
  unfold resK Cod.all
  rw [tkTk]
  by_cases h : (r1 s).2.2 = true ∧ (r2 s).2.2 = true ∧ (r3 s).2.2 = true ∧ (r4 s).2.2 = true ∧ (r5 s).2.2 = true
  · rw [if_pos h]
    by_cases h5 : (r5 s).2.1 = ⟨#[]⟩
    · rw [if_pos ⟨h.1, h.2.1, h.2.2.1, h.2.2.2.1, h.2.2.2.2, h5⟩, h5]
    · rw [if_neg (fun e => h5 e.2.2.2.2.2)]
      cases h6 : (r5 s).2.1.data.toList with
      | nil => exact absurd (nil_str h6) h5
      | cons a b => rfl
  · rw [if_neg h, if_neg (fun e => h ⟨e.1, e.2.1, e.2.2.1, e.2.2.2.1, e.2.2.2.2.1⟩)]
theorem resK_back {l : Tk} (h : l.fit) : resK (pkB l) = (l, true) := by
  unfold resK
  have : cTk.all (pkB l).data.toList = some l := (cTk.all_iff _ _).2 ⟨cTk_ok h, by rw [pkB, ba_data]⟩
  rw [this]
theorem resK_once {s : ByteArray} (h : (resK s).2 = true) : pkB (resK s).1 = s := by
  unfold resK at h ⊢
  cases hc : cTk.all s.data.toList with
  | none => rw [hc] at h; cases h
  | some l =>
    have := ((cTk.all_iff _ _).1 hc).2
    show pkB l = s
    rw [pkB, ← ba_of s, this]
theorem resK_fit (s : ByteArray) : (resK s).1.fit := by
  unfold resK
  cases hc : cTk.all s.data.toList with
  | none => exact ⟨by decide, by decide, by decide, by decide, by decide⟩
  | some l => have := ((cTk.all_iff _ _).1 hc).1; exact ⟨this.1, this.2.1, this.2.2.1, this.2.2.2.1, this.2.2.2.2⟩
theorem fieldsW {t : Tk} (h : t.fit) (hq : Q (.str (fdB t)) H) : CW cfg ν 80 [t.enc] H Q := by
  obtain ⟨ha, hb, hc, hd, he⟩ := h
  have h1 := encU_i ha; have h2 := encU_i hb; have h3 := encU_i hc; have h4 := encU_i hd
  rw [← fdB_eq] at hq
  refine CW_pure g80 F80 rfl ?_
  have hS0 : Own ν ν (fun _ => none) [] := Own.nil
  refine XW_sr ?_
  refine OW_boxR hS0 (le_app (p := ν) (b := [0, 0])) (under_app [0, 0] under_me) rfl rfl rfl ⟨rfl, rfl⟩ fun H1 hS1 => ?_
  replace hS1 : Own _ _ _ ([_]) := hS1
  refine OW_as rfl rfl ?_
  refine OW_nilE (e' := [_,_,_,_,_,_,_,_,_,_,_,_,_,_,_,_,_,_]) rfl ?_
  refine XW_sr ?_
  refine OW_fa rfl rfl rfl ?_
  refine OW_loadR hS1 (k := 0) rfl rfl rfl rfl rfl (by first | exact part_whole rfl rfl rfl | rfl) ?_
  refine OW_fn rfl rfl (putUi (by assumption) ?_) 
  refine EN18_TK1 rfl ?_
  refine OW_fa rfl rfl rfl ?_
  refine OW_loadR hS1 (k := 0) rfl rfl rfl rfl rfl (by first | exact part_whole rfl rfl rfl | rfl) ?_
  refine OW_fn rfl rfl (putUi (by assumption) ?_) 
  refine EN18_TK1 rfl ?_
  refine OW_bin rfl rfl rfl rfl (cat (by first | omega | assumption | (simp only [ss]; omega) | (refine Nat.le_trans (Nat.add_le_add_left (show _ ≤ 256 by decide) _) (by first | omega | (simp only [ss]; omega))) | (refine Nat.le_trans (Nat.add_le_add_right (show _ ≤ 256 by decide) _) (by first | omega | (simp only [ss]; omega))))) ?_
  refine OW_fa rfl rfl rfl ?_
  refine OW_loadR hS1 (k := 0) rfl rfl rfl rfl rfl (by first | exact part_whole rfl rfl rfl | rfl) ?_
  refine EN18_TK1 rfl ?_
  refine OW_fn rfl rfl (putUi (by assumption) ?_) 
  refine OW_bin rfl rfl rfl rfl (cat (by first | omega | assumption | (simp only [ss]; omega) | (refine Nat.le_trans (Nat.add_le_add_left (show _ ≤ 256 by decide) _) (by first | omega | (simp only [ss]; omega))) | (refine Nat.le_trans (Nat.add_le_add_right (show _ ≤ 256 by decide) _) (by first | omega | (simp only [ss]; omega))))) ?_
  refine OW_fa rfl rfl rfl ?_
  refine EN18_TK1 rfl ?_
  refine OW_loadR hS1 (k := 0) rfl rfl rfl rfl rfl (by first | exact part_whole rfl rfl rfl | rfl) ?_
  refine OW_fn rfl rfl (putUi (by assumption) ?_) 
  refine OW_bin rfl rfl rfl rfl (cat (by first | omega | assumption | (simp only [ss]; omega) | (refine Nat.le_trans (Nat.add_le_add_left (show _ ≤ 256 by decide) _) (by first | omega | (simp only [ss]; omega))) | (refine Nat.le_trans (Nat.add_le_add_right (show _ ≤ 256 by decide) _) (by first | omega | (simp only [ss]; omega))))) ?_
  refine EN18_TK1 rfl ?_
  refine OW_as rfl rfl ?_
  refine OW_nilE (e' := [_,_,_,_,_,_,_,_,_,_,_,_,_,_,_,_,_,_]) rfl ?_
  refine XW_ret ?_
  -- outcome 1
  refine ret_ret (res1 rfl (rv_tmp rfl)) (frz1 (Q := Q) (by first | exact freeze_plain rfl | exact Ls.freeze (by assumption) | exact Ls.freeze Ls.of | exact Ls.freeze Ls.emp | exact Ls.freeze Ls.nls) ?_)
  exact hq
theorem textW {t : Tk} (h : t.fit) (hq : Q (.str (tkB t)) H) : CW cfg ν 47 [t.enc] H Q := by
  have hz := fdB_size h
  refine CW_pure g47 F47 rfl ?_
  have hS0 : Own ν ν (fun _ => none) [] := Own.nil
  refine XW_sr ?_
  refine OW_boxR hS0 (le_app (p := ν) (b := [0, 0])) (under_app [0, 0] under_me) rfl rfl rfl ⟨rfl, rfl⟩ fun H1 hS1 => ?_
  replace hS1 : Own _ _ _ ([_]) := hS1
  refine OW_as rfl rfl ?_
  refine OW_nilE (e' := [_,_,_,_,_,_]) rfl ?_
  refine XW_sr ?_
  refine OW_loadR hS1 (k := 0) rfl rfl rfl rfl rfl (by first | exact part_whole rfl rfl rfl | rfl) ?_
  refine OW_fn rfl rfl (fieldsW (by assumption) ?_) 
  refine OW_bin rfl rfl rfl rfl (cat (by show 5 + _ ≤ 9223372036854775807; omega)) ?_
  refine OW_env (e' := [_,_,_,_,_,_]) rfl ?_
  refine OW_as rfl rfl ?_
  refine OW_nilE (e' := [_,_,_,_,_,_]) rfl ?_
  refine XW_ret ?_
  -- outcome 1
  refine ret_ret (res1 rfl (rv_tmp rfl)) (frz1 (Q := Q) (by first | exact freeze_plain rfl | exact Ls.freeze (by assumption) | exact Ls.freeze Ls.of | exact Ls.freeze Ls.emp | exact Ls.freeze Ls.nls) ?_)
  exact hq
theorem saidW {t : Tk} (h : t.fit) (hq : Q (.str (fdB t)) H) : CW cfg ν 78 [t.enc] H Q := by
  obtain ⟨ha, hb, hc, hd, he⟩ := h
  have h1 := encU_i ha; have h2 := encU_i hb; have h3 := encU_i hc; have h4 := encU_i hd
  rw [← fdB_eq] at hq
  refine CW_pure g78 F78 rfl ?_
  have hS0 : Own ν ν (fun _ => none) [] := Own.nil
  refine XW_sr ?_
  refine OW_boxR hS0 (le_app (p := ν) (b := [0, 0])) (under_app [0, 0] under_me) rfl rfl rfl ⟨rfl, rfl⟩ fun H1 hS1 => ?_
  replace hS1 : Own _ _ _ ([_]) := hS1
  refine OW_as rfl rfl ?_
  refine OW_nilE (e' := [_,_,_,_,_,_,_,_,_,_,_,_,_,_,_,_,_,_]) rfl ?_
  refine XW_sr ?_
  refine OW_fa rfl rfl rfl ?_
  refine OW_loadR hS1 (k := 0) rfl rfl rfl rfl rfl (by first | exact part_whole rfl rfl rfl | rfl) ?_
  refine OW_fn rfl rfl (rputUi (by assumption) ?_) 
  refine EN18_TK1 rfl ?_
  refine OW_fa rfl rfl rfl ?_
  refine OW_loadR hS1 (k := 0) rfl rfl rfl rfl rfl (by first | exact part_whole rfl rfl rfl | rfl) ?_
  refine OW_fn rfl rfl (rputUi (by assumption) ?_) 
  refine EN18_TK1 rfl ?_
  refine OW_bin rfl rfl rfl rfl (cat (by first | omega | assumption | (simp only [ss]; omega) | (refine Nat.le_trans (Nat.add_le_add_left (show _ ≤ 256 by decide) _) (by first | omega | (simp only [ss]; omega))) | (refine Nat.le_trans (Nat.add_le_add_right (show _ ≤ 256 by decide) _) (by first | omega | (simp only [ss]; omega))))) ?_
  refine OW_fa rfl rfl rfl ?_
  refine OW_loadR hS1 (k := 0) rfl rfl rfl rfl rfl (by first | exact part_whole rfl rfl rfl | rfl) ?_
  refine EN18_TK1 rfl ?_
  refine OW_fn rfl rfl (rputUi (by assumption) ?_) 
  refine OW_bin rfl rfl rfl rfl (cat (by first | omega | assumption | (simp only [ss]; omega) | (refine Nat.le_trans (Nat.add_le_add_left (show _ ≤ 256 by decide) _) (by first | omega | (simp only [ss]; omega))) | (refine Nat.le_trans (Nat.add_le_add_right (show _ ≤ 256 by decide) _) (by first | omega | (simp only [ss]; omega))))) ?_
  refine OW_fa rfl rfl rfl ?_
  refine EN18_TK1 rfl ?_
  refine OW_loadR hS1 (k := 0) rfl rfl rfl rfl rfl (by first | exact part_whole rfl rfl rfl | rfl) ?_
  refine OW_fn rfl rfl (rputUi (by assumption) ?_) 
  refine OW_bin rfl rfl rfl rfl (cat (by first | omega | assumption | (simp only [ss]; omega) | (refine Nat.le_trans (Nat.add_le_add_left (show _ ≤ 256 by decide) _) (by first | omega | (simp only [ss]; omega))) | (refine Nat.le_trans (Nat.add_le_add_right (show _ ≤ 256 by decide) _) (by first | omega | (simp only [ss]; omega))))) ?_
  refine EN18_TK1 rfl ?_
  refine OW_as rfl rfl ?_
  refine OW_nilE (e' := [_,_,_,_,_,_,_,_,_,_,_,_,_,_,_,_,_,_]) rfl ?_
  refine XW_ret ?_
  -- outcome 1
  refine ret_ret (res1 rfl (rv_tmp rfl)) (frz1 (Q := Q) (by first | exact freeze_plain rfl | exact Ls.freeze (by assumption) | exact Ls.freeze Ls.of | exact Ls.freeze Ls.emp | exact Ls.freeze Ls.nls) ?_)
  exact hq
end Go.Proofs.Ytealccnfnpkngaa.X
/- Layer 07: issuing and checking, walked. -/
set_option linter.unusedVariables false
set_option linter.unusedSimpArgs false
set_option maxRecDepth 100000
namespace Go.Proofs.Ytealccnfnpkngaa.X
open Go Go.RowKit WM
theorem EZ38_TK2 {c : Cfg} {ν : Nm} {e : Env} {H : Heap} {all : Array Oper} {i : Nat} {Q : Env → Heap → Prop} {x0 x1 x2 x3 x4 x5 x6 x7 x8 x9 x10 x11 x12 x13 x14 x15 x16 x17 x18 x19 x20 x21 x22 x23 x24 x25 x26 x27 x28 x29 x30 x31 x32 x33 x34 x35 x36 x37 : AVal} (he : e = [x0,x1,x2,x3,x4,x5,x6,x7,x8,x9,x10,x11,x12,x13,x14,x15,x16,x17,x18,x19,x20,x21,x22,x23,x24,x25,x26,x27,x28,x29,x30,x31,x32,x33,x34,x35,x36,x37]) (h : Q [x0,x1,x2,x3,x4,x5,x6,x7,x8,x9,x10,x11,x12,x13,x14,x15,x16,x17,x18,x19,x20,x21,x22,x23,x24,x25,x26,x27,x28,x29,x30,x31,x32,x33,x34,x35,x36,x37] H) : OW c ν all [] i e H Q := by subst he; exact OW_nil h
variable {ν β ps pos' : Nm} {H : Heap} {Q : AVal → Heap → Prop} {L : List Asr} {q : Nm} {k : Nat} {S T : Rf}
def andN (w r : Int) : Int := IntKind.u64.wrap (((BitVec.ofInt 64 w &&& ~~~ BitVec.ofInt 64 r).toNat : Nat) : Int)
namespace Rf
def issue (S : Rf) (key : Int) (t : Tk) : Tk × Rf := (⟨t.tn, t.vo, t.ep, t.ri, (S.mac key (tkB t)).1⟩, (S.mac key (tkB t)).2)
def ans (b : Bool) (t : Tk) (vol ep want : Int) : Int := if b = false then 70 else if t.vo ≠ vol then 71 else if t.ep < ep then 72 else if andN want t.ri ≠ 0 then 73 else 0
def check (S : Rf) (key : Int) (t : Tk) (vol ep want : Int) : Int × Rf := (ans (S.verify key (tkB t) t.tag).1 t vol ep want, (S.verify key (tkB t) t.tag).2)
def issues (S : Rf) (key : Int) : List Tk → List Tk × Rf
  | [] => ([], S)
  | t :: l => ((S.issue key t).1 :: ((S.issue key t).2.issues key l).1, ((S.issue key t).2.issues key l).2)
theorem issues_snoc {key : Int} : ∀ (l : List Tk) (t : Tk) {S : Rf}, S.issues key (l ++ [t]) = ((S.issues key l).1 ++ [((S.issues key l).2.issue key t).1], ((S.issues key l).2.issue key t).2)
  | [], t, _ => rfl
  | a :: l, t, _ => by simp only [List.cons_append, issues]; rw [issues_snoc l t]
theorem issues_step {key : Int} {l : List Tk} {i : Nat} (h : i < l.length) : S.issues key (l.take (i + 1)) = ((S.issues key (l.take i)).1 ++ [((S.issues key (l.take i)).2.issue key l[i]).1], ((S.issues key (l.take i)).2.issue key l[i]).2) := by
  rw [← List.take_append_getElem h, issues_snoc]
theorem issues_rows {key : Int} : ∀ (l : List Tk) {S : Rf}, (S.issues key l).2.rows.length ≤ S.rows.length + l.length
  | [], _ => Nat.le_refl _
  | t :: l, S => by
    have h1 : (S.issue key t).2.rows.length ≤ S.rows.length + 1 := value_rows _
    have h2 := issues_rows (key := key) l (S := (S.issue key t).2)
    simp only [issues, List.length_cons]; omega
theorem issues_up {key : Int} : ∀ (l : List Tk) {S : Rf}, S.Up (S.issues key l).2
  | [], _ => Up.refl
  | t :: l, S => (value_up _ : S.Up (S.issue key t).2).trans (issues_up l)
theorem issues_len {key : Int} : ∀ (l : List Tk) {S : Rf}, (S.issues key l).1.length = l.length
  | [], _ => rfl
  | t :: l, S => by simp only [issues, List.length_cons, issues_len l]
end Rf
theorem issueW (hS : Own β ps H L) (hL : L[k]? = some (orc q S.of)) (hle : le ps ν) (hβ : under β ν = true) (hp : before ν pos') (hn : S.rows.length ≤ 4294960000) (key : Int) (t : Tk) (ht : t.fit)
    (hq : ∀ H1, Own β pos' H1 (L.set k (orc q (S.issue key t).2.of)) → Q (S.issue key t).1.enc H1) : CW cfg ν 44 [.ptr q 0 0, .int .u64 key, .int .u64 t.tn, .int .u64 t.vo, .int .u64 t.ep, .int .u64 t.ri] H Q := by
  replace hS := hS.pick hL
  have ht0 : (⟨t.tn, t.vo, t.ep, t.ri, 0⟩ : Tk).fit := ⟨ht.1, ht.2.1, ht.2.2.1, ht.2.2.2.1, (by decide : U64 0)⟩
  refine CW_keep g44 F44 rfl ?_
  replace hS := Own.mono hS hle
  refine XW_sr ?_
  refine OW_allocR hS (le_app (p := ν) (b := [0, 0])) (under_app [0, 0] hβ) rfl rfl rfl rfl fun H1 hS1 => ?_
  replace hS1 : Own _ _ _ (_ :: _ :: L.eraseIdx k) := hS1
  refine OW_nilE (e' := [_,_,_,_,_,_,_,_,_,_,_,_,_,_,_,_,_,_,_,_,_,_,_,_,_,_]) rfl ?_
  refine XW_sr ?_
  refine OW_mv rfl rfl ?_
  refine OW_mv rfl rfl ?_
  refine OW_mv rfl rfl ?_
  refine OW_env (e' := [_,_,_,_,_,_,_,_,_,_,_,_,_,_,_,_,_,_,_,_,_,_,_,_,_,_]) rfl ?_
  refine OW_mv rfl rfl ?_
  refine OW_bd rfl rfl (v := .agg [_, _, _, _, _]) rfl ?_
  refine OW_allocR hS1 (le_lit (ν := ν) (a := [1, 0]) (b := [5, 0, 1]) (by decide)) (under_app [5, 0, 1] hβ) rfl rfl rfl rfl fun H2 hS2 => ?_
  replace hS2 : Own _ _ _ (_ :: _ :: _ :: L.eraseIdx k) := hS2
  refine OW_env (e' := [_,_,_,_,_,_,_,_,_,_,_,_,_,_,_,_,_,_,_,_,_,_,_,_,_,_]) rfl ?_
  first
  | refine OW_storeR hS2 (k := 0) rfl le_refl rfl rfl rfl rfl ⟨rfl, rfl, Nat.le_of_ble_eq_true rfl⟩ (set_whole rfl rfl) fun H3 hS3 => ?_
  | refine OW_storeR hS2 (k := 0) rfl le_refl rfl rfl rfl rfl ⟨rfl, rfl, Nat.le_of_ble_eq_true rfl⟩ (u2 := .agg [_, _, _, _, _]) rfl fun H3 hS3 => ?_
  replace hS3 : Own _ _ _ (_ :: _ :: _ :: L.eraseIdx k) := hS3
  refine OW_nilE (e' := [_,_,_,_,_,_,_,_,_,_,_,_,_,_,_,_,_,_,_,_,_,_,_,_,_,_]) rfl ?_
  refine XW_sr ?_
  refine OW_mv rfl rfl ?_
  refine OW_mv rfl rfl ?_
  refine OW_loadR hS3 (k := 0) rfl rfl rfl rfl rfl (by first | exact part_whole rfl rfl rfl | rfl) ?_
  refine OW_env (e' := [_,_,_,_,_,_,_,_,_,_,_,_,_,_,_,_,_,_,_,_,_,_,_,_,_,_]) rfl ?_
  refine OW_fn rfl rfl (textW ht0 ?_) 
  refine OW_fn rfl rfl (oMac hS3 (k := 2) rfl (le_lit (ν := ν) (a := [7, 0, 1]) (b := [4, 0, 1, 1]) (by decide)) (under_app [4, 0, 1, 1] hβ) (before_lit (ν := ν) (a := [4, 0, 1, 1]) (b := [5, 0, 1, 1]) (by decide)) (by omega) _ _ fun H4 hS4 => ?_) 
  replace hS4 : Own _ _ _ (_ :: _ :: _ :: L.eraseIdx k) := hS4
  refine OW_fa rfl rfl rfl ?_
  refine OW_env (e' := [_,_,_,_,_,_,_,_,_,_,_,_,_,_,_,_,_,_,_,_,_,_,_,_,_,_]) rfl ?_
  refine OW_storeR hS4 (k := 0) rfl (le_lit (ν := ν) (a := [5, 0, 1, 1]) (b := [6, 0, 1, 1]) (by decide)) rfl rfl rfl rfl ⟨rfl, rfl, Nat.le_of_ble_eq_true rfl⟩ (u2 := .agg [_, _, _, _, _]) rfl fun H5 hS5 => ?_
  replace hS5 : Own _ _ _ (_ :: _ :: _ :: L.eraseIdx k) := hS5
  refine OW_nilE (e' := [_,_,_,_,_,_,_,_,_,_,_,_,_,_,_,_,_,_,_,_,_,_,_,_,_,_]) rfl ?_
  refine XW_sr ?_
  refine OW_loadR hS5 (k := 0) rfl rfl rfl rfl rfl (by first | exact part_whole rfl rfl rfl | rfl) ?_
  first
  | refine OW_storeR hS5 (k := 1) rfl (le_lit (ν := ν) (a := [7, 0, 1, 1]) (b := [1, 0, 1, 1, 1]) (by decide)) rfl rfl rfl rfl ⟨rfl, rfl, Nat.le_of_ble_eq_true rfl⟩ (set_whole rfl rfl) fun H6 hS6 => ?_
  | refine OW_storeR hS5 (k := 1) rfl (le_lit (ν := ν) (a := [7, 0, 1, 1]) (b := [1, 0, 1, 1, 1]) (by decide)) rfl rfl rfl rfl ⟨rfl, rfl, Nat.le_of_ble_eq_true rfl⟩ (u2 := .agg [_, _, _, _, _]) rfl fun H6 hS6 => ?_
  replace hS6 : Own _ _ _ (_ :: _ :: _ :: L.eraseIdx k) := hS6
  refine OW_nilE (e' := [_,_,_,_,_,_,_,_,_,_,_,_,_,_,_,_,_,_,_,_,_,_,_,_,_,_]) rfl ?_
  refine XW_ret ?_
  -- outcome 1
  refine ret_ret (res1 rfl (rv_cellR hS6 (k := 1) rfl rfl rfl rfl (by first | exact part_whole rfl rfl rfl | rfl))) ?_
  exact hq _ (Own.unpick (Own.drop0 (Own.drop0 (Own.mono hS6 (le_bef (bef_app (a := [2, 0, 1, 1, 1]) hp))))) hL)
theorem checkW (hS : Own β ps H L) (hL : L[k]? = some (orc q S.of)) (hle : le ps ν) (hβ : under β ν = true) (hp : before ν pos') (key : Int) (t : Tk) (ht : t.fit) (vol ep want : Int)
    (hq : ∀ H1, Own β pos' H1 (L.set k (orc q (S.check key t vol ep want).2.of)) → Q (.int .i64 (S.check key t vol ep want).1) H1) : CW cfg ν 22 [.ptr q 0 0, .int .u64 key, t.enc, .int .u64 vol, .int .u64 ep, .int .u64 want] H Q := by
  replace hS := hS.pick hL
  refine CW_keep g22 F22 rfl ?_
  replace hS := Own.mono hS hle
  refine XW_sr ?_
  refine OW_boxR hS (le_app (p := ν) (b := [0, 0])) (under_app [0, 0] hβ) rfl rfl rfl ⟨rfl, rfl⟩ fun H1 hS1 => ?_
  replace hS1 : Own _ _ _ (_ :: _ :: L.eraseIdx k) := hS1
  refine OW_as rfl rfl ?_
  refine EZ38_TK2 rfl ?_
  refine XW_seq ?_
  refine XW_block ?_
  refine XW_sr ?_
  refine OW_mv rfl rfl ?_
  refine OW_mv rfl rfl ?_
  refine OW_loadR hS1 (k := 0) rfl rfl rfl rfl rfl (by first | exact part_whole rfl rfl rfl | rfl) ?_
  refine OW_env (e' := [_,_,_,_,_,_,_,_,_,_,_,_,_,_,_,_,_,_,_,_,_,_,_,_,_,_,_,_,_,_,_,_,_,_,_,_,_,_]) rfl ?_
  refine OW_fn rfl rfl (textW (by assumption) ?_) 
  refine OW_fa rfl rfl rfl ?_
  refine OW_loadR hS1 (k := 0) rfl rfl rfl rfl rfl (by first | exact part_whole rfl rfl rfl | rfl) ?_
  refine OW_env (e' := [_,_,_,_,_,_,_,_,_,_,_,_,_,_,_,_,_,_,_,_,_,_,_,_,_,_,_,_,_,_,_,_,_,_,_,_,_,_]) rfl ?_
  refine OW_fn rfl rfl (oVerify hS1 (k := 1) rfl (le_lit (ν := ν) (a := [1, 0]) (b := [6, 0, 0, 1]) (by decide)) (under_app [6, 0, 0, 1] hβ) (before_lit (ν := ν) (a := [6, 0, 0, 1]) (b := [7, 0, 0, 1]) (by decide)) _ _ _ fun H2 hS2 => ?_) 
  replace hS2 : Own _ _ _ (_ :: _ :: L.eraseIdx k) := hS2
  refine OW_un rfl rfl rfl ?_
  refine OW_as rfl rfl ?_
  refine EZ38_TK2 rfl ?_
  refine XW_if rfl (fun h1 => ?_) (fun h1 => ?_)
  ·try simp only [bs] at h1
   refine XW_sr ?_
   refine OW_as rfl rfl ?_
   refine EZ38_TK2 rfl ?_
   refine XW_ret ?_
   refine block_ret ?_
   refine then_ret ?_
   -- outcome 1
   refine ret_ret (res1 rfl (rv_tmp rfl)) ?_
   refine qcast (hq _ (Own.unpick (Own.drop0 (Own.mono hS2 (le_bef (bef_app (a := [7, 0, 0, 1]) hp)))) hL)) ?_; simp [Rf.check, Rf.ans, h1]
  ·try simp only [bs] at h1
   refine XW_sr ?_
   refine OW_fa rfl rfl rfl ?_
   refine OW_loadR hS2 (k := 0) rfl rfl rfl rfl rfl (by first | exact part_whole rfl rfl rfl | rfl) ?_
   refine OW_mv rfl rfl ?_
   refine OW_env (e' := [_,_,_,_,_,_,_,_,_,_,_,_,_,_,_,_,_,_,_,_,_,_,_,_,_,_,_,_,_,_,_,_,_,_,_,_,_,_]) rfl ?_
   refine OW_bin rfl rfl rfl rfl rfl ?_
   refine OW_as rfl rfl ?_
   refine EZ38_TK2 rfl ?_
   refine XW_if rfl (fun h3 => ?_) (fun h3 => ?_)
   ·try simp only [bs] at h3
    refine XW_sr ?_
    refine OW_as rfl rfl ?_
    refine EZ38_TK2 rfl ?_
    refine XW_ret ?_
    refine block_ret ?_
    refine then_ret ?_
    -- outcome 2
    refine ret_ret (res1 rfl (rv_tmp rfl)) ?_
    refine qcast (hq _ (Own.unpick (Own.drop0 (Own.mono hS2 (le_bef (bef_app (a := [7, 0, 0, 1]) hp)))) hL)) ?_; simp [Rf.check, Rf.ans, h1, h3]
   ·try simp only [bs] at h3
    refine XW_sr ?_
    refine OW_fa rfl rfl rfl ?_
    refine OW_loadR hS2 (k := 0) rfl rfl rfl rfl rfl (by first | exact part_whole rfl rfl rfl | rfl) ?_
    refine OW_mv rfl rfl ?_
    refine OW_env (e' := [_,_,_,_,_,_,_,_,_,_,_,_,_,_,_,_,_,_,_,_,_,_,_,_,_,_,_,_,_,_,_,_,_,_,_,_,_,_]) rfl ?_
    refine OW_bin rfl rfl rfl rfl rfl ?_
    refine OW_as rfl rfl ?_
    refine EZ38_TK2 rfl ?_
    refine XW_if rfl (fun h5 => ?_) (fun h5 => ?_)
    ·try simp only [bs] at h5
     refine XW_sr ?_
     refine OW_as rfl rfl ?_
     refine EZ38_TK2 rfl ?_
     refine XW_ret ?_
     refine block_ret ?_
     refine then_ret ?_
     -- outcome 3
     refine ret_ret (res1 rfl (rv_tmp rfl)) ?_
     refine qcast (hq _ (Own.unpick (Own.drop0 (Own.mono hS2 (le_bef (bef_app (a := [7, 0, 0, 1]) hp)))) hL)) ?_; simp [Rf.check, Rf.ans, h1, h3, h5]
    ·try simp only [bs] at h5
     refine XW_sr ?_
     refine OW_mv rfl rfl ?_
     refine OW_fa rfl rfl rfl ?_
     refine OW_loadR hS2 (k := 0) rfl rfl rfl rfl rfl (by first | exact part_whole rfl rfl rfl | rfl) ?_
     refine OW_env (e' := [_,_,_,_,_,_,_,_,_,_,_,_,_,_,_,_,_,_,_,_,_,_,_,_,_,_,_,_,_,_,_,_,_,_,_,_,_,_]) rfl ?_
     refine OW_bin rfl rfl rfl rfl rfl ?_
     refine OW_bin rfl rfl rfl rfl rfl ?_
     refine OW_as rfl rfl ?_
     refine EZ38_TK2 rfl ?_
     refine XW_if rfl (fun h7 => ?_) (fun h7 => ?_)
     ·try simp only [bs] at h7
      refine XW_sr ?_
      refine OW_as rfl rfl ?_
      refine EZ38_TK2 rfl ?_
      refine XW_ret ?_
      refine block_ret ?_
      refine then_ret ?_
      -- outcome 4
      refine ret_ret (res1 rfl (rv_tmp rfl)) ?_
      refine qcast (hq _ (Own.unpick (Own.drop0 (Own.mono hS2 (le_bef (bef_app (a := [7, 0, 0, 1]) hp)))) hL)) ?_; replace h7 : andN want t.ri ≠ 0 := h7; simp [Rf.check, Rf.ans, h1, h3, h5, h7]
     ·try simp only [bs] at h7
      refine XW_skip ?_
      refine block_norm ?_
      refine then_norm ?_
      refine XW_sr ?_
      refine OW_as rfl rfl ?_
      refine EZ38_TK2 rfl ?_
      refine XW_ret ?_
      -- outcome 5
      refine ret_ret (res1 rfl (rv_tmp rfl)) ?_
      refine qcast (hq _ (Own.unpick (Own.drop0 (Own.mono hS2 (le_bef (bef_app (a := [7, 0, 0, 1]) hp)))) hL)) ?_; replace h7 : andN want t.ri = 0 := h7; simp [Rf.check, Rf.ans, h1, h3, h5, h7]
structure Us where
  d : List Int
  key : Int
  iss : List Tk
def Us.enc (x : Us) : AVal := .agg [.lst (x.d.map (fun a : Int => AVal.int .u64 a)), .int .u64 x.key, .lst (x.iss.map Tk.enc)]
structure Us.good (x : Us) : Prop where
  d : x.d.length ≤ 1048576
  iss : x.iss.length ≤ 1048576
  fit : ∀ t ∈ x.iss, t.fit
def Us.ts (x : Us) : List Tk × Rf := (Rf.new x.d).issues x.key (x.iss.take 100)
theorem Us.stop {x : Us} {i : Nat} (hi : i ≤ 100) (h : x.iss.length ≤ i ∨ 100 ≤ i) : (Rf.new x.d).issues x.key (x.iss.take i) = x.ts := by
  unfold Us.ts
  rcases h with h | h
  · rw [List.take_of_length_le h, List.take_of_length_le (by omega)]
  · obtain rfl : i = 100 := by omega
    rfl
end Go.Proofs.Ytealccnfnpkngaa.X
/- The reference's Issue of tokens (layers 13, 14; layer 07 has it in TK6). -/
set_option linter.unusedVariables false
set_option linter.unusedSimpArgs false
set_option maxRecDepth 100000
namespace Go.Proofs.Ytealccnfnpkngaa.X
open Go Go.RowKit WM
variable {ν β ps pos' : Nm} {H : Heap} {Q : AVal → Heap → Prop} {L : List Asr} {q : Nm} {k : Nat} {S T : Rf}
theorem rissueW (hS : Own β ps H L) (hL : L[k]? = some (rorc q S)) (hle : le ps ν) (hβ : under β ν = true) (hp : before ν pos') {N : Nat} (hN : S.le N) (hn : N ≤ 4294960000) (key : Int) (t : Tk) (ht : t.fit)
    (hq : ∀ H1, Own β pos' H1 (L.set k (rorc q (S.issue key t).2)) → Q (S.issue key t).1.enc H1) : CW cfg ν 45 [.ptr q 0 0, .int .u64 key, t.enc] H Q := by
  replace hS := hS.pick hL
  have hz := fdB_size ht
  refine CW_keep g45 F45 rfl ?_
  replace hS := Own.mono hS hle
  refine XW_sr ?_
  refine OW_boxR hS (le_app (p := ν) (b := [0, 0])) (under_app [0, 0] hβ) rfl rfl rfl ⟨rfl, rfl⟩ fun H1 hS1 => ?_
  replace hS1 : Own _ _ _ (_ :: _ :: L.eraseIdx k) := hS1
  refine OW_allocR hS1 le_refl (under_app [1, 0] hβ) rfl rfl rfl rfl fun H2 hS2 => ?_
  replace hS2 : Own _ _ _ (_ :: _ :: _ :: L.eraseIdx k) := hS2
  refine OW_nilE (e' := [_,_,_,_,_,_,_,_,_,_,_,_,_,_,_]) rfl ?_
  refine XW_sr ?_
  refine OW_mv rfl rfl ?_
  refine OW_mv rfl rfl ?_
  refine OW_loadR hS2 (k := 1) rfl rfl rfl rfl rfl (by first | exact part_whole rfl rfl rfl | rfl) ?_
  refine OW_env (e' := [_,_,_,_,_,_,_,_,_,_,_,_,_,_,_]) rfl ?_
  refine OW_fn rfl rfl (saidW (by assumption) ?_) 
  refine OW_bin rfl rfl rfl rfl (cat (by show 5 + _ ≤ 9223372036854775807; omega)) ?_
  refine OW_fn rfl rfl (rMac hS2 (k := 2) rfl (le_lit (ν := ν) (a := [2, 0]) (b := [5, 0, 1]) (by decide)) (under_app [5, 0, 1] hβ) (before_lit (ν := ν) (a := [5, 0, 1]) (b := [6, 0, 1]) (by decide)) (hN.mono (by omega)) _ (tkB t) fun H3 hS3 => ?_) 
  replace hS3 : Own _ _ _ (_ :: _ :: _ :: L.eraseIdx k) := hS3
  refine OW_env (e' := [_,_,_,_,_,_,_,_,_,_,_,_,_,_,_]) rfl ?_
  refine OW_fa rfl rfl rfl ?_
  refine OW_storeR hS3 (k := 1) rfl (le_lit (ν := ν) (a := [6, 0, 1]) (b := [7, 0, 1]) (by decide)) rfl rfl rfl rfl ⟨rfl, rfl, Nat.le_of_ble_eq_true rfl⟩ (u2 := .agg [_, _, _, _, _]) rfl fun H4 hS4 => ?_
  replace hS4 : Own _ _ _ (_ :: _ :: _ :: L.eraseIdx k) := hS4
  refine OW_nilE (e' := [_,_,_,_,_,_,_,_,_,_,_,_,_,_,_]) rfl ?_
  refine XW_sr ?_
  refine OW_loadR hS4 (k := 1) rfl rfl rfl rfl rfl (by first | exact part_whole rfl rfl rfl | rfl) ?_
  first
  | refine OW_storeR hS4 (k := 0) rfl (le_lit (ν := ν) (a := [8, 0, 1]) (b := [1, 0, 1, 1]) (by decide)) rfl rfl rfl rfl ⟨rfl, rfl, Nat.le_of_ble_eq_true rfl⟩ (set_whole rfl rfl) fun H5 hS5 => ?_
  | refine OW_storeR hS4 (k := 0) rfl (le_lit (ν := ν) (a := [8, 0, 1]) (b := [1, 0, 1, 1]) (by decide)) rfl rfl rfl rfl ⟨rfl, rfl, Nat.le_of_ble_eq_true rfl⟩ (u2 := .agg [_, _, _, _, _]) rfl fun H5 hS5 => ?_
  replace hS5 : Own _ _ _ (_ :: _ :: _ :: L.eraseIdx k) := hS5
  refine OW_nilE (e' := [_,_,_,_,_,_,_,_,_,_,_,_,_,_,_]) rfl ?_
  refine XW_ret ?_
  -- outcome 1
  refine ret_ret (res1 rfl (rv_cellR hS5 (k := 0) rfl rfl rfl rfl (by first | exact part_whole rfl rfl rfl | rfl))) ?_
  exact hq _ (Own.unpick (Own.drop0 (Own.drop0 (Own.mono hS5 (le_bef (bef_app (a := [2, 0, 1, 1]) hp))))) hL)
end Go.Proofs.Ytealccnfnpkngaa.X
