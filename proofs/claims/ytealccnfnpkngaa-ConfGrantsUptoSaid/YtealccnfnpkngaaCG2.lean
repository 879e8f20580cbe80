/- Layer 14: ConfGrants. -/
import Derived.Test.YtealccnfnpkngaaCG1
import Derived.Test.YtealccnfnpkngaaCF0
import Derived.Test.YtealccnfnpkngaaI
set_option linter.unusedVariables false
set_option linter.unusedSimpArgs false
set_option maxRecDepth 100000
set_option maxHeartbeats 2000000
namespace Go.Proofs.Ytealccnfnpkngaa.X
open Go Go.RowKit WM
theorem EN144_CG2 {c : Cfg} {ν : Nm} {e : Env} {H : Heap} {all : Array Oper} {r : List Oper} {i : Nat} {Q : Env → Heap → Prop} {x0 x1 x2 x3 x4 x5 x6 x7 x8 x9 x10 x11 x12 x13 x14 x15 x16 x17 x18 x19 x20 x21 x22 x23 x24 x25 x26 x27 x28 x29 x30 x31 x32 x33 x34 x35 x36 x37 x38 x39 x40 x41 x42 x43 x44 x45 x46 x47 x48 x49 x50 x51 x52 x53 x54 x55 x56 x57 x58 x59 x60 x61 x62 x63 x64 x65 x66 x67 x68 x69 x70 x71 x72 x73 x74 x75 x76 x77 x78 x79 x80 x81 x82 x83 x84 x85 x86 x87 x88 x89 x90 x91 x92 x93 x94 x95 x96 x97 x98 x99 x100 x101 x102 x103 x104 x105 x106 x107 x108 x109 x110 x111 x112 x113 x114 x115 x116 x117 x118 x119 x120 x121 x122 x123 x124 x125 x126 x127 x128 x129 x130 x131 x132 x133 x134 x135 x136 x137 x138 x139 x140 x141 x142 x143 : AVal} (he : e = [x0,x1,x2,x3,x4,x5,x6,x7,x8,x9,x10,x11,x12,x13,x14,x15,x16,x17,x18,x19,x20,x21,x22,x23,x24,x25,x26,x27,x28,x29,x30,x31,x32,x33,x34,x35,x36,x37,x38,x39,x40,x41,x42,x43,x44,x45,x46,x47,x48,x49,x50,x51,x52,x53,x54,x55,x56,x57,x58,x59,x60,x61,x62,x63,x64,x65,x66,x67,x68,x69,x70,x71,x72,x73,x74,x75,x76,x77,x78,x79,x80,x81,x82,x83,x84,x85,x86,x87,x88,x89,x90,x91,x92,x93,x94,x95,x96,x97,x98,x99,x100,x101,x102,x103,x104,x105,x106,x107,x108,x109,x110,x111,x112,x113,x114,x115,x116,x117,x118,x119,x120,x121,x122,x123,x124,x125,x126,x127,x128,x129,x130,x131,x132,x133,x134,x135,x136,x137,x138,x139,x140,x141,x142,x143]) (h : OW c ν all r i [x0,x1,x2,x3,x4,x5,x6,x7,x8,x9,x10,x11,x12,x13,x14,x15,x16,x17,x18,x19,x20,x21,x22,x23,x24,x25,x26,x27,x28,x29,x30,x31,x32,x33,x34,x35,x36,x37,x38,x39,x40,x41,x42,x43,x44,x45,x46,x47,x48,x49,x50,x51,x52,x53,x54,x55,x56,x57,x58,x59,x60,x61,x62,x63,x64,x65,x66,x67,x68,x69,x70,x71,x72,x73,x74,x75,x76,x77,x78,x79,x80,x81,x82,x83,x84,x85,x86,x87,x88,x89,x90,x91,x92,x93,x94,x95,x96,x97,x98,x99,x100,x101,x102,x103,x104,x105,x106,x107,x108,x109,x110,x111,x112,x113,x114,x115,x116,x117,x118,x119,x120,x121,x122,x123,x124,x125,x126,x127,x128,x129,x130,x131,x132,x133,x134,x135,x136,x137,x138,x139,x140,x141,x142,x143] H Q) : OW c ν all r i e H Q := by subst he; exact h
theorem EZ144_CG2 {c : Cfg} {ν : Nm} {e : Env} {H : Heap} {all : Array Oper} {i : Nat} {Q : Env → Heap → Prop} {x0 x1 x2 x3 x4 x5 x6 x7 x8 x9 x10 x11 x12 x13 x14 x15 x16 x17 x18 x19 x20 x21 x22 x23 x24 x25 x26 x27 x28 x29 x30 x31 x32 x33 x34 x35 x36 x37 x38 x39 x40 x41 x42 x43 x44 x45 x46 x47 x48 x49 x50 x51 x52 x53 x54 x55 x56 x57 x58 x59 x60 x61 x62 x63 x64 x65 x66 x67 x68 x69 x70 x71 x72 x73 x74 x75 x76 x77 x78 x79 x80 x81 x82 x83 x84 x85 x86 x87 x88 x89 x90 x91 x92 x93 x94 x95 x96 x97 x98 x99 x100 x101 x102 x103 x104 x105 x106 x107 x108 x109 x110 x111 x112 x113 x114 x115 x116 x117 x118 x119 x120 x121 x122 x123 x124 x125 x126 x127 x128 x129 x130 x131 x132 x133 x134 x135 x136 x137 x138 x139 x140 x141 x142 x143 : AVal} (he : e = [x0,x1,x2,x3,x4,x5,x6,x7,x8,x9,x10,x11,x12,x13,x14,x15,x16,x17,x18,x19,x20,x21,x22,x23,x24,x25,x26,x27,x28,x29,x30,x31,x32,x33,x34,x35,x36,x37,x38,x39,x40,x41,x42,x43,x44,x45,x46,x47,x48,x49,x50,x51,x52,x53,x54,x55,x56,x57,x58,x59,x60,x61,x62,x63,x64,x65,x66,x67,x68,x69,x70,x71,x72,x73,x74,x75,x76,x77,x78,x79,x80,x81,x82,x83,x84,x85,x86,x87,x88,x89,x90,x91,x92,x93,x94,x95,x96,x97,x98,x99,x100,x101,x102,x103,x104,x105,x106,x107,x108,x109,x110,x111,x112,x113,x114,x115,x116,x117,x118,x119,x120,x121,x122,x123,x124,x125,x126,x127,x128,x129,x130,x131,x132,x133,x134,x135,x136,x137,x138,x139,x140,x141,x142,x143]) (h : Q [x0,x1,x2,x3,x4,x5,x6,x7,x8,x9,x10,x11,x12,x13,x14,x15,x16,x17,x18,x19,x20,x21,x22,x23,x24,x25,x26,x27,x28,x29,x30,x31,x32,x33,x34,x35,x36,x37,x38,x39,x40,x41,x42,x43,x44,x45,x46,x47,x48,x49,x50,x51,x52,x53,x54,x55,x56,x57,x58,x59,x60,x61,x62,x63,x64,x65,x66,x67,x68,x69,x70,x71,x72,x73,x74,x75,x76,x77,x78,x79,x80,x81,x82,x83,x84,x85,x86,x87,x88,x89,x90,x91,x92,x93,x94,x95,x96,x97,x98,x99,x100,x101,x102,x103,x104,x105,x106,x107,x108,x109,x110,x111,x112,x113,x114,x115,x116,x117,x118,x119,x120,x121,x122,x123,x124,x125,x126,x127,x128,x129,x130,x131,x132,x133,x134,x135,x136,x137,x138,x139,x140,x141,x142,x143] H) : OW c ν all [] i e H Q := by subst he; exact OW_nil h
variable {ν β ps pos' : Nm} {H : Heap} {Q : AVal → Heap → Prop} {L : List Asr} {k : Nat} {q : Nm} {c : Cf} {gs : Int} {S T : Rf}
theorem nd_at {t : List Pl} (h : (t.map Pl.vo).Nodup) {i : Nat} (hi : i < t.length) : atP t[i].vo t = i := by
  rcases atP_cases t[i].vo t with ⟨_, h2⟩ | ⟨k, hk, h1, h3⟩
  · exact absurd rfl (h2 _ (List.getElem_mem hi))
  · rw [h1]
    have := (List.getElem_inj (i := k) (j := i) (h₀ := by simpa using hk) (h₁ := by simpa using hi) h).1 (by simpa using h3)
    rw [this]
theorem at_nd {t : List Pl} (h : ∀ i (hi : i < t.length), atP t[i].vo t = i) : (t.map Pl.vo).Nodup := by
  rw [List.Nodup, List.pairwise_iff_getElem]
  intro i j hi hj hij he
  simp only [List.length_map] at hi hj
  simp only [List.getElem_map] at he
  have h1 := h i hi
  have h2 := h j hj
  rw [he] at h1
  omega
theorem map_set_same {α β : Type} {f : α → β} {t : List α} {i : Nat} {x : α} (hi : i < t.length) (h : f x = f t[i]) : (t.set i x).map f = t.map f := by
  rw [List.map_set, h]
  refine List.ext_getElem (by simp) fun j h1 h2 => ?_
  rw [List.getElem_set]
  split
  · rename_i e; subst e; simp
  · rfl
/-- A raised epoch leaves a state that may be. -/
theorem bmp_ok (ho : OkC c gs) (hf : c.fit) {i : Nat} (hi : i < c.ps.length) (he : c.ps[i].ep ≠ 18446744073709551615) : OkC ⟨c.qs, c.ps.set i c.ps[i].up, c.nx⟩ gs ∧ Cf.fit ⟨c.qs, c.ps.set i c.ps[i].up, c.nx⟩ := by
  have hm : (c.ps.set i c.ps[i].up).map Pl.vo = c.ps.map Pl.vo := map_set_same hi rfl
  have hnd := at_nd (fun j hj => (ho.p j hj).1)
  refine ⟨⟨ho.hg, ho.q, by simpa using ho.l, fun j hj => ?_⟩, hf.q, fun x hx => ?_, hf.n, hf.lq, by simpa using hf.lp⟩
  · have hj2 : j < c.ps.length := by simpa using hj
    refine ⟨nd_at (t := c.ps.set i c.ps[i].up) (by rw [hm]; exact hnd) hj, ?_⟩
    obtain ⟨_, h2⟩ := ho.p j hj2
    simp only [List.getElem_set]
    split
    · rename_i e; subst e; exact h2
    · exact h2
  · rcases List.mem_or_eq_of_mem_set hx with h | h
    · exact hf.p x h
    · have h3 := hf.p _ (List.getElem_mem hi)
      obtain ⟨f1, f2, f3, f4, f5⟩ := h3
      subst h
      exact ⟨f1, f2, f3, ⟨by show 0 ≤ c.ps[i].ep + 1; omega, by show c.ps[i].ep + 1 ≤ _; omega⟩, f5⟩
/-- What a token granted answers. -/
structure Gnt (c : Cf) (key vo ri : Int) (t : Tk) (n : Int) (T : Rf) : Prop where
  n0 : n = 0
  hi : (atP vo c.ps).toNat < c.ps.length
  h0 : 0 ≤ atP vo c.ps
  pf : c.ps[(atP vo c.ps).toNat].fit
  tf : t.fit
  fvo : t.vo = vo
  fep : t.ep = c.ps[(atP vo c.ps).toNat].ep
  fri : t.ri = ri
  ck : ∀ vol ep want, T.check key t vol ep want = (Rf.ans true t vol ep want, T)
theorem gnt_new {d : List Int} (hd : ∀ x ∈ d, U64 x) {key vo tn ri : Int} (hf : c.fit) (hvo : U64 vo) (htn : U64 tn) (hri : U64 ri) {t : Tk} {n : Int} (hG : gntS (Rf.new d) key c vo tn ri = ((t, n), T)) :
    (n ≠ 0 ∧ t = Tk.z ∧ T.rows.length = 0) ∨ Gnt c key vo ri t n T := by
  rcases gnt_cases (Rf.new d) key hf vo tn ri with ⟨_, h⟩ | ⟨h1, h2, h3, h4, h⟩
  · rw [h] at hG
    obtain ⟨h5, rfl⟩ := Prod.mk.inj hG
    obtain ⟨rfl, rfl⟩ := Prod.mk.inj h5
    exact .inl ⟨by decide, rfl, rfl⟩
  · rw [h] at hG
    split at hG
    · obtain ⟨h5, rfl⟩ := Prod.mk.inj hG
      obtain ⟨rfl, rfl⟩ := Prod.mk.inj h5
      exact .inl ⟨by decide, rfl, rfl⟩
    · obtain ⟨h5, rfl⟩ := Prod.mk.inj hG
      obtain ⟨rfl, rfl⟩ := Prod.mk.inj h5
      refine .inr ⟨rfl, h1, h2, h3, ⟨htn, hvo, h3.2.2.2.1, hri, ?_⟩, rfl, rfl, rfl, fun vol ep want => ?_⟩
      · show U64 ((Rf.new d).mac key (tkB ⟨tn, vo, c.ps[(atP vo c.ps).toNat].ep, ri, 0⟩)).1
        unfold Rf.mac Rf.value
        split
        · rename_i he; simp [Rf.new] at he
        · show U64 (Rf.new d).next
          unfold Rf.next
          split
          · rename_i he; exact hd _ (List.mem_of_getElem? he)
          · show U64 (9223372036854775808 + ((0 : Nat) : Int)); decide
      · unfold Rf.check
        have hrow := Rf.mac_row (S := Rf.new d) (kk := key) (a := tkB ⟨tn, vo, c.ps[(atP vo c.ps).toNat].ep, ri, 0⟩) rfl
        have hu : (Rf.new d).Up ((Rf.new d).issue key ⟨tn, vo, c.ps[(atP vo c.ps).toNat].ep, ri, 0⟩).2 := Rf.value_up _
        have hv : Rf.verify ((Rf.new d).issue key ⟨tn, vo, c.ps[(atP vo c.ps).toNat].ep, ri, 0⟩).2 key (tkB ⟨tn, vo, c.ps[(atP vo c.ps).toNat].ep, ri, 0⟩) ((Rf.new d).issue key ⟨tn, vo, c.ps[(atP vo c.ps).toNat].ep, ri, 0⟩).1.tag = (true, ((Rf.new d).issue key ⟨tn, vo, c.ps[(atP vo c.ps).toNat].ep, ri, 0⟩).2) := ((hu.inv (Rf.new_inv d)).verA hrow _).trans (if_pos rfl)
        show (Rf.ans (Rf.verify ((Rf.new d).issue key ⟨tn, vo, c.ps[(atP vo c.ps).toNat].ep, ri, 0⟩).2 key (tkB ⟨tn, vo, c.ps[(atP vo c.ps).toNat].ep, ri, 0⟩) ((Rf.new d).issue key ⟨tn, vo, c.ps[(atP vo c.ps).toNat].ep, ri, 0⟩).1.tag).1 _ _ _ _, (Rf.verify ((Rf.new d).issue key ⟨tn, vo, c.ps[(atP vo c.ps).toNat].ep, ri, 0⟩).2 key (tkB ⟨tn, vo, c.ps[(atP vo c.ps).toNat].ep, ri, 0⟩) ((Rf.new d).issue key ⟨tn, vo, c.ps[(atP vo c.ps).toNat].ep, ri, 0⟩).1.tag).2) = _
        rw [hv]
theorem cGrantE {t : Tk} {n : Int} (hS : Own β ps H L) (hL : L[k]? = some (orc q S.of)) (hle : le ps ν) (hβ : under β ν = true) (hp : before ν pos') (hn : S.rows.length ≤ 4294960000) (hf : c.fit) {key vo tn ri : Int} (hvo : U64 vo) (htn : U64 tn) (hri : U64 ri)
    (hG : gntS S key c vo tn ri = ((t, n), T)) (hq : ∀ H1, Own β pos' H1 (L.set k (orc q T.of)) → Q (.tup [t.enc, .int .i64 n]) H1) : CW cfg ν 17 [.ptr q 0 0, .int .u64 key, c.enc, .int .u64 vo, .int .u64 tn, .int .u64 ri] H Q :=
  cGrant hS hL hle hβ hp hn hf key vo tn ri hvo htn hri (by rw [hG]; exact hq)
theorem rGrantE {t : Tk} {n : Int} (hS : Own β ps H L) (hL : L[k]? = some (rorc q S)) (hle : le ps ν) (hβ : under β ν = true) (hp : before ν pos') {N : Nat} (hN : S.le N) (hn : N ≤ 4294960000) (hf : c.fit) {key vo tn ri : Int} (hvo : U64 vo) (htn : U64 tn) (hri : U64 ri)
    (hG : gntS S key c vo tn ri = ((t, n), T)) (hq : ∀ H1, Own β pos' H1 (L.set k (rorc q T)) → Q (.tup [t.enc, .int .i64 n]) H1) : CW cfg ν 18 [.ptr q 0 0, .int .u64 key, c.enc, .int .u64 vo, .int .u64 tn, .int .u64 ri] H Q :=
  rGrant hS hL hle hβ hp hN hn hf key vo tn ri hvo htn hri (by rw [hG]; exact hq)
theorem checkE {key vo ri n : Int} {t : Tk} (hg : Gnt c key vo ri t n T) (hS : Own β ps H L) (hL : L[k]? = some (orc q T.of)) (hle : le ps ν) (hβ : under β ν = true) (hp : before ν pos') (vol ep want : Int)
    (hq : ∀ H1, Own β pos' H1 (L.set k (orc q T.of)) → Q (.int .i64 (Rf.ans true t vol ep want)) H1) : CW cfg ν 22 [.ptr q 0 0, .int .u64 key, t.enc, .int .u64 vol, .int .u64 ep, .int .u64 want] H Q :=
  checkW hS hL hle hβ hp key t hg.tf vol ep want fun H1 h1 => by rw [hg.ck] at h1 ⊢; exact hq H1 h1
theorem neTkF (x : Tk) : aBin cfg.T .neq 52 x.enc x.enc = some (.bool false) := by
  have e : aBin cfg.T .neq 52 x.enc x.enc = some (.bool (!(decide (x.tn = x.tn) && (decide (x.vo = x.vo) && (decide (x.ep = x.ep) && (decide (x.ri = x.ri) && (decide (x.tag = x.tag) && true))))))) := rfl
  rw [e]; simp
theorem eqTkF (x : Tk) : aBin cfg.T .eql 52 x.enc x.enc = some (.bool true) := by
  have e : aBin cfg.T .eql 52 x.enc x.enc = some (.bool (decide (x.tn = x.tn) && (decide (x.vo = x.vo) && (decide (x.ep = x.ep) && (decide (x.ri = x.ri) && (decide (x.tag = x.tag) && true)))))) := rfl
  rw [e]; simp
theorem eqIG {T : TT} {t : TypeId} {a b : Int} (h : a = b) : aBin T .eql t (.int .i64 a) (.int .i64 b) = some (.bool true) := by simp [aBin, aIntB, aInt, h]
theorem andN_self (r : Int) : andN r r = 0 := by
  unfold andN
  rw [BitVec.and_not_self]; rfl
theorem check0 {key vo ri n : Int} {t : Tk} (hg : Gnt c key vo ri t n T) (hS : Own β ps H L) (hL : L[k]? = some (orc q T.of)) (hle : le ps ν) (hβ : under β ν = true) (hp : before ν pos')
    (hq : ∀ H1, Own β pos' H1 (L.set k (orc q T.of)) → Q (.int .i64 0) H1) : CW cfg ν 22 [.ptr q 0 0, .int .u64 key, t.enc, .int .u64 vo, .int .u64 (c.ps[(atP vo c.ps).toNat]'hg.hi).ep, .int .u64 ri] H Q := by
  have e : Rf.ans true t vo (c.ps[(atP vo c.ps).toNat]'hg.hi).ep ri = 0 := by
    unfold Rf.ans
    rw [if_neg (by decide), if_neg (by simp [hg.fvo]), if_neg (by rw [hg.fep]; omega), if_neg (by rw [hg.fri, andN_self]; simp)]
  exact checkE hg hS hL hle hβ hp _ _ _ fun H1 h1 => by rw [e]; exact hq H1 h1
theorem check72 {key vo ri n ep : Int} {t : Tk} (hg : Gnt c key vo ri t n T) (he : t.ep < ep) (hS : Own β ps H L) (hL : L[k]? = some (orc q T.of)) (hle : le ps ν) (hβ : under β ν = true) (hp : before ν pos')
    (hq : ∀ H1, Own β pos' H1 (L.set k (orc q T.of)) → Q (.int .i64 72) H1) : CW cfg ν 22 [.ptr q 0 0, .int .u64 key, t.enc, .int .u64 vo, .int .u64 ep, .int .u64 ri] H Q := by
  have e : Rf.ans true t vo ep ri = 72 := by
    unfold Rf.ans
    rw [if_neg (by decide), if_neg (by simp [hg.fvo]), if_pos he]
  exact checkE hg hS hL hle hβ hp _ _ _ fun H1 h1 => by rw [e]; exact hq H1 h1
theorem bumpE {a m e : Int} {r : Cf} (hf : c.fit) (hB : bmpS c a = (r, m, e)) (hq : Q (.tup [r.enc, .int .i64 e, .int .u64 m]) H) : CW cfg ν 10 [c.enc, .int .i64 4, .int .i64 2, .int .u64 a, .int .u64 0] H Q :=
  p_run_2 (c := c) (gs := 4) Ls.of Ls.of hf (by decide) (by rw [hB]; exact hq)
theorem bump_is {key vo ri n a m e : Int} {t : Tk} {r : Cf} (ho : OkC c 4) (hf : c.fit) (hg : Gnt c key vo ri t n T) (hB : bmpS c vo = (r, m, e)) :
    ((c.ps[(atP vo c.ps).toNat]'hg.hi).ep = 18446744073709551615 ∧ e ≠ 0) ∨ (e = 0 ∧ m = (c.ps[(atP vo c.ps).toNat]'hg.hi).ep + 1 ∧ m ≤ 18446744073709551615 ∧ OkC r 4 ∧ r.fit) := by
  have h0 := hg.h0
  rcases bmp_cases hf vo with ⟨h1, _⟩ | ⟨h1, _, h2, h3⟩
  · omega
  · rw [hB] at h3
    split at h3
    · rename_i h4
      obtain ⟨_, h5⟩ := Prod.mk.inj h3
      obtain ⟨_, rfl⟩ := Prod.mk.inj h5
      exact .inl ⟨h4, by decide⟩
    · rename_i h4
      obtain ⟨rfl, h5⟩ := Prod.mk.inj h3
      obtain ⟨rfl, rfl⟩ := Prod.mk.inj h5
      obtain ⟨h6, h7⟩ := bmp_ok ho hf h1 h4
      exact .inr ⟨rfl, rfl, by omega, h6, h7⟩
theorem cf_checkT {c : Cf} (ho : OkC c 4) (hf : c.fit) (hq : Q (.bool true) H) : CW cfg ν 13 [c.enc, .int .i64 4] H Q := cf_check (c := c) rfl hf (by rw [chkC_yes ho]; exact hq)
structure Ak where
  key : Int
  vo : Int
  tn : Int
  ri : Int
def Ak.enc (x : Ak) : AVal := .agg [.int .u64 x.key, .int .u64 x.vo, .int .u64 x.tn, .int .u64 x.ri]
structure Ak.fit (x : Ak) : Prop where
  key : U64 x.key
  vo : U64 x.vo
  tn : U64 x.tn
  ri : U64 x.ri
theorem lawGrants {d : List Int} {x : Ak} (hf : c.fit) (hd : ∀ y ∈ d, U64 y) (hl : d.length ≤ 1048576) (hx : x.fit) (hq : Q (.bool true) H) : CW cfg [] 6 [c.enc, .lst (d.map Int.enc), x.enc] H Q := by
  have hlp := hf.lp
  obtain ⟨t, n, T, hG⟩ : ∃ t n T, gntS (Rf.new d) x.key c x.vo x.tn x.ri = ((t, n), T) := ⟨_, _, _, rfl⟩
  have hg := gnt_new hd hf hx.vo hx.tn hx.ri hG
  obtain ⟨r, m, e, hB⟩ : ∃ r m e, bmpS c x.vo = (r, m, e) := ⟨_, _, _, rfl⟩
  refine CW_pure g6 F6 rfl ?_
  have hS0 : Own [] [] (fun _ => none) [] := Own.nil
  refine XW_sr ?_
  refine OW_boxR hS0 (le_app (p := []) (b := [0, 0])) under_nil rfl rfl rfl ⟨rfl, rfl⟩ fun H1 hS1 => ?_
  replace hS1 : Own _ _ _ ([_]) := hS1
  refine OW_boxR hS1 le_refl under_nil rfl rfl rfl ⟨rfl, rfl⟩ fun H2 hS2 => ?_
  replace hS2 : Own _ _ _ ([_, _]) := hS2
  refine OW_as rfl rfl ?_
  refine EZ144_CG2 rfl ?_
  refine XW_seq ?_
  refine XW_sr ?_
  refine OW_fn rfl rfl (fixedW (by kernel_rfl) ?_) 
  refine OW_un rfl rfl rfl ?_
  refine OW_mv rfl rfl ?_
  refine EN144_CG2 rfl ?_
  refine OW_loadR hS2 (k := 1) rfl rfl rfl rfl rfl (by first | exact part_whole rfl rfl rfl | rfl) ?_
  refine OW_fn rfl rfl (rf_check (c := c) rfl hf ?_) 
  refine OW_un rfl rfl rfl ?_
  refine EN144_CG2 rfl ?_
  refine OW_pick rfl rfl rfl ?_
  refine EZ144_CG2 rfl ?_
  refine XW_if rfl (fun h1 => ?_) (fun h1 => ?_)
  ·try simp only [bs] at h1
   refine XW_sr ?_
   refine OW_fn rfl rfl (fixedW (by kernel_rfl) ?_) 
   refine OW_as rfl rfl ?_
   refine EZ144_CG2 rfl ?_
   refine XW_ret ?_
   refine then_ret ?_
   -- outcome 1
   refine ret_ret (res1 rfl (rv_tmp rfl)) (frz1 (Q := Q) (by first | exact freeze_plain rfl | exact Ls.freeze (by assumption) | exact Ls.freeze Ls.of | exact Ls.freeze Ls.emp | exact Ls.freeze Ls.nls) ?_)
   exact hq
  ·try simp only [bs] at h1
   have ho := chkC_of (by simpa using h1)
   refine XW_skip ?_
   refine then_norm ?_
   refine XW_sr ?_
   refine OW_mv rfl rfl ?_
   refine OW_fn rfl rfl (oNew hS2 (le_lit (ν := []) (a := [2, 0]) (b := [1, 0, 1, 1]) (by decide)) under_nil (before_lit (ν := []) (a := [1, 0, 1, 1]) (b := [2, 0, 1, 1]) (by decide)) Ls.of (by omega) fun q1 H3 hS3 => ?_) 
   replace hS3 : Own _ _ _ ([_, _, _]) := hS3
   refine OW_mv rfl rfl ?_
   refine EN144_CG2 rfl ?_
   refine OW_fn rfl rfl (rNew hS3 (le_lit (ν := []) (a := [2, 0, 1, 1]) (b := [3, 0, 1, 1]) (by decide)) under_nil (before_lit (ν := []) (a := [3, 0, 1, 1]) (b := [4, 0, 1, 1]) (by decide)) Ls.of (by omega) fun p1 H4 hS4 => ?_) 
   replace hS4 : Own _ _ _ ([_, _, _, _]) := hS4
   refine OW_as rfl rfl ?_
   refine OW_as rfl rfl ?_
   refine EZ144_CG2 rfl ?_
   refine XW_sr ?_
   refine OW_mv rfl rfl ?_
   refine OW_fa rfl rfl rfl ?_
   refine OW_loadR hS4 (k := 2) rfl rfl rfl rfl rfl (by first | exact part_whole rfl rfl rfl | rfl) ?_
   refine EN144_CG2 rfl ?_
   refine OW_loadR hS4 (k := 3) rfl rfl rfl rfl rfl (by first | exact part_whole rfl rfl rfl | rfl) ?_
   refine OW_fa rfl rfl rfl ?_
   refine OW_loadR hS4 (k := 2) rfl rfl rfl rfl rfl (by first | exact part_whole rfl rfl rfl | rfl) ?_
   refine EN144_CG2 rfl ?_
   refine OW_fa rfl rfl rfl ?_
   refine OW_loadR hS4 (k := 2) rfl rfl rfl rfl rfl (by first | exact part_whole rfl rfl rfl | rfl) ?_
   refine OW_fa rfl rfl rfl ?_
   refine EN144_CG2 rfl ?_
   refine OW_loadR hS4 (k := 2) rfl rfl rfl rfl rfl (by first | exact part_whole rfl rfl rfl | rfl) ?_
   refine OW_fn rfl rfl (cGrantE hS4 (k := 1) rfl (le_lit (ν := []) (a := [4, 0, 1, 1]) (b := [10, 0, 1, 1, 1]) (by decide)) under_nil (before_lit (ν := []) (a := [10, 0, 1, 1, 1]) (b := [11, 0, 1, 1, 1]) (by decide)) (Nat.zero_le _) hf hx.vo hx.tn hx.ri hG fun H5 hS5 => ?_) 
   replace hS5 : Own _ _ _ ([_, _, _, _]) := hS5
   refine OW_mv rfl rfl ?_
   refine EN144_CG2 rfl ?_
   refine OW_ex rfl rfl rfl ?_
   refine OW_ex rfl rfl rfl ?_
   refine OW_allocR hS5 (le_lit (ν := []) (a := [11, 0, 1, 1, 1]) (b := [14, 0, 1, 1, 1]) (by decide)) under_nil rfl rfl rfl rfl fun H6 hS6 => ?_
   replace hS6 : Own _ _ _ ([_, _, _, _, _]) := hS6
   refine EN144_CG2 rfl ?_
   first
   | refine OW_storeR hS6 (k := 0) rfl le_refl rfl rfl rfl rfl ⟨rfl, rfl, Nat.le_of_ble_eq_true rfl⟩ (set_whole rfl rfl) fun H7 hS7 => ?_
   | refine OW_storeR hS6 (k := 0) rfl le_refl rfl rfl rfl rfl ⟨rfl, rfl, Nat.le_of_ble_eq_true rfl⟩ (u2 := .agg [_, _, _, _, _]) rfl fun H7 hS7 => ?_
   replace hS7 : Own _ _ _ ([_, _, _, _, _]) := hS7
   refine OW_as rfl rfl ?_
   refine EZ144_CG2 rfl ?_
   refine XW_sr ?_
   refine OW_mv rfl rfl ?_
   refine OW_fa rfl rfl rfl ?_
   refine OW_loadR hS7 (k := 3) rfl rfl rfl rfl rfl (by first | exact part_whole rfl rfl rfl | rfl) ?_
   refine EN144_CG2 rfl ?_
   refine OW_loadR hS7 (k := 4) rfl rfl rfl rfl rfl (by first | exact part_whole rfl rfl rfl | rfl) ?_
   refine OW_fa rfl rfl rfl ?_
   refine OW_loadR hS7 (k := 3) rfl rfl rfl rfl rfl (by first | exact part_whole rfl rfl rfl | rfl) ?_
   refine EN144_CG2 rfl ?_
   refine OW_fa rfl rfl rfl ?_
   refine OW_loadR hS7 (k := 3) rfl rfl rfl rfl rfl (by first | exact part_whole rfl rfl rfl | rfl) ?_
   refine OW_fa rfl rfl rfl ?_
   refine EN144_CG2 rfl ?_
   refine OW_loadR hS7 (k := 3) rfl rfl rfl rfl rfl (by first | exact part_whole rfl rfl rfl | rfl) ?_
   refine OW_fn rfl rfl (rGrantE hS7 (k := 1) rfl (le_lit (ν := []) (a := [16, 0, 1, 1, 1]) (b := [10, 0, 1, 1, 1, 1]) (by decide)) under_nil (before_lit (ν := []) (a := [10, 0, 1, 1, 1, 1]) (b := [11, 0, 1, 1, 1, 1]) (by decide)) (N := 0) ⟨Nat.zero_le _, Nat.zero_le _, Nat.zero_le _⟩ (by omega) hf hx.vo hx.tn hx.ri hG fun H8 hS8 => ?_) 
   replace hS8 : Own _ _ _ ([_, _, _, _, _]) := hS8
   refine OW_mv rfl rfl ?_
   refine EN144_CG2 rfl ?_
   refine OW_ex rfl rfl rfl ?_
   refine OW_ex rfl rfl rfl ?_
   refine OW_allocR hS8 (le_lit (ν := []) (a := [11, 0, 1, 1, 1, 1]) (b := [14, 0, 1, 1, 1, 1]) (by decide)) under_nil rfl rfl rfl rfl fun H9 hS9 => ?_
   replace hS9 : Own _ _ _ ([_, _, _, _, _, _]) := hS9
   refine EN144_CG2 rfl ?_
   first
   | refine OW_storeR hS9 (k := 0) rfl le_refl rfl rfl rfl rfl ⟨rfl, rfl, Nat.le_of_ble_eq_true rfl⟩ (set_whole rfl rfl) fun H10 hS10 => ?_
   | refine OW_storeR hS9 (k := 0) rfl le_refl rfl rfl rfl rfl ⟨rfl, rfl, Nat.le_of_ble_eq_true rfl⟩ (u2 := .agg [_, _, _, _, _]) rfl fun H10 hS10 => ?_
   replace hS10 : Own _ _ _ ([_, _, _, _, _, _]) := hS10
   refine OW_as rfl rfl ?_
   refine EZ144_CG2 rfl ?_
   refine XW_seq ?_
   refine XW_sr ?_
   refine OW_loadR hS10 (k := 1) rfl rfl rfl rfl rfl (by first | exact part_whole rfl rfl rfl | rfl) ?_
   refine OW_loadR hS10 (k := 0) rfl rfl rfl rfl rfl (by first | exact part_whole rfl rfl rfl | rfl) ?_
   refine OW_bin rfl rfl rfl rfl (neTkF _) ?_
   refine EN144_CG2 rfl ?_
   refine OW_mv rfl rfl ?_
   refine OW_mv rfl rfl ?_
   refine OW_mv rfl rfl ?_
   refine EN144_CG2 rfl ?_
   refine OW_bin rfl rfl rfl rfl (neIF rfl) ?_
   refine OW_pick rfl rfl rfl ?_
   refine OW_mv rfl rfl ?_
   refine EN144_CG2 rfl ?_
   refine OW_mv rfl rfl ?_
   refine OW_fn rfl rfl (oDrawn hS10 (k := 3) rfl (le_lit (ν := []) (a := [16, 0, 1, 1, 1, 1]) (b := [10, 0, 0, 1, 1, 1, 1, 1]) (by decide)) under_nil (before_lit (ν := []) (a := [10, 0, 0, 1, 1, 1, 1, 1]) (b := [11, 0, 0, 1, 1, 1, 1, 1]) (by decide)) fun H11 hS11 => ?_) 
   replace hS11 : Own _ _ _ ([_, _, _, _, _, _]) := hS11
   refine OW_mv rfl rfl ?_
   refine EN144_CG2 rfl ?_
   refine OW_fn rfl rfl (rDrawn hS11 (k := 2) rfl (le_lit (ν := []) (a := [11, 0, 0, 1, 1, 1, 1, 1]) (b := [12, 0, 0, 1, 1, 1, 1, 1]) (by decide)) under_nil (before_lit (ν := []) (a := [12, 0, 0, 1, 1, 1, 1, 1]) (b := [13, 0, 0, 1, 1, 1, 1, 1]) (by decide)) fun H12 hS12 => ?_) 
   replace hS12 : Own _ _ _ ([_, _, _, _, _, _]) := hS12
   refine OW_bin rfl rfl rfl rfl (neIF rfl) ?_
   refine OW_pick rfl rfl rfl ?_
   refine EZ144_CG2 rfl ?_
   refine XW_no rfl rfl ?_
   refine XW_skip ?_
   refine then_norm ?_
   refine XW_seq ?_
   refine XW_sr ?_
   refine OW_mv rfl rfl ?_
   refine OW_bin rfl rfl rfl rfl rfl ?_
   refine EZ144_CG2 rfl ?_
   refine XW_if rfl (fun h8 => ?_) (fun h8 => ?_)
   ·try simp only [bs] at h8
    obtain ⟨hn0, rfl, hT⟩ := hg.resolve_right (fun h => absurd h.n0 (by simpa using h8))
    refine XW_sr ?_
    refine OW_loadR hS12 (k := 1) rfl rfl rfl rfl rfl (by first | exact part_whole rfl rfl rfl | rfl) ?_
    refine OW_bd rfl rfl (v := .agg [_, _, _, _, _]) rfl ?_
    refine OW_bin rfl rfl rfl rfl (eqTkF Tk.z) ?_
    refine EN144_CG2 rfl ?_
    refine OW_mv rfl rfl ?_
    refine OW_mv rfl rfl ?_
    refine OW_fn rfl rfl (oDrawn hS12 (k := 3) rfl (le_lit (ν := []) (a := [13, 0, 0, 1, 1, 1, 1, 1]) (b := [5, 0, 1, 0, 1, 1, 1, 1, 1, 1]) (by decide)) under_nil (before_lit (ν := []) (a := [5, 0, 1, 0, 1, 1, 1, 1, 1, 1]) (b := [6, 0, 1, 0, 1, 1, 1, 1, 1, 1]) (by decide)) fun H13 hS13 => ?_) 
    replace hS13 : Own _ _ _ ([_, _, _, _, _, _]) := hS13
    refine EN144_CG2 rfl ?_
    refine OW_bin rfl rfl rfl rfl (eqIG (by rw [hT]; rfl)) ?_
    refine OW_pick rfl rfl rfl ?_
    refine OW_as rfl rfl ?_
    refine EZ144_CG2 rfl ?_
    refine XW_ret ?_
    refine then_ret ?_
    -- outcome 2
    refine ret_ret (res1 rfl (rv_tmp rfl)) (frz1 (Q := Q) (by first | exact freeze_plain rfl | exact Ls.freeze (by assumption) | exact Ls.freeze Ls.of | exact Ls.freeze Ls.emp | exact Ls.freeze Ls.nls) ?_)
    exact hq
   ·try simp only [bs] at h8
    replace hg := hg.resolve_left (fun h => h.1 (by simpa using h8))
    have hgi := hg.hi
    have hg0 := hg.h0
    have hgp := hg.pf.2.2.2.1
    have hbm := bump_is (a := 0) ho hf hg hB
    refine XW_skip ?_
    refine then_norm ?_
    refine XW_sr ?_
    refine OW_fa rfl rfl rfl ?_
    refine OW_loadR hS12 (k := 5) rfl rfl rfl rfl rfl (by first | exact part_whole rfl rfl rfl | rfl) ?_
    refine OW_loadR hS12 (k := 5) rfl rfl rfl rfl rfl (by first | exact part_whole rfl rfl rfl | rfl) ?_
    refine EN144_CG2 rfl ?_
    refine OW_fa rfl rfl rfl ?_
    refine OW_loadR hS12 (k := 4) rfl rfl rfl rfl rfl (by first | exact part_whole rfl rfl rfl | rfl) ?_
    refine OW_fn rfl rfl (rf_find (c := c) rfl (by omega) _ ?_) 
    refine EN144_CG2 rfl ?_
    first
    | refine OW_iaL rfl rfl rfl Ls.of rfl rfl rfl (by first | rfl | exact (Int.toNat_of_nonneg (by omega)).symm) (by first | assumption | exact at_map (by first | assumption | omega) | exact at_lst (by omega) | rfl) rfl ?_
    | refine OW_iaL rfl rfl rfl (by assumption) rfl rfl rfl (by first | rfl | exact (Int.toNat_of_nonneg (by omega)).symm) (by first | assumption | exact at_map (by first | assumption | omega) | exact at_lst (by omega) | rfl) rfl ?_
    refine OW_fa rfl rfl rfl ?_
    refine OW_loadE rfl rfl rfl (by first | exact part_whole rfl rfl rfl | rfl) ?_
    refine EN144_CG2 rfl ?_
    refine OW_as rfl rfl ?_
    refine EZ144_CG2 rfl ?_
    refine XW_sr ?_
    refine OW_mv rfl rfl ?_
    refine OW_fa rfl rfl rfl ?_
    refine OW_loadR hS12 (k := 4) rfl rfl rfl rfl rfl (by first | exact part_whole rfl rfl rfl | rfl) ?_
    refine EN144_CG2 rfl ?_
    refine OW_loadR hS12 (k := 1) rfl rfl rfl rfl rfl (by first | exact part_whole rfl rfl rfl | rfl) ?_
    refine OW_fa rfl rfl rfl ?_
    refine OW_loadR hS12 (k := 4) rfl rfl rfl rfl rfl (by first | exact part_whole rfl rfl rfl | rfl) ?_
    refine EN144_CG2 rfl ?_
    refine OW_mv rfl rfl ?_
    refine OW_fa rfl rfl rfl ?_
    refine OW_loadR hS12 (k := 4) rfl rfl rfl rfl rfl (by first | exact part_whole rfl rfl rfl | rfl) ?_
    refine EN144_CG2 rfl ?_
    refine OW_fn rfl rfl (check0 hg hS12 (k := 3) rfl (le_lit (ν := []) (a := [13, 0, 0, 1, 1, 1, 1, 1]) (b := [9, 0, 1, 1, 1, 1, 1, 1, 1, 1]) (by decide)) under_nil (before_lit (ν := []) (a := [9, 0, 1, 1, 1, 1, 1, 1, 1, 1]) (b := [10, 0, 1, 1, 1, 1, 1, 1, 1, 1]) (by decide)) fun H14 hS14 => ?_) 
    replace hS14 : Own _ _ _ ([_, _, _, _, _, _]) := hS14
    refine OW_as rfl rfl ?_
    refine EZ144_CG2 rfl ?_
    refine XW_sr ?_
    refine OW_loadR hS14 (k := 5) rfl rfl rfl rfl rfl (by first | exact part_whole rfl rfl rfl | rfl) ?_
    refine OW_fa rfl rfl rfl ?_
    refine OW_loadR hS14 (k := 4) rfl rfl rfl rfl rfl (by first | exact part_whole rfl rfl rfl | rfl) ?_
    refine EN144_CG2 rfl ?_
    refine OW_fn rfl rfl (bumpE hf hB ?_) 
    refine OW_mv rfl rfl ?_
    refine OW_ex rfl rfl rfl ?_
    refine EN144_CG2 rfl ?_
    refine OW_ex rfl rfl rfl ?_
    refine OW_ex rfl rfl rfl ?_
    refine OW_allocR hS14 (le_lit (ν := []) (a := [10, 0, 1, 1, 1, 1, 1, 1, 1, 1]) (b := [8, 0, 1, 1, 1, 1, 1, 1, 1, 1, 1]) (by decide)) under_nil rfl rfl rfl rfl fun H15 hS15 => ?_
    replace hS15 : Own _ _ _ ([_, _, _, _, _, _, _]) := hS15
    refine EN144_CG2 rfl ?_
    first
    | refine OW_storeR hS15 (k := 0) rfl le_refl rfl rfl rfl rfl ⟨rfl, rfl, Nat.le_of_ble_eq_true rfl⟩ (set_whole rfl rfl) fun H16 hS16 => ?_
    | refine OW_storeR hS15 (k := 0) rfl le_refl rfl rfl rfl rfl ⟨rfl, rfl, Nat.le_of_ble_eq_true rfl⟩ (u2 := .agg [_, _, _]) rfl fun H16 hS16 => ?_
    replace hS16 : Own _ _ _ ([_, _, _, _, _, _, _]) := hS16
    refine OW_as rfl rfl ?_
    refine OW_as rfl rfl ?_
    refine EZ144_CG2 rfl ?_
    refine XW_seq ?_
    refine XW_sr ?_
    refine OW_mv rfl rfl ?_
    refine OW_bin rfl rfl rfl rfl rfl ?_
    refine EZ144_CG2 rfl ?_
    refine XW_if rfl (fun h13 => ?_) (fun h13 => ?_)
    ·try simp only [bs] at h13
     obtain ⟨hmx, _⟩ := hbm.resolve_right (fun h => absurd h.1 (by simpa using h13))
     refine XW_sr ?_
     refine OW_mv rfl rfl ?_
     refine OW_bin rfl rfl rfl rfl (eqIG rfl) ?_
     refine OW_mv rfl rfl ?_
     refine EN144_CG2 rfl ?_
     refine OW_mv rfl rfl ?_
     first
     | refine OW_bin rfl rfl rfl rfl (add_wu64 (by first | omega | assumption | (simp only [ss]; omega))) ?_
     | refine OW_bin rfl rfl rfl rfl rfl ?_
     refine OW_bin rfl rfl rfl rfl (eqU (by rw [hmx]; rfl)) ?_
     refine EN144_CG2 rfl ?_
     refine OW_pick rfl rfl rfl ?_
     refine OW_as rfl rfl ?_
     refine EZ144_CG2 rfl ?_
     refine XW_ret ?_
     refine then_ret ?_
     -- outcome 3
     refine ret_ret (res1 rfl (rv_tmp rfl)) (frz1 (Q := Q) (by first | exact freeze_plain rfl | exact Ls.freeze (by assumption) | exact Ls.freeze Ls.of | exact Ls.freeze Ls.emp | exact Ls.freeze Ls.nls) ?_)
     exact hq
    ·try simp only [bs] at h13
     obtain ⟨_, hm1, hm2, hro, hrf⟩ := hbm.resolve_left (fun h => h.2 (by simpa using h13))
     refine XW_skip ?_
     refine then_norm ?_
     refine XW_sr ?_
     refine OW_mv rfl rfl ?_
     refine OW_bin rfl rfl rfl rfl (eqIG rfl) ?_
     refine OW_mv rfl rfl ?_
     refine EN144_CG2 rfl ?_
     refine OW_mv rfl rfl ?_
     refine OW_mv rfl rfl ?_
     first
     | refine OW_bin rfl rfl rfl rfl (add_wu64 (by first | omega | assumption | (simp only [ss]; omega))) ?_
     | refine OW_bin rfl rfl rfl rfl rfl ?_
     refine EN144_CG2 rfl ?_
     refine OW_bin rfl rfl rfl rfl (eqU (by first | exact hm1 | (rw [IntWalk.u64_in _ (by omega)]; exact hm1))) ?_
     refine OW_pick rfl rfl rfl ?_
     refine OW_mv rfl rfl ?_
     refine EN144_CG2 rfl ?_
     refine OW_loadR hS16 (k := 0) rfl rfl rfl rfl rfl (by first | exact part_whole rfl rfl rfl | rfl) ?_
     refine OW_fn rfl rfl (cf_checkT hro hrf ?_) 
     refine OW_pick rfl rfl rfl ?_
     refine EN144_CG2 rfl ?_
     refine OW_mv rfl rfl ?_
     refine OW_mv rfl rfl ?_
     refine OW_fa rfl rfl rfl ?_
     refine EN144_CG2 rfl ?_
     refine OW_loadR hS16 (k := 5) rfl rfl rfl rfl rfl (by first | exact part_whole rfl rfl rfl | rfl) ?_
     refine OW_loadR hS16 (k := 2) rfl rfl rfl rfl rfl (by first | exact part_whole rfl rfl rfl | rfl) ?_
     refine OW_fa rfl rfl rfl ?_
     refine EN144_CG2 rfl ?_
     refine OW_loadR hS16 (k := 5) rfl rfl rfl rfl rfl (by first | exact part_whole rfl rfl rfl | rfl) ?_
     refine OW_mv rfl rfl ?_
     refine OW_fa rfl rfl rfl ?_
     refine EN144_CG2 rfl ?_
     refine OW_loadR hS16 (k := 5) rfl rfl rfl rfl rfl (by first | exact part_whole rfl rfl rfl | rfl) ?_
     refine OW_fn rfl rfl (check72 hg (by have := hg.fep; omega) hS16 (k := 4) rfl (le_lit (ν := []) (a := [10, 0, 1, 1, 1, 1, 1, 1, 1, 1, 1]) (b := [22, 0, 1, 1, 1, 1, 1, 1, 1, 1, 1, 1, 1]) (by decide)) under_nil (before_lit (ν := []) (a := [22, 0, 1, 1, 1, 1, 1, 1, 1, 1, 1, 1, 1]) (b := [23, 0, 1, 1, 1, 1, 1, 1, 1, 1, 1, 1, 1]) (by decide)) fun H17 hS17 => ?_) 
     replace hS17 : Own _ _ _ ([_, _, _, _, _, _, _]) := hS17
     refine OW_bin rfl rfl rfl rfl (eqIG rfl) ?_
     refine EN144_CG2 rfl ?_
     refine OW_pick rfl rfl rfl ?_
     refine OW_as rfl rfl ?_
     refine EZ144_CG2 rfl ?_
     refine XW_ret ?_
     -- outcome 4
     refine ret_ret (res1 rfl (rv_tmp rfl)) (frz1 (Q := Q) (by first | exact freeze_plain rfl | exact Ls.freeze (by assumption) | exact Ls.freeze Ls.of | exact Ls.freeze Ls.emp | exact Ls.freeze Ls.nls) ?_)
     exact hq
end Go.Proofs.Ytealccnfnpkngaa.X
namespace Go.Proofs.Ytealccnfnpkngaa.X
open Go Go.RowKit
def Qu.Q (x : Qu) (n : Nat) : Prop := Open.QSt (Open.QPair (Open.QInt .u64) (Open.QPair (Open.QInt .u64) (Open.QInt .u64))) (x.tn, x.us, x.li) n
theorem Qu.ok {a : Qu} {n : Nat} (h : Qu.Q a n) : (0 ≤ a.tn ∧ a.tn ≤ 18446744073709551615) ∧ (0 ≤ a.us ∧ a.us ≤ 18446744073709551615) ∧ (0 ≤ a.li ∧ a.li ≤ 18446744073709551615) := by
  obtain ⟨mm, hm, ⟨m0, k0, e0, h0, ⟨m1, k1, e1, h1, h2⟩⟩⟩ := h
  exact ⟨(in_u64 h0), (in_u64 h1), (in_u64 h2)⟩
theorem Qu.Q_mono {a : Qu} {n m : Nat} (h : Qu.Q a n) (hm : n ≤ m) : Qu.Q a m := let ⟨k, h1, h2⟩ := h; ⟨k, Nat.le_trans h1 hm, h2⟩
theorem Qu.Q.pos {a : Qu} {n : Nat} (h : Qu.Q a n) : 1 ≤ n := let ⟨k, h1, _⟩ := h; by omega
def Pl.Q (x : Pl) (n : Nat) : Prop := Open.QSt (Open.QPair (Open.QInt .u64) (Open.QPair (Open.QInt .u64) (Open.QPair (Open.QInt .u64) (Open.QPair (Open.QInt .u64) (Open.QInt .u64))))) (x.vo, x.te, x.de, x.ep, x.gr) n
theorem Pl.ok {a : Pl} {n : Nat} (h : Pl.Q a n) : (0 ≤ a.vo ∧ a.vo ≤ 18446744073709551615) ∧ (0 ≤ a.te ∧ a.te ≤ 18446744073709551615) ∧ (0 ≤ a.de ∧ a.de ≤ 18446744073709551615) ∧ (0 ≤ a.ep ∧ a.ep ≤ 18446744073709551615) ∧ (0 ≤ a.gr ∧ a.gr ≤ 18446744073709551615) := by
  obtain ⟨mm, hm, ⟨m0, k0, e0, h0, ⟨m1, k1, e1, h1, ⟨m2, k2, e2, h2, ⟨m3, k3, e3, h3, h4⟩⟩⟩⟩⟩ := h
  exact ⟨(in_u64 h0), (in_u64 h1), (in_u64 h2), (in_u64 h3), (in_u64 h4)⟩
theorem Pl.Q_mono {a : Pl} {n m : Nat} (h : Pl.Q a n) (hm : n ≤ m) : Pl.Q a m := let ⟨k, h1, h2⟩ := h; ⟨k, Nat.le_trans h1 hm, h2⟩
theorem Pl.Q.pos {a : Pl} {n : Nat} (h : Pl.Q a n) : 1 ≤ n := let ⟨k, h1, _⟩ := h; by omega
def Cf.Q (x : Cf) (n : Nat) : Prop := Open.QSt (Open.QPair (Open.QSl Qu.Q) (Open.QPair (Open.QSl Pl.Q) (Open.QInt .u64))) (x.qs, x.ps, x.nx) n
theorem Cf.ok {a : Cf} {n : Nat} (h : Cf.Q a n) : (a.qs.length + 1 ≤ n ∧ ∀ x ∈ a.qs, Qu.Q x n) ∧ (a.ps.length + 1 ≤ n ∧ ∀ x ∈ a.ps, Pl.Q x n) ∧ (0 ≤ a.nx ∧ a.nx ≤ 18446744073709551615) := by
  obtain ⟨mm, hm, ⟨m0, k0, e0, h0, ⟨m1, k1, e1, h1, h2⟩⟩⟩ := h
  exact ⟨(⟨Nat.le_trans (qsl_len h0 (fun _ _ h => h.pos)) (by omega), fun x hx => let ⟨_, h⟩ := qsl_mem h0 x hx; Qu.Q_mono h.2 (by omega)⟩), (⟨Nat.le_trans (qsl_len h1 (fun _ _ h => h.pos)) (by omega), fun x hx => let ⟨_, h⟩ := qsl_mem h1 x hx; Pl.Q_mono h.2 (by omega)⟩), (in_u64 h2)⟩
theorem Cf.Q_mono {a : Cf} {n m : Nat} (h : Cf.Q a n) (hm : n ≤ m) : Cf.Q a m := let ⟨k, h1, h2⟩ := h; ⟨k, Nat.le_trans h1 hm, h2⟩
theorem Cf.Q.pos {a : Cf} {n : Nat} (h : Cf.Q a n) : 1 ≤ n := let ⟨k, h1, _⟩ := h; by omega
def Ak.Q (x : Ak) (n : Nat) : Prop := Open.QSt (Open.QPair (Open.QInt .u64) (Open.QPair (Open.QInt .u64) (Open.QPair (Open.QInt .u64) (Open.QInt .u64)))) (x.key, x.vo, x.tn, x.ri) n
theorem Ak.ok {a : Ak} {n : Nat} (h : Ak.Q a n) : (0 ≤ a.key ∧ a.key ≤ 18446744073709551615) ∧ (0 ≤ a.vo ∧ a.vo ≤ 18446744073709551615) ∧ (0 ≤ a.tn ∧ a.tn ≤ 18446744073709551615) ∧ (0 ≤ a.ri ∧ a.ri ≤ 18446744073709551615) := by
  obtain ⟨mm, hm, ⟨m0, k0, e0, h0, ⟨m1, k1, e1, h1, ⟨m2, k2, e2, h2, h3⟩⟩⟩⟩ := h
  exact ⟨(in_u64 h0), (in_u64 h1), (in_u64 h2), (in_u64 h3)⟩
theorem Ak.Q_mono {a : Ak} {n m : Nat} (h : Ak.Q a n) (hm : n ≤ m) : Ak.Q a m := let ⟨k, h1, h2⟩ := h; ⟨k, Nat.le_trans h1 hm, h2⟩
theorem Ak.Q.pos {a : Ak} {n : Nat} (h : Ak.Q a n) : 1 ≤ n := let ⟨k, h1, _⟩ := h; by omega
theorem cf_fits {c : Cf} {n : Nat} (h : Cf.Q c n) (hn : n ≤ 1048576) : c.fit := by
  obtain ⟨⟨h1, h2⟩, ⟨h3, h4⟩, h5⟩ := Cf.ok h
  exact ⟨fun x hx => Qu.ok (h2 x hx), fun x hx => Pl.ok (h4 x hx), h5, by omega, by omega⟩
theorem ConfGrants_true (a0 : Cf) (n0 : Nat) (q0 : Cf.Q a0 n0) (a1 : (List Int)) (n1 : Nat) (q1 : (Open.QSl (Open.QInt .u64)) a1 n1) (a2 : Ak) (n2 : Nat) (q2 : Ak.Q a2 n2) (hb : n0 + (n1 + (n2 + (0))) ≤ 1048576) :
    CW cfg [] 6 [Cf.enc a0, AVal.lst (a1.map (fun a : Int => AVal.int .u64 a)), Ak.enc a2] (fun _ => none) (fun v _ => v = .bool true) := by
  have h1 := qsl_len q1 (fun _ _ h => h.2)
  have hx := Ak.ok q2
  refine lawGrants (cf_fits q0 (by omega)) (fun y hy => ?_) (by omega) ⟨hx.1, hx.2.1, hx.2.2.1, hx.2.2.2⟩ rfl
  obtain ⟨m, _, hm⟩ := qsl_mem q1 y hy
  exact in_u64 hm
end Go.Proofs.Ytealccnfnpkngaa.X
