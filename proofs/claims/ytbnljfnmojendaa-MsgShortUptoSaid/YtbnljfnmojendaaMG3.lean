/- Layer 02: what is put is taken; the laws. -/
import Derived.Test.YtbnljfnmojendaaMG2
set_option linter.unusedVariables false
set_option linter.unusedSimpArgs false
set_option maxRecDepth 100000
namespace Go.Proofs.Ytbnljfnmojendaa.X
open Go Go.RowKit WM
variable {ν β : Nm} {H : Heap} {Q : AVal → Heap → Prop}
theorem msg_list (m : Mg) : (layS m).data.toList = encU m.k.toNat ++ (numsB m.ns ++ (cX.list 64 (by decide)).enc m.ts) := by
  unfold layS textL
  rw [ba_append, ba_data, List.append_assoc]; rfl
theorem chk_most {m : Mg} (h : chkM m = 0) : m.ts.length ≤ 64 := by
  have := chk_ok h; have := mostK_le m.k; omega
theorem ts_ok {m : Mg} (fm : m.fit) {k : Nat} (hm : k < 18446744073709551616) (h : m.ts.length ≤ k) : (cX.list k hm).ok m.ts := ⟨h, fun x hx => by have := sumB_mem hx; have := fm.ts; show x.size ≤ _; omega⟩
theorem ns_ok {m : Mg} (fm : m.fit) {k : Nat} (h : m.ns.length = k) : (cI.many k).ok m.ns := ⟨h, fm.nr⟩
theorem lay_inj {a b : Mg} {x y : List UInt8} (fa : a.fit) (fb : b.fit) (ha : chkM a = 0) (hb : chkM b = 0) (h : (layS a).data.toList ++ x = (layS b).data.toList ++ y) : a = b ∧ x = y := by
  have ka := chk_ok ha; have kb := chk_ok hb
  rw [msg_list, msg_list] at h
  simp only [List.append_assoc] at h
  obtain ⟨e1, h⟩ := encU_prefix (a := a.k.toNat) (b := b.k.toNat) (by omega) (by omega) _ h
  have ek : a.k = b.k := by omega
  obtain ⟨e2, h⟩ := (cI.many (numK a.k)).inj (ns_ok fa ka.2.2.1) (ns_ok fb (by rw [ek]; exact kb.2.2.1)) h
  obtain ⟨e3, h⟩ := (cX.list 64 (by decide)).inj (ts_ok fa _ (chk_most ha)) (ts_ok fb _ (chk_most hb)) h
  exact ⟨by cases a; cases b; simp_all, h⟩
theorem resL_eq {m : Nat} (hm : m < 18446744073709551616) (s : ByteArray) : resL (m : Int) s = match (cX.list m hm).tk s.data.toList with
  | some (l, q) => (l, ba q, true)
  | none => noL := by
  unfold resL
  cases h : takeU 64 s.data.toList with
  | none => rw [Cod.list_none h]
  | some p =>
    obtain ⟨n, r⟩ := p
    rw [Cod.list_tk h]
    by_cases hn : n ≤ m
    · rw [if_pos hn]; simp only; rw [if_pos (by omega)]; cases cX.manyT n r <;> rfl
    · rw [if_neg hn]; simp only; rw [if_neg (by omega)]
theorem decM_lay {m : Mg} (fm : m.fit) (h : chkM m = 0) : decM (layS m) = (m, 0) := by
  have k := chk_ok h
  unfold decM
  rw [if_neg (by omega), msg_list, takeU_enc _ _ _ (by show m.k.toNat < 18446744073709551616; omega)]
  simp only
  rw [if_neg (by omega), show ((m.k.toNat : Nat) : Int) = m.k by omega]
  unfold bodyM
  have hb := (cI.many (numK m.k)).back (ns_ok fm k.2.2.1) ((cX.list 64 (by decide)).enc m.ts)
  rw [show cI.manyT (numK m.k) (numsB m.ns ++ (cX.list 64 (by decide)).enc m.ts) = some (m.ns, (cX.list 64 (by decide)).enc m.ts) from hb]
  simp only
  have hmk := mostK_le m.k
  rw [resL_eq (by omega) _, ba_data]
  have hl := (cX.list (mostK m.k) (by omega)).back (ts_ok fm (by omega) k.2.2.2.2.1) []
  rw [List.append_nil] at hl
  rw [show (cX.list 64 (by decide)).enc m.ts = (cX.list (mostK m.k) (by omega)).enc m.ts from rfl, hl]
  exact tailM_ok rfl rfl k.2.2.2.1
theorem decM_some {s : ByteArray} {m : Mg} (h : decM s = (m, 0)) : m.fit ∧ chkM m = 0 ∧ s = layS m := by
  unfold decM at h
  split at h
  · cases h
  · rename_i hs
    cases h1 : takeU 64 s.data.toList with
    | none => rw [h1] at h; cases h
    | some p =>
      obtain ⟨n, r⟩ := p
      rw [h1] at h
      simp only at h
      obtain ⟨e1, hn⟩ := (takeU_iff _ _ _).1 h1
      split at h
      · cases h
      · rename_i h7
        unfold bodyM at h
        cases h2 : cI.manyT (numK n) r with
        | none => rw [h2] at h; cases h
        | some p =>
          obtain ⟨ns, q⟩ := p
          rw [h2] at h
          simp only at h
          obtain ⟨⟨n1, n2⟩, e2⟩ := (cI.manyT_iff _ _ _ _).1 h2
          have hmk := mostK_le n
          have hlm := least_most n
          have hnk := numK_le n
          rw [resL_eq (by omega : mostK n < 18446744073709551616) _, ba_data] at h
          cases h3 : (cX.list (mostK n) (by omega)).tk q with
          | none => rw [h3] at h; rw [tailM_no (by intro a _ _; cases a)] at h; cases h
          | some p =>
            obtain ⟨ts, q2⟩ := p
            rw [h3] at h
            simp only at h
            obtain ⟨⟨t1, t2⟩, e3⟩ := ((cX.list (mostK n) (by omega)).iff _ _ _).1 h3
            by_cases hc : (ba q2 = ⟨#[]⟩) ∧ leastK n ≤ ts.length
            · rw [tailM_ok rfl hc.1 hc.2] at h
              simp only [Prod.mk.injEq, and_true] at h
              subst h
              have hq2 : q2 = [] := by have := hc.1; rw [← ba_nil] at this; exact ba_inj.1 this
              subst hq2
              have es : s = layS ⟨n, ns, ts⟩ := by
                rw [← ba_of s, ← ba_of (layS _), msg_list, e1, e2, e3, List.append_nil]; rfl
              have hsz : (layS ⟨n, ns, ts⟩).size ≤ 65536 := by rw [← es]; omega
              have hge := lay_ge ⟨n, ns, ts⟩
              have hkn : 0 ≤ (n : Int) ∧ (n : Int) ≤ 7 := by omega
              refine ⟨⟨by show ns.length ≤ _; omega, n2, by show ts.length ≤ _; omega, by show sumB ts ≤ _; have : sumB ts ≤ (layS ⟨n, ns, ts⟩).size := hge; omega, by show _ ≤ (n : Int) ∧ (n : Int) ≤ _; omega⟩, ?_, es⟩
              unfold chkM
              rw [if_neg (by simp only; omega), if_neg (by simp only; omega), if_neg (by omega)]
            · rw [tailM_no (fun _ a b => hc ⟨a, b⟩)] at h; cases h
theorem decM_eq {s : ByteArray} (h : (decM s).2 = 0) : decM s = ((decM s).1, 0) := by rw [← h]
theorem tailM_two (k : Int) (ns : List Int) (x : List ByteArray × ByteArray × Bool) : (tailM k ns x).2 = 0 ∨ (tailM k ns x).1 = zM := by
  unfold tailM; split
  · exact .inl rfl
  · exact .inr rfl
theorem decM_two (s : ByteArray) : (decM s).2 = 0 ∨ (decM s).1 = zM := by
  unfold decM; split
  · exact .inr rfl
  · cases takeU 64 s.data.toList with
    | none => exact .inr rfl
    | some p =>
      obtain ⟨n, r⟩ := p
      simp only; split
      · exact .inr rfl
      · unfold bodyM
        cases cI.manyT (numK n) r with
        | none => exact .inr rfl
        | some p => obtain ⟨ns, q⟩ := p; exact tailM_two _ _ _
theorem decM_lens (s : ByteArray) : (decM s).1.ns.length ≤ 5 ∧ (decM s).1.ts.length ≤ 64 := by
  by_cases h : (decM s).2 = 0
  · obtain ⟨_, h2, _⟩ := decM_some (decM_eq h)
    have k := chk_ok h2
    have := mostK_le (decM s).1.k; have := numK_le (decM s).1.k; omega
  · have : (decM s).1 = zM := (decM_two s).resolve_left h
    rw [this]; decide
theorem dec_apart {s : ByteArray} {m : Mg} (fm : m.fit) (hm : chkM m = 0) {x y : List UInt8} (h : s.data.toList ++ x = (layS m).data.toList ++ y) (hn : x ≠ y) : (decM s).2 ≠ 0 := by
  intro h0
  obtain ⟨f1, f2, f3⟩ := decM_some (decM_eq h0)
  rw [f3] at h
  exact hn (lay_inj f1 fm f2 hm h).2
end Go.Proofs.Ytbnljfnmojendaa.X
