import Derived.Test.YtfkgdlfponfimaaGreatU18
/- Regions in their text's order; code; functions. -/
namespace Go.Proofs.YtfkgdlfponfimaaGreat.X
open Go Go.RowKit
variable {B : BT} {P : Program} {ν : Nm} {G G' : Gh} {H H1 : Heap} {W W' : World} {c : Cfg}
theorem three {α β γ : Type} {a a' : α} {b b' : β} {c c' : γ} (h : some (a, b, c) = some (a', b', c')) : a = a' ∧ b = b' ∧ c = c' := by injection h with h; injection h with h1 h; injection h with h2 h3; exact ⟨h1, h2, h3⟩
theorem yielded_eq {e : Env} {a : Act} (h : ER G e a) (ops : Array Oper) (j : Nat) : yielded ops a.tmps j = ayielded ops e j := by
  unfold yielded ayielded
  cases hd : (ops[j]?).bind (·.dst) with
  | none => rfl
  | some d =>
    simp only [Option.bind_some]
    cases he : e[d]? with
    | none =>
      have : a.tmps[d]? = none := by
        have hl : e.length = a.tmps.size := by simpa using h.1
        have := List.getElem?_eq_none_iff.1 he
        rw [Array.getElem?_eq_none_iff, ← hl]; exact this
      rw [this]
    | some x =>
      obtain ⟨y, hy, hr⟩ := L2.get h he
      have : a.tmps[d]? = some y := by simpa using hy
      rw [this]
      cases hr <;> rfl
theorem ops_sound (hc : COK B P c) {rec : RecA} (hrec : ExOK B P c rec) {all : Array Oper} {Q : Exit → Act → World → Prop} : ∀ (l : List Oper) (i : Nat) (e : Env) (H : Heap) (e1 : Env) (H1 : Heap), aops c rec ν all l i e H = some (e1, H1) → (∀ j, l[j]? = all[i + j]?) →
    ∀ (G : Gh) (W : World) (a : Act), R B G H W → (∀ j, i ≤ j → Fresh (j :: ν) G H) → ER G e a →
      (∀ a' W', a'.defers = a.defers → (∃ G', R B G' H1 W' ∧ ER G' e1 a' ∧ St ν G G' H H1 W W') → Q .normal a' W') → wpOps P all Q (List.range' i l.length) a W := by
  intro l
  induction l with
  | nil =>
    intro i e H e1 H1 hl hall G W a h hf hE hQ
    simp only [aops] at hl
    obtain ⟨rfl, rfl⟩ := Prod.mk.inj (Option.some.inj hl)
    exact hQ a W rfl ⟨G, h, hE, St.refl _ _ _ _⟩
  | cons o l ih =>
    intro i e H e1 H1 hl hall G W a h hf hE hQ
    have ho : all[i]? = some o := by simpa using (hall 0).symm
    have hall' : ∀ j, l[j]? = all[i + 1 + j]? := fun j => by have := hall (j + 1); simpa [Nat.add_assoc, Nat.add_comm 1 j] using this
    simp only [aops] at hl
    simp only [List.length_cons, List.range'_succ, wpOps, ho]
    have hw : Region.wanted o (yielded all a.tmps) = Region.wanted o (ayielded all e) := by
      have : yielded all a.tmps = ayielded all e := funext fun j => yielded_eq hE all j
      rw [this]
    rw [hw]
    split at hl
    · rename_i hwt
      rw [if_pos hwt]
      cases hop : aoper c rec (i :: ν) e H o with
      | none => rw [hop] at hl; cases hl
      | some r =>
        obtain ⟨v, H2⟩ := r
        rw [hop] at hl
        simp only at hl
        refine .inl (oper_sound hc hrec hop (evs_of_ER hE _) h (hf i (Nat.le_refl _)) ?_)
        intro v' W' G' g1 g2 g3
        refine ih (i + 1) _ H2 e1 H1 hl hall' G' W' (a.put o.dst v') g2 (fun j hj => ?_) ((hE.mono g3.le).put o.dst g1) ?_
        · intro q hq
          obtain ⟨q1, q2⟩ := hf j (by omega) q hq
          have hu := under_apart (by omega : j ≠ i) hq
          exact ⟨(g3.mu' q hu).trans q1, g3.hp q hu q2⟩
        · rintro a' W2 hd ⟨G2, k1, k2, k3⟩
          exact hQ a' W2 (hd.trans (put_defers _ _ _)) ⟨G2, k1, k2, g3.up.trans k3⟩
    · rename_i hwt
      rw [if_neg hwt]
      exact ih (i + 1) _ H e1 H1 hl hall' G W (a.put o.dst undef) h (fun j hj => hf j (by omega)) (hE.put o.dst undef_VR) (fun a' W2 hd hG => hQ a' W2 (hd.trans (put_defers _ _ _)) hG)
theorem region_sound (hc : COK B P c) {rec : RecA} (hrec : ExOK B P c rec) {ops : Array Oper} {id : Nat} {e e1 : Env} {a : Act} (hl : aops c rec ν ops ops.toList 0 e H = some (e1, H1)) (h : R B G H W) (hf : Fresh ν G H) (hE : ER G e a) :
    (Code.region id ops false).wp P (XPost B ν G H H1 W .norm e1 a.defers) a W := by
  refine wp_region ?_
  have := ops_sound hc hrec (Q := XPost B ν G H H1 W .norm e1 a.defers) ops.toList 0 e H e1 H1 hl (fun j => by simp) G W a h (fun j _ => hf.down j) hE (fun a' W' hd hG => ⟨rfl, hd, hG⟩)
  simpa [List.range_eq_range'] using this
def DrawSound (B : BT) (P : Program) (c : Cfg) : Prop :=
  ∀ rec, ExOK B P c rec → RN rec → ∀ ν ops rs id e H e1 H1, drawOK c rs ops = true → aopsF c rec ν ops rs (onlyL (asideN H e rs) H) ops.toList 0 e (hideL (asideN H e rs) H) = some (e1, H1) → ∀ G W a, R B G H W → Fresh ν G H → ER G e a → (Code.region id ops true).wp P (XPost B ν G H (backL (asideN H e rs) H H1) W .norm e1 a.defers) a W
theorem flagged_nil {ops : Array Oper} {o : Oper} : flagged ops [] o = false := by
  unfold flagged
  split
  · split
    · split <;> simp
    · rfl
  · rfl
theorem aopsF_nil {rec : RecA} {all : Array Oper} {HK : Heap} : ∀ (l : List Oper) (i : Nat) (e : Env) (H : Heap), aopsF c rec ν all [] HK l i e H = aops c rec ν all l i e H
  | [], _, _, _ => rfl
  | o :: l, i, e, H => by
    simp only [aopsF, aops, aoperF, flagged_nil, Bool.false_eq_true, if_false]
    split
    · cases aoper c rec (i :: ν) e H o with
      | none => rfl
      | some r => exact aopsF_nil l _ _ _
    · exact aopsF_nil l _ _ _
theorem hideL_nil : hideL [] H = H := by funext q; simp [hideL]
theorem backL_nil : backL [] H H1 = H1 := by funext q; simp [backL]
theorem rounds_mono {P : Program} {cd : Code} {Q Q' : Exit → Act → World → Prop} (hq : ∀ e a w, Q e a w → Q' e a w) : ∀ n a w, Code.rounds P cd Q n a w → Code.rounds P cd Q' n a w := by
  intro n
  induction n with
  | zero => intro a w h; exact h
  | succ n ih =>
    intro a w h
    rw [rounds_succ] at h ⊢
    refine wp_mono h fun e a' w' he => ?_
    cases e <;> first | exact ih _ _ he | exact hq _ _ _ he
theorem XPost.trans {ν0 ν1 : Nm} {H2 : Heap} {o : AOut} {e1 : Env} {ds : List Deferred} (hs : St ν G G' H H1 W W') {ex : Exit} {a' : Act} {w' : World} (h : XPost B ν G' H1 H2 W' o e1 ds ex a' w') : XPost B ν G H H2 W o e1 ds ex a' w' := by
  obtain ⟨h1, h2, G2, h3, h4, h5⟩ := h
  exact ⟨h1, h2, G2, h3, h4, hs.trans h5⟩
theorem XPost.up {i : Nat} {H2 : Heap} {o : AOut} {e1 : Env} {ds : List Deferred} {ex : Exit} {a' : Act} {w' : World} (h : XPost B (i :: ν) G H H2 W o e1 ds ex a' w') : XPost B ν G H H2 W o e1 ds ex a' w' := by
  obtain ⟨h1, h2, G2, h3, h4, h5⟩ := h
  exact ⟨h1, h2, G2, h3, h4, h5.up⟩
theorem exec_sound (hc : COK B P c) (hd : DrawSound B P c) : ∀ k, ExOK B P c (aexec c k) ∧
    ∀ ν body e H o e1 H1, aexec c k ν (.loop body) e H = some (o, e1, H1) → codeOK c body = true → ∀ G W a, R B G H W → Fresh ν G H → ER G e a → Code.rounds P body (XPost B ν G H H1 W o e1 a.defers) k a W := by
  intro k
  induction k with
  | zero => exact ⟨fun ν code e H o e1 H1 h => by simp [aexec] at h, fun ν body e H o e1 H1 h => by simp [aexec] at h⟩
  | succ k ih =>
    obtain ⟨ih1, ih2⟩ := ih
    have loop : ∀ ν body e H o e1 H1, aexec c (k + 1) ν (.loop body) e H = some (o, e1, H1) → codeOK c body = true → ∀ G W a, R B G H W → Fresh ν G H → ER G e a → Code.rounds P body (XPost B ν G H H1 W o e1 a.defers) (k + 1) a W := by
      intro ν body e H o e1 H1 hl hck G W a h hf hE
      simp only [aexec] at hl
      rw [rounds_succ]
      cases hb : aexec c k (0 :: ν) body e H with
      | none => rw [hb] at hl; cases hl
      | some r =>
        obtain ⟨o2, e2, H2⟩ := r
        rw [hb] at hl
        have h1 := ih1 _ _ _ _ _ _ _ hb hck G W a h (hf.down 0) hE
        refine wp_mono h1 ?_
        rintro ex a' w' ⟨rfl, hds, G', g1, g2, g3⟩
        cases o2 with
        | norm =>
          simp only at hl
          show Code.rounds P body _ k a' w'
          have h2 := ih2 _ _ _ _ _ _ _ hl hck G' w' a' g1 (hf.next (by omega) g3) g2
          refine rounds_mono (fun ex a2 w2 hp => ?_) k a' w' h2
          rw [hds] at hp
          exact XPost.trans (ν0 := ν) (ν1 := ν) g3.up hp.up
        | exit id =>
          simp only at hl
          obtain ⟨rfl, rfl, rfl⟩ := three hl
          exact ⟨rfl, hds, G', g1, g2, g3.up⟩
        | ret =>
          simp only at hl
          obtain ⟨rfl, rfl, rfl⟩ := three hl
          exact ⟨rfl, hds, G', g1, g2, g3.up⟩
    refine ⟨?_, loop⟩
    intro ν code e H o e1 H1 hl hck G W a h hf hE
    cases code <;> (try (simp only [aexec] at hl; cases hl; done))
    case skip =>
      simp only [aexec] at hl
      obtain ⟨rfl, rfl, rfl⟩ := three hl
      exact wp_skip ⟨rfl, rfl, G, h, hE, St.refl _ _ _ _⟩
    case region id ops d =>
      simp only [aexec] at hl
      cases hr : aregion c (aexec c k) ν id ops d e H with
      | none => rw [hr] at hl; cases hl
      | some r =>
        obtain ⟨e2, H2⟩ := r
        rw [hr] at hl
        obtain ⟨rfl, rfl, rfl⟩ := three hl
        cases d with
        | false =>
          simp only [aregion, Bool.false_eq_true, if_false] at hr
          exact region_sound hc ih1 hr h hf hE
        | true =>
          have hdr : drawOK c (c.roots id ops) ops = true := by simpa [codeOK] using hck
          simp only [aregion, if_true] at hr
          cases hrs : c.roots id ops with
          | nil =>
            rw [hrs] at hr hdr
            simp only at hr
            have h0 := hd _ ih1 (aexec_none k) ν ops [] id e H e2 H2 hdr (by rw [aopsF_nil]; show aops c (aexec c k) ν ops ops.toList 0 e (hideL [] H) = _; rw [hideL_nil]; exact hr) G W a h hf hE
            have e0 : backL (asideN H e []) H H2 = H2 := backL_nil
            rw [e0] at h0
            exact h0
          | cons r rs =>
            rw [hrs] at hr hdr
            simp only at hr
            split at hr
            · rename_i ho
              obtain ⟨rfl, rfl⟩ := Prod.mk.inj (Option.some.inj hr)
              exact hd _ ih1 (aexec_none k) ν ops (r :: rs) id e H _ _ hdr ho G W a h hf hE
            · cases hr
    case seq x y =>
      simp only [codeOK, Bool.and_eq_true] at hck
      simp only [aexec] at hl
      cases hb : aexec c k (0 :: ν) x e H with
      | none => rw [hb] at hl; cases hl
      | some r =>
        obtain ⟨o2, e2, H2⟩ := r
        rw [hb] at hl
        have h1 := ih1 _ _ _ _ _ _ _ hb hck.1 G W a h (hf.down 0) hE
        refine wp_seq (wp_mono h1 ?_)
        rintro ex a' w' ⟨rfl, hds, G', g1, g2, g3⟩
        cases o2 with
        | norm =>
          simp only at hl
          show y.wp P _ a' w'
          have h2 := ih1 _ _ _ _ _ _ _ hl hck.2 G' w' a' g1 (hf.next (by omega) g3) g2
          refine wp_mono h2 (fun ex a2 w2 hp => ?_)
          rw [hds] at hp
          exact XPost.trans (ν0 := ν) (ν1 := ν) g3.up hp.up
        | exit id =>
          simp only at hl
          obtain ⟨rfl, rfl, rfl⟩ := three hl
          exact ⟨rfl, hds, G', g1, g2, g3.up⟩
        | ret =>
          simp only at hl
          obtain ⟨rfl, rfl, rfl⟩ := three hl
          exact ⟨rfl, hds, G', g1, g2, g3.up⟩
    case cond x y z =>
      simp only [codeOK, Bool.and_eq_true] at hck
      simp only [aexec] at hl
      cases hx : ev e x with
      | none => rw [hx] at hl; cases hl
      | some u =>
        rw [hx] at hl
        have hv := evs_of_ER hE #[x] x (by simp) u hx
        cases u <;> try (cases hl; done)
        rename_i b
        cases hv' : a.eval x <;> rw [hv'] at hv <;> cases hv
        cases b
        · exact wp_cond_false hv' (ih1 _ _ _ _ _ _ _ hl hck.2 G W a h hf hE)
        · exact wp_cond_true hv' (ih1 _ _ _ _ _ _ _ hl hck.1 G W a h hf hE)
    case block id x =>
      simp only [codeOK] at hck
      simp only [aexec] at hl
      cases hb : aexec c k ν x e H with
      | none => rw [hb] at hl; cases hl
      | some r =>
        obtain ⟨o2, e2, H2⟩ := r
        rw [hb] at hl
        have h1 := ih1 _ _ _ _ _ _ _ hb hck G W a h hf hE
        refine wp_block (wp_mono h1 ?_)
        rintro ex a' w' ⟨rfl, hds, hG⟩
        cases o2 with
        | norm =>
          simp only at hl
          obtain ⟨rfl, rfl, rfl⟩ := three hl
          exact ⟨rfl, hds, hG⟩
        | exit j =>
          simp only at hl
          split at hl
          · rename_i hj
            subst hj
            obtain ⟨rfl, rfl, rfl⟩ := three hl
            show (if j = j then _ else _)
            rw [if_pos rfl]
            exact ⟨rfl, hds, hG⟩
          · rename_i hj
            obtain ⟨rfl, rfl, rfl⟩ := three hl
            show (if j = id then _ else _)
            rw [if_neg hj]
            exact ⟨rfl, hds, hG⟩
        | ret =>
          simp only at hl
          obtain ⟨rfl, rfl, rfl⟩ := three hl
          exact ⟨rfl, hds, hG⟩
    case loop x => exact wp_loop_rounds (k + 1) (loop _ _ _ _ _ _ _ hl hck G W a h hf hE)
    case exit id =>
      simp only [aexec] at hl
      obtain ⟨rfl, rfl, rfl⟩ := three hl
      exact wp_exit ⟨rfl, rfl, G, h, hE, St.refl _ _ _ _⟩
    case ret =>
      simp only [aexec] at hl
      obtain ⟨rfl, rfl, rfl⟩ := three hl
      exact wp_ret ⟨rfl, rfl, G, h, hE, St.refl _ _ _ _⟩
end Go.Proofs.YtfkgdlfponfimaaGreat.X
