import Derived.Test.YtfkgdlfponfimaaGreatU16
/- Calls and operations, in any mode. -/
namespace Go.Proofs.YtfkgdlfponfimaaGreat.X
open Go Go.RowKit
variable {B : BT} {P : Program} {ν : Nm} {G G' : Gh} {H H1 : Heap} {W W' : World} {c : Cfg}
theorem rest_sub (hf : Fresh ν G H) : ∀ q ob, rest ν H H1 q = some ob → under ν q = false ∧ H1 q = some ob := by
  intro q ob h
  unfold rest at h
  split at h
  · rename_i hu
    rw [(hf q hu).2] at h; cases h
  · rename_i hu
    exact ⟨by simpa using hu, h⟩
theorem frozen_post (h : R B G H W) (hf : Fresh ν G H) {v : AVal} {v' : Value} {n : Nat} (hv : VR G' v v') (hr : R B G' H1 W') (hs : St ν G G' H H1 W W') :
    ∃ G2, VR G2 (freeze ν H1 n v) v' ∧ R B G2 (rest ν H H1) W' ∧ St ν G G2 H (rest ν H H1) W W' := by
  have hr2 : R B G' (rest ν H H1) W' := hr.sub fun q ob e => (rest_sub hf q ob e).2
  have hold : ∀ b o v, G'.F b o = some v → promised ν G' H1 W' b o = some v := fun b o v e => promised_old hr e
  have hnew : ∀ b o v, promised ν G' H1 W' b o = some v → G'.F b o = some v ∨ (W'.cell? ⟨b, o, none⟩ = some v ∧ ¬ Ow G' (rest ν H H1) W' b ∧ Ow G' H1 W' b) := by
    intro b o v e
    unfold promised at e
    split at e
    · rename_i hex
      obtain ⟨q, l, w, xs, hu, hq, hH, rfl, ho⟩ := hex
      refine .inr ⟨e, ?_, q, l, _, hq, hH, .inl Z⟩
      rintro ⟨q2, l2, ob2, hq2, hH2, hk⟩
      obtain ⟨hu2, hH3⟩ := rest_sub hf q2 ob2 hH2
      have := hr.dj q q2 l l2 _ ob2 l.b hq hH hq2 hH3 (.inl rfl) hk
      subst this
      rw [hu] at hu2; cases hu2
    · exact .inl e
  obtain ⟨p1, p2⟩ := hr2.promise (promised ν G' H1 W') hold (fun b o v e => (hnew b o v e).imp id fun x => ⟨x.1, x.2.1⟩)
  refine ⟨⟨G'.mu, promised ν G' H1 W'⟩, ?_, p1, ?_⟩
  · refine freeze_sound hr _ p2 (fun q l w xs hu hq hH cur T hc o u ho hu' => ?_) n v v' hv
    exact promised_row hr hu hq hH ho hc hu'
  · refine ⟨hs.le.trans p2, hs.mu', fun b o v e => ?_, fun q e e' => ?_, hs.sz, hs.fr, fun b ⟨q, l, ob, h1, h2, h3⟩ => hs.ow b ⟨q, l, ob, h1, (rest_sub hf q ob h2).2, h3⟩, hs.sm, fun q e e' => by unfold rest; rw [if_neg (by simp [e])]; exact hs.un q e e'⟩
    · rcases hnew b o v e with e | e
      · exact hs.F' b o v e
      · exact .inr (hs.ow b e.2.2)
    · unfold rest
      rw [if_neg (by simp [e])]
      exact hs.hp q e e'
theorem freeze_only {D : List Nm} : ∀ (n : Nat) (v : AVal), (∀ q ∈ reach ν H1 n v, q ∈ D) → freeze ν (only D H1) n v = freeze ν H1 n v
  | 0, v, _ => by simp only [freeze]
  | n + 1, v, h => by
    have hall : ∀ (l : List AVal), (∀ q ∈ (l.map (reach ν H1 n)).flatten, q ∈ D) → l.map (freeze ν (only D H1) n) = l.map (freeze ν H1 n) := fun l hl =>
      List.map_congr_left fun x hx => freeze_only n x fun q hq => hl q (List.mem_flatten.2 ⟨_, List.mem_map.2 ⟨x, hx, rfl⟩, hq⟩)
    cases v with
    | slc q w off len =>
      simp only [freeze, reach] at h ⊢
      by_cases hu : under ν q = true
      · rw [if_pos hu] at h
        simp only [if_pos hu]
        cases hq : H1 q with
        | none => have e : only D H1 q = none := by unfold only; split <;> first | exact hq | rfl
                  rw [e]
        | some ob =>
          cases ob with
          | row w' xs =>
            rw [hq] at h
            simp only at h
            by_cases hl : off + len ≤ xs.length
            · rw [if_pos hl] at h
              have hqD : q ∈ D := h q List.mem_cons_self
              have e : only D H1 q = some (.row w' xs) := by unfold only; rw [if_pos (by simpa using hqD)]; exact hq
              rw [e]
              simp only [if_pos hl]
              rw [hall _ fun p hp => h p (List.mem_cons_of_mem _ hp)]
            · have e : only D H1 q = none ∨ only D H1 q = some (.row w' xs) := by rw [← hq]; unfold only; split <;> simp
              rcases e with e | e <;> rw [e] <;> simp only [if_neg hl]
          | _ =>
            have e : only D H1 q = none ∨ only D H1 q = H1 q := by unfold only; split <;> simp
            rcases e with e | e <;> rw [e] <;> first | rfl | (rw [hq])
      · simp only [if_neg hu]
    | agg cs => simp only [freeze, reach] at h ⊢; rw [hall cs h]
    | tup vs => simp only [freeze, reach] at h ⊢; rw [hall vs h]
    | _ => simp only [freeze]
theorem reach_known (h : R B G H W) : ∀ (n : Nat) (x : AVal), (∃ v, VR G x v) → ∀ q ∈ reach ν H n x, ∃ l, G.mu q = some l := by
  intro n
  induction n using Nat.strongRecOn with
  | _ n ih =>
    intro x hx q hq
    cases n with
    | zero => simp [reach] at hq
    | succ n =>
      obtain ⟨v, hv⟩ := hx
      cases hv with
      | @slc p w off len cap a l hp hw hcap hlc ha =>
        simp only [reach] at hq
        split at hq
        · split at hq
          · rename_i w' xs hH
            split at hq
            · rcases List.mem_cons.1 hq with e | hq
              · exact ⟨l, by rw [e]; exact hp⟩
              · obtain ⟨t, ht, hq⟩ := List.mem_flatten.1 hq
                obtain ⟨y, hy, rfl⟩ := List.mem_map.1 ht
                obtain ⟨hw2, cur, T', r1, r2, r3, r4, r5, r6⟩ := h.ob p l _ hp hH
                have hyx : y ∈ xs := List.mem_of_mem_drop (List.mem_of_mem_take hy)
                have hcell : ∀ c ∈ y.cells, ∃ v, VR G c v := fun c hc => by
                  have hcf : c ∈ flat xs := List.mem_flatMap.2 ⟨y, hyx, hc⟩
                  obtain ⟨k, hk⟩ := List.getElem?_of_mem hcf
                  have hkl := (List.getElem?_eq_some_iff.1 hk).1
                  have hlt : k < (cur.toList.take (xs.length * w')).length := by rw [← r6.1]; exact hkl
                  exact ⟨_, r6.2 k c _ hk (List.getElem?_eq_getElem hlt)⟩
                by_cases hag : ∃ cs, y = .agg cs
                · obtain ⟨cs, rfl⟩ := hag
                  cases n with
                  | zero => simp [reach] at hq
                  | succ n =>
                    simp only [reach] at hq
                    obtain ⟨t, ht, hq⟩ := List.mem_flatten.1 hq
                    obtain ⟨c, hc, rfl⟩ := List.mem_map.1 ht
                    exact ih n (by omega) c (hcell c hc) q hq
                · have hye : y.cells = [y] := by cases y <;> first | rfl | exact absurd ⟨_, rfl⟩ hag
                  exact ih n (by omega) y (hcell y (by rw [hye]; simp)) q hq
            · simp at hq
          · simp at hq
        · simp at hq
      | agg h0 h1 h2 =>
        simp only [reach] at hq
        obtain ⟨t, ht, hq⟩ := List.mem_flatten.1 hq
        obtain ⟨c, hc, rfl⟩ := List.mem_map.1 ht
        obtain ⟨k, hk⟩ := List.getElem?_of_mem hc
        have hkl := (List.getElem?_eq_some_iff.1 hk).1
        exact ih n (by omega) c ⟨_, h2 k c _ hk (List.getElem?_eq_getElem (by rw [← h1]; exact hkl))⟩ q hq
      | tup h1 h2 =>
        simp only [reach] at hq
        obtain ⟨t, ht, hq⟩ := List.mem_flatten.1 hq
        obtain ⟨c, hc, rfl⟩ := List.mem_map.1 ht
        obtain ⟨k, hk⟩ := List.getElem?_of_mem hc
        have hkl := (List.getElem?_eq_some_iff.1 hk).1
        exact ih n (by omega) c ⟨_, h2 k c _ hk (List.getElem?_eq_getElem (by rw [← h1]; exact hkl))⟩ q hq
      | any => simp [reach] at hq
      | _ => simp [reach] at hq
theorem cast_post2 (h : R B G H W) (hf : Fresh ν G H) {v : AVal} {v' : Value} {n : Nat} (hv : VR G' v v') (hr : R B G' H1 W') (hs : St ν G G' H H1 W W') :
    ∃ G2, VR G2 (freeze [] H1 n v) v' ∧ R B G2 (lose (reach [] H1 n v) H1) W' ∧ St ν G G2 H (lose (reach [] H1 n v) H1) W W' ∧ G2.mu = G'.mu := by
  have hD := reach_known (ν := []) hr n v ⟨_, hv⟩
  rw [← freeze_only (D := reach [] H1 n v) n v fun q hq => hq]
  generalize reach [] H1 n v = D at hD
  have hlo : ∀ q ob, lose D H1 q = some ob → q ∉ D ∧ H1 q = some ob := fun q ob e => by
    unfold lose at e
    split at e
    · cases e
    · rename_i hq; exact ⟨by simpa using hq, e⟩
  have hon : ∀ q ob, only D H1 q = some ob → q ∈ D ∧ H1 q = some ob := fun q ob e => by
    unfold only at e
    split at e
    · rename_i hq; exact ⟨by simpa using hq, e⟩
    · cases e
  have hlu : ∀ q, q ∉ D → lose D H1 q = H1 q := fun q e => by
    unfold lose
    rw [if_neg (by simpa using e)]
  have hr2 : R B G' (lose D H1) W' := hr.sub fun q ob e => (hlo q ob e).2
  have hr3 : R B G' (only D H1) W' := hr.sub fun q ob e => (hon q ob e).2
  have hold : ∀ b o v, G'.F b o = some v → promised [] G' (only D H1) W' b o = some v := fun b o v e => promised_old hr3 e
  have hnew : ∀ b o v, promised [] G' (only D H1) W' b o = some v → G'.F b o = some v ∨ (W'.cell? ⟨b, o, none⟩ = some v ∧ ¬ Ow G' (lose D H1) W' b ∧ Ow G' H1 W' b) := by
    intro b o v e
    unfold promised at e
    split at e
    · rename_i hex
      obtain ⟨q, l, w, xs, hu, hq, hH, rfl, ho⟩ := hex
      obtain ⟨hqD, hH⟩ := hon _ _ hH
      refine .inr ⟨e, ?_, q, l, _, hq, hH, .inl Z⟩
      rintro ⟨q2, l2, ob2, hq2, hH2, hk⟩
      obtain ⟨hu2, hH3⟩ := hlo q2 ob2 hH2
      have := hr.dj q q2 l l2 _ ob2 l.b hq hH hq2 hH3 (.inl rfl) hk
      subst this
      exact hu2 hqD
    · exact .inl e
  obtain ⟨p1, p2⟩ := hr2.promise (promised [] G' (only D H1) W') hold (fun b o v e => (hnew b o v e).imp id fun x => ⟨x.1, x.2.1⟩)
  refine ⟨⟨G'.mu, promised [] G' (only D H1) W'⟩, ?_, p1, ?_, Z⟩
  · refine freeze_sound hr3 _ p2 (fun q l w xs hu hq hH cur T hc o u ho hu' => ?_) n v v' hv
    exact promised_row hr3 hu hq hH ho hc hu'
  · refine ⟨hs.le.trans p2, hs.mu', fun b o v e => ?_, fun q e e' => ?_, hs.sz, hs.fr, fun b ⟨q, l, ob, h1, h2, h3⟩ => hs.ow b ⟨q, l, ob, h1, (hlo q ob h2).2, h3⟩, hs.sm, fun q e e' => ?_⟩
    · rcases hnew b o v e with e | e
      · exact hs.F' b o v e
      · exact .inr (hs.ow b e.2.2)
    · by_cases hq : q ∈ D
      · unfold lose; rw [if_pos (by simpa using hq)]
      · rw [hlu q hq]; exact hs.hp q e e'
    · rw [hlu q fun hq => by
        obtain ⟨l, hl⟩ := hD q hq
        rw [hs.mu' q e, e'] at hl; cases hl]
      exact hs.un q e e'
theorem cast_post (h : R B G H W) (hf : Fresh ν G H) {v : AVal} {v' : Value} {n : Nat} (hv : VR G' v v') (hr : R B G' H1 W') (hs : St ν G G' H H1 W W') :
    ∃ G2, VR G2 (freeze [] H1 n v) v' ∧ R B G2 (lose (reach [] H1 n v) H1) W' ∧ St ν G G2 H (lose (reach [] H1 n v) H1) W W' :=
  let ⟨G2, k1, k2, k3, _⟩ := cast_post2 h hf hv hr hs; ⟨G2, k1, k2, k3⟩
theorem scalar_VR {v : AVal} {v' : Value} (h : VR G v v') (hs : scalar v = true) : VR G' v v' := by
  cases h <;> first | (cases hs; done) | constructor
theorem scalars_VR {v : AVal} {v' : Value} (h : VR G v v') (hs : scalars v = true) : VR G' v v' := by
  cases h with
  | tup h1 h2 =>
    simp only [scalars, List.all_eq_true] at hs
    exact .tup h1 fun i x v hx hv => scalar_VR (h2 i x v hx hv) (hs x (List.mem_of_getElem? hx))
  | bool => exact .bool _
  | int => exact .int _ _
  | str => exact .str _
  | any => exact .any
  | _ => cases hs
theorem give_pre (h : R B G H W) (hf : Fresh ν G H) {args : List AVal} {args' : Array Value} (ha : L2 (VR G) args args'.toList) :
    ∃ G1, L2 (VR G1) (args.map (freeze [] H 8)) args'.toList ∧ R B G1 (lose (reach [] H 9 (.tup args)) H) W ∧ St ν G G1 H (lose (reach [] H 9 (.tup args)) H) W W ∧ Fresh ν G1 (lose (reach [] H 9 (.tup args)) H) := by
  have ht : VR G (.tup args) (.tuple args') := .tup ha.1 ha.2
  obtain ⟨G1, k1, k2, k3, k4⟩ := cast_post2 (n := 9) h hf ht h (St.refl ν G H W)
  have k1 : VR G1 (.tup (args.map (freeze [] H 8))) (.tuple args') := k1
  refine ⟨G1, by generalize args.map (freeze [] H 8) = l at k1; cases k1 with | tup a b => exact ⟨a, b⟩, k2, k3, fun q hq => ⟨?_, ?_⟩⟩
  · rw [k4]; exact (hf q hq).1
  · unfold lose; split
    · rfl
    · exact (hf q hq).2
theorem acall_sound (hc : COK B P c) {rec : RecA} (hrec : ExOK B P c rec) {f : FuncId} {args : List AVal} {args' : Array Value} {v : AVal} (hl : acall c rec ν f args H = some (v, H1)) (h : R B G H W) (hf : Fresh ν G H) (ha : L2 (VR G) args args'.toList) :
    (∃ fn, P.funcs[f]? = some fn ∧ fn.body.isSome = true ∧ fn.name ≠ "runtime.NumGoroutine") ∧ Calls P f args' W (CPost B ν G H H1 W v) := by
  unfold acall at hl
  cases hg : c.given f with
  | some g =>
    rw [hg] at hl
    obtain ⟨h1, h2⟩ := hc.given f g hg
    exact ⟨h1, h2 args H v H1 hl ν G W args' h hf ha⟩
  | none =>
    rw [hg] at hl
    simp only at hl
    cases hfi : c.fn f with
    | none => rw [hfi] at hl; cases hl
    | some fi =>
      rw [hfi] at hl
      simp only at hl
      obtain ⟨fn, f1, f2, f3, f4, f5, f6⟩ := hc.fn f fi hfi
      refine ⟨⟨fn, f1, by rw [f2]; rfl, f6⟩, ?_⟩
      cases hm : fi.mode with
      | pure =>
        rw [hm] at hl
        simp only at hl
        cases hrun : runF c.T rec fi ν args (fun _ => none) with
        | none => rw [hrun] at hl; cases hl
        | some r =>
          obtain ⟨u, H2⟩ := r
          rw [hrun] at hl
          obtain ⟨rfl, rfl⟩ := Prod.mk.inj (Option.some.inj hl)
          have h0 := empty_R h
          have hf0 : Fresh ν G (fun _ => none) := fun q hq => ⟨(hf q hq).1, rfl⟩
          refine (runF_sound hc hrec hfi hrun h0 hf0 ha).mono ?_
          rintro e w' ⟨v', G', rfl, g1, g2, g3⟩
          obtain ⟨G2, k1, k2, k3⟩ := frozen_post (n := 8) h0 hf0 g1 g2 g3
          obtain ⟨s1, s2⟩ := h.restore hf k3.le k3.mu' (fun b o v e => by
            rcases k3.F' b o v e with e | e | e
            · exact .inl e
            · exact .inr e
            · exact absurd e (no_own b)) k2.f k3.sz (fun b hb => k3.fr b hb (no_own b)) k3.sm
          exact ⟨v', G2, rfl, k1, s1, s2⟩
      | look =>
        rw [hm] at hl
        simp only at hl
        cases hrun : runF c.T rec fi ν (args.map (lookA H)) (fun _ => none) with
        | none => rw [hrun] at hl; cases hl
        | some r =>
          obtain ⟨u, H2⟩ := r
          rw [hrun] at hl
          simp only at hl
          split at hl
          · rename_i hsc
            obtain ⟨rfl, rfl⟩ := Prod.mk.inj (Option.some.inj hl)
            have h0 := empty_R h
            obtain ⟨p1, p2⟩ := h0.promise (promised [] G H W) (fun b o v e => promised_old h e) (fun b o v e => by
              unfold promised at e
              split at e
              · exact .inr ⟨e, no_own b⟩
              · exact .inl e)
            have hf0 : Fresh ν ⟨G.mu, promised [] G H W⟩ (fun _ => none) := fun q hq => ⟨(hf q hq).1, rfl⟩
            have ha2 : L2 (VR ⟨G.mu, promised [] G H W⟩) (args.map (lookA H)) args'.toList := ha.map fun x v hv =>
              lookA_sound h _ p2 (fun q l w xs hu hq hH cur T hcur o u ho hu' => promised_row h hu hq hH ho hcur hu') x v hv
            refine (runF_sound hc hrec hfi hrun p1 hf0 ha2).mono ?_
            rintro e w' ⟨v', G', rfl, g1, g2, g3⟩
            have hb : ∀ b, b < W.heap.size → w'.heap[b]? = W.heap[b]? := fun b hb => g3.fr b hb (no_own b)
            obtain ⟨s1, s2⟩ := h.restore (G' := ⟨G'.mu, G.F⟩) hf ⟨g3.le.mu, fun _ _ _ e => e⟩ g3.mu' (fun b o v e => .inl e) (fun b o v e => by
              rw [cell_block (hb b (h.flt e))]; exact h.f b o v e) g3.sz hb g3.sm
            exact ⟨v', _, rfl, scalars_VR g1 hsc, s1, s2⟩
          · cases hl
      | borrow =>
        rw [hm] at hl
        simp only at hl
        cases hrun : runF c.T rec fi ν (args.map (freeze [] H 8)) (fun _ => none) with
        | none => rw [hrun] at hl; cases hl
        | some r =>
          obtain ⟨u, H2⟩ := r
          rw [hrun] at hl
          simp only at hl
          split at hl
          · rename_i hsc
            obtain ⟨rfl, rfl⟩ := Prod.mk.inj (Option.some.inj hl)
            have h0 := empty_R h
            obtain ⟨p1, p2⟩ := h0.promise (promised [] G H W) (fun b o v e => promised_old h e) (fun b o v e => by
              unfold promised at e
              split at e
              · exact .inr ⟨e, no_own b⟩
              · exact .inl e)
            have hf0 : Fresh ν ⟨G.mu, promised [] G H W⟩ (fun _ => none) := fun q hq => ⟨(hf q hq).1, rfl⟩
            have ha2 : L2 (VR ⟨G.mu, promised [] G H W⟩) (args.map (freeze [] H 8)) args'.toList := ha.map fun x v hv =>
              freeze_sound h _ p2 (fun q l w xs hu hq hH cur T hcur o u ho hu' => promised_row h hu hq hH ho hcur hu') 8 x v hv
            refine (runF_sound hc hrec hfi hrun p1 hf0 ha2).mono ?_
            rintro e w' ⟨v', G', rfl, g1, g2, g3⟩
            have hb : ∀ b, b < W.heap.size → w'.heap[b]? = W.heap[b]? := fun b hb => g3.fr b hb (no_own b)
            obtain ⟨s1, s2⟩ := h.restore (G' := ⟨G'.mu, G.F⟩) hf ⟨g3.le.mu, fun _ _ _ e => e⟩ g3.mu' (fun b o v e => .inl e) (fun b o v e => by
              rw [cell_block (hb b (h.flt e))]; exact h.f b o v e) g3.sz hb g3.sm
            exact ⟨v', _, rfl, scalars_VR g1 hsc, s1, s2⟩
          · cases hl
      | full =>
        rw [hm] at hl
        simp only at hl
        cases hrun : runF c.T rec fi ν args H with
        | none => rw [hrun] at hl; cases hl
        | some r =>
          obtain ⟨u, H2⟩ := r
          rw [hrun] at hl
          obtain ⟨rfl, rfl⟩ := Prod.mk.inj (Option.some.inj hl)
          refine (runF_sound hc hrec hfi hrun h hf ha).mono ?_
          rintro e w' ⟨v', G', rfl, g1, g2, g3⟩
          obtain ⟨G2, k1, k2, k3⟩ := frozen_post (n := 8) h hf g1 g2 g3
          exact ⟨v', G2, rfl, k1, k2, k3⟩
      | keep =>
        rw [hm] at hl
        exact runF_sound hc hrec hfi hl h hf ha
      | cast =>
        rw [hm] at hl
        simp only at hl
        cases hrun : runF c.T rec fi ν args H with
        | none => rw [hrun] at hl; cases hl
        | some r =>
          obtain ⟨u, H2⟩ := r
          rw [hrun] at hl
          obtain ⟨rfl, rfl⟩ := Prod.mk.inj (Option.some.inj hl)
          refine (runF_sound hc hrec hfi hrun h hf ha).mono ?_
          rintro e w' ⟨v', G', rfl, g1, g2, g3⟩
          obtain ⟨G2, k1, k2, k3⟩ := cast_post (n := 8) h hf g1 g2 g3
          exact ⟨v', G2, rfl, k1, k2, k3⟩
      | give =>
        rw [hm] at hl
        obtain ⟨G1, j1, j2, j3, j4⟩ := give_pre h hf ha
        refine (runF_sound hc hrec hfi hl j2 j4 j1).mono ?_
        rintro e w' ⟨v', G', rfl, g1, g2, g3⟩
        exact ⟨v', G', rfl, g1, g2, j3.trans g3⟩
      | giveC =>
        rw [hm] at hl
        simp only at hl
        obtain ⟨G1, j1, j2, j3, j4⟩ := give_pre h hf ha
        cases hrun : runF c.T rec fi ν (args.map (freeze [] H 8)) (lose (reach [] H 9 (.tup args)) H) with
        | none => rw [hrun] at hl; cases hl
        | some r =>
          obtain ⟨u, H2⟩ := r
          rw [hrun] at hl
          obtain ⟨rfl, rfl⟩ := Prod.mk.inj (Option.some.inj hl)
          refine (runF_sound hc hrec hfi hrun j2 j4 j1).mono ?_
          rintro e w' ⟨v', G', rfl, g1, g2, g3⟩
          obtain ⟨G2, k1, k2, k3⟩ := cast_post (n := 8) j2 j4 g1 g2 g3
          exact ⟨v', G2, rfl, k1, k2, j3.trans k3⟩
      | clone =>
        rw [hm] at hl
        simp only at hl
        split at hl
        · rename_i hnone
          have h0 := empty_R h
          have hf0 : Fresh ν G (fun _ => none) := fun q hq => ⟨(hf q hq).1, rfl⟩
          cases hr1 : runF c.T rec fi ν [.nls] (fun _ => none) with
          | none => rw [hr1] at hl; cases hl
          | some r1 =>
            cases hr2 : runF c.T rec fi ν [.nne] (fun _ => none) with
            | none => rw [hr1, hr2] at hl; cases hl
            | some r2 =>
              obtain ⟨a1, H2⟩ := r1
              obtain ⟨a2, H3⟩ := r2
              rw [hr1, hr2] at hl
              simp only [Bool.and_eq_true] at hl
              split at hl
              · rename_i hemp
                obtain ⟨rfl, rfl⟩ := Prod.mk.inj (Option.some.inj hl)
                have isE : ∀ {G' : Gh} {a : AVal} {v' : Value}, VR G' a v' → isEmp a = true → VR G' .emp v' := by
                  intro G' a v' hv he
                  cases hv <;> first | exact .emp | (cases he; done)
                have fin : ∀ (a : AVal) (H4 : Heap) (x : AVal), runF c.T rec fi ν [x] (fun _ => none) = some (a, H4) → isEmp a = true → L2 (VR G) [x] args'.toList → Calls P f args' W (CPost B ν G H H W .emp) := by
                  intro a H4 x hrun he hx
                  refine (runF_sound hc hrec hfi hrun h0 hf0 hx).mono ?_
                  rintro e w' ⟨v', G', rfl, g1, g2, g3⟩
                  obtain ⟨s1, s2⟩ := h.restore hf g3.le g3.mu' (fun b o v e => by
                    rcases g3.F' b o v e with e | e | e
                    · exact .inl e
                    · exact .inr e
                    · exact absurd e (no_own b)) g2.f g3.sz (fun b hb => g3.fr b hb (no_own b)) g3.sm
                  exact ⟨v', G', rfl, isE g1 he, s1, s2⟩
                have two : ∃ v', args'.toList = [v'] ∧ (VR G .nls v' ∨ VR G .nne v') := by
                  unfold noneIn at hnone
                  split at hnone
                  · obtain ⟨v', e1, e2⟩ := L2_one ha rfl
                    refine ⟨v', e1, ?_⟩
                    cases e2 with
                    | @emp a => cases a <;> first | exact .inl .nls | exact .inr .nne
                  · obtain ⟨v', e1, e2⟩ := L2_one ha rfl
                    refine ⟨v', e1, ?_⟩
                    cases e2 with
                    | @lst0 a c hac =>
                      cases a with
                      | none => obtain rfl := hac rfl; exact .inl .nls
                      | some a => exact .inr .nne
                    | lst cv n0 => exact absurd rfl n0
                  · cases hnone
                obtain ⟨v', e1, e2 | e2⟩ := two
                · exact fin _ _ _ hr1 hemp.1 (by rw [e1]; exact L2.cons e2 L2.nil)
                · exact fin _ _ _ hr2 hemp.2 (by rw [e1]; exact L2.cons e2 L2.nil)
              · cases hl
        · exact runF_sound hc hrec hfi hl h hf ha
def Then (B : BT) (ν : Nm) (G : Gh) (H H1 : Heap) (W : World) (o : Oper) (a : Act) (v : AVal) (K : Act → World → Prop) : Prop :=
  ∀ v' W' G', VR G' v v' → R B G' H1 W' → St ν G G' H H1 W W' → K (a.put o.dst v') W'
theorem run_callFunc {g : FuncId} {args : Array Value} (h : ∃ fn, P.funcs[g]? = some fn ∧ fn.body.isSome = true ∧ fn.name ≠ "runtime.NumGoroutine") : (callFunc g args).run P W = .ok (.enter g args) W := by
  obtain ⟨fn, h1, h2, h3⟩ := h
  unfold callFunc
  simp only [Sem.run_bind, run_program, Result.andThen_ok, h1]
  have e1 : (fn.name == "runtime.NumGoroutine") = false := by simpa using h3
  have e2 : fn.body.isNone = false := by cases hb : fn.body <;> rw [hb] at h2 <;> first | rfl | cases h2
  simp only [e1, e2, Bool.false_eq_true, if_false]
  rfl
theorem oper_sound (hc : COK B P c) {rec : RecA} (hrec : ExOK B P c rec) {e : Env} {a : Act} {o : Oper} {v : AVal} {K : Act → World → Prop} {Q : Exit → Act → World → Prop} (hl : aoper c rec ν e H o = some (v, H1)) (hops : Evs G e a o.op.operands) (h : R B G H W) (hf : Fresh ν G H)
    (hk : Then B ν G H H1 W o a v K) : o.wp P a W K Q := by
  unfold aoper at hl
  split at hl
  · rename_i hcall
    obtain ⟨dst, op, type, pos, after, guard⟩ := o
    simp only at hl hops hcall
    cases hco : callOf c e H ⟨dst, op, type, pos, after, guard⟩ with
    | none => rw [hco] at hl; cases hl
    | some fa =>
      obtain ⟨f, args⟩ := fa
      rw [hco] at hl
      simp only at hl
      cases op <;> try (cases hcall; done)
      rename_i k
      unfold callOf at hco
      simp only at hco
      have fin : ∀ args' : Array Value, L2 (VR G) args args'.toList → ((∃ fn, P.funcs[f]? = some fn ∧ fn.body.isSome = true ∧ fn.name ≠ "runtime.NumGoroutine") → (execOp a.eval ⟨dst, .call k, type, pos, after, guard⟩).run P W = .ok (.enter f args') W) → Oper.wp P ⟨dst, .call k, type, pos, after, guard⟩ a W K Q := by
        intro args' ha hex
        obtain ⟨h1, h2⟩ := acall_sound hc hrec hl h hf ha
        unfold Oper.wp
        rw [hex h1, Oper.upon_enter]
        refine h2.mono ?_
        rintro e w' ⟨v', G', rfl, g1, g2, g3⟩
        exact hk v' w' G' g1 g2 g3
      cases hcal : k.callee with
      | builtin b => rw [hcal] at hco; cases hco
      | value fo =>
        rw [hcal] at hco
        simp only at hco
        cases hfo : ev e fo with
        | none => rw [hfo] at hco; cases hco
        | some u =>
          rw [hfo] at hco
          have hv := hops fo (by simp [Op.operands, Call.operands, hcal]) u hfo
          cases u <;> try (cases hco; done)
          · rename_i g cap
            cases hargs : evs e k.args.toList with
            | none => rw [hargs] at hco; cases hco
            | some us =>
              rw [hargs] at hco
              obtain ⟨rfl, rfl⟩ := Prod.mk.inj (Option.some.inj hco)
              have h2 := evs_sound (G := G) (a := a) k.args.toList us hargs (fun x hx u hu => hops x (by simp [Op.operands, Call.operands, hcal]; right; simpa using hx) u hu)
              cases hv' : a.eval fo <;> rw [hv'] at hv <;> cases hv
              rename_i vs hl1 hl2
              refine fin (k.args.map a.eval ++ vs) (by rw [Array.toList_append, Array.toList_map]; exact h2.append ⟨hl1, hl2⟩) (fun hfn => ?_)
              simp only [execOp, resolve, hcal, Sem.run_bind, Deferred.ofValue, hv', Sem.run_pure, Result.andThen_ok, invoke, Array.empty_append]
              exact run_callFunc hfn
          · rename_i g fs
            cases hargs : evs e k.args.toList with
            | none => rw [hargs] at hco; cases hco
            | some us =>
              rw [hargs] at hco
              obtain ⟨rfl, rfl⟩ := Prod.mk.inj (Option.some.inj hco)
              have h2 := evs_sound (G := G) (a := a) k.args.toList us hargs (fun x hx u hu => hops x (by simp [Op.operands, Call.operands, hcal]; right; simpa using hx) u hu)
              cases hv' : a.eval fo <;> rw [hv'] at hv <;> cases hv
              rename_i vs hl1 hl2
              refine fin (vs ++ k.args.map a.eval) (by rw [Array.toList_append, Array.toList_map]; exact L2.append ⟨hl1, hl2⟩ h2) (fun hfn => ?_)
              simp only [execOp, resolve, hcal, Sem.run_bind, Deferred.ofValue, hv', Sem.run_pure, Result.andThen_ok, invoke, Array.append_empty]
              exact run_callFunc hfn
      | invoke xo m =>
        rw [hcal] at hco
        simp only at hco
        cases hxo : ev e xo with
        | none => rw [hxo] at hco; cases hco
        | some u =>
          rw [hxo] at hco
          have hv := hops xo (by simp [Op.operands, Call.operands, hcal]) u hxo
          cases u <;> try (cases hco; done)
          rename_i t x
          cases hargs : evs e k.args.toList with
          | none => rw [hargs] at hco; cases hco
          | some us =>
            rw [hargs] at hco
            simp only at hco
            cases hm : c.meth t m with
            | none => rw [hm] at hco; cases hco
            | some gd =>
              obtain ⟨g, d⟩ := gd
              rw [hm] at hco
              have h2 := evs_sound (G := G) (a := a) k.args.toList us hargs (fun x hx u hu => hops x (by simp [Op.operands, Call.operands, hcal]; right; simpa using hx) u hu)
              cases hv' : a.eval xo <;> rw [hv'] at hv <;> cases hv
              rename_i x' hx'
              have key : ∀ (y : AVal) (y' : Value), (f, args) = (g, y :: us) → VR G y y' → Handed P W d x' y' → Oper.wp P ⟨dst, .call k, type, pos, after, guard⟩ a W K Q := by
                intro y y' he hy' hd
                obtain ⟨rfl, rfl⟩ := Prod.mk.inj he
                refine fin (#[y'] ++ k.args.map a.eval) (by
                  rw [Array.toList_append, Array.toList_map]
                  exact L2.cons hy' h2) (fun hfn => ?_)
                have hmr := (hc.meth t m _ _ hm).2 x' W y' hd
                have e1 : (#[Value.iface t x'] ++ k.args.map a.eval)[0]? = some (.iface t x') := by
                  rw [Array.getElem?_append_left (by simp)]; rfl
                have e2 : (#[Value.iface t x'] ++ k.args.map a.eval).extract 1 (#[Value.iface t x'] ++ k.args.map a.eval).size = k.args.map a.eval := by
                  apply Array.ext'; simp [List.take_of_length_le]
                simp only [execOp, resolve, hcal, hv', Sem.run_bind, Sem.run_pure, Result.andThen_ok, invoke, e1, e2, callMethod, run_program, hmr]
                exact run_callFunc hfn
              cases d with
              | none =>
                simp only at hco
                exact key x x' (Option.some.inj hco).symm hx' rfl
              | some el =>
                simp only at hco
                cases hld : aLoad c.T H el x with
                | none => rw [hld] at hco; cases hco
                | some y =>
                  rw [hld] at hco
                  obtain ⟨y', q1, q2⟩ := load_sound hc.T h hld hx'
                  exact key y y' (Option.some.inj hco).symm q2 q1
  · obtain ⟨v', W', G', g1, g2, g3, g4⟩ := aop_sound hc.T h hf hl hops
    unfold Oper.wp
    rcases g1 with g1 | ⟨g1, rfl⟩
    · rw [g1, Oper.upon_value]; exact hk v' W' G' g2 g3 g4
    · rw [g1, Oper.upon_skip]; exact hk _ W' G' g2 g3 g4
end Go.Proofs.YtfkgdlfponfimaaGreat.X
