import Derived.Test.YtfkgdlfponfimaaGreatU14
/- Results as plain lists: freezing. -/
namespace Go.Proofs.YtfkgdlfponfimaaGreat.X
open Go Go.RowKit
variable {B : BT} {P : Program} {ν : Nm} {G G' : Gh} {H H1 : Heap} {W W' : World}
noncomputable def promised (ν : Nm) (G : Gh) (H : Heap) (W : World) : Nat → Nat → Option Value := fun b o =>
  open Classical in
  if (∃ q l w xs, under ν q = true ∧ G.mu q = some l ∧ H q = some (.row w xs) ∧ l.b = b ∧ o < xs.length * w) then W.cell? ⟨b, o, none⟩ else G.F b o
theorem promised_old (h : R B G H W) {b o : Nat} {v : Value} (hf : G.F b o = some v) : promised ν G H W b o = some v := by
  unfold promised
  split
  · exact h.f b o v hf
  · exact hf
theorem promised_row (h : R B G H W) {q : Nm} {l : Loc} {w : Nat} {xs : List AVal} (hu : under ν q = true) (hq : G.mu q = some l) (hH : H q = some (.row w xs)) {o : Nat} (ho : o < xs.length * w) {cur : Array Value} {T : TypeId} (hc : W.heap[l.b]? = some (.cells cur T (0, 0))) {v : Value} (hv : cur.toList[o]? = some v) : promised ν G H W l.b o = some v := by
  unfold promised
  rw [if_pos ⟨q, l, w, xs, hu, hq, hH, rfl, ho⟩, cell_of_row W l.b o cur T (0, 0) hc]
  simpa using hv
theorem freeze_one (ν : Nm) (H : Heap) (n : Nat) (c : AVal) : (freeze ν H n c).one = c.one := by
  cases n with
  | zero => rfl
  | succ n =>
    cases c <;> simp only [freeze] <;> try rfl
    split
    · split
      · split <;> rfl
      · rfl
    · rfl
theorem freeze_cells (ν : Nm) (H : Heap) (n : Nat) (x : AVal) (h0 : ∀ c ∈ x.cells, c.one = true) : ∃ m, m ≤ n ∧ (freeze ν H n x).cells = x.cells.map (freeze ν H m) := by
  by_cases hx : ∃ cs, x = .agg cs
  · obtain ⟨cs, rfl⟩ := hx
    cases n with
    | zero => exact ⟨0, Nat.le_refl _, by simp [freeze, AVal.cells]⟩
    | succ n => exact ⟨n, by omega, rfl⟩
  · have hxe : x.cells = [x] := by cases x <;> first | rfl | exact absurd ⟨_, rfl⟩ hx
    refine ⟨n, Nat.le_refl _, ?_⟩
    have h1 := h0 x (by rw [hxe]; simp)
    rw [hxe]
    have : (freeze ν H n x).one = true := by rw [freeze_one]; exact h1
    cases hf : freeze ν H n x <;> rw [hf] at this <;> first | (simp [AVal.cells, hf]; done) | (simp [AVal.one] at this)
theorem freeze_sound (h : R B G H W) (G2 : Gh) (hle : Gle G G2) (hpr : ∀ q l w xs, under ν q = true → G.mu q = some l → H q = some (.row w xs) → ∀ cur T, W.heap[l.b]? = some (.cells cur T (0, 0)) → ∀ o v, o < xs.length * w → cur.toList[o]? = some v → G2.F l.b o = some v) :
    ∀ (n : Nat) (x : AVal) (v : Value), VR G x v → VR G2 (freeze ν H n x) v := by
  intro n
  induction n using Nat.strongRecOn with
  | _ n ih =>
    intro x v hv
    cases n with
    | zero => exact hv.mono hle
    | succ n =>
      cases hv with
      | emp => exact .lst0 (fun _ => rfl)
      | @slc q w off len cap a l hq hw hcap hlc ha =>
        simp only [freeze]
        split
        · rename_i hu
          split
          · rename_i w' xs hH
            obtain ⟨hw2, cur, T', r1, r2, r3, r4, r5, r6⟩ := h.ob q l _ hq hH
            obtain rfl : w' = w := by rw [← hw2, hw]
            split
            · rename_i hle2
              have hlen : ((xs.drop off).take len).length = len := by simp; omega
              by_cases h0 : len = 0
              · subst h0
                rw [List.take_zero, List.map_nil]
                exact .lst0 (fun e => by cases e)
              · obtain ha : a = ⟨l.b, off * w', none⟩ := by
                  rcases ha with ha | ha
                  · exact ha
                  · omega
                subst ha
                have hwd : wide w' ((xs.drop off).take len) := wide_take (wide_drop r5 off) len
                have hL : L2 (VR G) (flat ((xs.drop off).take len)) (((cur.toList.take (xs.length * w')).drop (off * w')).take (len * w')) := by
                  rw [flat_take (wide_drop r5 off), flat_drop r5]
                  exact (r6.drop _).take _
                have hwd2 : wide w' (((xs.drop off).take len).map (freeze ν H n)) := by
                  intro y hy
                  obtain ⟨y', hy', rfl⟩ := List.mem_map.1 hy
                  obtain ⟨m, hm, he⟩ := freeze_cells ν H n y' (hwd y' hy').2
                  rw [he]
                  refine ⟨by rw [List.length_map]; exact (hwd y' hy').1, fun c hc => ?_⟩
                  obtain ⟨c', hc', rfl⟩ := List.mem_map.1 hc
                  rw [freeze_one]; exact (hwd y' hy').2 c' hc'
                have key : ∀ (ys : List AVal) (cv : List Value), wide w' ys → L2 (VR G) (flat ys) cv → L2 (VR G2) (flat (ys.map (freeze ν H n))) cv := by
                  intro ys
                  induction ys with
                  | nil => intro cv _ hc; exact ⟨hc.1, fun i x v hx => by simp [flat] at hx⟩
                  | cons y ys ihy =>
                    intro cv hw3 hc
                    rw [flat_cons] at hc
                    have hyl := (hw3 y List.mem_cons_self).1
                    have hc1 := hc.take w'
                    have hc2 := hc.drop w'
                    rw [List.take_append_of_le_length (by omega), List.take_of_length_le (by omega)] at hc1
                    rw [List.drop_append_of_le_length (by omega), List.drop_of_length_le (by omega), List.nil_append] at hc2
                    obtain ⟨m, hm, he⟩ := freeze_cells ν H n y (hw3 y List.mem_cons_self).2
                    rw [List.map_cons, flat_cons, he, ← List.take_append_drop w' cv]
                    exact (hc1.map (s := VR G2) (f := freeze ν H m) fun x v hv => ih m (by omega) x v hv).append (ihy _ (fun z hz => hw3 z (List.mem_cons_of_mem _ hz)) hc2)
                have hL2 := key _ _ hwd hL
                have hlen2 : (((xs.drop off).take len).map (freeze ν H n)).length = len := by rw [List.length_map]; exact hlen
                have hres := VR.lst (G := G2) (xs := ((xs.drop off).take len).map (freeze ν H n)) (b := l.b) (o := off * w') (w := w') (c := cap) _ (fun e => by rw [e] at hlen2; exact h0 hlen2.symm) hwd2 (by rw [hlen2]; exact hlc) (fun k u hk => ?_) hL2.1 hL2.2
                · rw [hlen2] at hres; exact hres
                · rw [List.getElem?_take] at hk
                  split at hk
                  · rw [List.getElem?_drop, List.getElem?_take] at hk
                    split at hk
                    · rename_i hko
                      exact hpr q l w' xs hu hq hH cur T' r1 _ u hko hk
                    · cases hk
                  · cases hk
            · exact (VR.slc hq hw hcap hlc ha).mono hle
          · exact (VR.slc hq hw hcap hlc ha).mono hle
        · exact (VR.slc hq hw hcap hlc ha).mono hle
      | agg h0 h1 h2 =>
        simp only [freeze]
        refine .agg (fun c hc => ?_) (by simpa using h1) (fun i y u hy hu => ?_)
        · obtain ⟨c', hc', rfl⟩ := List.mem_map.1 hc
          rw [freeze_one]; exact h0 c' hc'
        · rw [List.getElem?_map] at hy
          obtain ⟨y', hy', rfl⟩ := Option.map_eq_some_iff.1 hy
          exact ih n (Nat.lt_succ_self n) y' u (h2 i y' u hy' hu)
      | tup h1 h2 =>
        simp only [freeze]
        refine .tup (by simpa using h1) (fun i y u hy hu => ?_)
        rw [List.getElem?_map] at hy
        obtain ⟨y', hy', rfl⟩ := Option.map_eq_some_iff.1 hy
        exact ih n (Nat.lt_succ_self n) y' u (h2 i y' u hy' hu)
      | any => simp only [freeze, List.map_nil]; exact .any
      | bool => exact .bool _
      | int => exact .int _ _
      | str => exact .str _
      | nilp => exact .nilp
      | ptr hq => exact (VR.ptr hq).mono hle
      | ept cv h1 h2 h3 h4 => exact (VR.ept cv h1 h2 h3 h4).mono hle
      | nls => exact .lst0 (fun _ => rfl)
      | nne => exact .nne
      | lst0 h => exact .lst0 h
      | lst cv a1 a2 a3 a4 a5 a6 => exact (VR.lst cv a1 a2 a3 a4 a5 a6).mono hle
      | nilm => exact .nilm
      | map hq => exact (VR.map hq).mono hle
      | nilf => exact .nilf
      | fn a1 a2 => exact (VR.fn a1 a2).mono hle
      | bfn a1 a2 => exact (VR.bfn a1 a2).mono hle
      | nili => exact .nili
      | ifc a => exact (VR.ifc a).mono hle
theorem lookA_sound (h : R B G H W) (G2 : Gh) (hle : Gle G G2) (hpr : ∀ q l w xs, under [] q = true → G.mu q = some l → H q = some (.row w xs) → ∀ cur T, W.heap[l.b]? = some (.cells cur T (0, 0)) → ∀ o v, o < xs.length * w → cur.toList[o]? = some v → G2.F l.b o = some v) :
    ∀ (x : AVal) (v : Value), VR G x v → VR G2 (lookA H x) v := by
  intro x v hv
  have gen : VR G2 (freeze [] H 8 x) v := freeze_sound h G2 hle hpr 8 x v hv
  cases hv with
  | @ptr q i off l hq =>
    have hsame : VR G2 (.ptr q i off) (.pointer (some ⟨l.b, i * l.w + off, none⟩)) := (VR.ptr hq).mono hle
    simp only [lookA]
    split
    · rename_i w' xs hH
      split
      · rename_i x hx
        obtain ⟨hw2, cur, T', r1, r2, r3, r4, r5, r6⟩ := h.ob q l _ hq hH
        obtain rfl : w' = l.w := by rw [← hw2]
        have hi := (List.getElem?_eq_some_iff.1 hx).1
        have hxi := (List.getElem?_eq_some_iff.1 hx).2
        have hxm : x ∈ xs := by rw [← hxi]; exact List.getElem_mem hi
        have hone : (xs.drop i).take 1 = [x] := by rw [List.drop_eq_getElem_cons hi, hxi]; rfl
        have hL : L2 (VR G) (flat ((xs.drop i).take 1)) (((cur.toList.take (xs.length * l.w)).drop (i * l.w)).take (1 * l.w)) := by
          rw [flat_take (wide_drop r5 i), flat_drop r5]
          exact (r6.drop _).take _
        rw [hone, show flat [x] = x.cells by simp [flat]] at hL
        have hwx := r5 x hxm
        obtain ⟨m, hm, he⟩ := freeze_cells [] H 7 x hwx.2
        have hL2 : L2 (VR G2) ((freeze [] H 7 x).cells.drop off) ((((cur.toList.take (xs.length * l.w)).drop (i * l.w)).take (1 * l.w)).drop off) := by
          rw [he, ← List.map_drop]
          exact (hL.drop off).map (s := VR G2) (f := freeze [] H m) fun y u hu => freeze_sound h G2 hle hpr m y u hu
        refine VR.ept _ (fun c hc => ?_) (fun k u hk => ?_) hL2.1 hL2.2
        · rw [he] at hc
          obtain ⟨c', hc', rfl⟩ := List.mem_map.1 hc
          rw [freeze_one]; exact hwx.2 c' hc'
        · rw [List.getElem?_drop, List.getElem?_take] at hk
          split at hk
          · rename_i h1
            rw [List.getElem?_drop, List.getElem?_take] at hk
            split at hk
            · rename_i h2
              rw [show i * l.w + off + k = i * l.w + (off + k) by omega]
              exact hpr q l l.w xs (by simp [under]) hq hH cur T' r1 _ u h2 hk
            · cases hk
          · cases hk
      · exact hsame
    · exact hsame
  | _ => exact gen
end Go.Proofs.YtfkgdlfponfimaaGreat.X
