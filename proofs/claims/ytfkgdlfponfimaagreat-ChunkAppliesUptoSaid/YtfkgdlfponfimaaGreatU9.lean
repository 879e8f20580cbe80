import Derived.Test.YtfkgdlfponfimaaGreatU8
/- What is built; clears; conversions; maps. -/
namespace Go.Proofs.YtfkgdlfponfimaaGreat.X
open Go Go.RowKit
variable {B : BT} {P : Program} {ν : Nm} {G G' : Gh} {H H1 : Heap} {W W' : World}
theorem lay_list (vs : List Value) : ∀ (k off : Nat) (cs : Array Value), off + k + vs.length ≤ cs.size →
    ((vs.zipIdx k).foldl (fun (cs : Array Value) (p : Value × Nat) => cs.setIfInBounds (off + p.2) p.1) cs).toList = cs.toList.take (off + k) ++ vs ++ cs.toList.drop (off + k + vs.length) := by
  induction vs with
  | nil => intro k off cs _; simp
  | cons v vs ih =>
    intro k off cs hl
    simp only [List.length_cons] at hl
    simp only [List.zipIdx_cons, List.foldl_cons]
    rw [ih (k + 1) off _ (by simp; omega)]
    have e := list_seg_step cs.toList (off + k) v vs (by simp; omega)
    simpa [Array.toList_setIfInBounds, Nat.add_assoc] using e
theorem lay_array (vs : Array Value) (off : Nat) (cs : Array Value) (h : off + vs.size ≤ cs.size) :
    (vs.zipIdx.foldl (fun cs (c, j) => cs.setIfInBounds (off + j) c) cs).toList = cs.toList.take off ++ vs.toList ++ cs.toList.drop (off + vs.size) := by
  have := lay_list vs.toList 0 off cs (by simpa using h)
  simp only [Nat.add_zero, Array.length_toList] at this
  rw [← this]
  rw [← Array.foldl_toList, Array.toList_zipIdx]
def PR (G : Gh) (ps : List (Nat × AVal)) (ps' : List (Nat × Value)) : Prop := L2 (fun p p' => p.1 = p'.1 ∧ VR G p.2 p'.2 ∧ ∀ vs, p.2 ≠ .tup vs) ps ps'
theorem fill_sound {place : Nat → Option (Nat × Nat)} {pl : List (Nat × Nat)} (hpl : ∀ i p, pl[i]? = some p → place i = some p) :
    ∀ (ps : List (Nat × AVal)) (ps' : List (Nat × Value)) (cs : List AVal) (cs' : Array Value) (r : List AVal), PR G ps ps' → L2 (VR G) cs cs'.toList → (∀ c ∈ cs, c.one = true) → fillA cs pl ps = some r →
      ∃ r', Instr.fill place cs' ps' = some r' ∧ L2 (VR G) r r'.toList ∧ ∀ c ∈ r, c.one = true := by
  intro ps
  induction ps with
  | nil =>
    intro ps' cs cs' r hp hc h1 hf
    have : ps' = [] := List.eq_nil_of_length_eq_zero (by simpa using hp.1.symm)
    subst this
    simp only [fillA] at hf
    obtain rfl := Option.some.inj hf
    exact ⟨cs', rfl, hc, h1⟩
  | cons p ps ih =>
    intro ps' cs cs' r hp hc h1 hf
    obtain ⟨p', ps'', rfl⟩ : ∃ p' ps'', ps' = p' :: ps'' := by
      cases ps' with
      | nil => exact absurd hp.1 (by simp)
      | cons a b => exact ⟨a, b, rfl⟩
    obtain ⟨i, v⟩ := p
    obtain ⟨i', v'⟩ := p'
    obtain ⟨hi, hv, hn⟩ := hp.2 0 _ _ rfl rfl
    simp only at hi hv hn
    subst hi
    simp only [fillA] at hf
    cases hpi : pl[i]? with
    | none => rw [hpi] at hf; cases hf
    | some os =>
      obtain ⟨off, size⟩ := os
      rw [hpi] at hf
      simp only at hf
      split at hf
      · rename_i hb
        obtain ⟨hvl, hv1⟩ := hv.cellsOf hn
        have hvs : v'.cells.size = size := by rw [← hb.1]; simpa using hvl.1.symm
        have hcs : cs'.size = cs.length := by simpa using hc.1.symm
        have hbound : off + v'.cells.size ≤ cs'.size := by rw [hvs, hcs]; exact hb.2
        have hlay := lay_array v'.cells off cs' hbound
        obtain ⟨r', g1, g2, g3⟩ := ih ps'' (cs.take off ++ v.cells ++ cs.drop (off + size)) _ r ⟨by simpa using hp.1, fun j a b ha hb => hp.2 (j + 1) a b (by simpa using ha) (by simpa using hb)⟩ (by
          rw [hlay, hvs]
          exact ((hc.take off).append hvl).append (hc.drop _)) (fun c hc' => by
          rcases List.mem_append.1 hc' with hc' | hc'
          · rcases List.mem_append.1 hc' with hc' | hc'
            · exact h1 c (List.mem_of_mem_take hc')
            · exact hv1 c hc'
          · exact h1 c (List.mem_of_mem_drop hc')) hf
        refine ⟨r', ?_, g2, g3⟩
        simp only [Instr.fill, hpl i _ hpi]
        rw [if_neg (by simp [hvs]; omega)]
        exact g1
      · cases hf
theorem places_sound {T : TT} (hT : TTok B P T) : ∀ (fields : List Field) (pl : List (Nat × Nat)), placesOf T (fields.map fun f => (f.offset, f.type)) = some pl →
    (fields.mapM (fun f => do pure (f.offset, ← sizeOf f.type) : Field → Sem (Nat × Nat))).run P W = .ok pl W := by
  intro fields
  induction fields with
  | nil => intro pl h; simp only [List.map_nil, placesOf] at h; obtain rfl := Option.some.inj h; rfl
  | cons f fs ih =>
    intro pl h
    simp only [List.map_cons, placesOf] at h
    cases hti : T f.type with
    | none => rw [hti] at h; cases h
    | some ti =>
      rw [hti] at h
      simp only at h
      cases hr : placesOf T (fs.map fun f => (f.offset, f.type)) with
      | none => rw [hr] at h; cases h
      | some l =>
        rw [hr] at h
        obtain rfl := Option.some.inj h
        simp only [List.mapM_cons, Sem.run_bind, run_size (hT _ _ hti), Result.andThen_ok, Sem.run_pure, ih l hr]
theorem build_sound {T : TT} (hT : TTok B P T) {t : TypeId} {ps : List (Nat × AVal)} {ps' : Array (Nat × Value)} {v : AVal} (hl : aBuild T t ps = some v) (hp : PR G ps ps'.toList) :
    ∃ v', (Instr.build t ps').run P W = .ok v' W ∧ VR G v v' := by
  unfold aBuild at hl
  cases hti : T t with
  | none => rw [hti] at hl; cases hl
  | some ti =>
    rw [hti] at hl
    have ht := hT t ti hti
    obtain ⟨z, hz1, hz2⟩ := run_zero ht W
    obtain ⟨hzl, hz0⟩ := (hz2 G).cellsOf ht.zt
    simp only at hl
    cases hk : ti.k <;> rw [hk] at hl <;> try (cases hl; done)
    · rename_i n e
      simp only at hl
      cases hei : T e with
      | none => rw [hei] at hl; cases hl
      | some ei =>
        rw [hei] at hl
        simp only at hl
        cases hf : fillA ti.zero.cells ((List.range n).map fun i => (i * ei.size, ei.size)) ps with
        | none => rw [hf] at hl; cases hl
        | some cs =>
          rw [hf] at hl
          obtain rfl := Option.some.inj hl
          have hu := under_array ht hk
          obtain ⟨r', g1, g2, g3⟩ := fill_sound (place := fun i => some (i * ei.size, ei.size)) (fun i p hp => by
            rw [List.getElem?_map] at hp
            obtain ⟨j, hj, rfl⟩ := Option.map_eq_some_iff.1 hp
            rw [List.getElem?_range (by have := (List.getElem?_eq_some_iff.1 hj).1; simpa using this)] at hj
            obtain rfl := Option.some.inj hj
            rfl) ps ps'.toList _ z.cells _ hp hzl hz0 hf
          refine ⟨.agg r', ?_, VR.mkAgg g2 g3⟩
          simp only [Instr.build, Sem.run_bind, hz1, Result.andThen_ok, run_underlying hu, run_size (hT _ _ hei), g1, Sem.run_pure]
    · rename_i fs
      simp only at hl
      cases hpl : placesOf T fs with
      | none => rw [hpl] at hl; cases hl
      | some pl =>
        rw [hpl] at hl
        simp only at hl
        cases hf : fillA ti.zero.cells pl ps with
        | none => rw [hf] at hl; cases hl
        | some cs =>
          rw [hf] at hl
          obtain rfl := Option.some.inj hl
          obtain ⟨fields, hu, hm, _⟩ := under_strct ht hk
          rw [← hm] at hpl
          have hpm := places_sound (W := W) hT fields.toList pl hpl
          obtain ⟨r', g1, g2, g3⟩ := fill_sound (place := fun i => (pl.toArray)[i]?) (fun i p hp => by simpa using hp) ps ps'.toList _ z.cells _ hp hzl hz0 hf
          refine ⟨.agg r', ?_, VR.mkAgg g2 g3⟩
          have hpm' : (fields.mapM (fun f => do pure (f.offset, ← sizeOf f.type) : Field → Sem (Nat × Nat))).run P W = .ok pl.toArray W := by
            have e : fields.mapM (fun f => do pure (f.offset, ← sizeOf f.type) : Field → Sem (Nat × Nat)) = List.toArray <$> fields.toList.mapM (fun f => do pure (f.offset, ← sizeOf f.type) : Field → Sem (Nat × Nat)) := by
              rw [Array.mapM_eq_mapM_toList]
            rw [e, Sem.run_map, hpm]; rfl
          simp only [Instr.build, Sem.run_bind, hz1, Result.andThen_ok, run_underlying hu, hpm', g1, Sem.run_pure]
theorem fill_all {size : Nat} : ∀ (ps : List (Nat × AVal)) (ps' : List (Nat × Value)) (i : Nat) (pre : List AVal) (cs' : Array Value), PR G ps ps' → inOrder i ps = true → (∀ p ∈ ps, p.2.cells.length = size) → pre.length = i * size →
    L2 (VR G) pre (cs'.toList.take (i * size)) → cs'.size = (i + ps.length) * size → (∀ c ∈ pre, c.one = true) →
    ∃ r', Instr.fill (fun i => some (i * size, size)) cs' ps' = some r' ∧ L2 (VR G) (pre ++ flat (ps.map (·.2))) r'.toList ∧ ∀ c ∈ pre ++ flat (ps.map (·.2)), c.one = true := by
  intro ps
  induction ps with
  | nil =>
    intro ps' i pre cs' hp ho hs hl hL hc h1
    have : ps' = [] := List.eq_nil_of_length_eq_zero (by simpa using hp.1.symm)
    subst this
    refine ⟨cs', Z, ?_, by simpa [flat] using h1⟩
    have e : cs'.toList.take (i * size) = cs'.toList := List.take_of_length_le (by simp [hc])
    rw [e] at hL
    simpa [flat] using hL
  | cons p ps ih =>
    intro ps' i pre cs' hp ho hs hl hL hc h1
    obtain ⟨p', ps'', rfl⟩ : ∃ p' ps'', ps' = p' :: ps'' := by
      cases ps' with
      | nil => exact absurd hp.1 (by simp)
      | cons a b => exact ⟨a, b, rfl⟩
    obtain ⟨j, v⟩ := p
    obtain ⟨j', v'⟩ := p'
    obtain ⟨hj, hv, hn⟩ := hp.2 0 _ _ rfl rfl
    simp only at hj hv hn
    subst hj
    simp only [inOrder, Bool.and_eq_true, beq_iff_eq] at ho
    obtain ⟨rfl, ho⟩ := ho
    have hvs := hs _ List.mem_cons_self
    simp only at hvs
    obtain ⟨hvl, hv1⟩ := hv.cellsOf hn
    have hvs' : v'.cells.size = size := by rw [← hvs]; simpa using hvl.1.symm
    simp only [List.length_cons] at hc
    have e1 : (i + (ps.length + 1)) * size = i * size + size + ps.length * size := by rw [Nat.add_mul, Nat.add_mul]; omega
    have hb : i * size + v'.cells.size ≤ cs'.size := by rw [hc, hvs', e1]; omega
    have hlay := lay_array v'.cells (i * size) cs' hb
    have e2 : (i + 1) * size = i * size + size := by rw [Nat.add_mul]; omega
    obtain ⟨r', g1, g2, g3⟩ := ih ps'' (i + 1) (pre ++ v.cells) _ ⟨by simpa using hp.1, fun j a b ha hb => hp.2 (j + 1) a b (by simpa using ha) (by simpa using hb)⟩ ho (fun p hp => hs p (List.mem_cons_of_mem _ hp)) (by rw [List.length_append, hl, hvs, e2]) (by
      rw [hlay, e2]
      have a1 : (cs'.toList.take (i * size)).length = i * size := by rw [List.length_take]; simp; omega
      rw [List.take_append_of_le_length (by rw [List.length_append, a1]; simp; omega), List.take_of_length_le (by rw [List.length_append, a1]; simp; omega)]
      exact hL.append hvl) (by
      have := congrArg List.length hlay
      simp only [Array.length_toList, List.length_append, List.length_take, List.length_drop] at this
      rw [this, hc, e1]
      have : (i + 1 + ps.length) * size = i * size + size + ps.length * size := by rw [Nat.add_mul, Nat.add_mul]; omega
      omega) (fun c hc' => (List.mem_append.1 hc').elim (h1 c) (hv1 c))
    refine ⟨r', ?_, ?_, ?_⟩
    · simp only [Instr.fill]
      rw [if_neg (by simp [hvs']; omega)]
      exact g1
    · simpa [flat_cons, List.append_assoc] using g2
    · simpa [flat_cons, List.append_assoc] using g3
theorem buildSlice_sound {T : TT} (hT : TTok B P T) (h : R B G H W) {t : TypeId} {len : Nat} {ps : List (Nat × AVal)} {ps' : Array (Nat × Value)} {v : AVal} (hl : aBuildSlice T t len ps = some v) (hp : PR G ps ps'.toList) :
    ∃ v' W' G', (Instr.buildSlice t len ps').run P W = .ok v' W' ∧ VR G' v v' ∧ R B G' H W' ∧ St ν G G' H H W W' := by
  unfold aBuildSlice at hl
  cases hti : T t with
  | none => rw [hti] at hl; cases hl
  | some ti =>
    rw [hti] at hl
    have ht := hT t ti hti
    simp only at hl
    cases hk : ti.k <;> rw [hk] at hl <;> try (cases hl; done)
    rename_i e
    simp only at hl
    have hu := under_slice ht hk
    cases hei : T e with
    | none => rw [hei] at hl; cases hl
    | some ei =>
      rw [hei] at hl
      have he := hT e ei hei
      simp only at hl
      split at hl
      · rename_i h0
        obtain ⟨rfl, h0⟩ := h0
        obtain rfl := Option.some.inj hl
        have hps : ps' = #[] := by
          have := hp.1
          apply Array.ext'
          exact List.eq_nil_of_length_eq_zero (by rw [← this]; exact h0)
        subst hps
        obtain ⟨r1, r2⟩ := h.world (ν := ν) (W' := W.alloc (.cells #[] e)) ⟨rfl, rfl, rfl⟩ (by simp) (fun b hb => old_block W _ hb)
        refine ⟨.slice (some ⟨W.heap.size, 0, none⟩) 0 0, _, G, ?_, .emp, r1, r2⟩
        simp only [Instr.buildSlice, Sem.run_bind, run_underlying hu, Result.andThen_ok, run_size he, Nat.zero_mul]
        rw [if_neg (by omega)]
        have e0 : ∀ f : Nat → Value, (Array.range 0).map f = #[] := fun f => by simp
        simp only [if_true, Sem.run_bind, Sem.run_pure, Result.andThen_ok, List.map_toArray, Instr.fill, newRow, run_newObj, e0]
        rfl
      · rename_i hne
        split at hl
        · rename_i hc
          obtain ⟨c1, c2, c3, c4⟩ := hc
          obtain rfl := Option.some.inj hl
          obtain ⟨z, hz1, hz2⟩ := run_zero he W
          obtain ⟨hzl, hz0⟩ := (hz2 G).cellsOf he.zt
          have hzs : z.cells.size = ei.size := by have := hzl.1; rw [he.zc] at this; simpa using this.symm
          have hpos := he.pos
          have hlen0 : 0 < len := by
            rcases Nat.eq_zero_or_pos len with h' | h'
            · exact absurd ⟨h', by omega⟩ hne
            · exact h'
          obtain ⟨r', g1, g2, g3⟩ := fill_all (G := G) (size := ei.size) ps ps'.toList 0 [] ((Array.range (len * ei.size)).map (fun i => z.cells[i % z.cells.size]!)) hp c2 (fun p hp => by
            rw [List.all_eq_true] at c3; simpa using c3 p hp) (by simp) (by simp; exact L2.nil) (by simp [c1]) (fun c hc => by simp at hc)
          simp only [List.nil_append] at g2 g3
          have hrun : (Instr.buildSlice t len ps').run P W = .ok (.slice (some ⟨W.heap.size, 0, none⟩) len len) (W.alloc (.cells r' e)) := by
            have hm : 0 < len * ei.size := Nat.mul_pos hlen0 hpos
            simp only [Instr.buildSlice, Sem.run_bind, run_underlying hu, Result.andThen_ok, run_size he]
            rw [if_neg (by omega), if_neg (by omega)]
            simp only [Sem.run_bind, hz1, Sem.run_pure, Result.andThen_ok, g1, newRow, run_newObj]
            rfl
          obtain ⟨r1, r2⟩ := h.world (ν := ν) (W' := W.alloc (.cells r' e)) ⟨rfl, rfl, rfl⟩ (by simp) (fun b hb => old_block W _ hb)
          have hno : ¬ Ow G H (W.alloc (.cells r' e)) W.heap.size := fun ⟨q, l, ob, q1, q2, q3⟩ => by
            have := (q3.back (old_block W _ (h.ob q l ob q1 q2).lt)).lt (h.ob q l ob q1 q2)
            omega
          let F' : Nat → Nat → Option Value := fun b o => if b = W.heap.size then r'.toList[o]? else G.F b o
          have hF0 : ∀ b o v, G.F b o = some v → F' b o = some v := fun b o v e => by
            have := h.flt e
            show (if b = W.heap.size then r'.toList[o]? else G.F b o) = some v
            rw [if_neg (by omega)]; exact e
          obtain ⟨s1, s2⟩ := r1.promise F' hF0 (fun b o v e => by
            have e' : (if b = W.heap.size then r'.toList[o]? else G.F b o) = some v := e
            split at e'
            · rename_i hb
              subst hb
              refine .inr ⟨?_, hno⟩
              rw [cell_of_row _ _ _ _ _ _ (heap_new W _)]
              simpa using e'
            · exact .inl e')
          have hmem : ∀ y ∈ ps.map (·.2), y.cells.length = ei.size ∧ ∀ c ∈ y.cells, c.one = true := by
            intro y hy
            obtain ⟨p, hp1, rfl⟩ := List.mem_map.1 hy
            rw [List.all_eq_true] at c3
            exact ⟨by simpa using c3 p hp1, fun c hc => g3 c (List.mem_flatMap.2 ⟨_, hy, hc⟩)⟩
          refine ⟨_, _, ⟨G.mu, F'⟩, hrun, ?_, s1, ⟨s2, fun _ _ => Z, fun b o v e => ?_, fun _ _ e => e, r2.sz, r2.fr, r2.ow, r2.sm, r2.un⟩⟩
          · have hlm : (ps.map (·.2)).length = len := by simp [c1]
            rw [← hlm]
            have g2' : L2 (VR ⟨G.mu, F'⟩) (flat (ps.map (·.2))) r'.toList := g2.mono fun _ _ e => e.mono s2
            refine .lst (w := ei.size) (o := 0) (b := W.heap.size) r'.toList (fun e => by rw [e] at hlm; simp at hlm; omega) hmem (Nat.le_refl _) (fun k v hk => ?_) g2'.1 g2'.2
            show (if W.heap.size = W.heap.size then r'.toList[0 + k]? else G.F W.heap.size (0 + k)) = some v
            rw [if_pos rfl, Nat.zero_add]; exact hk
          · have e' : (if b = W.heap.size then r'.toList[o]? else G.F b o) = some v := e
            split at e'
            · exact .inr (.inl (by omega))
            · exact .inl e'
        · cases hl
end Go.Proofs.YtfkgdlfponfimaaGreat.X
