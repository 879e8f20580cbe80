import Derived.Test.YtfkgdlfponfimaaGreatU4
/- Addresses, fields, elements, slices of slices. -/
namespace Go.Proofs.YtfkgdlfponfimaaGreat.X
open Go Go.RowKit
variable {B : BT} {P : Program} {ν : Nm} {G G' : Gh} {H H1 : Heap} {W W' : World}
theorem VR.shift {x : AVal} {o : Nat} {b a : Nat} (h : VR G (.ept x o) (.pointer (some ⟨b, a, none⟩))) (k : Nat) : VR G (.ept x (o + k)) (.pointer (some ⟨b, a + k, none⟩)) := by
  cases h with
  | ept cv h1 h2 h3 h4 =>
    have h5 : L2 (VR G) ((x.cells.drop o).drop k) (cv.drop k) := L2.drop ⟨h3, h4⟩ k
    rw [List.drop_drop] at h5
    refine .ept (cv.drop k) h1 (fun j v hj => ?_) h5.1 h5.2
    rw [List.getElem?_drop] at hj
    rw [Nat.add_assoc]; exact h2 _ _ hj
theorem fieldAddr_sound {T : TT} (hT : TTok B P T) {t : TypeId} {x v : AVal} {x' : Value} {f : Nat} (hl : aFieldAddr T t x f = some v) (hx : VR G x x') :
    ∃ v', (Instr.fieldAt t x' f).run P W = .ok v' W ∧ VR G v v' := by
  unfold aFieldAddr at hl
  cases hti : T t with
  | none => rw [hti] at hl; cases hl
  | some ti =>
    rw [hti] at hl
    simp only at hl
    cases hk : ti.k <;> rw [hk] at hl <;> try (cases hl; done)
    rename_i fs
    simp only at hl
    cases hf : fs[f]? with
    | none => rw [hf] at hl; cases hl
    | some of_ =>
      obtain ⟨off, ft⟩ := of_
      rw [hf] at hl
      simp only at hl
      cases hfi : T ft with
      | none => rw [hfi] at hl; cases hl
      | some fi =>
        rw [hfi] at hl
        simp only at hl
        by_cases h0 : fi.size = 0
        · rw [if_pos h0] at hl; cases hl
        · rw [if_neg h0] at hl
          obtain ⟨fields, hu, hm, _⟩ := under_strct (hT t ti hti) hk
          obtain ⟨fd, hfd, hfe⟩ : ∃ fd, fields[f]? = some fd ∧ (fd.offset, fd.type) = (off, ft) := by
            rw [← hm, List.getElem?_map] at hf
            obtain ⟨fd, h1, h2⟩ := Option.map_eq_some_iff.1 hf
            exact ⟨fd, by simpa using h1, h2⟩
          obtain ⟨rfl, rfl⟩ := Prod.mk.inj hfe
          have hrun : ∀ b o, (Instr.fieldAt t (.pointer (some ⟨b, o, none⟩)) f).run P W = .ok (.pointer (some ⟨b, o + fd.offset, none⟩)) W := by
            intro b o
            simp only [Instr.fieldAt, Sem.run_bind, run_underlying hu, Result.andThen_ok, hfd, Instr.sureAddr, Sem.run_pure, fieldPlace, run_size (hT _ _ hfi), if_neg h0, Addr.add_lit]
          cases hx with
          | @ptr q i o l hq =>
            simp only at hl
            obtain rfl := Option.some.inj hl
            refine ⟨_, hrun _ _, ?_⟩
            rw [Nat.add_assoc]
            exact .ptr hq
          | @ept y o b a cv h1 h2 h3 h4 =>
            simp only at hl
            obtain rfl := Option.some.inj hl
            exact ⟨_, hrun _ _, VR.shift (.ept cv h1 h2 h3 h4) _⟩
          | _ => cases hl
theorem field_sound {T : TT} (hT : TTok B P T) {t : TypeId} {x v : AVal} {x' : Value} {f : Nat} (hl : aField T t x f = some v) (hx : VR G x x') :
    ∃ v', (Instr.field t x' f).run P W = .ok v' W ∧ VR G v v' := by
  unfold aField at hl
  cases hti : T t with
  | none => rw [hti] at hl; cases hl
  | some ti =>
    rw [hti] at hl
    simp only at hl
    cases hk : ti.k <;> rw [hk] at hl <;> try (cases hl; done)
    rename_i fs
    simp only at hl
    cases hf : fs[f]? with
    | none => rw [hf] at hl; cases hl
    | some of_ =>
      obtain ⟨off, ft⟩ := of_
      rw [hf] at hl
      simp only at hl
      cases hfi : T ft with
      | none => rw [hfi] at hl; cases hl
      | some fi =>
        rw [hfi] at hl
        simp only at hl
        obtain ⟨fields, hu, hm, _⟩ := under_strct (hT t ti hti) hk
        obtain ⟨fd, hfd, hfe⟩ : ∃ fd, fields[f]? = some fd ∧ (fd.offset, fd.type) = (off, ft) := by
          rw [← hm, List.getElem?_map] at hf
          obtain ⟨fd, h1, h2⟩ := Option.map_eq_some_iff.1 hf
          exact ⟨fd, by simpa using h1, h2⟩
        obtain ⟨rfl, rfl⟩ := Prod.mk.inj hfe
        cases x <;> try (cases hl; done)
        rename_i cs
        obtain ⟨vs, rfl, h2, h0⟩ := hx.ofAgg
        have ht := hT _ _ hfi
        have h0' : ∀ c ∈ (AVal.agg cs).cells, c.one = true := h0
        obtain ⟨p1, p2, p3, p4, p5⟩ := part_cells ht hl h0'
        have h6 : L2 (VR G) v.cells ((vs.toList.drop fd.offset).take fi.size) := by rw [p3]; exact (h2.drop _).take _
        have hlen : v.cells.length = fi.size := by rw [p3, List.length_take, List.length_drop]; omega
        refine ⟨_, ?_, mkPart ht h6 hlen p2 (fun c hc => h0 c (by rw [p3] at hc; exact List.mem_of_mem_drop (List.mem_of_mem_take hc))) p4 p5⟩
        simp only [Instr.field, Sem.run_bind, run_underlying hu, Result.andThen_ok, hfd, asAgg, Sem.run_pure, Go.part, run_agg ht]
        have hsz : vs.toList.length = cs.length := h2.1.symm
        have p1' : fd.offset + fi.size ≤ vs.size := by have : vs.size = cs.length := by simpa using hsz
                                                       rw [this]; exact p1
        cases hka : fi.k.agg with
        | true =>
          simp only [if_true, Sem.run_bind, run_size ht, Result.andThen_ok, Sem.run_pure]
          congr 2
          apply Array.ext'
          simp only [Array.toList_extract, List.extract_eq_take_drop]
          congr 1
          omega
        | false =>
          have h1 := ht.flatS hka
          have hlt : fd.offset < vs.size := by omega
          simp only [Bool.false_eq_true, if_false, Array.getElem?_eq_getElem hlt, Sem.run_pure]
          congr 1
          rw [h1, List.drop_eq_getElem_cons (by simpa using hlt)]
          rfl
theorem run_indexAt_slice {t e : TypeId} {ei : TI} (hu : P.underlying t = some (.slice e)) (he : TOK B P e ei) {k : IntKind} {i : Int} {a : Addr} {n c : Nat} (h0 : 0 ≤ i) (h1 : i < n) :
    (Instr.indexAt t (.slice (some a) n c) (.int k i)).run P W = .ok (.pointer (some (a.add (i.toNat * ei.size)))) W := by
  simp only [Instr.indexAt, asIntOf, Sem.run_bind, Sem.run_pure, Result.andThen_ok, run_underlying hu]
  rw [if_pos ⟨h0, h1⟩]
  simp only [Sem.run_bind, run_size he, Result.andThen_ok, Sem.run_pure]
theorem indexAddr_sound {T : TT} (hT : TTok B P T) {t : TypeId} {x ix v : AVal} {x' ix' : Value} (hl : aIndexAddr T t x ix = some v) (hx : VR G x x') (hi : VR G ix ix') :
    ∃ v', (Instr.indexAt t x' ix').run P W = .ok v' W ∧ VR G v v' := by
  unfold aIndexAddr at hl
  cases hti : T t with
  | none => rw [hti] at hl; cases hl
  | some ti =>
    rw [hti] at hl
    cases hi with
    | int kk i =>
      simp only at hl
      cases hk : ti.k <;> rw [hk] at hl <;> try (cases hl; done)
      · rename_i e
        simp only at hl
        have hu := under_slice (hT t ti hti) hk
        cases hei : T e with
        | none => rw [hei] at hl; cases hl
        | some ei =>
          rw [hei] at hl
          have he := hT e ei hei
          cases hx with
          | lst0 => simp at hl
          | @lst xs b o w c cv n0 h1 h2 h3 h4 h5 =>
            simp only at hl
            by_cases hb : 0 ≤ i ∧ i < xs.length
            · rw [if_pos hb] at hl
              obtain ⟨hb0, hb1⟩ := hb
              cases hy : xs[i.toNat]? with
              | none => rw [hy] at hl; cases hl
              | some y =>
                rw [hy] at hl
                simp only at hl
                by_cases hw : y.cells.length = ei.size
                · rw [if_pos hw] at hl
                  obtain rfl := Option.some.inj hl
                  have hm := h1 y (List.mem_of_getElem? hy)
                  have hwe : w = ei.size := hm.1.symm.trans hw
                  refine ⟨_, run_indexAt_slice hu he hb0 hb1, ?_⟩
                  rw [Addr.add_lit, ← hwe]
                  have h6 : L2 (VR G) (((flat xs).drop (i.toNat * w)).take w) ((cv.drop (i.toNat * w)).take w) := (L2.drop ⟨h4, h5⟩ _).take _
                  rw [flat_get h1 hy] at h6
                  refine .ept _ hm.2 (fun j u hj => ?_) h6.1 h6.2
                  rw [List.getElem?_take] at hj
                  split at hj
                  · rw [List.getElem?_drop] at hj
                    rw [Nat.add_assoc]; exact h3 _ _ hj
                  · cases hj
                · rw [if_neg hw] at hl; cases hl
            · rw [if_neg hb] at hl; cases hl
          | @slc q w off len cap a l hq hw hcap hlc ha =>
            simp only at hl
            by_cases hb : 0 ≤ i ∧ i < len ∧ w = ei.size
            · rw [if_pos hb] at hl
              obtain ⟨hb0, hb1, hwe⟩ := hb
              obtain rfl := Option.some.inj hl
              refine ⟨_, run_indexAt_slice hu he hb0 hb1, ?_⟩
              rcases ha with rfl | ⟨rfl, _⟩
              · rw [Addr.add_lit, ← hwe, ← Nat.add_mul]
                have := VR.ptr (G := G) (i := off + i.toNat) (off := 0) hq
                rw [hw] at this
                exact this
              · omega
            · rw [if_neg hb] at hl; cases hl
          | _ => cases hl
      · rename_i n e
        simp only at hl
        have hu := under_array (hT t ti hti) hk
        cases hei : T e with
        | none => rw [hei] at hl; cases hl
        | some ei =>
          rw [hei] at hl
          have he := hT e ei hei
          simp only at hl
          by_cases hb : 0 ≤ i ∧ i < n
          · rw [if_pos hb] at hl
            obtain ⟨hb0, hb1⟩ := hb
            have hrun : ∀ b o, (Instr.indexAt t (.pointer (some ⟨b, o, none⟩)) (.int kk i)).run P W = .ok (.pointer (some ⟨b, o + i.toNat * ei.size, none⟩)) W := by
              intro b o
              simp only [Instr.indexAt, asIntOf, Sem.run_bind, Sem.run_pure, Result.andThen_ok, run_underlying hu, Instr.sureAddr]
              rw [if_pos ⟨hb0, hb1⟩]
              simp only [Sem.run_bind, run_size he, Result.andThen_ok, Sem.run_pure, Addr.add_lit]
            cases hx with
            | @ptr q j o l hq =>
              simp only at hl
              obtain rfl := Option.some.inj hl
              refine ⟨_, hrun _ _, ?_⟩
              rw [Nat.add_assoc]
              exact .ptr hq
            | @ept y o b a cv h1 h2 h3 h4 =>
              simp only at hl
              obtain rfl := Option.some.inj hl
              exact ⟨_, hrun _ _, VR.shift (.ept cv h1 h2 h3 h4) _⟩
            | _ => cases hl
          · rw [if_neg hb] at hl; cases hl
    | _ => cases hl
theorem bytes_get (s : ByteArray) (i : Nat) (h : i < s.size) : s[i]? = some (s.data.toList.getD i 0) := by
  have h' : i < s.data.toList.length := by simpa using h
  rw [List.getD_eq_getElem?_getD, List.getElem?_eq_getElem h']
  simp only [Option.getD_some]
  rw [getElem?_pos s i h]
  rfl
theorem index_sound {T : TT} (hT : TTok B P T) {t : TypeId} {x ix v : AVal} {x' ix' : Value} (hl : aIndex T t x ix = some v) (hx : VR G x x') (hi : VR G ix ix') :
    ∃ v', (Instr.index t x' ix').run P W = .ok v' W ∧ VR G v v' := by
  unfold aIndex at hl
  cases hti : T t with
  | none => rw [hti] at hl; cases hl
  | some ti =>
    rw [hti] at hl
    cases hi with
    | int kk i =>
      simp only at hl
      cases hk : ti.k <;> rw [hk] at hl <;> try (cases hl; done)
      · cases hx with
        | str s =>
          simp only at hl
          by_cases hb : 0 ≤ i ∧ i < s.size
          · rw [if_pos hb] at hl
            obtain rfl := Option.some.inj hl
            have hu := under_str (hT t ti hti) hk
            refine ⟨.int .u8 (s.data.toList.getD i.toNat 0).toNat, ?_, .int _ _⟩
            simp only [Instr.index, asIntOf, Sem.run_bind, Sem.run_pure, Result.andThen_ok, run_underlying hu]
            rw [if_pos hb.1, bytes_get s i.toNat (by omega)]
            rfl
          · rw [if_neg hb] at hl; cases hl
        | _ => cases hl
      · rename_i n e
        cases x <;> try (cases hl; done)
        rename_i cs
        simp only at hl
        cases hei : T e with
        | none => rw [hei] at hl; cases hl
        | some ei =>
          rw [hei] at hl
          have ht := hT e ei hei
          simp only at hl
          by_cases hb : 0 ≤ i ∧ i < n
          · rw [if_pos hb] at hl
            obtain ⟨vs, rfl, h2, h0⟩ := hx.ofAgg
            have hu := under_array (hT t ti hti) hk
            have h0' : ∀ c ∈ (AVal.agg cs).cells, c.one = true := h0
            obtain ⟨p1, p2, p3, p4, p5⟩ := part_cells ht hl h0'
            have h6 : L2 (VR G) v.cells ((vs.toList.drop (i.toNat * ei.size)).take ei.size) := by rw [p3]; exact (h2.drop _).take _
            have hlen : v.cells.length = ei.size := by rw [p3, List.length_take, List.length_drop]; omega
            refine ⟨_, ?_, mkPart ht h6 hlen p2 (fun c hc => h0 c (by rw [p3] at hc; exact List.mem_of_mem_drop (List.mem_of_mem_take hc))) p4 p5⟩
            simp only [Instr.index, asIntOf, Sem.run_bind, Sem.run_pure, run_underlying hu, Result.andThen_ok]
            rw [if_pos hb]
            simp only [Sem.run_bind, run_size ht, Result.andThen_ok, Go.part, run_agg ht]
            have hsz : vs.toList.length = cs.length := h2.1.symm
            have p1' : i.toNat * ei.size + ei.size ≤ vs.size := by have : vs.size = cs.length := by simpa using hsz
                                                                   rw [this]; exact p1
            cases hka : ei.k.agg with
            | true =>
              simp only [if_true, Sem.run_bind, run_size ht, Result.andThen_ok, Sem.run_pure]
              congr 2
              apply Array.ext'
              simp only [Array.toList_extract, List.extract_eq_take_drop]
              congr 1; omega
            | false =>
              have h1 := ht.flatS hka
              have hlt : i.toNat * ei.size < vs.size := by omega
              simp only [Bool.false_eq_true, if_false, Array.getElem?_eq_getElem hlt, Sem.run_pure]
              congr 1
              have e1 : ∀ l : List Value, l.take ei.size = l.take 1 := fun l => by rw [h1]
              rw [e1, List.drop_eq_getElem_cons (by simpa using hlt)]
              rfl
          · rw [if_neg hb] at hl; cases hl
    | _ => cases hl
def VRo (G : Gh) : Option AVal → Option Value → Prop
  | none, none => True
  | some x, some v => VR G x v
  | _, _ => False
theorem bound_sound {x : Option AVal} {v : Option Value} (h : VRo G x v) {d top n : Nat} (hl : aBound x d top = some n) {code : BoundsCode} :
    match v with
    | some v => (Instr.sliceBound v top code).run P W = .ok n W ∧ n ≤ top
    | none => n = d := by
  cases x with
  | none =>
    cases v with
    | none => simp [aBound] at hl; exact hl.symm
    | some v => exact h.elim
  | some x =>
    cases v with
    | none => exact h.elim
    | some v =>
      have h : VR G x v := h
      cases h with
      | int k i =>
        simp only [aBound] at hl
        by_cases hb : 0 ≤ i ∧ i ≤ top
        · rw [if_pos hb] at hl
          obtain rfl := Option.some.inj hl
          refine ⟨?_, by omega⟩
          simp only [Instr.sliceBound, asIntOf, Sem.run_bind, Sem.run_pure, Result.andThen_ok]
          rw [if_pos hb]; rfl
        · rw [if_neg hb] at hl; cases hl
      | _ => cases hl
theorem bounds_sound' {lo hi : Option AVal} {lo' hi' : Option Value} (h1 : VRo G lo lo') (h2 : VRo G hi hi') {isS : Bool} {len cap h l : Nat} {top : Nat} (hlc : len ≤ cap) (htc : top ≤ cap) (hh : aBound hi len top = some h) (hl : aBound lo 0 h = some l) :
    (Instr.sliceBounds isS len cap lo' hi' none).run P W = .ok (l, h, cap) W ∧ l ≤ h ∧ (h ≤ len ∨ h ≤ top) := by
  have hlen : h ≤ len ∨ h ≤ top := by
    cases hi with
    | none => simp [aBound] at hh; omega
    | some x =>
      cases x <;> simp [aBound] at hh
      omega
  have hl' : l ≤ h := by
    cases lo with
    | none => simp [aBound] at hl; omega
    | some x =>
      cases x <;> simp [aBound] at hl
      omega
  have c1 : ∀ code, match hi' with
      | some v => (Instr.sliceBound v cap code).run P W = .ok h W
      | none => h = len := by
    intro code
    cases hi with
    | none =>
      cases hi' with
      | none => simp [aBound] at hh; exact hh.symm
      | some v => exact h2.elim
    | some x =>
      cases hi' with
      | none => exact h2.elim
      | some v =>
        have h2 : VR G x v := h2
        cases h2 with
        | int k i =>
          simp only [aBound] at hh
          by_cases hb : 0 ≤ i ∧ i ≤ top
          · rw [if_pos hb] at hh
            obtain rfl := Option.some.inj hh
            show (Instr.sliceBound (.int k i) cap code).run P W = _
            simp only [Instr.sliceBound, asIntOf, Sem.run_bind, Sem.run_pure, Result.andThen_ok]
            rw [if_pos ⟨hb.1, by omega⟩]; rfl
          · rw [if_neg hb] at hh; cases hh
        | _ => cases hh
  refine ⟨?_, hl', hlen⟩
  have c2 := fun code => @bound_sound P G W lo lo' h1 0 h l hl code
  unfold Instr.sliceBounds
  cases hi' with
  | none =>
    have e1 : h = len := c1 .slice3B
    cases lo' with
    | none =>
      have e2 : l = 0 := c2 .slice3B
      subst e2; subst e1; rfl
    | some v =>
      have e2 := fun code => (c2 code).1
      subst e1
      simp only [Sem.run_bind, Sem.run_pure, Result.andThen_ok, Option.isSome_none, Bool.false_eq_true, if_false, e2]
  | some u =>
    have e1 := fun code => c1 code
    simp only at e1
    cases lo' with
    | none =>
      have e2 : l = 0 := c2 .slice3B
      subst e2
      simp only [Sem.run_bind, Sem.run_pure, Result.andThen_ok, e1]
    | some v =>
      have e2 := fun code => (c2 code).1
      simp only [Sem.run_bind, Sem.run_pure, Result.andThen_ok, Option.isSome_none, Bool.false_eq_true, if_false, e1, e2]
theorem bounds_sound {lo hi : Option AVal} {lo' hi' : Option Value} (h1 : VRo G lo lo') (h2 : VRo G hi hi') {isS : Bool} {len cap h l : Nat} (hlc : len ≤ cap) (hh : aBound hi len len = some h) (hl : aBound lo 0 h = some l) :
    (Instr.sliceBounds isS len cap lo' hi' none).run P W = .ok (l, h, cap) W ∧ l ≤ h ∧ h ≤ len := by
  obtain ⟨a, b, c⟩ := bounds_sound' (P := P) (W := W) (isS := isS) h1 h2 hlc hlc hh hl
  exact ⟨a, b, by omega⟩
theorem bounds3_sound {lo hi mx : AVal} {lo' hi' mx' : Value} (h1 : VR G lo lo') (h2 : VR G hi hi') (h3 : VR G mx mx') {isS : Bool} {len cap top h l m : Nat} (htc : top ≤ cap) (hm : aBound (some mx) 0 top = some m) (hh : aBound (some hi) 0 m = some h) (hl : aBound (some lo) 0 h = some l) :
    (Instr.sliceBounds isS len cap (some lo') (some hi') (some mx')).run P W = .ok (l, h, m) W := by
  have k1 : ∀ code, (Instr.sliceBound mx' cap code).run P W = .ok m W := by
    intro code
    cases h3 with
    | int k i =>
      simp only [aBound] at hm
      by_cases hb : 0 ≤ i ∧ i ≤ top
      · rw [if_pos hb] at hm
        obtain rfl := Option.some.inj hm
        simp only [Instr.sliceBound, asIntOf, Sem.run_bind, Sem.run_pure, Result.andThen_ok]
        rw [if_pos ⟨hb.1, by omega⟩]; rfl
      · rw [if_neg hb] at hm; cases hm
    | _ => cases hm
  have k2 := fun code => (bound_sound (P := P) (W := W) (G := G) (x := some hi) (v := some hi') h2 hh (code := code)).1
  have k3 := fun code => (bound_sound (P := P) (W := W) (G := G) (x := some lo) (v := some lo') h1 hl (code := code)).1
  unfold Instr.sliceBounds
  simp only [Sem.run_bind, Sem.run_pure, Result.andThen_ok, k1, k2, k3]
theorem bounds3_sound0 {hi mx : AVal} {hi' mx' : Value} (h2 : VR G hi hi') (h3 : VR G mx mx') {isS : Bool} {len cap top h m : Nat} (htc : top ≤ cap) (hm : aBound (some mx) 0 top = some m) (hh : aBound (some hi) 0 m = some h) :
    (Instr.sliceBounds isS len cap none (some hi') (some mx')).run P W = .ok (0, h, m) W := by
  have k1 : ∀ code, (Instr.sliceBound mx' cap code).run P W = .ok m W := by
    intro code
    cases h3 with
    | int k i =>
      simp only [aBound] at hm
      by_cases hb : 0 ≤ i ∧ i ≤ top
      · rw [if_pos hb] at hm
        obtain rfl := Option.some.inj hm
        simp only [Instr.sliceBound, asIntOf, Sem.run_bind, Sem.run_pure, Result.andThen_ok]
        rw [if_pos ⟨hb.1, by omega⟩]; rfl
      · rw [if_neg hb] at hm; cases hm
    | _ => cases hm
  have k2 := fun code => (bound_sound (P := P) (W := W) (G := G) (x := some hi) (v := some hi') h2 hh (code := code)).1
  unfold Instr.sliceBounds
  simp only [Sem.run_bind, Sem.run_pure, Result.andThen_ok, k1, k2]
theorem run_sliceAt_slc {t e : TypeId} {ti ei : TI} (hu : P.underlying t = some (.slice e)) (he : TOK B P e ei) {a : Option Addr} {len cap l h m : Nat} {lo hi mx : Option Value}
    (hb : (Instr.sliceBounds true len cap lo hi mx).run P W = .ok (l, h, m) W) :
    (Instr.sliceAt t (.slice a len cap) lo hi mx).run P W = .ok (.slice (if m = l then a else a.map (·.add (l * ei.size))) (h - l) (m - l)) W := by
  simp only [Instr.sliceAt, Instr.slice, Sem.run_bind, run_underlying hu, Result.andThen_ok, hb, run_size he, Sem.run_pure]
theorem wide_tail {w : Nat} {xs : List AVal} (h : wide w xs) (a b : Nat) : wide w ((xs.take a).drop b) := wide_drop (wide_take h a) b
theorem slice_sound {T : TT} (hT : TTok B P T) {t : TypeId} {x v : AVal} {x' : Value} {lo hi mx : Option AVal} {lo' hi' mx' : Option Value} (hl : aSlice T t x lo hi mx = some v) (hx : VR G x x') (h1 : VRo G lo lo') (h2 : VRo G hi hi') (h3 : VRo G mx mx') :
    ∃ v', (Instr.sliceAt t x' lo' hi' mx').run P W = .ok v' W ∧ VR G v v' := by
  unfold aSlice at hl
  cases hti : T t with
  | none => rw [hti] at hl; cases hl
  | some ti =>
    rw [hti] at hl
    simp only at hl
    cases mx with
    | some m => cases hl
    | none =>
      cases mx' with
      | some m => exact h3.elim
      | none =>
        simp only at hl
        cases hk : ti.k <;> rw [hk] at hl <;> try (cases hl; done)
        · -- string
          cases hx with
          | str s =>
            simp only at hl
            have hu := under_str (hT t ti hti) hk
            cases hh : aBound hi s.size s.size with
            | none => rw [hh] at hl; cases hl
            | some h =>
              rw [hh] at hl
              simp only at hl
              cases hll : aBound lo 0 h with
              | none => rw [hll] at hl; cases hl
              | some l =>
                rw [hll] at hl
                obtain rfl := Option.some.inj hl
                obtain ⟨hb, _, _⟩ := bounds_sound (P := P) (W := W) (isS := false) h1 h2 (Nat.le_refl _) hh hll
                refine ⟨_, ?_, .str _⟩
                simp only [Instr.sliceAt, Instr.slice, Sem.run_bind, run_underlying hu, Result.andThen_ok, Option.isSome_none, Bool.false_eq_true, if_false, hb, Sem.run_pure]
          | _ => cases hl
        · rename_i e
          have hu := under_slice (hT t ti hti) hk
          obtain ⟨ei, hei⟩ : ∃ ei, T e = some ei := by
            cases hei : T e with
            | some ei => exact ⟨ei, rfl⟩
            | none =>
              exfalso
              cases x <;> simp [hei] at hl
          have he := hT e ei hei
          cases hx with
          | @emp a =>
            simp only [hei] at hl
            cases hh : aBound hi 0 0 with
            | none => rw [hh] at hl; cases hl
            | some h =>
              rw [hh] at hl
              simp only at hl
              cases hll : aBound lo 0 h with
              | none => rw [hll] at hl; cases hl
              | some l =>
                rw [hll] at hl
                obtain rfl := Option.some.inj hl
                obtain ⟨hb, b1, b2⟩ := bounds_sound (P := P) (W := W) (isS := true) h1 h2 (Nat.le_refl _) hh hll
                refine ⟨_, run_sliceAt_slc (ti := ti) hu he hb, ?_⟩
                obtain rfl : h = 0 := by omega
                obtain rfl : l = 0 := by omega
                exact .emp
          | @lst0 a c hac =>
            simp only [hei, List.length_nil] at hl
            cases hh : aBound hi 0 0 with
            | none => rw [hh] at hl; cases hl
            | some h =>
              rw [hh] at hl
              simp only at hl
              cases hll : aBound lo 0 h with
              | none => rw [hll] at hl; cases hl
              | some l =>
                rw [hll] at hl
                obtain rfl := Option.some.inj hl
                obtain ⟨hb, b1, b2⟩ := bounds_sound (P := P) (W := W) (isS := true) h1 h2 (Nat.zero_le c) hh hll
                refine ⟨_, run_sliceAt_slc (ti := ti) hu he hb, ?_⟩
                obtain rfl : h = 0 := by omega
                obtain rfl : l = 0 := by omega
                simp only [List.take_nil, List.drop_nil]
                refine .lst0 ?_
                intro hn
                split at hn
                · have := hac hn; omega
                · cases a with
                  | none => have := hac rfl; omega
                  | some a => simp at hn
          | @lst xs b o w c cv n0 w1 w2 w3 w4 w5 =>
            simp only [hei] at hl
            cases hh : aBound hi xs.length xs.length with
            | none => rw [hh] at hl; cases hl
            | some h =>
              rw [hh] at hl
              simp only at hl
              cases hll : aBound lo 0 h with
              | none => rw [hll] at hl; cases hl
              | some l =>
                rw [hll] at hl
                simp only at hl
                by_cases hall : (xs.all fun x => x.cells.length == ei.size) = true
                · rw [if_pos hall] at hl
                  obtain rfl := Option.some.inj hl
                  obtain ⟨hb, b1, b2⟩ := bounds_sound (P := P) (W := W) (isS := true) h1 h2 w2 hh hll
                  refine ⟨_, run_sliceAt_slc (ti := ti) hu he hb, ?_⟩
                  obtain ⟨x0, hx0⟩ : ∃ x0, x0 ∈ xs := List.exists_mem_of_ne_nil xs n0
                  have hwe : w = ei.size := by
                    rw [List.all_eq_true] at hall
                    have := hall x0 hx0
                    rw [← (w1 x0 hx0).1]; simpa using this
                  by_cases he0 : (xs.take h).drop l = []
                  · rw [he0]
                    have hlen := congrArg List.length he0
                    simp only [List.length_drop, List.length_take, List.length_nil] at hlen
                    obtain rfl : h = l := by omega
                    rw [Nat.sub_self]
                    exact .lst0 (fun hn => by split at hn <;> simp at hn)
                  · have hlen : ((xs.take h).drop l).length = h - l := by simp; omega
                    have hlt : l < h := by
                      rcases Nat.lt_or_ge l h with h' | h'
                      · exact h'
                      · exact absurd (List.eq_nil_of_length_eq_zero (by rw [hlen]; omega)) he0
                    rw [if_neg (by omega), ← hlen]
                    simp only [Option.map_some, Addr.add_lit]
                    have h6 : L2 (VR G) (((flat xs).take (h * w)).drop (l * w)) ((cv.take (h * w)).drop (l * w)) := (L2.take ⟨w4, w5⟩ _).drop _
                    rw [← flat_take w1, ← flat_drop (wide_take w1 h)] at h6
                    refine .lst _ he0 (wide_tail w1 h l) (by rw [hlen]; omega) (fun k u hk => ?_) h6.1 h6.2
                    rw [List.getElem?_drop, List.getElem?_take] at hk
                    split at hk
                    · rw [← hwe, Nat.add_assoc]; exact w3 _ _ hk
                    · cases hk
                · rw [if_neg hall] at hl; cases hl
          | @slc q w off len cap a l0 hq hw hcap hlc ha =>
            simp only [hei] at hl
            cases hh : aBound hi len len with
            | none => rw [hh] at hl; cases hl
            | some h =>
              rw [hh] at hl
              simp only at hl
              cases hll : aBound lo 0 h with
              | none => rw [hll] at hl; cases hl
              | some l =>
                rw [hll] at hl
                simp only at hl
                by_cases hwe : w = ei.size
                · rw [if_pos hwe] at hl
                  obtain rfl := Option.some.inj hl
                  obtain ⟨hb, b1, b2⟩ := bounds_sound (P := P) (W := W) (isS := true) h1 h2 hlc hh hll
                  refine ⟨_, run_sliceAt_slc (ti := ti) hu he hb, ?_⟩
                  by_cases hcl : cap = l
                  · rw [if_pos hcl]
                    refine .slc hq hw (by omega) (by omega) ?_
                    rcases ha with ha | ha
                    · by_cases h0 : l = 0
                      · left; subst h0; simpa using ha
                      · right; omega
                    · right; omega
                  · rw [if_neg hcl]
                    refine .slc hq hw (by omega) (by omega) ?_
                    rcases ha with rfl | ha
                    · left; show Addr.add _ _ = _; rw [Addr.add_lit, ← hwe, ← Nat.add_mul]
                    · omega
                · rw [if_neg hwe] at hl; cases hl
          | _ => cases hl
theorem sliceX_sound {T : TT} (hT : TTok B P T) (hR : R B G H W) {t : TypeId} {x v : AVal} {x' : Value} {lo hi mx : Option AVal} {lo' hi' mx' : Option Value} (hl : aSliceX T H t x lo hi mx = some v) (hx : VR G x x') (h1 : VRo G lo lo') (h2 : VRo G hi hi') (h3 : VRo G mx mx') :
    ∃ v', (Instr.sliceAt t x' lo' hi' mx').run P W = .ok v' W ∧ VR G v v' := by
  unfold aSliceX at hl
  cases hti : T t with
  | none => rw [hti] at hl; cases hl
  | some ti =>
    rw [hti] at hl
    simp only at hl
    cases hk : ti.k <;> rw [hk] at hl <;> try (cases hl; done)
    rename_i e
    cases hx with
    | @slc q w off len cap a l0 hq hw hcap hlc ha =>
      simp only at hl
      have hu := under_slice (hT t ti hti) hk
      cases hei : T e with
      | none => rw [hei] at hl; cases hl
      | some ei =>
        have he := hT e ei hei
        rw [hei] at hl
        cases hH : H q with
        | none => rw [hH] at hl; cases hl
        | some ob =>
          rw [hH] at hl
          cases ob with
          | row w' xs =>
            simp only at hl
            obtain ⟨o1, cur, T', o2, o3, o4, _⟩ := hR.ob q l0 _ hq hH
            by_cases hg : w = ei.size ∧ off ≤ xs.length
            · rw [if_pos hg] at hl
              have htc : xs.length - off ≤ cap := by omega
              cases mx with
              | none =>
                cases mx' with
                | some m => exact h3.elim
                | none =>
                  simp only at hl
                  cases hh : aBound hi len (xs.length - off) with
                  | none => rw [hh] at hl; cases hl
                  | some h =>
                    rw [hh] at hl
                    simp only at hl
                    cases hll : aBound lo 0 h with
                    | none => rw [hll] at hl; cases hl
                    | some l =>
                      rw [hll] at hl
                      obtain rfl := Option.some.inj hl
                      obtain ⟨hb, b1, b2⟩ := bounds_sound' (P := P) (W := W) (isS := true) h1 h2 hlc htc hh hll
                      refine ⟨_, run_sliceAt_slc (ti := ti) hu he hb, ?_⟩
                      by_cases hcl : cap = l
                      · rw [if_pos hcl]
                        refine .slc hq hw (by omega) (by omega) ?_
                        rcases ha with ha | ha
                        · by_cases h0 : l = 0
                          · left; subst h0; simpa using ha
                          · right; omega
                        · right; omega
                      · rw [if_neg hcl]
                        refine .slc hq hw (by omega) (by omega) ?_
                        rcases ha with rfl | ha
                        · left; show Addr.add _ _ = _; rw [Addr.add_lit, ← hg.1, ← Nat.add_mul]
                        · omega
              | some m0 =>
                cases mx' with
                | none => exact h3.elim
                | some m0' =>
                  simp only at hl
                  cases hm : aBound (some m0) 0 (xs.length - off) with
                  | none => rw [hm] at hl; cases hl
                  | some m =>
                    rw [hm] at hl
                    cases hi with
                    | none => cases hl
                    | some hi0 =>
                      cases hi' with
                      | none => exact h2.elim
                      | some hi0' =>
                        simp only at hl
                        cases hh : aBound (some hi0) 0 m with
                        | none => rw [hh] at hl; cases hl
                        | some h =>
                          rw [hh] at hl
                          simp only at hl
                          cases hll : aBound lo 0 h with
                          | none => rw [hll] at hl; cases hl
                          | some l =>
                            rw [hll] at hl
                            obtain rfl := Option.some.inj hl
                            cases lo with
                            | none =>
                              cases lo' with
                              | some _ => exact h1.elim
                              | none => exact ⟨_, run_sliceAt_slc (ti := ti) hu he (bounds3_sound0 h2 h3 htc hm hh), .any⟩
                            | some lo0 =>
                              cases lo' with
                              | none => exact h1.elim
                              | some lo0' => exact ⟨_, run_sliceAt_slc (ti := ti) hu he (bounds3_sound h1 h2 h3 htc hm hh hll), .any⟩
            · rw [if_neg hg] at hl; cases hl
          | _ => cases hl
    | _ => cases hl
end Go.Proofs.YtfkgdlfponfimaaGreat.X
