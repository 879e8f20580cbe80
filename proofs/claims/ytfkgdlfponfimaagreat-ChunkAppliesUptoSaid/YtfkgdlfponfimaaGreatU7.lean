import Derived.Test.YtfkgdlfponfimaaGreatU6
import Derived.IntWalk
/- New rows, appends, what is built. -/
namespace Go.Proofs.YtfkgdlfponfimaaGreat.X
open Go Go.RowKit
variable {B : BT} {P : Program} {ν : Nm} {G G' : Gh} {H H1 : Heap} {W W' : World}
theorem ownB_row {w : Nat} {xs : List AVal} {l : Loc} {W : World} {k : Nat} (h : ownB (.row w xs) l W k) : k = l.b := by
  rcases h with h | ⟨s, p, v, T, he, _⟩
  · exact h
  · cases he
theorem heap_new (W : World) (o : Obj) : (W.alloc o).heap[W.heap.size]? = some o := heap_alloc_new W o
theorem new_row (h : R B G H W) (hf : Fresh ν G H) {w : Nat} {xs : List AVal} {cs : Array Value} {T : TypeId} {cap : Nat} (hw : wide w xs) (hc : cs.size = cap * w) (hx : xs.length ≤ cap) (hm : cap ≤ maxLen) (hl : L2 (VR G) (flat xs) (cs.toList.take (xs.length * w))) :
    ∃ G', R B G' (H.put ν (some (.row w xs))) (W.alloc (.cells cs T)) ∧ St ν G G' H (H.put ν (some (.row w xs))) W (W.alloc (.cells cs T)) ∧ G'.mu ν = some ⟨W.heap.size, cap, w⟩ ∧ G'.F = G.F :=
  h.object hf _ _ ⟨W.heap.size, cap, w⟩ rfl (fun G' hg _ => ⟨rfl, cs, T, heap_new W _, hc, hx, hm, hw, hl.mono fun _ _ e => e.mono hg⟩) (fun k hk => ownB_row hk)
theorem maxLen_one : 1 ≤ maxLen := by unfold maxLen; omega
theorem box_sound (h : R B G H W) (hf : Fresh ν G H) {T : TypeId} {v : AVal} {v' : Value} {n : Nat} (hv : VR G v v') (hn : ∀ vs, v ≠ .tup vs) (hl : v.cells.length = n) :
    ∃ G', R B G' (H.put ν (some (.row n [v]))) (W.alloc (.cells v'.cells T)) ∧ St ν G G' H (H.put ν (some (.row n [v]))) W (W.alloc (.cells v'.cells T)) ∧ VR G' (.ptr ν 0 0) (.pointer (some ⟨W.heap.size, 0, none⟩)) := by
  obtain ⟨h2, h1⟩ := hv.cellsOf hn
  have hw : wide n [v] := fun x hx => by simp at hx; subst hx; exact ⟨hl, h1⟩
  have hs : v'.cells.size = n := by have := h2.1; rw [hl] at this; simpa using this.symm
  obtain ⟨G', r1, r2, r3, r4⟩ := new_row (T := T) (cap := 1) (cs := v'.cells) h hf hw (by rw [hs]; omega) (Nat.le_refl 1) maxLen_one (by
    rw [List.take_of_length_le (by simp [hs])]
    simpa [flat] using h2)
  refine ⟨G', r1, r2, ?_⟩
  have := VR.ptr (G := G') (i := 0) (off := 0) r3
  simpa using this
theorem alloc_sound {T : TT} (hT : TTok B P T) (h : R B G H W) (hf : Fresh ν G H) {t : TypeId} {v : AVal} (hl : aAlloc T ν H t = some (v, H1)) :
    ∃ v' W' G', (Instr.alloc t true (.tuple #[])).run P W = .ok v' W' ∧ VR G' v v' ∧ R B G' H1 W' ∧ St ν G G' H H1 W W' := by
  unfold aAlloc at hl
  cases hti : T t with
  | none => rw [hti] at hl; cases hl
  | some ti =>
    rw [hti] at hl
    have ht := hT t ti hti
    simp only at hl
    have row : (if zeroCellsOk ti then some (AVal.ptr ν 0 0, H.put ν (some (.row ti.size [ti.zero]))) else none) = some (v, H1) → ∃ v' W' G', (Instr.alloc t true (.tuple #[])).run P W = .ok v' W' ∧ VR G' v v' ∧ R B G' H1 W' ∧ St ν G G' H H1 W W' := by
      intro hl
      split at hl
      · obtain ⟨rfl, rfl⟩ := Prod.mk.inj (Option.some.inj hl)
        obtain ⟨z, hz1, hz2⟩ := run_zero ht W
        obtain ⟨G', r1, r2, r3⟩ := box_sound (T := t) h hf (hz2 G) ht.zt ht.zc
        exact ⟨_, _, G', by simp only [Instr.alloc, Sem.run_bind, hz1, Result.andThen_ok, newVar, newRow, run_newObj, Sem.run_pure]; rfl, r3, r1, r2⟩
      · cases hl
    cases hk : ti.k <;> rw [hk] at hl <;> simp only at hl
    case bld =>
      obtain ⟨rfl, rfl⟩ := Prod.mk.inj (Option.some.inj hl)
      obtain ⟨rfl, i, hi1, hi2⟩ := ht.bld hk
      have hb : Lib.IsBuilder B.tb B.tu 0 W.heap.size (Lib.strCells ⟨#[]⟩) (W.alloc (.cells #[.pointer none, .slice none 0 0] B.tb)) := .inl ⟨Nat.zero_le _, _, heap_new W _, World.ownsRow_nil _ _ _ _, by simp [Value.ownBlock]⟩
      obtain ⟨G', r1, r2, r3, r4⟩ := h.object hf (.cells #[.pointer none, .slice none 0 0] B.tb) (.bld ⟨#[]⟩) ⟨W.heap.size, 1, 2⟩ rfl (fun G' _ _ => hb) (fun k hk => by
        rcases hk with hk | ⟨s, p, v, T', he, h2, h3⟩
        · exact hk
        · rw [heap_new] at h2
          injection h2 with h2; injection h2 with h2 _ _; injection h2 with h2; injection h2 with _ h2; injection h2 with h2 _
          subst h2; simp [Value.ownBlock] at h3)
      refine ⟨.pointer (some ⟨W.heap.size, 0, none⟩), _, G', ?_, ?_, r1, r2⟩
      · simp only [Instr.alloc, zeroValue, typeInfo, Sem.run_bind, run_program, Result.andThen_ok, hi1, Sem.run_pure, hi2, newVar, newRow, run_newObj]; rfl
      · have := VR.ptr (G := G') (i := 0) (off := 0) r3
        simpa using this
    all_goals exact row hl
theorem aBox_sound {T : TT} (hT : TTok B P T) (h : R B G H W) (hf : Fresh ν G H) {t : TypeId} {v x : AVal} {x' : Value} (hx : VR G x x') (hl : aBox T ν H t x = some (v, H1)) :
    ∃ v' W' G', (Instr.box t x').run P W = .ok v' W' ∧ VR G' v v' ∧ R B G' H1 W' ∧ St ν G G' H H1 W W' := by
  unfold aBox at hl
  cases hti : T t with
  | none => rw [hti] at hl; cases hl
  | some ti =>
    rw [hti] at hl
    simp only at hl
    split at hl
    · rename_i hlen
      obtain ⟨hn, hlen⟩ := hlen
      obtain ⟨rfl, rfl⟩ := Prod.mk.inj (Option.some.inj hl)
      obtain ⟨G', r1, r2, r3⟩ := box_sound (T := t) h hf hx (notTup hn) hlen
      exact ⟨_, _, G', by simp only [Instr.box, newVar, newRow, Sem.run_bind, run_newObj, Result.andThen_ok, Sem.run_pure]; rfl, r3, r1, r2⟩
    · cases hl
theorem flat_rep_get (x : AVal) (w : Nat) (hw : x.cells.length = w) (h0 : 0 < w) : ∀ (n k : Nat), k < n * w → (flat (List.replicate n x))[k]? = x.cells[k % w]? := by
  intro n
  induction n with
  | zero => intro k hk; omega
  | succ n ih =>
    intro k hk
    rw [List.replicate_succ, flat_cons]
    by_cases hkw : k < w
    · rw [List.getElem?_append_left (by omega), Nat.mod_eq_of_lt hkw]
    · rw [List.getElem?_append_right (by omega), hw, ih (k - w) (by rw [Nat.add_mul] at hk; omega)]
      congr 1
      rw [Nat.mod_eq_sub_mod (by omega : w ≤ k)]
theorem wide_rep {x : AVal} {w : Nat} (n : Nat) (hw : x.cells.length = w) (h1 : ∀ c ∈ x.cells, c.one = true) : wide w (List.replicate n x) := fun y hy => by
  obtain ⟨_, rfl⟩ := List.mem_replicate.1 hy; exact ⟨hw, h1⟩
theorem rep_L2 {x : AVal} {z : Array Value} (h : L2 (VR G) x.cells z.toList) (h1 : ∀ c ∈ x.cells, c.one = true) (h0 : 0 < z.size) (n : Nat) : L2 (VR G) (flat (List.replicate n x)) ((Array.range (n * z.size)).map fun i => z[i % z.size]!).toList := by
  have hw : x.cells.length = z.size := by simpa using h.1
  refine ⟨by rw [flat_length (wide_rep n hw h1)]; simp, fun k a b ha hb => ?_⟩
  have hk : k < n * z.size := by have := (List.getElem?_eq_some_iff.1 hb).1; simpa using this
  rw [flat_rep_get x z.size hw h0 n k hk] at ha
  have hm := Nat.mod_lt k h0
  have e : b = z[k % z.size]! := by
    simp [hk] at hb
    exact hb.symm
  refine h.2 (k % z.size) a b ha ?_
  rw [e, Array.getElem?_toList, Array.getElem?_eq_getElem hm, getElem!_pos z _ hm]
theorem i64_small {n : Int} (h0 : 0 ≤ n) (h1 : n ≤ 9223372036854775807) : IntKind.i64.wrap n = n := IntWalk.i64_in n ⟨by omega, h1⟩
theorem makeSlice_sound {T : TT} (hT : TTok B P T) (h : R B G H W) (hf : Fresh ν G H) {t : TypeId} {v l c : AVal} {l' c' : Value} (hl' : VR G l l') (hc' : VR G c c') (hl : aMakeSlice T ν H t l c = some (v, H1)) :
    ∃ v' W' G', (Instr.makeSlice t l' c').run P W = .ok v' W' ∧ VR G' v v' ∧ R B G' H1 W' ∧ St ν G G' H H1 W W' := by
  unfold aMakeSlice at hl
  cases hti : T t with
  | none => rw [hti] at hl; simp at hl
  | some ti =>
    rw [hti] at hl
    have ht := hT t ti hti
    cases hl' with
    | int k1 n => cases hc' with
      | int k2 m =>
        simp only at hl
        cases hk : ti.k <;> rw [hk] at hl <;> try (cases hl; done)
        rename_i e
        simp only at hl
        cases hei : T e with
        | none => rw [hei] at hl; cases hl
        | some ei =>
          rw [hei] at hl
          have he := hT e ei hei
          simp only at hl
          split at hl
          · rename_i hb
            obtain ⟨b0, b1, b2, b3⟩ := hb
            obtain ⟨rfl, rfl⟩ := Prod.mk.inj (Option.some.inj hl)
            obtain ⟨z, hz1, hz2⟩ := run_zero he W
            obtain ⟨i, hi1, hi2, hi3, hi4⟩ := run_ti he W
            obtain ⟨hzl, hz0⟩ := (hz2 G).cellsOf he.zt
            have hzs : z.cells.size = ei.size := by have := hzl.1; rw [he.zc] at this; simpa using this.symm
            have hu := under_slice ht hk
            have hmm : m * ei.bytes ≤ 1099511627776 := by
              have : m * (ei.bytes + 1 : Int) = m * ei.bytes + m := by rw [Int.mul_add, Int.mul_one]
              have h0 : 0 ≤ m * (ei.bytes : Int) := Int.mul_nonneg (by omega) (by omega)
              omega
            have hm40 : m ≤ 1099511627776 := by
              have : m * (ei.bytes + 1 : Int) = m * ei.bytes + m := by rw [Int.mul_add, Int.mul_one]
              have h0 : 0 ≤ m * (ei.bytes : Int) := Int.mul_nonneg (by omega) (by omega)
              omega
            have e1 : IntKind.i64.wrap n = n := i64_small b0 (by omega)
            have e2 : IntKind.i64.wrap m = m := i64_small (by omega) (by omega)
            have hrep := rep_L2 hzl hz0 (by rw [hzs]; exact he.pos) m.toNat
            have hrun : (Instr.makeSlice t (.int k1 n) (.int k2 m)).run P W = .ok (.slice (some ⟨W.heap.size, 0, none⟩) n.toNat m.toNat) (W.alloc (.cells ((Array.range (m.toNat * z.cells.size)).map fun i => z.cells[i % z.cells.size]!) e)) := by
              have c1 : ¬ (m < 0) := by omega
              have c2 : ¬ ((2 : Int) ^ 48 < ↑ei.bytes * m) := by rw [Int.mul_comm]; omega
              have c3 : ¬ (n < 0) := by omega
              have c4 : ¬ (m < n) := by omega
              simp only [Instr.makeSlice, Sem.run_bind, run_underlying hu, Result.andThen_ok, asInt, asIntOf, Sem.run_pure, hi1, hi4, e1, e2, gt_iff_lt, c1, c2, c3, c4, decide_false, Bool.or_false, Bool.false_eq_true, if_false, run_askRoom, run_size he, ← hzs, newRow, run_newObj]
              by_cases hn : m.toNat * z.cells.size = 0
              · rw [if_pos hn]
                have e0 : ∀ f : Nat → Value, (Array.range 0).map f = #[] := fun f => by simp
                simp only [Sem.run_bind, Sem.run_pure, Result.andThen_ok, run_newObj, hn, e0]
                rfl
              · rw [if_neg hn]
                simp only [Sem.run_bind, hz1, Result.andThen_ok, Sem.run_pure]
                rfl
            have hzw : ei.zero.cells.length = z.cells.size := by rw [hzs]; exact he.zc
            obtain ⟨G', r1, r2, r3, r4⟩ := new_row (T := e) (w := ei.size) (xs := List.replicate n.toNat ei.zero) (cap := m.toNat) (cs := (Array.range (m.toNat * z.cells.size)).map fun i => z.cells[i % z.cells.size]!) h hf (wide_rep _ he.zc hz0) (by simp [hzs]) (by simp; omega) (by unfold maxLen; omega) (by
                have h6 := hrep.take (n.toNat * ei.size)
                have e3 : (flat (List.replicate m.toNat ei.zero)).take (n.toNat * ei.size) = flat (List.replicate n.toNat ei.zero) := by
                  rw [← flat_take (wide_rep _ he.zc hz0), List.take_replicate]
                  congr 2; omega
                rw [e3] at h6
                simpa using h6)
            refine ⟨_, _, G', hrun, ?_, r1, r2⟩
            have := VR.slc (G := G') (off := 0) (len := n.toNat) (cap := m.toNat) (a := ⟨W.heap.size, 0, none⟩) r3 rfl (by simp) (by omega) (.inl (by simp))
            exact this
          · cases hl
      | _ => simp at hl
    | _ => simp at hl
end Go.Proofs.YtfkgdlfponfimaaGreat.X
