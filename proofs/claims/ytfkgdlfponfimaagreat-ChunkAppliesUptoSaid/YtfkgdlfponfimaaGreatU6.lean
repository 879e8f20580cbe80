import Derived.Test.YtfkgdlfponfimaaGreatU5
import Derived.Laws.StructEq
import Derived.Laws.BytesString
/- Numbers, strings, equality, conversions. -/
namespace Go.Proofs.YtfkgdlfponfimaaGreat.X
open Go Go.RowKit
variable {B : BT} {P : Program} {ν : Nm} {G G' : Gh} {H H1 : Heap} {W W' : World}
theorem toList_data (s : ByteArray) : s.toList = s.data.toList := ByteArray.toList_eq s
theorem str_beq (x y : ByteArray) : (x.data.toList == y.data.toList) = decide (x = y) := by
  rw [Bool.eq_iff_iff]
  simp only [beq_iff_eq, decide_eq_true_eq]
  constructor
  · intro h
    cases x; cases y
    congr 1
    exact Array.ext' h
  · rintro rfl; rfl
theorem str_sound {op : BinOp} {x y : ByteArray} {v : AVal} (hl : aStr op x y = some v) : ∃ v', (Op.stringOp op x y).run P W = .ok v' W ∧ VR G v v' := by
  unfold aStr at hl
  cases op <;> simp only at hl <;> (try (cases hl; done)) <;>
    (first
      | (obtain rfl := Option.some.inj hl; refine ⟨_, by simp only [Op.stringOp, Sem.run_pure]; rfl, ?_⟩; simp only [toList_data, str_beq]; constructor)
      | (split at hl
         · cases hl
         · rename_i hn
           obtain rfl := Option.some.inj hl
           refine ⟨.string (x ++ y), ?_, .str _⟩
           simp only [Op.stringOp]
           rw [if_neg hn]; rfl))
theorem int_sound {op : BinOp} {k : IntKind} {a b : Int} {v : AVal} (hl : aInt op k a b = some v) (hs : op ≠ .shl ∧ op ≠ .shr) {t : TypeId} :
    ∃ v', (binOp op t (.int k a) (.int k b)).run P W = .ok v' W ∧ VR G v v' := by
  obtain ⟨h1, h2⟩ := hs
  cases op <;> simp only [aInt] at hl <;> first | (exact absurd rfl h1) | (exact absurd rfl h2) | (cases hl; done) | skip
  case quo =>
    split at hl
    · cases hl
    · rename_i hb
      obtain rfl := Option.some.inj hl
      refine ⟨_, ?_, .int _ _⟩
      simp only [binOp, ne_eq, not_true_eq_false, if_false, Op.intDiv]
      rw [if_neg hb]; rfl
  case rem =>
    split at hl
    · cases hl
    · rename_i hb
      obtain rfl := Option.some.inj hl
      refine ⟨_, ?_, .int _ _⟩
      simp only [binOp, ne_eq, not_true_eq_false, if_false, Op.intDiv]
      rw [if_neg hb]; rfl
  all_goals
    obtain rfl := Option.some.inj hl
    refine ⟨_, by simp only [binOp, ne_eq, not_true_eq_false, if_false, Op.intArith, Op.intBits, Op.intCmp, Sem.run_pure]; rfl, ?_⟩
    first | exact .int _ _ | exact .bool _ | exact VR.bool (G := G) (a == b) | exact VR.bool (G := G) (a != b)
theorem eqF_sound {T : TT} (hT : TTok B P T) {eq : TypeId → AVal → AVal → Option Bool} {m : Nat} (heq : ∀ t x y b x' y', eq t x y = some b → VR G x x' → VR G y y' → (Op.equalIn m t x' y').run P W = .ok b W)
    {xs ys : List AVal} {xs' ys' : Array Value} (hx : L2 (VR G) xs xs'.toList) (hy : L2 (VR G) ys ys'.toList) (h0 : ∀ c ∈ xs, c.one = true) (h1 : ∀ c ∈ ys, c.one = true) :
    ∀ (fields : List Field) (b : Bool), (∀ f ∈ fields, f.name ≠ "_") → aEqF T eq (.agg xs) (.agg ys) (fields.map fun f => (f.offset, f.type)) = some b → (Op.eqFields m xs' ys' fields).run P W = .ok b W := by
  have hp : ∀ {t ti} (ht : TOK B P t ti) (zs : List AVal) (zs' : Array Value) (hz : L2 (VR G) zs zs'.toList) (hz0 : ∀ c ∈ zs, c.one = true) (off : Nat) (v : AVal), part ti (.agg zs) off = some v → ∃ v', (Go.part t zs' off).run P W = .ok v' W ∧ VR G v v' := by
    intro t ti ht zs zs' hz hz0 off v hv
    have h0' : ∀ c ∈ (AVal.agg zs).cells, c.one = true := hz0
    obtain ⟨p1, p2, p3, p4, p5⟩ := part_cells ht hv h0'
    have h6 : L2 (VR G) v.cells ((zs'.toList.drop off).take ti.size) := by rw [p3]; exact (hz.drop _).take _
    have hlen : v.cells.length = ti.size := by rw [p3, List.length_take, List.length_drop]; omega
    refine ⟨_, ?_, mkPart ht h6 hlen p2 (fun c hc => hz0 c (by rw [p3] at hc; exact List.mem_of_mem_drop (List.mem_of_mem_take hc))) p4 p5⟩
    simp only [Go.part, Sem.run_bind, run_agg ht, Result.andThen_ok]
    have p1' : off + ti.size ≤ zs'.size := by have : zs'.size = zs.length := by simpa using hz.1.symm
                                              rw [this]; exact p1
    cases hka : ti.k.agg with
    | true =>
      simp only [if_true, Sem.run_bind, run_size ht, Result.andThen_ok, Sem.run_pure]
      congr 2
      apply Array.ext'
      simp only [Array.toList_extract, List.extract_eq_take_drop]
      congr 1
      omega
    | false =>
      have hs1 := ht.flatS hka
      have hlt : off < zs'.size := by omega
      simp only [Bool.false_eq_true, if_false, Array.getElem?_eq_getElem hlt, Sem.run_pure]
      congr 1
      have e1 : ∀ l : List Value, l.take ti.size = l.take 1 := fun l => by rw [hs1]
      rw [e1, List.drop_eq_getElem_cons (by simpa using hlt)]
      rfl
  intro fields
  induction fields with
  | nil => intro b _ h; simp only [List.map_nil, aEqF] at h; obtain rfl := Option.some.inj h; simp [Op.eqFields]
  | cons f fs ih =>
    intro b hn h
    simp only [List.map_cons, aEqF] at h
    cases hti : T f.type with
    | none => rw [hti] at h; cases h
    | some ti =>
      rw [hti] at h
      simp only at h
      cases h2 : part ti (.agg xs) f.offset with
      | none => rw [h2] at h; cases h
      | some a =>
        cases h3 : part ti (.agg ys) f.offset with
        | none => rw [h2, h3] at h; cases h
        | some c =>
          rw [h2, h3] at h
          simp only at h
          cases h4 : eq f.type a c with
          | none => rw [h4] at h; cases h
          | some r =>
            rw [h4] at h
            simp only at h
            cases h5 : aEqF T eq (.agg xs) (.agg ys) (fs.map fun f => (f.offset, f.type)) with
            | none => rw [h5] at h; cases h
            | some s =>
              rw [h5] at h
              obtain rfl := Option.some.inj h
              obtain ⟨a', ha1, ha2⟩ := hp (hT _ _ hti) xs xs' hx h0 f.offset a h2
              obtain ⟨c', hc1, hc2⟩ := hp (hT _ _ hti) ys ys' hy h1 f.offset c h3
              have h6 := heq _ _ _ _ _ _ h4 ha2 hc2
              have h7 := ih s (fun g hg => hn g (List.mem_cons_of_mem _ hg)) h5
              rw [Op.eqFields, if_pos (hn f List.mem_cons_self)]
              simp only [Sem.run_bind, ha1, hc1, h6, Result.andThen_ok]
              cases r
              · simp
              · simpa using h7
theorem eq_sound {T : TT} (hT : TTok B P T) : ∀ (d : Nat) (t : TypeId) (x y : AVal) (b : Bool) (x' y' : Value), aEq T d t x y = some b → VR G x x' → VR G y y' → ∀ m, (Op.equalIn (d + m) t x' y').run P W = .ok b W := by
  intro d
  induction d with
  | zero => intro t x y b x' y' h; simp [aEq] at h
  | succ d ih =>
    intro t x y b x' y' h hx hy m
    have e : d + 1 + m = (d + m) + 1 := by omega
    rw [e]
    simp only [aEq] at h
    cases hti : T t with
    | none => rw [hti] at h; cases h
    | some ti =>
      rw [hti] at h
      have ht := hT t ti hti
      simp only at h
      cases hk : ti.k <;> rw [hk] at h <;> try (cases h; done)
      · cases hx with
        | bool a => cases hy with
          | bool c => obtain rfl := Option.some.inj h; exact run_equalIn_bool' W _ t a c (under_bool ht hk)
          | _ => cases h
        | _ => cases h
      · cases hx with
        | int k a => cases hy with
          | int k' c =>
            simp only at h
            split at h
            · rename_i hkk; subst hkk
              obtain rfl := Option.some.inj h
              rw [run_equalIn_int W _ t _ _ a c (under_int ht hk)]
              rfl
            · cases h
          | _ => cases h
        | _ => cases h
      · cases hx with
        | str a => cases hy with
          | str c =>
            obtain rfl := Option.some.inj h
            rw [run_equalIn_string W _ t a c (under_str ht hk), toList_data, toList_data, str_beq]
          | _ => cases h
        | _ => cases h
      · obtain ⟨pe, hu⟩ := under_ptr ht hk
        cases hx with
        | nilp => cases hy with
          | nilp => obtain rfl := Option.some.inj h; simp [Op.equalIn, run_underlying hu]
          | ptr hq => obtain rfl := Option.some.inj h; simp [Op.equalIn, run_underlying hu]
          | _ => cases h
        | ptr hq => cases hy with
          | nilp => obtain rfl := Option.some.inj h; simp [Op.equalIn, run_underlying hu]
          | _ => cases h
        | _ => cases h
      · have hu := under_slice ht hk
        cases hx with
        | nls => cases hy with
          | nls => obtain rfl := Option.some.inj h; simp [Op.equalIn, run_underlying hu]
          | _ => cases h
        | nne => cases hy with
          | nls => obtain rfl := Option.some.inj h; simp [Op.equalIn, run_underlying hu]
          | _ => cases h
        | slc => cases hy with
          | nls => obtain rfl := Option.some.inj h; simp [Op.equalIn, run_underlying hu]
          | _ => cases h
        | @lst xs b o w c cv n0 => cases hy with
          | nls =>
            cases xs with
            | nil => exact absurd rfl n0
            | cons => obtain rfl := Option.some.inj h; simp [Op.equalIn, run_underlying hu]
          | _ => cases xs <;> cases h
        | lst0 => cases hy <;> cases h
        | _ => cases h
      · rename_i fs
        cases x <;> try (cases h; done)
        rename_i xs
        cases y <;> try (cases h; done)
        rename_i ys
        obtain ⟨xs', rfl, hx2, hx0⟩ := hx.ofAgg
        obtain ⟨ys', rfl, hy2, hy0⟩ := hy.ofAgg
        obtain ⟨fields, hu, hm, hn⟩ := under_strct ht hk
        have hf : P.fieldsOf t = fields := by simp [Program.fieldsOf, hu]
        rw [run_equalIn_struct (P := P) W (d + m) t xs' ys' (by rw [hf]; exact hu) (ht.stood ⟨_, hk⟩).1, hf]
        simp only at h
        rw [← hm] at h
        exact eqF_sound hT (fun t x y b x' y' h1 h2 h3 => ih t x y b x' y' h1 h2 h3 m) hx2 hy2 hx0 hy0 fields.toList b hn h
      · obtain ⟨pe, hu⟩ := under_iface ht hk
        cases hx with
        | nili => cases hy with
          | nili => obtain rfl := Option.some.inj h; simp [Op.equalIn, run_underlying hu]
          | _ => cases h
        | _ => cases h
theorem forIn_range {α : Type} (n : Nat) (f : Nat → α → Sem (ForInStep α)) (b : α) : (forIn [0:n] b f) = forIn (List.range n) b f := by
  rw [Std.Legacy.Range.forIn_eq_forIn_range']
  simp [Std.Legacy.Range.size, List.range_eq_range']
theorem run_equalIn_array (w : World) (d : Nat) (t e : TypeId) (n sz : Nat) (xs ys : Array Value) (ht : P.underlying t = some (.array n e)) (hs : (sizeOf e).run P w = .ok sz w) :
    (Op.equalIn (d + 1) t (.agg xs) (.agg ys)).run P w = (Op.eqFields d xs ys ((List.range n).map fun i => ({ (default : Field) with name := "a", type := e, offset := i * sz } : Field))).run P w := by
  simp only [Op.equalIn, Sem.run_bind, run_underlying ht, Result.andThen_ok, hs]
  rw [forIn_range]
  generalize List.range n = l
  clear hs
  induction l generalizing w with
  | nil => simp [Op.eqFields]
  | cons i l ih =>
    simp only [List.forIn_cons, List.map_cons, Op.eqFields, Sem.run_bind, Sem.run_ite]
    rw [if_pos (show ("a" : String) ≠ "_" by decide)]
    try simp only [Sem.run_bind]
    generalize (Go.part e xs (i * sz)).run P w = r1
    cases r1 with
    | ok a w1 =>
      simp only [Result.andThen_ok]
      generalize (Go.part e ys (i * sz)).run P w1 = r2
      cases r2 with
      | ok b w2 =>
        simp only [Result.andThen_ok]
        generalize (Op.equalIn d e a b).run P w2 = r3
        cases r3 with
        | ok r w3 =>
          cases r
          · simp
          · simp only [Result.andThen_ok, Bool.not_true, Bool.false_eq_true, if_false, Sem.run_pure, Sem.run_ite]
            exact ih w3
        | halt x w3 => simp [Result.andThen]
      | halt x w2 => simp [Result.andThen]
    | halt x w1 => simp [Result.andThen]
theorem eqA_sound {T : TT} (hT : TTok B P T) {op : BinOp} {t : TypeId} {x y : AVal} {b : Bool} {x' y' : Value} (h : aEqA T t x y = some b) (hx : VR G x x') (hy : VR G y y') (xo yo : Operand) :
    (eqGuard op t xo yo x' y').run P W = .ok () W ∧ (Op.equal t x' y').run P W = .ok b W ∧ ∃ xs, x = .agg xs := by
  unfold aEqA at h
  split at h
  · rename_i ti hti
    have ht := hT t ti hti
    split at h
    · rename_i n e hk
      split at h
      · rename_i xs ys
        split at h
        · rename_i ei hei
          obtain ⟨xs', rfl, hx2, hx0⟩ := hx.ofAgg
          obtain ⟨ys', rfl, hy2, hy0⟩ := hy.ofAgg
          refine ⟨run_eqGuard_agg (P := P) W op t xo yo xs' ys' (ht.arrG ⟨n, e, hk⟩), ?_, xs, Z⟩
          have hs := run_size (hT e ei hei) W
          show (Op.equalIn 10000 t (.agg xs') (.agg ys')).run P W = .ok b W
          rw [run_equalIn_array (P := P) W 9999 t e n ei.size xs' ys' (under_array ht hk) hs]
          refine eqF_sound hT (fun t x y b x' y' h1 h2 h3 => eq_sound hT 4 t x y b x' y' h1 h2 h3 9995) hx2 hy2 hx0 hy0 _ b (fun f hf => ?_) ?_
          · obtain ⟨i, _, rfl⟩ := List.mem_map.1 hf
            exact (by decide : ("a" : String) ≠ "_")
          · rw [List.map_map]; exact h
        · cases h
      · cases h
    · cases h
  · cases h
theorem guard_plain {T : TT} (hT : TTok B P T) {op : BinOp} {t : TypeId} {x y : AVal} {x' y' : Value} {b : Bool} (h : aEq T 4 t x y = some b) (hx : VR G x x') (hy : VR G y y') (xo yo : Operand)
    (hc : x = .nili → ∃ c, xo = .const c ∨ yo = .const c) : (eqGuard op t xo yo x' y').run P W = .ok () W := by
  have h' := h
  simp only [aEq] at h
  cases hti : T t with
  | none => rw [hti] at h; cases h
  | some ti =>
    rw [hti] at h
    simp only at h
    by_cases hxa : ∃ cs, x = .agg cs
    · obtain ⟨xs, rfl⟩ := hxa
      obtain ⟨xs', rfl, _, _⟩ := hx.ofAgg
      cases hk : ti.k <;> rw [hk] at h <;> try (cases h; done)
      cases y <;> try (cases h; done)
      obtain ⟨ys', rfl, _, _⟩ := hy.ofAgg
      exact run_eqGuard_agg (P := P) W op t xo yo xs' ys' ((hT t ti hti).stood ⟨_, hk⟩).2
    · by_cases hn : x = .nili
      · subst hn
        obtain ⟨c, hc⟩ := hc rfl
        cases hx
        cases hy <;> (cases hk : ti.k <;> rw [hk] at h <;> try (cases h; done))
        unfold eqGuard
        rcases hc with rfl | rfl <;> simp <;> split <;> simp
      · have hnt : ∀ vs, x ≠ .tup vs := by
          rintro vs rfl
          cases hk : ti.k <;> rw [hk] at h <;> cases h
        unfold eqGuard
        cases hx <;> first | exact absurd ⟨_, rfl⟩ hxa | exact absurd rfl (hnt _) | exact absurd rfl hn | (simp; done) | (simp; split <;> simp)
end Go.Proofs.YtfkgdlfponfimaaGreat.X
