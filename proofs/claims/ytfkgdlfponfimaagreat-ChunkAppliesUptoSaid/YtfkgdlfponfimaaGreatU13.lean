import Derived.Test.YtfkgdlfponfimaaGreatU12
import Derived.MapKept
/- Maps: looked up, written, made. -/
namespace Go.Proofs.YtfkgdlfponfimaaGreat.X
open Go Go.RowKit
variable {B : BT} {P : Program} {ν : Nm} {G G' : Gh} {H H1 : Heap} {W W' : World}
theorem kSame1_eq {a b : AVal} (h : kSame1 a b = true) : a = b := by
  cases a <;> cases b <;> simp_all [kSame1]
theorem kSames_eq : ∀ {as bs : List AVal}, kSames as bs = true → as = bs
  | [], [], _ => rfl
  | a :: as, b :: bs, h => by
    simp only [kSames, Bool.and_eq_true] at h
    rw [kSame1_eq h.1, kSames_eq h.2]
  | [], _ :: _, h => by simp [kSames] at h
  | _ :: _, [], h => by simp [kSames] at h
theorem kSame_eq {a b : AVal} (h : kSame a b = true) : a = b := by
  unfold kSame at h
  split at h
  · rw [kSames_eq h]
  · exact kSame1_eq h
theorem sameBits1 {a b : AVal} {x y : Value} (h : kSame1 a b = true) (hx : VR G a x) (hy : VR G b y) (n : Nat) : Instr.sameBits n x y = true := by
  cases a <;> cases b <;> first | (simp [kSame1] at h; done) | skip
  all_goals
    cases hx; cases hy
    simp [kSame1] at h
    cases n <;> simp [Instr.sameBits, h, MapKept.bytes_beq]
theorem sameBits_list : ∀ {as bs : List AVal} {xs ys : List Value}, kSames as bs = true → L2 (VR G) as xs → L2 (VR G) bs ys → ∀ n, xs.length = ys.length ∧ ((xs.zip ys).all fun (x, y) => Instr.sameBits n x y) = true
  | [], [], xs, ys, _, hx, hy, n => by
    obtain rfl := List.length_eq_zero_iff.1 hx.1.symm
    obtain rfl := List.length_eq_zero_iff.1 hy.1.symm
    exact ⟨rfl, rfl⟩
  | a :: as, b :: bs, xs, ys, h, hx, hy, n => by
    simp only [kSames, Bool.and_eq_true] at h
    cases xs with
    | nil => exact absurd hx.1 (by simp)
    | cons x xs => cases ys with
      | nil => exact absurd hy.1 (by simp)
      | cons y ys =>
        have h1 := sameBits1 h.1 (hx.2 0 _ _ rfl rfl) (hy.2 0 _ _ rfl rfl) n
        have h2 := sameBits_list h.2 (xs := xs) (ys := ys) ⟨by simpa using hx.1, fun i u v e e' => hx.2 (i + 1) u v (by simpa using e) (by simpa using e')⟩ ⟨by simpa using hy.1, fun i u v e e' => hy.2 (i + 1) u v (by simpa using e) (by simpa using e')⟩ n
        refine ⟨by simp [h2.1], ?_⟩
        simp only [List.zip_cons_cons, List.all_cons, h1, Bool.true_and]
        exact h2.2
  | [], _ :: _, _, _, h, _, _, _ => by simp [kSames] at h
  | _ :: _, [], _, _, h, _, _, _ => by simp [kSames] at h
theorem sameBits_of {a b : AVal} {x y : Value} (h : kSame a b = true) (hx : VR G a x) (hy : VR G b y) (n : Nat) : Instr.sameBits (n + 1) x y = true := by
  unfold kSame at h
  split at h
  · obtain ⟨xs, rfl, hx2, _⟩ := hx.ofAgg
    obtain ⟨ys, rfl, hy2, _⟩ := hy.ofAgg
    obtain ⟨h1, h2⟩ := sameBits_list h hx2 hy2 n
    have h1' : xs.size = ys.size := by simpa using h1
    simp only [Instr.sameBits, h1', beq_self_eq_true, Bool.true_and]
    exact h2
  · exact sameBits1 h hx hy _
theorem run_stays {a b : AVal} {x y : Value} (h : kSame a b = true) (hx : VR G a x) (hy : VR G b y) : (Instr.keyThatStays x y).run P W = .ok y W := by
  have := sameBits_of h hx hy 9999
  simp [Instr.keyThatStays, this]
theorem checkFields {T : TT} (hT : TTok B P T) {eq : TypeId → AVal → AVal → Option Bool} {m : Nat} {emp : Bool} (heq : ∀ t x y b x', eq t x y = some b → VR G x x' → (Instr.checkKey emp m t x').run P W = .ok () W)
    {xs ys : List AVal} {xs' : Array Value} (hx : L2 (VR G) xs xs'.toList) (h0 : ∀ c ∈ xs, c.one = true) :
    ∀ (fields : List Field) (b : Bool), aEqF T eq (.agg xs) (.agg ys) (fields.map fun f => (f.offset, f.type)) = some b →
      (forIn fields PUnit.unit (fun (f : Field) (_ : PUnit) => (if f.name ≠ "_" then (do
          let y ← Go.part f.type xs' f.offset
          Instr.checkKey emp m f.type y
          pure (ForInStep.yield PUnit.unit)) else pure (ForInStep.yield PUnit.unit) : Sem (ForInStep PUnit)))).run P W = .ok PUnit.unit W := by
  have hp : ∀ {t ti} (ht : TOK B P t ti) (zs : List AVal) (zs' : Array Value) (hz : L2 (VR G) zs zs'.toList) (hz0 : ∀ c ∈ zs, c.one = true) (off : Nat) (v : AVal), part ti (.agg zs) off = some v → ∃ v', (Go.part t zs' off).run P W = .ok v' W ∧ VR G v v' := by
    intro t ti ht zs zs' hz hz0 off v hv
    have h0' : ∀ c ∈ (AVal.agg zs).cells, c.one = true := hz0
    obtain ⟨p1, p2, p3, p4, p5⟩ := part_cells ht hv h0'
    have h6 : L2 (VR G) v.cells ((zs'.toList.drop off).take ti.size) := by rw [p3]; exact (hz.drop _).take _
    have hlen : v.cells.length = ti.size := by rw [p3, List.length_take, List.length_drop]; omega
    refine ⟨_, ?_, mkPart ht h6 hlen p2 (fun c hc => hz0 c (by rw [p3] at hc; exact List.mem_of_mem_drop (List.mem_of_mem_take hc))) p4 p5⟩
    simp only [Go.part, Sem.run_bind, run_agg ht, Result.andThen_ok]
    have p1' : off + ti.size ≤ zs'.size := by have : zs'.size = zs.length := by simpa using hz.1.symm
                                              rw [this]; exact p1
    cases hka : ti.k.agg with
    | true =>
      simp only [if_true, Sem.run_bind, run_size ht, Result.andThen_ok, Sem.run_pure]
      congr 2
      apply Array.ext'
      simp only [Array.toList_extract, List.extract_eq_take_drop]
      congr 1
      omega
    | false =>
      have hs1 := ht.flatS hka
      have hlt : off < zs'.size := by omega
      simp only [Bool.false_eq_true, if_false, Array.getElem?_eq_getElem hlt, Sem.run_pure]
      congr 1
      have e1 : ∀ l : List Value, l.take ti.size = l.take 1 := fun l => by rw [hs1]
      rw [e1, List.drop_eq_getElem_cons (by simpa using hlt)]
      rfl
  intro fields
  induction fields with
  | nil => intro b h; simp
  | cons f fs ih =>
    intro b h
    simp only [List.map_cons, aEqF] at h
    cases hti : T f.type with
    | none => rw [hti] at h; cases h
    | some ti =>
      rw [hti] at h
      simp only at h
      cases h2 : part ti (.agg xs) f.offset with
      | none => rw [h2] at h; cases h
      | some a =>
        cases h3 : part ti (.agg ys) f.offset with
        | none => rw [h2, h3] at h; cases h
        | some c =>
          rw [h2, h3] at h
          simp only at h
          cases h4 : eq f.type a c with
          | none => rw [h4] at h; cases h
          | some r =>
            rw [h4] at h
            simp only at h
            cases h5 : aEqF T eq (.agg xs) (.agg ys) (fs.map fun f => (f.offset, f.type)) with
            | none => rw [h5] at h; cases h
            | some s =>
              obtain ⟨a', ha1, ha2⟩ := hp (hT _ _ hti) xs xs' hx h0 f.offset a h2
              have h6 := heq _ _ _ _ _ h4 ha2
              have h7 := ih s h5
              rw [List.forIn_cons]
              by_cases hn : f.name = "_"
              · simp only [hn, ne_eq, not_true_eq_false, if_false, Sem.run_bind, Sem.run_pure, Result.andThen_ok]
                exact h7
              · simp only [ne_eq, hn, not_false_eq_true, if_true, Sem.run_bind, ha1, h6, Result.andThen_ok, Sem.run_pure]
                exact h7
theorem checkKey_sound {T : TT} (hT : TTok B P T) (emp : Bool) : ∀ (d : Nat) (t : TypeId) (x y : AVal) (b : Bool) (x' : Value), aEq T d t x y = some b → VR G x x' → ∀ m, (Instr.checkKey emp (d + m) t x').run P W = .ok () W := by
  intro d
  induction d with
  | zero => intro t x y b x' h; simp [aEq] at h
  | succ d ih =>
    intro t x y b x' h hx m
    have e : d + 1 + m = (d + m) + 1 := by omega
    rw [e]
    simp only [aEq] at h
    cases hti : T t with
    | none => rw [hti] at h; cases h
    | some ti =>
      rw [hti] at h
      have ht := hT t ti hti
      simp only at h
      cases hk : ti.k <;> rw [hk] at h <;> try (cases h; done)
      case bool =>
        have hu := under_bool ht hk
        simp [Instr.checkKey, run_underlying hu]
      case int =>
        have hu := under_int ht hk
        simp [Instr.checkKey, run_underlying hu]
      case str =>
        have hu := under_str ht hk
        simp [Instr.checkKey, run_underlying hu]
      case ptr =>
        obtain ⟨_, hu⟩ := under_ptr ht hk
        simp [Instr.checkKey, run_underlying hu]
      case slice =>
        have hu := under_slice ht hk
        simp [Instr.checkKey, run_underlying hu]
      case strct fs =>
        cases x <;> try (cases h; done)
        rename_i xs
        cases y <;> try (cases h; done)
        rename_i ys
        obtain ⟨xs', rfl, hx2, hx0⟩ := hx.ofAgg
        obtain ⟨fields, hu, hm, hn⟩ := under_strct ht hk
        simp only at h
        rw [← hm] at h
        have := checkFields (emp := emp) (m := d + m) hT (fun t x y b x' h1 h2 => ih t x y b x' h1 h2 m) hx2 hx0 fields.toList b h
        rw [Array.forIn_toList] at this
        simp only [Instr.checkKey, Sem.run_bind, run_underlying hu, Result.andThen_ok, this, Sem.run_pure]
      case iface =>
        obtain ⟨_, hu⟩ := under_iface ht hk
        cases x <;> try (cases h; done)
        cases hx
        simp [Instr.checkKey, run_underlying hu]
theorem sameNow_sound {T : TT} (hT : TTok B P T) {t : TypeId} {x y : AVal} {b : Bool} {x' y' : Value} (h : aEq T 4 t x y = some b) (hx : VR G x x') (hy : VR G y y') {d : TypeDesc} (hd : P.underlying t = some d) : Instr.sameNow d x' y' = none ∨ Instr.sameNow d x' y' = some b := by
  simp only [aEq] at h
  cases hti : T t with
  | none => rw [hti] at h; cases h
  | some ti =>
    rw [hti] at h
    have ht := hT t ti hti
    simp only at h
    cases hk : ti.k <;> rw [hk] at h <;> try (cases h; done)
    case bool =>
      have hu := under_bool ht hk
      rw [hu] at hd; obtain rfl := Option.some.inj hd
      cases x <;> try (cases h; done)
      cases y <;> try (cases h; done)
      cases hx; cases hy
      right; exact h
    case int k =>
      have hu := under_int ht hk
      rw [hu] at hd; obtain rfl := Option.some.inj hd
      cases x <;> try (cases h; done)
      cases y <;> try (cases h; done)
      cases hx; cases hy
      right
      simp only [Instr.sameNow]
      simp only at h
      split at h
      · rename_i e
        rw [if_pos e, ← h]; rfl
      · cases h
    case str =>
      have hu := under_str ht hk
      rw [hu] at hd; obtain rfl := Option.some.inj hd
      cases x <;> try (cases h; done)
      cases y <;> try (cases h; done)
      cases hx; cases hy
      right
      rw [← h]
      simp only [Instr.sameNow, Option.some.injEq]
      rw [Bool.eq_iff_iff, MapKept.bytes_beq, decide_eq_true_eq]
    case ptr =>
      obtain ⟨_, hu⟩ := under_ptr ht hk
      rw [hu] at hd; obtain rfl := Option.some.inj hd
      left; cases x' <;> rfl
    case slice =>
      have hu := under_slice ht hk
      rw [hu] at hd; obtain rfl := Option.some.inj hd
      left; cases x' <;> rfl
    case strct =>
      obtain ⟨_, hu, _⟩ := under_strct ht hk
      rw [hu] at hd; obtain rfl := Option.some.inj hd
      left; cases x' <;> rfl
    case iface =>
      obtain ⟨_, hu⟩ := under_iface ht hk
      rw [hu] at hd; obtain rfl := Option.some.inj hd
      left; cases x' <;> rfl
def MR (G : Gh) (p : AVal × AVal) (e : MapEntry) : Prop := VR G p.1 e.key ∧ VR G p.2 e.val
def FR (k : AVal) (i : Nat) (es : List (AVal × AVal)) (es' : List MapEntry) : Option Nat → Option (Nat × Value) → Prop
  | none, none => True
  | some j, some (j', w) => j' = j ∧ i ≤ j ∧ ∃ p e, es[j - i]? = some p ∧ es'[j - i]? = some e ∧ e.val = w ∧ kSame k p.1 = true
  | _, _ => False
theorem FR.up {k : AVal} {i : Nat} {es : List (AVal × AVal)} {es' : List MapEntry} {r : Option Nat} {r' : Option (Nat × Value)} (p : AVal × AVal) (e : MapEntry) (h : FR k (i + 1) es es' r r') : FR k i (p :: es) (e :: es') r r' := by
  match r, r', h with
  | none, none, _ => trivial
  | some j, some (j', w), h =>
    obtain ⟨h1, h2, p', e', h3, h4, h5, h6⟩ := h
    refine ⟨h1, by omega, p', e', ?_, ?_, h5, h6⟩
    · have : j - i = (j - (i + 1)) + 1 := by omega
      rw [this]; simpa using h3
    · have : j - i = (j - (i + 1)) + 1 := by omega
      rw [this]; simpa using h4
theorem findNow_sound {T : TT} (hT : TTok B P T) {kt : TypeId} {k : AVal} {k' : Value} (hk : VR G k k') {d : TypeDesc} (hd : P.underlying kt = some d) :
    ∀ (es : List (AVal × AVal)) (es' : List MapEntry) (i : Nat) (r : Option Nat), aFind T kt k es i = some r → L2 (MR G) es es' → Instr.findNow d k' es' i = none ∨ ∃ r', Instr.findNow d k' es' i = some r' ∧ FR k i es es' r r' := by
  intro es
  induction es with
  | nil =>
    intro es' i r h hl
    obtain rfl := List.length_eq_zero_iff.1 hl.1.symm
    obtain rfl := Option.some.inj h
    exact .inr ⟨none, rfl, trivial⟩
  | cons p es ih =>
    intro es' i r h hl
    obtain ⟨k1, v1⟩ := p
    cases es' with
    | nil => exact absurd hl.1 (by simp)
    | cons e es' =>
      have h0 : MR G (k1, v1) e := hl.2 0 _ _ rfl rfl
      have htl : L2 (MR G) es es' := ⟨by simpa using hl.1, fun i a b ha hb => hl.2 (i + 1) a b (by simpa using ha) (by simpa using hb)⟩
      simp only [aFind] at h
      cases hq : aEq T 4 kt k k1 with
      | none => rw [hq] at h; cases h
      | some b =>
        rw [hq] at h
        rcases sameNow_sound hT hq hk h0.1 hd with h1 | h1
        · left; simp only [Instr.findNow, h1]
        · cases b with
          | true =>
            simp only at h
            split at h
            · rename_i hs
              obtain rfl := Option.some.inj h
              right
              exact ⟨some (i, e.val), by simp only [Instr.findNow, h1], rfl, Nat.le_refl _, (k1, v1), e, by simp, by simp, rfl, hs⟩
            · cases h
          | false =>
            simp only at h
            rcases ih es' (i + 1) r h htl with h2 | ⟨r', h2, h3⟩
            · left; simp only [Instr.findNow, h1]; exact h2
            · right; exact ⟨r', by simp only [Instr.findNow, h1]; exact h2, h3.up _ _⟩
theorem findAsking_sound {T : TT} (hT : TTok B P T) {kt : TypeId} {k : AVal} {k' : Value} (hk : VR G k k') :
    ∀ (es : List (AVal × AVal)) (es' : List MapEntry) (i : Nat) (r : Option Nat), aFind T kt k es i = some r → L2 (MR G) es es' → ∃ r', (Instr.findAsking kt k' es' i).run P W = .ok r' W ∧ FR k i es es' r r' := by
  intro es
  induction es with
  | nil =>
    intro es' i r h hl
    obtain rfl := List.length_eq_zero_iff.1 hl.1.symm
    obtain rfl := Option.some.inj h
    exact ⟨none, by simp [Instr.findAsking], trivial⟩
  | cons p es ih =>
    intro es' i r h hl
    obtain ⟨k1, v1⟩ := p
    cases es' with
    | nil => exact absurd hl.1 (by simp)
    | cons e es' =>
      have h0 : MR G (k1, v1) e := hl.2 0 _ _ rfl rfl
      have htl : L2 (MR G) es es' := ⟨by simpa using hl.1, fun i a b ha hb => hl.2 (i + 1) a b (by simpa using ha) (by simpa using hb)⟩
      simp only [aFind] at h
      cases hq : aEq T 4 kt k k1 with
      | none => rw [hq] at h; cases h
      | some b =>
        rw [hq] at h
        have h1 : (Op.equal kt k' e.key).run P W = .ok b W := eq_sound (P := P) (W := W) hT 4 kt k k1 b k' e.key hq hk h0.1 9996
        cases b with
        | true =>
          simp only at h
          split at h
          · rename_i hs
            obtain rfl := Option.some.inj h
            exact ⟨some (i, e.val), by simp [Instr.findAsking, h1], rfl, Nat.le_refl _, (k1, v1), e, by simp, by simp, rfl, hs⟩
          · cases h
        | false =>
          simp only at h
          obtain ⟨r', h2, h3⟩ := ih es' (i + 1) r h htl
          exact ⟨r', by simp [Instr.findAsking, h1, h2], h3.up _ _⟩
theorem findKey_sound {T : TT} (hT : TTok B P T) {kt : TypeId} {k : AVal} {k' : Value} (hk : VR G k k') {es : List (AVal × AVal)} {es' : List MapEntry} {r : Option Nat} {d : TypeDesc} (hd : P.underlying kt = some d) (h : aFind T kt k es 0 = some r) (hl : L2 (MR G) es es') :
    ∃ r', (Instr.findKey kt k' es').run P W = .ok r' W ∧ FR k 0 es es' r r' := by
  rcases findNow_sound hT hk hd es es' 0 r h hl with h1 | ⟨r', h1, h2⟩
  · obtain ⟨r', h2, h3⟩ := findAsking_sound (W := W) hT hk es es' 0 r h hl
    exact ⟨r', by simp [Instr.findKey, run_underlying hd, Result.andThen, h1, h2], h3⟩
  · exact ⟨r', MapKept.run_findKey hd h1, h2⟩
theorem kt_under {T : TT} (hT : TTok B P T) {kt : TypeId} {k y : AVal} {b : Bool} {m : Nat} (h : aEq T (m + 1) kt k y = some b) : ∃ d, P.underlying kt = some d := by
  simp only [aEq] at h
  cases hti : T kt with
  | none => rw [hti] at h; cases h
  | some ti => obtain ⟨d, h1, _⟩ := under_d (hT kt ti hti); exact ⟨d, h1⟩
theorem lookup_sound {T : TT} (hT : TTok B P T) (h : R B G H W) {t : TypeId} {m k v : AVal} {ok : Bool} {m' k' : Value} (hl : aLookup T H t m k ok = some v) (hm : VR G m m') (hk : VR G k k') : ∃ v', (Instr.lookup t m' k' ok).run P W = .ok v' W ∧ VR G v v' := by
  unfold aLookup at hl
  cases hti : T t with
  | none => rw [hti] at hl; cases hl
  | some ti =>
    rw [hti] at hl
    simp only at hl
    cases hkd : ti.k <;> rw [hkd] at hl <;> try (cases hl; done)
    rename_i kt et
    have hu := under_map (hT t ti hti) hkd
    simp only at hl
    cases hei : T et with
    | none => rw [hei] at hl; cases hl
    | some eti =>
      cases hq : aEq T 4 kt k k with
      | none => rw [hei, hq] at hl; cases hl
      | some b =>
        rw [hei, hq] at hl
        simp only at hl
        cases hm <;> simp only at hl <;> try (cases hl; done)
        rename_i q l hmu
        cases hH : H q with
        | none => rw [hH] at hl; cases hl
        | some ob =>
          rw [hH] at hl
          cases ob <;> simp only at hl <;> try (cases hl; done)
          rename_i es
          obtain ⟨es', clock, h1, h2⟩ := h.ob q l _ hmu hH
          have h2 : L2 (MR G) es es'.toList := h2
          cases hf : aFind T kt k es 0 with
          | none => rw [hf] at hl; cases hl
          | some r =>
            obtain ⟨d, hd⟩ := kt_under hT hq
            obtain ⟨r', h3, h4⟩ := findKey_sound (W := W) hT hk hd hf h2
            have h5 : (Instr.checkKey es'.isEmpty 10000 kt k').run P W = .ok () W := checkKey_sound hT es'.isEmpty 4 kt k k b k' hq hk 9996
            rw [hf] at hl
            cases r with
            | none =>
              match r', h4 with
              | none, _ =>
                obtain ⟨z, hz1, hz2⟩ := run_zero (hT et eti hei) W
                simp only at hl
                obtain rfl := Option.some.inj hl
                refine ⟨if ok = true then .tuple #[z, .bool false] else z, ?_, ?_⟩
                · simp only [Instr.lookup, Sem.run_bind, run_underlying hu, MapKept.run_getObj_map h1, h5, h3, hz1, Result.andThen_ok, Sem.run_pure]
                · cases ok
                  · simpa using hz2 G
                  · simpa using VR.mkTup (vs := #[z, .bool false]) (L2.cons (hz2 G) (L2.cons (.bool _) L2.nil))
            | some j =>
              match r', h4 with
              | some (j', w), h4 =>
                obtain ⟨rfl, _, p, e, g1, g2, rfl, g4⟩ := h4
                simp only [Nat.sub_zero] at g1 g2
                simp only [g1] at hl
                obtain rfl := Option.some.inj hl
                have g5 : VR G p.2 e.val := (h2.2 _ _ _ g1 g2).2
                refine ⟨if ok = true then .tuple #[e.val, .bool true] else e.val, ?_, ?_⟩
                · simp only [Instr.lookup, Sem.run_bind, run_underlying hu, MapKept.run_getObj_map h1, h5, h3, Result.andThen_ok, Sem.run_pure]
                · cases ok
                  · simpa using g5
                  · simpa using VR.mkTup (vs := #[e.val, .bool true]) (L2.cons g5 (L2.cons (.bool _) L2.nil))
theorem mapSet_sound {T : TT} (hT : TTok B P T) (h : R B G H W) {t : TypeId} {m k v : AVal} {m' k' v' : Value} (hl : aMapSet T H t m k v = some H1) (hm : VR G m m') (hk : VR G k k') (hv : VR G v v') :
    ∃ W', (Instr.mapUpdate t m' k' v').run P W = .ok () W' ∧ R B G H1 W' ∧ St ν G G H H1 W W' := by
  unfold aMapSet at hl
  cases hti : T t with
  | none => rw [hti] at hl; cases hl
  | some ti =>
    rw [hti] at hl
    simp only at hl
    cases hkd : ti.k <;> rw [hkd] at hl <;> try (cases hl; done)
    rename_i kt et
    have hu := under_map (hT t ti hti) hkd
    simp only at hl
    cases hq : aEq T 4 kt k k with
    | none => rw [hq] at hl; cases hl
    | some b =>
      rw [hq] at hl
      simp only at hl
      cases hm <;> simp only at hl <;> try (cases hl; done)
      rename_i q l hmu
      cases hH : H q with
      | none => rw [hH] at hl; cases hl
      | some ob =>
        rw [hH] at hl
        cases ob <;> simp only at hl <;> try (cases hl; done)
        rename_i es
        obtain ⟨es', clock, h1, h2⟩ := h.ob q l _ hmu hH
        have h2 : L2 (MR G) es es'.toList := h2
        have hlt : l.b < W.heap.size := (Array.getElem?_eq_some_iff.1 h1).1
        have put : ∀ (es2 : List (AVal × AVal)) (es2' : Array MapEntry) (clock2 : Nat), L2 (MR G) es2 es2'.toList →
            R B G (H.put q (some (.map es2))) { W with heap := W.heap.setIfInBounds l.b (.map es2' clock2) } ∧ St ν G G H (H.put q (some (.map es2))) W { W with heap := W.heap.setIfInBounds l.b (.map es2' clock2) } := by
          intro es2 es2' clock2 hl2
          refine h.write hmu hH ⟨Z, Z, Z⟩ (by simp) (fun b hb => ?_) ⟨es2', clock2, ?_, hl2⟩ (fun k hk => ?_)
          · exact (MapKept.heap_set h1).2 b hb
          · exact (MapKept.heap_set h1).1
          · rcases hk with hk | ⟨s, p, v, T, he, _⟩
            · exact hk
            · cases he
        cases hf : aFind T kt k es 0 with
        | none => rw [hf] at hl; cases hl
        | some r =>
          obtain ⟨d, hd⟩ := kt_under hT hq
          obtain ⟨r', h3, h4⟩ := findKey_sound (W := W) hT hk hd hf h2
          have h5 : (Instr.checkKey false 10000 kt k').run P W = .ok () W := checkKey_sound hT false 4 kt k k b k' hq hk 9996
          rw [hf] at hl
          cases r with
          | none =>
            match r', h4 with
            | none, _ =>
              simp only at hl
              obtain rfl := Option.some.inj hl
              obtain ⟨p1, p2⟩ := put (es ++ [(k, v)]) (es'.push { key := k', val := v', born := clock }) (clock + 1) (by
                rw [Array.toList_push]
                exact h2.append (L2.cons ⟨hk, hv⟩ L2.nil))
              exact ⟨_, by simp only [Instr.mapUpdate, Sem.run_bind, run_underlying hu, MapKept.run_getObj_map h1, h5, h3, Result.andThen_ok, MapKept.run_setObj_map _ h1], p1, p2⟩
          | some j =>
            match r', h4 with
            | some (j', w), h4 =>
              obtain ⟨rfl, _, p, e, g1, g2, rfl, g4⟩ := h4
              simp only [Nat.sub_zero] at g1 g2
              simp only at hl
              obtain rfl := Option.some.inj hl
              obtain ⟨hj, he⟩ := Array.getElem?_eq_some_iff.1 (show es'[j']? = some e from by rw [← Array.getElem?_toList]; exact g2)
              obtain ⟨p1, p2⟩ := put (es.set j' (k, v)) (es'.modify j' fun e => { e with key := k', val := v' }) clock (by
                rw [Array.toList_modify]
                refine ⟨by simp [h2.1], fun i a b ha hb => ?_⟩
                rw [List.getElem?_set] at ha
                rw [List.getElem?_modify] at hb
                split at ha
                · rename_i e1
                  subst e1
                  split at ha
                  · obtain rfl := Option.some.inj ha
                    rw [g2] at hb
                    simp only [if_true, Option.map_eq_map, Option.map_some, Option.some.injEq] at hb
                    subst hb
                    exact ⟨hk, hv⟩
                  · cases ha
                · rename_i e1
                  simp only [e1, if_false] at hb
                  exact h2.2 i a b ha (by simpa using hb))
              have hs : (Instr.keyThatStays e.key k').run P W = .ok k' W := by
                have := kSame_eq g4
                refine run_stays (G := G) (a := p.1) (b := k) (this ▸ g4) (h2.2 _ _ _ g1 g2).1 hk
              have hg : ((es'[j']?).map (·.key)).getD k' = e.key := by
                have : es'[j']? = some e := by rw [← Array.getElem?_toList]; exact g2
                rw [this]; rfl
              exact ⟨_, by simp only [Instr.mapUpdate, Sem.run_bind, run_underlying hu, MapKept.run_getObj_map h1, h5, h3, Result.andThen_ok, hg, hs, MapKept.run_setObj_map _ h1], p1, p2⟩
theorem makeMap_sound (h : R B G H W) (hf : Fresh ν G H) (t : TypeId) : ∃ v' W' G', (Instr.makeMap t none).run P W = .ok v' W' ∧ VR G' (.map ν) v' ∧ R B G' (H.put ν (some (.map []))) W' ∧ St ν G G' H (H.put ν (some (.map []))) W W' := by
  obtain ⟨G', r1, r2, r3, r4⟩ := h.object hf (.map #[] 0) (.map []) ⟨W.heap.size, 0, 0⟩ rfl (fun G' _ _ => ⟨#[], 0, (MapKept.heap_alloc W _).1, L2.nil⟩) (fun k hk => by
    rcases hk with hk | ⟨s, p, v, T, he, _⟩
    · exact hk
    · cases he)
  exact ⟨.map (some W.heap.size), _, G', rfl, .map r3, r1, r2⟩
end Go.Proofs.YtfkgdlfponfimaaGreat.X
