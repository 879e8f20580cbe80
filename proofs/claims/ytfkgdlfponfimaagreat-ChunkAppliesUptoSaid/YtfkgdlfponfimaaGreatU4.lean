import Derived.Test.YtfkgdlfponfimaaGreatU3
import Derived.Laws.Append
import Derived.Laws.CopyRow
import Derived.Laws.Slices
import Derived.WalkKit
/- What the simple machine's operations answer, the model's answer too: types, parts, loads, stores, addresses. -/
namespace Go.Proofs.YtfkgdlfponfimaaGreat.X
open Go Go.RowKit
variable {B : BT} {P : Program} {ν : Nm} {G G' : Gh} {H H1 : Heap} {W W' : World}
def KR : TK → TypeDesc → Prop
  | .bool, .bool => True
  | .int k, .int k' => k = k'
  | .str, .string => True
  | .ptr, .pointer _ => True
  | .slice e, .slice e' => e = e'
  | .array n e, .array n' e' => n = n' ∧ e = e'
  | .map k e, .map k' e' => k = k' ∧ e = e'
  | .strct fs, .struct fields => fields.toList.map (fun f => (f.offset, f.type)) = fs ∧ ∀ f ∈ fields.toList, f.name ≠ "_"
  | .func, .func _ _ _ => True
  | .iface, .interface _ => True
  | .bld, .struct _ => True
  | _, _ => False
structure TOK (B : BT) (P : Program) (t : TypeId) (ti : TI) : Prop where
  ex : ∃ d i z, P.underlying t = some d ∧ P.info? t = some i ∧ i.size = ti.size ∧ i.bytes = ti.bytes ∧ i.zero = some z ∧ (∀ G, VR G ti.zero z) ∧ KR ti.k d
  pos : 0 < ti.size
  zt : ∀ vs, ti.zero ≠ .tup vs
  zc : ti.zero.cells.length = ti.size
  stood : (∃ fs, ti.k = .strct fs) → P.stoodInHeld t = false ∧ P.eqGuardType P.depth t = false
  arrG : (∃ n e, ti.k = .array n e) → P.eqGuardType P.depth t = false
  flatS : ti.k.agg = false → ti.size = 1
  bld : ti.k = .bld → t = B.tb ∧ ∃ i, P.info? t = some i ∧ i.zero = some (.agg #[.pointer none, .slice none 0 0])
def TTok (B : BT) (P : Program) (T : TT) : Prop := ∀ t ti, T t = some ti → TOK B P t ti
theorem run_ti {t : TypeId} {ti : TI} (h : TOK B P t ti) (W : World) : ∃ i, (typeInfo t).run P W = .ok i W ∧ P.info? t = some i ∧ i.size = ti.size ∧ i.bytes = ti.bytes := by
  obtain ⟨d, i, z, h1, h2, h3, h4, _⟩ := h.ex
  exact ⟨i, by simp [typeInfo, h2], h2, h3, h4⟩
theorem run_size {t : TypeId} {ti : TI} (h : TOK B P t ti) (W : World) : (sizeOf t).run P W = .ok ti.size W := by
  obtain ⟨i, h1, _, h3, _⟩ := run_ti h W
  simp [sizeOf, h1, h3]
theorem run_zero {t : TypeId} {ti : TI} (h : TOK B P t ti) (W : World) : ∃ z, (zeroValue t).run P W = .ok z W ∧ ∀ G, VR G ti.zero z := by
  obtain ⟨d, i, z, h1, h2, h3, h4, h5, h6, _⟩ := h.ex
  exact ⟨z, by simp [zeroValue, typeInfo, h2, h5], h6⟩
theorem run_agg {t : TypeId} {ti : TI} (h : TOK B P t ti) (W : World) : (isAgg t).run P W = .ok ti.k.agg W := by
  obtain ⟨d, i, z, h1, h2, h3, h4, h5, h6, h7⟩ := h.ex
  have hu := run_underlying h1 W
  unfold isAgg
  rw [Sem.run_bind, hu, Result.andThen_ok]
  cases hk : ti.k <;> rw [hk] at h7 <;> cases d <;> simp [KR] at h7 <;> rfl
theorem under_d {t : TypeId} {ti : TI} (h : TOK B P t ti) : ∃ d, P.underlying t = some d ∧ KR ti.k d := by
  obtain ⟨d, i, z, h1, h2, h3, h4, h5, h6, h7⟩ := h.ex
  exact ⟨d, h1, h7⟩
theorem under_slice {t e : TypeId} {ti : TI} (h : TOK B P t ti) (hk : ti.k = .slice e) : P.underlying t = some (.slice e) := by
  obtain ⟨d, h1, h2⟩ := under_d h
  rw [hk] at h2; cases d <;> simp [KR] at h2; subst h2; exact h1
theorem under_array {t e : TypeId} {n : Nat} {ti : TI} (h : TOK B P t ti) (hk : ti.k = .array n e) : P.underlying t = some (.array n e) := by
  obtain ⟨d, h1, h2⟩ := under_d h
  rw [hk] at h2; cases d <;> simp [KR] at h2; obtain ⟨rfl, rfl⟩ := h2; exact h1
theorem under_map {t k e : TypeId} {ti : TI} (h : TOK B P t ti) (hk : ti.k = .map k e) : P.underlying t = some (.map k e) := by
  obtain ⟨d, h1, h2⟩ := under_d h
  rw [hk] at h2; cases d <;> simp [KR] at h2; obtain ⟨rfl, rfl⟩ := h2; exact h1
theorem under_str {t : TypeId} {ti : TI} (h : TOK B P t ti) (hk : ti.k = .str) : P.underlying t = some .string := by
  obtain ⟨d, h1, h2⟩ := under_d h
  rw [hk] at h2; cases d <;> simp [KR] at h2; exact h1
theorem under_int {t : TypeId} {k : IntKind} {ti : TI} (h : TOK B P t ti) (hk : ti.k = .int k) : P.underlying t = some (.int k) := by
  obtain ⟨d, h1, h2⟩ := under_d h
  rw [hk] at h2; cases d <;> simp [KR] at h2; subst h2; exact h1
theorem under_bool {t : TypeId} {ti : TI} (h : TOK B P t ti) (hk : ti.k = .bool) : P.underlying t = some .bool := by
  obtain ⟨d, h1, h2⟩ := under_d h
  rw [hk] at h2; cases d <;> simp [KR] at h2; exact h1
theorem under_ptr {t : TypeId} {ti : TI} (h : TOK B P t ti) (hk : ti.k = .ptr) : ∃ e, P.underlying t = some (.pointer e) := by
  obtain ⟨d, h1, h2⟩ := under_d h
  rw [hk] at h2; cases d <;> simp [KR] at h2; exact ⟨_, h1⟩
theorem under_iface {t : TypeId} {ti : TI} (h : TOK B P t ti) (hk : ti.k = .iface) : ∃ e, P.underlying t = some (.interface e) := by
  obtain ⟨d, h1, h2⟩ := under_d h
  rw [hk] at h2; cases d <;> simp [KR] at h2; exact ⟨_, h1⟩
theorem under_strct {t : TypeId} {fs : List (Nat × TypeId)} {ti : TI} (h : TOK B P t ti) (hk : ti.k = .strct fs) : ∃ fields : Array Field, P.underlying t = some (.struct fields) ∧ fields.toList.map (fun f => (f.offset, f.type)) = fs ∧ ∀ f ∈ fields.toList, f.name ≠ "_" := by
  obtain ⟨d, h1, h2⟩ := under_d h
  rw [hk] at h2; cases d <;> simp [KR] at h2; exact ⟨_, h1, h2.1, by simpa using h2.2⟩
theorem VR.ofAgg {v : Value} {cs : List AVal} (h : VR G (.agg cs) v) : ∃ vs, v = .agg vs ∧ L2 (VR G) cs vs.toList ∧ ∀ c ∈ cs, c.one = true := by
  cases h with
  | agg h0 h1 h2 => exact ⟨_, rfl, ⟨h1, h2⟩, h0⟩
theorem VR.mkAgg {cs : List AVal} {vs : Array Value} (h : L2 (VR G) cs vs.toList) (h0 : ∀ c ∈ cs, c.one = true) : VR G (.agg cs) (.agg vs) := .agg h0 h.1 h.2
theorem VR.mkTup {cs : List AVal} {vs : Array Value} (h : L2 (VR G) cs vs.toList) : VR G (.tup cs) (.tuple vs) := .tup h.1 h.2
theorem part_cells {t : TypeId} {ti : TI} (ht : TOK B P t ti) {x v : AVal} {off : Nat} (hp : part ti x off = some v) (h0 : ∀ c ∈ x.cells, c.one = true) :
    off + ti.size ≤ x.cells.length ∧ (∀ vs, v ≠ .tup vs) ∧ v.cells = (x.cells.drop off).take ti.size ∧ (ti.k.agg = true → ∃ cs, v = .agg cs) ∧ (ti.k.agg = false → v.one = true) := by
  unfold part at hp
  cases hk : ti.k.agg with
  | true =>
    rw [hk, if_pos rfl] at hp
    by_cases hl : off + ti.size ≤ x.cells.length
    · rw [if_pos hl] at hp
      obtain rfl := Option.some.inj hp
      exact ⟨hl, by simp, rfl, fun _ => ⟨_, rfl⟩, fun h => by cases h⟩
    · rw [if_neg hl] at hp; cases hp
  | false =>
    rw [hk] at hp
    simp only [Bool.false_eq_true, if_false] at hp
    have hlt := (List.getElem?_eq_some_iff.1 hp).1
    have h1 := ht.flatS hk
    have hv := h0 v (List.mem_of_getElem? hp)
    have hve : v.cells = [v] := by cases v <;> first | rfl | simp [AVal.one] at hv
    refine ⟨by omega, by rintro vs rfl; simp [AVal.one] at hv, ?_, fun h => by simp at h, fun _ => hv⟩
    rw [hve, h1, List.drop_eq_getElem_cons hlt, List.take_succ_cons, List.take_zero, (List.getElem?_eq_some_iff.1 hp).2]
theorem mkPart {t : TypeId} {ti : TI} (ht : TOK B P t ti) {v : AVal} {cv : List Value} (h : L2 (VR G) v.cells cv) (hl : v.cells.length = ti.size) (hn : ∀ vs, v ≠ .tup vs) (h0 : ∀ c ∈ v.cells, c.one = true) (ha : ti.k.agg = true → ∃ cs, v = .agg cs) (hf : ti.k.agg = false → v.one = true) :
    VR G v (if ti.k.agg then .agg cv.toArray else cv.getD 0 undef) := by
  cases hk : ti.k.agg with
  | true =>
    obtain ⟨cs, rfl⟩ := ha hk
    rw [if_pos rfl]
    exact VR.mkAgg (by simpa [AVal.cells] using h) h0
  | false =>
    have hv := hf hk
    have hve : v.cells = [v] := by cases v <;> first | rfl | simp [AVal.one] at hv
    rw [hve] at h
    obtain ⟨y, hy, hr⟩ := h.get (i := 0) (x := v) rfl
    simp only [Bool.false_eq_true, if_false]
    rw [List.getD_eq_getElem?_getD, hy]
    exact hr
theorem run_loadVar_cells {t : TypeId} {ti : TI} (ht : TOK B P t ti) {b o : Nat} {cv : List Value} (hl : cv.length = ti.size) (hc : ∀ k v, cv[k]? = some v → W.cell? ⟨b, o + k, none⟩ = some v) :
    (loadVar t ⟨b, o, none⟩).run P W = .ok (if ti.k.agg then .agg cv.toArray else cv.getD 0 undef) W := by
  unfold loadVar
  rw [Sem.run_bind, run_agg ht, Result.andThen_ok]
  cases hk : ti.k.agg with
  | true =>
    simp only [if_true, Sem.run_bind, run_size ht, Result.andThen_ok]
    rw [← hl, run_loadCells_list W ⟨b, o, none⟩ cv (fun j v hj => by rw [Addr.add_lit]; exact hc j v hj)]
    rfl
  | false =>
    have h1 := ht.flatS hk
    obtain ⟨v, rfl⟩ : ∃ v, cv = [v] := by
      match cv, hl with
      | [v], _ => exact ⟨v, rfl⟩
      | [], h => simp at h; omega
      | _ :: _ :: _, h => simp at h; omega
    have := hc 0 v rfl
    simp only [Bool.false_eq_true, if_false, run_load]
    rw [Nat.add_zero] at this
    rw [this]; rfl
theorem row_cells (h : R B G H W) {q : Nm} {l : Loc} {w : Nat} {xs : List AVal} (hq : G.mu q = some l) (hH : H q = some (.row w xs)) {i : Nat} {x : AVal} (hx : xs[i]? = some x) :
    ∃ cv, L2 (VR G) x.cells cv ∧ (∀ c ∈ x.cells, c.one = true) ∧ x.cells.length = w ∧ l.w = w ∧ ∀ k v, cv[k]? = some v → W.cell? ⟨l.b, i * l.w + k, none⟩ = some v := by
  obtain ⟨hw, cur, T, h1, h2, h3, h4, h5, h6⟩ := h.ob q l _ hq hH
  have hi : i < xs.length := (List.getElem?_eq_some_iff.1 hx).1
  have hm := h5 x (List.mem_of_getElem? hx)
  have h7 := (h6.drop (i * w)).take w
  rw [flat_get h5 hx] at h7
  refine ⟨_, h7, hm.2, hm.1, hw, fun k v hk => ?_⟩
  rw [cell_of_row W l.b _ cur T (0, 0) h1, hw]
  rw [List.getElem?_take] at hk
  split at hk
  · rw [List.getElem?_drop, List.getElem?_take] at hk
    split at hk
    · simpa using hk
    · cases hk
  · cases hk
theorem load_sound {T : TT} (hT : TTok B P T) (h : R B G H W) {t : TypeId} {a v : AVal} {a' : Value} (hl : aLoad T H t a = some v) (ha : VR G a a') :
    ∃ v', (Instr.loadAt t a').run P W = .ok v' W ∧ VR G v v' := by
  unfold aLoad at hl
  cases hti : T t with
  | none => rw [hti] at hl; cases hl
  | some ti =>
    rw [hti] at hl
    have ht := hT t ti hti
    cases ha with
    | @ptr q i off l hq =>
      simp only at hl
      cases hH : H q with
      | none => rw [hH] at hl; cases hl
      | some ob =>
        rw [hH] at hl
        cases ob with
        | row w xs =>
          simp only at hl
          cases hx : xs[i]? with
          | none => rw [hx] at hl; cases hl
          | some x =>
            rw [hx] at hl
            simp only at hl
            obtain ⟨cv, h1, h2, h3, h4, h5⟩ := row_cells h hq hH hx
            obtain ⟨p1, p2, p3, p4, p5⟩ := part_cells ht hl h2
            have h6 := (h1.drop off).take ti.size
            rw [← p3] at h6
            have hlen : v.cells.length = ti.size := by rw [p3, List.length_take, List.length_drop]; omega
            refine ⟨_, ?_, mkPart ht h6 hlen p2 (fun c hc => h2 c (by rw [p3] at hc; exact List.mem_of_mem_drop (List.mem_of_mem_take hc))) p4 p5⟩
            simp only [Instr.loadAt, Instr.sureAddr, Sem.run_bind, Sem.run_pure, Result.andThen_ok]
            refine run_loadVar_cells ht (h6.1 ▸ hlen) (fun k u hk => ?_)
            rw [List.getElem?_take] at hk
            split at hk
            · rw [List.getElem?_drop] at hk
              have := h5 _ _ hk
              rw [Nat.add_assoc]; exact this
            · cases hk
        | map es => cases hl
        | bld s => cases hl
    | @ept x off b o cv h1 h2 h3 h4 =>
      simp only at hl
      obtain ⟨p1, p2, p3, p4, p5⟩ := part_cells ht hl h1
      have h6 : L2 (VR G) v.cells (cv.take ti.size) := by rw [p3]; exact L2.take ⟨h3, h4⟩ _
      have hlen : v.cells.length = ti.size := by rw [p3, List.length_take, List.length_drop]; omega
      refine ⟨_, ?_, mkPart ht h6 hlen p2 (fun c hc => h1 c (by rw [p3] at hc; exact List.mem_of_mem_drop (List.mem_of_mem_take hc))) p4 p5⟩
      simp only [Instr.loadAt, Instr.sureAddr, Sem.run_bind, Sem.run_pure, Result.andThen_ok]
      refine run_loadVar_cells ht (h6.1 ▸ hlen) (fun k u hk => ?_)
      rw [List.getElem?_take] at hk
      split at hk
      · exact h.f _ _ _ (h2 k u hk)
      · cases hk
    | _ => cases hl
theorem setCells_cells {x : AVal} {off : Nat} {vs : List AVal} (h0 : ∀ c ∈ x.cells, c.one = true) (hv : ∀ c ∈ vs, c.one = true) (hl : off + vs.length ≤ x.cells.length) (hp : 0 < vs.length) :
    (setCells x off vs).cells = x.cells.take off ++ vs ++ x.cells.drop (off + vs.length) := by
  by_cases hx : ∃ cs, x = .agg cs
  · obtain ⟨cs, rfl⟩ := hx; rfl
  · have hxe : x.cells = [x] := by cases x <;> first | rfl | exact absurd ⟨_, rfl⟩ hx
    rw [hxe] at hl ⊢
    simp at hl
    obtain ⟨v, rfl⟩ : ∃ v, vs = [v] := by
      match vs, hp, hl with
      | [v], _, _ => exact ⟨v, rfl⟩
      | [], h, _ => simp at h
      | _ :: _ :: _, _, h => simp at h; omega
    obtain rfl : off = 0 := by simp at hl; omega
    have hve : v.cells = [v] := by have := hv v (by simp); cases v <;> first | rfl | simp [AVal.one] at this
    have : setCells x 0 [v] = v := by cases x <;> first | rfl | exact absurd ⟨_, rfl⟩ hx
    rw [this, hve]; simp
theorem flat_set {w : Nat} {xs : List AVal} (h : wide w xs) {i : Nat} (hi : i < xs.length) {y : AVal} (hy : y.cells.length = w) : flat (xs.set i y) = (flat xs).take (i * w) ++ y.cells ++ (flat xs).drop (i * w + w) := by
  have e : (i + 1) * w = i * w + w := by rw [Nat.add_mul]; omega
  rw [List.set_eq_take_append_cons_drop, if_pos hi, flat_append, flat_cons, flat_take h, flat_drop h, e, List.append_assoc]
theorem wide_set {w : Nat} {xs : List AVal} (h : wide w xs) (i : Nat) {y : AVal} (hy : y.cells.length = w ∧ ∀ c ∈ y.cells, c.one = true) : wide w (xs.set i y) := fun x hx => by
  rcases List.mem_or_eq_of_mem_set hx with h' | rfl
  · exact h x h'
  · exact hy
theorem list_splice {α : Type} (a : List α) (i w off : Nat) (vs : List α) (hw : i * w + w ≤ a.length) (ho : off + vs.length ≤ w) :
    a.take (i * w) ++ (((a.drop (i * w)).take w).take off ++ vs ++ ((a.drop (i * w)).take w).drop (off + vs.length)) ++ a.drop (i * w + w) = a.take (i * w + off) ++ vs ++ a.drop (i * w + off + vs.length) := by
  have h1 : ((a.drop (i * w)).take w).take off = (a.drop (i * w)).take off := by rw [List.take_take]; congr 1; omega
  have h2 : a.take (i * w + off) = a.take (i * w) ++ (a.drop (i * w)).take off := by rw [List.take_add]
  have h3 : a.drop (i * w + off + vs.length) = ((a.drop (i * w)).take w).drop (off + vs.length) ++ a.drop (i * w + w) := by
    rw [List.drop_take, List.drop_drop]
    have : a.drop (i * w + w) = (a.drop (i * w + (off + vs.length))).drop (w - (off + vs.length)) := by rw [List.drop_drop]; congr 1; omega
    rw [this, List.take_append_drop]; congr 1; omega
  rw [h1, h2, h3]; simp only [List.append_assoc]
theorem notTup {v : AVal} (h : v.isTup = false) : ∀ vs, v ≠ .tup vs := by rintro vs rfl; simp [AVal.isTup] at h
theorem store_sound {T : TT} (hT : TTok B P T) (h : R B G H W) {t : TypeId} {a v : AVal} {a' v' : Value} (hl : aStore T H t a v = some H1) (ha : VR G a a') (hv : VR G v v') :
    ∃ W', (Instr.storeAt t a' v').run P W = .ok () W' ∧ R B G H1 W' ∧ St ν G G H H1 W W' := by
  unfold aStore at hl
  cases hti : T t with
  | none => rw [hti] at hl; cases hl
  | some ti =>
    rw [hti] at hl
    have ht := hT t ti hti
    cases ha with
    | @ptr q i off l hq =>
      simp only at hl
      cases hH : H q with
      | none => rw [hH] at hl; cases hl
      | some ob =>
        rw [hH] at hl
        cases ob with
        | row w xs =>
          simp only at hl
          cases hx : xs[i]? with
          | none => rw [hx] at hl; cases hl
          | some x =>
            rw [hx] at hl
            simp only at hl
            by_cases hc0 : v.isTup = false ∧ v.cells.length = ti.size ∧ off + ti.size ≤ x.cells.length
            · rw [if_pos hc0] at hl
              obtain ⟨hn0, hc⟩ := hc0
              have hn := notTup hn0
              obtain rfl := Option.some.inj hl
              obtain ⟨hw, cur, T', h1, h2, h3, h4, h5, h6⟩ := h.ob q l _ hq hH
              have hi : i < xs.length := (List.getElem?_eq_some_iff.1 hx).1
              have hm := h5 x (List.mem_of_getElem? hx)
              obtain ⟨hvl, hv1⟩ := hv.cellsOf hn
              have hsz : v'.cells.toList.length = ti.size := by rw [← hvl.1]; exact hc.1
              have hmul : (i + 1) * w ≤ xs.length * w := Nat.mul_le_mul_right w hi
              have hmul2 : xs.length * w ≤ l.cap * w := Nat.mul_le_mul_right w h3
              have hsucc : (i + 1) * w = i * w + w := by rw [Nat.add_mul]; omega
              have hxw : x.cells.length = w := hm.1
              have hcurl0 : cur.toList.length = l.cap * w := by simpa using h2
              have hrun : (Instr.storeAt t (.pointer (some ⟨l.b, i * l.w + off, none⟩)) v').run P W = .ok () (W.setRow l.b (cur.toList.take (i * w + off) ++ v'.cells.toList ++ cur.toList.drop (i * w + off + v'.cells.toList.length)).toArray) := by
                simp only [Instr.storeAt, Instr.sureAddr, Sem.run_bind, Sem.run_pure, Result.andThen_ok, storeVar, run_size ht]
                rw [if_neg (by simpa using hsz)]
                rw [run_storeCells_at P l.b (i * l.w + off) T' v'.cells.toList 0 cur W h1 (by rw [hsz, hw]; omega) ?_, hw]
                · simp only [Nat.add_zero]
                · intro u hu
                  obtain ⟨k, hk⟩ := List.mem_iff_getElem?.1 hu
                  obtain ⟨c, hc1, hc2⟩ := hvl.get' hk
                  rw [hc2.one]; exact hv1 c (List.mem_of_getElem? hc1)
              have hsc : (setCells x off v.cells).cells = x.cells.take off ++ v.cells ++ x.cells.drop (off + v.cells.length) := setCells_cells hm.2 hv1 (by rw [hc.1]; exact hc.2) (by rw [hc.1]; exact ht.pos)
              have hscl : (setCells x off v.cells).cells.length = w := by rw [hsc]; simp only [List.length_append, List.length_take, List.length_drop]; omega
              refine ⟨_, hrun, ?_⟩
              refine h.write hq hH ⟨Z, Z, Z⟩ (by simp) (fun b hb => setRow_other W l.b b _ hb) ⟨hw, _, T', setRow_heap W l.b cur _ T' _ h1, ?_, by simpa using h3, h4, wide_set h5 i ⟨hscl, ?_⟩, ?_⟩ (fun k hk => ?_)
              · rw [List.size_toArray, List.length_append, List.length_append, List.length_take, List.length_drop, hcurl0]; omega
              · rw [hsc]
                intro c hc'
                rcases List.mem_append.1 hc' with hc' | hc'
                · rcases List.mem_append.1 hc' with hc' | hc'
                  · exact hm.2 c (List.mem_of_mem_take hc')
                  · exact hv1 c hc'
                · exact hm.2 c (List.mem_of_mem_drop hc')
              · have hfl := flat_length h5
                have hcurl : cur.toList.length = l.cap * w := by simpa using h2
                rw [flat_set h5 hi hscl, hsc, ← flat_get h5 hx, list_splice (flat xs) i w off v.cells (by rw [hfl]; omega) (by rw [hc.1]; omega)]
                have hlen' : v.cells.length = v'.cells.toList.length := hvl.1
                have key : L2 (VR G) ((flat xs).take (i * w + off) ++ v.cells ++ (flat xs).drop (i * w + off + v.cells.length)) ((cur.toList.take (xs.length * w)).take (i * w + off) ++ v'.cells.toList ++ (cur.toList.take (xs.length * w)).drop (i * w + off + v'.cells.toList.length)) := by
                  rw [hlen']
                  exact ((h6.take _).append hvl).append (h6.drop _)
                have e : (cur.toList.take (i * w + off) ++ v'.cells.toList ++ cur.toList.drop (i * w + off + v'.cells.toList.length)).take ((xs.set i (setCells x off v.cells)).length * w) = (cur.toList.take (xs.length * w)).take (i * w + off) ++ v'.cells.toList ++ (cur.toList.take (xs.length * w)).drop (i * w + off + v'.cells.toList.length) := by
                  rw [List.length_set, List.take_append, List.take_append, List.take_take, List.take_take, List.drop_take]
                  have a1 : (cur.toList.take (i * w + off)).length = i * w + off := by rw [List.length_take]; omega
                  rw [a1]
                  have a2 : min (xs.length * w) (i * w + off) = i * w + off := by omega
                  have a3 : min (i * w + off) (xs.length * w) = i * w + off := by omega
                  rw [a2, a3, List.take_of_length_le (l := v'.cells.toList) (by omega), List.length_append, a1]
                simp only [e]
                exact key
              · rcases hk with hk | ⟨s, p, v, T, he, _⟩
                · exact hk
                · cases he
            · rw [if_neg hc0] at hl; cases hl
        | map es => cases hl
        | bld s => cases hl
    | _ => cases hl
end Go.Proofs.YtfkgdlfponfimaaGreat.X
