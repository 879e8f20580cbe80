import Derived.Test.YtfkgdlfponfimaaGreatU20
import Derived.KernelRfl
/- From the simple machine to a law's row; the table of types by a check. -/
namespace Go.Proofs.YtfkgdlfponfimaaGreat.X
open Go Go.RowKit
variable {B : BT} {P : Program} {c : Cfg}
def G0 (W : World) : Gh := ⟨fun _ => none, fun b o => W.cell? ⟨b, o, none⟩⟩
theorem R0 (W : World) : R B (G0 W) (fun _ => none) W :=
  ⟨fun b o v e => e, fun b o v _ e => no_own b e, fun q l ob h => (by cases h), fun q q' l l' o1 o2 k h => (by cases h)⟩
theorem law_calls (hc : COK B P c) {f : FuncId} {args : List AVal} {args' : Array Value} {W : World} {v : AVal} (hl : ∃ k H1, acall c (aexec c k) [] f args (fun _ => none) = some (.bool true, H1)) (ha : L2 (VR (G0 W)) args args'.toList) :
    Calls P f args' W fun e w' => e = .returned (.bool true) ∧ Below W.heap.size W w' := by
  obtain ⟨k, H1, hl⟩ := hl
  refine (sound hc hl (R0 W) (fun q _ => ⟨Z, Z⟩) ha).mono ?_
  rintro e w' ⟨v', G', rfl, g1, g2, g3⟩
  cases g1
  exact ⟨rfl, g3.sm.1, g3.sm.2.1, g3.sm.2.2, g3.sz, fun b hb => g3.fr b hb (no_own b)⟩
def krB : TK → TypeDesc → Bool
  | .bool, .bool => true
  | .int k, .int k' => decide (k = k')
  | .str, .string => true
  | .ptr, .pointer _ => true
  | .slice e, .slice e' => e == e'
  | .array n e, .array n' e' => n == n' && e == e'
  | .map k e, .map k' e' => k == k' && e == e'
  | .strct fs, .struct fields => decide (fields.toList.map (fun f => (f.offset, f.type)) = fs) && fields.toList.all (fun f => f.name != "_")
  | .func, .func _ _ _ => true
  | .iface, .interface _ => true
  | .bld, .struct _ => true
  | _, _ => false
def zsB : AVal → Value → Bool
  | .bool a, .bool b => a == b
  | .int k a, .int k' b => decide (k = k') && decide (a = b)
  | .str a, .string b => decide (a = b)
  | .nilp, .pointer none => true
  | .emp, .slice none 0 0 => true
  | .nilm, .map none => true
  | .nilf, .nilFunc => true
  | .nili, .nilIface => true
  | _, _ => false
def zlB : List AVal → List Value → Bool
  | [], [] => true
  | a :: r, b :: s => zsB a b && zlB r s
  | _, _ => false
def zB : AVal → Value → Bool
  | .agg cs, .agg vs => zlB cs vs.toList
  | a, v => zsB a v
def isB : TK → Bool
  | .bld => true
  | _ => false
def bldB (o : Option Value) : Bool := match o with
  | some (.agg vs) => match vs.toList with
    | [.pointer none, .slice none 0 0] => true
    | _ => false
  | _ => false
def tokB (B : BT) (P : Program) (t : TypeId) (ti : TI) : Bool :=
  match P.underlying t, P.info? t with
  | some d, some i => i.size == ti.size && i.bytes == ti.bytes && krB ti.k d && (match i.zero with
    | some z => zB ti.zero z
    | none => false) && decide (0 < ti.size) && !ti.zero.isTup && ti.zero.cells.length == ti.size &&
    (match ti.k with
    | .strct _ => !P.stoodInHeld t && !P.eqGuardType P.depth t
    | .array _ _ => !P.eqGuardType P.depth t
    | _ => true) && (ti.k.agg || ti.size == 1) && (!isB ti.k || (t == B.tb && bldB i.zero))
  | _, _ => false
theorem krB_sound {k : TK} {d : TypeDesc} (h : krB k d = true) : KR k d := by
  unfold krB at h
  split at h <;> first
    | (cases h; done)
    | trivial
    | (simp only [Bool.and_eq_true, decide_eq_true_eq, List.all_eq_true, bne_iff_ne, beq_iff_eq] at h; exact h)
theorem zsB_sound {a : AVal} {v : Value} (h : zsB a v = true) (G : Gh) : VR G a v ∧ a.one = true := by
  unfold zsB at h
  split at h <;> first
    | (cases h; done)
    | exact ⟨.nilp, rfl⟩ | exact ⟨.emp, rfl⟩ | exact ⟨.nilm, rfl⟩ | exact ⟨.nilf, rfl⟩ | exact ⟨.nili, rfl⟩
    | (simp at h; subst h; exact ⟨.bool _, rfl⟩)
    | (simp at h; subst h; exact ⟨.str _, rfl⟩)
    | (simp at h; obtain ⟨rfl, rfl⟩ := h; exact ⟨.int _ _, rfl⟩)
theorem zlB_sound (G : Gh) : ∀ (cs : List AVal) (vs : List Value), zlB cs vs = true → L2 (VR G) cs vs ∧ ∀ c ∈ cs, c.one = true
  | [], [], _ => ⟨L2.nil, fun c hc => by simp at hc⟩
  | a :: r, b :: s, h => by
    simp only [zlB, Bool.and_eq_true] at h
    obtain ⟨h1, h2⟩ := zlB_sound G r s h.2
    obtain ⟨h3, h4⟩ := zsB_sound h.1 G
    exact ⟨L2.cons h3 h1, fun c hc => (List.mem_cons.1 hc).elim (fun e => e ▸ h4) (h2 c)⟩
  | [], _ :: _, h => by simp [zlB] at h
  | _ :: _, [], h => by simp [zlB] at h
theorem zB_sound {a : AVal} {v : Value} (h : zB a v = true) (G : Gh) : VR G a v := by
  unfold zB at h
  split at h
  · obtain ⟨h1, h2⟩ := zlB_sound G _ _ h
    exact VR.mkAgg h1 h2
  · exact (zsB_sound h G).1
theorem tokB_sound {t : TypeId} {ti : TI} (h : tokB B P t ti = true) : TOK B P t ti := by
  unfold tokB at h
  split at h
  · rename_i d i hd hi
    simp only [Bool.and_eq_true] at h
    obtain ⟨⟨⟨⟨⟨⟨⟨⟨⟨h1, h2⟩, h3⟩, h4⟩, h5⟩, h6⟩, h7⟩, h8⟩, h9⟩, h10⟩ := h
    cases hz : i.zero with
    | none => rw [hz] at h4; cases h4
    | some z =>
      rw [hz] at h4
      refine ⟨⟨d, i, z, hd, hi, by simpa using h1, by simpa using h2, hz, zB_sound h4, krB_sound h3⟩, by simpa using h5, notTup (by simpa using h6), by simpa using h7, ?_, ?_, ?_, ?_⟩
      · rintro ⟨fs, hk⟩
        rw [hk] at h8
        simpa using h8
      · rintro ⟨n, e, hk⟩
        rw [hk] at h8
        simpa using h8
      · intro ha
        rw [ha] at h9
        simpa using h9
      · intro hk
        rw [hk] at h10
        simp only [isB, Bool.not_true, Bool.false_or, Bool.and_eq_true, beq_iff_eq] at h10
        refine ⟨h10.1, i, hi, ?_⟩
        have hb := h10.2
        unfold bldB at hb
        split at hb
        · rename_i vs hv
          split at hb
          · rename_i hl
            rw [hv]
            congr 2
            apply Array.ext'
            exact hl
          · cases hb
        · cases hb
  · cases h
def look (tbl : List (TypeId × TI)) (t : TypeId) : Option TI := match tbl with
  | [] => none
  | (u, ti) :: r => if u == t then some ti else look r t
theorem look_ok {tbl : List (TypeId × TI)} (h : (tbl.all fun p => tokB B P p.1 p.2) = true) : TTok B P (look tbl) := by
  intro t ti hl
  induction tbl with
  | nil => cases hl
  | cons p r ih =>
    obtain ⟨u, ui⟩ := p
    simp only [List.all_cons, Bool.and_eq_true] at h
    simp only [look] at hl
    split at hl
    · rename_i hu
      obtain rfl := Option.some.inj hl
      have : u = t := by simpa using hu
      subst this
      exact tokB_sound h.1
    · exact ih h.2 hl
structure FOK (P : Program) (c : Cfg) (f : FuncId) (fi : FI) : Prop where
  ex : ∃ fn, P.funcs[f]? = some fn ∧ fn.body = some fi.body ∧ fn.ntmps = fi.ntmps ∧ fn.results.toList = fi.results.map toRV ∧ codeOK c fi.body = true ∧ fn.name ≠ "runtime.NumGoroutine"
def lookF (tbl : List (FuncId × FI)) (f : FuncId) : Option FI := match tbl with
  | [] => none
  | (u, fi) :: r => if u == f then some fi else lookF r f
theorem lookF_ok {tbl : List (FuncId × FI)} (h : ∀ p ∈ tbl, FOK P c p.1 p.2) : ∀ f fi, lookF tbl f = some fi → ∃ fn, P.funcs[f]? = some fn ∧ fn.body = some fi.body ∧ fn.ntmps = fi.ntmps ∧ fn.results.toList = fi.results.map toRV ∧ codeOK c fi.body = true ∧ fn.name ≠ "runtime.NumGoroutine" := by
  intro f fi hl
  induction tbl with
  | nil => cases hl
  | cons p r ih =>
    obtain ⟨u, ui⟩ := p
    simp only [lookF] at hl
    split at hl
    · rename_i hu
      obtain rfl := Option.some.inj hl
      have : u = f := by simpa using hu
      subst this
      exact (h _ List.mem_cons_self).ex
    · exact ih (fun p hp => h p (List.mem_cons_of_mem _ hp)) hl
end Go.Proofs.YtfkgdlfponfimaaGreat.X
