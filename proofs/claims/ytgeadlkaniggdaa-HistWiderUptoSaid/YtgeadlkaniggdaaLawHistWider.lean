/- The row of HistWider, written by a program of this claim's (rowx.py) out of the reckoning X.HistWider_true. -/
import Derived.Test.YtgeadlkaniggdaaI
import Derived.Test.YtgeadlkaniggdaaHS15
namespace Go.Proofs.Ytgeadlkaniggdaa.histWider
open Go.ChangeShapes Go.WideShapes Go.ChangeAt Go.RowKit Go.Proofs.Ytgeadlkaniggdaa.X
open Go.ChangeMaps (open_string shut_string)
set_option linter.unusedVariables false
set_option maxRecDepth 100000
theorem lifted (os : Os) (started : os.Started) (H : Type) (enc : TypeId × Value → H) (F : Stop.Interp) :
    ReturnsInHanded {} Try.checked os 6 .any ((Rows.OpenSpec.upto Rows.histWiderSpec).pre6 enc Try.prog Try.f6 Rows.histWiderUptoRow.domain false) (((Rows.OpenSpec.upto Rows.histWiderSpec).at F).post enc Try.prog Try.f6 false true false false) := by
  refine returnsInHanded_of_cond (C := Try.checked) (s := Rows.OpenSpec.upto Rows.histWiderSpec) (k := Rows.uptoSmall) rfl Open.own started (by kernel_rfl) Try.func6
    (OpenSpec.witness (enc := enc) (C := Try.checked) (s := Rows.OpenSpec.upto Rows.histWiderSpec) (k := Rows.uptoSmall) rfl false ⟨#[], #[.slice none 0 0, .agg #[.int .i64 0, .int .i64 0, .int .i64 0]], []⟩ 8 (by kernel_rfl) (by kernel_rfl) (by kernel_rfl)
      (x := ([.nil, .agg [.lit (.int .i64 0), .lit (.int .i64 0), .lit (.int .i64 0)]], [], [])) (by kernel_rfl) rfl (by kernel_rfl)) ?_
  intro W base args ds gs before hval0 hW _ hk _
  have hval : ∀ (j : Nat) t v, Try.f6.params[j]? = some t → args[j]? = some v → Value.okWide Try.prog W .any base t v := hval0
  have hW' := hW
  obtain ⟨p, q, hA0, hV, rfl, hfz, hnd⟩ := hW
  have hA : DataW.TrodAll enc Try.prog W 0 (fun _ => true) true Try.f6.params.toList args.toList ds p := hA0
  rw [Try.params6] at hA hval
  obtain ⟨v0, vs0, d0, ds0, p0, q0, hargs, rfl, rfl, h0, r0⟩ := trodAll_cons hA
  obtain ⟨v1, vs1, d1, ds1, p1, q1, rfl, rfl, rfl, h1, r1⟩ := trodAll_cons r0
  obtain ⟨rfl, rfl, rfl⟩ := trodAll_nil r1
  obtain rfl : args = #[v0, v1] := by cases args; simp_all
  obtain ⟨rfl, rfl⟩ := trodVars_none hV
  have k0 := h0
  have lt0 : ∀ x ∈ p0, x.block < W.heap.size := by obtain ⟨m, hm⟩ := k0; exact DataW.trod_lt m _ _ _ hm
  obtain ⟨a0, r100, q0⟩ := Open.arg_slice Try.underlying22 (Open.opens_slice Try.underlying22 (by kernel_rfl) (by decide) (Open.opens_iso (Open.opens_struct Try.underlying29 (by kernel_rfl) (Open.opensF_cons rfl (by kernel_rfl) rfl (Open.opens_bool Try.underlying4) (Open.opensF_cons rfl (by kernel_rfl) rfl (Open.opens_string Try.underlying9) (Open.opensF_cons rfl (by kernel_rfl) rfl (Open.opens_int Try.underlying3) (Open.opensF_last rfl (by kernel_rfl) (Open.opens_int Try.underlying3)))))) Hop.enc (fun a => (⟨a.1, a.2.1, a.2.2.1, a.2.2.2⟩ : Hop)) (fun _ => rfl) (Q' := (fun x : Hop => (Open.QSt (Open.QPair Open.QBool (Open.QPair Open.QStr (Open.QPair (Open.QInt .i64) (Open.QInt .i64))))) (x.w, x.tx, x.fr, x.to))) (fun _ _ h => h))) (hval 0 22 v0 rfl rfl) h0
  have k1 := h1
  have lt1 : ∀ x ∈ p1, x.block < W.heap.size := by obtain ⟨m, hm⟩ := k1; exact DataW.trod_lt m _ _ _ hm
  obtain ⟨a1, r101, q1⟩ := Open.arg_array Try.underlying39 (Open.opens_iso (Open.opens_array (s1 := 1) (fs := [Open.fld 3 0, Open.fld 3 1, Open.fld 3 2]) Try.underlying39 (by kernel_rfl) (by kernel_rfl) rfl (by intro i f hf; match i, hf with | 0, h => cases h; exact ⟨rfl, rfl⟩ | 1, h => cases h; exact ⟨rfl, rfl⟩ | 2, h => cases h; exact ⟨rfl, rfl⟩ | (k + 3), h => simp at h) (Open.opensF_cons rfl (by kernel_rfl) rfl (Open.opens_int Try.underlying3) (Open.opensF_cons rfl (by kernel_rfl) rfl (Open.opens_int Try.underlying3) (Open.opensF_last rfl (by kernel_rfl) (Open.opens_int Try.underlying3))))) A3.enc (fun a => (⟨a.1, a.2.1, a.2.2⟩ : A3)) (fun _ => rfl) (Q' := (fun x : A3 => (Open.QSt (Open.QPair (Open.QInt .i64) (Open.QPair (Open.QInt .i64) (Open.QInt .i64)))) (x.x, x.y, x.z))) (fun _ _ h => h)) (hval 1 39 v1 rfl rfl) h1
  clear hA0 hval0
  obtain ⟨kk, vv, HH, hkk, rfl⟩ := X.HistWider_true a0 _ q0 a1 _ q1 (Open.bound hk)
  refine (X.law_calls X.cok (v := .nilp) ⟨kk, HH, hkk⟩ (L2.cons r100 (L2.cons r101 L2.nil))).mono fun e W' ⟨he, bel⟩ => ?_
  subst he
  exact ⟨_, rfl, _, _, _, [], _, [], hW', trodAll_mk1 (shut_bool Try.underlying4 _), (trodAll_cons_mk (Below.trod Open.laidOut (by kernel_rfl) (of_decide_eq_true (by kernel_rfl)) k0 bel lt0) (trodAll_cons_mk (Below.trod Open.laidOut (by kernel_rfl) (of_decide_eq_true (by kernel_rfl)) k1 bel lt1) trodAll_mk0)), rfl, bel.frame _, fun h => by cases h⟩
theorem over : Rows.histWiderUptoRow.holds Try.pinned (Rows.OpenSpec.upto Rows.histWiderSpec) :=
  OpenClaim.holds_of_cond 6 Try.f6 rfl rfl rfl rfl rfl rfl rfl ⟨rfl, rfl, rfl, rfl, rfl⟩ rfl rfl rfl rfl rfl (by kernel_rfl) Try.func6 (by kernel_rfl)
    (of_decide_eq_true (by kernel_rfl)) (by unfold Func.isWrapper; first | (rw [if_pos (by decide +kernel)]; kernel_rfl) | (rw [if_neg (by decide +kernel)]; exact ⟨rfl, rfl⟩))
    (fun os started H enc _ F => lifted os started H enc F)
theorem proved : Rows.HistWiderUptoSaid := over
#print axioms proved
end Go.Proofs.Ytgeadlkaniggdaa.histWider
namespace Go.Proofs.Ytgeadlkaniggdaa
/-- The row, under a short name, for the claim. -/
theorem histWider_holds : Rows.HistWiderUptoSaid := histWider.proved
end Go.Proofs.Ytgeadlkaniggdaa
