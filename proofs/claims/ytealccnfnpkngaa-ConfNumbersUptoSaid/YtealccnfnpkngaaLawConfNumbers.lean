/- The row of ConfNumbers, written by a program of this claim's (rowx.py) out of the reckoning X.ConfNumbers_true. -/
import Derived.Test.YtealccnfnpkngaaI
import Derived.Test.YtealccnfnpkngaaCF12
namespace Go.Proofs.Ytealccnfnpkngaa.confNumbers
open Go.ChangeShapes Go.WideShapes Go.ChangeAt Go.RowKit Go.Proofs.Ytealccnfnpkngaa.X
open Go.ChangeMaps (open_string shut_string)
set_option linter.unusedVariables false
set_option maxRecDepth 100000
theorem lifted (os : Os) (started : os.Started) (H : Type) (enc : TypeId × Value → H) (F : Stop.Interp) :
    ReturnsInHanded {} Try.checked os 5 .any ((Rows.OpenSpec.upto Rows.confNumbersSpec).pre6 enc Try.prog Try.f5 Rows.confNumbersUptoRow.domain false) (((Rows.OpenSpec.upto Rows.confNumbersSpec).at F).post enc Try.prog Try.f5 false true false false) := by
  refine returnsInHanded_of_cond (C := Try.checked) (s := Rows.OpenSpec.upto Rows.confNumbersSpec) (k := Rows.uptoSmall) rfl Open.own started (by kernel_rfl) Try.func5
    (OpenSpec.witness (enc := enc) (C := Try.checked) (s := Rows.OpenSpec.upto Rows.confNumbersSpec) (k := Rows.uptoSmall) rfl false ⟨#[], #[.slice none 0 0], []⟩ 8 (by kernel_rfl) (by kernel_rfl) (by kernel_rfl)
      (x := ([.nil], [], [])) (by kernel_rfl) rfl (by kernel_rfl)) ?_
  intro W base args ds gs before hval0 hW _ hk _
  have hval : ∀ (j : Nat) t v, Try.f5.params[j]? = some t → args[j]? = some v → Value.okWide Try.prog W .any base t v := hval0
  have hW' := hW
  obtain ⟨p, q, hA0, hV, rfl, hfz, hnd⟩ := hW
  have hA : DataW.TrodAll enc Try.prog W 0 (fun _ => true) true Try.f5.params.toList args.toList ds p := hA0
  rw [Try.params5] at hA hval
  obtain ⟨v0, vs0, d0, ds0, p0, q0, hargs, rfl, rfl, h0, r0⟩ := trodAll_cons hA
  obtain ⟨rfl, rfl, rfl⟩ := trodAll_nil r0
  obtain rfl : args = #[v0] := by cases args; simp_all
  obtain ⟨rfl, rfl⟩ := trodVars_none hV
  have k0 := h0
  have lt0 : ∀ x ∈ p0, x.block < W.heap.size := by obtain ⟨m, hm⟩ := k0; exact DataW.trod_lt m _ _ _ hm
  obtain ⟨a0, r100, q0⟩ := Open.arg_slice Try.underlying27 (Open.opens_slice Try.underlying27 (by kernel_rfl) (by decide) (Open.opens_iso (Open.opens_struct Try.underlying34 (by kernel_rfl) (Open.opensF_cons rfl (by kernel_rfl) rfl (Open.opens_int Try.underlying3) (Open.opensF_cons rfl (by kernel_rfl) rfl (Open.opens_int Try.underlying24) (Open.opensF_last rfl (by kernel_rfl) (Open.opens_int Try.underlying24))))) Dc.enc (fun a => (⟨a.1, a.2.1, a.2.2⟩ : Dc)) (fun _ => rfl) (Q' := (fun x : Dc => (Open.QSt (Open.QPair (Open.QInt .i64) (Open.QPair (Open.QInt .u64) (Open.QInt .u64)))) (x.d, x.a, x.b))) (fun _ _ h => h))) (hval 0 27 v0 rfl rfl) h0
  clear hA0 hval0
  obtain ⟨kk, vv, HH, hkk, rfl⟩ := X.ConfNumbers_true a0 _ q0 (Open.bound hk)
  refine (X.law_calls X.cok (v := .nilp) ⟨kk, HH, hkk⟩ (L2.cons r100 L2.nil)).mono fun e W' ⟨he, bel⟩ => ?_
  subst he
  exact ⟨_, rfl, _, _, _, [], _, [], hW', trodAll_mk1 (shut_bool Try.underlying4 _), (trodAll_cons_mk (Below.trod Open.laidOut (by kernel_rfl) (of_decide_eq_true (by kernel_rfl)) k0 bel lt0) trodAll_mk0), rfl, bel.frame _, fun h => by cases h⟩
theorem over : Rows.confNumbersUptoRow.holds Try.pinned (Rows.OpenSpec.upto Rows.confNumbersSpec) :=
  OpenClaim.holds_of_cond 5 Try.f5 rfl rfl rfl rfl rfl rfl rfl ⟨rfl, rfl, rfl, rfl, rfl⟩ rfl rfl rfl rfl rfl (by kernel_rfl) Try.func5 (by kernel_rfl)
    (of_decide_eq_true (by kernel_rfl)) (by unfold Func.isWrapper; first | (rw [if_pos (by decide +kernel)]; kernel_rfl) | (rw [if_neg (by decide +kernel)]; exact ⟨rfl, rfl⟩))
    (fun os started H enc _ F => lifted os started H enc F)
theorem proved : Rows.ConfNumbersUptoSaid := over
#print axioms proved
end Go.Proofs.Ytealccnfnpkngaa.confNumbers
namespace Go.Proofs.Ytealccnfnpkngaa
/-- The row, under a short name, for the claim. -/
theorem confNumbers_holds : Rows.ConfNumbersUptoSaid := confNumbers.proved
end Go.Proofs.Ytealccnfnpkngaa
