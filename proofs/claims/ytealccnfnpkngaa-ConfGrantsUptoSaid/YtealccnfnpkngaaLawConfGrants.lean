/- The row of ConfGrants, written by a program of this claim's (rowx.py) out of the reckoning X.ConfGrants_true. -/
import Derived.Test.YtealccnfnpkngaaI
import Derived.Test.YtealccnfnpkngaaCG2
namespace Go.Proofs.Ytealccnfnpkngaa.confGrants
open Go.ChangeShapes Go.WideShapes Go.ChangeAt Go.RowKit Go.Proofs.Ytealccnfnpkngaa.X
open Go.ChangeMaps (open_string shut_string)
set_option linter.unusedVariables false
set_option maxRecDepth 100000
theorem lifted (os : Os) (started : os.Started) (H : Type) (enc : TypeId × Value → H) (F : Stop.Interp) :
    ReturnsInHanded {} Try.checked os 6 .any ((Rows.OpenSpec.upto Rows.confGrantsSpec).pre6 enc Try.prog Try.f6 Rows.confGrantsUptoRow.domain false) (((Rows.OpenSpec.upto Rows.confGrantsSpec).at F).post enc Try.prog Try.f6 false true false false) := by
  refine returnsInHanded_of_cond (C := Try.checked) (s := Rows.OpenSpec.upto Rows.confGrantsSpec) (k := Rows.uptoSmall) rfl Open.own started (by kernel_rfl) Try.func6
    (OpenSpec.witness (enc := enc) (C := Try.checked) (s := Rows.OpenSpec.upto Rows.confGrantsSpec) (k := Rows.uptoSmall) rfl false ⟨#[], #[.agg #[.slice none 0 0, .slice none 0 0, .int .u64 0], .slice none 0 0, .agg #[.int .u64 0, .int .u64 0, .int .u64 0, .int .u64 0]], []⟩ 8 (by kernel_rfl) (by kernel_rfl) (by kernel_rfl)
      (x := ([.agg [.nil, .nil, .lit (.int .u64 0)], .nil, .agg [.lit (.int .u64 0), .lit (.int .u64 0), .lit (.int .u64 0), .lit (.int .u64 0)]], [], [])) (by kernel_rfl) rfl (by kernel_rfl)) ?_
  intro W base args ds gs before hval0 hW _ hk _
  have hval : ∀ (j : Nat) t v, Try.f6.params[j]? = some t → args[j]? = some v → Value.okWide Try.prog W .any base t v := hval0
  have hW' := hW
  obtain ⟨p, q, hA0, hV, rfl, hfz, hnd⟩ := hW
  have hA : DataW.TrodAll enc Try.prog W 0 (fun _ => true) true Try.f6.params.toList args.toList ds p := hA0
  rw [Try.params6] at hA hval
  obtain ⟨v0, vs0, d0, ds0, p0, q0, hargs, rfl, rfl, h0, r0⟩ := trodAll_cons hA
  obtain ⟨v1, vs1, d1, ds1, p1, q1, rfl, rfl, rfl, h1, r1⟩ := trodAll_cons r0
  obtain ⟨v2, vs2, d2, ds2, p2, q2, rfl, rfl, rfl, h2, r2⟩ := trodAll_cons r1
  obtain ⟨rfl, rfl, rfl⟩ := trodAll_nil r2
  obtain rfl : args = #[v0, v1, v2] := by cases args; simp_all
  obtain ⟨rfl, rfl⟩ := trodVars_none hV
  have k0 := h0
  have lt0 : ∀ x ∈ p0, x.block < W.heap.size := by obtain ⟨m, hm⟩ := k0; exact DataW.trod_lt m _ _ _ hm
  obtain ⟨a0, r100, q0⟩ := Open.arg_struct Try.underlying26 (Open.opens_iso (Open.opens_struct Try.underlying26 (by kernel_rfl) (Open.opensF_cons rfl (by kernel_rfl) rfl (Open.opens_slice Try.underlying22 (by kernel_rfl) (by decide) (Open.opens_iso (Open.opens_struct Try.underlying42 (by kernel_rfl) (Open.opensF_cons rfl (by kernel_rfl) rfl (Open.opens_int Try.underlying24) (Open.opensF_cons rfl (by kernel_rfl) rfl (Open.opens_int Try.underlying24) (Open.opensF_last rfl (by kernel_rfl) (Open.opens_int Try.underlying24))))) Qu.enc (fun a => (⟨a.1, a.2.1, a.2.2⟩ : Qu)) (fun _ => rfl) (Q' := (fun x : Qu => (Open.QSt (Open.QPair (Open.QInt .u64) (Open.QPair (Open.QInt .u64) (Open.QInt .u64)))) (x.tn, x.us, x.li))) (fun _ _ h => h))) (Open.opensF_cons rfl (by kernel_rfl) rfl (Open.opens_slice Try.underlying23 (by kernel_rfl) (by decide) (Open.opens_iso (Open.opens_struct Try.underlying38 (by kernel_rfl) (Open.opensF_cons rfl (by kernel_rfl) rfl (Open.opens_int Try.underlying24) (Open.opensF_cons rfl (by kernel_rfl) rfl (Open.opens_int Try.underlying24) (Open.opensF_cons rfl (by kernel_rfl) rfl (Open.opens_int Try.underlying24) (Open.opensF_cons rfl (by kernel_rfl) rfl (Open.opens_int Try.underlying24) (Open.opensF_last rfl (by kernel_rfl) (Open.opens_int Try.underlying24))))))) Pl.enc (fun a => (⟨a.1, a.2.1, a.2.2.1, a.2.2.2.1, a.2.2.2.2⟩ : Pl)) (fun _ => rfl) (Q' := (fun x : Pl => (Open.QSt (Open.QPair (Open.QInt .u64) (Open.QPair (Open.QInt .u64) (Open.QPair (Open.QInt .u64) (Open.QPair (Open.QInt .u64) (Open.QInt .u64)))))) (x.vo, x.te, x.de, x.ep, x.gr))) (fun _ _ h => h))) (Open.opensF_last rfl (by kernel_rfl) (Open.opens_int Try.underlying24))))) Cf.enc (fun a => (⟨a.1, a.2.1, a.2.2⟩ : Cf)) (fun _ => rfl) (Q' := (fun x : Cf => (Open.QSt (Open.QPair (Open.QSl (fun x : Qu => (Open.QSt (Open.QPair (Open.QInt .u64) (Open.QPair (Open.QInt .u64) (Open.QInt .u64)))) (x.tn, x.us, x.li))) (Open.QPair (Open.QSl (fun x : Pl => (Open.QSt (Open.QPair (Open.QInt .u64) (Open.QPair (Open.QInt .u64) (Open.QPair (Open.QInt .u64) (Open.QPair (Open.QInt .u64) (Open.QInt .u64)))))) (x.vo, x.te, x.de, x.ep, x.gr))) (Open.QInt .u64)))) (x.qs, x.ps, x.nx))) (fun _ _ h => h)) (hval 0 26 v0 rfl rfl) h0
  have k1 := h1
  have lt1 : ∀ x ∈ p1, x.block < W.heap.size := by obtain ⟨m, hm⟩ := k1; exact DataW.trod_lt m _ _ _ hm
  obtain ⟨a1, r101, q1⟩ := Open.arg_slice Try.underlying44 (Open.opens_slice Try.underlying44 (by kernel_rfl) (by decide) (Open.opens_int Try.underlying24)) (hval 1 44 v1 rfl rfl) h1
  have k2 := h2
  have lt2 : ∀ x ∈ p2, x.block < W.heap.size := by obtain ⟨m, hm⟩ := k2; exact DataW.trod_lt m _ _ _ hm
  obtain ⟨a2, r102, q2⟩ := Open.arg_struct Try.underlying46 (Open.opens_iso (Open.opens_struct Try.underlying46 (by kernel_rfl) (Open.opensF_cons rfl (by kernel_rfl) rfl (Open.opens_int Try.underlying24) (Open.opensF_cons rfl (by kernel_rfl) rfl (Open.opens_int Try.underlying24) (Open.opensF_cons rfl (by kernel_rfl) rfl (Open.opens_int Try.underlying24) (Open.opensF_last rfl (by kernel_rfl) (Open.opens_int Try.underlying24)))))) Ak.enc (fun a => (⟨a.1, a.2.1, a.2.2.1, a.2.2.2⟩ : Ak)) (fun _ => rfl) (Q' := (fun x : Ak => (Open.QSt (Open.QPair (Open.QInt .u64) (Open.QPair (Open.QInt .u64) (Open.QPair (Open.QInt .u64) (Open.QInt .u64))))) (x.key, x.vo, x.tn, x.ri))) (fun _ _ h => h)) (hval 2 46 v2 rfl rfl) h2
  clear hA0 hval0
  obtain ⟨kk, vv, HH, hkk, rfl⟩ := X.ConfGrants_true a0 _ q0 a1 _ q1 a2 _ q2 (Open.bound hk)
  refine (X.law_calls X.cok (v := .nilp) ⟨kk, HH, hkk⟩ (L2.cons r100 (L2.cons r101 (L2.cons r102 L2.nil)))).mono fun e W' ⟨he, bel⟩ => ?_
  subst he
  exact ⟨_, rfl, _, _, _, [], _, [], hW', trodAll_mk1 (shut_bool Try.underlying4 _), (trodAll_cons_mk (Below.trod Open.laidOut (by kernel_rfl) (of_decide_eq_true (by kernel_rfl)) k0 bel lt0) (trodAll_cons_mk (Below.trod Open.laidOut (by kernel_rfl) (of_decide_eq_true (by kernel_rfl)) k1 bel lt1) (trodAll_cons_mk (Below.trod Open.laidOut (by kernel_rfl) (of_decide_eq_true (by kernel_rfl)) k2 bel lt2) trodAll_mk0))), rfl, bel.frame _, fun h => by cases h⟩
theorem over : Rows.confGrantsUptoRow.holds Try.pinned (Rows.OpenSpec.upto Rows.confGrantsSpec) :=
  OpenClaim.holds_of_cond 6 Try.f6 rfl rfl rfl rfl rfl rfl rfl ⟨rfl, rfl, rfl, rfl, rfl⟩ rfl rfl rfl rfl rfl (by kernel_rfl) Try.func6 (by kernel_rfl)
    (of_decide_eq_true (by kernel_rfl)) (by unfold Func.isWrapper; first | (rw [if_pos (by decide +kernel)]; kernel_rfl) | (rw [if_neg (by decide +kernel)]; exact ⟨rfl, rfl⟩))
    (fun os started H enc _ F => lifted os started H enc F)
theorem proved : Rows.ConfGrantsUptoSaid := over
#print axioms proved
end Go.Proofs.Ytealccnfnpkngaa.confGrants
namespace Go.Proofs.Ytealccnfnpkngaa
/-- The row, under a short name, for the claim. -/
theorem confGrants_holds : Rows.ConfGrantsUptoSaid := confGrants.proved
end Go.Proofs.Ytealccnfnpkngaa
