/- The row of ConfTexts, written by a program of this claim's (rowx.py) out of the reckoning X.ConfTexts_true. -/
import Derived.Test.YtealccnfnpkngaaI
import Derived.Test.YtealccnfnpkngaaCF15
namespace Go.Proofs.Ytealccnfnpkngaa.confTexts
open Go.ChangeShapes Go.WideShapes Go.ChangeAt Go.RowKit Go.Proofs.Ytealccnfnpkngaa.X
open Go.ChangeMaps (open_string shut_string)
set_option linter.unusedVariables false
set_option maxRecDepth 100000
theorem lifted (os : Os) (started : os.Started) (H : Type) (enc : TypeId × Value → H) (F : Stop.Interp) :
    ReturnsInHanded {} Try.checked os 7 .any ((Rows.OpenSpec.upto Rows.confTextsSpec).pre6 enc Try.prog Try.f7 Rows.confTextsUptoRow.domain false) (((Rows.OpenSpec.upto Rows.confTextsSpec).at F).post enc Try.prog Try.f7 false true false false) := by
  refine returnsInHanded_of_cond (C := Try.checked) (s := Rows.OpenSpec.upto Rows.confTextsSpec) (k := Rows.uptoSmall) rfl Open.own started (by kernel_rfl) Try.func7
    (OpenSpec.witness (enc := enc) (C := Try.checked) (s := Rows.OpenSpec.upto Rows.confTextsSpec) (k := Rows.uptoSmall) rfl false ⟨#[], #[.agg #[.slice none 0 0, .slice none 0 0, .int .u64 0], .agg #[.int .i64 0, .int .u64 0, .int .u64 0], .string ByteArray.empty], []⟩ 8 (by kernel_rfl) (by kernel_rfl) (by kernel_rfl)
      (x := ([.agg [.nil, .nil, .lit (.int .u64 0)], .agg [.lit (.int .i64 0), .lit (.int .u64 0), .lit (.int .u64 0)], .lit (.string [])], [], [])) (by kernel_rfl) rfl (by kernel_rfl)) ?_
  intro W base args ds gs before hval0 hW _ hk _
  have hval : ∀ (j : Nat) t v, Try.f7.params[j]? = some t → args[j]? = some v → Value.okWide Try.prog W .any base t v := hval0
  have hW' := hW
  obtain ⟨p, q, hA0, hV, rfl, hfz, hnd⟩ := hW
  have hA : DataW.TrodAll enc Try.prog W 0 (fun _ => true) true Try.f7.params.toList args.toList ds p := hA0
  rw [Try.params7] at hA hval
  obtain ⟨v0, vs0, d0, ds0, p0, q0, hargs, rfl, rfl, h0, r0⟩ := trodAll_cons hA
  obtain ⟨v1, vs1, d1, ds1, p1, q1, rfl, rfl, rfl, h1, r1⟩ := trodAll_cons r0
  obtain ⟨v2, vs2, d2, ds2, p2, q2, rfl, rfl, rfl, h2, r2⟩ := trodAll_cons r1
  obtain ⟨rfl, rfl, rfl⟩ := trodAll_nil r2
  obtain rfl : args = #[v0, v1, v2] := by cases args; simp_all
  obtain ⟨rfl, rfl⟩ := trodVars_none hV
  have k0 := h0
  have lt0 : ∀ x ∈ p0, x.block < W.heap.size := by obtain ⟨m, hm⟩ := k0; exact DataW.trod_lt m _ _ _ hm
  obtain ⟨a0, r100, q0⟩ := Open.arg_struct Try.underlying26 (Open.opens_iso (Open.opens_struct Try.underlying26 (by kernel_rfl) (Open.opensF_cons rfl (by kernel_rfl) rfl (Open.opens_slice Try.underlying22 (by kernel_rfl) (by decide) (Open.opens_iso (Open.opens_struct Try.underlying42 (by kernel_rfl) (Open.opensF_cons rfl (by kernel_rfl) rfl (Open.opens_int Try.underlying24) (Open.opensF_cons rfl (by kernel_rfl) rfl (Open.opens_int Try.underlying24) (Open.opensF_last rfl (by kernel_rfl) (Open.opens_int Try.underlying24))))) Qu.enc (fun a => (⟨a.1, a.2.1, a.2.2⟩ : Qu)) (fun _ => rfl) (Q' := (fun x : Qu => (Open.QSt (Open.QPair (Open.QInt .u64) (Open.QPair (Open.QInt .u64) (Open.QInt .u64)))) (x.tn, x.us, x.li))) (fun _ _ h => h))) (Open.opensF_cons rfl (by kernel_rfl) rfl (Open.opens_slice Try.underlying23 (by kernel_rfl) (by decide) (Open.opens_iso (Open.opens_struct Try.underlying38 (by kernel_rfl) (Open.opensF_cons rfl (by kernel_rfl) rfl (Open.opens_int Try.underlying24) (Open.opensF_cons rfl (by kernel_rfl) rfl (Open.opens_int Try.underlying24) (Open.opensF_cons rfl (by kernel_rfl) rfl (Open.opens_int Try.underlying24) (Open.opensF_cons rfl (by kernel_rfl) rfl (Open.opens_int Try.underlying24) (Open.opensF_last rfl (by kernel_rfl) (Open.opens_int Try.underlying24))))))) Pl.enc (fun a => (⟨a.1, a.2.1, a.2.2.1, a.2.2.2.1, a.2.2.2.2⟩ : Pl)) (fun _ => rfl) (Q' := (fun x : Pl => (Open.QSt (Open.QPair (Open.QInt .u64) (Open.QPair (Open.QInt .u64) (Open.QPair (Open.QInt .u64) (Open.QPair (Open.QInt .u64) (Open.QInt .u64)))))) (x.vo, x.te, x.de, x.ep, x.gr))) (fun _ _ h => h))) (Open.opensF_last rfl (by kernel_rfl) (Open.opens_int Try.underlying24))))) Cf.enc (fun a => (⟨a.1, a.2.1, a.2.2⟩ : Cf)) (fun _ => rfl) (Q' := (fun x : Cf => (Open.QSt (Open.QPair (Open.QSl (fun x : Qu => (Open.QSt (Open.QPair (Open.QInt .u64) (Open.QPair (Open.QInt .u64) (Open.QInt .u64)))) (x.tn, x.us, x.li))) (Open.QPair (Open.QSl (fun x : Pl => (Open.QSt (Open.QPair (Open.QInt .u64) (Open.QPair (Open.QInt .u64) (Open.QPair (Open.QInt .u64) (Open.QPair (Open.QInt .u64) (Open.QInt .u64)))))) (x.vo, x.te, x.de, x.ep, x.gr))) (Open.QInt .u64)))) (x.qs, x.ps, x.nx))) (fun _ _ h => h)) (hval 0 26 v0 rfl rfl) h0
  have k1 := h1
  have lt1 : ∀ x ∈ p1, x.block < W.heap.size := by obtain ⟨m, hm⟩ := k1; exact DataW.trod_lt m _ _ _ hm
  obtain ⟨a1, r101, q1⟩ := Open.arg_struct Try.underlying34 (Open.opens_iso (Open.opens_struct Try.underlying34 (by kernel_rfl) (Open.opensF_cons rfl (by kernel_rfl) rfl (Open.opens_int Try.underlying3) (Open.opensF_cons rfl (by kernel_rfl) rfl (Open.opens_int Try.underlying24) (Open.opensF_last rfl (by kernel_rfl) (Open.opens_int Try.underlying24))))) Dc.enc (fun a => (⟨a.1, a.2.1, a.2.2⟩ : Dc)) (fun _ => rfl) (Q' := (fun x : Dc => (Open.QSt (Open.QPair (Open.QInt .i64) (Open.QPair (Open.QInt .u64) (Open.QInt .u64)))) (x.d, x.a, x.b))) (fun _ _ h => h)) (hval 1 34 v1 rfl rfl) h1
  obtain ⟨a2, rfl, rfl, rfl, w2⟩ := open_string Try.underlying9 (hval 2 9 v2 rfl rfl) h2
  have q2 : Open.QStr a2 (Rows.uptoBulk (H := H) (.lit (.string a2.data.toList))) := ⟨w2, by simp [Rows.uptoBulk]⟩
  clear hA0 hval0
  obtain ⟨kk, vv, HH, hkk, rfl⟩ := X.ConfTexts_true a0 _ q0 a1 _ q1 a2 _ q2 (Open.bound hk)
  refine (X.law_calls X.cok (v := .nilp) ⟨kk, HH, hkk⟩ (L2.cons r100 (L2.cons r101 (L2.cons (VR.str a2) L2.nil)))).mono fun e W' ⟨he, bel⟩ => ?_
  subst he
  exact ⟨_, rfl, _, _, _, [], _, [], hW', trodAll_mk1 (shut_bool Try.underlying4 _), (trodAll_cons_mk (Below.trod Open.laidOut (by kernel_rfl) (of_decide_eq_true (by kernel_rfl)) k0 bel lt0) (trodAll_cons_mk (Below.trod Open.laidOut (by kernel_rfl) (of_decide_eq_true (by kernel_rfl)) k1 bel lt1) (trodAll_cons_mk (shut_string Try.underlying9 w2) trodAll_mk0))), rfl, bel.frame _, fun h => by cases h⟩
theorem over : Rows.confTextsUptoRow.holds Try.pinned (Rows.OpenSpec.upto Rows.confTextsSpec) :=
  OpenClaim.holds_of_cond 7 Try.f7 rfl rfl rfl rfl rfl rfl rfl ⟨rfl, rfl, rfl, rfl, rfl⟩ rfl rfl rfl rfl rfl (by kernel_rfl) Try.func7 (by kernel_rfl)
    (of_decide_eq_true (by kernel_rfl)) (by unfold Func.isWrapper; first | (rw [if_pos (by decide +kernel)]; kernel_rfl) | (rw [if_neg (by decide +kernel)]; exact ⟨rfl, rfl⟩))
    (fun os started H enc _ F => lifted os started H enc F)
theorem proved : Rows.ConfTextsUptoSaid := over
#print axioms proved
end Go.Proofs.Ytealccnfnpkngaa.confTexts
namespace Go.Proofs.Ytealccnfnpkngaa
/-- The row, under a short name, for the claim. -/
theorem confTexts_holds : Rows.ConfTextsUptoSaid := confTexts.proved
end Go.Proofs.Ytealccnfnpkngaa
