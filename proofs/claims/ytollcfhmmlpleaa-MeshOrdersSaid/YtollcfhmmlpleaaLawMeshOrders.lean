/- The row of MeshOrders, written by a program of this claim's (rowx.py) out of the reckoning X.MeshOrders_true. -/
import Derived.Test.YtollcfhmmlpleaaI
import Derived.Test.YtollcfhmmlpleaaM9
namespace Go.Proofs.Ytollcfhmmlpleaa.meshOrders
open Go.ChangeShapes Go.WideShapes Go.ChangeAt Go.RowKit Go.Proofs.Ytollcfhmmlpleaa.X
open Go.ChangeMaps (open_string shut_string)
set_option linter.unusedVariables false
set_option maxRecDepth 100000
theorem lifted (os : Os) (started : os.Started) (H : Type) (enc : TypeId × Value → H) :
    ReturnsInHanded {} Try.checked os 5 .any (Rows.meshOrdersSpec.pre6 enc Try.prog Try.f5 Rows.meshOrdersRow.domain false) (Rows.meshOrdersSpec.post enc Try.prog Try.f5 false true false false) := by
  refine returnsInHanded_of_change_sized (C := Try.checked) Open.own started (by kernel_rfl) Try.func5
    (ChangeSpec.witness6 (enc := enc) (C := Try.checked) false ⟨#[], #[.slice none 0 0, .int .u64 0, .int .u64 0], []⟩ 8 (by kernel_rfl) (by kernel_rfl) (by kernel_rfl) (by kernel_rfl)) ?_
  intro W base args ds gs before hval0 hW hcnd hsz0 _
  have hsz : (DataW.weightsEach Try.prog (Try.f5.params.toList ++ Rows.meshOrdersSpec.plain.varTypes Try.prog) (ds ++ gs)).all (· ≤ reachBytes) = true := hsz0
  have hval : ∀ (j : Nat) t v, Try.f5.params[j]? = some t → args[j]? = some v → Value.okWide Try.prog W .any base t v := hval0
  have hW' := hW
  obtain ⟨p, q, hA0, hV, rfl, hfz, hnd⟩ := hW
  have hA : DataW.TrodAll enc Try.prog W 0 (fun _ => true) true Try.f5.params.toList args.toList ds p := hA0
  rw [Try.params5] at hA hval hsz
  obtain ⟨v0, vs0, d0, ds0, p0, q0, hargs, rfl, rfl, h0, r0⟩ := trodAll_cons hA
  obtain ⟨v1, vs1, d1, ds1, p1, q1, rfl, rfl, rfl, h1, r1⟩ := trodAll_cons r0
  obtain ⟨v2, vs2, d2, ds2, p2, q2, rfl, rfl, rfl, h2, r2⟩ := trodAll_cons r1
  obtain ⟨rfl, rfl, rfl⟩ := trodAll_nil r2
  obtain rfl : args = #[v0, v1, v2] := by cases args; simp_all
  obtain ⟨rfl, rfl⟩ := trodVars_none hV
  have k0 := h0
  have lt0 : ∀ x ∈ p0, x.block < W.heap.size := by obtain ⟨m, hm⟩ := k0; exact DataW.trod_lt m _ _ _ hm
  obtain ⟨a0, r100, q0⟩ := Open.arg_slice Try.underlying22 (Open.opens_slice Try.underlying22 (by kernel_rfl) (by decide) (Open.opens_iso (Open.opens_struct Try.underlying30 (by kernel_rfl) (Open.opensF_cons rfl (by kernel_rfl) rfl (Open.opens_int Try.underlying28) (Open.opensF_cons rfl (by kernel_rfl) rfl (Open.opens_int Try.underlying28) (Open.opensF_last rfl (by kernel_rfl) (Open.opens_string Try.underlying9))))) Lt.enc (fun a => (⟨a.1, a.2.1, a.2.2⟩ : Lt)) (fun _ => rfl) (Q' := (fun x : Lt => (Open.QSt (Open.QPair (Open.QInt .u64) (Open.QPair (Open.QInt .u64) Open.QStr))) (x.f, x.t, x.s))) (fun _ _ h => h))) (hval 0 22 v0 rfl rfl) h0
  have y0 : a0.length * 32 ≤ 140737488351232 := by
    obtain ⟨A0, c0, e0⟩ := Open.lst_value r100
    rw [e0] at h0
    have z := Open.sized_sl hsz (j := 0) (t := 22) (B := 32) rfl rfl Try.underlying22 (by kernel_rfl) h0
    simpa using z
  obtain ⟨a1, rfl, rfl, rfl, w1⟩ := open_int Try.underlying28 (hval 1 28 v1 rfl rfl) h1
  have q1 : Open.QInt .u64 a1 (Rows.uptoBulk (H := H) (.lit (.int .u64 a1))) := ⟨w1, by simp [Rows.uptoBulk]⟩
  obtain ⟨a2, rfl, rfl, rfl, w2⟩ := open_int Try.underlying28 (hval 2 28 v2 rfl rfl) h2
  have q2 : Open.QInt .u64 a2 (Rows.uptoBulk (H := H) (.lit (.int .u64 a2))) := ⟨w2, by simp [Rows.uptoBulk]⟩
  clear hA0 hval0 hsz0 hsz
  obtain ⟨kk, vv, HH, hkk, rfl⟩ := X.MeshOrders_true a0 _ q0 a1 _ q1 a2 _ q2 y0
  refine (X.law_calls X.cok (v := .nilp) ⟨kk, HH, hkk⟩ (L2.cons r100 (L2.cons (VR.int .u64 a1) (L2.cons (VR.int .u64 a2) L2.nil)))).mono fun e W' ⟨he, bel⟩ => ?_
  subst he
  exact ⟨_, rfl, _, _, _, [], _, [], hW', trodAll_mk1 (shut_bool Try.underlying4 _), (trodAll_cons_mk (Below.trod Open.laidOut (by kernel_rfl) (of_decide_eq_true (by kernel_rfl)) k0 bel lt0) (trodAll_cons_mk (shut_int Try.underlying28 w1) (trodAll_cons_mk (shut_int Try.underlying28 w2) trodAll_mk0))), rfl, bel.frame _, fun h => by cases h⟩
theorem over : Rows.meshOrdersRow.holds Try.pinned (OpenSpec.ofChange Rows.meshOrdersSpec) :=
  OpenClaim.holds_of_wide 5 Try.f5 rfl rfl rfl rfl rfl rfl rfl ⟨rfl, rfl, rfl, rfl, rfl⟩ rfl rfl rfl rfl rfl (by kernel_rfl) Try.func5 (by kernel_rfl)
    (of_decide_eq_true (by kernel_rfl)) (by unfold Func.isWrapper; first | (rw [if_pos (by decide +kernel)]; kernel_rfl) | (rw [if_neg (by decide +kernel)]; exact ⟨rfl, rfl⟩))
    (fun os started H enc _ => lifted os started H enc)
theorem proved : Rows.MeshOrdersSaid := over
#print axioms proved
end Go.Proofs.Ytollcfhmmlpleaa.meshOrders
namespace Go.Proofs.Ytollcfhmmlpleaa
/-- The row, under a short name, for the claim. -/
theorem meshOrders_holds : Rows.MeshOrdersSaid := meshOrders.proved
end Go.Proofs.Ytollcfhmmlpleaa
