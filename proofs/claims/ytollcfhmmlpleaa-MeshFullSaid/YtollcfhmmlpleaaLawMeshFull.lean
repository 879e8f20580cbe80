/- The row of MeshFull, written by a program of this claim's (rowx.py) out of the reckoning X.MeshFull_true. -/
import Derived.Test.YtollcfhmmlpleaaI
import Derived.Test.YtollcfhmmlpleaaM8
namespace Go.Proofs.Ytollcfhmmlpleaa.meshFull
open Go.ChangeShapes Go.WideShapes Go.ChangeAt Go.RowKit Go.Proofs.Ytollcfhmmlpleaa.X
open Go.ChangeMaps (open_string shut_string)
set_option linter.unusedVariables false
set_option maxRecDepth 100000
theorem lifted (os : Os) (started : os.Started) (H : Type) (enc : TypeId × Value → H) :
    ReturnsInHanded {} Try.checked os 4 .any (Rows.meshFullSpec.pre6 enc Try.prog Try.f4 Rows.meshFullRow.domain false) (Rows.meshFullSpec.post enc Try.prog Try.f4 false true false false) := by
  refine returnsInHanded_of_change_sized (C := Try.checked) Open.own started (by kernel_rfl) Try.func4
    (ChangeSpec.witness6 (enc := enc) (C := Try.checked) false ⟨#[], #[.slice none 0 0, .int .i64 0], []⟩ 8 (by kernel_rfl) (by kernel_rfl) (by kernel_rfl) (by kernel_rfl)) ?_
  intro W base args ds gs before hval0 hW hcnd hsz0 _
  have hsz : (DataW.weightsEach Try.prog (Try.f4.params.toList ++ Rows.meshFullSpec.plain.varTypes Try.prog) (ds ++ gs)).all (· ≤ reachBytes) = true := hsz0
  have hval : ∀ (j : Nat) t v, Try.f4.params[j]? = some t → args[j]? = some v → Value.okWide Try.prog W .any base t v := hval0
  have hW' := hW
  obtain ⟨p, q, hA0, hV, rfl, hfz, hnd⟩ := hW
  have hA : DataW.TrodAll enc Try.prog W 0 (fun _ => true) true Try.f4.params.toList args.toList ds p := hA0
  rw [Try.params4] at hA hval hsz
  obtain ⟨v0, vs0, d0, ds0, p0, q0, hargs, rfl, rfl, h0, r0⟩ := trodAll_cons hA
  obtain ⟨v1, vs1, d1, ds1, p1, q1, rfl, rfl, rfl, h1, r1⟩ := trodAll_cons r0
  obtain ⟨rfl, rfl, rfl⟩ := trodAll_nil r1
  obtain rfl : args = #[v0, v1] := by cases args; simp_all
  obtain ⟨rfl, rfl⟩ := trodVars_none hV
  have k0 := h0
  have lt0 : ∀ x ∈ p0, x.block < W.heap.size := by obtain ⟨m, hm⟩ := k0; exact DataW.trod_lt m _ _ _ hm
  obtain ⟨a0, r100, q0⟩ := Open.arg_slice Try.underlying22 (Open.opens_slice Try.underlying22 (by kernel_rfl) (by decide) (Open.opens_iso (Open.opens_struct Try.underlying30 (by kernel_rfl) (Open.opensF_cons rfl (by kernel_rfl) rfl (Open.opens_int Try.underlying28) (Open.opensF_cons rfl (by kernel_rfl) rfl (Open.opens_int Try.underlying28) (Open.opensF_last rfl (by kernel_rfl) (Open.opens_string Try.underlying9))))) Lt.enc (fun a => (⟨a.1, a.2.1, a.2.2⟩ : Lt)) (fun _ => rfl) (Q' := (fun x : Lt => (Open.QSt (Open.QPair (Open.QInt .u64) (Open.QPair (Open.QInt .u64) Open.QStr))) (x.f, x.t, x.s))) (fun _ _ h => h))) (hval 0 22 v0 rfl rfl) h0
  have y0 : a0.length * 32 ≤ 140737488351232 := by
    obtain ⟨A0, c0, e0⟩ := Open.lst_value r100
    rw [e0] at h0
    have z := Open.sized_sl hsz (j := 0) (t := 22) (B := 32) rfl rfl Try.underlying22 (by kernel_rfl) h0
    simpa using z
  obtain ⟨a1, rfl, rfl, rfl, w1⟩ := open_int Try.underlying3 (hval 1 3 v1 rfl rfl) h1
  have q1 : Open.QInt .i64 a1 (Rows.uptoBulk (H := H) (.lit (.int .i64 a1))) := ⟨w1, by simp [Rows.uptoBulk]⟩
  clear hA0 hval0 hsz0 hsz
  obtain ⟨kk, vv, HH, hkk, rfl⟩ := X.MeshFull_true a0 _ q0 a1 _ q1 y0
  refine (X.law_calls X.cok (v := .nilp) ⟨kk, HH, hkk⟩ (L2.cons r100 (L2.cons (VR.int .i64 a1) L2.nil))).mono fun e W' ⟨he, bel⟩ => ?_
  subst he
  exact ⟨_, rfl, _, _, _, [], _, [], hW', trodAll_mk1 (shut_bool Try.underlying4 _), (trodAll_cons_mk (Below.trod Open.laidOut (by kernel_rfl) (of_decide_eq_true (by kernel_rfl)) k0 bel lt0) (trodAll_cons_mk (shut_int Try.underlying3 w1) trodAll_mk0)), rfl, bel.frame _, fun h => by cases h⟩
theorem over : Rows.meshFullRow.holds Try.pinned (OpenSpec.ofChange Rows.meshFullSpec) :=
  OpenClaim.holds_of_wide 4 Try.f4 rfl rfl rfl rfl rfl rfl rfl ⟨rfl, rfl, rfl, rfl, rfl⟩ rfl rfl rfl rfl rfl (by kernel_rfl) Try.func4 (by kernel_rfl)
    (of_decide_eq_true (by kernel_rfl)) (by unfold Func.isWrapper; first | (rw [if_pos (by decide +kernel)]; kernel_rfl) | (rw [if_neg (by decide +kernel)]; exact ⟨rfl, rfl⟩))
    (fun os started H enc _ => lifted os started H enc)
theorem proved : Rows.MeshFullSaid := over
#print axioms proved
end Go.Proofs.Ytollcfhmmlpleaa.meshFull
namespace Go.Proofs.Ytollcfhmmlpleaa
/-- The row, under a short name, for the claim. -/
theorem meshFull_holds : Rows.MeshFullSaid := meshFull.proved
end Go.Proofs.Ytollcfhmmlpleaa
