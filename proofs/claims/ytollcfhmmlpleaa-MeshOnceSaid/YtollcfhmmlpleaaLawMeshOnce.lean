/- The row of MeshOnce, written by a program of this claim's (rowx.py) out of the reckoning X.MeshOnce_true. -/
import Derived.Test.YtollcfhmmlpleaaI
import Derived.Test.YtollcfhmmlpleaaM11
namespace Go.Proofs.Ytollcfhmmlpleaa.meshOnce
open Go.ChangeShapes Go.WideShapes Go.ChangeAt Go.RowKit Go.Proofs.Ytollcfhmmlpleaa.X
open Go.ChangeMaps (open_string shut_string)
set_option linter.unusedVariables false
set_option maxRecDepth 100000
theorem lifted (os : Os) (started : os.Started) (H : Type) (enc : TypeId × Value → H) :
    ReturnsInHanded {} Try.checked os 3 .any (Rows.meshOnceSpec.pre6 enc Try.prog Try.f3 Rows.meshOnceRow.domain false) (Rows.meshOnceSpec.post enc Try.prog Try.f3 false true false false) := by
  refine returnsInHanded_of_change_sized (C := Try.checked) Open.own started (by kernel_rfl) Try.func3
    (ChangeSpec.witness6 (enc := enc) (C := Try.checked) false ⟨#[], #[.slice none 0 0, .slice none 0 0], []⟩ 8 (by kernel_rfl) (by kernel_rfl) (by kernel_rfl) (by kernel_rfl)) ?_
  intro W base args ds gs before hval0 hW hcnd hsz0 _
  have hsz : (DataW.weightsEach Try.prog (Try.f3.params.toList ++ Rows.meshOnceSpec.plain.varTypes Try.prog) (ds ++ gs)).all (· ≤ reachBytes) = true := hsz0
  have hval : ∀ (j : Nat) t v, Try.f3.params[j]? = some t → args[j]? = some v → Value.okWide Try.prog W .any base t v := hval0
  have hW' := hW
  obtain ⟨p, q, hA0, hV, rfl, hfz, hnd⟩ := hW
  have hA : DataW.TrodAll enc Try.prog W 0 (fun _ => true) true Try.f3.params.toList args.toList ds p := hA0
  rw [Try.params3] at hA hval hsz
  obtain ⟨v0, vs0, d0, ds0, p0, q0, hargs, rfl, rfl, h0, r0⟩ := trodAll_cons hA
  obtain ⟨v1, vs1, d1, ds1, p1, q1, rfl, rfl, rfl, h1, r1⟩ := trodAll_cons r0
  obtain ⟨rfl, rfl, rfl⟩ := trodAll_nil r1
  obtain rfl : args = #[v0, v1] := by cases args; simp_all
  obtain ⟨rfl, rfl⟩ := trodVars_none hV
  have k0 := h0
  have lt0 : ∀ x ∈ p0, x.block < W.heap.size := by obtain ⟨m, hm⟩ := k0; exact DataW.trod_lt m _ _ _ hm
  obtain ⟨a0, r100, q0⟩ := Open.arg_slice Try.underlying22 (Open.opens_slice Try.underlying22 (by kernel_rfl) (by decide) (Open.opens_iso (Open.opens_struct Try.underlying30 (by kernel_rfl) (Open.opensF_cons rfl (by kernel_rfl) rfl (Open.opens_int Try.underlying28) (Open.opensF_cons rfl (by kernel_rfl) rfl (Open.opens_int Try.underlying28) (Open.opensF_last rfl (by kernel_rfl) (Open.opens_string Try.underlying9))))) Lt.enc (fun a => (⟨a.1, a.2.1, a.2.2⟩ : Lt)) (fun _ => rfl) (Q' := (fun x : Lt => (Open.QSt (Open.QPair (Open.QInt .u64) (Open.QPair (Open.QInt .u64) Open.QStr))) (x.f, x.t, x.s))) (fun _ _ h => h))) (hval 0 22 v0 rfl rfl) h0
  have y0 : a0.length * 32 ≤ 140737488351232 := by
    obtain ⟨A0, c0, e0⟩ := Open.lst_value r100
    rw [e0] at h0
    have z := Open.sized_sl hsz (j := 0) (t := 22) (B := 32) rfl rfl Try.underlying22 (by kernel_rfl) h0
    simpa using z
  have k1 := h1
  have lt1 : ∀ x ∈ p1, x.block < W.heap.size := by obtain ⟨m, hm⟩ := k1; exact DataW.trod_lt m _ _ _ hm
  obtain ⟨a1, r101, q1⟩ := Open.arg_slice Try.underlying23 (Open.opens_slice Try.underlying23 (by kernel_rfl) (by decide) (Open.opens_int Try.underlying3)) (hval 1 23 v1 rfl rfl) h1
  have y1 : a1.length * 8 ≤ 140737488351232 := by
    obtain ⟨A1, c1, e1⟩ := Open.lst_value r101
    rw [e1] at h1
    have z := Open.sized_sl hsz (j := 1) (t := 23) (B := 8) rfl rfl Try.underlying23 (by kernel_rfl) h1
    simpa using z
  clear hA0 hval0 hsz0 hsz
  obtain ⟨kk, vv, HH, hkk, rfl⟩ := X.MeshOnce_true a0 _ q0 a1 _ q1 y0 y1
  refine (X.law_calls X.cok (v := .nilp) ⟨kk, HH, hkk⟩ (L2.cons r100 (L2.cons r101 L2.nil))).mono fun e W' ⟨he, bel⟩ => ?_
  subst he
  exact ⟨_, rfl, _, _, _, [], _, [], hW', trodAll_mk1 (shut_bool Try.underlying4 _), (trodAll_cons_mk (Below.trod Open.laidOut (by kernel_rfl) (of_decide_eq_true (by kernel_rfl)) k0 bel lt0) (trodAll_cons_mk (Below.trod Open.laidOut (by kernel_rfl) (of_decide_eq_true (by kernel_rfl)) k1 bel lt1) trodAll_mk0)), rfl, bel.frame _, fun h => by cases h⟩
theorem over : Rows.meshOnceRow.holds Try.pinned (OpenSpec.ofChange Rows.meshOnceSpec) :=
  OpenClaim.holds_of_wide 3 Try.f3 rfl rfl rfl rfl rfl rfl rfl ⟨rfl, rfl, rfl, rfl, rfl⟩ rfl rfl rfl rfl rfl (by kernel_rfl) Try.func3 (by kernel_rfl)
    (of_decide_eq_true (by kernel_rfl)) (by unfold Func.isWrapper; first | (rw [if_pos (by decide +kernel)]; kernel_rfl) | (rw [if_neg (by decide +kernel)]; exact ⟨rfl, rfl⟩))
    (fun os started H enc _ => lifted os started H enc)
theorem proved : Rows.MeshOnceSaid := over
#print axioms proved
end Go.Proofs.Ytollcfhmmlpleaa.meshOnce
namespace Go.Proofs.Ytollcfhmmlpleaa
/-- The row, under a short name, for the claim. -/
theorem meshOnce_holds : Rows.MeshOnceSaid := meshOnce.proved
end Go.Proofs.Ytollcfhmmlpleaa
