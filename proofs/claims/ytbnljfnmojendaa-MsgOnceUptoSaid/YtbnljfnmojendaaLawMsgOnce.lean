/- The row of MsgOnce, written by a program of this claim's (rowx.py) out of the reckoning X.MsgOnce_true. -/
import Derived.Test.YtbnljfnmojendaaI
import Derived.Test.YtbnljfnmojendaaMG5
namespace Go.Proofs.Ytbnljfnmojendaa.msgOnce
open Go.ChangeShapes Go.WideShapes Go.ChangeAt Go.RowKit Go.Proofs.Ytbnljfnmojendaa.X
open Go.ChangeMaps (open_string shut_string)
set_option linter.unusedVariables false
set_option maxRecDepth 100000
theorem lifted (os : Os) (started : os.Started) (H : Type) (enc : TypeId × Value → H) (F : Stop.Interp) :
    ReturnsInHanded {} Try.checked os 6 .any ((Rows.OpenSpec.upto Rows.msgOnceSpec).pre6 enc Try.prog Try.f6 Rows.msgOnceUptoRow.domain false) (((Rows.OpenSpec.upto Rows.msgOnceSpec).at F).post enc Try.prog Try.f6 false true false false) := by
  refine returnsInHanded_of_cond (C := Try.checked) (s := Rows.OpenSpec.upto Rows.msgOnceSpec) (k := Rows.uptoSmall) rfl Open.own started (by kernel_rfl) Try.func6
    (OpenSpec.witness (enc := enc) (C := Try.checked) (s := Rows.OpenSpec.upto Rows.msgOnceSpec) (k := Rows.uptoSmall) rfl false ⟨#[], #[.string ByteArray.empty, .int .u8 0], []⟩ 8 (by kernel_rfl) (by kernel_rfl) (by kernel_rfl)
      (x := ([.lit (.string []), .lit (.int .u8 0)], [], [])) (by kernel_rfl) rfl (by kernel_rfl)) ?_
  intro W base args ds gs before hval0 hW _ hk _
  have hval : ∀ (j : Nat) t v, Try.f6.params[j]? = some t → args[j]? = some v → Value.okWide Try.prog W .any base t v := hval0
  have hW' := hW
  obtain ⟨p, q, hA0, hV, rfl, hfz, hnd⟩ := hW
  have hA : DataW.TrodAll enc Try.prog W 0 (fun _ => true) true Try.f6.params.toList args.toList ds p := hA0
  rw [Try.params6] at hA hval
  obtain ⟨v0, vs0, d0, ds0, p0, q0, hargs, rfl, rfl, h0, r0⟩ := trodAll_cons hA
  obtain ⟨v1, vs1, d1, ds1, p1, q1, rfl, rfl, rfl, h1, r1⟩ := trodAll_cons r0
  obtain ⟨rfl, rfl, rfl⟩ := trodAll_nil r1
  obtain rfl : args = #[v0, v1] := by cases args; simp_all
  obtain ⟨rfl, rfl⟩ := trodVars_none hV
  obtain ⟨a0, rfl, rfl, rfl, w0⟩ := open_string Try.underlying9 (hval 0 9 v0 rfl rfl) h0
  have q0 : Open.QStr a0 (Rows.uptoBulk (H := H) (.lit (.string a0.data.toList))) := ⟨w0, by simp [Rows.uptoBulk]⟩
  obtain ⟨a1, rfl, rfl, rfl, w1⟩ := open_int Try.underlying5 (hval 1 5 v1 rfl rfl) h1
  have q1 : Open.QInt .u8 a1 (Rows.uptoBulk (H := H) (.lit (.int .u8 a1))) := ⟨w1, by simp [Rows.uptoBulk]⟩
  clear hA0 hval0
  obtain ⟨kk, vv, HH, hkk, rfl⟩ := X.MsgOnce_true a0 _ q0 a1 _ q1 (Open.bound hk)
  refine (X.law_calls X.cok (v := .nilp) ⟨kk, HH, hkk⟩ (L2.cons (VR.str a0) (L2.cons (VR.int .u8 a1) L2.nil))).mono fun e W' ⟨he, bel⟩ => ?_
  subst he
  exact ⟨_, rfl, _, _, _, [], _, [], hW', trodAll_mk1 (shut_bool Try.underlying4 _), (trodAll_cons_mk (shut_string Try.underlying9 w0) (trodAll_cons_mk (shut_int Try.underlying5 w1) trodAll_mk0)), rfl, bel.frame _, fun h => by cases h⟩
theorem over : Rows.msgOnceUptoRow.holds Try.pinned (Rows.OpenSpec.upto Rows.msgOnceSpec) :=
  OpenClaim.holds_of_cond 6 Try.f6 rfl rfl rfl rfl rfl rfl rfl ⟨rfl, rfl, rfl, rfl, rfl⟩ rfl rfl rfl rfl rfl (by kernel_rfl) Try.func6 (by kernel_rfl)
    (of_decide_eq_true (by kernel_rfl)) (by unfold Func.isWrapper; first | (rw [if_pos (by decide +kernel)]; kernel_rfl) | (rw [if_neg (by decide +kernel)]; exact ⟨rfl, rfl⟩))
    (fun os started H enc _ F => lifted os started H enc F)
theorem proved : Rows.MsgOnceUptoSaid := over
#print axioms proved
end Go.Proofs.Ytbnljfnmojendaa.msgOnce
namespace Go.Proofs.Ytbnljfnmojendaa
/-- The row, under a short name, for the claim. -/
theorem msgOnce_holds : Rows.MsgOnceUptoSaid := msgOnce.proved
end Go.Proofs.Ytbnljfnmojendaa
