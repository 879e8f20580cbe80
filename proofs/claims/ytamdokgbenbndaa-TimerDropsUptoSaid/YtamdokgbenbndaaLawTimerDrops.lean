/- The row of TimerDrops, written by a program of this claim's (rowx.py) out of the reckoning X.TimerDrops_true. -/
import Derived.Test.YtamdokgbenbndaaI
import Derived.Test.YtamdokgbenbndaaTI19
namespace Go.Proofs.Ytamdokgbenbndaa.timerDrops
open Go.ChangeShapes Go.WideShapes Go.ChangeAt Go.RowKit Go.Proofs.Ytamdokgbenbndaa.X
open Go.ChangeMaps (open_string shut_string)
set_option linter.unusedVariables false
set_option maxRecDepth 100000
theorem lifted (os : Os) (started : os.Started) (H : Type) (enc : TypeId × Value → H) (F : Stop.Interp) :
    ReturnsInHanded {} Try.checked os 6 .any ((Rows.OpenSpec.upto Rows.timerDropsSpec).pre6 enc Try.prog Try.f6 Rows.timerDropsUptoRow.domain false) (((Rows.OpenSpec.upto Rows.timerDropsSpec).at F).post enc Try.prog Try.f6 false true false false) := by
  refine returnsInHanded_of_cond (C := Try.checked) (s := Rows.OpenSpec.upto Rows.timerDropsSpec) (k := Rows.uptoSmall) rfl Open.own started (by kernel_rfl) Try.func6
    (OpenSpec.witness (enc := enc) (C := Try.checked) (s := Rows.OpenSpec.upto Rows.timerDropsSpec) (k := Rows.uptoSmall) rfl false ⟨#[], #[.slice none 0 0, .string ByteArray.empty, .int .u64 0], []⟩ 8 (by kernel_rfl) (by kernel_rfl) (by kernel_rfl)
      (x := ([.nil, .lit (.string []), .lit (.int .u64 0)], [], [])) (by kernel_rfl) rfl (by kernel_rfl)) ?_
  intro W base args ds gs before hval0 hW _ hk _
  have hval : ∀ (j : Nat) t v, Try.f6.params[j]? = some t → args[j]? = some v → Value.okWide Try.prog W .any base t v := hval0
  have hW' := hW
  obtain ⟨p, q, hA0, hV, rfl, hfz, hnd⟩ := hW
  have hA : DataW.TrodAll enc Try.prog W 0 (fun _ => true) true Try.f6.params.toList args.toList ds p := hA0
  rw [Try.params6] at hA hval
  obtain ⟨v0, vs0, d0, ds0, p0, q0, hargs, rfl, rfl, h0, r0⟩ := trodAll_cons hA
  obtain ⟨v1, vs1, d1, ds1, p1, q1, rfl, rfl, rfl, h1, r1⟩ := trodAll_cons r0
  obtain ⟨v2, vs2, d2, ds2, p2, q2, rfl, rfl, rfl, h2, r2⟩ := trodAll_cons r1
  obtain ⟨rfl, rfl, rfl⟩ := trodAll_nil r2
  obtain rfl : args = #[v0, v1, v2] := by cases args; simp_all
  obtain ⟨rfl, rfl⟩ := trodVars_none hV
  have k0 := h0
  have lt0 : ∀ x ∈ p0, x.block < W.heap.size := by obtain ⟨m, hm⟩ := k0; exact DataW.trod_lt m _ _ _ hm
  obtain ⟨a0, r100, q0⟩ := Open.arg_slice Try.underlying22 (Open.opens_slice Try.underlying22 (by kernel_rfl) (by decide) (Open.opens_iso (Open.opens_struct Try.underlying29 (by kernel_rfl) (Open.opensF_cons rfl (by kernel_rfl) rfl (Open.opens_int Try.underlying23) (Open.opensF_last rfl (by kernel_rfl) (Open.opens_string Try.underlying9)))) Du.enc (fun a => (⟨a.1, a.2⟩ : Du)) (fun _ => rfl) (Q' := (fun x : Du => (Open.QSt (Open.QPair (Open.QInt .u64) Open.QStr)) (x.at', x.wh))) (fun _ _ h => h))) (hval 0 22 v0 rfl rfl) h0
  obtain ⟨a1, rfl, rfl, rfl, w1⟩ := open_string Try.underlying9 (hval 1 9 v1 rfl rfl) h1
  have q1 : Open.QStr a1 (Rows.uptoBulk (H := H) (.lit (.string a1.data.toList))) := ⟨w1, by simp [Rows.uptoBulk]⟩
  obtain ⟨a2, rfl, rfl, rfl, w2⟩ := open_int Try.underlying23 (hval 2 23 v2 rfl rfl) h2
  have q2 : Open.QInt .u64 a2 (Rows.uptoBulk (H := H) (.lit (.int .u64 a2))) := ⟨w2, by simp [Rows.uptoBulk]⟩
  clear hA0 hval0
  obtain ⟨kk, vv, HH, hkk, rfl⟩ := X.TimerDrops_true a0 _ q0 a1 _ q1 a2 _ q2 (Open.bound hk)
  refine (X.law_calls X.cok (v := .nilp) ⟨kk, HH, hkk⟩ (L2.cons r100 (L2.cons (VR.str a1) (L2.cons (VR.int .u64 a2) L2.nil)))).mono fun e W' ⟨he, bel⟩ => ?_
  subst he
  exact ⟨_, rfl, _, _, _, [], _, [], hW', trodAll_mk1 (shut_bool Try.underlying4 _), (trodAll_cons_mk (Below.trod Open.laidOut (by kernel_rfl) (of_decide_eq_true (by kernel_rfl)) k0 bel lt0) (trodAll_cons_mk (shut_string Try.underlying9 w1) (trodAll_cons_mk (shut_int Try.underlying23 w2) trodAll_mk0))), rfl, bel.frame _, fun h => by cases h⟩
theorem over : Rows.timerDropsUptoRow.holds Try.pinned (Rows.OpenSpec.upto Rows.timerDropsSpec) :=
  OpenClaim.holds_of_cond 6 Try.f6 rfl rfl rfl rfl rfl rfl rfl ⟨rfl, rfl, rfl, rfl, rfl⟩ rfl rfl rfl rfl rfl (by kernel_rfl) Try.func6 (by kernel_rfl)
    (of_decide_eq_true (by kernel_rfl)) (by unfold Func.isWrapper; first | (rw [if_pos (by decide +kernel)]; kernel_rfl) | (rw [if_neg (by decide +kernel)]; exact ⟨rfl, rfl⟩))
    (fun os started H enc _ F => lifted os started H enc F)
theorem proved : Rows.TimerDropsUptoSaid := over
#print axioms proved
end Go.Proofs.Ytamdokgbenbndaa.timerDrops
namespace Go.Proofs.Ytamdokgbenbndaa
/-- The row, under a short name, for the claim. -/
theorem timerDrops_holds : Rows.TimerDropsUptoSaid := timerDrops.proved
end Go.Proofs.Ytamdokgbenbndaa
