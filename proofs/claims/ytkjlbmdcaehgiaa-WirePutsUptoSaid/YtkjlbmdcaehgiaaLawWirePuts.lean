-- The row of WirePuts, written by a program of this claim's (row.py) out of the walk L.WirePuts_walk.
import Derived.Test.YtkjlbmdcaehgiaaOpen
import Derived.Test.YtkjlbmdcaehgiaaLw01b
namespace Go.Proofs.Ytkjlbmdcaehgiaa.wirePuts
open Go.ChangeShapes Go.WideShapes Go.ChangeAt Go.RowKit Go.Proofs.YtkjlbmdcaehgiaaW.PrintWords
open Go.ChangeMaps (open_string shut_string)
set_option linter.unusedVariables false
set_option maxRecDepth 100000 in
theorem lifted (os : Os) (started : os.Started) (H : Type) (enc : TypeId × Value → H) (F : Stop.Interp) :
    ReturnsInHanded {} Try.checked os 3 .any ((Rows.OpenSpec.upto Rows.wirePutsSpec).pre6 enc Try.prog Try.f3 Rows.wirePutsUptoRow.domain false) (((Rows.OpenSpec.upto Rows.wirePutsSpec).at F).post enc Try.prog Try.f3 false true false false) := by
  refine returnsInHanded_of_cond (C := Try.checked) (s := Rows.OpenSpec.upto Rows.wirePutsSpec) (k := Rows.uptoSmall) rfl Open.own started (by kernel_rfl) Try.func3
    (OpenSpec.witness (enc := enc) (C := Try.checked) (s := Rows.OpenSpec.upto Rows.wirePutsSpec) (k := Rows.uptoSmall) rfl false ⟨#[], #[.int .u64 0, .slice none 0 0, .slice none 0 0], []⟩ 8 (by kernel_rfl) (by kernel_rfl) (by kernel_rfl)
      (x := ([.lit (.int .u64 0), .nil, .nil], [], [])) (by kernel_rfl) rfl (by kernel_rfl)) ?_
  intro W base args ds gs before hval0 hW _ hk _
  have hval : ∀ (j : Nat) t v, Try.f3.params[j]? = some t → args[j]? = some v → Value.okWide Try.prog W .any base t v := hval0
  have hW' := hW
  obtain ⟨p, q, hA0, hV, rfl, hfz, hnd⟩ := hW
  have hA : DataW.TrodAll enc Try.prog W 0 (fun _ => true) true Try.f3.params.toList args.toList ds p := hA0
  rw [Try.params3] at hA hval
  obtain ⟨v0, vs0, d0, ds0, p0, q0, hargs, rfl, rfl, h0, r0⟩ := trodAll_cons hA
  obtain ⟨v1, vs1, d1, ds1, p1, q1, rfl, rfl, rfl, h1, r1⟩ := trodAll_cons r0
  obtain ⟨v2, vs2, d2, ds2, p2, q2, rfl, rfl, rfl, h2, r2⟩ := trodAll_cons r1
  obtain ⟨rfl, rfl, rfl⟩ := trodAll_nil r2
  obtain rfl : args = #[v0, v1, v2] := by cases args; simp_all
  obtain ⟨rfl, rfl⟩ := trodVars_none hV
  obtain ⟨a0, rfl, rfl, rfl, w0⟩ := open_int Try.underlying22 (hval 0 22 v0 rfl rfl) h0
  have q0 : Open.QInt .u64 a0 (Rows.uptoBulk (H := H) (.lit (.int .u64 a0))) := ⟨w0, by simp [Rows.uptoBulk]⟩
  have k1 := h1
  have lt1 : ∀ x ∈ p1, x.block < W.heap.size := by obtain ⟨m, hm⟩ := k1; exact DataW.trod_lt m _ _ _ hm
  obtain ⟨A1, c1, l1, rfl, hl1, hr1, q1⟩ := Open.arg_slice (d := (Kd.int .u64)) Try.underlying23 (Open.opens_slice Try.underlying23 (by kernel_rfl) (Open.opens_int Try.underlying22)) (hval 1 23 v1 rfl rfl) h1
  have k2 := h2
  have lt2 : ∀ x ∈ p2, x.block < W.heap.size := by obtain ⟨m, hm⟩ := k2; exact DataW.trod_lt m _ _ _ hm
  obtain ⟨A2, c2, l2, rfl, hl2, hr2, q2⟩ := Open.arg_slice (d := Kd.string) Try.underlying24 (Open.opens_slice Try.underlying24 (by kernel_rfl) (Open.opens_string Try.underlying9)) (hval 2 24 v2 rfl rfl) h2
  clear hA0 hval0
  refine (L.WirePuts_walk W a0 _ q0 _ _ l1 hl1 hr1 _ q1 _ _ l2 hl2 hr2 _ q2 (Open.bound hk)).mono fun e W' ⟨he, bel⟩ => ?_
  subst he
  exact ⟨_, rfl, _, _, _, [], _, [], hW', trodAll_mk1 (shut_bool Try.underlying4 _), (trodAll_cons_mk (shut_int Try.underlying22 w0) (trodAll_cons_mk (Below.trod Open.laidOut (by kernel_rfl) (of_decide_eq_true (by kernel_rfl)) k1 bel lt1) (trodAll_cons_mk (Below.trod Open.laidOut (by kernel_rfl) (of_decide_eq_true (by kernel_rfl)) k2 bel lt2) trodAll_mk0))), rfl, bel.frame _, fun h => by cases h⟩
theorem over : Rows.wirePutsUptoRow.holds Try.pinned (Rows.OpenSpec.upto Rows.wirePutsSpec) :=
  OpenClaim.holds_of_cond 3 Try.f3 rfl rfl rfl rfl rfl rfl rfl ⟨rfl, rfl, rfl, rfl, rfl⟩ rfl rfl rfl rfl rfl (by kernel_rfl) Try.func3 (by kernel_rfl)
    (of_decide_eq_true (by kernel_rfl)) (by unfold Func.isWrapper; first | (rw [if_pos (by decide +kernel)]; kernel_rfl) | (rw [if_neg (by decide +kernel)]; exact ⟨rfl, rfl⟩))
    (fun os started H enc _ F => lifted os started H enc F)
theorem proved : Rows.WirePutsUptoSaid := over
#print axioms proved
end Go.Proofs.Ytkjlbmdcaehgiaa.wirePuts
namespace Go.Proofs.Ytkjlbmdcaehgiaa
/-- The row, under a short name, for the claim. -/
theorem wirePuts_holds : Rows.WirePutsUptoSaid := wirePuts.proved
end Go.Proofs.Ytkjlbmdcaehgiaa
