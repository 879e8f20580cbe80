/- The row of ChunkTexts, written by a program of this claim's (rowx.py) out of the reckoning X.ChunkTexts_true. -/
import Derived.Test.YtfkgdlfponfimaaGreatU33
import Derived.Test.YtfkgdlfponfimaaGreatU35
namespace Go.Proofs.YtfkgdlfponfimaaGreat.chunkTexts
open Go.ChangeShapes Go.WideShapes Go.ChangeAt Go.RowKit Go.Proofs.YtfkgdlfponfimaaGreat.X
open Go.ChangeMaps (open_string shut_string)
set_option linter.unusedVariables false
set_option maxRecDepth 100000
theorem lifted (os : Os) (started : os.Started) (H : Type) (enc : TypeId × Value → H) (F : Stop.Interp) :
    ReturnsInHanded {} Tryz.checked os 4 .any ((Rows.OpenSpec.upto Rows.chunkTextsSpec).pre6 enc Tryz.prog Tryz.f4 Rows.chunkTextsUptoRow.domain false) (((Rows.OpenSpec.upto Rows.chunkTextsSpec).at F).post enc Tryz.prog Tryz.f4 false true false false) := by
  refine returnsInHanded_of_cond (C := Tryz.checked) (s := Rows.OpenSpec.upto Rows.chunkTextsSpec) (k := Rows.uptoSmall) rfl Open.own started (by kernel_rfl) Tryz.func4
    (OpenSpec.witness (enc := enc) (C := Tryz.checked) (s := Rows.OpenSpec.upto Rows.chunkTextsSpec) (k := Rows.uptoSmall) rfl false ⟨#[], #[.agg #[.slice none 0 0, .slice none 0 0, .slice none 0 0], .agg #[.int .i64 0, .int .u64 0, .int .u64 0, .int .u64 0, .int .u64 0, .int .u64 0, .int .u64 0, .int .u64 0, .int .u64 0, .int .u64 0, .string ByteArray.empty], .string ByteArray.empty], []⟩ 8 (by kernel_rfl) (by kernel_rfl) (by kernel_rfl)
      (x := ([.agg [.nil, .nil, .nil], .agg [.lit (.int .i64 0), .agg [.lit (.int .u64 0), .lit (.int .u64 0), .lit (.int .u64 0), .lit (.int .u64 0), .lit (.int .u64 0)], .lit (.int .u64 0), .lit (.int .u64 0), .lit (.int .u64 0), .lit (.int .u64 0), .lit (.string [])], .lit (.string [])], [], [])) (by kernel_rfl) rfl (by kernel_rfl)) ?_
  intro W base args ds gs before hval0 hW _ hk _
  have hval : ∀ (j : Nat) t v, Tryz.f4.params[j]? = some t → args[j]? = some v → Value.okWide Tryz.prog W .any base t v := hval0
  have hW' := hW
  obtain ⟨p, q, hA0, hV, rfl, hfz, hnd⟩ := hW
  have hA : DataW.TrodAll enc Tryz.prog W 0 (fun _ => true) true Tryz.f4.params.toList args.toList ds p := hA0
  rw [Tryz.params4] at hA hval
  obtain ⟨v0, vs0, d0, ds0, p0, q0, hargs, rfl, rfl, h0, r0⟩ := trodAll_cons hA
  obtain ⟨v1, vs1, d1, ds1, p1, q1, rfl, rfl, rfl, h1, r1⟩ := trodAll_cons r0
  obtain ⟨v2, vs2, d2, ds2, p2, q2, rfl, rfl, rfl, h2, r2⟩ := trodAll_cons r1
  obtain ⟨rfl, rfl, rfl⟩ := trodAll_nil r2
  obtain rfl : args = #[v0, v1, v2] := by cases args; simp_all
  obtain ⟨rfl, rfl⟩ := trodVars_none hV
  have k0 := h0
  have lt0 : ∀ x ∈ p0, x.block < W.heap.size := by obtain ⟨m, hm⟩ := k0; exact DataW.trod_lt m _ _ _ hm
  obtain ⟨a0, r100, q0⟩ := Open.arg_struct Tryz.underlying26 (Open.opens_iso (Open.opens_struct Tryz.underlying26 (by kernel_rfl) (Open.opensF_cons rfl (by kernel_rfl) rfl (Open.opens_slice Tryz.underlying22 (by kernel_rfl) (by decide) (Open.opens_iso (Open.opens_struct Tryz.underlying69 (by kernel_rfl) (Open.opensF_cons rfl (by kernel_rfl) rfl (Open.opens_int Tryz.underlying28) (Open.opensF_cons rfl (by kernel_rfl) rfl (Open.opens_int Tryz.underlying28) (Open.opensF_cons rfl (by kernel_rfl) rfl (Open.opens_int Tryz.underlying28) (Open.opensF_cons rfl (by kernel_rfl) rfl (Open.opens_int Tryz.underlying3) (Open.opensF_last rfl (by kernel_rfl) (Open.opens_slice Tryz.underlying67 (by kernel_rfl) (by decide) (Open.opens_string Tryz.underlying9)))))))) Vo.enc (fun a => (⟨a.1, a.2.1, a.2.2.1, a.2.2.2.1, a.2.2.2.2⟩ : Vo)) (fun _ => rfl) (Q' := (fun x : Vo => (Open.QSt (Open.QPair (Open.QInt .u64) (Open.QPair (Open.QInt .u64) (Open.QPair (Open.QInt .u64) (Open.QPair (Open.QInt .i64) (Open.QSl Open.QStr)))))) (x.vo, x.tn, x.ep, x.de, x.lv))) (fun _ _ h => h))) (Open.opensF_cons rfl (by kernel_rfl) rfl (Open.opens_slice Tryz.underlying23 (by kernel_rfl) (by decide) (Open.opens_iso (Open.opens_struct Tryz.underlying135 (by kernel_rfl) (Open.opensF_cons rfl (by kernel_rfl) rfl (Open.opens_int Tryz.underlying28) (Open.opensF_cons rfl (by kernel_rfl) rfl (Open.opens_int Tryz.underlying28) (Open.opensF_last rfl (by kernel_rfl) (Open.opens_string Tryz.underlying9))))) SE.Se.enc (fun a => (⟨a.1, a.2.1, a.2.2⟩ : SE.Se)) (fun _ => rfl) (Q' := (fun x : SE.Se => (Open.QSt (Open.QPair (Open.QInt .u64) (Open.QPair (Open.QInt .u64) Open.QStr))) (x.id, x.nr, x.an))) (fun _ _ h => h))) (Open.opensF_last rfl (by kernel_rfl) (Open.opens_slice Tryz.underlying24 (by kernel_rfl) (by decide) (Open.opens_iso (Open.opens_struct Tryz.underlying138 (by kernel_rfl) (Open.opensF_cons rfl (by kernel_rfl) rfl (Open.opens_int Tryz.underlying28) (Open.opensF_cons rfl (by kernel_rfl) rfl (Open.opens_int Tryz.underlying28) (Open.opensF_last rfl (by kernel_rfl) (Open.opens_int Tryz.underlying28))))) Qu.enc (fun a => (⟨a.1, a.2.1, a.2.2⟩ : Qu)) (fun _ => rfl) (Q' := (fun x : Qu => (Open.QSt (Open.QPair (Open.QInt .u64) (Open.QPair (Open.QInt .u64) (Open.QInt .u64)))) (x.tn, x.us, x.li))) (fun _ _ h => h))))))) Ck.enc (fun a => (⟨a.1, a.2.1, a.2.2⟩ : Ck)) (fun _ => rfl) (Q' := (fun x : Ck => (Open.QSt (Open.QPair (Open.QSl (fun x : Vo => (Open.QSt (Open.QPair (Open.QInt .u64) (Open.QPair (Open.QInt .u64) (Open.QPair (Open.QInt .u64) (Open.QPair (Open.QInt .i64) (Open.QSl Open.QStr)))))) (x.vo, x.tn, x.ep, x.de, x.lv))) (Open.QPair (Open.QSl (fun x : SE.Se => (Open.QSt (Open.QPair (Open.QInt .u64) (Open.QPair (Open.QInt .u64) Open.QStr))) (x.id, x.nr, x.an))) (Open.QSl (fun x : Qu => (Open.QSt (Open.QPair (Open.QInt .u64) (Open.QPair (Open.QInt .u64) (Open.QInt .u64)))) (x.tn, x.us, x.li)))))) (x.vs, x.ss, x.qs))) (fun _ _ h => h)) (hval 0 26 v0 rfl rfl) h0
  have k1 := h1
  have lt1 : ∀ x ∈ p1, x.block < W.heap.size := by obtain ⟨m, hm⟩ := k1; exact DataW.trod_lt m _ _ _ hm
  obtain ⟨a1, r101, q1⟩ := Open.arg_struct Tryz.underlying44 (Open.opens_iso (Open.opens_struct Tryz.underlying44 (by kernel_rfl) (Open.opensF_cons rfl (by kernel_rfl) rfl (Open.opens_int Tryz.underlying3) (Open.opensF_cons rfl (by kernel_rfl) rfl (Open.opens_iso (Open.opens_struct Tryz.underlying40 (by kernel_rfl) (Open.opensF_cons rfl (by kernel_rfl) rfl (Open.opens_int Tryz.underlying28) (Open.opensF_cons rfl (by kernel_rfl) rfl (Open.opens_int Tryz.underlying28) (Open.opensF_cons rfl (by kernel_rfl) rfl (Open.opens_int Tryz.underlying28) (Open.opensF_cons rfl (by kernel_rfl) rfl (Open.opens_int Tryz.underlying28) (Open.opensF_last rfl (by kernel_rfl) (Open.opens_int Tryz.underlying28))))))) Tk.enc (fun a => (⟨a.1, a.2.1, a.2.2.1, a.2.2.2.1, a.2.2.2.2⟩ : Tk)) (fun _ => rfl) (Q' := (fun x : Tk => (Open.QSt (Open.QPair (Open.QInt .u64) (Open.QPair (Open.QInt .u64) (Open.QPair (Open.QInt .u64) (Open.QPair (Open.QInt .u64) (Open.QInt .u64)))))) (x.tn, x.vo, x.ep, x.ri, x.tag))) (fun _ _ h => h)) (Open.opensF_cons rfl (by kernel_rfl) rfl (Open.opens_int Tryz.underlying28) (Open.opensF_cons rfl (by kernel_rfl) rfl (Open.opens_int Tryz.underlying28) (Open.opensF_cons rfl (by kernel_rfl) rfl (Open.opens_int Tryz.underlying28) (Open.opensF_cons rfl (by kernel_rfl) rfl (Open.opens_int Tryz.underlying28) (Open.opensF_last rfl (by kernel_rfl) (Open.opens_string Tryz.underlying9))))))))) Cm.enc (fun a => (⟨a.1, a.2.1, a.2.2.1, a.2.2.2.1, a.2.2.2.2.1, a.2.2.2.2.2.1, a.2.2.2.2.2.2⟩ : Cm)) (fun _ => rfl) (Q' := (fun x : Cm => (Open.QSt (Open.QPair (Open.QInt .i64) (Open.QPair (fun x : Tk => (Open.QSt (Open.QPair (Open.QInt .u64) (Open.QPair (Open.QInt .u64) (Open.QPair (Open.QInt .u64) (Open.QPair (Open.QInt .u64) (Open.QInt .u64)))))) (x.tn, x.vo, x.ep, x.ri, x.tag)) (Open.QPair (Open.QInt .u64) (Open.QPair (Open.QInt .u64) (Open.QPair (Open.QInt .u64) (Open.QPair (Open.QInt .u64) Open.QStr))))))) (x.d, x.t, x.vo, x.se, x.a, x.b, x.lf))) (fun _ _ h => h)) (hval 1 44 v1 rfl rfl) h1
  obtain ⟨a2, rfl, rfl, rfl, w2⟩ := open_string Tryz.underlying9 (hval 2 9 v2 rfl rfl) h2
  have q2 : Open.QStr a2 (Rows.uptoBulk (H := H) (.lit (.string a2.data.toList))) := ⟨w2, by simp [Rows.uptoBulk]⟩
  clear hA0 hval0
  obtain ⟨kk, vv, HH, hkk, rfl⟩ := X.ChunkTexts_true a0 _ q0 a1 _ q1 a2 _ q2 (Open.bound hk)
  refine (X.law_calls X.cok (v := .nilp) ⟨kk, HH, hkk⟩ (L2.cons r100 (L2.cons r101 (L2.cons (VR.str a2) L2.nil)))).mono fun e W' ⟨he, bel⟩ => ?_
  subst he
  exact ⟨_, rfl, _, _, _, [], _, [], hW', trodAll_mk1 (shut_bool Tryz.underlying4 _), (trodAll_cons_mk (Below.trod Open.laidOut (by kernel_rfl) (of_decide_eq_true (by kernel_rfl)) k0 bel lt0) (trodAll_cons_mk (Below.trod Open.laidOut (by kernel_rfl) (of_decide_eq_true (by kernel_rfl)) k1 bel lt1) (trodAll_cons_mk (shut_string Tryz.underlying9 w2) trodAll_mk0))), rfl, bel.frame _, fun h => by cases h⟩
theorem over : Rows.chunkTextsUptoRow.holds Tryz.pinned (Rows.OpenSpec.upto Rows.chunkTextsSpec) :=
  OpenClaim.holds_of_cond 4 Tryz.f4 rfl rfl rfl rfl rfl rfl rfl ⟨rfl, rfl, rfl, rfl, rfl⟩ rfl rfl rfl rfl rfl (by kernel_rfl) Tryz.func4 (by kernel_rfl)
    (of_decide_eq_true (by kernel_rfl)) (by unfold Func.isWrapper; (rw [if_neg (by decide +kernel)]; exact ⟨rfl, rfl⟩))
    (fun os started H enc _ F => lifted os started H enc F)
theorem proved : Rows.ChunkTextsUptoSaid := over
#print axioms proved
end Go.Proofs.YtfkgdlfponfimaaGreat.chunkTexts
namespace Go.Proofs.YtfkgdlfponfimaaGreat
/-- The row, under a short name, for the claim. -/
theorem chunkTexts_holds : Rows.ChunkTextsUptoSaid := chunkTexts.proved
end Go.Proofs.YtfkgdlfponfimaaGreat
