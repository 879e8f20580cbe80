/- The walks of WireOnce and WireApart: which case it is. -/
import Derived.Test.YtkjlbmdcaehgiaaLw01c
set_option linter.unusedVariables false
set_option linter.unusedSimpArgs false
namespace Go.Proofs.Ytkjlbmdcaehgiaa.L
open Go.RowKit Go.Proofs.YtkjlbmdcaehgiaaW.PrintWords Go.Proofs.YtkjlbmdcaehgiaaW.PrintLast Go.Proofs.YtkjlbmdcaehgiaaW.PrintMore Go.Proofs.Ytkjlbmdcaehgiaa.PAll Go.Proofs.Ytkjlbmdcaehgiaa.WP Go.Proofs.Ytkjlbmdcaehgiaa.WM

theorem join_of {s : ByteArray} {a b : List UInt8} (h : s.data.toList = a ++ b) : ba a ++ ba b = s := by rw [ba_append, ← h, ba_of]
theorem size_of {s : ByteArray} {a b : List UInt8} (h : s.data.toList = a ++ b) : a.length + b.length = s.size := by rw [← dl, h, List.length_append]
theorem ints_toNat (l : List Nat) : (ints l).map Int.toNat = l := by
  unfold ints
  rw [List.map_map]
  conv => rhs; rw [← List.map_id l]
  apply List.map_congr_left
  intro x _
  simp
theorem bas_of (l : List (List UInt8)) : (bas l).map (fun s => s.data.toList) = l := by
  unfold bas
  rw [List.map_map]
  conv => rhs; rw [← List.map_id l]
  apply List.map_congr_left
  intro x _
  rfl
theorem WireOnce_walk (w : World) (a0 : ByteArray) (n0 : Nat) (q0 : Open.QStr a0 n0) (a1 : Int) (n1 : Nat) (q1 : Open.QInt .i64 a1 n1) (hb : n0 + (n1 + (0)) ≤ 1048576) :
    Calls Try.prog 9 #[.string a0, .int .i64 a1] w fun e w' => e = .returned (.bool true) ∧ Below w.heap.size w w' := by
  have hs := q0.2
  have hm := bounds_i64 q1.1
  have hm' : I64 a1 := hm
  have F0 := Aside0.mk (fixed_f (k := 100000000) (by omega))
  have FU := takeU_f (k := 100000000) a0 (by omega) (by omega)
  have FT := takeT_f (k := 100000000) a0 a1 hm' (by omega) (by omega)
  have FN := takeN_f (k := 100000000) a0 a1 hm' (by omega) (by omega)
  have FL := takeL_f (k := 100000000) a0 a1 hm' (by omega) (by omega)
  cases hU : takeU 64 a0.data.toList with
  | none =>
    have hT : WM.takeT a1 a0.data.toList = none := by unfold WM.takeT; rw [hU]
    have hN : WM.takeN a1 a0.data.toList = none := by unfold WM.takeN; rw [hU]
    have hL : WM.takeL a1 a0.data.toList = none := by unfold WM.takeL; rw [hU]
    rw [resU_none hU] at FU
    rw [resT_none hT] at FT
    unfold resN at FN
    rw [hN] at FN
    unfold resL at FL
    rw [hL] at FL
    exact once_none w a0 a1 F0 ⟨FU⟩ ⟨FT⟩ ⟨FN⟩ ⟨FL⟩
  | some p =>
    obtain ⟨n, x⟩ := p
    rw [resU_some hU] at FU
    obtain ⟨eU, nU⟩ := (takeU_iff _ _ _).1 hU
    have GU := putU_f (k := 100000000) nU (by omega)
    have zU := size_of eU
    have eU' := join_of eU
    have zU' : (ba (encU n)).size + (ba x).size ≤ 9223372036854775807 := by rw [ba_size, ba_size]; omega
    cases hT : WM.takeT a1 a0.data.toList with
    | none =>
      rw [resT_none hT] at FT
      cases hN : WM.takeN a1 a0.data.toList with
      | none =>
        unfold resN at FN
        rw [hN] at FN
        cases hL : WM.takeL a1 a0.data.toList with
        | none =>
          unfold resL at FL
          rw [hL] at FL
          exact once_000 w a0 a1 F0 (n : Int) (ba x) (ba (encU n)) ⟨FU⟩ ⟨GU⟩ eU' zU' ⟨FT⟩ ⟨FN⟩ ⟨FL⟩
        | some p =>
          obtain ⟨d, f⟩ := p
          unfold resL at FL
          rw [hL] at FL
          obtain ⟨eL, mL, _, wL, nL⟩ := takeL_some hL
          have zL := size_of eL
          have GL := putL_f (k := 100000000) (bas d) (by rw [bas_of]; omega) (by omega)
          rw [bas_of] at GL
          have eL' := join_of eL
          have zL' : (ba (encL d)).size + (ba f).size ≤ 9223372036854775807 := by rw [ba_size, ba_size]; omega
          have mL' : ((bas d).length : Int) ≤ a1 := by simp only [bas, List.length_map]; exact mL
          exact once_001 w a0 a1 F0 (n : Int) (ba x) (ba (encU n)) ⟨FU⟩ ⟨GU⟩ eU' zU' ⟨FT⟩ ⟨FN⟩ (bas d) (ba f) (ba (encL d)) ⟨FL⟩ ⟨GL⟩ eL' zL' mL'
      | some p =>
        obtain ⟨c, z⟩ := p
        unfold resN at FN
        rw [hN] at FN
        obtain ⟨eN, mN, _, wN, nN⟩ := takeN_some hN
        have zN := size_of eN
        have cN := flat_encU c
        have GN := putN_f (k := 100000000) (ints c) (by
          intro v hv
          obtain ⟨y, hy, rfl⟩ := List.mem_map.1 hv
          have := wN y hy
          omega) (by simp only [ints, List.length_map]; unfold encN at zN; rw [List.length_append] at zN; omega) (by simp only [ints, List.length_map]; unfold encN at zN; rw [List.length_append] at zN; omega)
        rw [ints_toNat] at GN
        have eN' := join_of eN
        have zN' : (ba (encN c)).size + (ba z).size ≤ 9223372036854775807 := by rw [ba_size, ba_size]; omega
        have mN' : ((ints c).length : Int) ≤ a1 := by simp only [ints, List.length_map]; exact mN
        cases hL : WM.takeL a1 a0.data.toList with
        | none =>
          unfold resL at FL
          rw [hL] at FL
          exact once_010 w a0 a1 F0 (n : Int) (ba x) (ba (encU n)) ⟨FU⟩ ⟨GU⟩ eU' zU' ⟨FT⟩ (ints c) (ba z) (ba (encN c)) ⟨FN⟩ ⟨GN⟩ eN' zN' mN' ⟨FL⟩
        | some p =>
          obtain ⟨d, f⟩ := p
          unfold resL at FL
          rw [hL] at FL
          obtain ⟨eL, mL, _, wL, nL⟩ := takeL_some hL
          have zL := size_of eL
          have GL := putL_f (k := 100000000) (bas d) (by rw [bas_of]; omega) (by omega)
          rw [bas_of] at GL
          have eL' := join_of eL
          have zL' : (ba (encL d)).size + (ba f).size ≤ 9223372036854775807 := by rw [ba_size, ba_size]; omega
          have mL' : ((bas d).length : Int) ≤ a1 := by simp only [bas, List.length_map]; exact mL
          exact once_011 w a0 a1 F0 (n : Int) (ba x) (ba (encU n)) ⟨FU⟩ ⟨GU⟩ eU' zU' ⟨FT⟩ (ints c) (ba z) (ba (encN c)) ⟨FN⟩ ⟨GN⟩ eN' zN' mN' (bas d) (ba f) (ba (encL d)) ⟨FL⟩ ⟨GL⟩ eL' zL' mL'
    | some p =>
      obtain ⟨t, y⟩ := p
      rw [resT_some hT] at FT
      obtain ⟨eT, mT, _, nT⟩ := takeT_some hT
      have zT := size_of eT
      have GT := putT_f (k := 100000000) (ba t) (by rw [ba_size]; unfold encT at zT; rw [List.length_append] at zT; omega) (by omega)
      rw [ba_data] at GT
      have eT' := join_of eT
      have zT' : (ba (encT t)).size + (ba y).size ≤ 9223372036854775807 := by rw [ba_size, ba_size]; omega
      have mT' : ((ba t).size : Int) ≤ a1 := by rw [ba_size]; exact mT
      cases hN : WM.takeN a1 a0.data.toList with
      | none =>
        unfold resN at FN
        rw [hN] at FN
        cases hL : WM.takeL a1 a0.data.toList with
        | none =>
          unfold resL at FL
          rw [hL] at FL
          exact once_100 w a0 a1 F0 (n : Int) (ba x) (ba (encU n)) ⟨FU⟩ ⟨GU⟩ eU' zU' (ba t) (ba y) (ba (encT t)) ⟨FT⟩ ⟨GT⟩ eT' zT' mT' ⟨FN⟩ ⟨FL⟩
        | some p =>
          obtain ⟨d, f⟩ := p
          unfold resL at FL
          rw [hL] at FL
          obtain ⟨eL, mL, _, wL, nL⟩ := takeL_some hL
          have zL := size_of eL
          have GL := putL_f (k := 100000000) (bas d) (by rw [bas_of]; omega) (by omega)
          rw [bas_of] at GL
          have eL' := join_of eL
          have zL' : (ba (encL d)).size + (ba f).size ≤ 9223372036854775807 := by rw [ba_size, ba_size]; omega
          have mL' : ((bas d).length : Int) ≤ a1 := by simp only [bas, List.length_map]; exact mL
          exact once_101 w a0 a1 F0 (n : Int) (ba x) (ba (encU n)) ⟨FU⟩ ⟨GU⟩ eU' zU' (ba t) (ba y) (ba (encT t)) ⟨FT⟩ ⟨GT⟩ eT' zT' mT' ⟨FN⟩ (bas d) (ba f) (ba (encL d)) ⟨FL⟩ ⟨GL⟩ eL' zL' mL'
      | some p =>
        obtain ⟨c, z⟩ := p
        unfold resN at FN
        rw [hN] at FN
        obtain ⟨eN, mN, _, wN, nN⟩ := takeN_some hN
        have zN := size_of eN
        have cN := flat_encU c
        have GN := putN_f (k := 100000000) (ints c) (by
          intro v hv
          obtain ⟨y, hy, rfl⟩ := List.mem_map.1 hv
          have := wN y hy
          omega) (by simp only [ints, List.length_map]; unfold encN at zN; rw [List.length_append] at zN; omega) (by simp only [ints, List.length_map]; unfold encN at zN; rw [List.length_append] at zN; omega)
        rw [ints_toNat] at GN
        have eN' := join_of eN
        have zN' : (ba (encN c)).size + (ba z).size ≤ 9223372036854775807 := by rw [ba_size, ba_size]; omega
        have mN' : ((ints c).length : Int) ≤ a1 := by simp only [ints, List.length_map]; exact mN
        cases hL : WM.takeL a1 a0.data.toList with
        | none =>
          unfold resL at FL
          rw [hL] at FL
          exact once_110 w a0 a1 F0 (n : Int) (ba x) (ba (encU n)) ⟨FU⟩ ⟨GU⟩ eU' zU' (ba t) (ba y) (ba (encT t)) ⟨FT⟩ ⟨GT⟩ eT' zT' mT' (ints c) (ba z) (ba (encN c)) ⟨FN⟩ ⟨GN⟩ eN' zN' mN' ⟨FL⟩
        | some p =>
          obtain ⟨d, f⟩ := p
          unfold resL at FL
          rw [hL] at FL
          obtain ⟨eL, mL, _, wL, nL⟩ := takeL_some hL
          have zL := size_of eL
          have GL := putL_f (k := 100000000) (bas d) (by rw [bas_of]; omega) (by omega)
          rw [bas_of] at GL
          have eL' := join_of eL
          have zL' : (ba (encL d)).size + (ba f).size ≤ 9223372036854775807 := by rw [ba_size, ba_size]; omega
          have mL' : ((bas d).length : Int) ≤ a1 := by simp only [bas, List.length_map]; exact mL
          exact once_111 w a0 a1 F0 (n : Int) (ba x) (ba (encU n)) ⟨FU⟩ ⟨GU⟩ eU' zU' (ba t) (ba y) (ba (encT t)) ⟨FT⟩ ⟨GT⟩ eT' zT' mT' (ints c) (ba z) (ba (encN c)) ⟨FN⟩ ⟨GN⟩ eN' zN' mN' (bas d) (ba f) (ba (encL d)) ⟨FL⟩ ⟨GL⟩ eL' zL' mL'

theorem begins_no {a b : List UInt8} (h : ¬ ∃ r, a = b ++ r) : countersignref01_Begins.f (ba a) (ba b) = some false := by
  unfold countersignref01_Begins.f
  by_cases hl : ((ba b).size : Int) ≤ ((ba a).size : Int)
  · rw [if_pos hl, if_pos (by omega), Int.toNat_natCast, ba_take, ba_toList, ba_toList]
    congr 1
    rw [beq_eq_false_iff_ne]
    intro e
    rw [ba_size] at e
    exact h ⟨a.drop b.length, by rw [← List.take_append_drop b.length a, e]; simp⟩
  · rw [if_neg hl]
theorem apart_U {a b : Nat} (ha : a < 18446744073709551616) (hb : b < 18446744073709551616) (h : a ≠ b) : countersignref01_Begins.f (ba (encU a)) (ba (encU b)) = some false := by
  refine begins_no ?_
  rintro ⟨r, e⟩
  rw [← List.append_nil (encU a)] at e
  exact h (encU_prefix ha hb [] e).1
theorem apart_T {s t : List UInt8} (hs : s.length < 18446744073709551616) (ht : t.length < 18446744073709551616) (h : s ≠ t) : countersignref01_Begins.f (ba (encT s)) (ba (encT t)) = some false := by
  refine begins_no ?_
  rintro ⟨r, e⟩
  have e1 := takeT_enc (most := (s.length : Int)) s [] (by omega) hs
  rw [List.append_nil, e] at e1
  unfold encT at e1
  rw [List.append_assoc] at e1
  unfold WM.takeT at e1
  rw [takeU_enc _ 64 _ ht] at e1
  simp only at e1
  by_cases hc : (0 : Int) ≤ (s.length : Int) ∧ (t.length : Int) ≤ (s.length : Int) ∧ t.length ≤ (t ++ r).length
  · rw [if_pos hc] at e1
    simp only [List.take_left', List.drop_left', Option.some.injEq, Prod.mk.injEq] at e1
    exact h e1.1.symm
  · rw [if_neg hc] at e1; simp at e1
theorem cut_no (s : List UInt8) (hs : s.length < 18446744073709551616) (k : Nat) (hk : k < (encT s).length) (m : Int) : WM.takeT m ((encT s).take k) = none := by
  cases hv : WM.takeT m ((encT s).take k) with
  | none => rfl
  | some p =>
    obtain ⟨t, r⟩ := p
    obtain ⟨e, _, _, ht⟩ := takeT_some hv
    have e2 : encT s = encT t ++ (r ++ (encT s).drop k) := by rw [← List.append_assoc, ← e, List.take_append_drop]
    have e3 := takeT_enc (most := (t.length : Int)) t (r ++ (encT s).drop k) (by omega) ht
    rw [← e2] at e3
    have e4 := takeT_some e3
    have h1 := e4.1
    have h5 := congrArg List.length h1
    rw [List.length_append, List.length_append, List.length_drop] at h5
    have h6 := congrArg List.length e2
    rw [List.length_append, List.length_append, List.length_drop] at h6
    have e5 := takeT_enc (most := (s.length : Int)) s [] (by omega) hs
    rw [List.append_nil, e2] at e5
    unfold encT at e5
    rw [List.append_assoc] at e5
    unfold WM.takeT at e5
    rw [takeU_enc _ 64 _ ht] at e5
    simp only at e5
    by_cases hc : (0 : Int) ≤ (s.length : Int) ∧ (t.length : Int) ≤ (s.length : Int) ∧ t.length ≤ (t ++ (r ++ (encU s.length ++ s).drop k)).length
    · rw [if_pos hc] at e5
      simp only [List.take_left', List.drop_left', Option.some.injEq, Prod.mk.injEq] at e5
      have := congrArg List.length e5.2
      rw [List.length_append, List.length_drop] at this
      unfold encT at hk
      simp only [List.length_nil] at this
      omega
    · rw [if_neg hc] at e5; simp at e5
set_option maxHeartbeats 4000000 in
set_option maxRecDepth 100000 in
theorem apart_000 (w : World) (a b : Int) (s t : ByteArray) (c : Int) (F0 : Aside0 (countersignlaw01_fixed.f 100000000 = some true)) (u v : ByteArray) (FA : Aside0 (wire_PutUint.f 100000000 a = some u)) (FB : Aside0 (wire_PutUint.f 100000000 b = some v)) (x y : ByteArray) (FS : Aside0 (wire_PutText.f 100000000 s = some x)) (FT : Aside0 (wire_PutText.f 100000000 t = some y)) (nab : (a == b) = true) (nab2 : (a != b) = false) (nst : (s.toList == t.toList) = true) (hc : decide (c < 0) = true) :
    Calls Try.prog 5 #[.agg #[.int .u64 a, .int .u64 b], .agg #[.string s, .string t], .int .i64 c] w fun e w' => e = .returned (.bool true) ∧ Below w.heap.size w w' := by
  have HB := Aside0.mk (Below.refl w.heap.size w)
  go_enter Try.func5, Try.ntmps5
  go_wp2
  go_quiet (fail)
  go_wp2_with (go_at_call 10; (with_reducible refine (countersignlaw01_fixed.calls 100000000 true _ F0.out).mono ?_); rintro e wz1 ⟨rfl, hb⟩; have n0_ := Aside0.mk (below_step (by repeat (first | (with_reducible first | exact HB.out | apply below_alloc | apply pw_below_drewN | apply below_drew1) | exact HB.out)) hb); clear HB; have HB := n0_; clear n0_; clear hb)
  go_wp2_with (go_at_call 13; (with_reducible refine (wire_PutText.calls 100000000 s x _ FS.out).mono ?_); rintro e wz2 ⟨rfl, hb⟩; have n0_ := Aside0.mk (below_step (by repeat (first | (with_reducible first | exact HB.out | apply below_alloc | apply pw_below_drewN | apply below_drew1) | exact HB.out)) hb); clear HB; have HB := n0_; clear n0_; clear hb)
  go_ret
  exact ⟨by simp, (by repeat (first | (with_reducible first | exact HB.out | apply below_alloc | apply pw_below_drewN | apply below_drew1) | exact HB.out))⟩
set_option maxHeartbeats 4000000 in
set_option maxRecDepth 100000 in
theorem apart_001 (w : World) (a b : Int) (s t : ByteArray) (c : Int) (F0 : Aside0 (countersignlaw01_fixed.f 100000000 = some true)) (u v : ByteArray) (FA : Aside0 (wire_PutUint.f 100000000 a = some u)) (FB : Aside0 (wire_PutUint.f 100000000 b = some v)) (x y : ByteArray) (FS : Aside0 (wire_PutText.f 100000000 s = some x)) (FT : Aside0 (wire_PutText.f 100000000 t = some y)) (nab : (a == b) = true) (nab2 : (a != b) = false) (nst : (s.toList == t.toList) = true) (hc : decide (c < 0) = false) (hd : decide ((x.size : Int) ≤ c) = true) :
    Calls Try.prog 5 #[.agg #[.int .u64 a, .int .u64 b], .agg #[.string s, .string t], .int .i64 c] w fun e w' => e = .returned (.bool true) ∧ Below w.heap.size w w' := by
  have HB := Aside0.mk (Below.refl w.heap.size w)
  go_enter Try.func5, Try.ntmps5
  go_wp2
  go_quiet (fail)
  go_wp2_with (go_at_call 10; (with_reducible refine (countersignlaw01_fixed.calls 100000000 true _ F0.out).mono ?_); rintro e wz1 ⟨rfl, hb⟩; have n0_ := Aside0.mk (below_step (by repeat (first | (with_reducible first | exact HB.out | apply below_alloc | apply pw_below_drewN | apply below_drew1) | exact HB.out)) hb); clear HB; have HB := n0_; clear n0_; clear hb)
  go_wp2_with (go_at_call 13; (with_reducible refine (wire_PutText.calls 100000000 s x _ FS.out).mono ?_); rintro e wz2 ⟨rfl, hb⟩; have n0_ := Aside0.mk (below_step (by repeat (first | (with_reducible first | exact HB.out | apply below_alloc | apply pw_below_drewN | apply below_drew1) | exact HB.out)) hb); clear HB; have HB := n0_; clear n0_; clear hb)
  go_ret
  exact ⟨by simp, (by repeat (first | (with_reducible first | exact HB.out | apply below_alloc | apply pw_below_drewN | apply below_drew1) | exact HB.out))⟩
set_option maxHeartbeats 4000000 in
set_option maxRecDepth 100000 in
theorem apart_002 (w : World) (a b : Int) (s t : ByteArray) (c : Int) (F0 : Aside0 (countersignlaw01_fixed.f 100000000 = some true)) (u v : ByteArray) (FA : Aside0 (wire_PutUint.f 100000000 a = some u)) (FB : Aside0 (wire_PutUint.f 100000000 b = some v)) (x y : ByteArray) (FS : Aside0 (wire_PutText.f 100000000 s = some x)) (FT : Aside0 (wire_PutText.f 100000000 t = some y)) (nab : (a == b) = true) (nab2 : (a != b) = false) (nst : (s.toList == t.toList) = true) (hc : decide (c < 0) = false) (hd : decide ((x.size : Int) ≤ c) = false) (hc0 : 0 ≤ c) (hc1 : c ≤ (x.size : Int)) (GT : Aside0 (wire_TakeText.f 100000000 (x.extract 0 c.toNat) (s.size : Int) = some ((⟨#[]⟩ : ByteArray), (⟨#[]⟩ : ByteArray), false))) :
    Calls Try.prog 5 #[.agg #[.int .u64 a, .int .u64 b], .agg #[.string s, .string t], .int .i64 c] w fun e w' => e = .returned (.bool true) ∧ Below w.heap.size w w' := by
  have HB := Aside0.mk (Below.refl w.heap.size w)
  go_enter Try.func5, Try.ntmps5
  go_wp2
  go_quiet (fail)
  go_wp2_with (go_at_call 10; (with_reducible refine (countersignlaw01_fixed.calls 100000000 true _ F0.out).mono ?_); rintro e wz1 ⟨rfl, hb⟩; have n0_ := Aside0.mk (below_step (by repeat (first | (with_reducible first | exact HB.out | apply below_alloc | apply pw_below_drewN | apply below_drew1) | exact HB.out)) hb); clear HB; have HB := n0_; clear n0_; clear hb)
  go_wp2_with (go_at_call 13; (with_reducible refine (wire_PutText.calls 100000000 s x _ FS.out).mono ?_); rintro e wz2 ⟨rfl, hb⟩; have n0_ := Aside0.mk (below_step (by repeat (first | (with_reducible first | exact HB.out | apply below_alloc | apply pw_below_drewN | apply below_drew1) | exact HB.out)) hb); clear HB; have HB := n0_; clear n0_; clear hb)
  go_wp2_with (go_at_call 20; (with_reducible refine (wire_TakeText.calls 100000000 (x.extract 0 c.toNat) (s.size : Int) (⟨#[]⟩ : ByteArray) (⟨#[]⟩ : ByteArray) false _ GT.out).mono ?_); rintro e wz3 ⟨rfl, ⟨nq3, rfl⟩⟩)
  go_ret
  exact ⟨by simp, (by repeat (first | (with_reducible first | exact HB.out | apply below_alloc | apply pw_below_drewN | apply below_drew1) | exact HB.out))⟩
set_option maxHeartbeats 4000000 in
set_option maxRecDepth 100000 in
theorem apart_010 (w : World) (a b : Int) (s t : ByteArray) (c : Int) (F0 : Aside0 (countersignlaw01_fixed.f 100000000 = some true)) (u v : ByteArray) (FA : Aside0 (wire_PutUint.f 100000000 a = some u)) (FB : Aside0 (wire_PutUint.f 100000000 b = some v)) (x y : ByteArray) (FS : Aside0 (wire_PutText.f 100000000 s = some x)) (FT : Aside0 (wire_PutText.f 100000000 t = some y)) (nab : (a == b) = true) (nab2 : (a != b) = false) (nst : (s.toList == t.toList) = false) (GS : Aside0 (countersignref01_Begins.f x y = some false)) (hc : decide (c < 0) = true) :
    Calls Try.prog 5 #[.agg #[.int .u64 a, .int .u64 b], .agg #[.string s, .string t], .int .i64 c] w fun e w' => e = .returned (.bool true) ∧ Below w.heap.size w w' := by
  have HB := Aside0.mk (Below.refl w.heap.size w)
  go_enter Try.func5, Try.ntmps5
  go_wp2
  go_quiet (fail)
  go_wp2_with (go_at_call 10; (with_reducible refine (countersignlaw01_fixed.calls 100000000 true _ F0.out).mono ?_); rintro e wz1 ⟨rfl, hb⟩; have n0_ := Aside0.mk (below_step (by repeat (first | (with_reducible first | exact HB.out | apply below_alloc | apply pw_below_drewN | apply below_drew1) | exact HB.out)) hb); clear HB; have HB := n0_; clear n0_; clear hb)
  go_wp2_with (go_at_call 13; (with_reducible refine (wire_PutText.calls 100000000 s x _ FS.out).mono ?_); rintro e wz2 ⟨rfl, hb⟩; have n0_ := Aside0.mk (below_step (by repeat (first | (with_reducible first | exact HB.out | apply below_alloc | apply pw_below_drewN | apply below_drew1) | exact HB.out)) hb); clear HB; have HB := n0_; clear n0_; clear hb)
  go_wp2_with (go_at_call 13; (with_reducible refine (wire_PutText.calls 100000000 t y _ FT.out).mono ?_); rintro e wz3 ⟨rfl, hb⟩; have n0_ := Aside0.mk (below_step (by repeat (first | (with_reducible first | exact HB.out | apply below_alloc | apply pw_below_drewN | apply below_drew1) | exact HB.out)) hb); clear HB; have HB := n0_; clear n0_; clear hb)
  go_wp2_with (go_at_call 19; (with_reducible refine (countersignref01_Begins.calls x y false _ GS.out).mono ?_); rintro e wz4 ⟨rfl, ⟨nq4, rfl⟩⟩)
  go_wp2_with (go_at_call 13; (with_reducible refine (wire_PutText.calls 100000000 s x _ FS.out).mono ?_); rintro e wz5 ⟨rfl, hb⟩; have n0_ := Aside0.mk (below_step (by repeat (first | (with_reducible first | exact HB.out | apply below_alloc | apply pw_below_drewN | apply below_drew1) | exact HB.out)) hb); clear HB; have HB := n0_; clear n0_; clear hb)
  go_ret
  exact ⟨by simp, (by repeat (first | (with_reducible first | exact HB.out | apply below_alloc | apply pw_below_drewN | apply below_drew1) | exact HB.out))⟩
set_option maxHeartbeats 4000000 in
set_option maxRecDepth 100000 in
theorem apart_011 (w : World) (a b : Int) (s t : ByteArray) (c : Int) (F0 : Aside0 (countersignlaw01_fixed.f 100000000 = some true)) (u v : ByteArray) (FA : Aside0 (wire_PutUint.f 100000000 a = some u)) (FB : Aside0 (wire_PutUint.f 100000000 b = some v)) (x y : ByteArray) (FS : Aside0 (wire_PutText.f 100000000 s = some x)) (FT : Aside0 (wire_PutText.f 100000000 t = some y)) (nab : (a == b) = true) (nab2 : (a != b) = false) (nst : (s.toList == t.toList) = false) (GS : Aside0 (countersignref01_Begins.f x y = some false)) (hc : decide (c < 0) = false) (hd : decide ((x.size : Int) ≤ c) = true) :
    Calls Try.prog 5 #[.agg #[.int .u64 a, .int .u64 b], .agg #[.string s, .string t], .int .i64 c] w fun e w' => e = .returned (.bool true) ∧ Below w.heap.size w w' := by
  have HB := Aside0.mk (Below.refl w.heap.size w)
  go_enter Try.func5, Try.ntmps5
  go_wp2
  go_quiet (fail)
  go_wp2_with (go_at_call 10; (with_reducible refine (countersignlaw01_fixed.calls 100000000 true _ F0.out).mono ?_); rintro e wz1 ⟨rfl, hb⟩; have n0_ := Aside0.mk (below_step (by repeat (first | (with_reducible first | exact HB.out | apply below_alloc | apply pw_below_drewN | apply below_drew1) | exact HB.out)) hb); clear HB; have HB := n0_; clear n0_; clear hb)
  go_wp2_with (go_at_call 13; (with_reducible refine (wire_PutText.calls 100000000 s x _ FS.out).mono ?_); rintro e wz2 ⟨rfl, hb⟩; have n0_ := Aside0.mk (below_step (by repeat (first | (with_reducible first | exact HB.out | apply below_alloc | apply pw_below_drewN | apply below_drew1) | exact HB.out)) hb); clear HB; have HB := n0_; clear n0_; clear hb)
  go_wp2_with (go_at_call 13; (with_reducible refine (wire_PutText.calls 100000000 t y _ FT.out).mono ?_); rintro e wz3 ⟨rfl, hb⟩; have n0_ := Aside0.mk (below_step (by repeat (first | (with_reducible first | exact HB.out | apply below_alloc | apply pw_below_drewN | apply below_drew1) | exact HB.out)) hb); clear HB; have HB := n0_; clear n0_; clear hb)
  go_wp2_with (go_at_call 19; (with_reducible refine (countersignref01_Begins.calls x y false _ GS.out).mono ?_); rintro e wz4 ⟨rfl, ⟨nq4, rfl⟩⟩)
  go_wp2_with (go_at_call 13; (with_reducible refine (wire_PutText.calls 100000000 s x _ FS.out).mono ?_); rintro e wz5 ⟨rfl, hb⟩; have n0_ := Aside0.mk (below_step (by repeat (first | (with_reducible first | exact HB.out | apply below_alloc | apply pw_below_drewN | apply below_drew1) | exact HB.out)) hb); clear HB; have HB := n0_; clear n0_; clear hb)
  go_ret
  exact ⟨by simp, (by repeat (first | (with_reducible first | exact HB.out | apply below_alloc | apply pw_below_drewN | apply below_drew1) | exact HB.out))⟩
set_option maxHeartbeats 4000000 in
set_option maxRecDepth 100000 in
theorem apart_012 (w : World) (a b : Int) (s t : ByteArray) (c : Int) (F0 : Aside0 (countersignlaw01_fixed.f 100000000 = some true)) (u v : ByteArray) (FA : Aside0 (wire_PutUint.f 100000000 a = some u)) (FB : Aside0 (wire_PutUint.f 100000000 b = some v)) (x y : ByteArray) (FS : Aside0 (wire_PutText.f 100000000 s = some x)) (FT : Aside0 (wire_PutText.f 100000000 t = some y)) (nab : (a == b) = true) (nab2 : (a != b) = false) (nst : (s.toList == t.toList) = false) (GS : Aside0 (countersignref01_Begins.f x y = some false)) (hc : decide (c < 0) = false) (hd : decide ((x.size : Int) ≤ c) = false) (hc0 : 0 ≤ c) (hc1 : c ≤ (x.size : Int)) (GT : Aside0 (wire_TakeText.f 100000000 (x.extract 0 c.toNat) (s.size : Int) = some ((⟨#[]⟩ : ByteArray), (⟨#[]⟩ : ByteArray), false))) :
    Calls Try.prog 5 #[.agg #[.int .u64 a, .int .u64 b], .agg #[.string s, .string t], .int .i64 c] w fun e w' => e = .returned (.bool true) ∧ Below w.heap.size w w' := by
  have HB := Aside0.mk (Below.refl w.heap.size w)
  go_enter Try.func5, Try.ntmps5
  go_wp2
  go_quiet (fail)
  go_wp2_with (go_at_call 10; (with_reducible refine (countersignlaw01_fixed.calls 100000000 true _ F0.out).mono ?_); rintro e wz1 ⟨rfl, hb⟩; have n0_ := Aside0.mk (below_step (by repeat (first | (with_reducible first | exact HB.out | apply below_alloc | apply pw_below_drewN | apply below_drew1) | exact HB.out)) hb); clear HB; have HB := n0_; clear n0_; clear hb)
  go_wp2_with (go_at_call 13; (with_reducible refine (wire_PutText.calls 100000000 s x _ FS.out).mono ?_); rintro e wz2 ⟨rfl, hb⟩; have n0_ := Aside0.mk (below_step (by repeat (first | (with_reducible first | exact HB.out | apply below_alloc | apply pw_below_drewN | apply below_drew1) | exact HB.out)) hb); clear HB; have HB := n0_; clear n0_; clear hb)
  go_wp2_with (go_at_call 13; (with_reducible refine (wire_PutText.calls 100000000 t y _ FT.out).mono ?_); rintro e wz3 ⟨rfl, hb⟩; have n0_ := Aside0.mk (below_step (by repeat (first | (with_reducible first | exact HB.out | apply below_alloc | apply pw_below_drewN | apply below_drew1) | exact HB.out)) hb); clear HB; have HB := n0_; clear n0_; clear hb)
  go_wp2_with (go_at_call 19; (with_reducible refine (countersignref01_Begins.calls x y false _ GS.out).mono ?_); rintro e wz4 ⟨rfl, ⟨nq4, rfl⟩⟩)
  go_wp2_with (go_at_call 13; (with_reducible refine (wire_PutText.calls 100000000 s x _ FS.out).mono ?_); rintro e wz5 ⟨rfl, hb⟩; have n0_ := Aside0.mk (below_step (by repeat (first | (with_reducible first | exact HB.out | apply below_alloc | apply pw_below_drewN | apply below_drew1) | exact HB.out)) hb); clear HB; have HB := n0_; clear n0_; clear hb)
  go_wp2_with (go_at_call 20; (with_reducible refine (wire_TakeText.calls 100000000 (x.extract 0 c.toNat) (s.size : Int) (⟨#[]⟩ : ByteArray) (⟨#[]⟩ : ByteArray) false _ GT.out).mono ?_); rintro e wz6 ⟨rfl, ⟨nq6, rfl⟩⟩)
  go_ret
  exact ⟨by simp, (by repeat (first | (with_reducible first | exact HB.out | apply below_alloc | apply pw_below_drewN | apply below_drew1) | exact HB.out))⟩
set_option maxHeartbeats 4000000 in
set_option maxRecDepth 100000 in
theorem apart_100 (w : World) (a b : Int) (s t : ByteArray) (c : Int) (F0 : Aside0 (countersignlaw01_fixed.f 100000000 = some true)) (u v : ByteArray) (FA : Aside0 (wire_PutUint.f 100000000 a = some u)) (FB : Aside0 (wire_PutUint.f 100000000 b = some v)) (x y : ByteArray) (FS : Aside0 (wire_PutText.f 100000000 s = some x)) (FT : Aside0 (wire_PutText.f 100000000 t = some y)) (nab : (a == b) = false) (nab2 : (a != b) = true) (GA : Aside0 (countersignref01_Begins.f u v = some false)) (nst : (s.toList == t.toList) = true) (hc : decide (c < 0) = true) :
    Calls Try.prog 5 #[.agg #[.int .u64 a, .int .u64 b], .agg #[.string s, .string t], .int .i64 c] w fun e w' => e = .returned (.bool true) ∧ Below w.heap.size w w' := by
  have HB := Aside0.mk (Below.refl w.heap.size w)
  go_enter Try.func5, Try.ntmps5
  go_wp2
  go_quiet (fail)
  go_wp2_with (go_at_call 10; (with_reducible refine (countersignlaw01_fixed.calls 100000000 true _ F0.out).mono ?_); rintro e wz1 ⟨rfl, hb⟩; have n0_ := Aside0.mk (below_step (by repeat (first | (with_reducible first | exact HB.out | apply below_alloc | apply pw_below_drewN | apply below_drew1) | exact HB.out)) hb); clear HB; have HB := n0_; clear n0_; clear hb)
  go_wp2_with (go_at_call 11; (with_reducible refine (wire_PutUint.calls 100000000 a u _ FA.out).mono ?_); rintro e wz2 ⟨rfl, hb⟩; have n0_ := Aside0.mk (below_step (by repeat (first | (with_reducible first | exact HB.out | apply below_alloc | apply pw_below_drewN | apply below_drew1) | exact HB.out)) hb); clear HB; have HB := n0_; clear n0_; clear hb)
  go_wp2_with (go_at_call 11; (with_reducible refine (wire_PutUint.calls 100000000 b v _ FB.out).mono ?_); rintro e wz3 ⟨rfl, hb⟩; have n0_ := Aside0.mk (below_step (by repeat (first | (with_reducible first | exact HB.out | apply below_alloc | apply pw_below_drewN | apply below_drew1) | exact HB.out)) hb); clear HB; have HB := n0_; clear n0_; clear hb)
  go_wp2_with (go_at_call 19; (with_reducible refine (countersignref01_Begins.calls u v false _ GA.out).mono ?_); rintro e wz4 ⟨rfl, ⟨nq4, rfl⟩⟩)
  go_wp2_with (go_at_call 13; (with_reducible refine (wire_PutText.calls 100000000 s x _ FS.out).mono ?_); rintro e wz5 ⟨rfl, hb⟩; have n0_ := Aside0.mk (below_step (by repeat (first | (with_reducible first | exact HB.out | apply below_alloc | apply pw_below_drewN | apply below_drew1) | exact HB.out)) hb); clear HB; have HB := n0_; clear n0_; clear hb)
  go_ret
  exact ⟨by simp, (by repeat (first | (with_reducible first | exact HB.out | apply below_alloc | apply pw_below_drewN | apply below_drew1) | exact HB.out))⟩
set_option maxHeartbeats 4000000 in
set_option maxRecDepth 100000 in
theorem apart_101 (w : World) (a b : Int) (s t : ByteArray) (c : Int) (F0 : Aside0 (countersignlaw01_fixed.f 100000000 = some true)) (u v : ByteArray) (FA : Aside0 (wire_PutUint.f 100000000 a = some u)) (FB : Aside0 (wire_PutUint.f 100000000 b = some v)) (x y : ByteArray) (FS : Aside0 (wire_PutText.f 100000000 s = some x)) (FT : Aside0 (wire_PutText.f 100000000 t = some y)) (nab : (a == b) = false) (nab2 : (a != b) = true) (GA : Aside0 (countersignref01_Begins.f u v = some false)) (nst : (s.toList == t.toList) = true) (hc : decide (c < 0) = false) (hd : decide ((x.size : Int) ≤ c) = true) :
    Calls Try.prog 5 #[.agg #[.int .u64 a, .int .u64 b], .agg #[.string s, .string t], .int .i64 c] w fun e w' => e = .returned (.bool true) ∧ Below w.heap.size w w' := by
  have HB := Aside0.mk (Below.refl w.heap.size w)
  go_enter Try.func5, Try.ntmps5
  go_wp2
  go_quiet (fail)
  go_wp2_with (go_at_call 10; (with_reducible refine (countersignlaw01_fixed.calls 100000000 true _ F0.out).mono ?_); rintro e wz1 ⟨rfl, hb⟩; have n0_ := Aside0.mk (below_step (by repeat (first | (with_reducible first | exact HB.out | apply below_alloc | apply pw_below_drewN | apply below_drew1) | exact HB.out)) hb); clear HB; have HB := n0_; clear n0_; clear hb)
  go_wp2_with (go_at_call 11; (with_reducible refine (wire_PutUint.calls 100000000 a u _ FA.out).mono ?_); rintro e wz2 ⟨rfl, hb⟩; have n0_ := Aside0.mk (below_step (by repeat (first | (with_reducible first | exact HB.out | apply below_alloc | apply pw_below_drewN | apply below_drew1) | exact HB.out)) hb); clear HB; have HB := n0_; clear n0_; clear hb)
  go_wp2_with (go_at_call 11; (with_reducible refine (wire_PutUint.calls 100000000 b v _ FB.out).mono ?_); rintro e wz3 ⟨rfl, hb⟩; have n0_ := Aside0.mk (below_step (by repeat (first | (with_reducible first | exact HB.out | apply below_alloc | apply pw_below_drewN | apply below_drew1) | exact HB.out)) hb); clear HB; have HB := n0_; clear n0_; clear hb)
  go_wp2_with (go_at_call 19; (with_reducible refine (countersignref01_Begins.calls u v false _ GA.out).mono ?_); rintro e wz4 ⟨rfl, ⟨nq4, rfl⟩⟩)
  go_wp2_with (go_at_call 13; (with_reducible refine (wire_PutText.calls 100000000 s x _ FS.out).mono ?_); rintro e wz5 ⟨rfl, hb⟩; have n0_ := Aside0.mk (below_step (by repeat (first | (with_reducible first | exact HB.out | apply below_alloc | apply pw_below_drewN | apply below_drew1) | exact HB.out)) hb); clear HB; have HB := n0_; clear n0_; clear hb)
  go_ret
  exact ⟨by simp, (by repeat (first | (with_reducible first | exact HB.out | apply below_alloc | apply pw_below_drewN | apply below_drew1) | exact HB.out))⟩
set_option maxHeartbeats 4000000 in
set_option maxRecDepth 100000 in
theorem apart_102 (w : World) (a b : Int) (s t : ByteArray) (c : Int) (F0 : Aside0 (countersignlaw01_fixed.f 100000000 = some true)) (u v : ByteArray) (FA : Aside0 (wire_PutUint.f 100000000 a = some u)) (FB : Aside0 (wire_PutUint.f 100000000 b = some v)) (x y : ByteArray) (FS : Aside0 (wire_PutText.f 100000000 s = some x)) (FT : Aside0 (wire_PutText.f 100000000 t = some y)) (nab : (a == b) = false) (nab2 : (a != b) = true) (GA : Aside0 (countersignref01_Begins.f u v = some false)) (nst : (s.toList == t.toList) = true) (hc : decide (c < 0) = false) (hd : decide ((x.size : Int) ≤ c) = false) (hc0 : 0 ≤ c) (hc1 : c ≤ (x.size : Int)) (GT : Aside0 (wire_TakeText.f 100000000 (x.extract 0 c.toNat) (s.size : Int) = some ((⟨#[]⟩ : ByteArray), (⟨#[]⟩ : ByteArray), false))) :
    Calls Try.prog 5 #[.agg #[.int .u64 a, .int .u64 b], .agg #[.string s, .string t], .int .i64 c] w fun e w' => e = .returned (.bool true) ∧ Below w.heap.size w w' := by
  have HB := Aside0.mk (Below.refl w.heap.size w)
  go_enter Try.func5, Try.ntmps5
  go_wp2
  go_quiet (fail)
  go_wp2_with (go_at_call 10; (with_reducible refine (countersignlaw01_fixed.calls 100000000 true _ F0.out).mono ?_); rintro e wz1 ⟨rfl, hb⟩; have n0_ := Aside0.mk (below_step (by repeat (first | (with_reducible first | exact HB.out | apply below_alloc | apply pw_below_drewN | apply below_drew1) | exact HB.out)) hb); clear HB; have HB := n0_; clear n0_; clear hb)
  go_wp2_with (go_at_call 11; (with_reducible refine (wire_PutUint.calls 100000000 a u _ FA.out).mono ?_); rintro e wz2 ⟨rfl, hb⟩; have n0_ := Aside0.mk (below_step (by repeat (first | (with_reducible first | exact HB.out | apply below_alloc | apply pw_below_drewN | apply below_drew1) | exact HB.out)) hb); clear HB; have HB := n0_; clear n0_; clear hb)
  go_wp2_with (go_at_call 11; (with_reducible refine (wire_PutUint.calls 100000000 b v _ FB.out).mono ?_); rintro e wz3 ⟨rfl, hb⟩; have n0_ := Aside0.mk (below_step (by repeat (first | (with_reducible first | exact HB.out | apply below_alloc | apply pw_below_drewN | apply below_drew1) | exact HB.out)) hb); clear HB; have HB := n0_; clear n0_; clear hb)
  go_wp2_with (go_at_call 19; (with_reducible refine (countersignref01_Begins.calls u v false _ GA.out).mono ?_); rintro e wz4 ⟨rfl, ⟨nq4, rfl⟩⟩)
  go_wp2_with (go_at_call 13; (with_reducible refine (wire_PutText.calls 100000000 s x _ FS.out).mono ?_); rintro e wz5 ⟨rfl, hb⟩; have n0_ := Aside0.mk (below_step (by repeat (first | (with_reducible first | exact HB.out | apply below_alloc | apply pw_below_drewN | apply below_drew1) | exact HB.out)) hb); clear HB; have HB := n0_; clear n0_; clear hb)
  go_wp2_with (go_at_call 20; (with_reducible refine (wire_TakeText.calls 100000000 (x.extract 0 c.toNat) (s.size : Int) (⟨#[]⟩ : ByteArray) (⟨#[]⟩ : ByteArray) false _ GT.out).mono ?_); rintro e wz6 ⟨rfl, ⟨nq6, rfl⟩⟩)
  go_ret
  exact ⟨by simp, (by repeat (first | (with_reducible first | exact HB.out | apply below_alloc | apply pw_below_drewN | apply below_drew1) | exact HB.out))⟩
set_option maxHeartbeats 4000000 in
set_option maxRecDepth 100000 in
theorem apart_110 (w : World) (a b : Int) (s t : ByteArray) (c : Int) (F0 : Aside0 (countersignlaw01_fixed.f 100000000 = some true)) (u v : ByteArray) (FA : Aside0 (wire_PutUint.f 100000000 a = some u)) (FB : Aside0 (wire_PutUint.f 100000000 b = some v)) (x y : ByteArray) (FS : Aside0 (wire_PutText.f 100000000 s = some x)) (FT : Aside0 (wire_PutText.f 100000000 t = some y)) (nab : (a == b) = false) (nab2 : (a != b) = true) (GA : Aside0 (countersignref01_Begins.f u v = some false)) (nst : (s.toList == t.toList) = false) (GS : Aside0 (countersignref01_Begins.f x y = some false)) (hc : decide (c < 0) = true) :
    Calls Try.prog 5 #[.agg #[.int .u64 a, .int .u64 b], .agg #[.string s, .string t], .int .i64 c] w fun e w' => e = .returned (.bool true) ∧ Below w.heap.size w w' := by
  have HB := Aside0.mk (Below.refl w.heap.size w)
  go_enter Try.func5, Try.ntmps5
  go_wp2
  go_quiet (fail)
  go_wp2_with (go_at_call 10; (with_reducible refine (countersignlaw01_fixed.calls 100000000 true _ F0.out).mono ?_); rintro e wz1 ⟨rfl, hb⟩; have n0_ := Aside0.mk (below_step (by repeat (first | (with_reducible first | exact HB.out | apply below_alloc | apply pw_below_drewN | apply below_drew1) | exact HB.out)) hb); clear HB; have HB := n0_; clear n0_; clear hb)
  go_wp2_with (go_at_call 11; (with_reducible refine (wire_PutUint.calls 100000000 a u _ FA.out).mono ?_); rintro e wz2 ⟨rfl, hb⟩; have n0_ := Aside0.mk (below_step (by repeat (first | (with_reducible first | exact HB.out | apply below_alloc | apply pw_below_drewN | apply below_drew1) | exact HB.out)) hb); clear HB; have HB := n0_; clear n0_; clear hb)
  go_wp2_with (go_at_call 11; (with_reducible refine (wire_PutUint.calls 100000000 b v _ FB.out).mono ?_); rintro e wz3 ⟨rfl, hb⟩; have n0_ := Aside0.mk (below_step (by repeat (first | (with_reducible first | exact HB.out | apply below_alloc | apply pw_below_drewN | apply below_drew1) | exact HB.out)) hb); clear HB; have HB := n0_; clear n0_; clear hb)
  go_wp2_with (go_at_call 19; (with_reducible refine (countersignref01_Begins.calls u v false _ GA.out).mono ?_); rintro e wz4 ⟨rfl, ⟨nq4, rfl⟩⟩)
  go_wp2_with (go_at_call 13; (with_reducible refine (wire_PutText.calls 100000000 s x _ FS.out).mono ?_); rintro e wz5 ⟨rfl, hb⟩; have n0_ := Aside0.mk (below_step (by repeat (first | (with_reducible first | exact HB.out | apply below_alloc | apply pw_below_drewN | apply below_drew1) | exact HB.out)) hb); clear HB; have HB := n0_; clear n0_; clear hb)
  go_wp2_with (go_at_call 13; (with_reducible refine (wire_PutText.calls 100000000 t y _ FT.out).mono ?_); rintro e wz6 ⟨rfl, hb⟩; have n0_ := Aside0.mk (below_step (by repeat (first | (with_reducible first | exact HB.out | apply below_alloc | apply pw_below_drewN | apply below_drew1) | exact HB.out)) hb); clear HB; have HB := n0_; clear n0_; clear hb)
  go_wp2_with (go_at_call 19; (with_reducible refine (countersignref01_Begins.calls x y false _ GS.out).mono ?_); rintro e wz7 ⟨rfl, ⟨nq7, rfl⟩⟩)
  go_wp2_with (go_at_call 13; (with_reducible refine (wire_PutText.calls 100000000 s x _ FS.out).mono ?_); rintro e wz8 ⟨rfl, hb⟩; have n0_ := Aside0.mk (below_step (by repeat (first | (with_reducible first | exact HB.out | apply below_alloc | apply pw_below_drewN | apply below_drew1) | exact HB.out)) hb); clear HB; have HB := n0_; clear n0_; clear hb)
  go_ret
  exact ⟨by simp, (by repeat (first | (with_reducible first | exact HB.out | apply below_alloc | apply pw_below_drewN | apply below_drew1) | exact HB.out))⟩
set_option maxHeartbeats 4000000 in
set_option maxRecDepth 100000 in
theorem apart_111 (w : World) (a b : Int) (s t : ByteArray) (c : Int) (F0 : Aside0 (countersignlaw01_fixed.f 100000000 = some true)) (u v : ByteArray) (FA : Aside0 (wire_PutUint.f 100000000 a = some u)) (FB : Aside0 (wire_PutUint.f 100000000 b = some v)) (x y : ByteArray) (FS : Aside0 (wire_PutText.f 100000000 s = some x)) (FT : Aside0 (wire_PutText.f 100000000 t = some y)) (nab : (a == b) = false) (nab2 : (a != b) = true) (GA : Aside0 (countersignref01_Begins.f u v = some false)) (nst : (s.toList == t.toList) = false) (GS : Aside0 (countersignref01_Begins.f x y = some false)) (hc : decide (c < 0) = false) (hd : decide ((x.size : Int) ≤ c) = true) :
    Calls Try.prog 5 #[.agg #[.int .u64 a, .int .u64 b], .agg #[.string s, .string t], .int .i64 c] w fun e w' => e = .returned (.bool true) ∧ Below w.heap.size w w' := by
  have HB := Aside0.mk (Below.refl w.heap.size w)
  go_enter Try.func5, Try.ntmps5
  go_wp2
  go_quiet (fail)
  go_wp2_with (go_at_call 10; (with_reducible refine (countersignlaw01_fixed.calls 100000000 true _ F0.out).mono ?_); rintro e wz1 ⟨rfl, hb⟩; have n0_ := Aside0.mk (below_step (by repeat (first | (with_reducible first | exact HB.out | apply below_alloc | apply pw_below_drewN | apply below_drew1) | exact HB.out)) hb); clear HB; have HB := n0_; clear n0_; clear hb)
  go_wp2_with (go_at_call 11; (with_reducible refine (wire_PutUint.calls 100000000 a u _ FA.out).mono ?_); rintro e wz2 ⟨rfl, hb⟩; have n0_ := Aside0.mk (below_step (by repeat (first | (with_reducible first | exact HB.out | apply below_alloc | apply pw_below_drewN | apply below_drew1) | exact HB.out)) hb); clear HB; have HB := n0_; clear n0_; clear hb)
  go_wp2_with (go_at_call 11; (with_reducible refine (wire_PutUint.calls 100000000 b v _ FB.out).mono ?_); rintro e wz3 ⟨rfl, hb⟩; have n0_ := Aside0.mk (below_step (by repeat (first | (with_reducible first | exact HB.out | apply below_alloc | apply pw_below_drewN | apply below_drew1) | exact HB.out)) hb); clear HB; have HB := n0_; clear n0_; clear hb)
  go_wp2_with (go_at_call 19; (with_reducible refine (countersignref01_Begins.calls u v false _ GA.out).mono ?_); rintro e wz4 ⟨rfl, ⟨nq4, rfl⟩⟩)
  go_wp2_with (go_at_call 13; (with_reducible refine (wire_PutText.calls 100000000 s x _ FS.out).mono ?_); rintro e wz5 ⟨rfl, hb⟩; have n0_ := Aside0.mk (below_step (by repeat (first | (with_reducible first | exact HB.out | apply below_alloc | apply pw_below_drewN | apply below_drew1) | exact HB.out)) hb); clear HB; have HB := n0_; clear n0_; clear hb)
  go_wp2_with (go_at_call 13; (with_reducible refine (wire_PutText.calls 100000000 t y _ FT.out).mono ?_); rintro e wz6 ⟨rfl, hb⟩; have n0_ := Aside0.mk (below_step (by repeat (first | (with_reducible first | exact HB.out | apply below_alloc | apply pw_below_drewN | apply below_drew1) | exact HB.out)) hb); clear HB; have HB := n0_; clear n0_; clear hb)
  go_wp2_with (go_at_call 19; (with_reducible refine (countersignref01_Begins.calls x y false _ GS.out).mono ?_); rintro e wz7 ⟨rfl, ⟨nq7, rfl⟩⟩)
  go_wp2_with (go_at_call 13; (with_reducible refine (wire_PutText.calls 100000000 s x _ FS.out).mono ?_); rintro e wz8 ⟨rfl, hb⟩; have n0_ := Aside0.mk (below_step (by repeat (first | (with_reducible first | exact HB.out | apply below_alloc | apply pw_below_drewN | apply below_drew1) | exact HB.out)) hb); clear HB; have HB := n0_; clear n0_; clear hb)
  go_ret
  exact ⟨by simp, (by repeat (first | (with_reducible first | exact HB.out | apply below_alloc | apply pw_below_drewN | apply below_drew1) | exact HB.out))⟩
set_option maxHeartbeats 4000000 in
set_option maxRecDepth 100000 in
theorem apart_112 (w : World) (a b : Int) (s t : ByteArray) (c : Int) (F0 : Aside0 (countersignlaw01_fixed.f 100000000 = some true)) (u v : ByteArray) (FA : Aside0 (wire_PutUint.f 100000000 a = some u)) (FB : Aside0 (wire_PutUint.f 100000000 b = some v)) (x y : ByteArray) (FS : Aside0 (wire_PutText.f 100000000 s = some x)) (FT : Aside0 (wire_PutText.f 100000000 t = some y)) (nab : (a == b) = false) (nab2 : (a != b) = true) (GA : Aside0 (countersignref01_Begins.f u v = some false)) (nst : (s.toList == t.toList) = false) (GS : Aside0 (countersignref01_Begins.f x y = some false)) (hc : decide (c < 0) = false) (hd : decide ((x.size : Int) ≤ c) = false) (hc0 : 0 ≤ c) (hc1 : c ≤ (x.size : Int)) (GT : Aside0 (wire_TakeText.f 100000000 (x.extract 0 c.toNat) (s.size : Int) = some ((⟨#[]⟩ : ByteArray), (⟨#[]⟩ : ByteArray), false))) :
    Calls Try.prog 5 #[.agg #[.int .u64 a, .int .u64 b], .agg #[.string s, .string t], .int .i64 c] w fun e w' => e = .returned (.bool true) ∧ Below w.heap.size w w' := by
  have HB := Aside0.mk (Below.refl w.heap.size w)
  go_enter Try.func5, Try.ntmps5
  go_wp2
  go_quiet (fail)
  go_wp2_with (go_at_call 10; (with_reducible refine (countersignlaw01_fixed.calls 100000000 true _ F0.out).mono ?_); rintro e wz1 ⟨rfl, hb⟩; have n0_ := Aside0.mk (below_step (by repeat (first | (with_reducible first | exact HB.out | apply below_alloc | apply pw_below_drewN | apply below_drew1) | exact HB.out)) hb); clear HB; have HB := n0_; clear n0_; clear hb)
  go_wp2_with (go_at_call 11; (with_reducible refine (wire_PutUint.calls 100000000 a u _ FA.out).mono ?_); rintro e wz2 ⟨rfl, hb⟩; have n0_ := Aside0.mk (below_step (by repeat (first | (with_reducible first | exact HB.out | apply below_alloc | apply pw_below_drewN | apply below_drew1) | exact HB.out)) hb); clear HB; have HB := n0_; clear n0_; clear hb)
  go_wp2_with (go_at_call 11; (with_reducible refine (wire_PutUint.calls 100000000 b v _ FB.out).mono ?_); rintro e wz3 ⟨rfl, hb⟩; have n0_ := Aside0.mk (below_step (by repeat (first | (with_reducible first | exact HB.out | apply below_alloc | apply pw_below_drewN | apply below_drew1) | exact HB.out)) hb); clear HB; have HB := n0_; clear n0_; clear hb)
  go_wp2_with (go_at_call 19; (with_reducible refine (countersignref01_Begins.calls u v false _ GA.out).mono ?_); rintro e wz4 ⟨rfl, ⟨nq4, rfl⟩⟩)
  go_wp2_with (go_at_call 13; (with_reducible refine (wire_PutText.calls 100000000 s x _ FS.out).mono ?_); rintro e wz5 ⟨rfl, hb⟩; have n0_ := Aside0.mk (below_step (by repeat (first | (with_reducible first | exact HB.out | apply below_alloc | apply pw_below_drewN | apply below_drew1) | exact HB.out)) hb); clear HB; have HB := n0_; clear n0_; clear hb)
  go_wp2_with (go_at_call 13; (with_reducible refine (wire_PutText.calls 100000000 t y _ FT.out).mono ?_); rintro e wz6 ⟨rfl, hb⟩; have n0_ := Aside0.mk (below_step (by repeat (first | (with_reducible first | exact HB.out | apply below_alloc | apply pw_below_drewN | apply below_drew1) | exact HB.out)) hb); clear HB; have HB := n0_; clear n0_; clear hb)
  go_wp2_with (go_at_call 19; (with_reducible refine (countersignref01_Begins.calls x y false _ GS.out).mono ?_); rintro e wz7 ⟨rfl, ⟨nq7, rfl⟩⟩)
  go_wp2_with (go_at_call 13; (with_reducible refine (wire_PutText.calls 100000000 s x _ FS.out).mono ?_); rintro e wz8 ⟨rfl, hb⟩; have n0_ := Aside0.mk (below_step (by repeat (first | (with_reducible first | exact HB.out | apply below_alloc | apply pw_below_drewN | apply below_drew1) | exact HB.out)) hb); clear HB; have HB := n0_; clear n0_; clear hb)
  go_wp2_with (go_at_call 20; (with_reducible refine (wire_TakeText.calls 100000000 (x.extract 0 c.toNat) (s.size : Int) (⟨#[]⟩ : ByteArray) (⟨#[]⟩ : ByteArray) false _ GT.out).mono ?_); rintro e wz9 ⟨rfl, ⟨nq9, rfl⟩⟩)
  go_ret
  exact ⟨by simp, (by repeat (first | (with_reducible first | exact HB.out | apply below_alloc | apply pw_below_drewN | apply below_drew1) | exact HB.out))⟩
theorem WireApart_walk (w : World) (cs0 : Array Value) (a0 : Int × Int) (hk0 : (Kd.pair (Kd.int .u64) (Kd.int .u64)).K w a0 cs0.toList) (n0 : Nat) (q0 : (Open.QSt (Open.QPair (Open.QInt .u64) (Open.QInt .u64))) a0 n0) (cs1 : Array Value) (a1 : ByteArray × ByteArray) (hk1 : (Kd.pair Kd.string Kd.string).K w a1 cs1.toList) (n1 : Nat) (q1 : (Open.QSt (Open.QPair Open.QStr Open.QStr)) a1 n1) (a2 : Int) (n2 : Nat) (q2 : Open.QInt .i64 a2 n2)
    (y0 : a1.1.size ≤ 140737488351232) (y1 : a1.2.size ≤ 140737488351232) :
    Calls Try.prog 5 #[.agg cs0, .agg cs1, .int .i64 a2] w fun e w' => e = .returned (.bool true) ∧ Below w.heap.size w w' := by
  obtain ⟨a, b⟩ := a0
  obtain ⟨s, t⟩ := a1
  obtain ⟨_, _, he0, rfl, rfl⟩ := hk0
  obtain ⟨_, _, he1, rfl, rfl⟩ := hk1
  obtain rfl : cs0 = #[.int .u64 a, .int .u64 b] := by apply Array.toList_inj.1; simpa using he0
  obtain rfl : cs1 = #[.string s, .string t] := by apply Array.toList_inj.1; simpa using he1
  obtain ⟨_, _, _, _, _, qa, qb⟩ := q0
  change Open.QInt .u64 a _ at qa
  change Open.QInt .u64 b _ at qb
  change s.size ≤ 140737488351232 at y0
  change t.size ≤ 140737488351232 at y1
  have ha := bounds_u64 qa.1
  have hb := bounds_u64 qb.1
  have hc := bounds_i64 q2.1
  obtain ⟨m, rfl⟩ := Int.eq_ofNat_of_zero_le ha.1
  obtain ⟨n, rfl⟩ := Int.eq_ofNat_of_zero_le hb.1
  have F0 := Aside0.mk (fixed_f (k := 100000000) (by omega))
  have FA := Aside0.mk (putU_f (k := 100000000) (n := m) (by omega) (by omega))
  have FB := Aside0.mk (putU_f (k := 100000000) (n := n) (by omega) (by omega))
  have FS := Aside0.mk (putT_f (k := 100000000) s (by omega) (by omega))
  have FT := Aside0.mk (putT_f (k := 100000000) t (by omega) (by omega))
  have GC : 0 ≤ a2 → a2 < ((ba (encT s.data.toList)).size : Int) → wire_TakeText.f 100000000 ((ba (encT s.data.toList)).extract 0 a2.toNat) (s.size : Int) = some ((⟨#[]⟩ : ByteArray), (⟨#[]⟩ : ByteArray), false) := by
    intro h0 h1
    rw [ba_size] at h1
    have hl : (encT s.data.toList).length ≤ 140737488351252 := by
      unfold encT
      rw [List.length_append, dl]
      have := encU_le10 (n := s.size) (by omega)
      omega
    rw [ba_take, takeT_f _ _ ⟨by omega, by omega⟩ (by rw [ba_size, List.length_take]; omega) (by omega)]
    rw [resT_none (by rw [ba_data]; exact cut_no _ (by rw [dl]; omega) _ (by omega) _)]
    rfl
  by_cases h1 : m = n
  · subst h1
    by_cases h2 : s = t
    · subst h2
      by_cases hc0 : a2 < 0
      · exact apart_000 w _ _ s s a2 F0 _ _ FA FB _ _ FS FT (by simp) (by simp) (by simp) (decide_eq_true hc0)
      · by_cases hc1 : ((ba (encT s.data.toList)).size : Int) ≤ a2
        · exact apart_001 w _ _ s s a2 F0 _ _ FA FB _ _ FS FT (by simp) (by simp) (by simp) (decide_eq_false hc0) (decide_eq_true hc1)
        · exact apart_002 w _ _ s s a2 F0 _ _ FA FB _ _ FS FT (by simp) (by simp) (by simp) (decide_eq_false hc0) (decide_eq_false hc1) (by omega) (by omega) ⟨GC (by omega) (by omega)⟩
    · have G2 := Aside0.mk (apart_T (s := s.data.toList) (t := t.data.toList) (by rw [dl]; omega) (by rw [dl]; omega) (fun e => h2 (by rw [← ba_of s, ← ba_of t, e])))
      have g2 : (s.toList == t.toList) = false := beq_eq_false_iff_ne.2 (fun e => h2 (toList_inj.1 e))
      by_cases hc0 : a2 < 0
      · exact apart_010 w _ _ s t a2 F0 _ _ FA FB _ _ FS FT (by simp) (by simp) g2 G2 (decide_eq_true hc0)
      · by_cases hc1 : ((ba (encT s.data.toList)).size : Int) ≤ a2
        · exact apart_011 w _ _ s t a2 F0 _ _ FA FB _ _ FS FT (by simp) (by simp) g2 G2 (decide_eq_false hc0) (decide_eq_true hc1)
        · exact apart_012 w _ _ s t a2 F0 _ _ FA FB _ _ FS FT (by simp) (by simp) g2 G2 (decide_eq_false hc0) (decide_eq_false hc1) (by omega) (by omega) ⟨GC (by omega) (by omega)⟩
  · have G1 := Aside0.mk (apart_U (a := m) (b := n) (by omega) (by omega) h1)
    have g1 : ((m : Int) == (n : Int)) = false := beq_eq_false_iff_ne.2 (fun e => h1 (by omega))
    have g3 : ((m : Int) != (n : Int)) = true := bne_iff_ne.2 (fun e => h1 (by omega))
    by_cases h2 : s = t
    · subst h2
      by_cases hc0 : a2 < 0
      · exact apart_100 w _ _ s s a2 F0 _ _ FA FB _ _ FS FT g1 g3 G1 (by simp) (decide_eq_true hc0)
      · by_cases hc1 : ((ba (encT s.data.toList)).size : Int) ≤ a2
        · exact apart_101 w _ _ s s a2 F0 _ _ FA FB _ _ FS FT g1 g3 G1 (by simp) (decide_eq_false hc0) (decide_eq_true hc1)
        · exact apart_102 w _ _ s s a2 F0 _ _ FA FB _ _ FS FT g1 g3 G1 (by simp) (decide_eq_false hc0) (decide_eq_false hc1) (by omega) (by omega) ⟨GC (by omega) (by omega)⟩
    · have G2 := Aside0.mk (apart_T (s := s.data.toList) (t := t.data.toList) (by rw [dl]; omega) (by rw [dl]; omega) (fun e => h2 (by rw [← ba_of s, ← ba_of t, e])))
      have g2 : (s.toList == t.toList) = false := beq_eq_false_iff_ne.2 (fun e => h2 (toList_inj.1 e))
      by_cases hc0 : a2 < 0
      · exact apart_110 w _ _ s t a2 F0 _ _ FA FB _ _ FS FT g1 g3 G1 g2 G2 (decide_eq_true hc0)
      · by_cases hc1 : ((ba (encT s.data.toList)).size : Int) ≤ a2
        · exact apart_111 w _ _ s t a2 F0 _ _ FA FB _ _ FS FT g1 g3 G1 g2 G2 (decide_eq_false hc0) (decide_eq_true hc1)
        · exact apart_112 w _ _ s t a2 F0 _ _ FA FB _ _ FS FT g1 g3 G1 g2 G2 (decide_eq_false hc0) (decide_eq_false hc1) (by omega) (by omega) ⟨GC (by omega) (by omega)⟩
end Go.Proofs.Ytkjlbmdcaehgiaa.L
