/- The walks of WirePuts, WireBack, WireOnce, WireApart, call by call. -/
import Derived.Test.YtkjlbmdcaehgiaaLw01a
set_option linter.unusedVariables false
set_option linter.unusedSimpArgs false
namespace Go.Proofs.Ytkjlbmdcaehgiaa.L
open Go.RowKit Go.Proofs.YtkjlbmdcaehgiaaW.PrintWords Go.Proofs.YtkjlbmdcaehgiaaW.PrintLast Go.Proofs.YtkjlbmdcaehgiaaW.PrintMore Go.Proofs.Ytkjlbmdcaehgiaa.PAll Go.Proofs.Ytkjlbmdcaehgiaa.WP Go.Proofs.Ytkjlbmdcaehgiaa.WM

theorem qtexts {l : List ByteArray} {n : Nat} (q : (Open.QSl Open.QStr) l n) : l.length ≤ n ∧ ((l.map fun s => encT s.data.toList).flatten).length ≤ 11 * n ∧ ∀ s ∈ l, s.size ≤ n := by
  obtain ⟨m, hm, h⟩ := q
  have h1 := h.len (fun a n h => by have := h.2; omega)
  have h3 : ∀ s ∈ l, s.size ≤ m := fun s hs => by
    obtain ⟨m2, hm2, h4⟩ := h.mem s hs
    have := h4.2
    omega
  refine ⟨by omega, ?_, fun s hs => by have := h3 s hs; omega⟩
  have h2 : ((l.map fun s => encT s.data.toList).flatten).length ≤ 11 * m := by
    clear h1 h3 hm
    induction h with
    | nil n => simp
    | cons ha _ ih =>
      rename_i a l2 m2 n2 _
      have e1 := ha.2
      have e2 := ha.1
      unfold maxLen at e2
      have e3 := encU_le10 (n := a.size) (by omega)
      simp only [List.map_cons, List.flatten_cons, List.length_append, encT, dl]
      simp only [encT, dl] at ih
      omega
  omega
theorem encL_le {l : List ByteArray} {n : Nat} (q : (Open.QSl Open.QStr) l n) (hn : n ≤ 1048576) : (encL (l.map fun s => s.data.toList)).length ≤ 20000000 := by
  obtain ⟨h1, h2, h3⟩ := qtexts q
  unfold encL
  have := encU_le10 (n := l.length) (by omega)
  simp only [List.length_append, List.length_map, List.map_map, Function.comp_def]
  omega

set_option maxHeartbeats 4000000 in
set_option maxRecDepth 100000 in
theorem puts_go (w : World) (a0 : Int) (h0 : 0 ≤ a0 ∧ a0 ≤ 18446744073709551615) (A1 : Option Addr) (c1 : Nat) (l1 : List Int) (hl1 : l1.length ≤ c1) (hr1 : (Kd.int .u64).C w A1 l1.length l1) (hw1 : W64 l1) (hn1 : l1.length ≤ 1048576)
    (A2 : Option Addr) (c2 : Nat) (l2 : List ByteArray) (hl2 : l2.length ≤ c2) (hr2 : Kd.string.C w A2 l2.length l2) (hn2 : l2.length ≤ 1048576) (he2 : (encL (l2.map fun s => s.data.toList)).length ≤ 20000000)
    (s : ByteArray) (hs : s.size ≤ 1048576) (hcase : (decide (0 < l2.length) = false ∧ decide ((0 : Int) < (l2.length : Int)) = false ∧ s = (⟨#[]⟩ : ByteArray)) ∨ (decide (0 < l2.length) = true ∧ decide ((0 : Int) < (l2.length : Int)) = true ∧ ∃ ad, A2 = some ad ∧ w.cell? (ad.add 0) = some (.string s))) :
    Calls Try.prog 3 #[.int .u64 a0, .slice A1 l1.length c1, .slice A2 l2.length c2] w fun e w' => e = .returned (.bool true) ∧ Below w.heap.size w w' := by
  obtain ⟨n, rfl⟩ := Int.eq_ofNat_of_zero_le h0.1
  have HR1 := Aside0.mk hr1
  have HC1 := Aside0.mk hl1
  have HR2 := Aside0.mk hr2
  have HC2 := Aside0.mk hl2
  have HB := Aside0.mk (Below.refl w.heap.size w)
  have F0 := Aside0.mk (fixed_f (k := 100000000) (by omega))
  have F1 := Aside0.mk (putU_f (n := n) (k := 100000000) (by omega) (by omega))
  have F2 := Aside0.mk (rputU_f (n := n) (k := 100000000) (by omega) (by omega))
  have F3 := Aside0.mk (putT_f (k := 100000000) s (by omega) (by omega))
  have F4 := Aside0.mk (rputT_f (k := 100000000) s (by omega) (by omega))
  have F5 := Aside0.mk (putN_f (k := 100000000) l1 hw1 (by omega) (by omega))
  have F6 := Aside0.mk (rputN_f (k := 100000000) l1 hw1 (by omega) (by omega))
  have F7 := Aside0.mk (putL_f (k := 100000000) l2 (by omega) (by omega))
  have F8 := Aside0.mk (rputL_f (k := 100000000) l2 (by omega) (by omega) (by omega))
  generalize ba (encU n) = r1 at F1 F2
  generalize ba (encT s.data.toList) = r2 at F3 F4
  generalize ba (encN (l1.map Int.toNat)) = r3 at F5 F6
  generalize ba (encL (l2.map fun s => s.data.toList)) = r4 at F7 F8
  clear hr1 hl1 hr2 hl2 h0 hw1 hn1 hn2 he2 hs
  rcases hcase with ⟨hb1, hb2, hse⟩ | ⟨hb1, hb2, ad, rfl, hx⟩
  · obtain rfl := hse
    go_enter Try.func3, Try.ntmps3
    go_wp2_with (go_at_call 10; (with_reducible refine (countersignlaw01_fixed.calls 100000000 true _ F0.out).mono ?_); rintro e wz1 ⟨rfl, hb⟩; have n0_ := Aside0.mk (below_step (by repeat (first | (with_reducible first | exact HB.out | apply below_alloc | apply pw_below_drewN | apply below_drew1) | exact HB.out)) hb); clear HB; have HB := n0_; clear n0_; clear hb)
    go_wp2_with (go_at_call 11; (with_reducible refine (wire_PutUint.calls 100000000 (n : Int) r1 _ F1.out).mono ?_); rintro e wz2 ⟨rfl, hb⟩; have n0_ := Aside0.mk (below_step (by repeat (first | (with_reducible first | exact HB.out | apply below_alloc | apply pw_below_drewN | apply below_drew1) | exact HB.out)) hb); clear HB; have HB := n0_; clear n0_; clear hb)
    go_wp2_with (go_at_call 12; (with_reducible refine (countersignref01_PutUint.calls 100000000 (n : Int) r1 _ F2.out).mono ?_); rintro e wz3 ⟨rfl, hb⟩; have n0_ := Aside0.mk (below_step (by repeat (first | (with_reducible first | exact HB.out | apply below_alloc | apply pw_below_drewN | apply below_drew1) | exact HB.out)) hb); clear HB; have HB := n0_; clear n0_; clear hb)
    go_wp2_with (go_at_call 13; (with_reducible refine (wire_PutText.calls 100000000 (⟨#[]⟩ : ByteArray) r2 _ F3.out).mono ?_); rintro e wz4 ⟨rfl, hb⟩; have n0_ := Aside0.mk (below_step (by repeat (first | (with_reducible first | exact HB.out | apply below_alloc | apply pw_below_drewN | apply below_drew1) | exact HB.out)) hb); clear HB; have HB := n0_; clear n0_; clear hb)
    go_wp2_with (go_at_call 14; (with_reducible refine (countersignref01_PutText.calls 100000000 (⟨#[]⟩ : ByteArray) r2 _ F4.out).mono ?_); rintro e wz5 ⟨rfl, hb⟩; have n0_ := Aside0.mk (below_step (by repeat (first | (with_reducible first | exact HB.out | apply below_alloc | apply pw_below_drewN | apply below_drew1) | exact HB.out)) hb); clear HB; have HB := n0_; clear n0_; clear hb)
    go_wp2_with (go_at_call 15; (with_reducible refine (wire_PutNums.calls 100000000 _ _ l1 r3 _ ?s1 ?s2 F5.out).mono ?_); (case s1 => exact (by repeat (first | exact (Kd.C_below HR1.out HB.out) | (with_reducible refine Kd.C_alloc ?_ _) | (with_reducible refine Kd.C_drewN ?_ _) | (with_reducible refine Kd.C_drew ?_)))); (case s2 => exact HC1.out); rintro e wz6 ⟨rfl, hb⟩; have n0_ := Aside0.mk (below_step (by repeat (first | (with_reducible first | exact HB.out | apply below_alloc | apply pw_below_drewN | apply below_drew1) | exact HB.out)) hb); clear HB; have HB := n0_; clear n0_; clear hb)
    go_wp2_with (go_at_call 16; (with_reducible refine (countersignref01_PutNums.calls 100000000 _ _ l1 r3 _ ?s1 ?s2 F6.out).mono ?_); (case s1 => exact (by repeat (first | exact (Kd.C_below HR1.out HB.out) | (with_reducible refine Kd.C_alloc ?_ _) | (with_reducible refine Kd.C_drewN ?_ _) | (with_reducible refine Kd.C_drew ?_)))); (case s2 => exact HC1.out); rintro e wz7 ⟨rfl, hb⟩; have n0_ := Aside0.mk (below_step (by repeat (first | (with_reducible first | exact HB.out | apply below_alloc | apply pw_below_drewN | apply below_drew1) | exact HB.out)) hb); clear HB; have HB := n0_; clear n0_; clear hb)
    go_wp2_with (go_at_call 17; (with_reducible refine (wire_PutList.calls 100000000 _ _ l2 r4 _ ?s1 ?s2 F7.out).mono ?_); (case s1 => exact (by repeat (first | exact (Kd.C_below HR2.out HB.out) | (with_reducible refine Kd.C_alloc ?_ _) | (with_reducible refine Kd.C_drewN ?_ _) | (with_reducible refine Kd.C_drew ?_)))); (case s2 => exact HC2.out); rintro e wz8 ⟨rfl, hb⟩; have n0_ := Aside0.mk (below_step (by repeat (first | (with_reducible first | exact HB.out | apply below_alloc | apply pw_below_drewN | apply below_drew1) | exact HB.out)) hb); clear HB; have HB := n0_; clear n0_; clear hb)
    go_wp2_with (go_at_call 18; (with_reducible refine (countersignref01_PutList.calls 100000000 _ _ l2 r4 _ ?s1 ?s2 F8.out).mono ?_); (case s1 => exact (by repeat (first | exact (Kd.C_below HR2.out HB.out) | (with_reducible refine Kd.C_alloc ?_ _) | (with_reducible refine Kd.C_drewN ?_ _) | (with_reducible refine Kd.C_drew ?_)))); (case s2 => exact HC2.out); rintro e wz9 ⟨rfl, hb⟩; have n0_ := Aside0.mk (below_step (by repeat (first | (with_reducible first | exact HB.out | apply below_alloc | apply pw_below_drewN | apply below_drew1) | exact HB.out)) hb); clear HB; have HB := n0_; clear n0_; clear hb)
    go_ret
    exact ⟨by simp, (by repeat (first | (with_reducible first | exact HB.out | apply below_alloc | apply pw_below_drewN | apply below_drew1) | exact HB.out))⟩
  · have p0 : 0 < l2.length := of_decide_eq_true hb1
    have hx2 : w.cell? ad = some (.string s) := by rw [Addr.add_zero'] at hx; exact hx
    clear hx
    go_enter Try.func3, Try.ntmps3
    go_wp2_with (go_at_call 10; (with_reducible refine (countersignlaw01_fixed.calls 100000000 true _ F0.out).mono ?_); rintro e wz1 ⟨rfl, hb⟩; have n0_ := Aside0.mk (below_step (by repeat (first | (with_reducible first | exact HB.out | apply below_alloc | apply pw_below_drewN | apply below_drew1) | exact HB.out)) hb); clear HB; have HB := n0_; clear n0_; clear hb)
    go_wp2_with (go_at_call 11; (with_reducible refine (wire_PutUint.calls 100000000 (n : Int) r1 _ F1.out).mono ?_); rintro e wz2 ⟨rfl, hb⟩; have n0_ := Aside0.mk (below_step (by repeat (first | (with_reducible first | exact HB.out | apply below_alloc | apply pw_below_drewN | apply below_drew1) | exact HB.out)) hb); clear HB; have HB := n0_; clear n0_; clear hb)
    go_wp2_with (go_at_call 12; (with_reducible refine (countersignref01_PutUint.calls 100000000 (n : Int) r1 _ F2.out).mono ?_); rintro e wz3 ⟨rfl, hb⟩; have n0_ := Aside0.mk (below_step (by repeat (first | (with_reducible first | exact HB.out | apply below_alloc | apply pw_below_drewN | apply below_drew1) | exact HB.out)) hb); clear HB; have HB := n0_; clear n0_; clear hb)
    go_wp2_with (go_at_call 13; (with_reducible refine (wire_PutText.calls 100000000 s r2 _ F3.out).mono ?_); rintro e wz4 ⟨rfl, hb⟩; have n0_ := Aside0.mk (below_step (by repeat (first | (with_reducible first | exact HB.out | apply below_alloc | apply pw_below_drewN | apply below_drew1) | exact HB.out)) hb); clear HB; have HB := n0_; clear n0_; clear hb)
    go_wp2_with (go_at_call 14; (with_reducible refine (countersignref01_PutText.calls 100000000 s r2 _ F4.out).mono ?_); rintro e wz5 ⟨rfl, hb⟩; have n0_ := Aside0.mk (below_step (by repeat (first | (with_reducible first | exact HB.out | apply below_alloc | apply pw_below_drewN | apply below_drew1) | exact HB.out)) hb); clear HB; have HB := n0_; clear n0_; clear hb)
    go_wp2_with (go_at_call 15; (with_reducible refine (wire_PutNums.calls 100000000 _ _ l1 r3 _ ?s1 ?s2 F5.out).mono ?_); (case s1 => exact (by repeat (first | exact (Kd.C_below HR1.out HB.out) | (with_reducible refine Kd.C_alloc ?_ _) | (with_reducible refine Kd.C_drewN ?_ _) | (with_reducible refine Kd.C_drew ?_)))); (case s2 => exact HC1.out); rintro e wz6 ⟨rfl, hb⟩; have n0_ := Aside0.mk (below_step (by repeat (first | (with_reducible first | exact HB.out | apply below_alloc | apply pw_below_drewN | apply below_drew1) | exact HB.out)) hb); clear HB; have HB := n0_; clear n0_; clear hb)
    go_wp2_with (go_at_call 16; (with_reducible refine (countersignref01_PutNums.calls 100000000 _ _ l1 r3 _ ?s1 ?s2 F6.out).mono ?_); (case s1 => exact (by repeat (first | exact (Kd.C_below HR1.out HB.out) | (with_reducible refine Kd.C_alloc ?_ _) | (with_reducible refine Kd.C_drewN ?_ _) | (with_reducible refine Kd.C_drew ?_)))); (case s2 => exact HC1.out); rintro e wz7 ⟨rfl, hb⟩; have n0_ := Aside0.mk (below_step (by repeat (first | (with_reducible first | exact HB.out | apply below_alloc | apply pw_below_drewN | apply below_drew1) | exact HB.out)) hb); clear HB; have HB := n0_; clear n0_; clear hb)
    go_wp2_with (go_at_call 17; (with_reducible refine (wire_PutList.calls 100000000 _ _ l2 r4 _ ?s1 ?s2 F7.out).mono ?_); (case s1 => exact (by repeat (first | exact (Kd.C_below HR2.out HB.out) | (with_reducible refine Kd.C_alloc ?_ _) | (with_reducible refine Kd.C_drewN ?_ _) | (with_reducible refine Kd.C_drew ?_)))); (case s2 => exact HC2.out); rintro e wz8 ⟨rfl, hb⟩; have n0_ := Aside0.mk (below_step (by repeat (first | (with_reducible first | exact HB.out | apply below_alloc | apply pw_below_drewN | apply below_drew1) | exact HB.out)) hb); clear HB; have HB := n0_; clear n0_; clear hb)
    go_wp2_with (go_at_call 18; (with_reducible refine (countersignref01_PutList.calls 100000000 _ _ l2 r4 _ ?s1 ?s2 F8.out).mono ?_); (case s1 => exact (by repeat (first | exact (Kd.C_below HR2.out HB.out) | (with_reducible refine Kd.C_alloc ?_ _) | (with_reducible refine Kd.C_drewN ?_ _) | (with_reducible refine Kd.C_drew ?_)))); (case s2 => exact HC2.out); rintro e wz9 ⟨rfl, hb⟩; have n0_ := Aside0.mk (below_step (by repeat (first | (with_reducible first | exact HB.out | apply below_alloc | apply pw_below_drewN | apply below_drew1) | exact HB.out)) hb); clear HB; have HB := n0_; clear n0_; clear hb)
    go_ret
    exact ⟨by simp, (by repeat (first | (with_reducible first | exact HB.out | apply below_alloc | apply pw_below_drewN | apply below_drew1) | exact HB.out))⟩
theorem WirePuts_walk (w : World) (a0 : Int) (n0 : Nat) (q0 : Open.QInt .u64 a0 n0) (A1 : Option Addr) (c1 : Nat) (l1 : (List Int)) (hl1 : l1.length ≤ c1) (hr1 : (Kd.int .u64).C w A1 l1.length l1) (n1 : Nat) (q1 : (Open.QSl (Open.QInt .u64)) l1 n1) (A2 : Option Addr) (c2 : Nat) (l2 : (List ByteArray)) (hl2 : l2.length ≤ c2) (hr2 : Kd.string.C w A2 l2.length l2) (n2 : Nat) (q2 : (Open.QSl Open.QStr) l2 n2) (hb : n0 + (n1 + (n2 + (0))) ≤ 1048576) :
    Calls Try.prog 3 #[.int .u64 a0, .slice A1 l1.length c1, .slice A2 l2.length c2] w fun e w' => e = .returned (.bool true) ∧ Below w.heap.size w w' := by
  have h0 := bounds_u64 q0.1
  have h1 := qnums q1
  have h2 := qtexts q2
  have h3 := encL_le q2 (by omega)
  by_cases hc : 0 < l2.length
  · obtain ⟨ad, e, hx⟩ := Kd.at_string hr2 0 (by omega) (by omega)
    refine puts_go w a0 h0 A1 c1 l1 hl1 hr1 h1.1 (by omega) A2 c2 l2 hl2 hr2 (by omega) h3 _ ?_ (.inr ⟨decide_eq_true hc, decide_eq_true (by omega), ad, e, hx⟩)
    have := rdOf_at (l := l2) (i := 0) hc
    rw [show ((0 : Nat) : Int) = 0 from rfl] at this
    rw [this]
    have := h2.2.2 _ (List.getElem_mem hc)
    omega
  · exact puts_go w a0 h0 A1 c1 l1 hl1 hr1 h1.1 (by omega) A2 c2 l2 hl2 hr2 (by omega) h3 (⟨#[]⟩ : ByteArray) (by decide) (.inl ⟨decide_eq_false hc, decide_eq_false (by omega), rfl⟩)
end Go.Proofs.Ytkjlbmdcaehgiaa.L
