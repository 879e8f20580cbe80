-- Written by a program of this claim's (gprint.py, over the kit's printer)
import Derived.Test.YtkjlbmdcaehgiaaPAllx0
namespace Go.Proofs.Ytkjlbmdcaehgiaa.PAll
open Go.RowKit Go.Proofs.YtkjlbmdcaehgiaaW.PrintWords Go.Proofs.YtkjlbmdcaehgiaaW.PrintLast Go.Proofs.YtkjlbmdcaehgiaaW.PrintMore
attribute [local go_sem] max2_int min2_int max_two min_two max_three min_three max_four min_four   -- for this text's walks alone
set_option linter.unusedVariables false
set_option linter.unusedSimpArgs false

/-! ### wire_put: function 30 -/
def wire_put.l0 : Nat → List Int → Int → Option (List Int)
  | 0, _, _ => none
  | k + 1, x0, x1 => if x1 ≥ 128 then (if x0.length < 140737488355328 then (wire_put.l0 k (x0 ++ [Go.bits .or .u8 ((x1) % 256) 128]) (x1 / 128)) else (none)) else (if x0.length < 140737488355328 then (some (x0 ++ [(x1) % 256])) else (none))
def wire_put.f (k : Nat) (l0 : List Int) (a1 : Int) : Option (List Int) := wire_put.l0 k l0 a1
theorem wire_put.mono_l : ∀ k, (∀ y0 y1, LeO (wire_put.l0 k y0 y1) (wire_put.l0 (k + 1) y0 y1))
  | 0 => fun _ _ r h => by simp [wire_put.l0] at h
  | k + 1 => by
    have ih0 := wire_put.mono_l k
    · intro y0 y1
      unfold wire_put.l0
      repeat' first
      | (with_reducible exact ih0 _ _)
      | (with_reducible exact LeO.refl _)
      | (with_reducible exact LeO.none _)
      | (with_reducible refine LeO.ite ?_ ?_)
      | (with_reducible refine LeO.bind ?_ (fun _ => ?_))
      | exact ih0 _ _
      | exact LeO.none _
      | refine LeO.ite ?_ ?_
      | refine LeO.bind ?_ (fun _ => ?_)
theorem wire_put.mono : ∀ a0 a1 k, LeO (wire_put.f k a0 a1) (wire_put.f (k + 1) a0 a1) := by
  intro a0 a1 k
  have ih0 := wire_put.mono_l k
  unfold wire_put.f
  repeat' first
      | (with_reducible exact ih0 _ _)
      | (with_reducible exact LeO.refl _)
      | (with_reducible exact LeO.none _)
      | (with_reducible refine LeO.ite ?_ ?_)
      | (with_reducible refine LeO.bind ?_ (fun _ => ?_))
      | exact ih0 _ _
      | exact LeO.none _
      | refine LeO.ite ?_ ?_
      | refine LeO.bind ?_ (fun _ => ?_)
set_option maxHeartbeats 8000000 in
set_option maxRecDepth 100000 in
theorem wire_put.calls (k : Nat) (P0_ : Nat → Prop) (u9000_ : Value) (l0 : List Int) (a1 : Int) (r : List Int) (w0 w : World) (hB : Below w0.heap.size w0 w) (ho0 : Kd.R (Kd.int .u8) 5 w w0.heap.size P0_ u9000_ l0) (h : wire_put.f k l0 a1 = some r) :
    Calls Try.prog 30 #[u9000_, .int .u64 a1] w fun e w' => ∃ v0_ : Value, e = .returned (v0_) ∧ Kd.R (Kd.int .u8) 5 w' w0.heap.size (fun k_ => (P0_ k_ ∨ w.heap.size ≤ k_)) v0_ r ∧ Below w0.heap.size w0 w' ∧ Kept w w' (fun k_ => P0_ k_) := by
  have HO0 := Aside0.mk (show Kd.R (Kd.int .u8) 5 w w0.heap.size (fun k_ => (P0_ k_ ∨ w.heap.size ≤ k_)) u9000_ l0 from Kd.R_mono ho0 (fun k_ hk => (.inl hk)))
  have HK := Aside0.mk (Kept.refl w (fun k_ => P0_ k_))
  have HW0 := Aside0.mk hB.size
  have HB := Aside0.mk hB
  clear hB
  have H : (wire_put.l0 k l0 a1) = some r := h
  clear h
  have H' := Aside0.mk H
  clear H
  go_enter Try.func30, Try.ntmps30
  go_wp2
  go_loopg [0, 1] k (fun kq v0 v1 w' => ∃ (x0_1 : List Int) (x1_1 : Int), v1 = .int .u64 x1_1 ∧ Aside0 (wire_put.l0 kq x0_1 x1_1 = some r) ∧ Aside0 (kq ≤ k) ∧ Aside0 (Kd.R (Kd.int .u8) 5 w' w0.heap.size (fun k_ => (P0_ k_ ∨ w.heap.size ≤ k_)) v0 x0_1) ∧ Aside0 (Kept w w' (fun k_ => P0_ k_)) ∧ Aside0 (Below w0.heap.size w0 w'))
  case atStart => exact ⟨(l0), (a1), (by first | rfl | (simp; done) | (simp [*]; done)), H', ⟨Nat.le_refl _⟩, ⟨by (with_reducible repeat (first | apply Kd.R_alloc | apply Kd.R_drewN | apply Kd.R_drew)); exact HO0.out⟩, ⟨by repeat (first | (with_reducible first | exact HK.out | apply Kept.alloc | apply Kept.drewN | apply Kept.drew) | exact HK.out)⟩, ⟨by repeat (first | (with_reducible first | exact HB.out | apply below_alloc | apply pw_below_drewN | apply below_drew1) | exact HB.out)⟩⟩
  case round =>
    clear H'
    try clear p2
    obtain ⟨x0_1, x1_1, rfl, HA, HK1, HO_0, HK, HB⟩ := hrel
    cases gk with
    | zero => exact absurd HA.out (by simp [wire_put.l0])
    | succ k1 =>
      have H := HA.out
      clear HA
      simp only [wire_put.l0] at H
      by_cases c3 : x1_1 ≥ 128
      · rw [if_pos c3] at H
        have c3b0 : decide (128 ≤ x1_1) = true := decide_eq_true c3
        clear c3
        by_cases c4 : x0_1.length < 140737488355328
        · rw [if_pos c4] at H
          have LMc4 := Aside0.mk c4
          clear c4
          obtain ⟨y101, hy101⟩ : ∃ y_ : List Int, y_ = (x0_1 ++ [Go.bits .or .u8 ((x1_1) % 256) 128]) := ⟨_, rfl⟩
          replace H : (wire_put.l0 k1 y101 (x1_1 / 128)) = some r := by first | (rw [hy101]; with_reducible exact H) | (have H2_ := (Option.bind_some _ _).symm.trans H; rw [hy101]; with_reducible exact H2_) | (have H2_ := (Option.bind_some _ _).symm.trans H; with_reducible exact H2_) | with_reducible exact H | (rw [hy101]; exact H) | exact H
          have Ny101 := Aside0.mk hy101
          clear hy101
          have H' := Aside0.mk H
          clear H
          go_wp2_with (first | ((with_reducible refine gate_builtin (b := .append) (xs := #[.tmp 7, .tmp 11]) rfl ?_); at_builtin; refine Kd.R_append (Kd.int .u8) (w0 := w0) w0.heap.size rfl (.tmp 7) (.tmp 11) 50 5 (.int .u8 0) 1 rfl Try.underlying50 info5 rfl (by decide) (by omega) u0 x0_1 (Go.bits .or .u8 ((x1_1) % 256) 128) [.int .u8 (Go.bits .or .u8 ((x1_1) % 256) 128)] (fun k_ => (P0_ k_ ∨ w.heap.size ≤ k_)) (fun _ => False) rfl rfl ?aP (fun _ hk => hk.elim) ?aF ?aO ?aB ?aS ?aL ?_; (case aP => exact rfl); (case aB => exact (by repeat (first | (with_reducible first | exact HB.out | apply below_alloc | apply pw_below_drewN | apply below_drew1) | exact HB.out))); (case aF => exact (fun k_ hk => (.inr (Nat.le_trans (by first | exact HK.out.1 | exact (show Kept w _ (fun k_ => P0_ k_) from by repeat (first | (with_reducible first | exact HK.out | apply Kept.alloc | apply Kept.drewN | apply Kept.drew) | exact HK.out)).1) hk)))); (case aO => exact (by (with_reducible repeat (first | apply Kd.R_alloc | apply Kd.R_drewN | apply Kd.R_drew)); exact HO_0.out)); (case aS => exact (below_size (by repeat (first | (with_reducible first | exact HB.out | apply below_alloc | apply pw_below_drewN | apply below_drew1) | exact HB.out)))); (case aL => have := LMc4.out; omega); intro v102 w5 ho hb hg hat; rw [← Ny101.out] at ho; have n0_ := Aside0.mk (hb); have n1_ := Aside0.mk (Kept.of_grown (S := (fun k_ => P0_ k_)) hg (by repeat (first | (with_reducible first | exact HK.out | apply Kept.alloc | apply Kept.drewN | apply Kept.drew) | exact HK.out)) (fun k_ e_ => (HO_0.out.1 k_ e_))); have n2_ := Aside0.mk (ho); clear HB; clear HK; clear HO_0; have HB := n0_; have HK := n1_; have HO103 := n2_; clear n0_ n1_ n2_; clear ho hb hg hat))
          go_roundg k1
          case measure => have := HK1.out; omega
          case rel => exact ⟨(y101), (x1_1 / 128), (by first | rfl | (simp; done) | (simp [*]; done)), H', ⟨by have := HK1.out; omega⟩, ⟨by (with_reducible repeat (first | apply Kd.R_alloc | apply Kd.R_drewN | apply Kd.R_drew)); exact HO103.out⟩, ⟨by repeat (first | (with_reducible first | exact HK.out | apply Kept.alloc | apply Kept.drewN | apply Kept.drew) | exact HK.out)⟩, ⟨by repeat (first | (with_reducible first | exact HB.out | apply below_alloc | apply pw_below_drewN | apply below_drew1) | exact HB.out)⟩⟩
        · rw [if_neg c4] at H
          exact absurd H (by simp)
      · rw [if_neg c3] at H
        have c3b0 : decide (128 ≤ x1_1) = false := decide_eq_false c3
        clear c3
        by_cases c6 : x0_1.length < 140737488355328
        · rw [if_pos c6] at H
          have LMc6 := Aside0.mk c6
          clear c6
          obtain ⟨y104, hy104⟩ : ∃ y_ : List Int, y_ = (x0_1 ++ [(x1_1) % 256]) := ⟨_, rfl⟩
          replace H : (some y104) = some r := by first | (rw [hy104]; with_reducible exact H) | (have H2_ := (Option.bind_some _ _).symm.trans H; rw [hy104]; with_reducible exact H2_) | (have H2_ := (Option.bind_some _ _).symm.trans H; with_reducible exact H2_) | with_reducible exact H | (rw [hy104]; exact H) | exact H
          have Ny104 := Aside0.mk hy104
          clear hy104
          obtain rfl := Option.some.inj H
          go_wp2_with (first | ((with_reducible refine gate_builtin (b := .append) (xs := #[.tmp 15, .tmp 18]) rfl ?_); at_builtin; refine Kd.R_append (Kd.int .u8) (w0 := w0) w0.heap.size rfl (.tmp 15) (.tmp 18) 50 5 (.int .u8 0) 1 rfl Try.underlying50 info5 rfl (by decide) (by omega) u0 x0_1 ((x1_1) % 256) [.int .u8 ((x1_1) % 256)] (fun k_ => (P0_ k_ ∨ w.heap.size ≤ k_)) (fun _ => False) rfl rfl ?aP (fun _ hk => hk.elim) ?aF ?aO ?aB ?aS ?aL ?_; (case aP => exact rfl); (case aB => exact (by repeat (first | (with_reducible first | exact HB.out | apply below_alloc | apply pw_below_drewN | apply below_drew1) | exact HB.out))); (case aF => exact (fun k_ hk => (.inr (Nat.le_trans (by first | exact HK.out.1 | exact (show Kept w _ (fun k_ => P0_ k_) from by repeat (first | (with_reducible first | exact HK.out | apply Kept.alloc | apply Kept.drewN | apply Kept.drew) | exact HK.out)).1) hk)))); (case aO => exact (by (with_reducible repeat (first | apply Kd.R_alloc | apply Kd.R_drewN | apply Kd.R_drew)); exact HO_0.out)); (case aS => exact (below_size (by repeat (first | (with_reducible first | exact HB.out | apply below_alloc | apply pw_below_drewN | apply below_drew1) | exact HB.out)))); (case aL => have := LMc6.out; omega); intro v105 w7 ho hb hg hat; rw [← Ny104.out] at ho; have n0_ := Aside0.mk (hb); have n1_ := Aside0.mk (Kept.of_grown (S := (fun k_ => P0_ k_)) hg (by repeat (first | (with_reducible first | exact HK.out | apply Kept.alloc | apply Kept.drewN | apply Kept.drew) | exact HK.out)) (fun k_ e_ => (HO_0.out.1 k_ e_))); have n2_ := Aside0.mk (ho); clear HB; clear HK; clear HO_0; have HB := n0_; have HK := n1_; have HO106 := n2_; clear n0_ n1_ n2_; clear ho hb hg hat))
          go_ret
          exact ⟨_, by first | rfl | (simp [errW_none, errW_some] <;> rfl) | (simp [*, errW_none, errW_some] <;> rfl), by (with_reducible repeat (first | apply Kd.R_alloc | apply Kd.R_drewN | apply Kd.R_drew)); exact HO106.out, by repeat (first | (with_reducible first | exact HB.out | apply below_alloc | apply pw_below_drewN | apply below_drew1) | exact HB.out), by repeat (first | (with_reducible first | exact HK.out | apply Kept.alloc | apply Kept.drewN | apply Kept.drew) | exact HK.out)⟩
        · rw [if_neg c6] at H
          exact absurd H (by simp)

/-! ### wire_PutUint: function 11 -/
def wire_PutUint.f (k : Nat) (a0 : Int) : Option (ByteArray) := (wire_put.f k ([] : List Int) a0).bind fun t107 => (some (strOfNums t107))
theorem wire_PutUint.mono : ∀ a0 k, LeO (wire_PutUint.f k a0) (wire_PutUint.f (k + 1) a0) := by
  intro a0 k
  unfold wire_PutUint.f
  repeat' first
      | (with_reducible exact wire_put.mono _ _ _)
      | (with_reducible exact LeO.refl _)
      | (with_reducible exact LeO.none _)
      | (with_reducible refine LeO.ite ?_ ?_)
      | (with_reducible refine LeO.bind ?_ (fun _ => ?_))
      | exact wire_put.mono _ _ _
      | exact LeO.none _
      | refine LeO.ite ?_ ?_
      | refine LeO.bind ?_ (fun _ => ?_)
set_option maxHeartbeats 8000000 in
set_option maxRecDepth 100000 in
theorem wire_PutUint.calls (k : Nat) (a0 : Int) (r : ByteArray) (w : World) (h : wire_PutUint.f k a0 = some r) :
    Calls Try.prog 11 #[.int .u64 a0] w fun e w' => e = .returned (.string r) ∧ Below w.heap.size w w' := by
  have HB := Aside0.mk (Below.refl w.heap.size w)
  have H : ((wire_put.f k ([] : List Int) a0).bind fun t107 => (some (strOfNums t107))) = some r := h
  clear h
  replace H := Option.bind_eq_some_iff.mp H
  obtain ⟨t107, A20, H⟩ := H
  replace H : (some (strOfNums t107)) = some r := H
  have A2 := Aside0.mk A20
  clear A20
  obtain rfl := Option.some.inj H
  go_enter Try.func11, Try.ntmps11
  go_wp2_with (first | ((with_reducible refine gate_callee (f := 30) rfl ?_); refine goesL_ (some 4) rfl rfl Try.func30 (by kernel_rfl) rfl #[.slice none 0 0, .int .u64 a0] rfl (by (try simp only [List.map_toArray, List.map_cons, List.map_nil]); first | done | rfl | (simp only [List.length_drop, List.length_take]; rfl)) ?_; (refine (wire_put.calls k (fun k_ => some k_ = (.slice none 0 0 : Value).ownBlock) (.slice none 0 0) ([] : List Int) a0 t107 w _ ?side1 ?side2 A2.out).mono ?_); (case side1 => repeat (first | (with_reducible first | exact HB.out | apply below_alloc | apply pw_below_drewN | apply below_drew1) | exact HB.out)); (case side2 => exact Kd.R_nil _ _ _ _ _); rintro e w3 ⟨v108, rfl, ho0, hb, hkp⟩; refine ⟨_, rfl, ?_⟩; have n0_ := Aside0.mk (Kd.R_mono (ok' := fun k_ => True) ho0 (fun k_ hk_ => trivial)); have n1_ := Aside0.mk (hb); clear HB; have HO109 := n0_; have HB := n1_; clear n0_ n1_; (try clear hb); (try clear hkp); (try clear ho0); have hcv4 := own_string (P := Try.prog) Try.underlying50 Try.underlying5 Try.underlying9 (Kd.own_of_R HO109.out)))
  go_ret
  exact ⟨by first | rfl | (simp [errW_none, errW_some] <;> rfl) | (simp [*, errW_none, errW_some] <;> rfl), by repeat (first | (with_reducible first | exact HB.out | apply below_alloc | apply pw_below_drewN | apply below_drew1) | exact HB.out)⟩

/-! ### wire_PutText: function 13 -/
-- GIVEN: written by hand (the bound on the sum lets the walk strike a wrap)
def wire_PutText.f (k : Nat) (a0 : ByteArray) : Option (ByteArray) := (wire_PutUint.f k (IntKind.u64.wrap ((a0.size : Int)))).bind fun t => (if t.size + a0.size ≤ 9223372036854775807 then (some (t ++ a0)) else (none))
theorem wire_PutText.mono : ∀ a0 k, LeO (wire_PutText.f k a0) (wire_PutText.f (k + 1) a0) := by
  intro a0 k
  unfold wire_PutText.f
  exact LeO.bind (wire_PutUint.mono _ _) (fun _ => LeO.refl _)
set_option maxHeartbeats 8000000 in
set_option maxRecDepth 100000 in
theorem wire_PutText.calls (k : Nat) (a0 : ByteArray) (r : ByteArray) (w : World) (h : wire_PutText.f k a0 = some r) :
    Calls Try.prog 13 #[.string a0] w fun e w' => e = .returned (.string r) ∧ Below w.heap.size w w' := by
  unfold wire_PutText.f at h
  obtain ⟨t, A20, H⟩ := Option.bind_eq_some_iff.mp h
  clear h
  by_cases c1 : t.size + a0.size ≤ 9223372036854775807
  case neg => rw [if_neg c1] at H; exact absurd H (by simp)
  rw [if_pos c1] at H
  obtain rfl := Option.some.inj H
  have A2 := Aside0.mk A20
  have C1 := Aside0.mk c1
  clear A20 H c1
  go_enter Try.func13, Try.ntmps13
  go_wp2_with (go_at_call 11; (with_reducible refine (wire_PutUint.calls k (IntKind.u64.wrap ((a0.size : Int))) t _ A2.out).mono ?_); rintro e w1 ⟨rfl, hb1⟩; have c1 := C1.out; have c1b := eq_true c1; have c1c : decide (t.size + a0.size ≤ 9223372036854775807) = true := decide_eq_true c1)
  go_ret
  exact ⟨rfl, hb1⟩

/-! ### wire_PutNums: function 15 -/
def wire_PutNums.l0 : Nat → List Int → List Int → Int → Int → Option (ByteArray)
  | 0, _, _, _, _ => none
  | k + 1, x3, x10, x11, x12 => if x12 < x11 then (if 0 ≤ x12 then (if x12 < (x10.length : Int) then ((wire_put.f k x3 (rd x10 x12)).bind fun t115 => (wire_PutNums.l0 k t115 x10 x11 (wrap64 (x12 + 1)))) else (none)) else (none)) else (some (strOfNums x3))
def wire_PutNums.f (k : Nat) (l0 : List Int) : Option (ByteArray) := (wire_put.f k ([] : List Int) (IntKind.u64.wrap ((l0.length : Int)))).bind fun t111 => (wire_PutNums.l0 k t111 l0 (l0.length : Int) 0)
theorem wire_PutNums.mono_l : ∀ k, (∀ y0 y1 y2 y3, LeO (wire_PutNums.l0 k y0 y1 y2 y3) (wire_PutNums.l0 (k + 1) y0 y1 y2 y3))
  | 0 => fun _ _ _ _ r h => by simp [wire_PutNums.l0] at h
  | k + 1 => by
    have ih0 := wire_PutNums.mono_l k
    · intro y0 y1 y2 y3
      unfold wire_PutNums.l0
      repeat' first
      | (with_reducible exact ih0 _ _ _ _)
      | (with_reducible exact wire_put.mono _ _ _)
      | (with_reducible exact LeO.refl _)
      | (with_reducible exact LeO.none _)
      | (with_reducible refine LeO.ite ?_ ?_)
      | (with_reducible refine LeO.bind ?_ (fun _ => ?_))
      | exact ih0 _ _ _ _
      | exact wire_put.mono _ _ _
      | exact LeO.none _
      | refine LeO.ite ?_ ?_
      | refine LeO.bind ?_ (fun _ => ?_)
theorem wire_PutNums.mono : ∀ a0 k, LeO (wire_PutNums.f k a0) (wire_PutNums.f (k + 1) a0) := by
  intro a0 k
  have ih0 := wire_PutNums.mono_l k
  unfold wire_PutNums.f
  repeat' first
      | (with_reducible exact ih0 _ _ _ _)
      | (with_reducible exact wire_put.mono _ _ _)
      | (with_reducible exact LeO.refl _)
      | (with_reducible exact LeO.none _)
      | (with_reducible refine LeO.ite ?_ ?_)
      | (with_reducible refine LeO.bind ?_ (fun _ => ?_))
      | exact ih0 _ _ _ _
      | exact wire_put.mono _ _ _
      | exact LeO.none _
      | refine LeO.ite ?_ ?_
      | refine LeO.bind ?_ (fun _ => ?_)
set_option maxHeartbeats 8000000 in
set_option maxRecDepth 100000 in
theorem wire_PutNums.calls (k : Nat) (A0 : Option Addr) (c0 : Nat) (l0 : List Int) (r : ByteArray) (w : World) (hr0 : Kd.C (Kd.int .u64) w A0 l0.length l0) (hc0 : l0.length ≤ c0) (h : wire_PutNums.f k l0 = some r) :
    Calls Try.prog 15 #[.slice A0 l0.length c0] w fun e w' => e = .returned (.string r) ∧ Below w.heap.size w w' := by
  have HR0 := Aside0.mk hr0
  have HC0 := Aside0.mk hc0
  clear hr0 hc0
  have HB := Aside0.mk (Below.refl w.heap.size w)
  have H : ((wire_put.f k ([] : List Int) (IntKind.u64.wrap ((l0.length : Int)))).bind fun t111 => (wire_PutNums.l0 k t111 l0 (l0.length : Int) 0)) = some r := h
  clear h
  replace H := Option.bind_eq_some_iff.mp H
  obtain ⟨t111, A20, H⟩ := H
  replace H : (wire_PutNums.l0 k t111 l0 (l0.length : Int) 0) = some r := H
  have A2 := Aside0.mk A20
  clear A20
  have H' := Aside0.mk H
  clear H
  go_enter Try.func15, Try.ntmps15
  go_wp2_with (first | ((with_reducible refine gate_callee (f := 30) rfl ?_); refine goesL_ (some 9) rfl rfl Try.func30 (by kernel_rfl) rfl #[.slice none 0 0, .int .u64 (IntKind.u64.wrap ((l0.length : Int)))] rfl (by (try simp only [List.map_toArray, List.map_cons, List.map_nil]); first | done | rfl | (simp only [List.length_drop, List.length_take]; rfl)) ?_; (refine (wire_put.calls k (fun k_ => some k_ = (.slice none 0 0 : Value).ownBlock) (.slice none 0 0) ([] : List Int) (IntKind.u64.wrap ((l0.length : Int))) t111 w _ ?side1 ?side2 A2.out).mono ?_); (case side1 => repeat (first | (with_reducible first | exact HB.out | apply below_alloc | apply pw_below_drewN | apply below_drew1) | exact HB.out)); (case side2 => exact Kd.R_nil _ _ _ _ _); rintro e w3 ⟨v112, rfl, ho0, hb, hkp⟩; refine ⟨_, rfl, ?_⟩; have n0_ := Aside0.mk (Kd.R_mono (ok' := fun k_ => True) ho0 (fun k_ hk_ => trivial)); have n1_ := Aside0.mk (hb); clear HB; have HO113 := n0_; have HB := n1_; clear n0_ n1_; (try clear hb); (try clear hkp); (try clear ho0)))
  go_loopg [3, 12] k (fun kq v3 v12 w' => ∃ (x3_1 : List Int) (x12_1 : Int), v12 = .int .i64 x12_1 ∧ Aside0 (wire_PutNums.l0 kq x3_1 l0 (l0.length : Int) x12_1 = some r) ∧ Aside0 (kq ≤ k) ∧ Aside0 (Kd.R (Kd.int .u8) 5 w' w.heap.size (fun _ => True) v3 x3_1) ∧ Aside0 (Below w.heap.size w w'))
  case atStart => exact ⟨(t111), (0), (by first | rfl | (simp; done) | (simp [*]; done)), H', ⟨Nat.le_refl _⟩, ⟨by (with_reducible repeat (first | apply Kd.R_alloc | apply Kd.R_drewN | apply Kd.R_drew)); exact HO113.out⟩, ⟨by repeat (first | (with_reducible first | exact HB.out | apply below_alloc | apply pw_below_drewN | apply below_drew1) | exact HB.out)⟩⟩
  case round =>
    clear H'
    try clear c1
    try clear p2
    try clear c3
    obtain ⟨x3_1, x12_1, rfl, HA, HK1, HO_3, HB⟩ := hrel
    cases gk with
    | zero => exact absurd HA.out (by simp [wire_PutNums.l0])
    | succ k1 =>
      have H := HA.out
      clear HA
      simp only [wire_PutNums.l0] at H
      by_cases c4 : x12_1 < (l0.length : Int)
      · rw [if_pos c4] at H
        have c4b0 : decide (x12_1 < (l0.length : Int)) = true := decide_eq_true c4
        clear c4
        by_cases c5 : 0 ≤ x12_1
        · rw [if_pos c5] at H
          have c5b0 : decide (0 ≤ x12_1) = true := decide_eq_true c5
          clear c5
          by_cases c6 : x12_1 < (l0.length : Int)
          · rw [if_pos c6] at H
            have c6b0 : decide (x12_1 < (l0.length : Int)) = true := decide_eq_true c6
            clear c6
            replace H := Option.bind_eq_some_iff.mp H
            obtain ⟨t115, A70, H⟩ := H
            replace H : (wire_PutNums.l0 k1 t115 l0 (l0.length : Int) (wrap64 (x12_1 + 1))) = some r := H
            have A7 := Aside0.mk A70
            clear A70
            have H' := Aside0.mk H
            clear H
            have p114 : 0 ≤ (x12_1 : Int) := of_decide_eq_true (by first | (with_reducible assumption) | assumption)
            have q114 : x12_1 < (l0.length : Int) := of_decide_eq_true (by first | (with_reducible assumption) | assumption)
            obtain ⟨ad114, e114, hx114_0⟩ := Kd.at_int HR0.out x12_1 p114 q114
            cases e114
            replace hx114_0 := (HB.out.cell (World.block_lt_of_cell? w _ hx114_0)).trans hx114_0
            replace p114 := eq_true p114
            replace q114 := eq_true q114
            obtain ⟨Ao8, co8, eo8⟩ := Kd.R_slice HO_3.out
            subst eo8
            go_wp2_with (first | ((with_reducible refine gate_callee (f := 30) rfl ?_); refine goesL_ (some 18) rfl rfl Try.func30 (by kernel_rfl) rfl #[.slice Ao8 x3_1.length co8, .int .u64 (rd l0 x12_1)] rfl (by (try simp only [List.map_toArray, List.map_cons, List.map_nil]); first | done | rfl | (simp only [List.length_drop, List.length_take]; rfl)) ?_; (with_reducible refine (wire_put.calls k1 (fun k_ => some k_ = (.slice Ao8 x3_1.length co8 : Value).ownBlock) (.slice Ao8 x3_1.length co8) x3_1 (rd l0 x12_1) t115 w _ ?side1 ?side2 A7.out).mono ?_); (case side1 => repeat (first | (with_reducible first | exact HB.out | apply below_alloc | apply pw_below_drewN | apply below_drew1) | exact HB.out)); (case side2 => exact Kd.R_tight rfl HO_3.out); rintro e w9 ⟨v116, rfl, ho0, hb, hkp⟩; refine ⟨_, rfl, ?_⟩; have n0_ := Aside0.mk (Kd.R_mono (ok' := fun k_ => True) ho0 (fun k_ hk_ => trivial)); have n1_ := Aside0.mk (hb); clear HB; clear HO_3; have HO117 := n0_; have HB := n1_; clear n0_ n1_; (try clear hb); (try clear hkp); (try clear ho0)))
            go_roundg k1
            case measure => have := HK1.out; omega
            case rel => exact ⟨(t115), (wrap64 (x12_1 + 1)), (by first | rfl | (simp; done) | (simp [*]; done)), H', ⟨by have := HK1.out; omega⟩, ⟨by (with_reducible repeat (first | apply Kd.R_alloc | apply Kd.R_drewN | apply Kd.R_drew)); exact HO117.out⟩, ⟨by repeat (first | (with_reducible first | exact HB.out | apply below_alloc | apply pw_below_drewN | apply below_drew1) | exact HB.out)⟩⟩
          · rw [if_neg c6] at H
            exact absurd H (by simp)
        · rw [if_neg c5] at H
          exact absurd H (by simp)
      · rw [if_neg c4] at H
        have c4b0 : decide (x12_1 < (l0.length : Int)) = false := decide_eq_false c4
        clear c4
        obtain rfl := Option.some.inj H
        have hcv10 := own_string (P := Try.prog) Try.underlying50 Try.underlying5 Try.underlying9 (Kd.own_of_R HO_3.out)
        go_wp2
        go_ret
        exact ⟨by first | rfl | (simp [errW_none, errW_some] <;> rfl) | (simp [*, errW_none, errW_some] <;> rfl), by repeat (first | (with_reducible first | exact HB.out | apply below_alloc | apply pw_below_drewN | apply below_drew1) | exact HB.out)⟩

-- NOT PRINTED: function 35 (abi_NoEscape)

-- NOT PRINTED: function 34 (strings_Builder_copyCheck)

-- NOT PRINTED: function 31 (strings_Builder_WriteString)

-- NOT PRINTED: function 32 (strings_Builder_String)

/-! ### wire_PutList: function 17 -/
-- GIVEN: written by hand (a strings.Builder)
def wire_PutList.go (k : Nat) : List ByteArray → ByteArray → Option ByteArray
  | [], acc => some acc
  | s :: t, acc => (wire_PutText.f k s).bind fun x => if acc.size + x.size ≤ 140737488355328 then wire_PutList.go k t (acc ++ x) else none
def wire_PutList.f (k : Nat) (l0 : List ByteArray) : Option (ByteArray) := (wire_PutUint.f k (IntKind.u64.wrap ((l0.length : Int)))).bind fun t => if t.size ≤ 140737488355328 then wire_PutList.go k l0 t else none
theorem wire_PutList.mono_go (k : Nat) : ∀ l acc, LeO (wire_PutList.go k l acc) (wire_PutList.go (k + 1) l acc)
  | [], acc => LeO.refl _
  | s :: t, acc => by
    unfold wire_PutList.go
    refine LeO.bind (wire_PutText.mono _ _) (fun _ => ?_)
    refine LeO.ite (wire_PutList.mono_go k _ _) (LeO.refl _)
theorem wire_PutList.mono : ∀ a0 k, LeO (wire_PutList.f k a0) (wire_PutList.f (k + 1) a0) := by
  intro a0 k
  unfold wire_PutList.f
  refine LeO.bind (wire_PutUint.mono _ _) (fun _ => ?_)
  exact LeO.ite (wire_PutList.mono_go k _ _) (LeO.refl _)
theorem byteCells_append (a b : ByteArray) : Lib.byteCells a.data.toList ++ Lib.strCells b = Lib.byteCells (a ++ b).data.toList := by
  unfold Lib.byteCells Lib.strCells
  rw [show (a ++ b).data.toList = a.data.toList ++ b.data.toList from by simp [ByteArray.data_append]]
  rw [List.map_append]
set_option maxHeartbeats 8000000 in
set_option maxRecDepth 100000 in
theorem wire_PutList.calls (k : Nat) (A0 : Option Addr) (c0 : Nat) (l0 : List ByteArray) (r : ByteArray) (w : World) (hr0 : Kd.C Kd.string w A0 l0.length l0) (hc0 : l0.length ≤ c0) (h : wire_PutList.f k l0 = some r) :
    Calls Try.prog 17 #[.slice A0 l0.length c0] w fun e w' => e = .returned (.string r) ∧ Below w.heap.size w w' := by
  have HR0 := Aside0.mk hr0
  have HC0 := Aside0.mk hc0
  clear hr0 hc0
  unfold wire_PutList.f at h
  obtain ⟨t1, A20, H⟩ := Option.bind_eq_some_iff.mp h
  clear h
  by_cases c1 : t1.size ≤ 140737488355328
  case neg => rw [if_neg c1] at H; exact absurd H (by simp)
  rw [if_pos c1] at H
  have A2 := Aside0.mk A20
  have H' := Aside0.mk H
  have C1 := Aside0.mk c1
  clear A20 H c1
  go_enter Try.func17, Try.ntmps17
  go_wp2_with (go_at_call 11; (with_reducible refine (wire_PutUint.calls k (IntKind.u64.wrap ((l0.length : Int))) t1 _ A2.out).mono ?_); rintro e w1 ⟨rfl, hb1⟩)
  obtain ⟨hI, HB⟩ : Aside0 (Lib.IsBuilder 54 5 w.heap.size w.heap.size [] w1) ∧ Aside0 (Below w.heap.size w w1) := by
    have hf := Lib.fresh_isBuilder 54 5 w
    have hsz : (w.alloc (.cells #[.pointer none, .slice none 0 0] 54)).heap.size = w.heap.size + 1 := by simp
    refine ⟨⟨?_⟩, ⟨?_⟩⟩
    · rcases hf with ⟨h1, v, h2, h3, h4⟩ | ⟨h1, v, h2, h3, h4⟩
      · exact .inl ⟨h1, v, (hb1.block _ (by omega)).trans h2, pw_own_below h3 hb1, h4⟩
      · exact .inr ⟨h1, v, (hb1.block _ (by omega)).trans h2, pw_own_below h3 hb1, h4⟩
    · exact below_then (below_alloc (Below.refl _ _) _) (by omega) hb1
  clear hb1
  go_wp2_with (go_at_call 31; (refine (Bld.WriteString w.heap.size w.heap.size [] t1 w1 hI.out ?side1 ?side2).mono ?_); (case side1 => have := C1.out; simp; omega); (case side2 => exact HB.out.size); rintro e w2 ⟨rfl, h1, hb2⟩; have n0_ := Aside0.mk (Or.inr h1 : Lib.IsBuilder 54 5 w.heap.size w.heap.size _ w2); have n1_ := Aside0.mk (HB.out.trans hb2); clear h1 hb2 hI HB; have hI := n0_; have HB := n1_; clear n0_ n1_)
  have hI2 : Aside0 (Lib.IsBuilder 54 5 w.heap.size w.heap.size (Lib.byteCells t1.data.toList) w2) := hI
  clear hI
  go_loopg [13] l0.length (fun kq v13 w' => ∃ (i : Nat) (acc : ByteArray), v13 = .int .i64 (i : Int) ∧ Aside0 (i + kq = l0.length) ∧ Aside0 (wire_PutList.go k (l0.drop i) acc = some r) ∧ Aside0 (acc.size ≤ 140737488355328) ∧ Aside0 (Lib.IsBuilder 54 5 w.heap.size w.heap.size (Lib.byteCells acc.data.toList) w') ∧ Aside0 (Below w.heap.size w w'))
  case atStart => exact ⟨0, t1, rfl, ⟨by omega⟩, ⟨by simpa using H'.out⟩, C1, hI2, HB⟩
  case round =>
    clear H' hI2 HB C1
    obtain ⟨i, acc, rfl, HI, HA, HS, hI, HB⟩ := hrel
    cases gk with
    | zero =>
      have hi := HI.out
      have c4b0 : decide ((i : Int) < (l0.length : Int)) = false := decide_eq_false (by omega)
      have c4b1 : decide (i < l0.length) = false := decide_eq_false (by omega)
      have hA := HA.out
      rw [List.drop_of_length_le (by omega)] at hA
      obtain rfl := Option.some.inj hA
      have HI' := HI
      clear hi hA HI HA
      go_wp2_with (go_at_call 32; (refine (Bld.String_any w.heap.size w.heap.size acc.data.toList _ hI.out HB.out.size).mono ?_); rintro e w2 ⟨rfl, hb2⟩)
      go_ret
      exact ⟨rfl, HB.out.trans hb2⟩
    | succ k1 =>
      have hi := HI.out
      have hlt : i < l0.length := by omega
      have c4b0 : decide ((i : Int) < (l0.length : Int)) = true := decide_eq_true (by omega)
      have c4b1 : decide (i < l0.length) = true := decide_eq_true (by omega)
      have hA := HA.out
      rw [List.drop_eq_getElem_cons hlt] at hA
      obtain ⟨s, hs⟩ : ∃ s, s = l0[i] := ⟨_, rfl⟩
      rw [← hs] at hA
      simp only [wire_PutList.go] at hA
      obtain ⟨x, X0, hA⟩ := Option.bind_eq_some_iff.mp hA
      by_cases c5 : acc.size + x.size ≤ 140737488355328
      case neg => rw [if_neg c5] at hA; exact absurd hA (by simp)
      rw [if_pos c5] at hA
      obtain ⟨ad, e5, hx⟩ := Kd.at_string HR0.out (i : Int) (by omega) (by omega)
      cases e5
      rw [show rdOf ByteArray.empty l0 (i : Int) = l0[i] from by unfold rdOf; rw [Int.toNat_natCast, List.getD_eq_getElem?_getD, List.getElem?_eq_getElem hlt, Option.getD_some]] at hx
      replace hx := (HB.out.cell (World.block_lt_of_cell? w _ hx)).trans hx
      rw [← hs, Int.toNat_natCast] at hx
      have X := Aside0.mk X0
      have C5 := Aside0.mk c5
      have HA' := Aside0.mk hA
      have p1 : (0 : Int) ≤ (i : Int) := by omega
      have p2 : (i : Int) < (l0.length : Int) := by omega
      clear hs
      clear hA X0 c5 hi hlt HA
      go_wp2_with (first | (go_at_call 13; (with_reducible refine (wire_PutText.calls k s x _ X.out).mono ?_); rintro e w3 ⟨rfl, hb3⟩; have n0_ := Aside0.mk (by rcases hI.out with ⟨h1, v, h2, h3, h4⟩ | ⟨h1, v, h2, h3, h4⟩; exact .inl ⟨h1, v, (hb3.block _ (Lib.BuilderAt.lt ⟨h1, v, h2, h3, h4⟩)).trans h2, pw_own_below h3 hb3, h4⟩; exact .inr ⟨h1, v, (hb3.block _ (Lib.BuilderAt.lt ⟨h1, v, h2, h3, h4⟩)).trans h2, pw_own_below h3 hb3, h4⟩ : Lib.IsBuilder 54 5 w.heap.size w.heap.size (Lib.byteCells acc.data.toList) w3); have n1_ := Aside0.mk (below_then HB.out HB.out.size hb3); clear hb3 hI HB; have hI := n0_; have HB := n1_; clear n0_ n1_) | (go_at_call 31; (refine (Bld.WriteString w.heap.size w.heap.size (Lib.byteCells acc.data.toList) x _ hI.out ?side1 ?side2).mono ?_); (case side1 => have := C5.out; rw [Lib.byteCells_length]; simpa using this); (case side2 => exact HB.out.size); rintro e w4 ⟨rfl, h1, hb2⟩; have n0_ := Aside0.mk (Or.inr h1 : Lib.IsBuilder 54 5 w.heap.size w.heap.size _ w4); have n1_ := Aside0.mk (HB.out.trans hb2); clear h1 hb2 hI HB; have hI := n0_; have HB := n1_; clear n0_ n1_))
      go_roundg k1
      case measure => omega
      case rel =>
        refine ⟨i + 1, acc ++ x, by (have h1 := HR0.out.2.1; have h2 := HI.out; rw [show wrap64 ((i : Int) + 1) = ((i + 1 : Nat) : Int) from by unfold wrap64; omega]), ⟨by have := HI.out; omega⟩, HA', ⟨by have := C5.out; simpa using this⟩, ⟨by rw [← byteCells_append]; exact hI.out⟩, HB⟩

/-! ### wire_TakeUint: function 23 -/
mutual
def wire_TakeUint.l0 : Nat → ByteArray → Int → Int → Int → Option (Int × ByteArray × Bool)
  | 0, _, _, _, _ => none
  | k + 1, x0, x5, x9, x10 => if x10 < x9 then (if 0 ≤ x10 then (if x10 < (x0.size : Int) then (if x10 = 9 then (wire_TakeUint.j1 k x0 x5 x10 (bt x0 x10) x9 x10 (decide ((bt x0 x10) > 1))) else (wire_TakeUint.j1 k x0 x5 x10 (bt x0 x10) x9 x10 false)) else (none)) else (none)) else (some (0, (⟨#[]⟩ : ByteArray), false))
def wire_TakeUint.j1 : Nat → ByteArray → Int → Int → Int → Int → Int → Bool → Option (Int × ByteArray × Bool)
  | 0, _, _, _, _, _, _, _ => none
  | k + 1, x0, x5, x6, x7, x9, x10, x21 => if x21 = true then (some (0, (⟨#[]⟩ : ByteArray), false)) else (if 0 ≤ (wrap64 (7 * x6)) then (if x7 < 128 then (if x7 = 0 then (if x6 > 0 then (some (0, (⟨#[]⟩ : ByteArray), false)) else (if 0 ≤ (wrap64 (x6 + 1)) then (if (wrap64 (x6 + 1)) ≤ (x0.size : Int) then (some (Go.bits .or .u64 x5 (shl .u64 (IntKind.u64.wrap (Go.bits .and .u8 x7 127)) (wrap64 (7 * x6))), x0.extract ((wrap64 (x6 + 1)) : Int).toNat x0.size, true)) else (none)) else (none))) else (if 0 ≤ (wrap64 (x6 + 1)) then (if (wrap64 (x6 + 1)) ≤ (x0.size : Int) then (some (Go.bits .or .u64 x5 (shl .u64 (IntKind.u64.wrap (Go.bits .and .u8 x7 127)) (wrap64 (7 * x6))), x0.extract ((wrap64 (x6 + 1)) : Int).toNat x0.size, true)) else (none)) else (none))) else (wire_TakeUint.l0 k x0 (Go.bits .or .u64 x5 (shl .u64 (IntKind.u64.wrap (Go.bits .and .u8 x7 127)) (wrap64 (7 * x6)))) x9 (wrap64 (x10 + 1)))) else (none))
end
def wire_TakeUint.f (k : Nat) (a0 : ByteArray) : Option (Int × ByteArray × Bool) := wire_TakeUint.l0 k a0 0 (a0.size : Int) 0
theorem wire_TakeUint.mono_l : ∀ k, (∀ y0 y1 y2 y3, LeO (wire_TakeUint.l0 k y0 y1 y2 y3) (wire_TakeUint.l0 (k + 1) y0 y1 y2 y3)) ∧ (∀ y0 y1 y2 y3 y4 y5 y6, LeO (wire_TakeUint.j1 k y0 y1 y2 y3 y4 y5 y6) (wire_TakeUint.j1 (k + 1) y0 y1 y2 y3 y4 y5 y6))
  | 0 => ⟨fun _ _ _ _ r h => by simp [wire_TakeUint.l0] at h, fun _ _ _ _ _ _ _ r h => by simp [wire_TakeUint.j1] at h⟩
  | k + 1 => by
    obtain ⟨ih0, ih1⟩ := wire_TakeUint.mono_l k
    refine ⟨?_, ?_⟩
    · intro y0 y1 y2 y3
      unfold wire_TakeUint.l0
      repeat' first
      | (with_reducible exact ih0 _ _ _ _)
      | (with_reducible exact ih1 _ _ _ _ _ _ _)
      | (with_reducible exact LeO.refl _)
      | (with_reducible exact LeO.none _)
      | (with_reducible refine LeO.ite ?_ ?_)
      | (with_reducible refine LeO.bind ?_ (fun _ => ?_))
      | exact ih0 _ _ _ _
      | exact ih1 _ _ _ _ _ _ _
      | exact LeO.none _
      | refine LeO.ite ?_ ?_
      | refine LeO.bind ?_ (fun _ => ?_)
    · intro y0 y1 y2 y3 y4 y5 y6
      unfold wire_TakeUint.j1
      repeat' first
      | (with_reducible exact ih0 _ _ _ _)
      | (with_reducible exact ih1 _ _ _ _ _ _ _)
      | (with_reducible exact LeO.refl _)
      | (with_reducible exact LeO.none _)
      | (with_reducible refine LeO.ite ?_ ?_)
      | (with_reducible refine LeO.bind ?_ (fun _ => ?_))
      | exact ih0 _ _ _ _
      | exact ih1 _ _ _ _ _ _ _
      | exact LeO.none _
      | refine LeO.ite ?_ ?_
      | refine LeO.bind ?_ (fun _ => ?_)
theorem wire_TakeUint.mono : ∀ a0 k, LeO (wire_TakeUint.f k a0) (wire_TakeUint.f (k + 1) a0) := by
  intro a0 k
  obtain ⟨ih0, ih1⟩ := wire_TakeUint.mono_l k
  unfold wire_TakeUint.f
  repeat' first
      | (with_reducible exact ih0 _ _ _ _)
      | (with_reducible exact ih1 _ _ _ _ _ _ _)
      | (with_reducible exact LeO.refl _)
      | (with_reducible exact LeO.none _)
      | (with_reducible refine LeO.ite ?_ ?_)
      | (with_reducible refine LeO.bind ?_ (fun _ => ?_))
      | exact ih0 _ _ _ _
      | exact ih1 _ _ _ _ _ _ _
      | exact LeO.none _
      | refine LeO.ite ?_ ?_
      | refine LeO.bind ?_ (fun _ => ?_)
set_option maxHeartbeats 8000000 in
set_option maxRecDepth 100000 in
theorem wire_TakeUint.calls (k : Nat) (a0 : ByteArray) (r1 : Int) (r2 : ByteArray) (r3 : Bool) (w : World) (h : wire_TakeUint.f k a0 = some (r1, r2, r3)) :
    Calls Try.prog 23 #[.string a0] w fun e w' => e = .returned (.tuple #[.int .u64 r1, .string r2, .bool r3]) ∧ Drawn0 w w' := by
  have H : (wire_TakeUint.l0 k a0 0 (a0.size : Int) 0) = some (r1, r2, r3) := h
  clear h
  have H' := Aside0.mk H
  clear H
  go_enter Try.func23, Try.ntmps23
  go_wp2
  repeat (go_quiet (fail); try go_wp2)
  go_loopg [5, 10] k (fun kq v5 v10 w' => ∃ (x5_1 : Int) (x10_1 : Int), v5 = .int .u64 x5_1 ∧ v10 = .int .i64 x10_1 ∧ Aside0 (wire_TakeUint.l0 kq a0 x5_1 (a0.size : Int) x10_1 = some (r1, r2, r3)) ∧ Aside0 (kq ≤ k) ∧ Drawn0 w w')
  case atStart => exact ⟨(0), (0), (by first | rfl | (simp; done) | (simp [*]; done)), (by first | rfl | (simp; done) | (simp [*]; done)), H', ⟨Nat.le_refl _⟩, by repeat (first | exact Drawn0.refl _ | apply Drawn0.step)⟩
  case round =>
    clear H'
    obtain ⟨x5_1, x10_1, rfl, rfl, HA, HK1, ⟨m1, rfl⟩⟩ := hrel
    cases gk with
    | zero => exact absurd HA.out (by simp [wire_TakeUint.l0])
    | succ k1 =>
      have H := HA.out
      clear HA
      simp only [wire_TakeUint.l0] at H
      by_cases c2 : x10_1 < (a0.size : Int)
      · rw [if_pos c2] at H
        have c2b0 : decide (x10_1 < (a0.size : Int)) = true := decide_eq_true c2
        clear c2
        by_cases c3 : 0 ≤ x10_1
        · rw [if_pos c3] at H
          have c3b0 : decide (0 ≤ x10_1) = true := decide_eq_true c3
          clear c3
          by_cases c4 : x10_1 < (a0.size : Int)
          · rw [if_pos c4] at H
            have c4b0 : decide (x10_1 < (a0.size : Int)) = true := decide_eq_true c4
            clear c4
            have HC6 := Aside0.mk H
            clear H
            have p5 : 0 ≤ (x10_1 : Int) := of_decide_eq_true (by first | (with_reducible assumption) | assumption)
            have q5 : x10_1 < (a0.size : Int) := of_decide_eq_true (by first | (with_reducible assumption) | assumption)
            have hx5 := bt_at a0 x10_1
            replace p5 := eq_true p5
            replace q5 := eq_true q5
            go_upto_region 6 with (fail)
            repeat (go_quiet (fail); go_upto_region 6 with (fail))
            go_cut [21] (fun v21 wc => ∃ (kq : Nat) (x21_5 : Bool), v21 = .bool x21_5 ∧ Aside0 (wire_TakeUint.j1 kq a0 x5_1 x10_1 (bt a0 x10_1) (a0.size : Int) x10_1 x21_5 = some (r1, r2, r3)) ∧ Aside0 (kq ≤ k1) ∧ Drawn0 w wc)
            case first =>
              have H := HC6.out
              clear HC6
              by_cases c7 : x10_1 = 9
              · rw [if_pos c7] at H
                have c7b0 : (x10_1 == 9) = true := beq_iff_eq.mpr c7
                have c7b1 : (x10_1 != 9) = false := bne_eq_false_iff_eq.mpr c7
                clear c7
                (first | rw [c7b0] | (simp only [i64_w, i32_w]; rw [c7b0]) | skip)
                have H' := Aside0.mk H
                clear H
                go_wp2
                repeat (go_quiet (fail); try go_wp2)
                go_meet
                case rel => exact ⟨_, (decide ((bt a0 x10_1) > 1)), (by first | rfl | (simp; done) | (simp [*]; done)), H', ⟨by have := HK1.out; first | omega | exact Nat.le_refl _⟩, by repeat (first | exact Drawn0.refl _ | apply Drawn0.step)⟩
              · rw [if_neg c7] at H
                have c7b0 : (x10_1 == 9) = false := beq_eq_false_iff_ne.mpr c7
                have c7b1 : (x10_1 != 9) = true := bne_iff_ne.mpr c7
                (first | rw [c7b0] | (simp only [i64_w, i32_w]; rw [c7b0]) | skip)
                have H' := Aside0.mk H
                clear H
                go_wp2
                repeat (go_quiet (fail); try go_wp2)
                go_meet
                case rel => exact ⟨_, (false), (by first | rfl | (simp; done) | (simp [*]; done)), H', ⟨by have := HK1.out; first | omega | exact Nat.le_refl _⟩, by repeat (first | exact Drawn0.refl _ | apply Drawn0.step)⟩
            case rest =>
              clear HC6
              try clear c2
              try clear c2b0
              try clear p2
              try clear c3
              try clear c3b0
              try clear c4
              try clear c4b0
              try clear p5
              try clear q5
              try clear hx5
              try clear c7
              try clear c7b0
              try clear c7b1
              try clear p5
              try clear q5
              obtain ⟨kq, x21_5, rfl, HA, HJ5, ⟨mc5, rfl⟩⟩ := hcut
              cases kq with
              | zero => exact absurd HA.out (by simp [wire_TakeUint.j1])
              | succ kj5 =>
                have H := HA.out
                clear HA
                simp only [wire_TakeUint.j1] at H
                by_cases c8 : x21_5 = true
                · subst c8
                  have H1 : (some (0, (⟨#[]⟩ : ByteArray), false)) = some (r1, r2, r3) := by rw [if_pos rfl] at H; exact H
                  clear H
                  have H := H1
                  clear H1
                  simp only [Option.some.injEq, Prod.mk.injEq] at H
                  obtain ⟨rfl, rfl, rfl⟩ := H
                  go_wp2
                  repeat (go_quiet (fail); try go_wp2)
                  go_ret3
                  exact ⟨by first | rfl | (simp; done) | (simp [*]; done), by repeat (first | exact Drawn0.refl _ | apply Drawn0.step)⟩
                · replace c8 := Bool.eq_false_iff.mpr c8
                  subst c8
                  have H1 : (if 0 ≤ (wrap64 (7 * x10_1)) then (if (bt a0 x10_1) < 128 then (if (bt a0 x10_1) = 0 then (if x10_1 > 0 then (some (0, (⟨#[]⟩ : ByteArray), false)) else (if 0 ≤ (wrap64 (x10_1 + 1)) then (if (wrap64 (x10_1 + 1)) ≤ (a0.size : Int) then (some (Go.bits .or .u64 x5_1 (shl .u64 (IntKind.u64.wrap (Go.bits .and .u8 (bt a0 x10_1) 127)) (wrap64 (7 * x10_1))), a0.extract ((wrap64 (x10_1 + 1)) : Int).toNat a0.size, true)) else (none)) else (none))) else (if 0 ≤ (wrap64 (x10_1 + 1)) then (if (wrap64 (x10_1 + 1)) ≤ (a0.size : Int) then (some (Go.bits .or .u64 x5_1 (shl .u64 (IntKind.u64.wrap (Go.bits .and .u8 (bt a0 x10_1) 127)) (wrap64 (7 * x10_1))), a0.extract ((wrap64 (x10_1 + 1)) : Int).toNat a0.size, true)) else (none)) else (none))) else (wire_TakeUint.l0 kj5 a0 (Go.bits .or .u64 x5_1 (shl .u64 (IntKind.u64.wrap (Go.bits .and .u8 (bt a0 x10_1) 127)) (wrap64 (7 * x10_1)))) (a0.size : Int) (wrap64 (x10_1 + 1)))) else (none)) = some (r1, r2, r3) := by rw [if_neg (show ¬ (false = true) by decide)] at H; exact H
                  clear H
                  have H := H1
                  clear H1
                  obtain ⟨ji9, hji9⟩ : ∃ j_ : Int, (wrap64 (7 * x10_1)) = j_ := ⟨_, rfl⟩
                  replace H : (if 0 ≤ (ji9) then (if (bt a0 x10_1) < 128 then (if (bt a0 x10_1) = 0 then (if x10_1 > 0 then (some (0, (⟨#[]⟩ : ByteArray), false)) else (if 0 ≤ (wrap64 (x10_1 + 1)) then (if (wrap64 (x10_1 + 1)) ≤ (a0.size : Int) then (some (Go.bits .or .u64 x5_1 (shl .u64 (IntKind.u64.wrap (Go.bits .and .u8 (bt a0 x10_1) 127)) (ji9)), a0.extract ((wrap64 (x10_1 + 1)) : Int).toNat a0.size, true)) else (none)) else (none))) else (if 0 ≤ (wrap64 (x10_1 + 1)) then (if (wrap64 (x10_1 + 1)) ≤ (a0.size : Int) then (some (Go.bits .or .u64 x5_1 (shl .u64 (IntKind.u64.wrap (Go.bits .and .u8 (bt a0 x10_1) 127)) (ji9)), a0.extract ((wrap64 (x10_1 + 1)) : Int).toNat a0.size, true)) else (none)) else (none))) else (wire_TakeUint.l0 kj5 a0 (Go.bits .or .u64 x5_1 (shl .u64 (IntKind.u64.wrap (Go.bits .and .u8 (bt a0 x10_1) 127)) (ji9))) (a0.size : Int) (wrap64 (x10_1 + 1)))) else (none)) = some (r1, r2, r3) := by first | (rw [hji9] at H; exact H) | (simp only [hji9] at H ⊢; exact H)
                  have hji9w : (IntKind.i64.wrap (7 * x10_1)) = ji9 := (i64_w _).trans hji9
                  by_cases c10 : 0 ≤ (ji9)
                  · rw [if_pos c10] at H
                    have c10b0 := eq_true c10
                    have c10b1 : decide (0 ≤ (ji9)) = true := decide_eq_true c10
                    clear c10
                    obtain ⟨ji11, hji11⟩ : ∃ j_ : Int, (shl .u64 (IntKind.u64.wrap (Go.bits .and .u8 (bt a0 x10_1) 127)) (ji9)) = j_ := ⟨_, rfl⟩
                    replace H : (if (bt a0 x10_1) < 128 then (if (bt a0 x10_1) = 0 then (if x10_1 > 0 then (some (0, (⟨#[]⟩ : ByteArray), false)) else (if 0 ≤ (wrap64 (x10_1 + 1)) then (if (wrap64 (x10_1 + 1)) ≤ (a0.size : Int) then (some (Go.bits .or .u64 x5_1 (ji11), a0.extract ((wrap64 (x10_1 + 1)) : Int).toNat a0.size, true)) else (none)) else (none))) else (if 0 ≤ (wrap64 (x10_1 + 1)) then (if (wrap64 (x10_1 + 1)) ≤ (a0.size : Int) then (some (Go.bits .or .u64 x5_1 (ji11), a0.extract ((wrap64 (x10_1 + 1)) : Int).toNat a0.size, true)) else (none)) else (none))) else (wire_TakeUint.l0 kj5 a0 (Go.bits .or .u64 x5_1 (ji11)) (a0.size : Int) (wrap64 (x10_1 + 1)))) = some (r1, r2, r3) := by first | (rw [hji11] at H; exact H) | (simp only [hji11] at H ⊢; exact H)
                    have hji11_ : (IntKind.u64.wrap ((IntKind.u64.wrap (Go.bits .and .u8 (bt a0 x10_1) 127)) * 2 ^ min (ji9).toNat 64)) = ji11 := hji11
                    have hji11z : (ji9) ≤ 64 → (IntKind.u64.wrap ((IntKind.u64.wrap (Go.bits .and .u8 (bt a0 x10_1) 127)) * 2 ^ (ji9).toNat)) = ji11 := shl_small hji11
                    by_cases c12 : (bt a0 x10_1) < 128
                    · rw [if_pos c12] at H
                      have c12b0 : decide ((bt a0 x10_1) < 128) = true := decide_eq_true c12
                      clear c12
                      by_cases c13 : (bt a0 x10_1) = 0
                      · rw [if_pos c13] at H
                        have c13b0 : ((bt a0 x10_1) == 0) = true := beq_iff_eq.mpr c13
                        have c13b1 : ((bt a0 x10_1) != 0) = false := bne_eq_false_iff_eq.mpr c13
                        clear c13
                        by_cases c14 : x10_1 > 0
                        · rw [if_pos c14] at H
                          have c14b0 : decide (0 < x10_1) = true := decide_eq_true c14
                          clear c14
                          simp only [Option.some.injEq, Prod.mk.injEq] at H
                          obtain ⟨rfl, rfl, rfl⟩ := H
                          go_wp2
                          repeat (go_quiet (fail); try go_wp2)
                          go_ret3
                          exact ⟨by first | rfl | (simp; done) | (simp only [← hji9, ← hji11] <;> (first | rfl | simp)) | (simp [*]; done), by repeat (first | exact Drawn0.refl _ | apply Drawn0.step)⟩
                        · rw [if_neg c14] at H
                          have c14b0 : decide (0 < x10_1) = false := decide_eq_false c14
                          clear c14
                          obtain ⟨ji15, hji15⟩ : ∃ j_ : Int, (wrap64 (x10_1 + 1)) = j_ := ⟨_, rfl⟩
                          replace H : (if 0 ≤ (ji15) then (if (ji15) ≤ (a0.size : Int) then (some (Go.bits .or .u64 x5_1 (ji11), a0.extract ((ji15) : Int).toNat a0.size, true)) else (none)) else (none)) = some (r1, r2, r3) := by first | (rw [hji15] at H; exact H) | (simp only [hji15] at H ⊢; exact H)
                          have hji15w : (IntKind.i64.wrap (x10_1 + 1)) = ji15 := (i64_w _).trans hji15
                          by_cases c16 : 0 ≤ (ji15)
                          · rw [if_pos c16] at H
                            have c16b0 := eq_true c16
                            have c16b1 : decide (0 ≤ (ji15)) = true := decide_eq_true c16
                            clear c16
                            by_cases c17 : (ji15) ≤ (a0.size : Int)
                            · rw [if_pos c17] at H
                              have c17b0 := eq_true c17
                              have c17b1 : decide ((ji15) ≤ (a0.size : Int)) = true := decide_eq_true c17
                              clear c17
                              simp only [Option.some.injEq, Prod.mk.injEq] at H
                              obtain ⟨rfl, rfl, rfl⟩ := H
                              go_wp2
                              repeat (go_quiet (fail); try go_wp2)
                              go_ret3
                              exact ⟨by first | rfl | (simp; done) | (simp only [← hji9, ← hji11, ← hji15] <;> (first | rfl | simp)) | (simp [*]; done), by repeat (first | exact Drawn0.refl _ | apply Drawn0.step)⟩
                            · rw [if_neg c17] at H
                              exact absurd H (by simp)
                          · rw [if_neg c16] at H
                            exact absurd H (by simp)
                      · rw [if_neg c13] at H
                        have c13b0 : ((bt a0 x10_1) == 0) = false := beq_eq_false_iff_ne.mpr c13
                        have c13b1 : ((bt a0 x10_1) != 0) = true := bne_iff_ne.mpr c13
                        obtain ⟨ji18, hji18⟩ : ∃ j_ : Int, (wrap64 (x10_1 + 1)) = j_ := ⟨_, rfl⟩
                        replace H : (if 0 ≤ (ji18) then (if (ji18) ≤ (a0.size : Int) then (some (Go.bits .or .u64 x5_1 (ji11), a0.extract ((ji18) : Int).toNat a0.size, true)) else (none)) else (none)) = some (r1, r2, r3) := by first | (rw [hji18] at H; exact H) | (simp only [hji18] at H ⊢; exact H)
                        have hji18w : (IntKind.i64.wrap (x10_1 + 1)) = ji18 := (i64_w _).trans hji18
                        by_cases c19 : 0 ≤ (ji18)
                        · rw [if_pos c19] at H
                          have c19b0 := eq_true c19
                          have c19b1 : decide (0 ≤ (ji18)) = true := decide_eq_true c19
                          clear c19
                          by_cases c20 : (ji18) ≤ (a0.size : Int)
                          · rw [if_pos c20] at H
                            have c20b0 := eq_true c20
                            have c20b1 : decide ((ji18) ≤ (a0.size : Int)) = true := decide_eq_true c20
                            clear c20
                            simp only [Option.some.injEq, Prod.mk.injEq] at H
                            obtain ⟨rfl, rfl, rfl⟩ := H
                            go_wp2
                            repeat (go_quiet (fail); try go_wp2)
                            go_ret3
                            exact ⟨by first | rfl | (simp; done) | (simp only [← hji9, ← hji11, ← hji18] <;> (first | rfl | simp)) | (simp [*]; done), by repeat (first | exact Drawn0.refl _ | apply Drawn0.step)⟩
                          · rw [if_neg c20] at H
                            exact absurd H (by simp)
                        · rw [if_neg c19] at H
                          exact absurd H (by simp)
                    · rw [if_neg c12] at H
                      have c12b0 : decide ((bt a0 x10_1) < 128) = false := decide_eq_false c12
                      clear c12
                      have H' := Aside0.mk H
                      clear H
                      go_wp2
                      repeat (go_quiet (fail); try go_wp2)
                      go_roundg kj5
                      case measure => have := HK1.out; have := HJ5.out; omega
                      case rel => exact ⟨(Go.bits .or .u64 x5_1 (ji11)), (wrap64 (x10_1 + 1)), (by first | rfl | (simp; done) | (simp only [← hji11] <;> (first | rfl | simp)) | (simp [*]; done)), (by first | rfl | (simp; done) | (simp [*]; done)), H', ⟨by have := HK1.out; have := HJ5.out; omega⟩, by repeat (first | exact Drawn0.refl _ | apply Drawn0.step)⟩
                  · rw [if_neg c10] at H
                    exact absurd H (by simp)
          · rw [if_neg c4] at H
            exact absurd H (by simp)
        · rw [if_neg c3] at H
          exact absurd H (by simp)
      · rw [if_neg c2] at H
        have c2b0 : decide (x10_1 < (a0.size : Int)) = false := decide_eq_false c2
        clear c2
        simp only [Option.some.injEq, Prod.mk.injEq] at H
        obtain ⟨rfl, rfl, rfl⟩ := H
        go_wp2
        repeat (go_quiet (fail); try go_wp2)
        go_ret3
        exact ⟨by first | rfl | (simp; done) | (simp [*]; done), by repeat (first | exact Drawn0.refl _ | apply Drawn0.step)⟩

/-! ### wire_TakeText: function 20 -/
def wire_TakeText.f (k : Nat) (a0 : ByteArray) (a1 : Int) : Option (ByteArray × ByteArray × Bool) := (wire_TakeUint.f k a0).bind fun bt121 => (if bt121.2.2 = true then (if a1 < 0 then (some ((⟨#[]⟩ : ByteArray), (⟨#[]⟩ : ByteArray), false)) else (if bt121.1 > (IntKind.u64.wrap (a1)) then (some ((⟨#[]⟩ : ByteArray), (⟨#[]⟩ : ByteArray), false)) else (if bt121.1 > (IntKind.u64.wrap ((bt121.2.1.size : Int))) then (some ((⟨#[]⟩ : ByteArray), (⟨#[]⟩ : ByteArray), false)) else (if 0 ≤ bt121.1 then (if bt121.1 ≤ (bt121.2.1.size : Int) then (some (bt121.2.1.extract 0 (bt121.1 : Int).toNat, bt121.2.1.extract (bt121.1 : Int).toNat bt121.2.1.size, true)) else (none)) else (none))))) else (some ((⟨#[]⟩ : ByteArray), (⟨#[]⟩ : ByteArray), false)))
theorem wire_TakeText.mono : ∀ a0 a1 k, LeO (wire_TakeText.f k a0 a1) (wire_TakeText.f (k + 1) a0 a1) := by
  intro a0 a1 k
  unfold wire_TakeText.f
  repeat' first
      | (with_reducible exact wire_TakeUint.mono _ _)
      | (with_reducible exact LeO.refl _)
      | (with_reducible exact LeO.none _)
      | (with_reducible refine LeO.ite ?_ ?_)
      | (with_reducible refine LeO.bind ?_ (fun _ => ?_))
      | exact wire_TakeUint.mono _ _
      | exact LeO.none _
      | refine LeO.ite ?_ ?_
      | refine LeO.bind ?_ (fun _ => ?_)
set_option maxHeartbeats 8000000 in
set_option maxRecDepth 100000 in
theorem wire_TakeText.calls (k : Nat) (a0 : ByteArray) (a1 : Int) (r1 : ByteArray) (r2 : ByteArray) (r3 : Bool) (w : World) (h : wire_TakeText.f k a0 a1 = some (r1, r2, r3)) :
    Calls Try.prog 20 #[.string a0, .int .i64 a1] w fun e w' => e = .returned (.tuple #[.string r1, .string r2, .bool r3]) ∧ Drawn0 w w' := by
  have H : ((wire_TakeUint.f k a0).bind fun bt121 => (if bt121.2.2 = true then (if a1 < 0 then (some ((⟨#[]⟩ : ByteArray), (⟨#[]⟩ : ByteArray), false)) else (if bt121.1 > (IntKind.u64.wrap (a1)) then (some ((⟨#[]⟩ : ByteArray), (⟨#[]⟩ : ByteArray), false)) else (if bt121.1 > (IntKind.u64.wrap ((bt121.2.1.size : Int))) then (some ((⟨#[]⟩ : ByteArray), (⟨#[]⟩ : ByteArray), false)) else (if 0 ≤ bt121.1 then (if bt121.1 ≤ (bt121.2.1.size : Int) then (some (bt121.2.1.extract 0 (bt121.1 : Int).toNat, bt121.2.1.extract (bt121.1 : Int).toNat bt121.2.1.size, true)) else (none)) else (none))))) else (some ((⟨#[]⟩ : ByteArray), (⟨#[]⟩ : ByteArray), false)))) = some (r1, r2, r3) := h
  clear h
  replace H := Option.bind_eq_some_iff.mp H
  obtain ⟨⟨t121, t122, t123⟩, A30, H⟩ := H
  replace H : (if t123 = true then (if a1 < 0 then (some ((⟨#[]⟩ : ByteArray), (⟨#[]⟩ : ByteArray), false)) else (if t121 > (IntKind.u64.wrap (a1)) then (some ((⟨#[]⟩ : ByteArray), (⟨#[]⟩ : ByteArray), false)) else (if t121 > (IntKind.u64.wrap ((t122.size : Int))) then (some ((⟨#[]⟩ : ByteArray), (⟨#[]⟩ : ByteArray), false)) else (if 0 ≤ t121 then (if t121 ≤ (t122.size : Int) then (some (t122.extract 0 (t121 : Int).toNat, t122.extract (t121 : Int).toNat t122.size, true)) else (none)) else (none))))) else (some ((⟨#[]⟩ : ByteArray), (⟨#[]⟩ : ByteArray), false))) = some (r1, r2, r3) := H
  have A3 := Aside0.mk A30
  clear A30
  by_cases c4 : t123 = true
  · subst c4
    have H1 : (if a1 < 0 then (some ((⟨#[]⟩ : ByteArray), (⟨#[]⟩ : ByteArray), false)) else (if t121 > (IntKind.u64.wrap (a1)) then (some ((⟨#[]⟩ : ByteArray), (⟨#[]⟩ : ByteArray), false)) else (if t121 > (IntKind.u64.wrap ((t122.size : Int))) then (some ((⟨#[]⟩ : ByteArray), (⟨#[]⟩ : ByteArray), false)) else (if 0 ≤ t121 then (if t121 ≤ (t122.size : Int) then (some (t122.extract 0 (t121 : Int).toNat, t122.extract (t121 : Int).toNat t122.size, true)) else (none)) else (none))))) = some (r1, r2, r3) := by rw [if_pos rfl] at H; exact H
    clear H
    have H := H1
    clear H1
    by_cases c5 : a1 < 0
    · rw [if_pos c5] at H
      have c5b0 : decide (a1 < 0) = true := decide_eq_true c5
      clear c5
      simp only [Option.some.injEq, Prod.mk.injEq] at H
      obtain ⟨rfl, rfl, rfl⟩ := H
      go_enter Try.func20, Try.ntmps20
      go_wp2_with (first | (go_at_call 23; (with_reducible refine (wire_TakeUint.calls k a0 t121 t122 true _ A3.out).mono ?_); rintro e w' ⟨rfl, ⟨nd, rfl⟩⟩; (try first | exact ⟨rfl, _, World.drewN_drewN _ _ _⟩ | exact ⟨rfl, _, Eq.trans (World.drewN_drewN _ _ _) (congrArg (World.drewN _) (Nat.add_assoc _ _ _))⟩)))
      repeat (go_quiet (first | (go_at_call 23; (with_reducible refine (wire_TakeUint.calls k a0 t121 t122 true _ A3.out).mono ?_); rintro e w' ⟨rfl, ⟨nd, rfl⟩⟩; (try first | exact ⟨rfl, _, World.drewN_drewN _ _ _⟩ | exact ⟨rfl, _, Eq.trans (World.drewN_drewN _ _ _) (congrArg (World.drewN _) (Nat.add_assoc _ _ _))⟩))); try go_wp2_with (first | (go_at_call 23; (with_reducible refine (wire_TakeUint.calls k a0 t121 t122 true _ A3.out).mono ?_); rintro e w' ⟨rfl, ⟨nd, rfl⟩⟩; (try first | exact ⟨rfl, _, World.drewN_drewN _ _ _⟩ | exact ⟨rfl, _, Eq.trans (World.drewN_drewN _ _ _) (congrArg (World.drewN _) (Nat.add_assoc _ _ _))⟩))))
      go_ret3
      exact ⟨by first | rfl | (simp; done) | (simp [*]; done), by repeat (first | exact Drawn0.refl _ | apply Drawn0.step)⟩
    · rw [if_neg c5] at H
      have c5b0 : decide (a1 < 0) = false := decide_eq_false c5
      clear c5
      by_cases c6 : t121 > (IntKind.u64.wrap (a1))
      · rw [if_pos c6] at H
        have c6b0 : decide ((IntKind.u64.wrap (a1)) < t121) = true := decide_eq_true c6
        clear c6
        simp only [Option.some.injEq, Prod.mk.injEq] at H
        obtain ⟨rfl, rfl, rfl⟩ := H
        go_enter Try.func20, Try.ntmps20
        go_wp2_with (first | (go_at_call 23; (with_reducible refine (wire_TakeUint.calls k a0 t121 t122 true _ A3.out).mono ?_); rintro e w' ⟨rfl, ⟨nd, rfl⟩⟩; (try first | exact ⟨rfl, _, World.drewN_drewN _ _ _⟩ | exact ⟨rfl, _, Eq.trans (World.drewN_drewN _ _ _) (congrArg (World.drewN _) (Nat.add_assoc _ _ _))⟩)))
        repeat (go_quiet (first | (go_at_call 23; (with_reducible refine (wire_TakeUint.calls k a0 t121 t122 true _ A3.out).mono ?_); rintro e w' ⟨rfl, ⟨nd, rfl⟩⟩; (try first | exact ⟨rfl, _, World.drewN_drewN _ _ _⟩ | exact ⟨rfl, _, Eq.trans (World.drewN_drewN _ _ _) (congrArg (World.drewN _) (Nat.add_assoc _ _ _))⟩))); try go_wp2_with (first | (go_at_call 23; (with_reducible refine (wire_TakeUint.calls k a0 t121 t122 true _ A3.out).mono ?_); rintro e w' ⟨rfl, ⟨nd, rfl⟩⟩; (try first | exact ⟨rfl, _, World.drewN_drewN _ _ _⟩ | exact ⟨rfl, _, Eq.trans (World.drewN_drewN _ _ _) (congrArg (World.drewN _) (Nat.add_assoc _ _ _))⟩))))
        go_ret3
        exact ⟨by first | rfl | (simp; done) | (simp [*]; done), by repeat (first | exact Drawn0.refl _ | apply Drawn0.step)⟩
      · rw [if_neg c6] at H
        have c6b0 : decide ((IntKind.u64.wrap (a1)) < t121) = false := decide_eq_false c6
        clear c6
        by_cases c7 : t121 > (IntKind.u64.wrap ((t122.size : Int)))
        · rw [if_pos c7] at H
          have c7b0 : decide ((IntKind.u64.wrap ((t122.size : Int))) < t121) = true := decide_eq_true c7
          clear c7
          simp only [Option.some.injEq, Prod.mk.injEq] at H
          obtain ⟨rfl, rfl, rfl⟩ := H
          go_enter Try.func20, Try.ntmps20
          go_wp2_with (first | (go_at_call 23; (with_reducible refine (wire_TakeUint.calls k a0 t121 t122 true _ A3.out).mono ?_); rintro e w' ⟨rfl, ⟨nd, rfl⟩⟩; (try first | exact ⟨rfl, _, World.drewN_drewN _ _ _⟩ | exact ⟨rfl, _, Eq.trans (World.drewN_drewN _ _ _) (congrArg (World.drewN _) (Nat.add_assoc _ _ _))⟩)))
          repeat (go_quiet (first | (go_at_call 23; (with_reducible refine (wire_TakeUint.calls k a0 t121 t122 true _ A3.out).mono ?_); rintro e w' ⟨rfl, ⟨nd, rfl⟩⟩; (try first | exact ⟨rfl, _, World.drewN_drewN _ _ _⟩ | exact ⟨rfl, _, Eq.trans (World.drewN_drewN _ _ _) (congrArg (World.drewN _) (Nat.add_assoc _ _ _))⟩))); try go_wp2_with (first | (go_at_call 23; (with_reducible refine (wire_TakeUint.calls k a0 t121 t122 true _ A3.out).mono ?_); rintro e w' ⟨rfl, ⟨nd, rfl⟩⟩; (try first | exact ⟨rfl, _, World.drewN_drewN _ _ _⟩ | exact ⟨rfl, _, Eq.trans (World.drewN_drewN _ _ _) (congrArg (World.drewN _) (Nat.add_assoc _ _ _))⟩))))
          go_ret3
          exact ⟨by first | rfl | (simp; done) | (simp [*]; done), by repeat (first | exact Drawn0.refl _ | apply Drawn0.step)⟩
        · rw [if_neg c7] at H
          have c7b0 : decide ((IntKind.u64.wrap ((t122.size : Int))) < t121) = false := decide_eq_false c7
          clear c7
          by_cases c8 : 0 ≤ t121
          · rw [if_pos c8] at H
            have c8b0 := eq_true c8
            have c8b1 : decide (0 ≤ t121) = true := decide_eq_true c8
            clear c8
            by_cases c9 : t121 ≤ (t122.size : Int)
            · rw [if_pos c9] at H
              have c9b0 := eq_true c9
              have c9b1 : decide (t121 ≤ (t122.size : Int)) = true := decide_eq_true c9
              clear c9
              have c10b0 := eq_true (of_decide_eq_true (by first | (with_reducible assumption) | assumption) : 0 ≤ t121)
              have c11b0 := eq_true (of_decide_eq_true (by first | (with_reducible assumption) | assumption) : t121 ≤ (t122.size : Int))
              simp only [Option.some.injEq, Prod.mk.injEq] at H
              obtain ⟨rfl, rfl, rfl⟩ := H
              go_enter Try.func20, Try.ntmps20
              go_wp2_with (first | (go_at_call 23; (with_reducible refine (wire_TakeUint.calls k a0 t121 t122 true _ A3.out).mono ?_); rintro e w' ⟨rfl, ⟨nd, rfl⟩⟩; (try first | exact ⟨rfl, _, World.drewN_drewN _ _ _⟩ | exact ⟨rfl, _, Eq.trans (World.drewN_drewN _ _ _) (congrArg (World.drewN _) (Nat.add_assoc _ _ _))⟩)))
              repeat (go_quiet (first | (go_at_call 23; (with_reducible refine (wire_TakeUint.calls k a0 t121 t122 true _ A3.out).mono ?_); rintro e w' ⟨rfl, ⟨nd, rfl⟩⟩; (try first | exact ⟨rfl, _, World.drewN_drewN _ _ _⟩ | exact ⟨rfl, _, Eq.trans (World.drewN_drewN _ _ _) (congrArg (World.drewN _) (Nat.add_assoc _ _ _))⟩))); try go_wp2_with (first | (go_at_call 23; (with_reducible refine (wire_TakeUint.calls k a0 t121 t122 true _ A3.out).mono ?_); rintro e w' ⟨rfl, ⟨nd, rfl⟩⟩; (try first | exact ⟨rfl, _, World.drewN_drewN _ _ _⟩ | exact ⟨rfl, _, Eq.trans (World.drewN_drewN _ _ _) (congrArg (World.drewN _) (Nat.add_assoc _ _ _))⟩))))
              go_ret3
              exact ⟨by first | rfl | (simp; done) | (simp [*]; done), by repeat (first | exact Drawn0.refl _ | apply Drawn0.step)⟩
            · rw [if_neg c9] at H
              exact absurd H (by simp)
          · rw [if_neg c8] at H
            exact absurd H (by simp)
  · replace c4 := Bool.eq_false_iff.mpr c4
    subst c4
    have H1 : (some ((⟨#[]⟩ : ByteArray), (⟨#[]⟩ : ByteArray), false)) = some (r1, r2, r3) := by rw [if_neg (show ¬ (false = true) by decide)] at H; exact H
    clear H
    have H := H1
    clear H1
    simp only [Option.some.injEq, Prod.mk.injEq] at H
    obtain ⟨rfl, rfl, rfl⟩ := H
    go_enter Try.func20, Try.ntmps20
    go_wp2_with (first | (go_at_call 23; (with_reducible refine (wire_TakeUint.calls k a0 t121 t122 false _ A3.out).mono ?_); rintro e w' ⟨rfl, ⟨nd, rfl⟩⟩; (try first | exact ⟨rfl, _, World.drewN_drewN _ _ _⟩ | exact ⟨rfl, _, Eq.trans (World.drewN_drewN _ _ _) (congrArg (World.drewN _) (Nat.add_assoc _ _ _))⟩)))
    repeat (go_quiet (first | (go_at_call 23; (with_reducible refine (wire_TakeUint.calls k a0 t121 t122 false _ A3.out).mono ?_); rintro e w' ⟨rfl, ⟨nd, rfl⟩⟩; (try first | exact ⟨rfl, _, World.drewN_drewN _ _ _⟩ | exact ⟨rfl, _, Eq.trans (World.drewN_drewN _ _ _) (congrArg (World.drewN _) (Nat.add_assoc _ _ _))⟩))); try go_wp2_with (first | (go_at_call 23; (with_reducible refine (wire_TakeUint.calls k a0 t121 t122 false _ A3.out).mono ?_); rintro e w' ⟨rfl, ⟨nd, rfl⟩⟩; (try first | exact ⟨rfl, _, World.drewN_drewN _ _ _⟩ | exact ⟨rfl, _, Eq.trans (World.drewN_drewN _ _ _) (congrArg (World.drewN _) (Nat.add_assoc _ _ _))⟩))))
    go_ret3
    exact ⟨by first | rfl | (simp; done) | (simp [*]; done), by repeat (first | exact Drawn0.refl _ | apply Drawn0.step)⟩

/-! ### wire_many: function 33 -/
def wire_many.f (k : Nat) (a0 : ByteArray) (a1 : Int) : Option (Int × ByteArray × Bool) := (wire_TakeUint.f k a0).bind fun bt124 => (if bt124.2.2 = true then (if a1 < 0 then (some (0, (⟨#[]⟩ : ByteArray), false)) else (if bt124.1 > (IntKind.u64.wrap (a1)) then (some (0, (⟨#[]⟩ : ByteArray), false)) else (if bt124.1 > (IntKind.u64.wrap ((bt124.2.1.size : Int))) then (some (0, (⟨#[]⟩ : ByteArray), false)) else (some (wrap64 (bt124.1), bt124.2.1, true))))) else (some (0, (⟨#[]⟩ : ByteArray), false)))
theorem wire_many.mono : ∀ a0 a1 k, LeO (wire_many.f k a0 a1) (wire_many.f (k + 1) a0 a1) := by
  intro a0 a1 k
  unfold wire_many.f
  repeat' first
      | (with_reducible exact wire_TakeUint.mono _ _)
      | (with_reducible exact LeO.refl _)
      | (with_reducible exact LeO.none _)
      | (with_reducible refine LeO.ite ?_ ?_)
      | (with_reducible refine LeO.bind ?_ (fun _ => ?_))
      | exact wire_TakeUint.mono _ _
      | exact LeO.none _
      | refine LeO.ite ?_ ?_
      | refine LeO.bind ?_ (fun _ => ?_)
set_option maxHeartbeats 8000000 in
set_option maxRecDepth 100000 in
theorem wire_many.calls (k : Nat) (a0 : ByteArray) (a1 : Int) (r1 : Int) (r2 : ByteArray) (r3 : Bool) (w : World) (h : wire_many.f k a0 a1 = some (r1, r2, r3)) :
    Calls Try.prog 33 #[.string a0, .int .i64 a1] w fun e w' => e = .returned (.tuple #[.int .i64 r1, .string r2, .bool r3]) ∧ Drawn0 w w' := by
  have H : ((wire_TakeUint.f k a0).bind fun bt124 => (if bt124.2.2 = true then (if a1 < 0 then (some (0, (⟨#[]⟩ : ByteArray), false)) else (if bt124.1 > (IntKind.u64.wrap (a1)) then (some (0, (⟨#[]⟩ : ByteArray), false)) else (if bt124.1 > (IntKind.u64.wrap ((bt124.2.1.size : Int))) then (some (0, (⟨#[]⟩ : ByteArray), false)) else (some (wrap64 (bt124.1), bt124.2.1, true))))) else (some (0, (⟨#[]⟩ : ByteArray), false)))) = some (r1, r2, r3) := h
  clear h
  replace H := Option.bind_eq_some_iff.mp H
  obtain ⟨⟨t124, t125, t126⟩, A30, H⟩ := H
  replace H : (if t126 = true then (if a1 < 0 then (some (0, (⟨#[]⟩ : ByteArray), false)) else (if t124 > (IntKind.u64.wrap (a1)) then (some (0, (⟨#[]⟩ : ByteArray), false)) else (if t124 > (IntKind.u64.wrap ((t125.size : Int))) then (some (0, (⟨#[]⟩ : ByteArray), false)) else (some (wrap64 (t124), t125, true))))) else (some (0, (⟨#[]⟩ : ByteArray), false))) = some (r1, r2, r3) := H
  have A3 := Aside0.mk A30
  clear A30
  by_cases c4 : t126 = true
  · subst c4
    have H1 : (if a1 < 0 then (some (0, (⟨#[]⟩ : ByteArray), false)) else (if t124 > (IntKind.u64.wrap (a1)) then (some (0, (⟨#[]⟩ : ByteArray), false)) else (if t124 > (IntKind.u64.wrap ((t125.size : Int))) then (some (0, (⟨#[]⟩ : ByteArray), false)) else (some (wrap64 (t124), t125, true))))) = some (r1, r2, r3) := by rw [if_pos rfl] at H; exact H
    clear H
    have H := H1
    clear H1
    by_cases c5 : a1 < 0
    · rw [if_pos c5] at H
      have c5b0 : decide (a1 < 0) = true := decide_eq_true c5
      clear c5
      simp only [Option.some.injEq, Prod.mk.injEq] at H
      obtain ⟨rfl, rfl, rfl⟩ := H
      go_enter Try.func33, Try.ntmps33
      go_wp2_with (first | ((with_reducible refine gate_callee (f := 23) rfl ?_); refine goesL_ (some 12) rfl rfl Try.func23 (by kernel_rfl) rfl #[.string a0] rfl (by (try simp only [List.map_toArray, List.map_cons, List.map_nil]); first | done | rfl | (simp only [List.length_drop, List.length_take]; rfl)) ?_; (with_reducible refine (wire_TakeUint.calls k a0 t124 t125 true _ A3.out).mono ?_); rintro e w' ⟨rfl, ⟨nd, rfl⟩⟩; refine ⟨_, rfl, ?_⟩))
      go_ret3
      exact ⟨by first | rfl | (simp; done) | (simp [*]; done), by repeat (first | exact Drawn0.refl _ | apply Drawn0.step)⟩
    · rw [if_neg c5] at H
      have c5b0 : decide (a1 < 0) = false := decide_eq_false c5
      clear c5
      by_cases c6 : t124 > (IntKind.u64.wrap (a1))
      · rw [if_pos c6] at H
        have c6b0 : decide ((IntKind.u64.wrap (a1)) < t124) = true := decide_eq_true c6
        clear c6
        simp only [Option.some.injEq, Prod.mk.injEq] at H
        obtain ⟨rfl, rfl, rfl⟩ := H
        go_enter Try.func33, Try.ntmps33
        go_wp2_with (first | ((with_reducible refine gate_callee (f := 23) rfl ?_); refine goesL_ (some 12) rfl rfl Try.func23 (by kernel_rfl) rfl #[.string a0] rfl (by (try simp only [List.map_toArray, List.map_cons, List.map_nil]); first | done | rfl | (simp only [List.length_drop, List.length_take]; rfl)) ?_; (with_reducible refine (wire_TakeUint.calls k a0 t124 t125 true _ A3.out).mono ?_); rintro e w' ⟨rfl, ⟨nd, rfl⟩⟩; refine ⟨_, rfl, ?_⟩))
        go_ret3
        exact ⟨by first | rfl | (simp; done) | (simp [*]; done), by repeat (first | exact Drawn0.refl _ | apply Drawn0.step)⟩
      · rw [if_neg c6] at H
        have c6b0 : decide ((IntKind.u64.wrap (a1)) < t124) = false := decide_eq_false c6
        clear c6
        by_cases c7 : t124 > (IntKind.u64.wrap ((t125.size : Int)))
        · rw [if_pos c7] at H
          have c7b0 : decide ((IntKind.u64.wrap ((t125.size : Int))) < t124) = true := decide_eq_true c7
          clear c7
          simp only [Option.some.injEq, Prod.mk.injEq] at H
          obtain ⟨rfl, rfl, rfl⟩ := H
          go_enter Try.func33, Try.ntmps33
          go_wp2_with (first | ((with_reducible refine gate_callee (f := 23) rfl ?_); refine goesL_ (some 12) rfl rfl Try.func23 (by kernel_rfl) rfl #[.string a0] rfl (by (try simp only [List.map_toArray, List.map_cons, List.map_nil]); first | done | rfl | (simp only [List.length_drop, List.length_take]; rfl)) ?_; (with_reducible refine (wire_TakeUint.calls k a0 t124 t125 true _ A3.out).mono ?_); rintro e w' ⟨rfl, ⟨nd, rfl⟩⟩; refine ⟨_, rfl, ?_⟩))
          go_ret3
          exact ⟨by first | rfl | (simp; done) | (simp [*]; done), by repeat (first | exact Drawn0.refl _ | apply Drawn0.step)⟩
        · rw [if_neg c7] at H
          have c7b0 : decide ((IntKind.u64.wrap ((t125.size : Int))) < t124) = false := decide_eq_false c7
          clear c7
          simp only [Option.some.injEq, Prod.mk.injEq] at H
          obtain ⟨rfl, rfl, rfl⟩ := H
          go_enter Try.func33, Try.ntmps33
          go_wp2_with (first | ((with_reducible refine gate_callee (f := 23) rfl ?_); refine goesL_ (some 12) rfl rfl Try.func23 (by kernel_rfl) rfl #[.string a0] rfl (by (try simp only [List.map_toArray, List.map_cons, List.map_nil]); first | done | rfl | (simp only [List.length_drop, List.length_take]; rfl)) ?_; (with_reducible refine (wire_TakeUint.calls k a0 t124 t125 true _ A3.out).mono ?_); rintro e w' ⟨rfl, ⟨nd, rfl⟩⟩; refine ⟨_, rfl, ?_⟩))
          go_ret3
          exact ⟨by first | rfl | (simp; done) | (simp [*]; done), by repeat (first | exact Drawn0.refl _ | apply Drawn0.step)⟩
  · replace c4 := Bool.eq_false_iff.mpr c4
    subst c4
    have H1 : (some (0, (⟨#[]⟩ : ByteArray), false)) = some (r1, r2, r3) := by rw [if_neg (show ¬ (false = true) by decide)] at H; exact H
    clear H
    have H := H1
    clear H1
    simp only [Option.some.injEq, Prod.mk.injEq] at H
    obtain ⟨rfl, rfl, rfl⟩ := H
    go_enter Try.func33, Try.ntmps33
    go_wp2_with (first | ((with_reducible refine gate_callee (f := 23) rfl ?_); refine goesL_ (some 12) rfl rfl Try.func23 (by kernel_rfl) rfl #[.string a0] rfl (by (try simp only [List.map_toArray, List.map_cons, List.map_nil]); first | done | rfl | (simp only [List.length_drop, List.length_take]; rfl)) ?_; (with_reducible refine (wire_TakeUint.calls k a0 t124 t125 false _ A3.out).mono ?_); rintro e w' ⟨rfl, ⟨nd, rfl⟩⟩; refine ⟨_, rfl, ?_⟩))
    go_ret3
    exact ⟨by first | rfl | (simp; done) | (simp [*]; done), by repeat (first | exact Drawn0.refl _ | apply Drawn0.step)⟩

end Go.Proofs.Ytkjlbmdcaehgiaa.PAll
