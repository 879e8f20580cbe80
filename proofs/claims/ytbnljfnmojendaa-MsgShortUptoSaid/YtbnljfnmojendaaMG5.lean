/- Layer 02: the laws for every argument. -/
import Derived.Test.YtbnljfnmojendaaMG4
set_option linter.unusedVariables false
namespace Go.Proofs.Ytbnljfnmojendaa.X
open Go Go.RowKit WM
def Mg.Q (x : Mg) (n : Nat) : Prop := Open.QSt (Open.QPair (Open.QInt .i64) (Open.QPair (Open.QSl (Open.QInt .u64)) (Open.QSl Open.QStr))) (x.k, x.ns, x.ts) n
theorem Mg.ok {a : Mg} {n : Nat} (h : Mg.Q a n) : (-9223372036854775808 ≤ a.k ∧ a.k ≤ 9223372036854775807) ∧ (a.ns.length + 1 ≤ n ∧ ∀ x ∈ a.ns, 0 ≤ x ∧ x ≤ 18446744073709551615) ∧ (a.ts.length + 1 ≤ n ∧ (a.ts.map ByteArray.size).sum + 1 ≤ n ∧ ∀ x ∈ a.ts, x.size + 1 ≤ n) := by
  obtain ⟨mm, hm, ⟨m0, k0, e0, h0, ⟨m1, k1, e1, h1, h2⟩⟩⟩ := h
  exact ⟨(in_i64 h0), (⟨Nat.le_trans (qsl_len h1 (fun _ _ h => h.2)) (by omega), fun x hx => let ⟨_, h⟩ := qsl_mem h1 x hx; in_u64 h.2⟩), (⟨Nat.le_trans (qsl_len h2 (fun _ _ h => Nat.le_trans (by omega) h.2)) (by omega), Nat.le_trans (qsl_sum (f := ByteArray.size) (fun _ _ h => Nat.le_trans (by omega) h.2) h2) (by omega), fun x hx => let ⟨_, h⟩ := qsl_mem h2 x hx; Nat.le_trans h.2.2 (by omega)⟩)⟩
theorem Mg.Q_mono {a : Mg} {n m : Nat} (h : Mg.Q a n) (hm : n ≤ m) : Mg.Q a m := let ⟨k, h1, h2⟩ := h; ⟨k, Nat.le_trans h1 hm, h2⟩
theorem Mg.Q.pos {a : Mg} {n : Nat} (h : Mg.Q a n) : 1 ≤ n := let ⟨k, h1, _⟩ := h; by omega
theorem eta2 {α γ : Type} (p : α × γ) : (p.1, p.2) = p := rfl
theorem mfit {m : Mg} {n : Nat} (q : Mg.Q m n) (hb : n ≤ 1048576) : m.fit := by
  obtain ⟨h1, ⟨h2, h3⟩, h4, h5, h6⟩ := Mg.ok q
  exact ⟨by omega, h3, by omega, by show (m.ts.map ByteArray.size).sum ≤ _; omega, h1⟩
theorem encM_size {m : Mg} (hf : m.fit) : (encM m).1.size ≤ 65536 := by
  unfold encM
  split
  · rename_i h; exact (chk_ok h).2.2.2.2.2
  · exact Nat.zero_le _
theorem encM_ok {m : Mg} (h : (encM m).2 = 0) : chkM m = 0 ∧ encM m = (layS m, 0) := by
  unfold encM at h ⊢
  by_cases hc : chkM m = 0
  · exact ⟨hc, by rw [if_pos hc]⟩
  · rw [if_neg hc] at h; exact absurd h hc
theorem encM_no {m : Mg} (h : (encM m).2 ≠ 0) : (encM m).1 = ⟨#[]⟩ := by
  unfold encM at h ⊢
  by_cases hc : chkM m = 0
  · rw [if_pos hc] at h; exact absurd rfl h
  · rw [if_neg hc]
theorem MsgEncodes_true (a0 : Mg) (n0 : Nat) (q0 : Mg.Q a0 n0) (hb : n0 + (0) ≤ 1048576) :
    CW cfg [] 3 [Mg.enc a0] (fun _ => none) (fun v _ => v = .bool true) :=
  lawEncodes (mfit q0 (by omega)) (eta2 (encM a0)).symm rfl
theorem MsgDecodes_true (a0 : ByteArray) (n0 : Nat) (q0 : Open.QStr a0 n0) (hb : n0 + (0) ≤ 1048576) :
    CW cfg [] 4 [AVal.str a0] (fun _ => none) (fun v _ => v = .bool true) := by
  have h0 := q0.2
  have hl := decM_lens a0
  exact lawDecodes (by omega) (eta2 (decM a0)).symm ⟨by omega, by omega⟩ rfl
theorem MsgBack_true (a0 : Mg) (n0 : Nat) (q0 : Mg.Q a0 n0) (a1 : Mg) (n1 : Nat) (q1 : Mg.Q a1 n1) (hb : n0 + (n1 + (0)) ≤ 1048576) :
    CW cfg [] 5 [Mg.enc a0, Mg.enc a1] (fun _ => none) (fun v _ => v = .bool true) := by
  have f0 := mfit q0 (by omega); have f1 := mfit q1 (by omega)
  have hs := encM_size f0
  refine lawBack f0 f1 (eta2 (encM a0)).symm (eta2 (encM a1)).symm (by omega) (fun h => ?_) encM_no (fun h h' => ?_) rfl
  · obtain ⟨k1, k2⟩ := encM_ok h
    rw [k2]; exact decM_lay f0 k1
  · obtain ⟨k1, k2⟩ := encM_ok h
    obtain ⟨k3, k4⟩ := encM_ok h'
    rw [k2, k4]
    exact ⟨fun e => (lay_inj (x := []) (y := []) f0 f1 k1 k3 (by rw [show layS a0 = layS a1 from e])).1, fun e => by rw [e]⟩
theorem MsgOnce_true (a0 : ByteArray) (n0 : Nat) (q0 : Open.QStr a0 n0) (a1 : Int) (n1 : Nat) (q1 : (Open.QInt .u8) a1 n1) (hb : n0 + (n1 + (0)) ≤ 1048576) :
    CW cfg [] 6 [AVal.str a0, AVal.int .u8 a1] (fun _ => none) (fun v _ => v = .bool true) := by
  have h0 := q0.2
  have hc := in_u8 q1
  refine lawOnce (by omega) (by omega) (eta2 (decM a0)).symm (fun h => ?_) (eta2 (decM (a0 ++ ba [UInt8.ofNat a1.toNat]))).symm (eta2 (decM (a0.extract 0 (a0.size - 1)))).symm (fun h => ?_) (fun h => ?_) rfl
  · obtain ⟨k1, k2, k3⟩ := decM_some (decM_eq h)
    refine ⟨k1, by rw [encM, if_pos k2, ← k3], ?_⟩
    rw [k3]; unfold layS; rw [ByteArray.size_append, ba_size, List.length_append]
    have := encU_pos (decM a0).1.k.toNat; omega
  · obtain ⟨k1, k2, k3⟩ := decM_some (decM_eq h)
    refine dec_apart k1 k2 (x := []) (y := [UInt8.ofNat a1.toNat]) ?_ (by simp)
    rw [← k3, List.append_nil, ba_append_s, ba_data]
  · obtain ⟨k1, k2, k3⟩ := decM_some (decM_eq h)
    have hp : 0 < a0.size := by
      rw [k3]; unfold layS; rw [ByteArray.size_append, ba_size, List.length_append]
      have := encU_pos (decM a0).1.k.toNat; omega
    refine dec_apart k1 k2 (x := a0.data.toList.drop (a0.size - 1)) (y := []) ?_ (fun e => ?_)
    · rw [← k3, List.append_nil, ext_head, ba_data, List.take_append_drop]
    · have := congrArg List.length e
      rw [List.length_drop, bytes_size] at this
      simp at this; omega
theorem MsgShort_true (a0 : Mg) (n0 : Nat) (q0 : Mg.Q a0 n0) (a1 : Int) (n1 : Nat) (q1 : (Open.QInt .i64) a1 n1) (hb : n0 + (n1 + (0)) ≤ 1048576) :
    CW cfg [] 7 [Mg.enc a0, AVal.int .i64 a1] (fun _ => none) (fun v _ => v = .bool true) := by
  have f0 := mfit q0 (by omega)
  have hs := encM_size f0
  refine lawShort (e2 := (decM ((encM a0).1.extract 0 a1.toNat)).2) f0 (eta2 (encM a0)).symm (by omega) (fun h h1 h2 => ⟨(eta2 (decM ((encM a0).1.extract 0 a1.toNat))).symm, ?_⟩) rfl
  obtain ⟨k1, k2⟩ := encM_ok h
  refine dec_apart f0 k1 (x := (encM a0).1.data.toList.drop a1.toNat) (y := []) ?_ (fun e => ?_)
  · rw [k2, List.append_nil, ext_head, ba_data, List.take_append_drop]
  · have := congrArg List.length e
    rw [List.length_drop, bytes_size] at this
    simp at this; omega
end Go.Proofs.Ytbnljfnmojendaa.X
