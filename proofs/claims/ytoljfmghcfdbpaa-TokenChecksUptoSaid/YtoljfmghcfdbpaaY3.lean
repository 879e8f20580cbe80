/- Texts as bytes. -/
import Derived.Test.YtoljfmghcfdbpaaY2
import Derived.Test.YtoljfmghcfdbpaaCd
set_option linter.unusedVariables false
set_option linter.unusedSimpArgs false
set_option maxRecDepth 100000
namespace Go.Proofs.Ytoljfmghcfdbpaa.X
open Go Go.RowKit WM
variable {ν β ps pos' : Nm} {H : Heap} {Q : AVal → Heap → Prop} {L : List Asr}
def encS (s : ByteArray) : ByteArray := ba (encT s.data.toList)
theorem encS_eq (s : ByteArray) : ba (encU s.size) ++ s = encS s := by
  unfold encS encT
  rw [← ba_append, ba_of]; rfl
theorem encS_size {s : ByteArray} (hs : s.size ≤ 4611686018427387904) : (encS s).size ≤ s.size + 10 := by
  have h := encU_le10 (n := s.size) (by omega)
  unfold encS encT
  rw [ba_size, List.length_append, bytes_size]; omega
theorem takeU_e {s b : ByteArray} {a : Int} {d : Bool} (hs : s.size ≤ 4611686018427387904) (he : resU s = (a, b, d)) (hq : Q (.tup [.int .u64 a, .str b, .bool d]) H) : CW cfg ν 24 [.str s] H Q := takeU_c hs (by rw [he]; exact hq)
theorem rtakeU_e {s b : ByteArray} {a : Int} {d : Bool} (hs : s.size ≤ 4611686018427387904) (he : resU s = (a, b, d)) (hq : Q (.tup [.int .u64 a, .str b, .bool d]) H) : CW cfg ν 25 [.str s] H Q := rtakeU hs (by rw [he]; exact hq)
def resT (most : Int) (s : ByteArray) : ByteArray × ByteArray × Bool := match WM.takeT most s.data.toList with
  | some (t, r) => (ba t, ba r, true)
  | none => (⟨#[]⟩, ⟨#[]⟩, false)
theorem resU_cases (s : ByteArray) : (takeU 64 s.data.toList = none ∧ resU s = (0, ⟨#[]⟩, false)) ∨ ∃ n r, takeU 64 s.data.toList = some (n, r) ∧ resU s = ((n : Int), ba r, true) ∧ n < 18446744073709551616 ∧ r.length < s.size := by
  cases h : takeU 64 s.data.toList with
  | none => exact .inl ⟨rfl, resU_none h⟩
  | some p => obtain ⟨n, r⟩ := p; exact .inr ⟨n, r, rfl, resU_some h, ((takeU_iff _ _ _).1 h).2, takeU_short h⟩
theorem putUi {a : Int} (h : 0 ≤ a ∧ a ≤ 18446744073709551615) (hq : Q (.str (ba (encU a.toNat))) H) : CW cfg ν 27 [.int .u64 a] H Q := by
  have e : a = ((a.toNat : Nat) : Int) := by omega
  rw [e]
  exact putU (by omega) hq
theorem rputUi {a : Int} (h : 0 ≤ a ∧ a ≤ 18446744073709551615) (hq : Q (.str (ba (encU a.toNat))) H) : CW cfg ν 30 [.int .u64 a] H Q := by
  have e : a = ((a.toNat : Nat) : Int) := by omega
  rw [e]
  exact rputU (by omega) hq
theorem encU_i {a : Int} (h : 0 ≤ a ∧ a ≤ 18446744073709551615) : (ba (encU a.toNat)).size ≤ 10 := by
  rw [ba_size]; exact encU_le10 (by omega)
theorem resU_size (s : ByteArray) : (resU s).2.1.size ≤ s.size := by
  rcases resU_cases s with ⟨_, h⟩ | ⟨n, r, _, h, _, hr⟩
  · rw [h]; exact Nat.zero_le _
  · rw [h]; show (ba r).size ≤ _; rw [ba_size]; omega
theorem resT_size (m : Int) (s : ByteArray) : (resT m s).2.1.size ≤ s.size := by
  unfold resT
  cases h : WM.takeT m s.data.toList with
  | none => exact Nat.zero_le _
  | some p => obtain ⟨t, r⟩ := p; have := takeT_short h; show (ba r).size ≤ _; rw [ba_size]; have e : s.data.toList.length = s.size := rfl; omega
theorem resU_i (s : ByteArray) : 0 ≤ (resU s).1 ∧ (resU s).1 ≤ 18446744073709551615 := by
  rcases resU_cases s with ⟨_, h⟩ | ⟨n, r, _, h, hn, hr⟩
  · rw [h]; decide
  · rw [h]; show 0 ≤ (n : Int) ∧ (n : Int) ≤ _; omega
/-- A number, as the machine takes it. -/
theorem cI_res (s : ByteArray) : ((resU s).2.2 = false ∧ resU s = (0, ⟨#[]⟩, false) ∧ cI.tk s.data.toList = none) ∨ ((resU s).2.2 = true ∧ cI.tk s.data.toList = some ((resU s).1, (resU s).2.1.data.toList)) := by
  rcases resU_cases s with ⟨h1, h2⟩ | ⟨n, r, h1, h2, _, _⟩
  · rw [h2]; exact .inl ⟨rfl, rfl, cI_tk1 h1⟩
  · rw [h2]; exact .inr ⟨rfl, cI_tk2 h1⟩
theorem cT_res (m : Nat) (hm : m < 18446744073709551616) (s : ByteArray) : ((resT m s).2.2 = false ∧ resT m s = (⟨#[]⟩, ⟨#[]⟩, false) ∧ (cT m hm).tk s.data.toList = none) ∨ ((resT m s).2.2 = true ∧ (cT m hm).tk s.data.toList = some ((resT m s).1, (resT m s).2.1.data.toList)) := by
  unfold resT
  cases h : WM.takeT (m : Int) s.data.toList with
  | none => exact .inl ⟨rfl, rfl, cT_tk1 h⟩
  | some p => exact .inr ⟨rfl, cT_tk2 h⟩
end Go.Proofs.Ytoljfmghcfdbpaa.X
