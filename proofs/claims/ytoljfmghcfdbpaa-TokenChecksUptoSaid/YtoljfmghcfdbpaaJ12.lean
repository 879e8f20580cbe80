/- The program's oracle, told by the reference's state. -/
import Derived.Test.YtoljfmghcfdbpaaJ11
set_option linter.unusedVariables false
set_option linter.unusedSimpArgs false
set_option maxRecDepth 100000
namespace Go.Proofs.Ytoljfmghcfdbpaa.X
open Go Go.RowKit
variable {ν β ps pos' : Nm} {H : Heap} {Q : AVal → Heap → Prop} {L : List Asr} {q : Nm} {k : Nat} {S : Rf}
section
variable (hS : Own β ps H L) (hL : L[k]? = some (orc q S.of)) (hle : le ps ν) (hβ : under β ν = true) (hp : before ν pos')
include hS hL hle hβ hp
theorem oFresh (hn : S.rows.length ≤ 4294967000) (hq : ∀ H1, Own β pos' H1 (L.set k (orc q S.fresh.of)) → Q (.int .u64 S.next) H1) : CW cfg ν 41 [.ptr q 0 0] H Q :=
  iFresh hS hL hle hβ hp (of_ok S) hn fun H1 h1 => hq H1 (by rw [Rf.fresh_of] at h1; exact h1)
theorem oMac (hn : S.rows.length ≤ 4294967000) (kk : Int) (a : ByteArray) (hq : ∀ H1, Own β pos' H1 (L.set k (orc q (S.mac kk a).2.of)) → Q (.int .u64 (S.mac kk a).1) H1) : CW cfg ν 36 [.ptr q 0 0, .int .u64 kk, .str a] H Q :=
  iMac hS hL hle hβ hp (of_ok S) hn kk a fun H1 h1 => by rw [Rf.mac_of] at h1 ⊢; exact hq H1 h1
theorem oVerify (kk : Int) (a : ByteArray) (t : Int) (hq : ∀ H1, Own β pos' H1 (L.set k (orc q (S.verify kk a t).2.of)) → Q (.bool (S.verify kk a t).1) H1) : CW cfg ν 31 [.ptr q 0 0, .int .u64 kk, .str a, .int .u64 t] H Q :=
  iVerify hS hL hle hβ hp kk a t fun H1 h1 => by rw [Rf.verify_of] at h1 ⊢; exact hq H1 h1
theorem oMeet (h : Int) (hq : ∀ H1, Own β pos' H1 (L.set k (orc q (S.meet h).of)) → Q (.tup []) H1) : CW cfg ν 37 [.ptr q 0 0, .int .u64 h] H Q :=
  iMeet hS hL hle hβ hp h fun H1 h1 => by rw [Rf.meet_of] at h1; exact hq H1 h1
theorem oDrawn (hq : ∀ H1, Own β pos' H1 L → Q (.int .i64 S.rows.length) H1) : CW cfg ν 21 [.ptr q 0 0] H Q := iDrawn hS hL hle hβ hp hq
theorem oBad (hq : ∀ H1, Own β pos' H1 L → Q (.bool (decide (S.bads > 0))) H1) : CW cfg ν 17 [.ptr q 0 0] H Q := iBad hS hL hle hβ hp hq
end
theorem oNew (hS : Own β ps H L) (hle : le ps ν) (hβ : under β ν = true) (hp : before ν pos') {v : AVal} {d : List Int} (hv : Ls v (d.map Int.enc)) (hd : d.length ≤ 4294967000)
    (hq : ∀ q H1, Own β pos' H1 (orc q (Rf.new d).of :: L) → Q (.ptr q 0 0) H1) : CW cfg ν 28 [v] H Q :=
  iNew hS hle hβ hp hv hd fun q H1 h1 => hq q H1 (by rw [of_new]; exact h1)
theorem oNewO {v : AVal} {d : List Int} {k : Nat} (hS : Own β ps H L) (hL : L[k]? = some (sl v 1 (d.map Int.enc))) (hle : le ps ν) (hβ : under β ν = true) (hp : before ν pos') (hd : d.length ≤ 4294967000)
    (hq : ∀ q H1, Own β pos' H1 (orc q (Rf.new d).of :: L) → Q (.ptr q 0 0) H1) : CW cfg ν 28 [v] H Q :=
  iNewO hS hL hle hβ hp hd fun q H1 h1 => hq q H1 (by rw [of_new]; exact h1)
namespace Rf
theorem fresh_len : S.fresh.rows.length = S.rows.length + 1 := by simp [fresh, draw]
theorem fresh_bads : S.bads ≤ S.fresh.bads := draw_bads _
theorem meet_bads (h : Int) : (S.meet h).bads = S.bads := by unfold meet; split <;> rfl
theorem meet_next (h : Int) : (S.meet h).next = S.next := by unfold meet; split <;> rfl
theorem shown_bad : 0 < (S.meet S.next).fresh.bads := by
  unfold fresh draw
  rw [meet_next]
  have : (S.meet S.next).isBad S.next = true := by
    unfold isBad meet
    cases h : S.issued S.next with
    | true => simp [h]
    | false => simp [shown]
  simp [this]
theorem meet_fresh : S.fresh.meet S.next = S.fresh := meet_old (by simp [fresh, issued_draw])
end Rf
end Go.Proofs.Ytoljfmghcfdbpaa.X
