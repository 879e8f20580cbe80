/- Layer 20: the queue's methods, of what is in it. -/
import Derived.Test.YtamdokgbenbndaaTI9
set_option linter.unusedVariables false
set_option linter.unusedSimpArgs false
set_option maxRecDepth 100000
namespace Go.Proofs.Ytamdokgbenbndaa.X
open Go Go.RowKit
variable {ν β ps pos' : Nm} {H : Heap} {Q : AVal → Heap → Prop} {L : List Asr} {k : Nat} {q : Nm} {B : List It} {n : Int}
/-- A queue with what is in it, in the order of adding; n were added. -/
def tq (q : Nm) (B : List It) (n : Int) : Asr := Asr.ex fun h : {h : List It // TQ h B n} => que q h.1 n
theorem Own.un_tq (h0 : Own β ps H L) (hL : L[k]? = some (tq q B n)) : ∃ h : List It, TQ h B n ∧ Own β ps H (que q h n :: L.eraseIdx k) := by
  obtain ⟨⟨h, hT⟩, h1⟩ := Own.un_ex (h0.pick hL)
  exact ⟨h, hT, h1⟩
theorem Own.mk_tq {h B' : List It} {n' : Int} (h0 : Own β ps H (que q h n' :: L.eraseIdx k)) (hT : TQ h B' n') (hL : L[k]? = some (tq q B n)) : Own β ps H (L.set k (tq q B' n')) :=
  Own.unpick (Own.mk_ex (f := fun h : {h : List It // TQ h B' n'} => que q h.1 n') ⟨h, hT⟩ h0) hL
theorem Own.mk_tqs {h : List It} (h0 : Own β ps H (que q h n :: L.eraseIdx k)) (hT : TQ h B n) (hL : L[k]? = some (tq q B n)) : Own β ps H L := (Own.mk_tq h0 hT hL).cast (set_get_self hL)
theorem t_new (hS : Own β ps H L) (hle : le ps ν) (hβ : under β ν = true) (hp : before ν pos') (hq : ∀ H1 q, Own β pos' H1 (tq q [] 0 :: L) → Q (.ptr q 0 0) H1) : CW cfg ν 8 [] H Q :=
  new_c hS hle hβ hp fun H1 q h1 => hq H1 q (Own.mk_ex (f := fun h : {h : List It // TQ h [] 0} => que q h.1 0) ⟨[], TQ.nil⟩ h1)
section
variable (hS : Own β ps H L) (hL : L[k]? = some (tq q B n)) (hle : le ps ν) (hβ : under β ν = true) (hp : before ν pos')
include hS hL hle hβ hp
theorem t_add {a : Int} {w : ByteArray} (hn : 0 ≤ n ∧ n ≤ 4611686018427387904) (hb : B.length < 4096) (hq : ∀ H1, Own β pos' H1 (L.set k (tq q (B ++ [⟨a, w, n⟩]) (n + 1))) → Q (.bool true) H1) : CW cfg ν 9 [.ptr q 0 0, .int .u64 a, .str w] H Q := by
  obtain ⟨h, hT, h1⟩ := hS.un_tq hL
  have hl := hT.len
  exact add_c h1 (k := 0) rfl hle hβ hp hn (fun h2 => by omega) fun h2 H1 h3 => hq H1 (Own.mk_tq h3 (hT.add hn.1) hL)
theorem t_many (hq : ∀ H1, Own β pos' H1 L → Q (.int .i64 B.length) H1) : CW cfg ν 11 [.ptr q 0 0] H Q := by
  obtain ⟨h, hT, h1⟩ := hS.un_tq hL
  have hl := hT.len
  exact many_c h1 (k := 0) rfl hle hβ hp fun H1 h3 => by rw [hl]; exact hq H1 (Own.mk_tqs h3 hT hL)
def nxtB (B : List It) : AVal × Bool := match bst (ats B) with
  | none => (zeroD, false)
  | some k => (dueV (B.getD k zI), true)
omit hS hL hle hβ hp in
theorem TQ.next {h : List It} (hT : TQ h B n) : nxtV h = nxtB B := by
  have hl := hT.len
  cases h with
  | nil =>
    obtain rfl : B = [] := List.length_eq_zero_iff.1 (by simpa using hl.symm)
    rfl
  | cons x r =>
    obtain ⟨k, h1, hk, h2⟩ := hT.head (by simp at hl; omega)
    simp only [nxtV, nxtB, h1]
    rw [show B.getD k zI = x by rw [List.getD_eq_getElem?_getD, List.getElem?_eq_getElem hk, ← h2]; rfl]
theorem t_next (hq : ∀ H1, Own β pos' H1 L → Q (.tup [(nxtB B).1, .bool (nxtB B).2]) H1) : CW cfg ν 12 [.ptr q 0 0] H Q := by
  obtain ⟨h, hT, h1⟩ := hS.un_tq hL
  rw [← hT.next] at hq
  exact qnext_c h1 (k := 0) rfl hle hβ hp fun H1 h3 => hq H1 (Own.mk_tqs h3 hT hL)
def popB (B : List It) (now : Int) : (AVal × Bool) × List It := match bst (ats B) with
  | none => ((zeroD, false), B)
  | some k => if now < (B.getD k zI).at' then ((zeroD, false), B) else ((dueV (B.getD k zI), true), B.eraseIdx k)
omit hS hL hle hβ hp in
theorem TQ.popN {h : List It} (hT : TQ h B n) (now : Int) : (popN h now).1 = (popB B now).1 ∧ TQ (X.popN h now).2 (popB B now).2 n := by
  have hl := hT.len
  cases h with
  | nil =>
    obtain rfl : B = [] := List.length_eq_zero_iff.1 (by simpa using hl.symm)
    exact ⟨rfl, hT⟩
  | cons x r =>
    obtain ⟨k, h1, hk, h2⟩ := hT.head (by simp at hl; omega)
    have he : B.getD k zI = x := by rw [List.getD_eq_getElem?_getD, List.getElem?_eq_getElem hk, ← h2]; rfl
    simp only [X.popN, popB, h1, he]
    by_cases hx : now < x.at'
    · rw [if_pos hx, if_pos hx]; exact ⟨rfl, hT⟩
    · rw [if_neg hx, if_neg hx]; exact ⟨rfl, hT.pop hk h2⟩
theorem t_pop {now : Int} (hl : B.length ≤ 4294960000) (hq : ∀ H1, Own β pos' H1 (L.set k (tq q (popB B now).2 n)) → Q (.tup [(popB B now).1.1, .bool (popB B now).1.2]) H1) : CW cfg ν 10 [.ptr q 0 0, .int .u64 now] H Q := by
  obtain ⟨h, hT, h1⟩ := hS.un_tq hL
  obtain ⟨h2, h3⟩ := hT.popN now
  have hl2 := hT.len
  rw [← h2] at hq
  exact pop_c h1 (k := 0) rfl hle hβ hp (by omega) fun H1 h4 => hq H1 (Own.mk_tq h4 h3 hL)
end
end Go.Proofs.Ytamdokgbenbndaa.X
