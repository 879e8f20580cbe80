/- The oracle: plain words for what it keeps, and its map-wise state. -/
import Derived.Test.YtoljfmghcfdbpaaK
import Derived.Test.YtoljfmghcfdbpaaMp
set_option linter.unusedVariables false
set_option linter.unusedSimpArgs false
set_option maxRecDepth 100000
namespace Go.Proofs.Ytoljfmghcfdbpaa.X
open Go Go.RowKit
variable {ν β ps pos' : Nm} {H : Heap} {Q : AVal → Heap → Prop} {L : List Asr}
abbrev eU (n : Int) : AVal := .int .u64 n
abbrev eI (n : Int) : AVal := .int .i64 n
abbrev eS (s : ByteArray) : AVal := .str s
abbrev eTag (p : Int × ByteArray) : AVal := .agg [.int .u64 p.1, .str p.2]
abbrev eSeal (p : Int × Int × ByteArray × ByteArray) : AVal := .agg [.int .u64 p.1, .int .u64 p.2.1, .str p.2.2.1, .str p.2.2.2]
abbrev eTold (p : Int × Int × Int × ByteArray) : AVal := .agg [.int .u64 p.1, .int .u64 p.2.1, .int .u64 p.2.2.1, .str p.2.2.2]
theorem kU64 : KeyOk cfg.T 22 eU := ⟨fun a b => rfl, fun a => by simp [kSame, kSame1]⟩
theorem kStr : KeyOk cfg.T 9 eS := ⟨fun a b => rfl, fun a => by simp [kSame, kSame1]⟩
theorem kTag : KeyOk cfg.T 75 eTag := by
  refine ⟨fun a b => ?_, fun a => by simp [kSame, kSames, kSame1]⟩
  have e : aEq cfg.T 4 75 (eTag a) (eTag b) = some (decide (a.1 = b.1) && (decide (a.2 = b.2) && true)) := rfl
  rw [e]
  obtain ⟨a1, a2⟩ := a; obtain ⟨b1, b2⟩ := b
  by_cases h1 : a1 = b1 <;> by_cases h2 : a2 = b2 <;> simp [h1, h2]
theorem kSeal : KeyOk cfg.T 100 eSeal := by
  refine ⟨fun a b => ?_, fun a => by simp [kSame, kSames, kSame1]⟩
  have e : aEq cfg.T 4 100 (eSeal a) (eSeal b) = some (decide (a.1 = b.1) && (decide (a.2.1 = b.2.1) && (decide (a.2.2.1 = b.2.2.1) && (decide (a.2.2.2 = b.2.2.2) && true)))) := rfl
  rw [e]
  obtain ⟨a1, a2, a3, a4⟩ := a; obtain ⟨b1, b2, b3, b4⟩ := b
  by_cases h1 : a1 = b1 <;> by_cases h2 : a2 = b2 <;> by_cases h3 : a3 = b3 <;> by_cases h4 : a4 = b4 <;> simp [h1, h2, h3, h4]
theorem kTold : KeyOk cfg.T 102 eTold := by
  refine ⟨fun a b => ?_, fun a => by simp [kSame, kSames, kSame1]⟩
  have e : aEq cfg.T 4 102 (eTold a) (eTold b) = some (decide (a.1 = b.1) && (decide (a.2.1 = b.2.1) && (decide (a.2.2.1 = b.2.2.1) && (decide (a.2.2.2 = b.2.2.2) && true)))) := rfl
  rw [e]
  obtain ⟨a1, a2, a3, a4⟩ := a; obtain ⟨b1, b2, b3, b4⟩ := b
  by_cases h1 : a1 = b1 <;> by_cases h2 : a2 = b2 <;> by_cases h3 : a3 = b3 <;> by_cases h4 : a4 = b4 <;> simp [h1, h2, h3, h4]
/-- What the program's oracle keeps. -/
structure Orf where
  draws : List Int
  n : Nat
  bad : Bool
  iss : Int → Option Int
  met : Int → Option Int
  hs : ByteArray → Option Int
  tg : Int × ByteArray → Option Int
  se : Int × Int × ByteArray × ByteArray → Option Int
  op : Int × Int × Int × ByteArray → Option Int
  pl : List ByteArray
namespace Orf
structure ok (F : Orf) : Prop where
  iss : ∀ h, 0 ≤ (F.iss h).getD 0 ∧ (F.iss h).getD 0 ≤ F.n
  op : ∀ k, 0 ≤ (F.op k).getD 0 ∧ (F.op k).getD 0 ≤ F.pl.length
  pl : F.pl.length ≤ F.n
def next (F : Orf) : Int := match F.draws[F.n]? with
  | some h => h
  | none => 9223372036854775808 + (F.n : Int)
def isBad (F : Orf) (h : Int) : Bool := F.bad || (decide (h = 0) || decide ((F.iss h).getD 0 > 0) || decide ((F.met h).getD 0 > 0))
def fresh (F : Orf) : Orf := ⟨F.draws, F.n + 1, F.isBad F.next, fun x => if x = F.next then some ((F.iss F.next).getD 0 + 1) else F.iss x, F.met, F.hs, F.tg, F.se, F.op, F.pl⟩
def hash (F : Orf) (a : ByteArray) : Int × Orf := if (F.hs a).isSome then ((F.hs a).getD 0, F) else (F.next, { F.fresh with hs := fun x => if x = a then some F.next else F.fresh.hs x })
def mac (F : Orf) (k : Int) (a : ByteArray) : Int × Orf := if (F.tg (k, a)).isSome then ((F.tg (k, a)).getD 0, F) else (F.next, { F.fresh with tg := fun x => if x = (k, a) then some F.next else F.fresh.tg x })
def sealv (F : Orf) (k n : Int) (a b : ByteArray) : Int × Orf := if (F.se (k, n, a, b)).isSome then ((F.se (k, n, a, b)).getD 0, F) else (F.next, ⟨F.fresh.draws, F.fresh.n, F.fresh.bad, F.fresh.iss, F.fresh.met, F.fresh.hs, F.fresh.tg, (fun x => if x = (k, n, a, b) then some F.next else F.fresh.se x),
  (if (F.op (k, n, F.next, a)).getD 0 = 0 then (fun x => if x = (k, n, F.next, a) then some ((F.pl.length : Int) + 1) else F.op x) else F.op), F.pl ++ [b]⟩)
def meet (F : Orf) (h : Int) : Orf := if (F.iss h).getD 0 = 0 then ⟨F.draws, F.n, F.bad, F.iss, fun x => if x = h then some 1 else F.met x, F.hs, F.tg, F.se, F.op, F.pl⟩ else F
def verify (F : Orf) (k : Int) (a : ByteArray) (t : Int) : Bool × Orf := if (F.tg (k, a)).isSome ∧ (F.tg (k, a)).getD 0 = t then (true, F) else (false, F.meet t)
def opens (F : Orf) (k n : Int) (ad : ByteArray) (v : Int) : (ByteArray × Bool) × Orf := if (F.op (k, n, v, ad)).getD 0 > 0 then ((F.pl.getD (((F.op (k, n, v, ad)).getD 0).toNat - 1) ⟨#[]⟩, true), F) else ((⟨#[]⟩, false), F.meet v)
theorem fresh_ok {F : Orf} (h : F.ok) : F.fresh.ok := by
  refine ⟨fun x => ?_, h.op, Nat.le_trans h.pl (Nat.le_succ _)⟩
  show 0 ≤ (if x = F.next then some ((F.iss F.next).getD 0 + 1) else F.iss x).getD 0 ∧ (if x = F.next then some ((F.iss F.next).getD 0 + 1) else F.iss x).getD 0 ≤ ((F.n + 1 : Nat) : Int)
  split
  · have := h.iss F.next; simp only [Option.getD_some]; omega
  · have := h.iss x; omega
theorem hash_ok {F : Orf} (h : F.ok) (a : ByteArray) : (F.hash a).2.ok := by
  unfold hash; split
  · exact h
  · exact ⟨(fresh_ok h).iss, (fresh_ok h).op, (fresh_ok h).pl⟩
theorem mac_ok {F : Orf} (h : F.ok) (k : Int) (a : ByteArray) : (F.mac k a).2.ok := by
  unfold mac; split
  · exact h
  · exact ⟨(fresh_ok h).iss, (fresh_ok h).op, (fresh_ok h).pl⟩
theorem sealv_ok {F : Orf} (h : F.ok) (k n : Int) (a b : ByteArray) : (F.sealv k n a b).2.ok := by
  unfold sealv; split
  · exact h
  · refine ⟨(fresh_ok h).iss, fun x => ?_, ?_⟩
    · have hx := h.op x
      simp only [List.length_append, List.length_singleton]
      split
      · dsimp only; split
        · simp only [Option.getD_some]; omega
        · omega
      · omega
    · have := h.pl
      simp only [List.length_append, List.length_singleton, fresh]; omega
theorem meet_ok {F : Orf} (h : F.ok) (x : Int) : (F.meet x).ok := by
  unfold meet; split
  · exact ⟨h.iss, h.op, h.pl⟩
  · exact h
theorem verify_ok {F : Orf} (h : F.ok) (k : Int) (a : ByteArray) (t : Int) : (F.verify k a t).2.ok := by
  unfold verify; split
  · exact h
  · exact meet_ok h t
theorem opens_ok {F : Orf} (h : F.ok) (k n : Int) (a : ByteArray) (v : Int) : (F.opens k n a v).2.ok := by
  unfold opens; split
  · exact h
  · exact meet_ok h v
theorem hash_n {F : Orf} (a : ByteArray) : (F.hash a).2.n ≤ F.n + 1 := by unfold hash; split <;> simp [fresh]
theorem mac_n {F : Orf} (k : Int) (a : ByteArray) : (F.mac k a).2.n ≤ F.n + 1 := by unfold mac; split <;> simp [fresh]
theorem sealv_n {F : Orf} (k n : Int) (a b : ByteArray) : (F.sealv k n a b).2.n ≤ F.n + 1 := by unfold sealv; split <;> simp [fresh]
theorem meet_n {F : Orf} (x : Int) : (F.meet x).n = F.n := by unfold meet; split <;> rfl
theorem verify_n {F : Orf} (k : Int) (a : ByteArray) (t : Int) : (F.verify k a t).2.n = F.n := by unfold verify; split <;> first | rfl | exact meet_n t
theorem opens_n {F : Orf} (k n : Int) (a : ByteArray) (v : Int) : (F.opens k n a v).2.n = F.n := by unfold opens; split <;> first | rfl | exact meet_n v
def new (d : List Int) : Orf := ⟨d, 0, false, fun _ => none, fun _ => none, fun _ => none, fun _ => none, fun _ => none, fun _ => none, []⟩
theorem new_ok (d : List Int) : (new d).ok := ⟨fun _ => ⟨by simp [new], by simp [new]⟩, fun _ => ⟨by simp [new], by simp [new]⟩, by simp [new]⟩
end Orf
/-- The program's oracle in the heap. -/
def orc (q : Nm) (F : Orf) : Asr := Asr.ex fun v : AVal × AVal × Nm × Nm × Nm × Nm × Nm × Nm =>
  Asr.all [row q 10 [.agg [v.1, .int .i64 F.n, .bool F.bad, .map v.2.2.1, .map v.2.2.2.1, .map v.2.2.2.2.1, .map v.2.2.2.2.2.1, .map v.2.2.2.2.2.2.1, .map v.2.2.2.2.2.2.2, v.2.1]],
    sl v.1 1 (F.draws.map eU), sl v.2.1 1 (F.pl.map eS), mpF v.2.2.1 eU eI F.iss, mpF v.2.2.2.1 eU eI F.met, mpF v.2.2.2.2.1 eS eU F.hs, mpF v.2.2.2.2.2.1 eTag eU F.tg, mpF v.2.2.2.2.2.2.1 eSeal eU F.se, mpF v.2.2.2.2.2.2.2 eTold eI F.op]
theorem Own.un_orc {q : Nm} {F : Orf} (h : Own β ps H (orc q F :: L)) : ∃ D P m0 m1 m2 m3 m4 m5, Own β ps H (row q 10 [.agg [D, .int .i64 F.n, .bool F.bad, .map m0, .map m1, .map m2, .map m3, .map m4, .map m5, P]] :: sl D 1 (F.draws.map eU) :: sl P 1 (F.pl.map eS) :: mpF m0 eU eI F.iss :: mpF m1 eU eI F.met :: mpF m2 eS eU F.hs :: mpF m3 eTag eU F.tg :: mpF m4 eSeal eU F.se :: mpF m5 eTold eI F.op :: L) := by
  obtain ⟨⟨D, P, m0, m1, m2, m3, m4, m5⟩, h⟩ := h.un_ex
  exact ⟨D, P, m0, m1, m2, m3, m4, m5, h.un_all⟩
theorem Own.mk_orc {q : Nm} {D P : AVal} {m0 m1 m2 m3 m4 m5 : Nm} {n : Int} {m : Nat} {bad : Bool} {d : List Int} {pl : List ByteArray} {xs : List AVal} {f0 f1 : Int → Option Int} {f2 : ByteArray → Option Int} {f3 : Int × ByteArray → Option Int} {f4 : Int × Int × ByteArray × ByteArray → Option Int} {f5 : Int × Int × Int × ByteArray → Option Int}
    (h : Own β ps H (row q 10 [.agg [D, .int .i64 n, .bool bad, .map m0, .map m1, .map m2, .map m3, .map m4, .map m5, P]] :: sl D 1 (d.map eU) :: sl P 1 xs :: mpF m0 eU eI f0 :: mpF m1 eU eI f1 :: mpF m2 eS eU f2 :: mpF m3 eTag eU f3 :: mpF m4 eSeal eU f4 :: mpF m5 eTold eI f5 :: L)) (hm : n = (m : Int)) (hx : xs = pl.map eS := by first | rfl | assumption) :
    Own β ps H (orc q ⟨d, m, bad, f0, f1, f2, f3, f4, f5, pl⟩ :: L) := by
  subst hm
  subst hx
  exact Own.mk_ex (D, P, m0, m1, m2, m3, m4, m5) h.mk_all
theorem Own.re {a b : Asr} (h : Own β ps H (a :: L)) (e : a = b) : Own β ps H (b :: L) := e ▸ h
theorem set_get_self {α : Type} {a : α} : ∀ {L : List α} {k : Nat}, L[k]? = some a → L.set k a = L
  | [], _, h => by simp at h
  | b :: L, 0, h => by simp at h; simp [h]
  | b :: L, k + 1, h => by simp only [List.set_cons_succ]; rw [set_get_self (by simpa using h)]
theorem hold_rot : ∀ {A : List Asr} {X : Asr} {L : List Asr} {fp : List Nm}, hold (X :: (A ++ L)) H fp → ∃ fp', hold (A ++ X :: L) H fp' ∧ ∀ p, p ∈ fp' ↔ p ∈ fp
  | [], X, L, fp, h => ⟨fp, h, fun _ => Iff.rfl⟩
  | a :: A, X, L, fp, h => by
    obtain ⟨f1, h1, h2⟩ := hold_swap h
    obtain ⟨g1, g2, rfl, hd, h3, h4⟩ := h1
    obtain ⟨f3, h5, h6⟩ := hold_rot h4
    exact ⟨g1 ++ f3, ⟨g1, f3, rfl, fun p hp hm => hd p hp ((h6 p).1 hm), h3, h5⟩, fun p => by rw [← h2]; simp [h6]⟩
theorem hold_tor : ∀ {A : List Asr} {X : Asr} {L : List Asr} {fp : List Nm}, hold (A ++ X :: L) H fp → ∃ fp', hold (X :: (A ++ L)) H fp' ∧ ∀ p, p ∈ fp' ↔ p ∈ fp
  | [], X, L, fp, h => ⟨fp, h, fun _ => Iff.rfl⟩
  | a :: A, X, L, fp, h => by
    obtain ⟨f1, f2, rfl, hd, h3, h4⟩ := h
    obtain ⟨f3, h5, h6⟩ := hold_tor h4
    have : hold (a :: X :: (A ++ L)) H (f1 ++ f3) := ⟨f1, f3, rfl, fun p hp hm => hd p hp ((h6 p).1 hm), h3, h5⟩
    obtain ⟨f5, h7, h8⟩ := hold_swap this
    exact ⟨f5, h7, fun p => by rw [h8]; simp [h6]⟩
/-- The first thing behind some others, and back. -/
theorem Own.rot {A : List Asr} {X : Asr} (h : Own β ps H (X :: (A ++ L))) : Own β ps H (A ++ X :: L) := by
  obtain ⟨fp, h1, h2⟩ := h
  obtain ⟨f, h3, h4⟩ := hold_rot h1
  exact ⟨f, h3, fun p hp => h2 p ((h4 p).1 hp)⟩
theorem Own.tor {A : List Asr} {X : Asr} (h : Own β ps H (A ++ X :: L)) : Own β ps H (X :: (A ++ L)) := by
  obtain ⟨fp, h1, h2⟩ := h
  obtain ⟨f, h3, h4⟩ := hold_tor h1
  exact ⟨f, h3, fun p hp => h2 p ((h4 p).1 hp)⟩
end Go.Proofs.Ytoljfmghcfdbpaa.X
