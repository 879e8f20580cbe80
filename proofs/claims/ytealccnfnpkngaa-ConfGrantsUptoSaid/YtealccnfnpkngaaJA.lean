import Derived.Test.YtealccnfnpkngaaK
import Derived.Test.YtealccnfnpkngaaMp
/- The oracle: plain words for what it keeps, and its map-wise state. -/
set_option linter.unusedVariables false
set_option linter.unusedSimpArgs false
set_option maxRecDepth 100000
namespace Go.Proofs.Ytealccnfnpkngaa.X
open Go Go.RowKit
variable {ν β ps pos' : Nm} {H : Heap} {Q : AVal → Heap → Prop} {L : List Asr}
abbrev eU (n : Int) : AVal := .int .u64 n
abbrev eI (n : Int) : AVal := .int .i64 n
abbrev eS (s : ByteArray) : AVal := .str s
abbrev eTag (p : Int × ByteArray) : AVal := .agg [.int .u64 p.1, .str p.2]
abbrev eSeal (p : Int × Int × ByteArray × ByteArray) : AVal := .agg [.int .u64 p.1, .int .u64 p.2.1, .str p.2.2.1, .str p.2.2.2]
abbrev eTold (p : Int × Int × Int × ByteArray) : AVal := .agg [.int .u64 p.1, .int .u64 p.2.1, .int .u64 p.2.2.1, .str p.2.2.2]
theorem kU64 : KeyOk cfg.T 24 eU := ⟨fun a b => rfl, fun a => by simp [kSame, kSame1]⟩
theorem kStr : KeyOk cfg.T 9 eS := ⟨fun a b => rfl, fun a => by simp [kSame, kSame1]⟩
theorem kTag : KeyOk cfg.T 129 eTag := by
  refine ⟨fun a b => ?_, fun a => by simp [kSame, kSames, kSame1]⟩
  have e : aEq cfg.T 4 129 (eTag a) (eTag b) = some (decide (a.1 = b.1) && (decide (a.2 = b.2) && true)) := rfl
  rw [e]
  obtain ⟨a1, a2⟩ := a; obtain ⟨b1, b2⟩ := b
  by_cases h1 : a1 = b1 <;> by_cases h2 : a2 = b2 <;> simp [h1, h2]
theorem kSeal : KeyOk cfg.T 162 eSeal := by
  refine ⟨fun a b => ?_, fun a => by simp [kSame, kSames, kSame1]⟩
  have e : aEq cfg.T 4 162 (eSeal a) (eSeal b) = some (decide (a.1 = b.1) && (decide (a.2.1 = b.2.1) && (decide (a.2.2.1 = b.2.2.1) && (decide (a.2.2.2 = b.2.2.2) && true)))) := rfl
  rw [e]
  obtain ⟨a1, a2, a3, a4⟩ := a; obtain ⟨b1, b2, b3, b4⟩ := b
  by_cases h1 : a1 = b1 <;> by_cases h2 : a2 = b2 <;> by_cases h3 : a3 = b3 <;> by_cases h4 : a4 = b4 <;> simp [h1, h2, h3, h4]
theorem kTold : KeyOk cfg.T 164 eTold := by
  refine ⟨fun a b => ?_, fun a => by simp [kSame, kSames, kSame1]⟩
  have e : aEq cfg.T 4 164 (eTold a) (eTold b) = some (decide (a.1 = b.1) && (decide (a.2.1 = b.2.1) && (decide (a.2.2.1 = b.2.2.1) && (decide (a.2.2.2 = b.2.2.2) && true)))) := rfl
  rw [e]
  obtain ⟨a1, a2, a3, a4⟩ := a; obtain ⟨b1, b2, b3, b4⟩ := b
  by_cases h1 : a1 = b1 <;> by_cases h2 : a2 = b2 <;> by_cases h3 : a3 = b3 <;> by_cases h4 : a4 = b4 <;> simp [h1, h2, h3, h4]
/-- What the program's oracle keeps. -/
structure Orf where
  draws : List Int
  n : Nat
  bad : Bool
  iss : Int → Option Int
  met : Int → Option Int
  hs : ByteArray → Option Int
  tg : Int × ByteArray → Option Int
  se : Int × Int × ByteArray × ByteArray → Option Int
  op : Int × Int × Int × ByteArray → Option Int
  pl : List ByteArray
namespace Orf
structure ok (F : Orf) : Prop where
  iss : ∀ h, 0 ≤ (F.iss h).getD 0 ∧ (F.iss h).getD 0 ≤ F.n
  op : ∀ k, 0 ≤ (F.op k).getD 0 ∧ (F.op k).getD 0 ≤ F.pl.length
  pl : F.pl.length ≤ F.n
def next (F : Orf) : Int := match F.draws[F.n]? with
  | some h => h
  | none => 9223372036854775808 + (F.n : Int)
def isBad (F : Orf) (h : Int) : Bool := F.bad || (decide (h = 0) || decide ((F.iss h).getD 0 > 0) || decide ((F.met h).getD 0 > 0))
def fresh (F : Orf) : Orf := ⟨F.draws, F.n + 1, F.isBad F.next, fun x => if x = F.next then some ((F.iss F.next).getD 0 + 1) else F.iss x, F.met, F.hs, F.tg, F.se, F.op, F.pl⟩
def hash (F : Orf) (a : ByteArray) : Int × Orf := if (F.hs a).isSome then ((F.hs a).getD 0, F) else (F.next, { F.fresh with hs := fun x => if x = a then some F.next else F.fresh.hs x })
def mac (F : Orf) (k : Int) (a : ByteArray) : Int × Orf := if (F.tg (k, a)).isSome then ((F.tg (k, a)).getD 0, F) else (F.next, { F.fresh with tg := fun x => if x = (k, a) then some F.next else F.fresh.tg x })
def sealv (F : Orf) (k n : Int) (a b : ByteArray) : Int × Orf := if (F.se (k, n, a, b)).isSome then ((F.se (k, n, a, b)).getD 0, F) else (F.next, ⟨F.fresh.draws, F.fresh.n, F.fresh.bad, F.fresh.iss, F.fresh.met, F.fresh.hs, F.fresh.tg, (fun x => if x = (k, n, a, b) then some F.next else F.fresh.se x),
  (if (F.op (k, n, F.next, a)).getD 0 = 0 then (fun x => if x = (k, n, F.next, a) then some ((F.pl.length : Int) + 1) else F.op x) else F.op), F.pl ++ [b]⟩)
def meet (F : Orf) (h : Int) : Orf := if (F.iss h).getD 0 = 0 then ⟨F.draws, F.n, F.bad, F.iss, fun x => if x = h then some 1 else F.met x, F.hs, F.tg, F.se, F.op, F.pl⟩ else F
def verify (F : Orf) (k : Int) (a : ByteArray) (t : Int) : Bool × Orf := if (F.tg (k, a)).isSome ∧ (F.tg (k, a)).getD 0 = t then (true, F) else (false, F.meet t)
def opens (F : Orf) (k n : Int) (ad : ByteArray) (v : Int) : (ByteArray × Bool) × Orf := if (F.op (k, n, v, ad)).getD 0 > 0 then ((F.pl.getD (((F.op (k, n, v, ad)).getD 0).toNat - 1) ⟨#[]⟩, true), F) else ((⟨#[]⟩, false), F.meet v)
theorem fresh_ok {F : Orf} (h : F.ok) : F.fresh.ok := by
  refine ⟨fun x => ?_, h.op, Nat.le_trans h.pl (Nat.le_succ _)⟩
  show 0 ≤ (if x = F.next then some ((F.iss F.next).getD 0 + 1) else F.iss x).getD 0 ∧ (if x = F.next then some ((F.iss F.next).getD 0 + 1) else F.iss x).getD 0 ≤ ((F.n + 1 : Nat) : Int)
  split
  · have := h.iss F.next; simp only [Option.getD_some]; omega
  · have := h.iss x; omega
theorem hash_ok {F : Orf} (h : F.ok) (a : ByteArray) : (F.hash a).2.ok := by
  unfold hash; split
  · exact h
  · exact ⟨(fresh_ok h).iss, (fresh_ok h).op, (fresh_ok h).pl⟩
theorem mac_ok {F : Orf} (h : F.ok) (k : Int) (a : ByteArray) : (F.mac k a).2.ok := by
  unfold mac; split
  · exact h
  · exact ⟨(fresh_ok h).iss, (fresh_ok h).op, (fresh_ok h).pl⟩
theorem sealv_ok {F : Orf} (h : F.ok) (k n : Int) (a b : ByteArray) : (F.sealv k n a b).2.ok := by
  unfold sealv; split
  · exact h
  · refine ⟨(fresh_ok h).iss, fun x => ?_, ?_⟩
    · have hx := h.op x
      simp only [List.length_append, List.length_singleton]
      split
      · dsimp only; split
        · simp only [Option.getD_some]; omega
        · omega
      · omega
    · have := h.pl
      simp only [List.length_append, List.length_singleton, fresh]; omega
theorem meet_ok {F : Orf} (h : F.ok) (x : Int) : (F.meet x).ok := by
  unfold meet; split
  · exact ⟨h.iss, h.op, h.pl⟩
  · exact h
theorem verify_ok {F : Orf} (h : F.ok) (k : Int) (a : ByteArray) (t : Int) : (F.verify k a t).2.ok := by
  unfold verify; split
  · exact h
  · exact meet_ok h t
theorem opens_ok {F : Orf} (h : F.ok) (k n : Int) (a : ByteArray) (v : Int) : (F.opens k n a v).2.ok := by
  unfold opens; split
  · exact h
  · exact meet_ok h v
theorem hash_n {F : Orf} (a : ByteArray) : (F.hash a).2.n ≤ F.n + 1 := by unfold hash; split <;> simp [fresh]
theorem mac_n {F : Orf} (k : Int) (a : ByteArray) : (F.mac k a).2.n ≤ F.n + 1 := by unfold mac; split <;> simp [fresh]
theorem sealv_n {F : Orf} (k n : Int) (a b : ByteArray) : (F.sealv k n a b).2.n ≤ F.n + 1 := by unfold sealv; split <;> simp [fresh]
theorem meet_n {F : Orf} (x : Int) : (F.meet x).n = F.n := by unfold meet; split <;> rfl
theorem verify_n {F : Orf} (k : Int) (a : ByteArray) (t : Int) : (F.verify k a t).2.n = F.n := by unfold verify; split <;> first | rfl | exact meet_n t
theorem opens_n {F : Orf} (k n : Int) (a : ByteArray) (v : Int) : (F.opens k n a v).2.n = F.n := by unfold opens; split <;> first | rfl | exact meet_n v
def new (d : List Int) : Orf := ⟨d, 0, false, fun _ => none, fun _ => none, fun _ => none, fun _ => none, fun _ => none, fun _ => none, []⟩
theorem new_ok (d : List Int) : (new d).ok := ⟨fun _ => ⟨by simp [new], by simp [new]⟩, fun _ => ⟨by simp [new], by simp [new]⟩, by simp [new]⟩
end Orf
/-- The program's oracle in the heap. -/
def orc (q : Nm) (F : Orf) : Asr := Asr.ex fun v : AVal × AVal × Nm × Nm × Nm × Nm × Nm × Nm =>
  Asr.all [row q 10 [.agg [v.1, .int .i64 F.n, .bool F.bad, .map v.2.2.1, .map v.2.2.2.1, .map v.2.2.2.2.1, .map v.2.2.2.2.2.1, .map v.2.2.2.2.2.2.1, .map v.2.2.2.2.2.2.2, v.2.1]],
    sl v.1 1 (F.draws.map eU), sl v.2.1 1 (F.pl.map eS), mpF v.2.2.1 eU eI F.iss, mpF v.2.2.2.1 eU eI F.met, mpF v.2.2.2.2.1 eS eU F.hs, mpF v.2.2.2.2.2.1 eTag eU F.tg, mpF v.2.2.2.2.2.2.1 eSeal eU F.se, mpF v.2.2.2.2.2.2.2 eTold eI F.op]
theorem Own.un_orc {q : Nm} {F : Orf} (h : Own β ps H (orc q F :: L)) : ∃ D P m0 m1 m2 m3 m4 m5, Own β ps H (row q 10 [.agg [D, .int .i64 F.n, .bool F.bad, .map m0, .map m1, .map m2, .map m3, .map m4, .map m5, P]] :: sl D 1 (F.draws.map eU) :: sl P 1 (F.pl.map eS) :: mpF m0 eU eI F.iss :: mpF m1 eU eI F.met :: mpF m2 eS eU F.hs :: mpF m3 eTag eU F.tg :: mpF m4 eSeal eU F.se :: mpF m5 eTold eI F.op :: L) := by
  obtain ⟨⟨D, P, m0, m1, m2, m3, m4, m5⟩, h⟩ := h.un_ex
  exact ⟨D, P, m0, m1, m2, m3, m4, m5, h.un_all⟩
theorem Own.mk_orc {q : Nm} {D P : AVal} {m0 m1 m2 m3 m4 m5 : Nm} {n : Int} {m : Nat} {bad : Bool} {d : List Int} {pl : List ByteArray} {xs : List AVal} {f0 f1 : Int → Option Int} {f2 : ByteArray → Option Int} {f3 : Int × ByteArray → Option Int} {f4 : Int × Int × ByteArray × ByteArray → Option Int} {f5 : Int × Int × Int × ByteArray → Option Int}
    (h : Own β ps H (row q 10 [.agg [D, .int .i64 n, .bool bad, .map m0, .map m1, .map m2, .map m3, .map m4, .map m5, P]] :: sl D 1 (d.map eU) :: sl P 1 xs :: mpF m0 eU eI f0 :: mpF m1 eU eI f1 :: mpF m2 eS eU f2 :: mpF m3 eTag eU f3 :: mpF m4 eSeal eU f4 :: mpF m5 eTold eI f5 :: L)) (hm : n = (m : Int)) (hx : xs = pl.map eS := by first | rfl | assumption) :
    Own β ps H (orc q ⟨d, m, bad, f0, f1, f2, f3, f4, f5, pl⟩ :: L) := by
  subst hm
  subst hx
  exact Own.mk_ex (D, P, m0, m1, m2, m3, m4, m5) h.mk_all
end Go.Proofs.Ytealccnfnpkngaa.X
/- What the program's oracle does. -/
set_option linter.unusedVariables false
set_option linter.unusedSimpArgs false
set_option maxRecDepth 100000
namespace Go.Proofs.Ytealccnfnpkngaa.X
open Go Go.RowKit
theorem EN68_J2 {c : Cfg} {ν : Nm} {e : Env} {H : Heap} {all : Array Oper} {r : List Oper} {i : Nat} {Q : Env → Heap → Prop} {x0 x1 x2 x3 x4 x5 x6 x7 x8 x9 x10 x11 x12 x13 x14 x15 x16 x17 x18 x19 x20 x21 x22 x23 x24 x25 x26 x27 x28 x29 x30 x31 x32 x33 x34 x35 x36 x37 x38 x39 x40 x41 x42 x43 x44 x45 x46 x47 x48 x49 x50 x51 x52 x53 x54 x55 x56 x57 x58 x59 x60 x61 x62 x63 x64 x65 x66 x67 : AVal} (he : e = [x0,x1,x2,x3,x4,x5,x6,x7,x8,x9,x10,x11,x12,x13,x14,x15,x16,x17,x18,x19,x20,x21,x22,x23,x24,x25,x26,x27,x28,x29,x30,x31,x32,x33,x34,x35,x36,x37,x38,x39,x40,x41,x42,x43,x44,x45,x46,x47,x48,x49,x50,x51,x52,x53,x54,x55,x56,x57,x58,x59,x60,x61,x62,x63,x64,x65,x66,x67]) (h : OW c ν all r i [x0,x1,x2,x3,x4,x5,x6,x7,x8,x9,x10,x11,x12,x13,x14,x15,x16,x17,x18,x19,x20,x21,x22,x23,x24,x25,x26,x27,x28,x29,x30,x31,x32,x33,x34,x35,x36,x37,x38,x39,x40,x41,x42,x43,x44,x45,x46,x47,x48,x49,x50,x51,x52,x53,x54,x55,x56,x57,x58,x59,x60,x61,x62,x63,x64,x65,x66,x67] H Q) : OW c ν all r i e H Q := by subst he; exact h
theorem EZ68_J2 {c : Cfg} {ν : Nm} {e : Env} {H : Heap} {all : Array Oper} {i : Nat} {Q : Env → Heap → Prop} {x0 x1 x2 x3 x4 x5 x6 x7 x8 x9 x10 x11 x12 x13 x14 x15 x16 x17 x18 x19 x20 x21 x22 x23 x24 x25 x26 x27 x28 x29 x30 x31 x32 x33 x34 x35 x36 x37 x38 x39 x40 x41 x42 x43 x44 x45 x46 x47 x48 x49 x50 x51 x52 x53 x54 x55 x56 x57 x58 x59 x60 x61 x62 x63 x64 x65 x66 x67 : AVal} (he : e = [x0,x1,x2,x3,x4,x5,x6,x7,x8,x9,x10,x11,x12,x13,x14,x15,x16,x17,x18,x19,x20,x21,x22,x23,x24,x25,x26,x27,x28,x29,x30,x31,x32,x33,x34,x35,x36,x37,x38,x39,x40,x41,x42,x43,x44,x45,x46,x47,x48,x49,x50,x51,x52,x53,x54,x55,x56,x57,x58,x59,x60,x61,x62,x63,x64,x65,x66,x67]) (h : Q [x0,x1,x2,x3,x4,x5,x6,x7,x8,x9,x10,x11,x12,x13,x14,x15,x16,x17,x18,x19,x20,x21,x22,x23,x24,x25,x26,x27,x28,x29,x30,x31,x32,x33,x34,x35,x36,x37,x38,x39,x40,x41,x42,x43,x44,x45,x46,x47,x48,x49,x50,x51,x52,x53,x54,x55,x56,x57,x58,x59,x60,x61,x62,x63,x64,x65,x66,x67] H) : OW c ν all [] i e H Q := by subst he; exact OW_nil h
variable {ν β ps pos' : Nm} {H : Heap} {Q : AVal → Heap → Prop} {L : List Asr} {q : Nm} {F : Orf} {k : Nat}
theorem iFresh (hS : Own β ps H L) (hL : L[k]? = some (orc q F)) (hle : le ps ν) (hβ : under β ν = true) (hp : before ν pos') (hok : F.ok) (hn : F.n ≤ 4294967000)
    (hq : ∀ H1, Own β pos' H1 (L.set k (orc q F.fresh)) → Q (.int .u64 F.next) H1) : CW cfg ν 88 [.ptr q 0 0] H Q := by
  obtain ⟨D, P, m0, m1, m2, m3, m4, m5, hS⟩ := (hS.pick hL).un_orc
  obtain ⟨d, n, bad, f0, f1, f2, f3, f4, f5, pl⟩ := F
  dsimp only at hS hn
  have ho := hok.iss
  dsimp only at ho
  refine CW_keep g88 F88 rfl ?_
  replace hS := Own.mono hS hle
  refine XW_sr ?_
  refine OW_as rfl rfl ?_
  refine EZ68_J2 rfl ?_
  refine XW_sr ?_
  refine OW_mv rfl rfl ?_
  first
  | refine OW_nc rfl rfl ?_
  | refine OW_nce rfl rfl ?_
  refine OW_fa rfl rfl rfl ?_
  refine EN68_J2 rfl ?_
  refine OW_loadR hS (k := 0) rfl rfl rfl rfl rfl (by first | exact part_whole rfl rfl rfl | rfl) ?_
  first
  | refine OW_conv rfl rfl (conv_in rfl rfl rfl (IntWalk.u64_in _ (by omega))) ?_
  | refine OW_conv rfl rfl rfl ?_
  first
  | refine OW_bin rfl rfl rfl rfl (add_wu64 (by first | omega | assumption | (simp only [ss]; omega))) ?_
  | refine OW_bin rfl rfl rfl rfl rfl ?_
  refine EN68_J2 rfl ?_
  refine OW_as rfl rfl ?_
  refine EZ68_J2 rfl ?_
  refine XW_mid (M := fun ee H' => ∃ (h : Int) (D : AVal), Own β (1 :: 1 :: 1 :: ν) H' (row q 10 [.agg [D, .int .i64 n, .bool bad, .map m0, .map m1, .map m2, .map m3, .map m4, .map m5, P]] :: sl D 1 (d.map eU) :: sl P 1 (pl.map eS) :: mpF m0 eU eI f0 :: mpF m1 eU eI f1 :: mpF m2 eS eU f2 :: mpF m3 eTag eU f3 :: mpF m4 eSeal eU f4 :: mpF m5 eTold eI f5 :: L.eraseIdx k) ∧ (h = Orf.next ⟨d, n, bad, f0, f1, f2, f3, f4, f5, pl⟩) ∧ ∃ g : Nat → AVal, ee = [.ptr q 0 0, g 1, g 2, .int .u64 h, g 4, g 5, g 6, g 7, g 8, g 9, g 10, g 11, g 12, g 13, g 14, g 15, g 16, g 17, g 18, g 19, g 20, g 21, g 22, g 23, g 24, g 25, g 26, g 27, g 28, g 29, g 30, g 31, g 32, g 33, g 34, g 35, g 36, g 37, g 38, g 39, g 40, g 41, g 42, g 43, g 44, g 45, g 46, g 47, g 48, g 49, g 50, g 51, g 52, g 53, g 54, g 55, g 56, g 57, g 58, g 59, g 60, g 61, g 62, g 63, g 64, g 65, g 66, g 67]) ?_ ?_
  ·skip
   refine XW_sr ?_
   refine OW_mv rfl rfl ?_
   first
   | refine OW_nc rfl rfl ?_
   | refine OW_nce rfl rfl ?_
   refine OW_fa rfl rfl rfl ?_
   refine EN68_J2 rfl ?_
   refine OW_loadR hS (k := 0) rfl rfl rfl rfl rfl (by first | exact part_whole rfl rfl rfl | rfl) ?_
   refine OW_mv rfl rfl ?_
   first
   | refine OW_nc rfl rfl ?_
   | refine OW_nce rfl rfl ?_
   refine EN68_J2 rfl ?_
   refine OW_fa rfl rfl rfl ?_
   refine OW_loadR hS (k := 0) rfl rfl rfl rfl rfl (by first | exact part_whole rfl rfl rfl | rfl) ?_
   refine OW_lenO hS (k := 1) rfl rfl rfl rfl rfl rfl (by first | exact List.length_map _ | exact len_app1 | exact len_drop | (simp only [ss]; rfl) | rfl) ?_
   refine EN68_J2 rfl ?_
   refine OW_bin rfl rfl rfl rfl rfl ?_
   refine EZ68_J2 rfl ?_
   refine XW_if rfl (fun h2 => ?_) (fun h2 => ?_)
   ·try simp only [bs] at h2
    refine XW_region ?_
    refine OW_mv rfl rfl ?_
    first
    | refine OW_nc rfl rfl ?_
    | refine OW_nce rfl rfl ?_
    refine OW_fa rfl rfl rfl ?_
    refine EN68_J2 rfl ?_
    refine OW_loadR hS (k := 0) rfl rfl rfl rfl rfl (by first | exact part_whole rfl rfl rfl | rfl) ?_
    refine OW_mv rfl rfl ?_
    first
    | refine OW_nc rfl rfl ?_
    | refine OW_nce rfl rfl ?_
    refine EN68_J2 rfl ?_
    refine OW_fa rfl rfl rfl ?_
    refine OW_loadR hS (k := 0) rfl rfl rfl rfl rfl (by first | exact part_whole rfl rfl rfl | rfl) ?_
    refine OW_iaO hS (k := 1) rfl rfl rfl rfl rfl rfl rfl rfl (by first | rfl | exact (Int.toNat_of_nonneg (by omega)).symm) (by first | assumption | exact at_map (by first | assumption | omega) | exact at_lst (by omega) | rfl) fun q1 ys1 hO1 hq1 ht1 hy1 hu1 => ?_
    subst hO1
    refine EN68_J2 rfl ?_
    refine OW_loadP rfl rfl hq1 hy1 rfl (by first | exact part_whole rfl rfl rfl | rfl) ?_
    refine OW_as rfl rfl ?_
    refine EZ68_J2 rfl ?_
    -- mid 4.1
    refine ⟨_, _, Own.cast (Own.mono (hS) (le_app (p := ν) (b := [1, 1, 1]))) (rfl), ?_, env_g rfl⟩
    · simp only [Orf.next]; rw [List.getElem?_eq_getElem (by omega)]
   ·try simp only [bs] at h2
    refine XW_skip ?_
    -- mid 4.2
    refine ⟨_, _, Own.cast (Own.mono (hS) (le_app (p := ν) (b := [1, 1, 1]))) (rfl), ?_, env_g rfl⟩
    · simp only [Orf.next]; rw [List.getElem?_eq_none (by omega)]
  ·rintro ee H1 ⟨h, D, hS1, hh, g1, rfl⟩
   have hfr : (Orf.mk d n bad f0 f1 f2 f3 f4 f5 pl).fresh = ⟨d, n + 1, bad || (decide (h = 0) || decide ((f0 h).getD 0 > 0) || decide ((f1 h).getD 0 > 0)), fun x => if x = h then some ((f0 h).getD 0 + 1) else f0 x, f1, f2, f3, f4, f5, pl⟩ := by rw [hh]; rfl
   rw [← hh, hfr] at hq
   refine XW_sr ?_
   refine OW_mv rfl rfl ?_
   first
   | refine OW_nc rfl rfl ?_
   | refine OW_nce rfl rfl ?_
   refine OW_fa rfl rfl rfl ?_
   refine EN68_J2 rfl ?_
   refine OW_loadR hS1 (k := 0) rfl rfl rfl rfl rfl (by first | exact part_whole rfl rfl rfl | rfl) ?_
   first
   | refine OW_bin rfl rfl rfl rfl (add_w64 (by first | omega | assumption | (simp only [ss]; omega))) ?_
   | refine OW_bin rfl rfl rfl rfl rfl ?_
   first
   | refine OW_nc rfl rfl ?_
   | refine OW_nce rfl rfl ?_
   refine EN68_J2 rfl ?_
   refine OW_fa rfl rfl rfl ?_
   refine OW_storeR hS1 (k := 0) rfl (le_app (p := 1 :: 1 :: 1 :: ν) (b := [7, 0])) rfl rfl rfl rfl ⟨rfl, rfl, Nat.le_of_ble_eq_true rfl⟩ (u2 := .agg [_, _, _, _, _, _, _, _, _, _]) rfl fun H2 hS2 => ?_
   replace hS2 : Own _ _ _ (_ :: _ :: _ :: _ :: _ :: _ :: _ :: _ :: _ :: L.eraseIdx k) := hS2
   refine EZ68_J2 rfl ?_
   refine XW_seq ?_
   refine XW_sr ?_
   refine OW_mv rfl rfl ?_
   refine OW_bin rfl rfl rfl rfl rfl ?_
   refine OW_mv rfl rfl ?_
   refine EN68_J2 rfl ?_
   refine OW_split (tt := 39) rfl (fun g5_3 => ?_) (fun g5_3 => ?_)
   ·try simp only [bs] at g5_3
    refine OW_no rfl ?_
    refine OW_no rfl ?_
    refine EN68_J2 rfl ?_
    refine OW_no rfl ?_
    refine OW_no rfl ?_
    refine OW_no rfl ?_
    refine EN68_J2 rfl ?_
    refine OW_no rfl ?_
    refine OW_no rfl ?_
    refine OW_pick rfl rfl rfl ?_
    refine EN68_J2 rfl ?_
    refine OW_mv rfl rfl ?_
    refine OW_no rfl ?_
    refine OW_no rfl ?_
    refine EN68_J2 rfl ?_
    refine OW_no rfl ?_
    refine OW_no rfl ?_
    refine OW_no rfl ?_
    refine EN68_J2 rfl ?_
    refine OW_no rfl ?_
    refine OW_no rfl ?_
    refine OW_pick rfl rfl rfl ?_
    refine EZ68_J2 rfl ?_
    refine XW_yes rfl rfl ?_
    refine XW_region ?_
    refine OW_mv rfl rfl ?_
    first
    | refine OW_nc rfl rfl ?_
    | refine OW_nce rfl rfl ?_
    refine OW_fa rfl rfl rfl ?_
    refine EN68_J2 rfl ?_
    refine OW_storeR hS2 (k := 0) rfl (le_lit (ν := ν) (a := [8, 0, 1, 1, 1]) (b := [3, 1, 0, 1, 1, 1, 1]) (by decide)) rfl rfl rfl rfl ⟨rfl, rfl, Nat.le_of_ble_eq_true rfl⟩ (u2 := .agg [_, _, _, _, _, _, _, _, _, _]) rfl fun H3 hS3 => ?_
    replace hS3 : Own _ _ _ (_ :: _ :: _ :: _ :: _ :: _ :: _ :: _ :: _ :: L.eraseIdx k) := hS3
    refine EZ68_J2 rfl ?_
    refine then_norm ?_
    refine XW_sr ?_
    refine OW_mv rfl rfl ?_
    first
    | refine OW_nc rfl rfl ?_
    | refine OW_nce rfl rfl ?_
    refine OW_fa rfl rfl rfl ?_
    refine EN68_J2 rfl ?_
    refine OW_loadR hS3 (k := 0) rfl rfl rfl rfl rfl (by first | exact part_whole rfl rfl rfl | rfl) ?_
    refine OW_mv rfl rfl ?_
    refine OW_lookV hS3 (k := 3) rfl rfl rfl _ rfl rfl rfl rfl kU64 (z0 := 0) rfl ?_
    refine EN68_J2 rfl ?_
    have ho := ho h
    first
    | refine OW_bin rfl rfl rfl rfl (add_w64 (by first | omega | assumption | (simp only [ss]; omega))) ?_
    | refine OW_bin rfl rfl rfl rfl rfl ?_
    refine OW_setM hS3 (k := 3) rfl (le_lit (ν := ν) (a := [4, 1, 0, 1, 1, 1, 1]) (b := [7, 0, 1, 1, 1, 1, 1]) (by decide)) rfl rfl _ rfl rfl rfl rfl kU64 fun H5 hS5 => ?_
    replace hS5 : Own _ _ _ (_ :: _ :: _ :: _ :: _ :: _ :: _ :: _ :: _ :: L.eraseIdx k) := hS5
    refine EZ68_J2 rfl ?_
    refine XW_sr ?_
    refine OW_mv rfl rfl ?_
    refine OW_as rfl rfl ?_
    refine EZ68_J2 rfl ?_
    refine XW_ret ?_
    -- outcome 1
    refine ret_ret (res1 rfl (rv_tmp rfl)) ?_
    refine hq _ (Own.unpick (Own.re (Own.mk_orc (m := n + 1) (Own.mono hS5 (le_bef (bef_app (a := [8, 0, 1, 1, 1, 1, 1]) hp))) (by simp)) (by congr 2; clear hfr hq hh; first | (simp_all; done) | (simp_all; intro hx; omega))) hL)
   ·try simp only [bs] at g5_3
    refine OW_mv rfl rfl ?_
    first
    | refine OW_nc rfl rfl ?_
    | refine OW_nce rfl rfl ?_
    refine EN68_J2 rfl ?_
    refine OW_fa rfl rfl rfl ?_
    refine OW_loadR hS2 (k := 0) rfl rfl rfl rfl rfl (by first | exact part_whole rfl rfl rfl | rfl) ?_
    refine OW_mv rfl rfl ?_
    refine EN68_J2 rfl ?_
    refine OW_lookV hS2 (k := 3) rfl rfl rfl _ rfl rfl rfl rfl kU64 (z0 := 0) rfl ?_
    refine OW_bin rfl rfl rfl rfl rfl ?_
    refine OW_pick rfl rfl rfl ?_
    refine EN68_J2 rfl ?_
    refine OW_mv rfl rfl ?_
    refine OW_split (tt := 48) rfl (fun g5_12 => ?_) (fun g5_12 => ?_)
    ·try simp only [bs] at g5_12
     refine OW_no rfl ?_
     refine EN68_J2 rfl ?_
     refine OW_no rfl ?_
     refine OW_no rfl ?_
     refine OW_no rfl ?_
     refine EN68_J2 rfl ?_
     refine OW_no rfl ?_
     refine OW_no rfl ?_
     refine OW_no rfl ?_
     refine EN68_J2 rfl ?_
     refine OW_pick rfl rfl rfl ?_
     refine EZ68_J2 rfl ?_
     refine XW_yes rfl rfl ?_
     refine XW_region ?_
     refine OW_mv rfl rfl ?_
     first
     | refine OW_nc rfl rfl ?_
     | refine OW_nce rfl rfl ?_
     refine OW_fa rfl rfl rfl ?_
     refine EN68_J2 rfl ?_
     refine OW_storeR hS2 (k := 0) rfl (le_lit (ν := ν) (a := [8, 0, 1, 1, 1]) (b := [3, 1, 0, 1, 1, 1, 1]) (by decide)) rfl rfl rfl rfl ⟨rfl, rfl, Nat.le_of_ble_eq_true rfl⟩ (u2 := .agg [_, _, _, _, _, _, _, _, _, _]) rfl fun H7 hS7 => ?_
     replace hS7 : Own _ _ _ (_ :: _ :: _ :: _ :: _ :: _ :: _ :: _ :: _ :: L.eraseIdx k) := hS7
     refine EZ68_J2 rfl ?_
     refine then_norm ?_
     refine XW_sr ?_
     refine OW_mv rfl rfl ?_
     first
     | refine OW_nc rfl rfl ?_
     | refine OW_nce rfl rfl ?_
     refine OW_fa rfl rfl rfl ?_
     refine EN68_J2 rfl ?_
     refine OW_loadR hS7 (k := 0) rfl rfl rfl rfl rfl (by first | exact part_whole rfl rfl rfl | rfl) ?_
     refine OW_mv rfl rfl ?_
     refine OW_lookV hS7 (k := 3) rfl rfl rfl _ rfl rfl rfl rfl kU64 (z0 := 0) rfl ?_
     refine EN68_J2 rfl ?_
     have ho := ho h
     first
     | refine OW_bin rfl rfl rfl rfl (add_w64 (by first | omega | assumption | (simp only [ss]; omega))) ?_
     | refine OW_bin rfl rfl rfl rfl rfl ?_
     refine OW_setM hS7 (k := 3) rfl (le_lit (ν := ν) (a := [4, 1, 0, 1, 1, 1, 1]) (b := [7, 0, 1, 1, 1, 1, 1]) (by decide)) rfl rfl _ rfl rfl rfl rfl kU64 fun H9 hS9 => ?_
     replace hS9 : Own _ _ _ (_ :: _ :: _ :: _ :: _ :: _ :: _ :: _ :: _ :: L.eraseIdx k) := hS9
     refine EZ68_J2 rfl ?_
     refine XW_sr ?_
     refine OW_mv rfl rfl ?_
     refine OW_as rfl rfl ?_
     refine EZ68_J2 rfl ?_
     refine XW_ret ?_
     -- outcome 2
     refine ret_ret (res1 rfl (rv_tmp rfl)) ?_
     refine hq _ (Own.unpick (Own.re (Own.mk_orc (m := n + 1) (Own.mono hS9 (le_bef (bef_app (a := [8, 0, 1, 1, 1, 1, 1]) hp))) (by simp)) (by congr 2; clear hfr hq hh; first | (simp_all; done) | (simp_all; intro hx; omega))) hL)
    ·try simp only [bs] at g5_12
     refine OW_mv rfl rfl ?_
     refine EN68_J2 rfl ?_
     first
     | refine OW_nc rfl rfl ?_
     | refine OW_nce rfl rfl ?_
     refine OW_fa rfl rfl rfl ?_
     refine OW_loadR hS2 (k := 0) rfl rfl rfl rfl rfl (by first | exact part_whole rfl rfl rfl | rfl) ?_
     refine EN68_J2 rfl ?_
     refine OW_mv rfl rfl ?_
     refine OW_lookV hS2 (k := 4) rfl rfl rfl _ rfl rfl rfl rfl kU64 (z0 := 0) rfl ?_
     refine OW_bin rfl rfl rfl rfl rfl ?_
     refine EN68_J2 rfl ?_
     refine OW_pick rfl rfl rfl ?_
     refine EZ68_J2 rfl ?_
     refine XW_if rfl (fun h5 => ?_) (fun h5 => ?_)
     ·try simp only [bs] at h5
      refine XW_region ?_
      refine OW_mv rfl rfl ?_
      first
      | refine OW_nc rfl rfl ?_
      | refine OW_nce rfl rfl ?_
      refine OW_fa rfl rfl rfl ?_
      refine EN68_J2 rfl ?_
      refine OW_storeR hS2 (k := 0) rfl (le_lit (ν := ν) (a := [8, 0, 1, 1, 1]) (b := [3, 1, 0, 1, 1, 1, 1]) (by decide)) rfl rfl rfl rfl ⟨rfl, rfl, Nat.le_of_ble_eq_true rfl⟩ (u2 := .agg [_, _, _, _, _, _, _, _, _, _]) rfl fun H11 hS11 => ?_
      replace hS11 : Own _ _ _ (_ :: _ :: _ :: _ :: _ :: _ :: _ :: _ :: _ :: L.eraseIdx k) := hS11
      refine EZ68_J2 rfl ?_
      refine then_norm ?_
      refine XW_sr ?_
      refine OW_mv rfl rfl ?_
      first
      | refine OW_nc rfl rfl ?_
      | refine OW_nce rfl rfl ?_
      refine OW_fa rfl rfl rfl ?_
      refine EN68_J2 rfl ?_
      refine OW_loadR hS11 (k := 0) rfl rfl rfl rfl rfl (by first | exact part_whole rfl rfl rfl | rfl) ?_
      refine OW_mv rfl rfl ?_
      refine OW_lookV hS11 (k := 3) rfl rfl rfl _ rfl rfl rfl rfl kU64 (z0 := 0) rfl ?_
      refine EN68_J2 rfl ?_
      have ho := ho h
      first
      | refine OW_bin rfl rfl rfl rfl (add_w64 (by first | omega | assumption | (simp only [ss]; omega))) ?_
      | refine OW_bin rfl rfl rfl rfl rfl ?_
      refine OW_setM hS11 (k := 3) rfl (le_lit (ν := ν) (a := [4, 1, 0, 1, 1, 1, 1]) (b := [7, 0, 1, 1, 1, 1, 1]) (by decide)) rfl rfl _ rfl rfl rfl rfl kU64 fun H13 hS13 => ?_
      replace hS13 : Own _ _ _ (_ :: _ :: _ :: _ :: _ :: _ :: _ :: _ :: _ :: L.eraseIdx k) := hS13
      refine EZ68_J2 rfl ?_
      refine XW_sr ?_
      refine OW_mv rfl rfl ?_
      refine OW_as rfl rfl ?_
      refine EZ68_J2 rfl ?_
      refine XW_ret ?_
      -- outcome 3
      refine ret_ret (res1 rfl (rv_tmp rfl)) ?_
      refine hq _ (Own.unpick (Own.re (Own.mk_orc (m := n + 1) (Own.mono hS13 (le_bef (bef_app (a := [8, 0, 1, 1, 1, 1, 1]) hp))) (by simp)) (by congr 2; clear hfr hq hh; first | (simp_all; done) | (simp_all; intro hx; omega))) hL)
     ·try simp only [bs] at h5
      refine XW_skip ?_
      refine then_norm ?_
      refine XW_sr ?_
      refine OW_mv rfl rfl ?_
      first
      | refine OW_nc rfl rfl ?_
      | refine OW_nce rfl rfl ?_
      refine OW_fa rfl rfl rfl ?_
      refine EN68_J2 rfl ?_
      refine OW_loadR hS2 (k := 0) rfl rfl rfl rfl rfl (by first | exact part_whole rfl rfl rfl | rfl) ?_
      refine OW_mv rfl rfl ?_
      refine OW_lookV hS2 (k := 3) rfl rfl rfl _ rfl rfl rfl rfl kU64 (z0 := 0) rfl ?_
      refine EN68_J2 rfl ?_
      have ho := ho h
      first
      | refine OW_bin rfl rfl rfl rfl (add_w64 (by first | omega | assumption | (simp only [ss]; omega))) ?_
      | refine OW_bin rfl rfl rfl rfl rfl ?_
      refine OW_setM hS2 (k := 3) rfl (le_lit (ν := ν) (a := [8, 0, 1, 1, 1]) (b := [7, 0, 1, 1, 1, 1, 1]) (by decide)) rfl rfl _ rfl rfl rfl rfl kU64 fun H15 hS15 => ?_
      replace hS15 : Own _ _ _ (_ :: _ :: _ :: _ :: _ :: _ :: _ :: _ :: _ :: L.eraseIdx k) := hS15
      refine EZ68_J2 rfl ?_
      refine XW_sr ?_
      refine OW_mv rfl rfl ?_
      refine OW_as rfl rfl ?_
      refine EZ68_J2 rfl ?_
      refine XW_ret ?_
      -- outcome 4
      refine ret_ret (res1 rfl (rv_tmp rfl)) ?_
      refine hq _ (Own.unpick (Own.re (Own.mk_orc (m := n + 1) (Own.mono hS15 (le_bef (bef_app (a := [8, 0, 1, 1, 1, 1, 1]) hp))) (by simp)) (by congr 2; clear hfr hq hh; first | (simp_all; done) | (simp_all; intro hx; omega))) hL)
theorem iMeet (hS : Own β ps H L) (hL : L[k]? = some (orc q F)) (hle : le ps ν) (hβ : under β ν = true) (hp : before ν pos') (h : Int) (hq : ∀ H1, Own β pos' H1 (L.set k (orc q (F.meet h))) → Q (.tup []) H1) : CW cfg ν 79 [.ptr q 0 0, .int .u64 h] H Q := by
  obtain ⟨D, P, m0, m1, m2, m3, m4, m5, hS⟩ := (hS.pick hL).un_orc
  obtain ⟨d, n, bad, f0, f1, f2, f3, f4, f5, pl⟩ := F
  dsimp only at hS
  refine CW_keep g79 F79 rfl ?_
  replace hS := Own.mono hS hle
  refine XW_sr ?_
  refine OW_mv rfl rfl ?_
  first
  | refine OW_nc rfl rfl ?_
  | refine OW_nce rfl rfl ?_
  refine OW_fa rfl rfl rfl ?_
  refine OW_env (e' := [_,_,_,_,_,_,_,_,_,_,_,_,_,_,_,_]) rfl ?_
  refine OW_loadR hS (k := 0) rfl rfl rfl rfl rfl (by first | exact part_whole rfl rfl rfl | rfl) ?_
  refine OW_mv rfl rfl ?_
  refine OW_lookV hS (k := 3) rfl rfl rfl _ rfl rfl rfl rfl kU64 (z0 := 0) rfl ?_
  refine OW_env (e' := [_,_,_,_,_,_,_,_,_,_,_,_,_,_,_,_]) rfl ?_
  refine OW_bin rfl rfl rfl rfl rfl ?_
  refine OW_nilE (e' := [_,_,_,_,_,_,_,_,_,_,_,_,_,_,_,_]) rfl ?_
  refine XW_if rfl (fun h0 => ?_) (fun h0 => ?_)
  ·try simp only [bs] at h0
   refine XW_region ?_
   refine OW_mv rfl rfl ?_
   first
   | refine OW_nc rfl rfl ?_
   | refine OW_nce rfl rfl ?_
   refine OW_fa rfl rfl rfl ?_
   refine OW_env (e' := [_,_,_,_,_,_,_,_,_,_,_,_,_,_,_,_]) rfl ?_
   refine OW_loadR hS (k := 0) rfl rfl rfl rfl rfl (by first | exact part_whole rfl rfl rfl | rfl) ?_
   refine OW_mv rfl rfl ?_
   refine OW_setM hS (k := 4) rfl (le_app (p := ν) (b := [5, 1])) rfl rfl _ rfl rfl rfl rfl kU64 fun H2 hS2 => ?_
   replace hS2 : Own _ _ _ (_ :: _ :: _ :: _ :: _ :: _ :: _ :: _ :: _ :: L.eraseIdx k) := hS2
   refine OW_nilE (e' := [_,_,_,_,_,_,_,_,_,_,_,_,_,_,_,_]) rfl ?_
   -- outcome 1
   refine ret_norm ((res0 rfl)) ?_
   refine hq _ (Own.unpick (Own.re (Own.mk_orc (m := n) (Own.mono hS2 (le_bef (bef_app (a := [6, 1]) hp))) rfl) (by simp [Orf.meet, h0])) hL)
  ·try simp only [bs] at h0
   refine XW_skip ?_
   -- outcome 2
   refine ret_norm ((res0 rfl)) ?_
   refine hq _ (Own.unpick (Own.re (Own.mk_orc (m := n) (Own.mono hS (le_bef hp)) rfl) (by simp [Orf.meet, h0])) hL)
theorem iDrawn (hS : Own β ps H L) (hL : L[k]? = some (orc q F)) (hle : le ps ν) (hβ : under β ν = true) (hp : before ν pos') (hq : ∀ H1, Own β pos' H1 L → Q (.int .i64 F.n) H1) : CW cfg ν 19 [.ptr q 0 0] H Q := by
  obtain ⟨D, P, m0, m1, m2, m3, m4, m5, hS⟩ := (hS.pick hL).un_orc
  obtain ⟨d, n, bad, f0, f1, f2, f3, f4, f5, pl⟩ := F
  dsimp only at hS
  refine CW_keep g19 F19 rfl ?_
  replace hS := Own.mono hS hle
  refine XW_sr ?_
  refine OW_as rfl rfl ?_
  refine OW_nilE (e' := [_,_,_,_,_,_,_]) rfl ?_
  refine XW_sr ?_
  refine OW_mv rfl rfl ?_
  first
  | refine OW_nc rfl rfl ?_
  | refine OW_nce rfl rfl ?_
  refine OW_fa rfl rfl rfl ?_
  refine OW_env (e' := [_,_,_,_,_,_,_]) rfl ?_
  refine OW_loadR hS (k := 0) rfl rfl rfl rfl rfl (by first | exact part_whole rfl rfl rfl | rfl) ?_
  refine OW_as rfl rfl ?_
  refine OW_nilE (e' := [_,_,_,_,_,_,_]) rfl ?_
  refine XW_ret ?_
  -- outcome 1
  refine ret_ret (res1 rfl (rv_tmp rfl)) ?_
  exact hq _ (Own.cast (Own.unpick (Own.mk_orc (m := n) (Own.mono hS (le_bef hp)) rfl) hL) (set_get_self hL))
end Go.Proofs.Ytealccnfnpkngaa.X
/- What the program's oracle does: the rest. -/
set_option linter.unusedVariables false
set_option linter.unusedSimpArgs false
set_option maxRecDepth 100000
namespace Go.Proofs.Ytealccnfnpkngaa.X
open Go Go.RowKit
theorem EN31_J3 {c : Cfg} {ν : Nm} {e : Env} {H : Heap} {all : Array Oper} {r : List Oper} {i : Nat} {Q : Env → Heap → Prop} {x0 x1 x2 x3 x4 x5 x6 x7 x8 x9 x10 x11 x12 x13 x14 x15 x16 x17 x18 x19 x20 x21 x22 x23 x24 x25 x26 x27 x28 x29 x30 : AVal} (he : e = [x0,x1,x2,x3,x4,x5,x6,x7,x8,x9,x10,x11,x12,x13,x14,x15,x16,x17,x18,x19,x20,x21,x22,x23,x24,x25,x26,x27,x28,x29,x30]) (h : OW c ν all r i [x0,x1,x2,x3,x4,x5,x6,x7,x8,x9,x10,x11,x12,x13,x14,x15,x16,x17,x18,x19,x20,x21,x22,x23,x24,x25,x26,x27,x28,x29,x30] H Q) : OW c ν all r i e H Q := by subst he; exact h
theorem EZ31_J3 {c : Cfg} {ν : Nm} {e : Env} {H : Heap} {all : Array Oper} {i : Nat} {Q : Env → Heap → Prop} {x0 x1 x2 x3 x4 x5 x6 x7 x8 x9 x10 x11 x12 x13 x14 x15 x16 x17 x18 x19 x20 x21 x22 x23 x24 x25 x26 x27 x28 x29 x30 : AVal} (he : e = [x0,x1,x2,x3,x4,x5,x6,x7,x8,x9,x10,x11,x12,x13,x14,x15,x16,x17,x18,x19,x20,x21,x22,x23,x24,x25,x26,x27,x28,x29,x30]) (h : Q [x0,x1,x2,x3,x4,x5,x6,x7,x8,x9,x10,x11,x12,x13,x14,x15,x16,x17,x18,x19,x20,x21,x22,x23,x24,x25,x26,x27,x28,x29,x30] H) : OW c ν all [] i e H Q := by subst he; exact OW_nil h
theorem EZ33_J3 {c : Cfg} {ν : Nm} {e : Env} {H : Heap} {all : Array Oper} {i : Nat} {Q : Env → Heap → Prop} {x0 x1 x2 x3 x4 x5 x6 x7 x8 x9 x10 x11 x12 x13 x14 x15 x16 x17 x18 x19 x20 x21 x22 x23 x24 x25 x26 x27 x28 x29 x30 x31 x32 : AVal} (he : e = [x0,x1,x2,x3,x4,x5,x6,x7,x8,x9,x10,x11,x12,x13,x14,x15,x16,x17,x18,x19,x20,x21,x22,x23,x24,x25,x26,x27,x28,x29,x30,x31,x32]) (h : Q [x0,x1,x2,x3,x4,x5,x6,x7,x8,x9,x10,x11,x12,x13,x14,x15,x16,x17,x18,x19,x20,x21,x22,x23,x24,x25,x26,x27,x28,x29,x30,x31,x32] H) : OW c ν all [] i e H Q := by subst he; exact OW_nil h
variable {ν β ps pos' : Nm} {H : Heap} {Q : AVal → Heap → Prop} {L : List Asr} {q : Nm} {F : Orf} {k : Nat}
theorem iFreshO {D P : AVal} {m0 m1 m2 m3 m4 m5 : Nm} (hS : Own β ps H (row q 10 [.agg [D, .int .i64 F.n, .bool F.bad, .map m0, .map m1, .map m2, .map m3, .map m4, .map m5, P]] :: sl D 1 (F.draws.map eU) :: sl P 1 (F.pl.map eS) :: mpF m0 eU eI F.iss :: mpF m1 eU eI F.met :: mpF m2 eS eU F.hs :: mpF m3 eTag eU F.tg :: mpF m4 eSeal eU F.se :: mpF m5 eTold eI F.op :: L)) (hle : le ps ν) (hβ : under β ν = true) (hp : before ν pos') (hok : F.ok) (hn : F.n ≤ 4294967000)
    (hq : ∀ H1 D P m0 m1 m2 m3 m4 m5, Own β pos' H1 (row q 10 [.agg [D, .int .i64 F.fresh.n, .bool F.fresh.bad, .map m0, .map m1, .map m2, .map m3, .map m4, .map m5, P]] :: sl D 1 (F.fresh.draws.map eU) :: sl P 1 (F.fresh.pl.map eS) :: mpF m0 eU eI F.fresh.iss :: mpF m1 eU eI F.fresh.met :: mpF m2 eS eU F.fresh.hs :: mpF m3 eTag eU F.fresh.tg :: mpF m4 eSeal eU F.fresh.se :: mpF m5 eTold eI F.fresh.op :: L) → Q (.int .u64 F.next) H1) : CW cfg ν 88 [.ptr q 0 0] H Q :=
  iFresh (L := orc q F :: L) (k := 0) (Own.mk_orc hS rfl) rfl hle hβ hp hok hn fun H1 h1 => by
    obtain ⟨D, P, m0, m1, m2, m3, m4, m5, h1⟩ := Own.un_orc h1
    exact hq _ _ _ _ _ _ _ _ _ h1
theorem iMeetO {D P : AVal} {m0 m1 m2 m3 m4 m5 : Nm} (hS : Own β ps H (row q 10 [.agg [D, .int .i64 F.n, .bool F.bad, .map m0, .map m1, .map m2, .map m3, .map m4, .map m5, P]] :: sl D 1 (F.draws.map eU) :: sl P 1 (F.pl.map eS) :: mpF m0 eU eI F.iss :: mpF m1 eU eI F.met :: mpF m2 eS eU F.hs :: mpF m3 eTag eU F.tg :: mpF m4 eSeal eU F.se :: mpF m5 eTold eI F.op :: L)) (hle : le ps ν) (hβ : under β ν = true) (hp : before ν pos') (h : Int)
    (hq : ∀ H1 D P m0 m1 m2 m3 m4 m5, Own β pos' H1 (row q 10 [.agg [D, .int .i64 (F.meet h).n, .bool (F.meet h).bad, .map m0, .map m1, .map m2, .map m3, .map m4, .map m5, P]] :: sl D 1 ((F.meet h).draws.map eU) :: sl P 1 ((F.meet h).pl.map eS) :: mpF m0 eU eI (F.meet h).iss :: mpF m1 eU eI (F.meet h).met :: mpF m2 eS eU (F.meet h).hs :: mpF m3 eTag eU (F.meet h).tg :: mpF m4 eSeal eU (F.meet h).se :: mpF m5 eTold eI (F.meet h).op :: L) → Q (.tup []) H1) : CW cfg ν 79 [.ptr q 0 0, .int .u64 h] H Q :=
  iMeet (L := orc q F :: L) (k := 0) (Own.mk_orc hS rfl) rfl hle hβ hp h fun H1 h1 => by
    obtain ⟨D, P, m0, m1, m2, m3, m4, m5, h1⟩ := Own.un_orc h1
    exact hq _ _ _ _ _ _ _ _ _ h1
theorem iFreshX {X : Asr} {D P : AVal} {m0 m1 m2 m3 m4 m5 : Nm} (hS : Own β ps H (X :: row q 10 [.agg [D, .int .i64 F.n, .bool F.bad, .map m0, .map m1, .map m2, .map m3, .map m4, .map m5, P]] :: sl D 1 (F.draws.map eU) :: sl P 1 (F.pl.map eS) :: mpF m0 eU eI F.iss :: mpF m1 eU eI F.met :: mpF m2 eS eU F.hs :: mpF m3 eTag eU F.tg :: mpF m4 eSeal eU F.se :: mpF m5 eTold eI F.op :: L)) (hle : le ps ν) (hβ : under β ν = true) (hp : before ν pos') (hok : F.ok) (hn : F.n ≤ 4294967000)
    (hq : ∀ H1 D P m0 m1 m2 m3 m4 m5, Own β pos' H1 (X :: row q 10 [.agg [D, .int .i64 F.fresh.n, .bool F.fresh.bad, .map m0, .map m1, .map m2, .map m3, .map m4, .map m5, P]] :: sl D 1 (F.fresh.draws.map eU) :: sl P 1 (F.fresh.pl.map eS) :: mpF m0 eU eI F.fresh.iss :: mpF m1 eU eI F.fresh.met :: mpF m2 eS eU F.fresh.hs :: mpF m3 eTag eU F.fresh.tg :: mpF m4 eSeal eU F.fresh.se :: mpF m5 eTold eI F.fresh.op :: L) → Q (.int .u64 F.next) H1) : CW cfg ν 88 [.ptr q 0 0] H Q :=
  iFreshO (L := X :: L) (Own.rot (A := [_, _, _, _, _, _, _, _, _]) hS) hle hβ hp hok hn fun H1 D P m0 m1 m2 m3 m4 m5 h1 => hq _ _ _ _ _ _ _ _ _ (Own.tor (A := [_, _, _, _, _, _, _, _, _]) h1)
theorem iMac (hS : Own β ps H L) (hL : L[k]? = some (orc q F)) (hle : le ps ν) (hβ : under β ν = true) (hp : before ν pos') (hok : F.ok) (hn : F.n ≤ 4294967000) (kk : Int) (a : ByteArray) (hq : ∀ H1, Own β pos' H1 (L.set k (orc q (F.mac kk a).2)) → Q (.int .u64 (F.mac kk a).1) H1) : CW cfg ν 76 [.ptr q 0 0, .int .u64 kk, .str a] H Q := by
  obtain ⟨D, P, m0, m1, m2, m3, m4, m5, hS⟩ := (hS.pick hL).un_orc
  refine CW_keep g76 F76 rfl ?_
  replace hS := Own.mono hS hle
  refine XW_sr ?_
  refine OW_as rfl rfl ?_
  refine EZ33_J3 rfl ?_
  refine XW_sr ?_
  refine OW_mv rfl rfl ?_
  refine OW_mv rfl rfl ?_
  refine OW_bd rfl rfl (v := .agg [_, _]) rfl ?_
  refine OW_env (e' := [_,_,_,_,_,_,_,_,_,_,_,_,_,_,_,_,_,_,_,_,_,_,_,_,_,_,_,_,_,_,_,_,_]) rfl ?_
  refine OW_allocR hS (le_app (p := ν) (b := [3, 0, 1])) (under_app [3, 0, 1] hβ) rfl rfl rfl rfl fun H1 hS1 => ?_
  replace hS1 : Own _ _ _ (_ :: _ :: _ :: _ :: _ :: _ :: _ :: _ :: _ :: _ :: L.eraseIdx k) := hS1
  first
  | refine OW_storeR hS1 (k := 0) rfl le_refl rfl rfl rfl rfl ⟨rfl, rfl, Nat.le_of_ble_eq_true rfl⟩ (set_whole rfl rfl) fun H2 hS2 => ?_
  | refine OW_storeR hS1 (k := 0) rfl le_refl rfl rfl rfl rfl ⟨rfl, rfl, Nat.le_of_ble_eq_true rfl⟩ (u2 := .agg [_, _]) rfl fun H2 hS2 => ?_
  replace hS2 : Own _ _ _ (_ :: _ :: _ :: _ :: _ :: _ :: _ :: _ :: _ :: _ :: L.eraseIdx k) := hS2
  refine EZ33_J3 rfl ?_
  refine XW_sr ?_
  refine OW_mv rfl rfl ?_
  first
  | refine OW_nc rfl rfl ?_
  | refine OW_nce rfl rfl ?_
  refine OW_fa rfl rfl rfl ?_
  refine OW_env (e' := [_,_,_,_,_,_,_,_,_,_,_,_,_,_,_,_,_,_,_,_,_,_,_,_,_,_,_,_,_,_,_,_,_]) rfl ?_
  refine OW_loadR hS2 (k := 1) rfl rfl rfl rfl rfl (by first | exact part_whole rfl rfl rfl | rfl) ?_
  refine OW_loadR hS2 (k := 0) rfl rfl rfl rfl rfl (by first | exact part_whole rfl rfl rfl | rfl) ?_
  refine OW_lookT hS2 (k := 7) rfl rfl rfl (kk, a) rfl rfl rfl rfl kTag (z0 := 0) rfl ?_
  refine OW_env (e' := [_,_,_,_,_,_,_,_,_,_,_,_,_,_,_,_,_,_,_,_,_,_,_,_,_,_,_,_,_,_,_,_,_]) rfl ?_
  refine OW_mv rfl rfl ?_
  refine OW_ex rfl rfl rfl ?_
  refine OW_ex rfl rfl rfl ?_
  refine OW_env (e' := [_,_,_,_,_,_,_,_,_,_,_,_,_,_,_,_,_,_,_,_,_,_,_,_,_,_,_,_,_,_,_,_,_]) rfl ?_
  refine OW_as rfl rfl ?_
  refine OW_as rfl rfl ?_
  refine EZ33_J3 rfl ?_
  refine XW_seq ?_
  refine XW_sr ?_
  refine OW_mv rfl rfl ?_
  refine OW_un rfl rfl rfl ?_
  refine EZ33_J3 rfl ?_
  refine XW_if rfl (fun h3 => ?_) (fun h3 => ?_)
  ·try simp only [bs] at h3
   refine XW_sr ?_
   refine OW_mv rfl rfl ?_
   refine OW_fn rfl rfl (iFreshX hS2 (le_lit (ν := ν) (a := [5, 0, 1]) (b := [1, 0, 1, 0, 1, 1, 1]) (by decide)) (under_app [1, 0, 1, 0, 1, 1, 1] hβ) (before_lit (ν := ν) (a := [1, 0, 1, 0, 1, 1, 1]) (b := [2, 0, 1, 0, 1, 1, 1]) (by decide)) hok hn fun H4 D1 P1 a1 a2 a3 a4 a5 a6 hS4 => ?_) 
   replace hS4 : Own _ _ _ (_ :: _ :: _ :: _ :: _ :: _ :: _ :: _ :: _ :: _ :: L.eraseIdx k) := hS4
   refine OW_as rfl rfl ?_
   refine EZ33_J3 rfl ?_
   refine XW_region ?_
   refine OW_mv rfl rfl ?_
   first
   | refine OW_nc rfl rfl ?_
   | refine OW_nce rfl rfl ?_
   refine OW_fa rfl rfl rfl ?_
   refine OW_env (e' := [_,_,_,_,_,_,_,_,_,_,_,_,_,_,_,_,_,_,_,_,_,_,_,_,_,_,_,_,_,_,_,_,_]) rfl ?_
   refine OW_loadR hS4 (k := 1) rfl rfl rfl rfl rfl (by first | exact part_whole rfl rfl rfl | rfl) ?_
   refine OW_loadR hS4 (k := 0) rfl rfl rfl rfl rfl (by first | exact part_whole rfl rfl rfl | rfl) ?_
   refine OW_mv rfl rfl ?_
   refine OW_env (e' := [_,_,_,_,_,_,_,_,_,_,_,_,_,_,_,_,_,_,_,_,_,_,_,_,_,_,_,_,_,_,_,_,_]) rfl ?_
   refine OW_setM hS4 (k := 7) rfl (le_lit (ν := ν) (a := [2, 0, 1, 0, 1, 1, 1]) (b := [6, 1, 1, 0, 1, 1, 1]) (by decide)) rfl rfl (kk, a) rfl rfl rfl rfl kTag fun H5 hS5 => ?_
   replace hS5 : Own _ _ _ (_ :: _ :: _ :: _ :: _ :: _ :: _ :: _ :: _ :: _ :: L.eraseIdx k) := hS5
   refine EZ33_J3 rfl ?_
   refine then_norm ?_
   refine XW_sr ?_
   refine OW_mv rfl rfl ?_
   refine OW_as rfl rfl ?_
   refine EZ33_J3 rfl ?_
   refine XW_ret ?_
   -- outcome 1
   refine ret_ret (res1 rfl (rv_tmp rfl)) ?_
   simp only [Orf.mac, h3] at hq; exact hq _ (Own.unpick (Own.re (Own.mk_orc (m := F.n + 1) (Own.drop0 (Own.mono hS5 (le_bef (bef_app (a := [7, 1, 1, 0, 1, 1, 1]) hp)))) rfl) rfl) hL)
  ·try simp only [bs] at h3
   refine XW_skip ?_
   refine then_norm ?_
   refine XW_sr ?_
   refine OW_mv rfl rfl ?_
   refine OW_as rfl rfl ?_
   refine EZ33_J3 rfl ?_
   refine XW_ret ?_
   -- outcome 2
   refine ret_ret (res1 rfl (rv_tmp rfl)) ?_
   simp only [Orf.mac, h3] at hq; exact hq _ (Own.unpick (Own.mk_orc (m := F.n) (Own.drop0 (Own.mono hS2 (le_bef (bef_app (a := [5, 0, 1]) hp)))) rfl) hL)
theorem iVerify (hS : Own β ps H L) (hL : L[k]? = some (orc q F)) (hle : le ps ν) (hβ : under β ν = true) (hp : before ν pos') (kk : Int) (a : ByteArray) (t : Int) (hq : ∀ H1, Own β pos' H1 (L.set k (orc q (F.verify kk a t).2)) → Q (.bool (F.verify kk a t).1) H1) : CW cfg ν 46 [.ptr q 0 0, .int .u64 kk, .str a, .int .u64 t] H Q := by
  obtain ⟨D, P, m0, m1, m2, m3, m4, m5, hS⟩ := (hS.pick hL).un_orc
  refine CW_keep g46 F46 rfl ?_
  replace hS := Own.mono hS hle
  refine XW_sr ?_
  refine OW_as rfl rfl ?_
  refine EZ31_J3 rfl ?_
  refine XW_sr ?_
  refine OW_mv rfl rfl ?_
  first
  | refine OW_nc rfl rfl ?_
  | refine OW_nce rfl rfl ?_
  refine OW_fa rfl rfl rfl ?_
  refine EN31_J3 rfl ?_
  refine OW_loadR hS (k := 0) rfl rfl rfl rfl rfl (by first | exact part_whole rfl rfl rfl | rfl) ?_
  refine OW_mv rfl rfl ?_
  refine OW_mv rfl rfl ?_
  refine EN31_J3 rfl ?_
  refine OW_bd rfl rfl (v := .agg [_, _]) rfl ?_
  refine OW_lookT hS (k := 6) rfl rfl rfl (kk, a) rfl rfl rfl rfl kTag (z0 := 0) rfl ?_
  refine OW_mv rfl rfl ?_
  refine EN31_J3 rfl ?_
  refine OW_ex rfl rfl rfl ?_
  refine OW_ex rfl rfl rfl ?_
  refine OW_as rfl rfl ?_
  refine EN31_J3 rfl ?_
  refine OW_as rfl rfl ?_
  refine EZ31_J3 rfl ?_
  refine XW_seq ?_
  refine XW_sr ?_
  refine OW_mv rfl rfl ?_
  refine OW_mv rfl rfl ?_
  refine OW_split (tt := 23) rfl (fun g2_2 => ?_) (fun g2_2 => ?_)
  ·try simp only [bs] at g2_2
   refine EN31_J3 rfl ?_
   refine OW_mv rfl rfl ?_
   refine OW_mv rfl rfl ?_
   refine OW_bin rfl rfl rfl rfl rfl ?_
   refine EN31_J3 rfl ?_
   refine OW_pick rfl rfl rfl ?_
   refine EZ31_J3 rfl ?_
   refine XW_if rfl (fun h2 => ?_) (fun h2 => ?_)
   ·try simp only [bs] at h2
    refine XW_sr ?_
    refine OW_as rfl rfl ?_
    refine EZ31_J3 rfl ?_
    refine XW_ret ?_
    refine then_ret ?_
    -- outcome 1
    refine ret_ret (res1 rfl (rv_tmp rfl)) ?_
    simp only [Orf.verify, g2_2, h2, and_self, if_true] at hq; exact hq _ (Own.unpick (Own.mk_orc (m := F.n) (Own.mono hS (le_bef hp)) rfl) hL)
   ·try simp only [bs] at h2
    refine XW_skip ?_
    refine then_norm ?_
    refine XW_sr ?_
    refine OW_mv rfl rfl ?_
    refine OW_mv rfl rfl ?_
    refine OW_fn rfl rfl (iMeetO hS (le_app (p := ν) (b := [2, 0, 1, 1, 1])) (under_app [2, 0, 1, 1, 1] hβ) (before_lit (ν := ν) (a := [2, 0, 1, 1, 1]) (b := [3, 0, 1, 1, 1]) (by decide)) _ fun H2 D1 P1 a1 a2 a3 a4 a5 a6 hS2 => ?_) 
    replace hS2 : Own _ _ _ (_ :: _ :: _ :: _ :: _ :: _ :: _ :: _ :: _ :: L.eraseIdx k) := hS2
    refine EZ31_J3 rfl ?_
    refine XW_sr ?_
    refine OW_as rfl rfl ?_
    refine EZ31_J3 rfl ?_
    refine XW_ret ?_
    -- outcome 2
    refine ret_ret (res1 rfl (rv_tmp rfl)) ?_
    simp only [Orf.verify, h2, and_false, if_false] at hq; exact hq _ (Own.unpick (Own.mk_orc (m := (F.meet t).n) (Own.mono hS2 (le_bef (bef_app (a := [3, 0, 1, 1, 1]) hp))) rfl) hL)
  ·try simp only [bs] at g2_2
   refine EN31_J3 rfl ?_
   refine OW_no rfl ?_
   refine OW_no rfl ?_
   refine OW_no rfl ?_
   refine EN31_J3 rfl ?_
   refine OW_pick rfl rfl rfl ?_
   refine EZ31_J3 rfl ?_
   refine XW_no rfl rfl ?_
   refine XW_skip ?_
   refine then_norm ?_
   refine XW_sr ?_
   refine OW_mv rfl rfl ?_
   refine OW_mv rfl rfl ?_
   refine OW_fn rfl rfl (iMeetO hS (le_app (p := ν) (b := [2, 0, 1, 1, 1])) (under_app [2, 0, 1, 1, 1] hβ) (before_lit (ν := ν) (a := [2, 0, 1, 1, 1]) (b := [3, 0, 1, 1, 1]) (by decide)) _ fun H3 D2 P2 a7 a8 a9 a10 a11 a12 hS3 => ?_) 
   replace hS3 : Own _ _ _ (_ :: _ :: _ :: _ :: _ :: _ :: _ :: _ :: _ :: L.eraseIdx k) := hS3
   refine EZ31_J3 rfl ?_
   refine XW_sr ?_
   refine OW_as rfl rfl ?_
   refine EZ31_J3 rfl ?_
   refine XW_ret ?_
   -- outcome 3
   refine ret_ret (res1 rfl (rv_tmp rfl)) ?_
   simp only [Orf.verify, g2_2, false_and, if_false] at hq; exact hq _ (Own.unpick (Own.mk_orc (m := (F.meet t).n) (Own.mono hS3 (le_bef (bef_app (a := [3, 0, 1, 1, 1]) hp))) rfl) hL)
theorem opAt {l : List ByteArray} {n : Int} (h : n > 0) (h2 : n.toNat - 1 < l.length) {p : (n - 1).toNat < l.length} : l[(n - 1).toNat] = l.getD (n.toNat - 1) ⟨#[]⟩ := by
  have e : (n - 1).toNat = n.toNat - 1 := by omega
  simp only [e, List.getD_eq_getElem?_getD, List.getElem?_eq_getElem h2, Option.getD_some]
end Go.Proofs.Ytealccnfnpkngaa.X
/- What the program's oracle does: any call, a new one. -/
set_option linter.unusedVariables false
set_option linter.unusedSimpArgs false
set_option maxRecDepth 100000
namespace Go.Proofs.Ytealccnfnpkngaa.X
open Go Go.RowKit
variable {ν β ps pos' : Nm} {H : Heap} {Q : AVal → Heap → Prop} {L : List Asr} {q : Nm} {F : Orf} {k : Nat}
/-- A call of an oracle. -/
structure Ca where
  d : Int
  k : Int
  n : Int
  h : Int
  a : ByteArray
  b : ByteArray
def Ca.enc (c : Ca) : AVal := .agg [.int .i64 c.d, .int .u64 c.k, .int .u64 c.n, .int .u64 c.h, .str c.a, .str c.b]
def Orf.act (F : Orf) (c : Ca) : Int × ByteArray × Bool × Orf :=
  if c.d = 0 then (F.next, ⟨#[]⟩, true, F.fresh)
  else if c.d = 1 then ((F.hash c.a).1, ⟨#[]⟩, true, (F.hash c.a).2)
  else if c.d = 2 then ((F.mac c.k c.a).1, ⟨#[]⟩, true, (F.mac c.k c.a).2)
  else if c.d = 3 then (0, ⟨#[]⟩, (F.verify c.k c.a c.h).1, (F.verify c.k c.a c.h).2)
  else if c.d = 4 then ((F.sealv c.k c.n c.a c.b).1, ⟨#[]⟩, true, (F.sealv c.k c.n c.a c.b).2)
  else if c.d = 5 then (0, (F.opens c.k c.n c.a c.h).1.1, (F.opens c.k c.n c.a c.h).1.2, (F.opens c.k c.n c.a c.h).2)
  else if c.d = 6 then (0, ⟨#[]⟩, false, F.meet c.h)
  else (0, ⟨#[]⟩, false, F)
theorem Orf.act_ok (h : F.ok) (c : Ca) : (F.act c).2.2.2.ok := by
  unfold act
  repeat' split
  all_goals first | exact fresh_ok h | exact hash_ok h _ | exact mac_ok h _ _ | exact verify_ok h _ _ _ | exact sealv_ok h _ _ _ _ | exact opens_ok h _ _ _ _ | exact meet_ok h _ | exact h
theorem Orf.act_n (F : Orf) (c : Ca) : (F.act c).2.2.2.n ≤ F.n + 1 := by
  unfold act
  repeat' split
  all_goals first | exact Nat.le_refl _ | exact hash_n _ | exact mac_n _ _ | exact sealv_n _ _ _ _ | exact Nat.le_succ _ | (simp [verify_n, opens_n, meet_n]; done)
theorem Orf.act0 {c : Ca} (h : c.d = 0) : F.act c = (F.next, ⟨#[]⟩, true, F.fresh) := by simp [Orf.act, h]
theorem Orf.act1 {c : Ca} (h : c.d = 1) : F.act c = ((F.hash c.a).1, ⟨#[]⟩, true, (F.hash c.a).2) := by simp [Orf.act, h]
theorem Orf.act2 {c : Ca} (h : c.d = 2) : F.act c = ((F.mac c.k c.a).1, ⟨#[]⟩, true, (F.mac c.k c.a).2) := by simp [Orf.act, h]
theorem Orf.act3 {c : Ca} (h : c.d = 3) : F.act c = (0, ⟨#[]⟩, (F.verify c.k c.a c.h).1, (F.verify c.k c.a c.h).2) := by simp [Orf.act, h]
theorem Orf.act4 {c : Ca} (h : c.d = 4) : F.act c = ((F.sealv c.k c.n c.a c.b).1, ⟨#[]⟩, true, (F.sealv c.k c.n c.a c.b).2) := by simp [Orf.act, h]
theorem Orf.act5 {c : Ca} (h : c.d = 5) : F.act c = (0, (F.opens c.k c.n c.a c.h).1.1, (F.opens c.k c.n c.a c.h).1.2, (F.opens c.k c.n c.a c.h).2) := by simp [Orf.act, h]
theorem Orf.act6 {c : Ca} (h : c.d = 6) : F.act c = (0, ⟨#[]⟩, false, F.meet c.h) := by simp [Orf.act, h]
theorem Orf.act7 {c : Ca} (h0 : ¬ c.d = 0) (h1 : ¬ c.d = 1) (h2 : ¬ c.d = 2) (h3 : ¬ c.d = 3) (h4 : ¬ c.d = 4) (h5 : ¬ c.d = 5) (h6 : ¬ c.d = 6) : F.act c = (0, ⟨#[]⟩, false, F) := by simp [Orf.act, h0, h1, h2, h3, h4, h5, h6]
abbrev Int.enc (n : Int) : AVal := .int .u64 n
theorem Int.clone {ν β ps pos' : Nm} {H : Heap} {Q : AVal → Heap → Prop} {L : List Asr} {ls : List Int} {S : AVal} (hv : Ls S (ls.map Int.enc)) (hS : Own β ps H L) (hle : le ps ν) (hβ : under β ν = true) (hp : before ν pos') (hn : ls.length ≤ 4294967296)
    (hq : ∀ v H', Own β pos' H' (sl v 1 (ls.map Int.enc) :: L) → Q v H') : CW cfg ν 43 [S] H Q := by
  have body : ∀ S, (S = .nls ∨ S = .nne) → XW cfg ν fi43.body (start fi43 [S]) (fun _ => none) (retW cfg.T fi43 fun v _ => isEmp v = true) := by
    rintro S (rfl | rfl)
    · refine XW_sr ?_
      refine OW_as rfl rfl ?_
      refine OW_nilE (e' := [_, _, _, _, _, _, _, _]) rfl ?_
      refine XW_seq ?_
      refine XW_sr ?_
      refine OW_mv rfl rfl ?_
      first
        | refine OW_bin rfl rfl rfl rfl (eq_yes (by omega)) ?_
        | refine OW_bin rfl rfl rfl rfl (eq_no (by omega)) ?_
        | refine OW_bin rfl rfl rfl rfl rfl ?_
      refine OW_nilE (e' := [_, _, _, _, _, _, _, _]) rfl ?_
      refine XW_yes rfl rfl ?_
      refine XW_sr ?_
      refine OW_as rfl rfl ?_
      refine OW_nilE (e' := [_, _, _, _, _, _, _, _]) rfl ?_
      refine XW_ret ?_
      refine then_ret ?_
      exact ret_ret rfl rfl
    · refine XW_sr ?_
      refine OW_as rfl rfl ?_
      refine OW_nilE (e' := [_, _, _, _, _, _, _, _]) rfl ?_
      refine XW_seq ?_
      refine XW_sr ?_
      refine OW_mv rfl rfl ?_
      first
        | refine OW_bin rfl rfl rfl rfl (eq_yes (by omega)) ?_
        | refine OW_bin rfl rfl rfl rfl (eq_no (by omega)) ?_
        | refine OW_bin rfl rfl rfl rfl rfl ?_
      refine OW_nilE (e' := [_, _, _, _, _, _, _, _]) rfl ?_
      refine XW_no rfl rfl ?_
      refine XW_skip ?_
      refine then_norm ?_
      refine XW_sr ?_
      refine OW_bs rfl rfl rfl ?_
      refine OW_mv rfl rfl ?_
      refine OW_bi rfl rfl rfl ?_
      refine OW_env (e' := [_, _, _, _, _, _, _, _]) rfl ?_
      refine OW_as rfl rfl ?_
      refine OW_nilE (e' := [_, _, _, _, _, _, _, _]) rfl ?_
      refine XW_ret ?_
      exact ret_ret rfl rfl
  by_cases h0 : noneIn [S] = true
  · refine CW_clone0 g43 F43 rfl h0 (body _ (.inl rfl)) (body _ (.inr rfl)) (hq _ _ ?_)
    obtain rfl : ls = [] := by
      rcases hv with rfl | ⟨h, _⟩
      · cases ls with
        | nil => rfl
        | cons x r => simp [noneIn] at h0
      · simpa using h
    exact (hS.mono (hle.trans (le_bef hp))).addE
  · have h0 : noneIn [S] = false := by simpa using h0
    rcases hv with rfl | ⟨h, rfl | rfl⟩
    · obtain ⟨x, r, rfl⟩ : ∃ x r, ls = x :: r := by
        cases ls with
        | nil => simp [noneIn] at h0
        | cons x r => exact ⟨x, r, rfl⟩
      refine CW_clone g43 F43 rfl h0 ?_
      refine XW_sr ?_
      refine OW_as rfl rfl ?_
      refine OW_nilE (e' := [_, _, _, _, _, _, _, _]) rfl ?_
      refine XW_seq ?_
      refine XW_sr ?_
      refine OW_mv rfl rfl ?_
      first
        | refine OW_bin rfl rfl rfl rfl (eq_yes (by omega)) ?_
        | refine OW_bin rfl rfl rfl rfl (eq_no (by omega)) ?_
        | refine OW_bin rfl rfl rfl rfl rfl ?_
      refine OW_nilE (e' := [_, _, _, _, _, _, _, _]) rfl ?_
      refine XW_no rfl rfl ?_
      refine XW_skip ?_
      refine then_norm ?_
      refine XW_sr ?_
      refine OW_bs rfl rfl rfl ?_
      refine OW_mv rfl rfl ?_
      refine OW_appE (hS.mono hle) (le_app (b := [2, 0, 1, 1])) (under_app [2, 0, 1, 1] hβ) rfl rfl rfl rfl rfl rfl rfl rfl (Ls.elems Ls.of) (map_wide (fun _ => rfl)) (by simpa using hn) (by decide) fun O2 H2 hS2 => ?_
      refine OW_env (e' := [_, _, _, _, _, _, _, _]) rfl ?_
      refine OW_as rfl rfl ?_
      refine OW_nilE (e' := [_, _, _, _, _, _, _, _]) rfl ?_
      refine XW_ret ?_
      exact ret_ret rfl (hq _ _ (hS2.mono (le_bef (bef_app (a := [3, 0, 1, 1]) hp))))
    · simp [noneIn] at h0
    · obtain rfl : ls = [] := by simpa using h
      refine CW_clone g43 F43 rfl rfl ?_
      refine XW_sr ?_
      refine OW_as rfl rfl ?_
      refine OW_nilE (e' := [_, _, _, _, _, _, _, _]) rfl ?_
      refine XW_seq ?_
      refine XW_sr ?_
      refine OW_mv rfl rfl ?_
      first
        | refine OW_bin rfl rfl rfl rfl (eq_yes (by omega)) ?_
        | refine OW_bin rfl rfl rfl rfl (eq_no (by omega)) ?_
        | refine OW_bin rfl rfl rfl rfl rfl ?_
      refine OW_nilE (e' := [_, _, _, _, _, _, _, _]) rfl ?_
      refine XW_yes rfl rfl ?_
      refine XW_sr ?_
      refine OW_as rfl rfl ?_
      refine OW_nilE (e' := [_, _, _, _, _, _, _, _]) rfl ?_
      refine XW_ret ?_
      refine then_ret ?_
      exact ret_ret rfl (hq _ _ (hS.mono (hle.trans (le_bef hp))).addN)

/-- A copy of an own slice. -/
theorem Int.cloneO {ν β ps pos' : Nm} {H : Heap} {Q : AVal → Heap → Prop} {L : List Asr} {ls : List Int} {S : AVal} {k : Nat} (hS : Own β ps H L) (hL : L[k]? = some (sl S 1 (ls.map Int.enc))) (hle : le ps ν) (hβ : under β ν = true) (hp : before ν pos') (hn : ls.length ≤ 4294967296)
    (hq : ∀ v H', Own β pos' H' (sl v 1 (ls.map Int.enc) :: L) → Q v H') : CW cfg ν 43 [S] H Q := by
  obtain ⟨f, hf, _⟩ := hS.get hL
  have hf : Sl H 1 (ls.map Int.enc) S f := hf
  cases hf with
  | emp h => exact Int.clone (.inr ⟨h, .inl rfl⟩) hS hle hβ hp hn hq
  | nls h => exact Int.clone (.inr ⟨h, .inr rfl⟩) hS hle hβ hp hn hq
  | row h1 h2 h3 =>
    refine CW_clone g43 F43 rfl rfl ?_
    refine XW_sr ?_
    refine OW_as rfl rfl ?_
    refine OW_nilE (e' := [_, _, _, _, _, _, _, _]) rfl ?_
    refine XW_seq ?_
    refine XW_sr ?_
    refine OW_mv rfl rfl ?_
    first
      | refine OW_bin rfl rfl rfl rfl (eq_yes (by omega)) ?_
      | refine OW_bin rfl rfl rfl rfl (eq_no (by omega)) ?_
      | refine OW_bin rfl rfl rfl rfl rfl ?_
    refine OW_nilE (e' := [_, _, _, _, _, _, _, _]) rfl ?_
    refine XW_no rfl rfl ?_
    refine XW_skip ?_
    refine then_norm ?_
    refine XW_sr ?_
    refine OW_bs rfl rfl rfl ?_
    refine OW_mv rfl rfl ?_
    refine OW_appE (hS.mono hle) (le_app (b := [2, 0, 1, 1])) (under_app [2, 0, 1, 1] hβ) rfl rfl rfl rfl rfl rfl rfl rfl (hS.elems hL) (map_wide (fun _ => rfl)) (by simpa using hn) (by decide) fun O2 H2 hS2 => ?_
    refine OW_env (e' := [_, _, _, _, _, _, _, _]) rfl ?_
    refine OW_as rfl rfl ?_
    refine OW_nilE (e' := [_, _, _, _, _, _, _, _]) rfl ?_
    refine XW_ret ?_
    exact ret_ret rfl (hq _ _ (hS2.mono (le_bef (bef_app (a := [3, 0, 1, 1]) hp))))
theorem iNew (hS : Own β ps H L) (hle : le ps ν) (hβ : under β ν = true) (hp : before ν pos') {v : AVal} {d : List Int} (hv : Ls v (d.map Int.enc)) (hd : d.length ≤ 4294967000)
    (hq : ∀ q H1, Own β pos' H1 (orc q (Orf.new d) :: L) → Q (.ptr q 0 0) H1) : CW cfg ν 15 [v] H Q := by
  refine CW_keep g15 F15 rfl ?_
  replace hS := Own.mono hS hle
  refine XW_sr ?_
  refine OW_as rfl rfl ?_
  refine OW_nilE (e' := [_,_,_,_,_,_,_,_,_,_,_,_,_]) rfl ?_
  refine XW_sr ?_
  refine OW_mv rfl rfl ?_
  refine OW_fn rfl rfl (Int.clone (by assumption) hS (le_app (p := ν) (b := [1, 0, 1])) (under_app [1, 0, 1] hβ) (before_lit (ν := ν) (a := [1, 0, 1]) (b := [2, 0, 1]) (by decide)) (by omega) fun O1 H1 hS1 => ?_) 
  replace hS1 : Own _ _ _ (_ :: L) := hS1
  refine OW_makeM eU eI hS1 le_refl (under_app [2, 0, 1] hβ) rfl fun H2 hS2 => ?_
  replace hS2 : Own _ _ _ (_ :: _ :: L) := hS2
  refine OW_env (e' := [_,_,_,_,_,_,_,_,_,_,_,_,_]) rfl ?_
  refine OW_makeM eU eI hS2 le_refl (under_app [3, 0, 1] hβ) rfl fun H3 hS3 => ?_
  replace hS3 : Own _ _ _ (_ :: _ :: _ :: L) := hS3
  refine OW_makeM eS eU hS3 le_refl (under_app [4, 0, 1] hβ) rfl fun H4 hS4 => ?_
  replace hS4 : Own _ _ _ (_ :: _ :: _ :: _ :: L) := hS4
  refine OW_makeM eTag eU hS4 le_refl (under_app [5, 0, 1] hβ) rfl fun H5 hS5 => ?_
  replace hS5 : Own _ _ _ (_ :: _ :: _ :: _ :: _ :: L) := hS5
  refine OW_env (e' := [_,_,_,_,_,_,_,_,_,_,_,_,_]) rfl ?_
  refine OW_makeM eSeal eU hS5 le_refl (under_app [6, 0, 1] hβ) rfl fun H6 hS6 => ?_
  replace hS6 : Own _ _ _ (_ :: _ :: _ :: _ :: _ :: _ :: L) := hS6
  refine OW_makeM eTold eI hS6 le_refl (under_app [7, 0, 1] hβ) rfl fun H7 hS7 => ?_
  replace hS7 : Own _ _ _ (_ :: _ :: _ :: _ :: _ :: _ :: _ :: L) := hS7
  refine OW_bdP rfl (pcons rfl (hS7.one (k := 6) rfl).1 (pcons rfl rfl (pcons rfl rfl (pcons rfl rfl (pcons rfl rfl (pcons rfl rfl (pcons rfl rfl rfl))))))) rfl rfl rfl (cs := [_, _, _, _, _, _, _, _, _, _]) (fill1 rfl (hS7.one (k := 6) rfl).2 rfl (Nat.le_of_ble_eq_true rfl) rfl (fill1 rfl rfl rfl (Nat.le_of_ble_eq_true rfl) rfl (fill1 rfl rfl rfl (Nat.le_of_ble_eq_true rfl) rfl (fill1 rfl rfl rfl (Nat.le_of_ble_eq_true rfl) rfl (fill1 rfl rfl rfl (Nat.le_of_ble_eq_true rfl) rfl (fill1 rfl rfl rfl (Nat.le_of_ble_eq_true rfl) rfl (fill1 rfl rfl rfl (Nat.le_of_ble_eq_true rfl) rfl rfl))))))) ?_
  refine OW_env (e' := [_,_,_,_,_,_,_,_,_,_,_,_,_]) rfl ?_
  refine OW_boxR hS7 (le_lit (ν := ν) (a := [8, 0, 1]) (b := [9, 0, 1]) (by decide)) (under_app [9, 0, 1] hβ) rfl rfl rfl ⟨rfl, rfl⟩ fun H8 hS8 => ?_
  replace hS8 : Own _ _ _ (_ :: _ :: _ :: _ :: _ :: _ :: _ :: _ :: L) := hS8
  refine OW_as rfl rfl ?_
  refine OW_nilE (e' := [_,_,_,_,_,_,_,_,_,_,_,_,_]) rfl ?_
  refine XW_ret ?_
  -- outcome 1
  refine ret_ret (res1 rfl (rv_tmp rfl)) ?_
  exact hq _ _ (Own.mk_orc (m := 0) (d := d) (pl := []) (Own.tor (A := [_, _, _, _, _, _, _, _]) (Own.tor (A := [_, _, _, _, _, _, _, _]) (Own.addE (w := 1) (Own.tor (A := [_, _, _, _, _, _]) (Own.tor (A := [_, _, _, _, _]) (Own.tor (A := [_, _, _, _]) (Own.tor (A := [_, _, _]) (Own.tor (A := [_, _]) (Own.tor (A := [_]) (Own.mono hS8 (le_bef (bef_app (a := [10, 0, 1]) hp)))))))))))) rfl rfl)
theorem iNewO {v : AVal} {d : List Int} {k : Nat} (hS : Own β ps H L) (hL : L[k]? = some (sl v 1 (d.map Int.enc))) (hle : le ps ν) (hβ : under β ν = true) (hp : before ν pos') (hd : d.length ≤ 4294967000)
    (hq : ∀ q H1, Own β pos' H1 (orc q (Orf.new d) :: L) → Q (.ptr q 0 0) H1) : CW cfg ν 15 [v] H Q := by
  refine CW_keep g15 F15 rfl ?_
  replace hS := Own.mono hS hle
  refine XW_sr ?_
  refine OW_as rfl rfl ?_
  refine OW_nilE (e' := [_,_,_,_,_,_,_,_,_,_,_,_,_]) rfl ?_
  refine XW_sr ?_
  refine OW_mv rfl rfl ?_
  refine OW_fn rfl rfl (Int.cloneO hS (k := k) hL (le_app (p := ν) (b := [1, 0, 1])) (under_app [1, 0, 1] hβ) (before_lit (ν := ν) (a := [1, 0, 1]) (b := [2, 0, 1]) (by decide)) (by omega) fun O1 H1 hS1 => ?_) 
  replace hS1 : Own _ _ _ (_ :: L) := hS1
  refine OW_makeM eU eI hS1 le_refl (under_app [2, 0, 1] hβ) rfl fun H2 hS2 => ?_
  replace hS2 : Own _ _ _ (_ :: _ :: L) := hS2
  refine OW_env (e' := [_,_,_,_,_,_,_,_,_,_,_,_,_]) rfl ?_
  refine OW_makeM eU eI hS2 le_refl (under_app [3, 0, 1] hβ) rfl fun H3 hS3 => ?_
  replace hS3 : Own _ _ _ (_ :: _ :: _ :: L) := hS3
  refine OW_makeM eS eU hS3 le_refl (under_app [4, 0, 1] hβ) rfl fun H4 hS4 => ?_
  replace hS4 : Own _ _ _ (_ :: _ :: _ :: _ :: L) := hS4
  refine OW_makeM eTag eU hS4 le_refl (under_app [5, 0, 1] hβ) rfl fun H5 hS5 => ?_
  replace hS5 : Own _ _ _ (_ :: _ :: _ :: _ :: _ :: L) := hS5
  refine OW_env (e' := [_,_,_,_,_,_,_,_,_,_,_,_,_]) rfl ?_
  refine OW_makeM eSeal eU hS5 le_refl (under_app [6, 0, 1] hβ) rfl fun H6 hS6 => ?_
  replace hS6 : Own _ _ _ (_ :: _ :: _ :: _ :: _ :: _ :: L) := hS6
  refine OW_makeM eTold eI hS6 le_refl (under_app [7, 0, 1] hβ) rfl fun H7 hS7 => ?_
  replace hS7 : Own _ _ _ (_ :: _ :: _ :: _ :: _ :: _ :: _ :: L) := hS7
  refine OW_bdP rfl (pcons rfl (hS7.one (k := 6) rfl).1 (pcons rfl rfl (pcons rfl rfl (pcons rfl rfl (pcons rfl rfl (pcons rfl rfl (pcons rfl rfl rfl))))))) rfl rfl rfl (cs := [_, _, _, _, _, _, _, _, _, _]) (fill1 rfl (hS7.one (k := 6) rfl).2 rfl (Nat.le_of_ble_eq_true rfl) rfl (fill1 rfl rfl rfl (Nat.le_of_ble_eq_true rfl) rfl (fill1 rfl rfl rfl (Nat.le_of_ble_eq_true rfl) rfl (fill1 rfl rfl rfl (Nat.le_of_ble_eq_true rfl) rfl (fill1 rfl rfl rfl (Nat.le_of_ble_eq_true rfl) rfl (fill1 rfl rfl rfl (Nat.le_of_ble_eq_true rfl) rfl (fill1 rfl rfl rfl (Nat.le_of_ble_eq_true rfl) rfl rfl))))))) ?_
  refine OW_env (e' := [_,_,_,_,_,_,_,_,_,_,_,_,_]) rfl ?_
  refine OW_boxR hS7 (le_lit (ν := ν) (a := [8, 0, 1]) (b := [9, 0, 1]) (by decide)) (under_app [9, 0, 1] hβ) rfl rfl rfl ⟨rfl, rfl⟩ fun H8 hS8 => ?_
  replace hS8 : Own _ _ _ (_ :: _ :: _ :: _ :: _ :: _ :: _ :: _ :: L) := hS8
  refine OW_as rfl rfl ?_
  refine OW_nilE (e' := [_,_,_,_,_,_,_,_,_,_,_,_,_]) rfl ?_
  refine XW_ret ?_
  -- outcome 1
  refine ret_ret (res1 rfl (rv_tmp rfl)) ?_
  exact hq _ _ (Own.mk_orc (m := 0) (d := d) (pl := []) (Own.tor (A := [_, _, _, _, _, _, _, _]) (Own.tor (A := [_, _, _, _, _, _, _, _]) (Own.addE (w := 1) (Own.tor (A := [_, _, _, _, _, _]) (Own.tor (A := [_, _, _, _, _]) (Own.tor (A := [_, _, _, _]) (Own.tor (A := [_, _, _]) (Own.tor (A := [_, _]) (Own.tor (A := [_]) (Own.mono hS8 (le_bef (bef_app (a := [10, 0, 1]) hp)))))))))))) rfl rfl)
end Go.Proofs.Ytealccnfnpkngaa.X
