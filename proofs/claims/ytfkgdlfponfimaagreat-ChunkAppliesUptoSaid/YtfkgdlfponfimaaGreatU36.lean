import Derived.Test.YtfkgdlfponfimaaGreatU35
import Derived.Test.YtfkgdlfponfimaaGreatU34
import Derived.Test.YtfkgdlfponfimaaGreatU29
import Derived.Test.YtfkgdlfponfimaaGreatU33
/- Layer 13: texts of commands. -/
set_option maxRecDepth 100000
namespace Go.Proofs.YtfkgdlfponfimaaGreat.X
section
open Go Go.RowKit WM
variable {ν : Nm} {H : Heap} {Q : AVal → Heap → Prop} {m : Cm}
theorem u64_wr (d : Int) : 0 ≤ IntKind.u64.wrap d ∧ IntKind.u64.wrap d ≤ 18446744073709551615 := by rw [IntKind.wrap_u64]; omega
def packC (m : Cm) : ByteArray := ba (encU (IntKind.u64.wrap m.d).toNat) ++ pkB m.t ++ ba (encU m.vo.toNat) ++ ba (encU m.se.toNat) ++ ba (encU m.a.toNat) ++ ba (encU m.b.toNat) ++ encS m.lf
theorem packC_size (hm : m.fit) : (packC m).size ≤ 120 + m.lf.size := by
  have h1 := encU_i (u64_wr m.d); have h2 := pkB_size hm.t; have h3 := encU_i hm.vo; have h4 := encU_i hm.se; have h5 := encU_i hm.a; have h6 := encU_i hm.b; have h7 := encS_size (s := m.lf) (by have := hm.lf; omega)
  simp only [packC, ss]; omega
theorem p_packC (hm : m.fit) (hq : Q (.str (packC m)) H) : CW cfg ν 23 [m.enc] H Q := by
  have h1 := encU_i (u64_wr m.d); have h2 := pkB_size hm.t; have h3 := encU_i hm.vo; have h4 := encU_i hm.se; have h5 := encU_i hm.a; have h6 := encU_i hm.b; have hlf := hm.lf; have h7 := encS_size (s := m.lf) (by omega)
  have hvo := hm.vo; have hse := hm.se; have ha := hm.a; have hb := hm.b
  refine Be g23 F23 Z ?_
  have hS0 : Own ν ν (fun _ => none) [] := Own.nil
  refine Ac (AR hS0 (AE (p := ν) (b := [0, 0])) (Af [0, 0] AI) Z Z Z ⟨Z, Z⟩ fun H1 (hS1 : Own _ _ _ ([_])) => Ab Z Z (Am (e' := [_,_,_,_,_,_,_,_,_,_,_,_,_,_,_,_,_,_,_,_,_,_,_,_,_,_,_,_,_,_,_]) Z (Ac (Al Z Z Z (Ad hS1 (k := 0) Z Z Z Z Z Z (Bc Z Z Z (EN (c31 ..) Z (AB Z Z (putUi (u64_wr m.d) ?_) ))))))))
  refine Al Z Z Z (Ad hS1 (k := 0) Z Z Z Z Z Z (EN (c31 ..) Z (AB Z Z (packW hm.t ?_) )))
  refine Ah Z Z Z Z (cat (by omega)) (Al Z Z Z (EN (c31 ..) Z (Ad hS1 (k := 0) Z Z Z Z Z Z (AB Z Z (putUi (by assumption) ?_) ))))
  refine Ah Z Z Z Z (cat (by (simp only [ss]; omega))) (EN (c31 ..) Z (Al Z Z Z (Ad hS1 (k := 0) Z Z Z Z Z Z (AB Z Z (putUi (by assumption) ?_) ))))
  refine EN (c31 ..) Z (Ah Z Z Z Z (cat (by (simp only [ss]; omega))) (Al Z Z Z (Ad hS1 (k := 0) Z Z Z Z Z Z (EN (c31 ..) Z (AB Z Z (putUi (by assumption) ?_) )))))
  refine Ah Z Z Z Z (cat (by (simp only [ss]; omega))) (Al Z Z Z (EN (c31 ..) Z (Ad hS1 (k := 0) Z Z Z Z Z Z (AB Z Z (putUi (by assumption) ?_) ))))
  refine Ah Z Z Z Z (cat (by (simp only [ss]; omega))) (EN (c31 ..) Z (Al Z Z Z (Ad hS1 (k := 0) Z Z Z Z Z Z (AB Z Z (putTx (by omega) ?_) ))))
  refine EN (c31 ..) Z (Ah Z Z Z Z (cat (by (simp only [ss]; omega))) (Ab Z Z (Am (e' := [_,_,_,_,_,_,_,_,_,_,_,_,_,_,_,_,_,_,_,_,_,_,_,_,_,_,_,_,_,_,_]) Z (Ap (Ak (res1 Z (Ai Z)) (frz1 (Q := Q) (Ae Z) ?_))))))
  exact hq
theorem num10 (s : ByteArray) : resN 10 s = ([], ⟨#[]⟩, false) ∨ ∃ a0 a1 a2 a3 a4 a5 a6 a7 a8 a9 r, resN 10 s = ([a0, a1, a2, a3, a4, a5, a6, a7, a8, a9], r, true) ∧ r.size ≤ s.size ∧ (∀ x ∈ [a0, a1, a2, a3, a4, a5, a6, a7, a8, a9], U64 x) ∧ cI.manyT 10 s.data.toList = some ([a0, a1, a2, a3, a4, a5, a6, a7, a8, a9], r.data.toList) := by
  unfold resN
  cases h : cI.manyT 10 s.data.toList with
  | none => exact .inl rfl
  | some p =>
    obtain ⟨l, r⟩ := p
    obtain ⟨⟨h1, h2⟩, h3⟩ := (cI.manyT_iff _ _ _ _).1 h
    have hsz : (ba r).size ≤ s.size := by
      have := congrArg List.length h3
      rw [List.length_append] at this
      rw [ba_size]
      have e : s.data.toList.length = s.size := rfl
      omega
    match l, h1, h2 with
    | [a0, a1, a2, a3, a4, a5, a6, a7, a8, a9], _, h2 => exact .inr ⟨a0, a1, a2, a3, a4, a5, a6, a7, a8, a9, ba r, rfl, hsz, h2, rfl⟩
def cm0 : Cm := ⟨0, ⟨0, 0, 0, 0, 0⟩, 0, 0, 0, 0, ⟨#[]⟩⟩
def unpC (s : ByteArray) : Cm × Bool := match resN 10 s with
  | ([a0, a1, a2, a3, a4, a5, a6, a7, a8, a9], r, true) => if (resT (r.size : Int) r).2.2 = true ∧ (resT (r.size : Int) r).2.1 = ⟨#[]⟩ ∧ a0 < 6 then (⟨a0, ⟨a1, a2, a3, a4, a5⟩, a6, a7, a8, a9, (resT (r.size : Int) r).1⟩, true) else (cm0, false)
  | _ => (cm0, false)
theorem takeK_e {s : ByteArray} {m : Nat} {l : List Int} {r : ByteArray} {b : Bool} (hs : s.size ≤ 4611686018427387904) (hm : m ≤ 16) (he : resN m s = (l, r, b)) (hq : Q (.tup [.lst (l.map encN), .str r, .bool b]) H) : CW cfg ν 60 [.str s, .int .i64 m] H Q := takeK_c hs hm (by rw [he]; exact hq)
theorem p_unpackC {s : ByteArray} (hs : s.size ≤ 4611686018427387904) (hq : Q (.tup [(unpC s).1.enc, .bool (unpC s).2]) H) : CW cfg ν 19 [.str s] H Q := by
  rcases num10 s with h | ⟨a0, a1, a2, a3, a4, a5, a6, a7, a8, a9, r, h, hr, hx, _⟩
  · rw [unpC, h] at hq
    refine Be g19 F19 Z ?_
    have hS0 : Own ν ν (fun _ => none) [] := Own.nil
    refine Ac (AG hS0 (AE (p := ν) (b := [0, 0])) (Af [0, 0] AI) Z Z Z Z fun H1 (hS1 : Own _ _ _ ([_])) => Ab Z Z (EZ (c75 ..) Z (Ac (Aa Z Z (AB Z Z (takeK_e (m := 10) hs (by decide) h ?_) )))))
    refine Aa Z Z (EN (c75 ..) Z (AK Z Z Z (AK Z Z Z (AK Z Z Z (EN (c75 ..) Z (Ab Z Z (Ab Z Z (Ab Z Z (EZ (c75 ..) Z (Ac (Aa Z Z (Aa Z Z (By Z Z Z (EN (c75 ..) Z (AB Z Z (takeT_c (by decide) (by decide) ?_) )))))))))))))))
    refine Aa Z Z (AK Z Z Z (EN (c75 ..) Z (AK Z Z Z (AK Z Z Z (Ab Z Z (EN (c75 ..) Z (Ab Z Z (Ab Z Z (EZ (c75 ..) Z (Aq (Ac (Aa Z Z (BE Z Z Z (Aa Z Z (EN (c75 ..) Z (An Z (An Z (Aw Z Z Z (EN (c75 ..) Z (Aa Z Z (An Z (An Z (EN (c75 ..) Z (Aw Z Z Z (Aa Z Z (An Z (EN (c75 ..) Z (An Z (An Z (An Z (EN (c75 ..) Z (Aw Z Z Z (EZ (c75 ..) Z (AZ Z Z (Ac (BF Z Z (v := .agg [_, _, _, _, _, _, _, _, _, _, _]) Z (Av hS1 (k := 0) Z (Ar (ν := ν) (a := [1, 0]) (b := [1, 0, 1, 0, 1, 1, 1]) (by decide)) Z Z Z Z ⟨Z, Z, Nat.le_of_ble_eq_true Z⟩ (u2 := .agg [_, _, _, _, _, _, _, _, _, _, _]) Z fun H2 (hS2 : Own _ _ _ ([_])) => Ab Z Z (EZ (c75 ..) Z (Ap (Ao (Ak (res2 Z (AP hS2 (k := 0) Z Z Z Z (Aj Z Z Z)) (Ai Z)) (frz2 (Q := Q) (Ae Z) (Ae Z) ?_))))))))))))))))))))))))))))))))))))))))))
    exact hq
  rw [unpC, h] at hq
  simp only at hq
  have h0 := hx a0 (by simp)
  refine Be g19 F19 Z ?_
  have hS0 : Own ν ν (fun _ => none) [] := Own.nil
  refine Ac (AG hS0 (AE (p := ν) (b := [0, 0])) (Af [0, 0] AI) Z Z Z Z fun H1 (hS1 : Own _ _ _ ([_])) => Ab Z Z (EZ (c75 ..) Z (Ac (Aa Z Z (AB Z Z (takeK_e (m := 10) hs (by decide) h ?_) )))))
  refine Aa Z Z (EN (c75 ..) Z (AK Z Z Z (AK Z Z Z (AK Z Z Z (EN (c75 ..) Z (Ab Z Z (Ab Z Z (Ab Z Z (EZ (c75 ..) Z (Ac (Aa Z Z (Aa Z Z (By Z Z Z (EN (c75 ..) Z (AB Z Z (takeT_c (by omega) (by omega) ?_) )))))))))))))))
  refine Aa Z Z (AK Z Z Z (EN (c75 ..) Z (AK Z Z Z (AK Z Z Z (Ab Z Z (EN (c75 ..) Z (Ab Z Z (Ab Z Z (EZ (c75 ..) Z (Aq (Ac (Aa Z Z (BE Z Z Z (Aa Z Z (EN (c75 ..) Z (Aa Z Z (BE Z Z Z (Aw Z Z Z (EN (c75 ..) Z (Aa Z Z (AT (tt := 30) Z (fun g3_7 => ?_) (fun g3_7 => ?_))))))))))))))))))))))
  ·first
   |skip
    try simp only [bs] at g3_7
    refine An Z (EN (c75 ..) Z (An Z (Aw Z Z Z (Aa Z Z (EN (c75 ..) Z (An Z (An Z (An Z (EN (c75 ..) Z (An Z (Aw Z Z Z (EZ (c75 ..) Z (AZ Z Z (Ac (BF Z Z (v := .agg [_, _, _, _, _, _, _, _, _, _, _]) Z (Av hS1 (k := 0) Z (Ar (ν := ν) (a := [1, 0]) (b := [1, 0, 1, 0, 1, 1, 1]) (by decide)) Z Z Z Z ⟨Z, Z, Nat.le_of_ble_eq_true Z⟩ (u2 := .agg [_, _, _, _, _, _, _, _, _, _, _]) Z fun H2 (hS2 : Own _ _ _ ([_])) => Ab Z Z (EZ (c75 ..) Z (Ap (Ao (Ak (res2 Z (AP hS2 (k := 0) Z Z Z Z (Aj Z Z Z)) (Ai Z)) (frz2 (Q := Q) (Ae Z) (Ae Z) ?_)))))))))))))))))))))
    rw [if_neg (by rintro ⟨e1, e2, e3⟩; rw [g3_7] at e1; cases e1)] at hq; exact hq
  first
  |skip
   try simp only [bs] at g3_7
   refine Aa Z Z (EN (c75 ..) Z (Ah Z Z Z Z Z (Aw Z Z Z (Aa Z Z (EN (c75 ..) Z (AT (tt := 34) Z (fun g3_11 => ?_) (fun g3_11 => ?_)))))))
   ·first
    |skip
     try simp only [bs] at g3_11
     refine An Z (An Z (EN (c75 ..) Z (An Z (An Z (Aw Z Z Z (EZ (c75 ..) Z (AZ Z Z (Ac (BF Z Z (v := .agg [_, _, _, _, _, _, _, _, _, _, _]) Z (Av hS1 (k := 0) Z (Ar (ν := ν) (a := [1, 0]) (b := [1, 0, 1, 0, 1, 1, 1]) (by decide)) Z Z Z Z ⟨Z, Z, Nat.le_of_ble_eq_true Z⟩ (u2 := .agg [_, _, _, _, _, _, _, _, _, _, _]) Z fun H3 (hS3 : Own _ _ _ ([_])) => Ab Z Z (EZ (c75 ..) Z (Ap (Ao (Ak (res2 Z (AP hS3 (k := 0) Z Z Z Z (Aj Z Z Z)) (Ai Z)) (frz2 (Q := Q) (Ae Z) (Ae Z) ?_)))))))))))))))
     (rw [if_neg (by rintro ⟨e1, e2, e3⟩; contradiction)] at hq; exact hq)
   first
   |skip
    try simp only [bs] at g3_11
    refine Aa Z Z (Bb Z Z Z Ls.of Z Z Z Z Z Z (EN (c75 ..) Z (AS Z Z Z Z (Ah Z Z Z Z Z (Aw Z Z Z (EZ (c75 ..) Z (AH Z (fun h3 => ?_) (fun h3 => ?_))))))))
    ·first
     |skip
      try simp only [bs] at h3
      refine Ac (BF Z Z (v := .agg [_, _, _, _, _, _, _, _, _, _, _]) Z (Av hS1 (k := 0) Z (Ar (ν := ν) (a := [1, 0]) (b := [1, 0, 1, 0, 1, 1, 1]) (by decide)) Z Z Z Z ⟨Z, Z, Nat.le_of_ble_eq_true Z⟩ (u2 := .agg [_, _, _, _, _, _, _, _, _, _, _]) Z fun H4 (hS4 : Own _ _ _ ([_])) => Ab Z Z (EZ (c75 ..) Z (Ap (Ao (Ak (res2 Z (AP hS4 (k := 0) Z Z Z Z (Aj Z Z Z)) (Ai Z)) (frz2 (Q := Q) (Ae Z) (Ae Z) ?_)))))))
      (rw [if_neg (by rintro ⟨e1, e2, e3⟩; omega)] at hq; exact hq)
    first
    |skip
     try simp only [bs] at h3
     refine At (Ag (Ac (Aa Z Z (Bb Z Z Z Ls.of Z Z Z Z Z Z (AS Z Z Z Z (EN (c75 ..) Z (Bc Z Z (Bm Z Z Z (IntWalk.i64_in _ (by omega))) (Aa Z Z (Bb Z Z Z Ls.of Z Z Z Z Z Z (EN (c75 ..) Z (AS Z Z Z Z (Aa Z Z (Bb Z Z Z Ls.of Z Z Z Z Z Z (EN (c75 ..) Z (AS Z Z Z Z (Aa Z Z (Bb Z Z Z Ls.of Z Z Z Z Z Z (EN (c75 ..) Z (AS Z Z Z Z (Aa Z Z (Bb Z Z Z Ls.of Z Z Z Z Z Z (EN (c75 ..) Z (AS Z Z Z Z (Aa Z Z (Bb Z Z Z Ls.of Z Z Z Z Z Z (EN (c75 ..) Z (AS Z Z Z Z (BF Z Z (v := .agg [_, _, _, _, _]) Z (Aa Z Z (EN (c75 ..) Z (Bb Z Z Z Ls.of Z Z Z Z Z Z (AS Z Z Z Z (Aa Z Z (EN (c75 ..) Z (Bb Z Z Z Ls.of Z Z Z Z Z Z (AS Z Z Z Z (Aa Z Z (EN (c75 ..) Z (Bb Z Z Z Ls.of Z Z Z Z Z Z (AS Z Z Z Z (Aa Z Z (EN (c75 ..) Z (Bb Z Z Z Ls.of Z Z Z Z Z Z (AS Z Z Z Z (Aa Z Z (EN (c75 ..) Z (BF Z Z (v := .agg [_, _, _, _, _, _, _, _, _, _, _]) Z (Av hS1 (k := 0) Z (Ar (ν := ν) (a := [1, 0]) (b := [34, 0, 1, 1, 1, 1]) (by decide)) Z Z Z Z ⟨Z, Z, Nat.le_of_ble_eq_true Z⟩ (u2 := .agg [_, _, _, _, _, _, _, _, _, _, _]) Z fun H5 (hS5 : Own _ _ _ ([_])) => ?_))))))))))))))))))))))))))))))))))))))))))))))))
     refine Ab Z Z (EZ (c75 ..) Z (Ap (Ak (res2 Z (AP hS5 (k := 0) Z Z Z Z (Aj Z Z Z)) (Ai Z)) (frz2 (Q := Q) (Ae Z) (Ae Z) ?_))))
     (rw [if_pos ⟨by assumption, by assumption, by omega⟩] at hq; exact hq)
theorem rnums_e {s : ByteArray} {m : Nat} {l : List Int} {r : ByteArray} {b : Bool} (hs : s.size ≤ 4611686018427387904) (hm : m ≤ 16) (he : resN m s = (l, r, b)) (hq : Q (.tup [.lst (l.map encN), .str r, .bool b]) H) : CW cfg ν 62 [.str s, .int .i64 m] H Q := rnums_c hs hm (by rw [he]; exact hq)
theorem r_unpackC {s : ByteArray} (hs : s.size ≤ 4611686018427387904) (hq : Q (.tup [(unpC s).1.enc, .bool (unpC s).2]) H) : CW cfg ν 20 [.str s] H Q := by
  rcases num10 s with h | ⟨a0, a1, a2, a3, a4, a5, a6, a7, a8, a9, r, h, hr, hx, _⟩
  · rw [unpC, h] at hq
    refine Be g20 F20 Z ?_
    have hS0 : Own ν ν (fun _ => none) [] := Own.nil
    refine Ac (AG hS0 (AE (p := ν) (b := [0, 0])) (Af [0, 0] AI) Z Z Z Z fun H1 (hS1 : Own _ _ _ ([_])) => Ab Z Z (EZ (c76 ..) Z (Ac (Aa Z Z (AB Z Z (rnums_e (m := 10) hs (by decide) h ?_) )))))
    refine Aa Z Z (EN (c76 ..) Z (AK Z Z Z (AK Z Z Z (AK Z Z Z (EN (c76 ..) Z (Ab Z Z (Ab Z Z (Ab Z Z (EZ (c76 ..) Z (Aq (Ac (Aa Z Z (BE Z Z Z (Aa Z Z (EN (c76 ..) Z (An Z (An Z (An Z (EN (c76 ..) Z (An Z (Aw Z Z Z (EZ (c76 ..) Z (AZ Z Z (Ac (BF Z Z (v := .agg [_, _, _, _, _, _, _, _, _, _, _]) Z (Av hS1 (k := 0) Z (Ar (ν := ν) (a := [1, 0]) (b := [1, 0, 1, 0, 1, 1]) (by decide)) Z Z Z Z ⟨Z, Z, Nat.le_of_ble_eq_true Z⟩ (u2 := .agg [_, _, _, _, _, _, _, _, _, _, _]) Z fun H2 (hS2 : Own _ _ _ ([_])) => Ab Z Z (EZ (c76 ..) Z (Ap (Ao (Ak (res2 Z (AP hS2 (k := 0) Z Z Z Z (Aj Z Z Z)) (Ai Z)) (frz2 (Q := Q) (Ae Z) (Ae Z) ?_)))))))))))))))))))))))))))))))
    exact hq
  rw [unpC, h] at hq
  simp only at hq
  have h0 := hx a0 (by simp)
  refine Be g20 F20 Z ?_
  have hS0 : Own ν ν (fun _ => none) [] := Own.nil
  refine Ac (AG hS0 (AE (p := ν) (b := [0, 0])) (Af [0, 0] AI) Z Z Z Z fun H1 (hS1 : Own _ _ _ ([_])) => Ab Z Z (EZ (c76 ..) Z (Ac (Aa Z Z (AB Z Z (rnums_e (m := 10) hs (by decide) h ?_) )))))
  refine Aa Z Z (EN (c76 ..) Z (AK Z Z Z (AK Z Z Z (AK Z Z Z (EN (c76 ..) Z (Ab Z Z (Ab Z Z (Ab Z Z (EZ (c76 ..) Z (Aq (Ac (Aa Z Z (BE Z Z Z (Aa Z Z (EN (c76 ..) Z (Aa Z Z (Bb Z Z Z Ls.of Z Z Z Z Z Z (AS Z Z Z Z (EN (c76 ..) Z (Ah Z Z Z Z Z (Aw Z Z Z (EZ (c76 ..) Z (AH Z (fun h2 => ?_) (fun h2 => ?_))))))))))))))))))))))))
  ·first
   |skip
    try simp only [bs] at h2
    refine Ac (BF Z Z (v := .agg [_, _, _, _, _, _, _, _, _, _, _]) Z (Av hS1 (k := 0) Z (Ar (ν := ν) (a := [1, 0]) (b := [1, 0, 1, 0, 1, 1]) (by decide)) Z Z Z Z ⟨Z, Z, Nat.le_of_ble_eq_true Z⟩ (u2 := .agg [_, _, _, _, _, _, _, _, _, _, _]) Z fun H2 (hS2 : Own _ _ _ ([_])) => Ab Z Z (EZ (c76 ..) Z (Ap (Ao (Ak (res2 Z (AP hS2 (k := 0) Z Z Z Z (Aj Z Z Z)) (Ai Z)) (frz2 (Q := Q) (Ae Z) (Ae Z) ?_)))))))
    (rw [if_neg (by rintro ⟨e1, e2, e3⟩; omega)] at hq; exact hq)
  first
  |skip
   try simp only [bs] at h2
   refine At (Ag (Ac (Aa Z Z (Aa Z Z (By Z Z Z (EN (c76 ..) Z (AB Z Z (rtakeT_c (by omega) (by omega) ?_) )))))))
   refine Aa Z Z (AK Z Z Z (EN (c76 ..) Z (AK Z Z Z (AK Z Z Z (Ab Z Z (EN (c76 ..) Z (Ab Z Z (Ab Z Z (EZ (c76 ..) Z (Aq (Ac (Aa Z Z (BE Z Z Z (Aa Z Z (EN (c76 ..) Z (AT (tt := 36) Z (fun g5_3 => ?_) (fun g5_3 => ?_)))))))))))))))))
   ·first
    |skip
     try simp only [bs] at g5_3
     refine An Z (An Z (EN (c76 ..) Z (Aw Z Z Z (EZ (c76 ..) Z (AZ Z Z (Ac (BF Z Z (v := .agg [_, _, _, _, _, _, _, _, _, _, _]) Z (Av hS1 (k := 0) Z (Ar (ν := ν) (a := [1, 0]) (b := [1, 0, 1, 0, 1, 1, 1, 1]) (by decide)) Z Z Z Z ⟨Z, Z, Nat.le_of_ble_eq_true Z⟩ (u2 := .agg [_, _, _, _, _, _, _, _, _, _, _]) Z fun H3 (hS3 : Own _ _ _ ([_])) => Ab Z Z (EZ (c76 ..) Z (Ap (Ao (Ak (res2 Z (AP hS3 (k := 0) Z Z Z Z (Aj Z Z Z)) (Ai Z)) (frz2 (Q := Q) (Ae Z) (Ae Z) ?_)))))))))))))
     (rw [if_neg (by rintro ⟨e1, e2, e3⟩; (simp_all; done))] at hq; exact hq)
   first
   |skip
    try simp only [bs] at g5_3
    refine Aa Z Z (Ah Z Z Z Z Z (EN (c76 ..) Z (Aw Z Z Z (EZ (c76 ..) Z (AH Z (fun h5 => ?_) (fun h5 => ?_))))))
    ·first
     |skip
      try simp only [bs] at h5
      refine Ac (BF Z Z (v := .agg [_, _, _, _, _, _, _, _, _, _, _]) Z (Av hS1 (k := 0) Z (Ar (ν := ν) (a := [1, 0]) (b := [1, 0, 1, 0, 1, 1, 1, 1]) (by decide)) Z Z Z Z ⟨Z, Z, Nat.le_of_ble_eq_true Z⟩ (u2 := .agg [_, _, _, _, _, _, _, _, _, _, _]) Z fun H4 (hS4 : Own _ _ _ ([_])) => Ab Z Z (EZ (c76 ..) Z (Ap (Ao (Ak (res2 Z (AP hS4 (k := 0) Z Z Z Z (Aj Z Z Z)) (Ai Z)) (frz2 (Q := Q) (Ae Z) (Ae Z) ?_)))))))
      (rw [if_neg (by rintro ⟨e1, e2, e3⟩; contradiction)] at hq; exact hq)
    first
    |skip
     try simp only [bs] at h5
     refine At (Ag (Ac (Aa Z Z (Bb Z Z Z Ls.of Z Z Z Z Z Z (AS Z Z Z Z (EN (c76 ..) Z (Aa Z Z (Bb Z Z Z Ls.of Z Z Z Z Z Z (AS Z Z Z Z (EN (c76 ..) Z (Aa Z Z (Bb Z Z Z Ls.of Z Z Z Z Z Z (AS Z Z Z Z (EN (c76 ..) Z (Aa Z Z (Bb Z Z Z Ls.of Z Z Z Z Z Z (AS Z Z Z Z (EN (c76 ..) Z (Aa Z Z (Bb Z Z Z Ls.of Z Z Z Z Z Z (AS Z Z Z Z (EN (c76 ..) Z (BF Z Z (v := .agg [_, _, _, _, _]) Z (AG hS1 (Ar (ν := ν) (a := [1, 0]) (b := [16, 0, 1, 1, 1, 1, 1]) (by decide)) (Af [16, 0, 1, 1, 1, 1, 1] AI) Z Z Z Z fun H5 (hS5 : Own _ _ _ ([_, _])) => Av hS5 (k := 0) Z le_refl Z Z Z Z ⟨Z, Z, Nat.le_of_ble_eq_true Z⟩ (u2 := .agg [_, _, _, _, _]) Z fun H6 (hS6 : Own _ _ _ ([_, _])) => EZ (c76 ..) Z (Ac (Aa Z Z (Bb Z Z Z Ls.of Z Z Z Z Z Z (AS Z Z Z Z (EN (c76 ..) Z (Bc Z Z (Bm Z Z Z (IntWalk.i64_in _ (by omega))) (Ad hS6 (k := 0) Z Z Z Z Z (Aj Z Z Z) (Aa Z Z (EN (c76 ..) Z (Bb Z Z Z Ls.of Z Z Z Z Z Z ?_))))))))))))))))))))))))))))))))))
     refine AS Z Z Z Z (Aa Z Z (EN (c76 ..) Z (Bb Z Z Z Ls.of Z Z Z Z Z Z (AS Z Z Z Z (Aa Z Z (EN (c76 ..) Z (Bb Z Z Z Ls.of Z Z Z Z Z Z (AS Z Z Z Z (Aa Z Z (EN (c76 ..) Z (Bb Z Z Z Ls.of Z Z Z Z Z Z (AS Z Z Z Z (Aa Z Z (EN (c76 ..) Z (BF Z Z (v := .agg [_, _, _, _, _, _, _, _, _, _, _]) Z (Av hS6 (k := 1) Z (Ar (ν := ν) (a := [18, 0, 1, 1, 1, 1, 1]) (b := [19, 0, 1, 1, 1, 1, 1, 1]) (by decide)) Z Z Z Z ⟨Z, Z, Nat.le_of_ble_eq_true Z⟩ (u2 := .agg [_, _, _, _, _, _, _, _, _, _, _]) Z fun H7 (hS7 : Own _ _ _ ([_, _])) => Ab Z Z (EZ (c76 ..) Z (Ap (Ak (res2 Z (AP hS7 (k := 1) Z Z Z Z (Aj Z Z Z)) (Ai Z)) (frz2 (Q := Q) (Ae Z) (Ae Z) ?_))))))))))))))))))))
     (rw [if_pos ⟨by assumption, by assumption, by omega⟩] at hq; exact hq)
end
/- Layer 13: chunk.Apply. -/
set_option maxRecDepth 100000
section
open Go Go.RowKit WM
variable {ν β ps pos pos' : Nm} {H H1 : Heap} {Q : AVal → Heap → Prop} {L : List Asr} {k : Nat} {S : Rf} {c : Ck} {q qo : Nm} {key want id nr : Int} {m : Cm} {V0 S0 T0 v0 : AVal} {cmd : ByteArray}
def noteE (e : Int) (an : ByteArray) : ByteArray := ba (encU (IntKind.u64.wrap e).toNat) ++ encS an
def noteR (r : Rs) (id nr : Int) : Rs := ⟨{ r.c with ss := SE.noteL r.c.ss id nr (noteE r.e r.an) }, r.e, r.an⟩
def applyR (S : Rf) (key : Int) (c : Ck) (id nr : Int) (cmd : ByteArray) : Rs × Rf :=
  if (SE.seekL id nr c.ss).1 = 2 then (err c 131, S)
  else if (SE.seekL id nr c.ss).1 = 1 then (⟨c, (ntS (SE.seekL id nr c.ss).2).1, (ntS (SE.seekL id nr c.ss).2).2⟩, S)
  else if (unpC cmd).2 = true then (noteR (runR S key c (unpC cmd).1).1 id nr, (runR S key c (unpC cmd).1).2)
  else (noteR (err c 130) id nr, S)
theorem seek_e {ν : Nm} {H : Heap} {v : AVal} {t : List SE.Se} {kk : Int} {s : ByteArray} (hv : Ls v (t.map SE.Se.enc)) (hn : t.length ≤ 4294967296) (id nr : Int) (he : SE.seekL id nr t = (kk, s)) (hq : Q (.tup [.int .i64 kk, .str s]) H) : CW cfg ν 36 [v, .int .u64 id, .int .u64 nr] H Q := SE.pSeek hv hn id nr (by rw [he]; exact hq)
theorem apply_old {s : ByteArray} (he : SE.seekL id nr c.ss = (2, s)) (hg : c.good) (hf : X.freeze [] H 8 v0 = c.enc) (hS : Own β ps (X.lose (X.reach [] H 8 v0) H) L) (hL : L[k]? = some (orc qo S.of)) (hle : le ps ν) (hβ : under β ν = true) (hp : before ν pos')
    (hq : ∀ H1, Own β pos' H1 L → Q (.tup [c.enc, .int .i64 131, .str ⟨#[]⟩]) H1) : CW cfg ν 11 [.ptr qo 0 0, .int .u64 key, v0, .int .u64 id, .int .u64 nr, .str cmd] H Q := by
  have hsm := hg.sm
  have hsl := hg.sl
  have hR : X.reach [] H 9 (.tup [.ptr qo 0 0, .int .u64 key, v0, .int .u64 id, .int .u64 nr, .str cmd]) = X.reach [] H 8 v0 := by simp [X.reach]
  rw [← hR] at hS
  refine Bu (args' := [.ptr qo 0 0, .int .u64 key, c.enc, .int .u64 id, .int .u64 nr, .str cmd]) g11 F11 Z (AF (Ae Z) (AF (Ae Z) (AF (by assumption) (AF (Ae Z) (AF (Ae Z) (AF (Ae Z) Bw)))))) ?_
  replace hS := Own.mono hS hle
  refine Ac (AR hS (AE (p := ν) (b := [0, 0])) (Af [0, 0] hβ) Z Z Z ⟨Z, Z⟩ fun H1 (hS1 : Own _ _ _ (_ :: L)) => AG hS1 le_refl (Af [1, 0] hβ) Z Z Z Z fun H2 (hS2 : Own _ _ _ (_ :: _ :: L)) => Ab Z Z (EN (c80 ..) Z (Ab Z Z (EZ (c80 ..) Z (Aq (Ac (Al Z Z Z (Ad hS2 (k := 1) Z Z Z Z Z Z (Aa Z Z (EN (c80 ..) Z (Aa Z Z (AB Z Z (seek_e Ls.of (by omega) id nr he ?_) ))))))))))))
  refine Aa Z Z (EN (c80 ..) Z (AK Z Z Z (AK Z Z Z (Ab Z Z (EN (c80 ..) Z (Ab Z Z (EZ (c80 ..) Z (Ac (Aa Z Z (EZ (c80 ..) Z (AD (Ac (Ah Z Z Z Z Z (Ab Z Z (EZ (c80 ..) Z (AZ Z Z (Ac (Ad hS2 (k := 1) Z Z Z Z Z (Aj Z Z Z) (AB Z Z (copied_c Ls.of Ls.of Ls.of hS2 (Ar (ν := ν) (a := [2, 0]) (b := [1, 0, 1, 1, 1, 0, 1]) (by decide)) (Af [1, 0, 1, 1, 1, 0, 1] hβ) (Au (ν := ν) (a := [1, 0, 1, 1, 1, 0, 1]) (b := [2, 0, 1, 1, 1, 0, 1]) (by decide)) hsm fun H3 V S1 T hS3 => ?_) )))))))))))))))))))
  replace hS3 : Own _ _ _ (_ :: _ :: _ :: L) := hS3
  refine Av hS3 (k := 1) Z le_refl Z Z Z Z ⟨Z, Z, Nat.le_of_ble_eq_true Z⟩ (u2 := .agg [_, _, _]) Z fun H4 (hS4 : Own _ _ _ (_ :: _ :: _ :: L)) => EN (c80 ..) Z (Ab Z Z (Ab Z Z (EZ (c80 ..) Z (Ap (AA (Ao (Ak (res3 Z (AP hS4 (k := 1) Z Z Z Z (Aj Z Z Z)) (Ai Z) (Ai Z)) ?_)))))))
  have hz := Own.drop (Own.drop (Own.mono hS4 (Ax (Az (a := [3, 0, 1, 1, 1, 0, 1]) hp))) (k := 2) Z) (k := 1) Z
  obtain ⟨fz, hfz, _⟩ := hz.get (k := 0) Z
  rw [fz3 (stO_F hfz)]; exact hq _ (Own.lose hz fun f hf => rc3 (stO_F hf))
theorem apply_again {s : ByteArray} (he : SE.seekL id nr c.ss = (1, s)) (hs : s.size ≤ 4611686018427387904) (hg : c.good) (hf : X.freeze [] H 8 v0 = c.enc) (hS : Own β ps (X.lose (X.reach [] H 8 v0) H) L) (hL : L[k]? = some (orc qo S.of)) (hle : le ps ν) (hβ : under β ν = true) (hp : before ν pos')
    (hq : ∀ H1, Own β pos' H1 L → Q (.tup [c.enc, .int .i64 (ntS s).1, .str (ntS s).2]) H1) : CW cfg ν 11 [.ptr qo 0 0, .int .u64 key, v0, .int .u64 id, .int .u64 nr, .str cmd] H Q := by
  have hsm := hg.sm
  have hsl := hg.sl
  have hR : X.reach [] H 9 (.tup [.ptr qo 0 0, .int .u64 key, v0, .int .u64 id, .int .u64 nr, .str cmd]) = X.reach [] H 8 v0 := by simp [X.reach]
  rw [← hR] at hS
  refine Bu (args' := [.ptr qo 0 0, .int .u64 key, c.enc, .int .u64 id, .int .u64 nr, .str cmd]) g11 F11 Z (AF (Ae Z) (AF (Ae Z) (AF (by assumption) (AF (Ae Z) (AF (Ae Z) (AF (Ae Z) Bw)))))) ?_
  replace hS := Own.mono hS hle
  refine Ac (AR hS (AE (p := ν) (b := [0, 0])) (Af [0, 0] hβ) Z Z Z ⟨Z, Z⟩ fun H1 (hS1 : Own _ _ _ (_ :: L)) => AG hS1 le_refl (Af [1, 0] hβ) Z Z Z Z fun H2 (hS2 : Own _ _ _ (_ :: _ :: L)) => Ab Z Z (EN (c80 ..) Z (Ab Z Z (EZ (c80 ..) Z (Aq (Ac (Al Z Z Z (Ad hS2 (k := 1) Z Z Z Z Z Z (Aa Z Z (EN (c80 ..) Z (Aa Z Z (AB Z Z (seek_e Ls.of (by omega) id nr he ?_) ))))))))))))
  refine Aa Z Z (EN (c80 ..) Z (AK Z Z Z (AK Z Z Z (Ab Z Z (EN (c80 ..) Z (Ab Z Z (EZ (c80 ..) Z (Ac (Aa Z Z (EZ (c80 ..) Z (AD (Ac (Ah Z Z Z Z Z (Ab Z Z (EZ (c80 ..) Z (Bd Z Z (Ac (Ah Z Z Z Z Z (Ab Z Z (EZ (c80 ..) Z (AZ Z Z (Ac (Aa Z Z (AB Z Z (noted_c hs ?_) ))))))))))))))))))))))))
  refine Aa Z Z (EN (c80 ..) Z (AK Z Z Z (AK Z Z Z (Ab Z Z (EN (c80 ..) Z (Ab Z Z (EZ (c80 ..) Z (Ac (Ad hS2 (k := 1) Z Z Z Z Z (Aj Z Z Z) (AB Z Z (copied_c Ls.of Ls.of Ls.of hS2 (Ar (ν := ν) (a := [2, 0]) (b := [1, 0, 1, 1, 1, 1, 1, 0, 1]) (by decide)) (Af [1, 0, 1, 1, 1, 1, 1, 0, 1] hβ) (Au (ν := ν) (a := [1, 0, 1, 1, 1, 1, 1, 0, 1]) (b := [2, 0, 1, 1, 1, 1, 1, 0, 1]) (by decide)) hsm fun H3 V S1 T hS3 => ?_) ))))))))))
  replace hS3 : Own _ _ _ (_ :: _ :: _ :: L) := hS3
  refine Aa Z Z (EN (c80 ..) Z (Aa Z Z (Av hS3 (k := 1) Z (Ar (ν := ν) (a := [2, 0, 1, 1, 1, 1, 1, 0, 1]) (b := [4, 0, 1, 1, 1, 1, 1, 0, 1]) (by decide)) Z Z Z Z ⟨Z, Z, Nat.le_of_ble_eq_true Z⟩ (u2 := .agg [_, _, _]) Z fun H4 (hS4 : Own _ _ _ (_ :: _ :: _ :: L)) => Ab Z Z (EN (c80 ..) Z (Ab Z Z (EZ (c80 ..) Z (Ap (AA (Ao (Ak (res3 Z (AP hS4 (k := 1) Z Z Z Z (Aj Z Z Z)) (Ai Z) (Ai Z)) ?_))))))))))
  have hz := Own.drop (Own.drop (Own.mono hS4 (Ax (Az (a := [5, 0, 1, 1, 1, 1, 1, 0, 1]) hp))) (k := 2) Z) (k := 1) Z
  obtain ⟨fz, hfz, _⟩ := hz.get (k := 0) Z
  rw [fz3 (stO_F hfz)]; exact hq _ (Own.lose hz fun f hf => rc3 (stO_F hf))
end
/- Layer 13: a state that may be stays one. -/
set_option maxRecDepth 100000
section
open Go Go.RowKit WM
variable {S : Rf} {c : Ck} {key want id nr : Int} {m : Cm} {cmd : ByteArray}
theorem resT_size1 (m : Int) (s : ByteArray) : (resT m s).1.size ≤ s.size := by
  unfold resT
  cases h : WM.takeT m s.data.toList with
  | none => exact Nat.zero_le _
  | some p => obtain ⟨t, r⟩ := p; have := takeT_short h; show (ba t).size ≤ _; rw [ba_size]; have e : s.data.toList.length = s.size := rfl; omega
theorem give_fit {t : List Qu} {tn n : Int} (hf : Fit t) (h0 : 0 ≤ n) : Fit (giveQ t tn n).1 := by
  unfold giveQ
  cases hg : getQ tn t with
  | none => intro x hx; simp at hx
  | some r =>
    intro x hx
    rcases modQ_mem hx with h | ⟨r', h1, rfl⟩
    · exact hf x h
    rw [hg] at h1
    obtain rfl := Option.some.inj h1
    obtain ⟨f1, f2, f3⟩ := hf r (getQ_mem hg).1
    exact ⟨f1, ⟨by show 0 ≤ r.us - min n r.us; omega, by show r.us - min n r.us ≤ _; omega⟩, f3⟩
theorem good_vs {i : Nat} {y : Vo} (hg : c.good) (hi : i < c.vs.length) (hy : y.good) (hv : y.vo = c.vs[i].vo) : (⟨c.vs.set i y, c.ss, c.qs⟩ : Ck).good := by
  refine ⟨by rw [List.length_set]; exact hg.vl, fun x hx => ?_, ?_, hg.sc, hg.sf, hg.qc, hg.qf⟩
  · rcases List.mem_or_eq_of_mem_set hx with h | rfl
    · exact hg.vg x h
    exact hy
  show ((c.vs.set i y).map Vo.vo).Nodup
  rw [List.map_set, hv, show c.vs[i].vo = (c.vs.map Vo.vo)[i]'(by simpa using hi) by simp, List.set_getElem_self]
  exact hg.nd
theorem good_qs {qs : List Qu} (hg : c.good) (h1 : chkQ qs = true) (h2 : Fit qs) : (⟨c.vs, c.ss, qs⟩ : Ck).good := ⟨hg.vl, hg.vg, hg.nd, hg.sc, hg.sf, h1, h2⟩
theorem good_ss {ss : List SE.Se} (hg : c.good) (h1 : SE.chkL ss = true) (h2 : ∀ x ∈ ss, x.fit) : (⟨c.vs, ss, c.qs⟩ : Ck).good := ⟨hg.vl, hg.vg, hg.nd, h1, h2, hg.qc, hg.qf⟩
theorem atP_good (hg : c.good) (h : ¬ atP m.vo c.vs < 0) : ∃ (i : Nat) (hi : i < c.vs.length), atP m.vo c.vs = i ∧ c.vs[i].vo = m.vo ∧ c.vs[i].good := by
  obtain ⟨i, hi, h1, h2⟩ := atP_some (c := c) (m := m) rfl h
  exact ⟨i, hi, h1, h2, hg.vg _ (List.getElem_mem hi)⟩
theorem makeR_good (hg : c.good) (hm : m.fit) : (makeR c m).c.good := by
  unfold makeR
  split
  · exact hg
  rename_i h1
  split
  · exact hg
  split
  · exact hg
  rename_i h2 h3
  have hb := hm.b
  refine ⟨by simp [err]; omega, fun x hx => ?_, ?_, hg.sc, hg.sf, hg.qc, hg.qf⟩
  · rcases List.mem_append.1 hx with h | h
    · exact hg.vg x h
    simp only [List.mem_singleton] at h
    subst h
    exact ⟨hm.vo, hm.a, hm.se, ⟨hb.1, by show m.b ≤ 4; omega⟩, by simp, fun s hs => by rw [(List.mem_replicate.1 hs).2]; decide⟩
  show ((c.vs ++ [_]).map Vo.vo).Nodup
  rw [List.map_append, List.nodup_append]
  refine ⟨hg.nd, by simp, ?_⟩
  intro a ha b hb'
  obtain ⟨x, hx, rfl⟩ := List.mem_map.1 ha
  simp only [List.map_cons, List.map_nil, List.mem_singleton] at hb'
  subst hb'
  rcases atP_cases m.vo c.vs with ⟨_, h⟩ | ⟨i, hi, h, _⟩
  · exact h x hx
  omega
theorem epochR_good (hg : c.good) (hm : m.fit) : (epochR c m).c.good := by
  unfold epochR
  split
  · exact hg
  rename_i h
  obtain ⟨i, hi, h1, h2, h3⟩ := atP_good hg h
  rw [at_eq h1 hi, setV_eq h1]
  have ha := hm.a
  have he := h3.ep
  exact good_vs (y := { c.vs[i] with ep := max c.vs[i].ep m.a }) hg hi ⟨h3.vo, h3.tn, ⟨by show 0 ≤ max c.vs[i].ep m.a; omega, by show max c.vs[i].ep m.a ≤ _; omega⟩, h3.de, h3.ll, h3.lv⟩ rfl
theorem limitR_good (hg : c.good) (hm : m.fit) : (limitR c m).c.good := by
  unfold limitR
  split
  · exact hg
  rename_i h
  exact good_qs hg (good_set hg.qc (by simpa using h)).1 (set_fit hg.qf hm.a hm.b)
theorem leaf_at (hg : c.good) (he : (leafE S key c m want).1 = 0) : ∃ (i : Nat) (hi : i < c.vs.length), atP m.vo c.vs = i ∧ c.vs[i].vo = m.vo ∧ c.vs[i].good ∧ m.se < c.vs[i].lv.length ∧ (S.check key m.t m.vo c.vs[i].ep want).1 = 0 := by
  have h0 : ¬ atP m.vo c.vs < 0 := fun h => by rw [leafE, if_pos h] at he; exact absurd he (show ¬ (132 : Int) = 0 by decide)
  obtain ⟨i, hi, h1, h2, h3⟩ := atP_good hg h0
  rw [leafE_at h1 hi] at he
  split at he
  · rename_i h; exact absurd he h
  rename_i h
  split at he
  · exact absurd he (show ¬ (133 : Int) = 0 by decide)
  rename_i h4
  exact ⟨i, hi, h1, h2, h3, by omega, Classical.not_not.1 h⟩
theorem setL_good {s : ByteArray} {i : Nat} (hg : c.good) (hs : s.size ≤ 64) (h1 : atP m.vo c.vs = i) (hi : i < c.vs.length) : (c.setL m s).good := by
  rw [setL_at h1 hi]
  have h3 := hg.vg _ (List.getElem_mem hi)
  exact good_vs (y := { c.vs[i] with lv := c.vs[i].lv.set m.se.toNat s }) hg hi ⟨h3.vo, h3.tn, h3.ep, h3.de, by show (c.vs[i].lv.set _ _).length = _; rw [List.length_set]; exact h3.ll, fun x hx => by
    rcases List.mem_or_eq_of_mem_set hx with h | rfl
    · exact h3.lv x h
    exact hs⟩ rfl
theorem putR_good {i : Nat} (hg : c.good) (h1 : atP m.vo c.vs = i) (hi : i < c.vs.length) : (putR c m).c.good := by
  unfold putR
  split
  · exact hg
  rename_i h
  have hs : m.lf.size ≤ 64 := by omega
  split
  · split
    · exact hg
    rename_i h4
    have h5 : (takeQ c.qs (c.at m).tn 1).2 = 0 := Classical.not_not.1 h4
    exact good_qs (setL_good hg hs h1 hi) (good_take hg.qc h5).1 (take_fit hg.qf (by decide))
  exact setL_good hg hs h1 hi
theorem trimR_good {i : Nat} (hg : c.good) (h1 : atP m.vo c.vs = i) (hi : i < c.vs.length) : (trimR c m).c.good := by
  unfold trimR
  split
  · exact hg
  split
  · rename_i h4
    exact good_qs (setL_good hg (by decide) h1 hi) (good_give hg.qc h4).1 (give_fit hg.qf (by decide))
  exact setL_good hg (by decide) h1 hi
theorem leafR_good {f : Ck → Cm → Rs} (hg : c.good) (hf : ∀ i, atP m.vo c.vs = (i : Nat) → i < c.vs.length → (f c m).c.good) : (leafR S key c m want f).1.c.good := by
  by_cases he : (leafE S key c m want).1 = 0
  · rw [leafR_ok he]
    obtain ⟨i, hi, h1, _⟩ := leaf_at hg he
    exact hf i h1 hi
  rw [leafR_err he]; exact hg
theorem runR_good (hg : c.good) (hm : m.fit) : (runR S key c m).1.c.good := by
  unfold runR
  split
  · exact makeR_good hg hm
  split
  · exact epochR_good hg hm
  split
  · exact limitR_good hg hm
  split
  · exact leafR_good hg fun i h hi => putR_good hg h hi
  split
  · exact leafR_good hg fun i h hi => hg
  split
  · exact leafR_good hg fun i h hi => trimR_good hg h hi
  exact hg
theorem old_size {i : Nat} (hg : c.good) (h1 : atP m.vo c.vs = i) (hi : i < c.vs.length) : (c.old m).size ≤ 64 := by
  unfold Ck.old
  rw [at_eq h1 hi, List.getD_eq_getElem?_getD]
  cases h : c.vs[i].lv[m.se.toNat]? with
  | none => decide
  | some s => exact (hg.vg _ (List.getElem_mem hi)).lv s (List.mem_of_getElem? h)
theorem runR_an (hg : c.good) : (runR S key c m).1.an.size ≤ 64 := by
  have e : ∀ c e, (err c e).an.size ≤ 64 := fun _ _ => by show (⟨#[]⟩ : ByteArray).size ≤ 64; decide
  unfold runR
  split
  · unfold makeR; repeat' split
    all_goals exact e _ _
  split
  · unfold epochR; split <;> exact e _ _
  split
  · unfold limitR; split <;> exact e _ _
  split
  · unfold leafR putR; repeat' split
    all_goals exact e _ _
  split
  · by_cases he : (leafE S key c m 1).1 = 0
    · rw [leafR_ok he]
      obtain ⟨i, hi, h1, _⟩ := leaf_at hg he
      exact old_size hg h1 hi
    rw [leafR_err he]; exact e _ _
  split
  · unfold leafR trimR; repeat' split
    all_goals exact e _ _
  exact e _ _
theorem noteL_good {t : List SE.Se} {a : ByteArray} (h : SE.chkL t = true) (hf : ∀ x ∈ t, x.fit) (hi : U64 id) (hn : U64 nr) : SE.chkL (SE.noteL t id nr a) = true ∧ ∀ x ∈ SE.noteL t id nr a, x.fit := by
  obtain ⟨h1, h2, h3⟩ := of_decide_eq_true h
  have hsub : (SE.keepL id t).Sublist t := List.filter_sublist
  have hmem : ∀ x ∈ SE.noteL t id nr a, x ∈ SE.keepL id t ∨ x = ⟨id, nr, SE.cutA a⟩ := fun x hx => by
    have := List.mem_of_mem_drop hx
    simpa using this
  refine ⟨decide_eq_true ⟨?_, ?_, ?_⟩, ?_⟩
  · simp only [SE.noteL, SE.lastL, List.length_drop]; omega
  · intro x hx
    rcases hmem x hx with h | rfl
    · exact h2 x (hsub.subset h)
    show (SE.cutA a).size ≤ 256
    simp only [SE.cutA, ss]; omega
  · have hd : ((SE.keepL id t ++ [(⟨id, nr, SE.cutA a⟩ : SE.Se)]).map SE.Se.id).Nodup := by
      rw [List.map_append, List.nodup_append]
      refine ⟨(hsub.map _).nodup h3, by simp, ?_⟩
      intro x hx y hy
      simp only [List.map_cons, List.map_nil, List.mem_singleton] at hy
      subst hy
      obtain ⟨z, hz, rfl⟩ := List.mem_map.1 hx
      have := (List.mem_filter.1 hz).2
      simpa using this
    exact ((List.drop_sublist _ _).map _).nodup hd
  intro x hx
  rcases hmem x hx with h | rfl
  · exact hf x (hsub.subset h)
  exact ⟨hi, hn⟩
theorem noteR_good {r : Rs} (hg : r.c.good) (hi : U64 id) (hn : U64 nr) : (noteR r id nr).c.good := by
  obtain ⟨h1, h2⟩ := noteL_good (a := noteE r.e r.an) hg.sc hg.sf hi hn
  exact good_ss hg h1 h2
theorem unpC_fit (hc : cmd.size ≤ 1099511627776) : (unpC cmd).1.fit := by
  have u0 : U64 0 := by decide
  have h0 : cm0.fit := ⟨by decide, ⟨u0, u0, u0, u0, u0⟩, u0, u0, u0, u0, by decide⟩
  rcases num10 cmd with h | ⟨a0, a1, a2, a3, a4, a5, a6, a7, a8, a9, r, h, hr, hx, _⟩
  · rw [unpC, h]; exact h0
  rw [unpC, h]
  simp only
  split
  · rename_i hh
    refine ⟨by have := hx a0 (by simp); show -9223372036854775808 ≤ a0 ∧ a0 ≤ _; omega, ⟨hx a1 (by simp), hx a2 (by simp), hx a3 (by simp), hx a4 (by simp), hx a5 (by simp)⟩, hx a6 (by simp), hx a7 (by simp), hx a8 (by simp), hx a9 (by simp), ?_⟩
    have := resT_size1 (r.size : Int) r
    show (resT (r.size : Int) r).1.size ≤ _
    omega
  exact h0
theorem applyR_good (hg : c.good) (hi : U64 id) (hn : U64 nr) (hc : cmd.size ≤ 1099511627776) : (applyR S key c id nr cmd).1.c.good := by
  unfold applyR
  split
  · exact hg
  split
  · exact hg
  split
  · exact noteR_good (runR_good hg (unpC_fit hc)) hi hn
  exact noteR_good (r := err c 130) hg hi hn
end
/- Layer 13: chunk.Apply of a new command. -/
set_option maxRecDepth 100000
section
open Go Go.RowKit WM
variable {ν β ps pos pos' : Nm} {H H1 : Heap} {Q : AVal → Heap → Prop} {L : List Asr} {k : Nat} {S : Rf} {c : Ck} {q qo : Nm} {key want id nr : Int} {m : Cm} {V0 S0 T0 v0 : AVal} {cmd : ByteArray}
theorem unpack_e {s : ByteArray} {m : Cm} {b : Bool} (hs : s.size ≤ 4611686018427387904) (he : unpC s = (m, b)) (hq : Q (.tup [m.enc, .bool b]) H) : CW cfg ν 19 [.str s] H Q := p_unpackC hs (by rw [he]; exact hq)
theorem noteE_size {e : Int} {an : ByteArray} (h : an.size ≤ 64) : (noteE e an).size ≤ 84 := by
  have h1 := encU_i (u64_wr e)
  have h2 := encS_size (s := an) (by omega)
  simp only [noteE, ss]; omega
theorem Bp {D : List Nm} (h : Own β pos H L) (hD : D = []) : Own β pos (X.lose D H) L := by
  subst hD
  exact h.same fun p _ _ => by simp [X.lose]
theorem fzC {vs ss qs : List AVal} {kk : IntKind} {e : Int} {s : ByteArray} : X.freeze [] H 8 (.tup [.agg [.lst vs, .lst ss, .lst qs], .int kk e, .str s]) = .tup [.agg [.lst vs, .lst ss, .lst qs], .int kk e, .str s] := rfl
theorem rcC {vs ss qs : List AVal} {kk : IntKind} {e : Int} {s : ByteArray} : reach [] H 8 (.tup [.agg [.lst vs, .lst ss, .lst qs], .int kk e, .str s]) = [] := rfl
theorem fzM {V T : AVal} {ss : List AVal} {vs : List Vo} {qs : List Qu} {f : List Nm} {kk : IntKind} {e : Int} {s : ByteArray} (h : (Asr.all [vols V vs, sl T 3 (qs.map Qu.enc)]).holds H f) : X.freeze [] H 8 (.tup [.agg [V, .lst ss, T], .int kk e, .str s]) = .tup [.agg [.lst (vs.map Vo.enc), .lst ss, .lst (qs.map Qu.enc)], .int kk e, .str s] := by
  obtain ⟨f1, f2, h0, h1, h2, f3, f4, k0, k1, k2, k3⟩ := h
  have e1 := vols_freeze (n := 3) h2
  have e3 : X.freeze [] H 6 T = _ := Sl.freezeP (n := 5) k2 qu_plain
  show AVal.tup [.agg [X.freeze [] H 6 V, _, X.freeze [] H 6 T], _, _] = _
  rw [e1, e3]; rfl
theorem rcM {V T : AVal} {ss : List AVal} {vs : List Vo} {qs : List Qu} {f : List Nm} {kk : IntKind} {e : Int} {s : ByteArray} (h : (Asr.all [vols V vs, sl T 3 (qs.map Qu.enc)]).holds H f) : ∀ q ∈ reach [] H 8 (.tup [.agg [V, .lst ss, T], .int kk e, .str s]), q ∈ f := by
  obtain ⟨f1, f2, h0, h1, h2, f3, f4, k0, k1, k2, k3⟩ := h
  intro q hq
  have e : reach [] H 8 (.tup [.agg [V, .lst ss, T], .int kk e, .str s]) = reach [] H 6 V ++ reach [] H 6 T := by
    rw [reach]
    simp only [List.map_cons, List.map_nil, List.flatten_cons, List.flatten_nil, List.append_nil]
    rw [reach_plain (v := .int kk e) rfl, reach_plain (v := .str s) rfl, reach]
    simp only [List.map_cons, List.map_nil, List.flatten_cons, List.flatten_nil, List.append_nil]
    rw [reach_plain (v := .lst ss) rfl]; simp
  rw [e] at hq
  rw [h0, k0]
  rcases List.mem_append.1 hq with hq | hq
  · simp [vols_reach h2 q hq]
  simp [Sl.reachP k2 qu_plain q hq]
theorem apply_ok {s0 : ByteArray} (he : SE.seekL id nr c.ss = (0, s0)) (hu : unpC cmd = (m, true)) (hm : m.fit) (hg : c.good) (hc : cmd.size ≤ 1099511627776) (hf : X.freeze [] H 8 v0 = c.enc) (hS : Own β ps (X.lose (X.reach [] H 8 v0) H) L) (hL : L[k]? = some (orc qo S.of)) (hle : le ps ν) (hβ : under β ν = true) (hp : before ν pos')
    (hq : ∀ H1, Own β pos' H1 (L.set k (orc qo (runR S key c m).2.of)) → Q (.tup [(noteR (runR S key c m).1 id nr).c.enc, .int .i64 (runR S key c m).1.e, .str (runR S key c m).1.an]) H1) : CW cfg ν 11 [.ptr qo 0 0, .int .u64 key, v0, .int .u64 id, .int .u64 nr, .str cmd] H Q := by
  have hsm := hg.sm
  have hsl := hg.sl
  have han := runR_an (S := S) (key := key) (m := m) hg
  have hne := noteE_size (e := (runR S key c m).1.e) han
  have hs1 := encS_size (s := (runR S key c m).1.an) (by omega)
  have hs2 := encU_i (u64_wr (runR S key c m).1.e)
  have hg2 := (runR_good (S := S) (key := key) hg hm).sl
  replace hS := hS.pick hL
  have hR : X.reach [] H 9 (.tup [.ptr qo 0 0, .int .u64 key, v0, .int .u64 id, .int .u64 nr, .str cmd]) = X.reach [] H 8 v0 := by simp [X.reach]
  rw [← hR] at hS
  refine Bu (args' := [.ptr qo 0 0, .int .u64 key, c.enc, .int .u64 id, .int .u64 nr, .str cmd]) g11 F11 Z (AF (Ae Z) (AF (Ae Z) (AF (by assumption) (AF (Ae Z) (AF (Ae Z) (AF (Ae Z) Bw)))))) ?_
  replace hS := Own.mono hS hle
  refine Ac (AR hS (AE (p := ν) (b := [0, 0])) (Af [0, 0] hβ) Z Z Z ⟨Z, Z⟩ fun H1 (hS1 : Own _ _ _ (_ :: _ :: L.eraseIdx k)) => AG hS1 le_refl (Af [1, 0] hβ) Z Z Z Z fun H2 (hS2 : Own _ _ _ (_ :: _ :: _ :: L.eraseIdx k)) => Ab Z Z (EN (c80 ..) Z (Ab Z Z (EZ (c80 ..) Z (Aq (Ac (Al Z Z Z (Ad hS2 (k := 1) Z Z Z Z Z Z (Aa Z Z (EN (c80 ..) Z (Aa Z Z (AB Z Z (seek_e Ls.of (by omega) id nr he ?_) ))))))))))))
  refine Aa Z Z (EN (c80 ..) Z (AK Z Z Z (AK Z Z Z (Ab Z Z (EN (c80 ..) Z (Ab Z Z (EZ (c80 ..) Z (Ac (Aa Z Z (EZ (c80 ..) Z (AD (Ac (Ah Z Z Z Z Z (Ab Z Z (EZ (c80 ..) Z (Bd Z Z (Ac (Ah Z Z Z Z Z (Ab Z Z (EZ (c80 ..) Z (Bd Z Z (At (AJ (Ag (Ac (Ad hS2 (k := 1) Z Z Z Z Z (Aj Z Z Z) (AB Z Z (copied_c Ls.of Ls.of Ls.of hS2 (Ar (ν := ν) (a := [2, 0]) (b := [1, 0, 1, 1]) (by decide)) (Af [1, 0, 1, 1] hβ) (Au (ν := ν) (a := [1, 0, 1, 1]) (b := [2, 0, 1, 1]) (by decide)) hsm fun H3 V S1 T hS3 => ?_) )))))))))))))))))))))))))))
  replace hS3 : Own _ _ _ (_ :: _ :: _ :: _ :: L.eraseIdx k) := hS3
  refine AG hS3 le_refl (Af [2, 0, 1, 1] hβ) Z Z Z Z fun H4 (hS4 : Own _ _ _ (_ :: _ :: _ :: _ :: _ :: L.eraseIdx k)) => EN (c80 ..) Z (Av hS4 (k := 0) Z le_refl Z Z Z Z ⟨Z, Z, Nat.le_of_ble_eq_true Z⟩ (u2 := .agg [_, _, _]) Z fun H5 (hS5 : Own _ _ _ (_ :: _ :: _ :: _ :: _ :: L.eraseIdx k)) => Ab Z Z (Ab Z Z (EZ (c80 ..) Z (Aq (Ac (Aa Z Z (AB Z Z (unpack_e (by omega) hu ?_) )))))))
  refine Aa Z Z (EN (c80 ..) Z (AK Z Z Z (AK Z Z Z (AG hS5 (Ar (ν := ν) (a := [4, 0, 1, 1]) (b := [5, 0, 0, 1, 1, 1]) (by decide)) (Af [5, 0, 0, 1, 1, 1] hβ) Z Z Z Z fun H6 (hS6 : Own _ _ _ (_ :: _ :: _ :: _ :: _ :: _ :: L.eraseIdx k)) => EN (c80 ..) Z (Av hS6 (k := 0) Z le_refl Z Z Z Z ⟨Z, Z, Nat.le_of_ble_eq_true Z⟩ (u2 := .agg [_, _, _, _, _, _, _, _, _, _, _]) Z fun H7 (hS7 : Own _ _ _ (_ :: _ :: _ :: _ :: _ :: _ :: L.eraseIdx k)) => Ab Z Z (EZ (c80 ..) Z (Ac (Aa Z Z (EZ (c80 ..) Z (AZ Z Z (AC (Aa Z Z (Aa Z Z (Ad hS7 (k := 4) Z Z Z Z Z (Aj Z Z Z) (EN (c80 ..) Z (Ad hS7 (k := 0) Z Z Z Z Z (Aj Z Z Z) (AB Z Z (run_c hg hm (v0 := c.enc) Z (Bp hS7 Z) (k := 5) Z (Ar (ν := ν) (a := [7, 0, 0, 1, 1, 1]) (b := [4, 1, 1, 0, 1, 1, 1]) (by decide)) (Af [4, 1, 1, 0, 1, 1, 1] hβ) (Au (ν := ν) (a := [4, 1, 1, 0, 1, 1, 1]) (b := [5, 1, 1, 0, 1, 1, 1]) (by decide)) fun H8 hS8 => ?_) )))))))))))))))))
  replace hS8 : Own _ _ _ (_ :: _ :: _ :: _ :: _ :: _ :: L.eraseIdx k) := hS8
  refine Aa Z Z (EN (c80 ..) Z (AK Z Z Z (AK Z Z Z (AK Z Z Z (EN (c80 ..) Z (Av hS8 (k := 1) Z (Ar (ν := ν) (a := [5, 1, 1, 0, 1, 1, 1]) (b := [9, 1, 1, 0, 1, 1, 1]) (by decide)) Z Z Z Z ⟨Z, Z, Nat.le_of_ble_eq_true Z⟩ (u2 := .agg [_, _, _]) Z fun H9 (hS9 : Own _ _ _ (_ :: _ :: _ :: _ :: _ :: _ :: L.eraseIdx k)) => Ab Z Z (Ab Z Z (EZ (c80 ..) Z (Ag (Ac (Al Z Z Z (Ad hS9 (k := 1) Z Z Z Z Z Z (Aa Z Z (EN (c80 ..) Z (Aa Z Z (Aa Z Z (Bc Z Z Z (EN (c80 ..) Z (AB Z Z (putUi (u64_wr (runR S key c m).1.e) ?_) )))))))))))))))))))
  refine Aa Z Z (AB Z Z (putTx (by omega) ?_) )
  refine EN (c80 ..) Z (Ah Z Z Z Z (cat (by omega)) (AB Z Z (SE.pNoteL Ls.of hS9 (Ar (ν := ν) (a := [10, 1, 1, 0, 1, 1, 1]) (b := [10, 0, 1, 1, 1, 1]) (by decide)) (Af [10, 0, 1, 1, 1, 1] hβ) (Au (ν := ν) (a := [10, 0, 1, 1, 1, 1]) (b := [11, 0, 1, 1, 1, 1]) (by decide)) (by omega) id nr _ (by simp only [ss]; omega) fun H10 hS10 => ?_) ))
  replace hS10 : Own _ _ _ (_ :: _ :: _ :: _ :: _ :: _ :: L.eraseIdx k) := hS10
  refine Al Z Z Z (EN (c80 ..) Z (Av hS10 (k := 1) Z (Ar (ν := ν) (a := [11, 0, 1, 1, 1, 1]) (b := [12, 0, 1, 1, 1, 1]) (by decide)) Z Z Z Z ⟨Z, Z, Nat.le_of_ble_eq_true Z⟩ (u2 := .agg [_, _, _]) Z fun H11 (hS11 : Own _ _ _ (_ :: _ :: _ :: _ :: _ :: _ :: L.eraseIdx k)) => EZ (c80 ..) Z (Ac (Ad hS11 (k := 1) Z Z Z Z Z (Aj Z Z Z) (Aa Z Z (Aa Z Z (EN (c80 ..) Z (Av hS11 (k := 3) Z (Ar (ν := ν) (a := [13, 0, 1, 1, 1, 1]) (b := [3, 0, 1, 1, 1, 1, 1]) (by decide)) Z Z Z Z ⟨Z, Z, Nat.le_of_ble_eq_true Z⟩ (u2 := .agg [_, _, _]) Z fun H12 (hS12 : Own _ _ _ (_ :: _ :: _ :: _ :: _ :: _ :: L.eraseIdx k)) => Ab Z Z (Ab Z Z (EZ (c80 ..) Z (Ap (Ak (res3 Z (AP hS12 (k := 3) Z Z Z Z (Aj Z Z Z)) (Ai Z) (Ai Z)) ?_))))))))))))
  have hz := Own.drop (Own.drop (Own.drop (Own.drop (Own.drop0 (Own.mono hS12 (Ax (Az (a := [4, 0, 1, 1, 1, 1, 1]) hp)))) (k := 0) Z) (k := 0) Z) (k := 0) Z) (k := 0) Z
  rw [fzC]; exact hq _ (Bp (Own.unpick hz hL) rcC)
theorem apply_bad {s0 : ByteArray} (he : SE.seekL id nr c.ss = (0, s0)) (hu : unpC cmd = (m, false)) (hg : c.good) (hc : cmd.size ≤ 1099511627776) (hf : X.freeze [] H 8 v0 = c.enc) (hS : Own β ps (X.lose (X.reach [] H 8 v0) H) L) (hL : L[k]? = some (orc qo S.of)) (hle : le ps ν) (hβ : under β ν = true) (hp : before ν pos')
    (hq : ∀ H1, Own β pos' H1 L → Q (.tup [(noteR (err c 130) id nr).c.enc, .int .i64 130, .str ⟨#[]⟩]) H1) : CW cfg ν 11 [.ptr qo 0 0, .int .u64 key, v0, .int .u64 id, .int .u64 nr, .str cmd] H Q := by
  have hsm := hg.sm
  have hsl := hg.sl
  have hs1 := encS_size (s := ⟨#[]⟩) (by decide)
  have hs2 := encU_i (u64_wr 130)
  have h00 : (⟨#[]⟩ : ByteArray).size = 0 := rfl
  have hR : X.reach [] H 9 (.tup [.ptr qo 0 0, .int .u64 key, v0, .int .u64 id, .int .u64 nr, .str cmd]) = X.reach [] H 8 v0 := by simp [X.reach]
  rw [← hR] at hS
  refine Bu (args' := [.ptr qo 0 0, .int .u64 key, c.enc, .int .u64 id, .int .u64 nr, .str cmd]) g11 F11 Z (AF (Ae Z) (AF (Ae Z) (AF (by assumption) (AF (Ae Z) (AF (Ae Z) (AF (Ae Z) Bw)))))) ?_
  replace hS := Own.mono hS hle
  refine Ac (AR hS (AE (p := ν) (b := [0, 0])) (Af [0, 0] hβ) Z Z Z ⟨Z, Z⟩ fun H1 (hS1 : Own _ _ _ (_ :: L)) => AG hS1 le_refl (Af [1, 0] hβ) Z Z Z Z fun H2 (hS2 : Own _ _ _ (_ :: _ :: L)) => Ab Z Z (EN (c80 ..) Z (Ab Z Z (EZ (c80 ..) Z (Aq (Ac (Al Z Z Z (Ad hS2 (k := 1) Z Z Z Z Z Z (Aa Z Z (EN (c80 ..) Z (Aa Z Z (AB Z Z (seek_e Ls.of (by omega) id nr he ?_) ))))))))))))
  refine Aa Z Z (EN (c80 ..) Z (AK Z Z Z (AK Z Z Z (Ab Z Z (EN (c80 ..) Z (Ab Z Z (EZ (c80 ..) Z (Ac (Aa Z Z (EZ (c80 ..) Z (AD (Ac (Ah Z Z Z Z Z (Ab Z Z (EZ (c80 ..) Z (Bd Z Z (Ac (Ah Z Z Z Z Z (Ab Z Z (EZ (c80 ..) Z (Bd Z Z (At (AJ (Ag (Ac (Ad hS2 (k := 1) Z Z Z Z Z (Aj Z Z Z) (AB Z Z (copied_c Ls.of Ls.of Ls.of hS2 (Ar (ν := ν) (a := [2, 0]) (b := [1, 0, 1, 1]) (by decide)) (Af [1, 0, 1, 1] hβ) (Au (ν := ν) (a := [1, 0, 1, 1]) (b := [2, 0, 1, 1]) (by decide)) hsm fun H3 V S1 T hS3 => ?_) )))))))))))))))))))))))))))
  replace hS3 : Own _ _ _ (_ :: _ :: _ :: L) := hS3
  refine AG hS3 le_refl (Af [2, 0, 1, 1] hβ) Z Z Z Z fun H4 (hS4 : Own _ _ _ (_ :: _ :: _ :: _ :: L)) => EN (c80 ..) Z (Av hS4 (k := 0) Z le_refl Z Z Z Z ⟨Z, Z, Nat.le_of_ble_eq_true Z⟩ (u2 := .agg [_, _, _]) Z fun H5 (hS5 : Own _ _ _ (_ :: _ :: _ :: _ :: L)) => Ab Z Z (Ab Z Z (EZ (c80 ..) Z (Aq (Ac (Aa Z Z (AB Z Z (unpack_e (by omega) hu ?_) )))))))
  refine Aa Z Z (EN (c80 ..) Z (AK Z Z Z (AK Z Z Z (AG hS5 (Ar (ν := ν) (a := [4, 0, 1, 1]) (b := [5, 0, 0, 1, 1, 1]) (by decide)) (Af [5, 0, 0, 1, 1, 1] hβ) Z Z Z Z fun H6 (hS6 : Own _ _ _ (_ :: _ :: _ :: _ :: _ :: L)) => EN (c80 ..) Z (Av hS6 (k := 0) Z le_refl Z Z Z Z ⟨Z, Z, Nat.le_of_ble_eq_true Z⟩ (u2 := .agg [_, _, _, _, _, _, _, _, _, _, _]) Z fun H7 (hS7 : Own _ _ _ (_ :: _ :: _ :: _ :: _ :: L)) => Ab Z Z (EZ (c80 ..) Z (Ac (Aa Z Z (EZ (c80 ..) Z (Bd Z Z (At (Ag (Ac ?_)))))))))))))
  replace hS7 := Own.un_all (Own.tor (A := [_, _]) hS7)
  refine Al Z Z Z (Ad hS7 (k := 4) Z Z Z Z Z Z (Aa Z Z (EN (c80 ..) Z (Aa Z Z (Aa Z Z (Bc Z Z Z (EN (c80 ..) Z (AB Z Z (putUi (u64_wr 130) ?_) ))))))))
  refine Aa Z Z (AB Z Z (putTx (by decide) ?_) )
  refine EN (c80 ..) Z (Ah Z Z Z Z (cat (by omega)) (AB Z Z (SE.pNoteO hS7 (k := 1) Z (Ar (ν := ν) (a := [7, 0, 0, 1, 1, 1]) (b := [10, 0, 1, 1, 1, 1]) (by decide)) (Af [10, 0, 1, 1, 1, 1] hβ) (Au (ν := ν) (a := [10, 0, 1, 1, 1, 1]) (b := [11, 0, 1, 1, 1, 1]) (by decide)) (by omega) id nr _ (by simp only [ss]; omega) fun H8 hS8 => ?_) ))
  replace hS8 : Own _ _ _ (_ :: _ :: _ :: _ :: _ :: _ :: _ :: L) := hS8
  refine Al Z Z Z (EN (c80 ..) Z (Av hS8 (k := 4) Z (Ar (ν := ν) (a := [11, 0, 1, 1, 1, 1]) (b := [12, 0, 1, 1, 1, 1]) (by decide)) Z Z Z Z ⟨Z, Z, Nat.le_of_ble_eq_true Z⟩ (u2 := .agg [_, _, _]) Z fun H9 (hS9 : Own _ _ _ (_ :: _ :: _ :: _ :: _ :: _ :: _ :: L)) => EZ (c80 ..) Z (Ac (Ad hS9 (k := 4) Z Z Z Z Z (Aj Z Z Z) (Aa Z Z (Aa Z Z (EN (c80 ..) Z (Av hS9 (k := 5) Z (Ar (ν := ν) (a := [13, 0, 1, 1, 1, 1]) (b := [3, 0, 1, 1, 1, 1, 1]) (by decide)) Z Z Z Z ⟨Z, Z, Nat.le_of_ble_eq_true Z⟩ (u2 := .agg [_, _, _]) Z fun H10 (hS10 : Own _ _ _ (_ :: _ :: _ :: _ :: _ :: _ :: _ :: L)) => Ab Z Z (Ab Z Z (EZ (c80 ..) Z (Ap (Ak (res3 Z (AP hS10 (k := 5) Z Z Z Z (Aj Z Z Z)) (Ai Z) (Ai Z)) ?_))))))))))))
  have hz := Own.drop (Own.drop (Own.drop (Own.drop (Own.drop (Own.mono hS10 (Ax (Az (a := [4, 0, 1, 1, 1, 1, 1]) hp))) (k := 6) Z) (k := 5) Z) (k := 4) Z) (k := 3) Z) (k := 1) Z
  replace hz : Own _ _ _ (Asr.all [vols V c.vs, sl T 3 (c.qs.map Qu.enc)] :: L) := Own.mk_all (L1 := [_, _]) hz
  obtain ⟨fz, hfz, _⟩ := hz.get (k := 0) Z
  rw [fzM hfz]; exact hq _ (Own.lose hz fun f hf => rcM hf)
theorem seekL_k (t : List SE.Se) : (SE.seekL id nr t).1 = 0 ∨ (SE.seekL id nr t).1 = 1 ∨ (SE.seekL id nr t).1 = 2 := by
  induction t with
  | nil => exact .inl rfl
  | cons x r ih =>
    rw [SE.seekL]
    split
    · split
      · exact .inr (.inl rfl)
      split
      · exact .inr (.inr rfl)
      exact .inl rfl
    exact ih
theorem seekL_an {n : Nat} {t : List SE.Se} (h : ∀ x ∈ t, x.an.size ≤ n) : (SE.seekL id nr t).2.size ≤ n := by
  induction t with
  | nil => exact Nat.zero_le _
  | cons x r ih =>
    rw [SE.seekL]
    split
    · split
      · exact h x (by simp)
      split <;> exact Nat.zero_le _
    exact ih fun y hy => h y (by simp [hy])
theorem apply_c (hg : c.good) (hc : cmd.size ≤ 1099511627776) (hf : X.freeze [] H 8 v0 = c.enc) (hS : Own β ps (X.lose (X.reach [] H 8 v0) H) L) (hL : L[k]? = some (orc qo S.of)) (hle : le ps ν) (hβ : under β ν = true) (hp : before ν pos')
    (hq : ∀ H1, Own β pos' H1 (L.set k (orc qo (applyR S key c id nr cmd).2.of)) → Q (.tup [(applyR S key c id nr cmd).1.c.enc, .int .i64 (applyR S key c id nr cmd).1.e, .str (applyR S key c id nr cmd).1.an]) H1) : CW cfg ν 11 [.ptr qo 0 0, .int .u64 key, v0, .int .u64 id, .int .u64 nr, .str cmd] H Q := by
  have han := seekL_an (id := id) (nr := nr) (of_decide_eq_true hg.sc).2.1
  rcases seekL_k (id := id) (nr := nr) c.ss with h | h | h
  · cases hu : unpC cmd with
    | mk m b =>
      have e : ∀ r, applyR S key c id nr cmd = r ↔ (if b = true then (noteR (runR S key c m).1 id nr, (runR S key c m).2) else (noteR (err c 130) id nr, S)) = r := fun r => by
        unfold applyR; rw [if_neg (by omega), if_neg (by omega), hu]
      cases b with
      | true =>
        rw [(e _).2 (if_pos rfl)] at hq
        exact apply_ok (Prod.ext h rfl : SE.seekL id nr c.ss = (0, _)) hu (by have := unpC_fit hc; rw [hu] at this; exact this) hg hc hf hS hL hle hβ hp hq
      | false =>
        rw [(e _).2 (if_neg (by decide))] at hq
        rw [Bn hL] at hq
        exact apply_bad (Prod.ext h rfl : SE.seekL id nr c.ss = (0, _)) hu hg hc hf hS hL hle hβ hp hq
  · rw [applyR, if_neg (by omega), if_pos h, Bn hL] at hq
    exact apply_again (Prod.ext h rfl : SE.seekL id nr c.ss = (1, (SE.seekL id nr c.ss).2)) (Nat.le_trans han (by decide)) hg hf hS hL hle hβ hp hq
  rw [applyR, if_pos h, Bn hL] at hq
  exact apply_old (Prod.ext h rfl : SE.seekL id nr c.ss = (2, _)) hg hf hS hL hle hβ hp hq
end
/- Lists of texts as bytes. -/
set_option maxRecDepth 100000
section
open Go Go.RowKit WM
variable {ν β : Nm} {H : Heap} {Q : AVal → Heap → Prop}
def cX : Cod ByteArray := cT 4611686018427387904 (by decide)
def textL (l : List ByteArray) : ByteArray := ba (encU l.length ++ (l.map cX.enc).flatten)
def sumB (l : List ByteArray) : Nat := (l.map ByteArray.size).sum
def noL : List ByteArray × ByteArray × Bool := ([], ⟨#[]⟩, false)
def resL (m : Int) (s : ByteArray) : List ByteArray × ByteArray × Bool := match takeU 64 s.data.toList with
  | some (n, r) => if (n : Int) ≤ m then (match cX.manyT n r with
    | some (l, q) => (l, ba q, true)
    | none => noL) else noL
  | none => noL
def resM (m : Int) (s : ByteArray) : Int × ByteArray × Bool := match takeU 64 s.data.toList with
  | some (n, r) => if (n : Int) ≤ m ∧ n ≤ r.length then ((n : Int), ba r, true) else (0, ⟨#[]⟩, false)
  | none => (0, ⟨#[]⟩, false)
theorem texts_c {v w : AVal} {s t : List ByteArray} (hv : Ls v (s.map AVal.str)) (hw : Ls w (t.map AVal.str)) (hn : s.length ≤ 4294967296) (hm : t.length ≤ 4294967296) (hq : Q (.bool (decide (s = t))) H) : CW cfg ν 98 [v, w] H Q := by
  refine Be g98 F98 Z (Ac (Ab Z Z (EZ (c26 ..) Z (Aq (Ac (Aa Z Z (Bj Z Z (by assumption) Z Z Z (List.length_map _) ?_)))))))
  refine Aa Z Z (Ay (e' := [_,_,_,_,_,_,_,_,_,_,_,_,_,_,_,_,_,_,_,_,_,_,_,_,_,_]) Z (Bj Z Z (by assumption) Z Z Z (List.length_map _) ?_))
  refine Ah Z Z Z Z Z (EZ (c26 ..) Z (AH Z (fun h1 => ?_) (fun h1 => ?_)))
  ·try simp only [bs] at h1
   refine Ac (Ab Z Z (EZ (c26 ..) Z (Ap (Ao (Ak (res1 Z (Ai Z)) (frz1 (Q := Q) (Ae Z) (qcast hq ?_)))))))
   congr 1
   exact (decide_eq_false (fun e => h1 (by rw [e]))).symm
  try simp only [bs] at h1
  refine At (Ag (Aq (Ac (Ab Z Z (EZ (c26 ..) Z (AD (AV (I := fun ν' mm ee H' => ∃ (i : Nat), mm = s.length - i ∧ under (1 :: 0 :: 1 :: 1 :: ν) ν' = true ∧ (i ≤ s.length ∧ s.length = t.length ∧ s.take i = t.take i) ∧ ∃ g : Nat → AVal, ee = [v, w, g 2, g 3, g 4, .int .i64 i, g 6, g 7, g 8, g 9, g 10, g 11, g 12, g 13, g 14, g 15, g 16, g 17, g 18, g 19, g 20, g 21, g 22, g 23, g 24, g 25]) ?_ _ _ _ _ ⟨0, Z, AI, (⟨by omega, by omega, Z⟩), AU Z⟩)))))))
  rintro ν1 mm ee H1 ⟨i, rfl, hU1, ⟨hi, hl, hI⟩, g1, rfl⟩
  refine Aq (Ac (Aa Z Z (Aa Z Z (Bj Z Z (by assumption) Z Z Z (List.length_map _) ?_))))
  refine Ay (e' := [_,_,_,_,_,_,_,_,_,_,_,_,_,_,_,_,_,_,_,_,_,_,_,_,_,_]) Z (Ah Z Z Z Z Z (EZ (c26 ..) Z (AH Z (fun h4 => ?_) (fun h4 => ?_))))
  ·try simp only [bs] at h4
   refine At (Ag (Aq (AD (Ac (Aa Z Z (Aa Z Z (Bb Z Z Z (by assumption) Z Z Z Z (Ba (by omega)) Z ?_)))))))
   refine Ay (e' := [_,_,_,_,_,_,_,_,_,_,_,_,_,_,_,_,_,_,_,_,_,_,_,_,_,_]) Z (AS Z Z Z Z (Aa Z Z (Aa Z Z (Ay (e' := [_,_,_,_,_,_,_,_,_,_,_,_,_,_,_,_,_,_,_,_,_,_,_,_,_,_]) Z (Bb Z Z Z (by assumption) Z Z Z Z (Ba (by omega)) Z ?_)))))
   refine AS Z Z Z Z (Ah Z Z Z Z Z (EZ (c26 ..) Z (AH Z (fun h6 => ?_) (fun h6 => ?_))))
   ·try simp only [bs] at h6
    refine Ac (Ab Z Z (EZ (c26 ..) Z (Ap (AA (Ao (AA (Ao (Ak (res1 Z (Ai Z)) (frz1 (Q := Q) (Ae Z) (qcast hq ?_))))))))))
    congr 1
    exact (decide_eq_false (fun e => by subst e; exact h6 rfl)).symm
   try simp only [bs] at h6
   refine At (AJ (Ag (AC (Aa Z Z (Ah Z Z Z Z (AW (by omega)) (Ab Z Z (EZ (c26 ..) Z (⟨_, ?_, i + 1, Z, AM hU1, ?_, AU Z⟩))))))))
   · omega
   exact ⟨by omega, hl, by rw [List.take_succ_eq_append_getElem (by omega), List.take_succ_eq_append_getElem (by omega), hI, h6]⟩
  try simp only [bs] at h4
  refine AY (AQ (AN (Ag (Ac (Ab Z Z (EZ (c26 ..) Z (Ap (Ak (res1 Z (Ai Z)) (frz1 (Q := Q) (Ae Z) (qcast hq ?_))))))))))
  congr 1
  exact (decide_eq_true (by rw [List.take_of_length_le (by omega), List.take_of_length_le (by omega)] at hI; exact hI)).symm
end
/- Layer 13: Check, Is, IsVol. -/
set_option maxRecDepth 100000
section
open Go Go.RowKit WM
variable {ν : Nm} {H : Heap} {Q : AVal → Heap → Prop} {c d : Ck}
def okV (x : Vo) : Prop := 0 ≤ x.de ∧ x.de ≤ 4 ∧ x.lv.length = 2 ^ x.de.toNat ∧ ∀ s ∈ x.lv, s.size ≤ 64
instance : DecidablePred okV := fun x => by unfold okV; infer_instance
def chkC (c : Ck) : Bool := decide (c.vs.length ≤ 8 ∧ (∀ x ∈ c.vs, okV x) ∧ (c.vs.map Vo.vo).Nodup) && SE.chkL c.ss && chkQ c.qs
theorem nodup_atP {t : List Vo} (h : (t.map Vo.vo).Nodup) {i : Nat} (hi : i < t.length) : atP t[i].vo t = i := by
  rcases atP_cases t[i].vo t with ⟨_, h2⟩ | ⟨k, hk, h1, h3⟩
  · exact absurd rfl (h2 t[i] (List.getElem_mem hi))
  rw [h1]
  have := (List.getElem_inj (i := k) (j := i) (h₀ := by simpa using hk) (h₁ := by simpa using hi) h).1 (by simpa using h3)
  rw [this]
theorem atP_nodup {t : List Vo} (h : ∀ i (hi : i < t.length), atP t[i].vo t = i) : (t.map Vo.vo).Nodup := by
  rw [List.Nodup, List.pairwise_iff_getElem]
  intro i j hi hj hij he
  simp only [List.length_map] at hi hj
  simp only [List.getElem_map] at he
  have h1 := h i hi
  have h2 := h j hj
  rw [he] at h1
  omega
theorem chk_vs {t : List Vo} (hl : t.length ≤ 8) (h : ∀ i (hi : i < t.length), atP t[i].vo t = i ∧ okV t[i]) : decide (t.length ≤ 8 ∧ (∀ x ∈ t, okV x) ∧ (t.map Vo.vo).Nodup) = true :=
  decide_eq_true ⟨hl, fun x hx => by obtain ⟨i, hi, rfl⟩ := List.getElem_of_mem hx; exact (h i hi).2, atP_nodup fun i hi => (h i hi).1⟩
theorem chk_vsF {t : List Vo} {i : Nat} (hi : i < t.length) (h : atP t[i].vo t ≠ i ∨ ¬ okV t[i]) : decide (t.length ≤ 8 ∧ (∀ x ∈ t, okV x) ∧ (t.map Vo.vo).Nodup) = false :=
  decide_eq_false fun ⟨_, h1, h2⟩ => h.elim (fun h => h (nodup_atP h2 hi)) (fun h => h (h1 _ (List.getElem_mem hi)))
theorem chkF {i : Nat} (hi : i < c.vs.length) (h : atP c.vs[i].vo c.vs ≠ i ∨ ¬ okV c.vs[i]) : chkC c = false := by unfold chkC; rw [chk_vsF hi h]; rfl
structure Ck.sz (c : Ck) : Prop where
  v : c.vs.length ≤ 1048577
  s : c.ss.length ≤ 1048577
  q : c.qs.length ≤ 1048577
  l : ∀ x ∈ c.vs, x.lv.length ≤ 1048577
theorem power_c {n : Int} (h : 0 ≤ n ∧ n ≤ 4) (hq : Q (.int .i64 ((2 ^ n.toNat : Nat) : Int)) H) : CW cfg ν 32 [.int .i64 n] H Q := by
  obtain ⟨k, rfl⟩ := Int.eq_ofNat_of_zero_le h.1
  rcases (by omega : k = 0 ∨ k = 1 ∨ k = 2 ∨ k = 3 ∨ k = 4) with rfl | rfl | rfl | rfl | rfl <;> exact ⟨60, _, _, by kernel_rfl, hq⟩
theorem rk_check {v : AVal} (hv : X.freeze [] H 8 v = c.enc) (hz : c.sz) (hq : Q (.bool (chkC c)) H) : CW cfg ν 6 [v] H Q := by
  obtain ⟨hz1, hz2, hz3, hz4⟩ := hz
  refine BJ (args' := [c.enc]) g6 F6 Z (AF (by assumption) Bw) ?_
  have hS0 : Own ν ν (fun _ => none) [] := Own.nil
  refine Ac (AR hS0 (AE (p := ν) (b := [0, 0])) (Af [0, 0] AI) Z Z Z ⟨Z, Z⟩ fun H1 (hS1 : Own _ _ _ ([_])) => Ab Z Z (EZ (c71 ..) Z (Aq (Ac (Ab Z Z (EZ (c71 ..) Z (AD (AV (I := fun ν' mm ee H' => ∃ (i : Nat), mm = c.vs.length - i ∧ under (1 :: 0 :: 1 :: ν) ν' = true ∧ Own ν ν' H' ([row (0 :: 0 :: ν) 3 [.agg [.lst (c.vs.map Vo.enc), .lst (c.ss.map SE.Se.enc), .lst (c.qs.map Qu.enc)]]]) ∧ (i ≤ c.vs.length ∧ ∀ j (hj : j < c.vs.length), j < i → atP c.vs[j].vo c.vs = j ∧ okV c.vs[j]) ∧ ∃ g : Nat → AVal, ee = [g 0, .ptr (0 :: 0 :: ν) 0 0, g 2, .int .i64 i, g 4, g 5, g 6, g 7, g 8, g 9, g 10, g 11, g 12, g 13, g 14, g 15, g 16, g 17, g 18, g 19, g 20, g 21, g 22, g 23, g 24, g 25, g 26, g 27, g 28, g 29, g 30, g 31, g 32, g 33, g 34, g 35, g 36, g 37, g 38, g 39, g 40, g 41, g 42, g 43, g 44, g 45, g 46, g 47, g 48, g 49, g 50, g 51, g 52, g 53, g 54, g 55, g 56, g 57, g 58, g 59, g 60, g 61, g 62, g 63, g 64, g 65, g 66, g 67, g 68, g 69, g 70]) ?_ _ _ _ _ ⟨0, Z, AI, Own.cast (Own.mono (hS1) (Ar (ν := ν) (a := [1, 0]) (b := [1, 0, 1]) (by decide))) (Z), (⟨by omega, fun j hj h => by omega⟩), AU Z⟩))))))))
  rintro ν1 mm ee H2 ⟨i, rfl, hU1, hS2, ⟨hi, hI⟩, g1, rfl⟩
  refine Aq (Ac (Aa Z Z (Al Z Z Z (Ad hS2 (k := 0) Z Z Z Z Z Z (EN (c71 ..) Z (Bj Z Z Ls.of Z Z Z (List.length_map _) (Ah Z Z Z Z Z (EZ (c71 ..) Z (AH Z (fun h2 => ?_) (fun h2 => ?_))))))))))
  ·try simp only [bs] at h2
   refine At (Ag (Aq (AD (Ac ?_))))
   have hlz := hz4 c.vs[i] (List.getElem_mem (by omega))
   refine Al Z Z Z (Ad hS2 (k := 0) Z Z Z Z Z Z (Aa Z Z (EN (c71 ..) Z (Bb Z Z Z Ls.of Z Z Z Z (Ba (by omega)) Z (AS Z Z Z (Aj Z Z Z) (AG hS2 (AE (p := ν1) (b := [5, 0, 0, 1, 0])) (Af [5, 0, 0, 1, 0] (Bk (Af [1, 0, 1] AI) hU1)) Z Z Z Z fun H3 (hS3 : Own _ _ _ ([_, _])) => EN (c71 ..) Z (Av hS3 (k := 0) Z le_refl Z Z Z Z ⟨Z, Z, Nat.le_of_ble_eq_true Z⟩ (u2 := .agg [_, _, _, _, _]) Z fun H4 (hS4 : Own _ _ _ ([_, _])) => EZ (c71 ..) Z (Aq (Ac (Ad hS4 (k := 1) Z Z Z Z Z (Aj Z Z Z) (Al Z Z Z (Ad hS4 (k := 0) Z Z Z Z Z Z (EN (c71 ..) Z (AB Z Z (rk_find (c := c) Z (by omega) _ ?_) ))))))))))))))
   refine Aa Z Z (Ah Z Z Z Z Z (EN (c71 ..) Z (Aa Z Z (AT (tt := 24) Z (fun g5_7 => ?_) (fun g5_7 => ?_)))))
   ·try simp only [bs] at g5_7
    refine An Z (EN (c71 ..) Z (An Z (An Z (Aw Z Z Z (EN (c71 ..) Z (Aa Z Z (An Z (An Z (EN (c71 ..) Z (An Z (Aw Z Z Z (Aa Z Z (EN (c71 ..) Z (An Z (An Z (An Z (EN (c71 ..) Z (An Z (An Z (An Z (EN (c71 ..) Z (An Z (Aw Z Z Z (EZ (c71 ..) Z (AZ Z Z (Ac (Ab Z Z (EZ (c71 ..) Z (Ap (Ao (AA (Ao (AA (Ao (Ak (res1 Z (Ai Z)) ⟨Z, ?_⟩)))))))))))))))))))))))))))))))))))
    refine qcast hq ?_
    congr 1
    exact (chkF (i := i) (by omega) (.inl (by omega))).symm
   try simp only [bs] at g5_7
   refine Al Z Z Z (EN (c71 ..) Z (Ad hS4 (k := 0) Z Z Z Z Z Z (Ah Z Z Z Z Z (Aw Z Z Z (EN (c71 ..) Z (Aa Z Z (AT (tt := 29) Z (fun g5_12 => ?_) (fun g5_12 => ?_))))))))
   ·try simp only [bs] at g5_12
    refine An Z (EN (c71 ..) Z (An Z (An Z (Aw Z Z Z (EN (c71 ..) Z (Aa Z Z (An Z (An Z (EN (c71 ..) Z (An Z (An Z (An Z (EN (c71 ..) Z (An Z (An Z (Aw Z Z Z (EZ (c71 ..) Z (AZ Z Z (Ac (Ab Z Z (EZ (c71 ..) Z (Ap (Ao (AA (Ao (AA (Ao (Ak (res1 Z (Ai Z)) ⟨Z, ?_⟩))))))))))))))))))))))))))))
    refine qcast hq ?_
    congr 1
    exact (chkF (i := i) (by omega) (.inr (fun ⟨a1, a2, a3, _⟩ => by omega))).symm
   try simp only [bs] at g5_12
   refine Al Z Z Z (EN (c71 ..) Z (Ad hS4 (k := 0) Z Z Z Z Z Z (Ah Z Z Z Z Z (Aw Z Z Z (EN (c71 ..) Z (Aa Z Z (AT (tt := 34) Z (fun g5_17 => ?_) (fun g5_17 => ?_))))))))
   ·try simp only [bs] at g5_17
    refine An Z (EN (c71 ..) Z (An Z (An Z (An Z (EN (c71 ..) Z (An Z (An Z (An Z (EN (c71 ..) Z (Aw Z Z Z (EZ (c71 ..) Z (AZ Z Z (Ac (Ab Z Z (EZ (c71 ..) Z (Ap (Ao (AA (Ao (AA (Ao (Ak (res1 Z (Ai Z)) ⟨Z, ?_⟩))))))))))))))))))))))
    refine qcast hq ?_
    congr 1
    exact (chkF (i := i) (by omega) (.inr (fun ⟨a1, a2, a3, _⟩ => by omega))).symm
   try simp only [bs] at g5_17
   refine Al Z Z Z (EN (c71 ..) Z (Ad hS4 (k := 0) Z Z Z Z Z Z (Bj Z Z Ls.of Z Z Z (List.length_map _) (Al Z Z Z (EN (c71 ..) Z (Ad hS4 (k := 0) Z Z Z Z Z Z (AB Z Z (power_c (by omega) ?_) )))))))
   refine Ah Z Z Z Z Z (EN (c71 ..) Z (Aw Z Z Z (EZ (c71 ..) Z (AH Z (fun h5 => ?_) (fun h5 => ?_)))))
   ·try simp only [bs] at h5
    refine Ac (Ab Z Z (EZ (c71 ..) Z (Ap (Ao (AA (Ao (AA (Ao (Ak (res1 Z (Ai Z)) ⟨Z, ?_⟩)))))))))
    refine qcast hq ?_
    congr 1
    exact (chkF (i := i) (by omega) (.inr (fun ⟨a1, a2, a3, _⟩ => by omega))).symm
   try simp only [bs] at h5
   refine At (Ag (Ac (Ab Z Z (EZ (c71 ..) Z (AD (AV (I := fun ν' mm ee H' => ∃ (k : Nat), mm = c.vs[i].lv.length - k ∧ under (1 :: 1 :: 1 :: 0 :: 1 :: 0 :: ν1) ν' = true ∧ Own ν ν' H' ([row (5 :: 0 :: 0 :: 1 :: 0 :: ν1) 5 [c.vs[i].enc], row (0 :: 0 :: ν) 3 [.agg [.lst (c.vs.map Vo.enc), .lst (c.ss.map SE.Se.enc), .lst (c.qs.map Qu.enc)]]]) ∧ (k ≤ c.vs[i].lv.length ∧ ∀ j (hj : j < c.vs[i].lv.length), j < k → c.vs[i].lv[j].size ≤ 64) ∧ ∃ g : Nat → AVal, ee = [g 0, .ptr (0 :: 0 :: ν) 0 0, g 2, .int .i64 i, .ptr (5 :: 0 :: 0 :: 1 :: 0 :: ν1) 0 0, .int .i64 k, g 6, g 7, g 8, g 9, g 10, g 11, g 12, g 13, g 14, g 15, g 16, g 17, g 18, g 19, g 20, g 21, g 22, g 23, g 24, g 25, g 26, g 27, g 28, g 29, g 30, g 31, g 32, g 33, g 34, g 35, g 36, g 37, g 38, g 39, g 40, g 41, g 42, g 43, g 44, g 45, g 46, g 47, g 48, g 49, g 50, g 51, g 52, g 53, g 54, g 55, g 56, g 57, g 58, g 59, g 60, g 61, g 62, g 63, g 64, g 65, g 66, g 67, g 68, g 69, g 70]) ?_ _ _ _ _ ⟨0, Z, AI, Own.cast (Own.mono (hS4) (Ar (ν := ν1) (a := [7, 0, 0, 1, 0]) (b := [1, 1, 1, 0, 1, 0]) (by decide))) (Z), (⟨by omega, fun j hj h => by omega⟩), AU Z⟩))))))
   rintro ν2 mm ee H5 ⟨k, rfl, hU2, hS5, ⟨hk, hK⟩, g2, rfl⟩
   refine Aq (Ac (Aa Z Z (Al Z Z Z (Ad hS5 (k := 0) Z Z Z Z Z Z (EN (c71 ..) Z (Bj Z Z Ls.of Z Z Z (List.length_map _) (Ah Z Z Z Z Z (EZ (c71 ..) Z (AH Z (fun h8 => ?_) (fun h8 => ?_))))))))))
   ·try simp only [bs] at h8
    refine At (Ag (Aq (AD (Ac (Al Z Z Z (Ad hS5 (k := 0) Z Z Z Z Z Z (Aa Z Z (EN (c71 ..) Z (Bb Z Z Z Ls.of Z Z Z Z (Ba (by omega)) Z (AS Z Z Z Z (By Z Z Z (EN (c71 ..) Z (Ah Z Z Z Z Z (EZ (c71 ..) Z (AH Z (fun h10 => ?_) (fun h10 => ?_))))))))))))))))
    ·try simp only [bs] at h10
     refine Ac (Ab Z Z (EZ (c71 ..) Z (Ap (AA (Ao (AA (AA (Ao (AA (Ao (Ak (res1 Z (Ai Z)) ⟨Z, ?_⟩)))))))))))
     refine qcast hq ?_
     congr 1
     exact (chkF (i := i) (by omega) (.inr (fun h => by have := h.2.2.2 _ (List.getElem_mem (l := c.vs[i].lv) (n := k) (by omega)); omega))).symm
    try simp only [bs] at h10
    refine At (AJ (Ag (AC (Aa Z Z (Ah Z Z Z Z (AW (by omega)) (Ab Z Z (EZ (c71 ..) Z (⟨_, ?_, k + 1, Z, AM hU2, Own.cast (Own.mono (hS5) (AE (p := ν2) (b := [1]))) (Z), ?_, AU Z⟩))))))))
    · omega
    exact ⟨by omega, fun j hj h => by by_cases e : j = k; (subst e; omega); exact hK j hj (by omega)⟩
   try simp only [bs] at h8
   refine AY (AQ (AN (AJ (Ag (AC (Aa Z Z (Ah Z Z Z Z (AW (by omega)) (Ab Z Z (EZ (c71 ..) Z ?_)))))))))
   have hSd1 : Own _ _ _ ([_]) := (Own.drop hS5 (k := 0) Z)
   refine ⟨_, ?_, i + 1, Z, AM hU1, Own.cast (Own.mono (hSd1) (Ax (Bg (a := []) hU2 (Au (ν := ν1) (a := [1, 1, 1, 0, 1, 0]) (b := [1]) (by decide))))) (Z), ?_, AU Z⟩
   · omega
   exact ⟨by omega, fun j hj h => by by_cases e : j = i; (subst e; exact ⟨by omega, by omega, by omega, by omega, fun s hs => by obtain ⟨n, hn, rfl⟩ := List.getElem_of_mem hs; exact hK n hn (by omega)⟩); exact hI j hj (by omega)⟩
  try simp only [bs] at h2
  refine AY (AQ (AN (Ag (Ac (Al Z Z Z (Ad hS2 (k := 0) Z Z Z Z Z Z (Bj Z Z Ls.of Z Z Z (List.length_map _) (EN (c71 ..) Z (Ah Z Z Z Z Z (Aa Z Z (AT (tt := 61) Z (fun g12_5 => ?_) (fun g12_5 => ?_))))))))))))
  ·try simp only [bs] at g12_5
   refine EN (c71 ..) Z (Al Z Z Z (Ad hS2 (k := 0) Z Z Z Z Z Z (AB Z Z (SE.r_check (Ls.freeze Ls.of) (by omega) ?_) )))
   refine EN (c71 ..) Z (Aw Z Z Z (Aa Z Z (AT (tt := 66) Z (fun g12_10 => ?_) (fun g12_10 => ?_))))
   ·try simp only [bs] at g12_10
    refine EN (c71 ..) Z (Al Z Z Z (Ad hS2 (k := 0) Z Z Z Z Z Z (AB Z Z (r_check (Ls.freeze Ls.of) (by omega) ?_) )))
    refine EN (c71 ..) Z (Aw Z Z Z (Ab Z Z (EZ (c71 ..) Z (Ap (Ak (res1 Z (Ai Z)) ⟨Z, ?_⟩)))))
    refine qcast hq ?_
    congr 1
    (unfold chkC; rw [chk_vs (by omega) (fun j hj => hI j hj (by omega))]; simp [*])
   try simp only [bs] at g12_10
   refine EN (c71 ..) Z (An Z (An Z (An Z (EN (c71 ..) Z (Aw Z Z Z (Ab Z Z (EZ (c71 ..) Z (Ap (Ak (res1 Z (Ai Z)) ⟨Z, ?_⟩)))))))))
   refine qcast hq ?_
   congr 1
   (unfold chkC; rw [chk_vs (by omega) (fun j hj => hI j hj (by omega))]; simp [*])
  try simp only [bs] at g12_5
  refine EN (c71 ..) Z (An Z (An Z (An Z (EN (c71 ..) Z (Aw Z Z Z (Aa Z Z (An Z (EN (c71 ..) Z (An Z (An Z (Aw Z Z Z (EN (c71 ..) Z (Ab Z Z (EZ (c71 ..) Z (Ap (Ak (res1 Z (Ai Z)) ⟨Z, ?_⟩))))))))))))))))
  refine qcast hq ?_
  congr 1
  (unfold chkC; rw [decide_eq_false (fun e => by have := e.1; omega)]; rfl)
theorem ckvol_c {a b : Vo} (ha : a.lv.length ≤ 1048577) (hb : b.lv.length ≤ 1048577) (hq : Q (.bool (decide (a = b))) H) : CW cfg ν 50 [a.enc, b.enc] H Q := by
  have e : decide (a = b) = (decide (a.vo = b.vo) && (decide (a.tn = b.tn) && (decide (a.ep = b.ep) && (decide (a.de = b.de) && decide (a.lv = b.lv))))) := by
    obtain ⟨a1, a2, a3, a4, a5⟩ := a; obtain ⟨b1, b2, b3, b4, b5⟩ := b
    by_cases h1 : a1 = b1 <;> by_cases h2 : a2 = b2 <;> by_cases h3 : a3 = b3 <;> by_cases h4 : a4 = b4 <;> by_cases h5 : a5 = b5 <;> simp [h1, h2, h3, h4, h5]
  rw [e] at hq
  refine Be g50 F50 Z ?_
  have hS0 : Own ν ν (fun _ => none) [] := Own.nil
  refine Ac (AR hS0 (AE (p := ν) (b := [0, 0])) (Af [0, 0] AI) Z Z Z ⟨Z, Z⟩ fun H1 (hS1 : Own _ _ _ ([_])) => AR hS1 le_refl (Af [1, 0] AI) Z Z Z ⟨Z, Z⟩ fun H2 (hS2 : Own _ _ _ ([_, _])) => Ab Z Z (Am (e' := [_,_,_,_,_,_,_,_,_,_,_,_,_,_,_,_,_,_,_,_,_,_,_,_,_,_,_,_,_,_,_,_,_,_,_,_,_,_]) Z (Ac (Al Z Z Z (Ad hS2 (k := 1) Z Z Z Z Z Z (Al Z Z Z (EN (c38 ..) Z (Ad hS2 (k := 0) Z Z Z Z Z Z (Ah Z Z Z Z Z (Aa Z Z (EN (c38 ..) Z (AT (tt := 10) Z (fun g1_6 => ?_) (fun g1_6 => ?_)))))))))))))
  ·try simp only [bs] at g1_6
   refine Al Z Z Z (Ad hS2 (k := 1) Z Z Z Z Z Z (EN (c38 ..) Z (Al Z Z Z (Ad hS2 (k := 0) Z Z Z Z Z Z (Ah Z Z Z Z Z (EN (c38 ..) Z (Aw Z Z Z (Aa Z Z (AT (tt := 17) Z (fun g1_13 => ?_) (fun g1_13 => ?_))))))))))
   ·try simp only [bs] at g1_13
    refine EN (c38 ..) Z (Al Z Z Z (Ad hS2 (k := 1) Z Z Z Z Z Z (Al Z Z Z (EN (c38 ..) Z (Ad hS2 (k := 0) Z Z Z Z Z Z (Ah Z Z Z Z Z (Aw Z Z Z (EN (c38 ..) Z (Aa Z Z (AT (tt := 24) Z (fun g1_20 => ?_) (fun g1_20 => ?_)))))))))))
    ·try simp only [bs] at g1_20
     refine Al Z Z Z (EN (c38 ..) Z (Ad hS2 (k := 1) Z Z Z Z Z Z (Al Z Z Z (Ad hS2 (k := 0) Z Z Z Z Z Z (EN (c38 ..) Z (Ah Z Z Z Z Z (Aw Z Z Z (Aa Z Z (EN (c38 ..) Z (AT (tt := 31) Z (fun g1_27 => ?_) (fun g1_27 => ?_)))))))))))
     ·try simp only [bs] at g1_27
      refine Al Z Z Z (Ad hS2 (k := 1) Z Z Z Z Z Z (EN (c38 ..) Z (Al Z Z Z (Ad hS2 (k := 0) Z Z Z Z Z Z (AB Z Z (texts_c Ls.of Ls.of (by omega) (by omega) ?_) )))))
      refine EN (c38 ..) Z (Aw Z Z Z (Ab Z Z (Am (e' := [_,_,_,_,_,_,_,_,_,_,_,_,_,_,_,_,_,_,_,_,_,_,_,_,_,_,_,_,_,_,_,_,_,_,_,_,_,_]) Z (Ap (Ak (res1 Z (Ai Z)) (frz1 (Q := Q) (Ae Z) (qcast hq ?_)))))))
      simp [*]
     try simp only [bs] at g1_27
     refine An Z (An Z (EN (c38 ..) Z (An Z (An Z (An Z (EN (c38 ..) Z (Aw Z Z Z (Ab Z Z (Am (e' := [_,_,_,_,_,_,_,_,_,_,_,_,_,_,_,_,_,_,_,_,_,_,_,_,_,_,_,_,_,_,_,_,_,_,_,_,_,_]) Z (Ap (Ak (res1 Z (Ai Z)) (frz1 (Q := Q) (Ae Z) (qcast hq ?_)))))))))))))
     simp [*]
    try simp only [bs] at g1_20
    refine An Z (EN (c38 ..) Z (An Z (An Z (An Z (EN (c38 ..) Z (An Z (Aw Z Z Z (Aa Z Z (EN (c38 ..) Z (An Z (An Z (An Z (EN (c38 ..) Z (An Z (An Z (Aw Z Z Z (EN (c38 ..) Z (Ab Z Z (Am (e' := [_,_,_,_,_,_,_,_,_,_,_,_,_,_,_,_,_,_,_,_,_,_,_,_,_,_,_,_,_,_,_,_,_,_,_,_,_,_]) Z (Ap (Ak (res1 Z (Ai Z)) (frz1 (Q := Q) (Ae Z) (qcast hq ?_)))))))))))))))))))))))
    simp [*]
   try simp only [bs] at g1_13
   refine EN (c38 ..) Z (An Z (An Z (An Z (EN (c38 ..) Z (An Z (An Z (Aw Z Z Z (EN (c38 ..) Z (Aa Z Z (An Z (An Z (EN (c38 ..) Z (An Z (An Z (An Z (EN (c38 ..) Z (Aw Z Z Z (Aa Z Z (An Z (EN (c38 ..) Z (An Z (An Z (An Z (EN (c38 ..) Z (An Z (Aw Z Z Z (Ab Z Z (Am (e' := [_,_,_,_,_,_,_,_,_,_,_,_,_,_,_,_,_,_,_,_,_,_,_,_,_,_,_,_,_,_,_,_,_,_,_,_,_,_]) Z (Ap (Ak (res1 Z (Ai Z)) (frz1 (Q := Q) (Ae Z) (qcast hq ?_))))))))))))))))))))))))))))))))
   simp [*]
  try simp only [bs] at g1_6
  refine An Z (An Z (EN (c38 ..) Z (An Z (An Z (An Z (EN (c38 ..) Z (Aw Z Z Z (Aa Z Z (An Z (EN (c38 ..) Z (An Z (An Z (An Z (EN (c38 ..) Z (An Z (Aw Z Z Z (Aa Z Z (EN (c38 ..) Z (An Z (An Z (An Z (EN (c38 ..) Z (An Z (An Z (Aw Z Z Z (EN (c38 ..) Z (Aa Z Z (An Z (An Z (EN (c38 ..) Z (An Z (An Z (An Z (EN (c38 ..) Z (Aw Z Z Z (Ab Z Z (Am (e' := [_,_,_,_,_,_,_,_,_,_,_,_,_,_,_,_,_,_,_,_,_,_,_,_,_,_,_,_,_,_,_,_,_,_,_,_,_,_]) Z (Ap (Ak (res1 Z (Ai Z)) (frz1 (Q := Q) (Ae Z) (qcast hq ?_)))))))))))))))))))))))))))))))))))))))))
  simp [*]
theorem ckis_c (hz : c.sz) (hd : d.sz) (hq : Q (.bool (decide (c = d))) H) : CW cfg ν 14 [c.enc, d.enc] H Q := by
  obtain ⟨hz1, hz2, hz3, hz4⟩ := hz
  obtain ⟨hd1, hd2, hd3, hd4⟩ := hd
  have ne : ∀ h : ¬ (c.vs = d.vs ∧ c.ss = d.ss ∧ c.qs = d.qs), (false = decide (c = d)) := fun h => (decide_eq_false (fun e => h (by subst e; exact ⟨rfl, rfl, rfl⟩))).symm
  refine Be g14 F14 Z ?_
  have hS0 : Own ν ν (fun _ => none) [] := Own.nil
  refine Ac (AR hS0 (AE (p := ν) (b := [0, 0])) (Af [0, 0] AI) Z Z Z ⟨Z, Z⟩ fun H1 (hS1 : Own _ _ _ ([_])) => AR hS1 le_refl (Af [1, 0] AI) Z Z Z ⟨Z, Z⟩ fun H2 (hS2 : Own _ _ _ ([_, _])) => Ab Z Z (EZ (c48 ..) Z (Aq (Ac (Al Z Z Z (Ad hS2 (k := 1) Z Z Z Z Z Z (Bj Z Z Ls.of Z Z Z (List.length_map _) (EN (c48 ..) Z (Al Z Z Z (Ad hS2 (k := 0) Z Z Z Z Z Z (Bj Z Z Ls.of Z Z Z (List.length_map _) (EN (c48 ..) Z (Ah Z Z Z Z Z (Aa Z Z (AT (tt := 13) Z (fun g1_8 => ?_) (fun g1_8 => ?_))))))))))))))))
  ·try simp only [bs] at g1_8
   refine EN (c48 ..) Z (An Z (An Z (An Z (EN (c48 ..) Z (An Z (An Z (An Z (EN (c48 ..) Z (Aw Z Z Z (Aa Z Z (An Z (EN (c48 ..) Z (An Z (An Z (An Z (EN (c48 ..) Z (An Z (An Z (Aw Z Z Z (EZ (c48 ..) Z (AZ Z Z (Ac (Ab Z Z (EZ (c48 ..) Z (Ap (Ao (Ak (res1 Z (Ai Z)) (frz1 (Q := Q) (Ae Z) (qcast hq ?_)))))))))))))))))))))))))))))
   congr 1
   exact ne (fun e => by have := congrArg List.length e.1; omega)
  try simp only [bs] at g1_8
  refine EN (c48 ..) Z (Al Z Z Z (Ad hS2 (k := 1) Z Z Z Z Z Z (Al Z Z Z (EN (c48 ..) Z (Ad hS2 (k := 0) Z Z Z Z Z Z (AB Z Z (SE.c_Is Ls.of Ls.of (by omega) (by omega) ?_) ))))))
  refine BE Z Z Z (EN (c48 ..) Z (Aw Z Z Z (Aa Z Z (AT (tt := 21) Z (fun g1_16 => ?_) (fun g1_16 => ?_)))))
  ·try simp only [bs] at g1_16
   refine EN (c48 ..) Z (An Z (An Z (An Z (EN (c48 ..) Z (An Z (An Z (An Z (EN (c48 ..) Z (Aw Z Z Z (EZ (c48 ..) Z (AZ Z Z (Ac (Ab Z Z (EZ (c48 ..) Z (Ap (Ao (Ak (res1 Z (Ai Z)) (frz1 (Q := Q) (Ae Z) (qcast hq ?_)))))))))))))))))))
   congr 1
   exact ne (fun e => by simp_all)
  try simp only [bs] at g1_16
  refine EN (c48 ..) Z (Al Z Z Z (Ad hS2 (k := 1) Z Z Z Z Z Z (Al Z Z Z (EN (c48 ..) Z (Ad hS2 (k := 0) Z Z Z Z Z Z (AB Z Z (Qu.is Ls.of Ls.of (by omega) (by omega) ?_) ))))))
  refine BE Z Z Z (EN (c48 ..) Z (Aw Z Z Z (EZ (c48 ..) Z (AH Z (fun h1 => ?_) (fun h1 => ?_)))))
  ·try simp only [bs] at h1
   refine Ac (Ab Z Z (EZ (c48 ..) Z (Ap (Ao (Ak (res1 Z (Ai Z)) (frz1 (Q := Q) (Ae Z) (qcast hq ?_)))))))
   congr 1
   exact ne (fun e => by simp_all)
  try simp only [bs] at h1
  refine At (Ag (Aq (Ac (Ab Z Z (EZ (c48 ..) Z (AD (AV (I := fun ν' mm ee H' => ∃ (i : Nat), mm = c.vs.length - i ∧ under (1 :: 0 :: 1 :: 1 :: ν) ν' = true ∧ Own ν ν' H' ([row (1 :: 0 :: ν) 3 [d.enc], row (0 :: 0 :: ν) 3 [c.enc]]) ∧ (i ≤ c.vs.length ∧ c.vs.length = d.vs.length ∧ c.ss = d.ss ∧ c.qs = d.qs ∧ c.vs.take i = d.vs.take i) ∧ ∃ g : Nat → AVal, ee = [g 0, g 1, .ptr (0 :: 0 :: ν) 0 0, .ptr (1 :: 0 :: ν) 0 0, g 4, .int .i64 i, g 6, g 7, g 8, g 9, g 10, g 11, g 12, g 13, g 14, g 15, g 16, g 17, g 18, g 19, g 20, g 21, g 22, g 23, g 24, g 25, g 26, g 27, g 28, g 29, g 30, g 31, g 32, g 33, g 34, g 35, g 36, g 37, g 38, g 39, g 40, g 41, g 42, g 43, g 44, g 45, g 46, g 47]) ?_ _ _ _ _ ⟨0, Z, AI, Own.cast (Own.mono (hS2) (Ar (ν := ν) (a := [2, 0]) (b := [1, 0, 1, 1]) (by decide))) (Z), (⟨by omega, by omega, by simp_all, by simp_all, Z⟩), AU Z⟩)))))))
  rintro ν1 mm ee H3 ⟨i, rfl, hU1, hS3, ⟨hi, hl, hI1, hI2, hI⟩, g1, rfl⟩
  refine Aq (Ac (Aa Z Z (Al Z Z Z (Ad hS3 (k := 1) Z Z Z Z Z Z (EN (c48 ..) Z (Bj Z Z Ls.of Z Z Z (List.length_map _) (Ah Z Z Z Z Z (EZ (c48 ..) Z (AH Z (fun h4 => ?_) (fun h4 => ?_))))))))))
  ·try simp only [bs] at h4
   refine At (Ag (Aq (AD (Ac ?_))))
   have hlz := hz4 c.vs[i] (List.getElem_mem (by omega))
   have hld := hd4 d.vs[i] (List.getElem_mem (by omega))
   refine Al Z Z Z (Ad hS3 (k := 1) Z Z Z Z Z Z (Aa Z Z (EN (c48 ..) Z (Bb Z Z Z Ls.of Z Z Z Z (Ba (by omega)) Z (AS Z Z Z (Aj Z Z Z) (Al Z Z Z (EN (c48 ..) Z (Ad hS3 (k := 0) Z Z Z Z Z Z (Aa Z Z (Bb Z Z Z Ls.of Z Z Z Z (Ba (by omega)) Z (EN (c48 ..) Z (AS Z Z Z (Aj Z Z Z) (AB Z Z (ckvol_c (by omega) (by omega) ?_) )))))))))))))
   refine BE Z Z Z (EZ (c48 ..) Z (AH Z (fun h6 => ?_) (fun h6 => ?_)))
   ·try simp only [bs] at h6
    refine Ac (Ab Z Z (EZ (c48 ..) Z (Ap (AA (Ao (AA (Ao (Ak (res1 Z (Ai Z)) (frz1 (Q := Q) (Ae Z) (qcast hq ?_))))))))))
    congr 1
    exact ne (fun e => by simp_all)
   try simp only [bs] at h6
   refine At (AJ (Ag (AC (Aa Z Z (Ah Z Z Z Z (AW (by omega)) (Ab Z Z (EZ (c48 ..) Z (⟨_, ?_, i + 1, Z, AM hU1, Own.cast (Own.mono (hS3) (AE (p := ν1) (b := [1]))) (Z), ?_, AU Z⟩))))))))
   · omega
   exact ⟨by omega, hl, hI1, hI2, by rw [List.take_succ_eq_append_getElem (by omega), List.take_succ_eq_append_getElem (by omega), hI, h6]⟩
  try simp only [bs] at h4
  refine AY (AQ (AN (Ag (Ac (Ab Z Z (EZ (c48 ..) Z (Ap (Ak (res1 Z (Ai Z)) (frz1 (Q := Q) (Ae Z) (qcast hq ?_))))))))))
  congr 1
  exact (decide_eq_true (by rw [List.take_of_length_le (by omega), List.take_of_length_le (by omega)] at hI; obtain ⟨a1, a2, a3⟩ := c; obtain ⟨b1, b2, b3⟩ := d; simp only at hI hI1 hI2; rw [hI, hI1, hI2])).symm
def isLong : ByteArray → Bool := fun s => decide (64 < s.size)
end
/- Layer 13: the reference's commands. -/
set_option maxRecDepth 100000
section
open Go Go.RowKit WM
section
variable {ν β ps pos' : Nm} {H : Heap} {Q : AVal → Heap → Prop} {L : List Asr} {k : Nat} {O : AVal} {t : List Qu}
theorem rGiveK (hS : Own β ps H L) (hL : L[k]? = some (sl O 3 (t.map Qu.enc))) (hle : le ps ν) (hβ : under β ν = true) (hp : before ν pos') (hn : t.length ≤ 4294967290) (hfit : Fit t) (tn n : Int) (h0 : 0 ≤ n ∧ n ≤ 18446744073709551615)
    (hq : ∀ H1 v, Own β pos' H1 (sl v 3 ((giveQ t tn n).1.map Qu.enc) :: L) → Q (.tup [v, .int .i64 (giveQ t tn n).2]) H1) : CW cfg ν 106 [O, .int .u64 tn, .int .u64 n] H Q := by
  have hc := atQ_cases tn t
  replace hS := hS.pick hL
  refine AX g106 F106 Z ?_
  replace hS := Own.mono hS hle
  refine Ac (Ab Z Z (Ab Z Z (EZ (c41 ..) Z (Ac (Aa Z Z (Aa Z Z (AB Z Z (c_Find (hS.freeze0 (k := 0) Z (Bx (fun _ => Z))) (by omega) _ ?_) )))))))
  refine EN (c41 ..) Z (Ab Z Z (EZ (c41 ..) Z (Aq (Ac ?_))))
  have hr : atQ tn t = -1 ∨ 0 ≤ atQ tn t ∧ atQ tn t < t.length := by rcases hc with ⟨h, _⟩ | ⟨i, hi, h, _⟩ <;> omega
  generalize atQ tn t = at0 at *
  refine Aa Z Z (Ah Z Z Z Z Z (EZ (c41 ..) Z (AH Z (fun h2 => ?_) (fun h2 => ?_))))
  ·try simp only [bs] at h2
   refine Ac (Ab Z Z (Ab Z Z (EZ (c41 ..) Z (Ap (Ao (Ak (res2 Z (Ai Z) (Ai Z)) ?_))))))
   rcases hc with ⟨h, hg⟩ | ⟨i, hi, h, hg, _, hm⟩ <;> first | (exfalso; omega) | (simp only [giveQ, hg] at hq; exact hq _ _ (Own.put2 (Own.addN (Own.mono hS (Ax hp))) hL))
  try simp only [bs] at h2
  refine At (Ag (Ac ?_))
  have hlt : at0.toNat < t.length := by omega
  obtain ⟨f1, f2, f3⟩ := hfit t[at0.toNat] (List.getElem_mem hlt)
  refine Bq Z Z Z (Aa Z Z (BG hS (AE (p := ν) (b := [2, 0, 1, 1, 1])) (Af [2, 0, 1, 1, 1] hβ) Z Z Z Z Z Z Z Z (hS.elems (k := 0) Z) (BA (fun _ => Z)) (by (simp only [ss]; omega)) (by decide) fun O1 H1 (hS1 : Own _ _ _ (_ :: _ :: L.eraseIdx k)) => EN (c41 ..) Z (Ab Z Z (EZ (c41 ..) Z (Aq (Ac (Aa Z Z (Aa Z Z (Aa Z Z (EN (c41 ..) Z (Bi hS1 (k := 1) Z Z Z Z Z Z Z Z ((Int.toNat_of_nonneg (by omega)).symm) (Ba (by assumption)) fun q1 ys1 hO1 hq1 ht1 hy1 hu1 => ?_)))))))))))
  subst hO1
  refine Al Z Z Z (Bo Z Z hq1 hy1 Z Z (EN (c41 ..) Z (Ah Z Z Z Z Z (EZ (c41 ..) Z (AH Z (fun h5 => ?_) (fun h5 => ?_))))))
  ·try simp only [bs] at h5
   refine AC (Aa Z Z (Aa Z Z (Bi hS1 (k := 0) Z Z Z Z Z Z Z Z ((Int.toNat_of_nonneg (by omega)).symm) (by assumption) fun q2 ys2 hO2 hq2 ht2 hy2 hu2 => ?_)))
   subst hO2
   refine EN (c41 ..) Z (Al Z Z Z (Bv hS1 (k := 0) Z (Ar (ν := ν) (a := [3, 0, 1, 1, 1]) (b := [4, 1, 0, 1, 1, 1, 1]) (by decide)) Z Z Z Z hu2 ⟨Z, Z, Nat.le_of_ble_eq_true Z⟩ (u2 := .agg [_, _, _]) Z fun H2 (hS2 : Own _ _ _ (_ :: _ :: L.eraseIdx k)) => EZ (c41 ..) Z (Ag (Ac ?_))))
   replace hS2 := hS2.reS (k := 0) Z (set_enc (x := (⟨t[at0.toNat].tn, t[at0.toNat].us - min n t[at0.toNat].us, t[at0.toNat].li⟩ : Qu)) (by show AVal.agg [_, .int .u64 (t[at0.toNat].us - min n t[at0.toNat].us), _] = AVal.agg [_, _, _]; congr 3; congr 1; omega))
   refine Aa Z Z (Ab Z Z (Ab Z Z (EZ (c41 ..) Z (Ap (Ak (res2 Z (Ai Z) (Ai Z)) ?_)))))
   rcases hc with ⟨h, hg⟩ | ⟨i, hi, h, hg, _, hm⟩ <;> first | (exfalso; omega) | (subst h; simp only [Int.toNat_natCast] at *; rw [giveQ, hg] at hq; simp only [hm] at hq; exact hq _ _ (Own.put2 (Own.mono hS2 (Ax (Az (a := [5, 1, 0, 1, 1, 1, 1]) hp))) hL))
  try simp only [bs] at h5
  refine AC (Aa Z Z (Aa Z Z (Aa Z Z (EN (c41 ..) Z (Aa Z Z (Bi hS1 (k := 1) Z Z Z Z Z Z Z Z ((Int.toNat_of_nonneg (by omega)).symm) (by assumption) fun q3 ys3 hO3 hq3 ht3 hy3 hu3 => ?_))))))
  obtain rfl : q1 = q3 := (AVal.slc.inj hO3).1
  refine Al Z Z Z (EN (c41 ..) Z (Bo Z Z hq3 hy3 Z Z (Aa Z Z (Ah Z Z Z Z (sub_wu64 (by omega)) (EN (c41 ..) Z (Bi hS1 (k := 0) Z Z Z Z Z Z Z Z ((Int.toNat_of_nonneg (by omega)).symm) (by assumption) fun q4 ys4 hO4 hq4 ht4 hy4 hu4 => ?_))))))
  subst hO4
  refine Al Z Z Z (Bv hS1 (k := 0) Z (Ar (ν := ν) (a := [3, 0, 1, 1, 1]) (b := [11, 1, 0, 1, 1, 1, 1]) (by decide)) Z Z Z Z hu4 ⟨Z, Z, Nat.le_of_ble_eq_true Z⟩ (u2 := .agg [_, _, _]) Z fun H3 (hS3 : Own _ _ _ (_ :: _ :: L.eraseIdx k)) => EZ (c41 ..) Z (Ag (Ac ?_)))
  replace hS3 := hS3.reS (k := 0) Z (set_enc (x := (⟨t[at0.toNat].tn, t[at0.toNat].us - min n t[at0.toNat].us, t[at0.toNat].li⟩ : Qu)) (by show AVal.agg [_, .int .u64 (t[at0.toNat].us - min n t[at0.toNat].us), _] = AVal.agg [_, _, _]; congr 3; congr 1; omega))
  refine Aa Z Z (Ab Z Z (Ab Z Z (EZ (c41 ..) Z (Ap (Ak (res2 Z (Ai Z) (Ai Z)) ?_)))))
  rcases hc with ⟨h, hg⟩ | ⟨i, hi, h, hg, _, hm⟩ <;> first | (exfalso; omega) | (subst h; simp only [Int.toNat_natCast] at *; rw [giveQ, hg] at hq; simp only [hm] at hq; exact hq _ _ (Own.put2 (Own.mono hS3 (Ax (Az (a := [12, 1, 0, 1, 1, 1, 1]) hp))) hL))
end
variable {ν β ps pos pos' : Nm} {H H1 : Heap} {Q : AVal → Heap → Prop} {L : List Asr} {k : Nat} {S T : Rf} {c : Ck} {q qo : Nm} {key want : Int} {m : Cm}
theorem Own.st_fzK {V S T : AVal} {Us : List AVal} {a b d e : Nat} (h : Own β ps H L) (h1 : L[a]? = some (sl V 5 (rowsOf Us c.vs))) (h2 : L[b]? = some (lvA Us c.vs)) (h3 : L[d]? = some (sl S 3 (c.ss.map SE.Se.enc))) (h4 : L[e]? = some (sl T 3 (c.qs.map Qu.enc))) (hl : Us.length = c.vs.length) : X.freeze [] H 8 (.agg [V, S, T]) = c.enc := by
  obtain ⟨f1, k1, _⟩ := h.get h1
  obtain ⟨f2, k2, _⟩ := h.get h2
  obtain ⟨f3, k3, _⟩ := h.get h3
  obtain ⟨f4, k4, _⟩ := h.get h4
  have g1 : Sl H 5 (rowsOf Us c.vs) V f1 := k1
  have g2 : hold (lvsOf Us c.vs) H f2 := k2
  have e1 : X.freeze [] H 7 V = _ := g1.freezeN (n := 6)
  have e2 : X.freeze [] H 7 S = _ := Sl.freezeP (n := 6) k3 se_plain
  have e3 : X.freeze [] H 7 T = _ := Sl.freezeP (n := 6) k4 qu_plain
  show AVal.agg [X.freeze [] H 7 V, X.freeze [] H 7 S, X.freeze [] H 7 T] = _
  rw [e1, e2, e3, rows_freeze (n := 4) c.vs Us f2 hl g2]
theorem Own.stU {V S T : AVal} (h : Own β ps H (stO V S T c :: L)) : ∃ Us, Us.length = c.vs.length ∧ Own β ps H (sl V 5 (rowsOf Us c.vs) :: lvA Us c.vs :: sl S 3 (c.ss.map SE.Se.enc) :: sl T 3 (c.qs.map Qu.enc) :: L) := by
  obtain ⟨Us, hu, h2⟩ := Own.un_vols h.un_all
  exact ⟨Us, hu, h2⟩
theorem Own.stM {V S T : AVal} {Us : List AVal} (h : Own β ps H (sl V 5 (rowsOf Us c.vs) :: lvA Us c.vs :: sl S 3 (c.ss.map SE.Se.enc) :: sl T 3 (c.qs.map Qu.enc) :: L)) (hu : Us.length = c.vs.length) : Own β ps H (stO V S T c :: L) :=
  Own.mk_all (L1 := [vols V c.vs, sl S 3 (c.ss.map SE.Se.enc), sl T 3 (c.qs.map Qu.enc)]) (Own.mk_vols h hu)
theorem pow4 {b : Int} (h : 0 ≤ b ∧ b ≤ 4) : 1 ≤ 2 ^ b.toNat ∧ 2 ^ b.toNat ≤ 16 := ⟨Nat.one_le_two_pow, Nat.le_trans (Nat.pow_le_pow_right (by decide) (show b.toNat ≤ 4 by omega)) (by decide)⟩
theorem power_e {n : Int} {P : Nat} (h : 0 ≤ n ∧ n ≤ 4) (he : 2 ^ n.toNat = P) (hq : Q (.int .i64 P) H) : CW cfg ν 32 [.int .i64 n] H Q := power_c h (by rw [he]; exact hq)
theorem made_c {V S0 T0 : AVal} (hg : c.good) (hm : m.fit) (hS : Own β ps H (stO V S0 T0 c :: L)) (hle : le ps ν) (hβ : under β ν = true) (hp : before ν pos')
    (hq : ∀ H1 V1 S1 T1, Own β pos' H1 (stO V1 S1 T1 (makeR c m).c :: L) → Q (.tup [.agg [V1, S1, T1], .int .i64 (makeR c m).e]) H1) : CW cfg ν 57 [.agg [V, S0, T0], m.enc] H Q := by
  obtain ⟨Us, hu, hS⟩ := hS.stU
  have hvl := hg.vl
  have hrl := rows_lenE (vs := c.vs) hu
  have hzl : (c.vs.zip Us).length = c.vs.length := by rw [List.length_zip]; omega
  have hmb := hm.b
  refine AX g57 F57 rfl ?_
  replace hS := Own.mono hS hle
  refine Ac ?_
  refine AR hS (AE (p := ν) (b := [0, 0])) (Af [0, 0] hβ) rfl rfl rfl ⟨rfl, rfl⟩ fun H1 hS1 => ?_
  replace hS1 : Own _ _ _ (_ :: _ :: _ :: _ :: _ :: L) := hS1
  refine AR hS1 le_refl (Af [1, 0] hβ) rfl rfl rfl ⟨rfl, rfl⟩ fun H2 hS2 => ?_
  replace hS2 : Own _ _ _ (_ :: _ :: _ :: _ :: _ :: _ :: L) := hS2
  refine AG hS2 le_refl (Af [2, 0] hβ) rfl rfl rfl rfl fun H3 hS3 => ?_
  replace hS3 : Own _ _ _ (_ :: _ :: _ :: _ :: _ :: _ :: _ :: L) := hS3
  refine EN (c52 ..) rfl (Ab rfl rfl ?_)
  refine EZ (c52 ..) rfl ?_
  refine Aq (Ac ?_)
  refine Ad hS3 (k := 2) rfl rfl rfl rfl rfl (by exact Aj rfl rfl rfl) ?_
  refine Al rfl rfl rfl ?_
  refine Ad hS3 (k := 1) rfl rfl rfl rfl rfl (by rfl) ?_
  refine EN (c52 ..) rfl ?_
  refine AB rfl rfl (rk_find (c := c) (Own.st_fzK hS3 (a := 3) (b := 4) (d := 5) (e := 6) rfl rfl rfl rfl hu) (by omega) _ ?_) 
  refine Ah rfl rfl rfl rfl rfl ?_
  refine EZ (c52 ..) rfl ?_
  refine AH rfl (fun h1 => ?_) (fun h1 => ?_)
  ·try simp only [bs] at h1
   refine Ac ?_
   refine Ad hS3 (k := 2) rfl rfl rfl rfl rfl (by exact Aj rfl rfl rfl) ?_
   refine Av hS3 (k := 0) rfl (Ar (ν := ν) (a := [3, 0]) (b := [1, 0, 1, 0, 1]) (by decide)) rfl rfl rfl rfl ⟨rfl, rfl, Nat.le_of_ble_eq_true rfl⟩ (u2 := .agg [_, _, _]) rfl fun H4 hS4 => ?_
   replace hS4 : Own _ _ _ (_ :: _ :: _ :: _ :: _ :: _ :: _ :: L) := hS4
   refine Ab rfl rfl ?_
   refine EZ (c52 ..) rfl ?_
   refine Ap (Ao ?_)
   refine Ak (res2 rfl (AP hS4 (k := 0) rfl rfl rfl rfl (by exact Aj rfl rfl rfl)) (Ai rfl)) ?_
   rw [makeR, if_pos (by omega)] at hq; exact hq _ _ _ _ (Own.stM (Own.drop0 (Own.drop0 (Own.drop0 (Own.mono hS4 (Ax (Az (a := [2, 0, 1, 0, 1]) hp)))))) hu)
  try simp only [bs] at h1
  refine At (Ag (Aq (Ac (Al rfl rfl rfl ?_))))
  refine Ad hS3 (k := 2) rfl rfl rfl rfl rfl (by rfl) ?_
  refine BC hS3 (k := 3) rfl rfl rfl rfl rfl rfl (by exact List.length_map _) ?_
  refine EN (c52 ..) rfl ?_
  refine Ah rfl rfl rfl rfl rfl ?_
  refine EZ (c52 ..) rfl ?_
  refine AH rfl (fun h3 => ?_) (fun h3 => ?_)
  ·try simp only [bs] at h3
   refine Ac ?_
   refine Ad hS3 (k := 2) rfl rfl rfl rfl rfl (by exact Aj rfl rfl rfl) ?_
   refine Av hS3 (k := 0) rfl (Ar (ν := ν) (a := [3, 0]) (b := [1, 0, 1, 0, 1, 1]) (by decide)) rfl rfl rfl rfl ⟨rfl, rfl, Nat.le_of_ble_eq_true rfl⟩ (u2 := .agg [_, _, _]) rfl fun H5 hS5 => ?_
   replace hS5 : Own _ _ _ (_ :: _ :: _ :: _ :: _ :: _ :: _ :: L) := hS5
   refine Ab rfl rfl ?_
   refine EZ (c52 ..) rfl ?_
   refine Ap (Ao ?_)
   refine Ak (res2 rfl (AP hS5 (k := 0) rfl rfl rfl rfl (by exact Aj rfl rfl rfl)) (Ai rfl)) ?_
   rw [makeR, if_neg (by omega), if_pos (by omega)] at hq; exact hq _ _ _ _ (Own.stM (Own.drop0 (Own.drop0 (Own.drop0 (Own.mono hS5 (Ax (Az (a := [2, 0, 1, 0, 1, 1]) hp)))))) hu)
  try simp only [bs] at h3
  refine At (Ag (Aq (Ac (Al rfl rfl rfl ?_))))
  refine Ad hS3 (k := 1) rfl rfl rfl rfl rfl (by rfl) ?_
  refine Ah rfl rfl rfl rfl rfl ?_
  refine EZ (c52 ..) rfl ?_
  refine AH rfl (fun h5 => ?_) (fun h5 => ?_)
  ·try simp only [bs] at h5
   refine Ac ?_
   refine Ad hS3 (k := 2) rfl rfl rfl rfl rfl (by exact Aj rfl rfl rfl) ?_
   refine Av hS3 (k := 0) rfl (Ar (ν := ν) (a := [3, 0]) (b := [1, 0, 1, 0, 1, 1, 1]) (by decide)) rfl rfl rfl rfl ⟨rfl, rfl, Nat.le_of_ble_eq_true rfl⟩ (u2 := .agg [_, _, _]) rfl fun H6 hS6 => ?_
   replace hS6 : Own _ _ _ (_ :: _ :: _ :: _ :: _ :: _ :: _ :: L) := hS6
   refine Ab rfl rfl ?_
   refine EZ (c52 ..) rfl ?_
   refine Ap (Ao ?_)
   refine Ak (res2 rfl (AP hS6 (k := 0) rfl rfl rfl rfl (by exact Aj rfl rfl rfl)) (Ai rfl)) ?_
   rw [makeR, if_neg (by omega), if_neg (by omega), if_pos (by omega)] at hq; exact hq _ _ _ _ (Own.stM (Own.drop0 (Own.drop0 (Own.drop0 (Own.mono hS6 (Ax (Az (a := [2, 0, 1, 0, 1, 1, 1]) hp)))))) hu)
  try simp only [bs] at h5
  refine At (Ag (Ac ?_))
  obtain ⟨hp1, hp2⟩ := pow4 (b := m.b) (by omega)
  generalize hpw : 2 ^ m.b.toNat = P at *
  refine Al rfl rfl rfl ?_
  refine Ad hS3 (k := 1) rfl rfl rfl rfl rfl (by rfl) ?_
  refine Al rfl rfl rfl (EN (c52 ..) rfl ?_)
  refine Ad hS3 (k := 1) rfl rfl rfl rfl rfl (by rfl) ?_
  refine Al rfl rfl rfl ?_
  refine Ad hS3 (k := 1) rfl rfl rfl rfl rfl (by rfl) ?_
  refine EN (c52 ..) rfl (Al rfl rfl rfl ?_)
  refine Ad hS3 (k := 1) rfl rfl rfl rfl rfl (by rfl) ?_
  refine Bc rfl rfl (Bm rfl rfl rfl (IntWalk.i64_in _ (by omega))) ?_
  refine EN (c52 ..) rfl ?_
  refine BF rfl rfl (v := .agg [_, _, _, _, _]) rfl ?_
  refine AG hS3 (Ar (ν := ν) (a := [3, 0]) (b := [10, 0, 1, 1, 1, 1]) (by decide)) (Af [10, 0, 1, 1, 1, 1] hβ) rfl rfl rfl rfl fun H7 hS7 => ?_
  replace hS7 : Own _ _ _ (_ :: _ :: _ :: _ :: _ :: _ :: _ :: _ :: L) := hS7
  refine Av hS7 (k := 0) rfl le_refl rfl rfl rfl rfl ⟨rfl, rfl, Nat.le_of_ble_eq_true rfl⟩ (u2 := .agg [_, _, _, _, _]) rfl fun H8 hS8 => ?_
  replace hS8 : Own _ _ _ (_ :: _ :: _ :: _ :: _ :: _ :: _ :: _ :: L) := hS8
  refine EZ (c52 ..) rfl ?_
  refine Aq (Ac (Ab rfl rfl ?_))
  refine EZ (c52 ..) rfl ?_
  refine AD ?_
  refine AV (I := fun ν' mm ee H' => ∃ (i : Nat) (U : AVal), mm = P - i ∧ under (1 :: 0 :: 1 :: 1 :: 1 :: 1 :: 1 :: ν) ν' = true ∧ Own β ν' H' (row (10 :: 0 :: 1 :: 1 :: 1 :: 1 :: ν) 5 [.agg [.int .u64 m.vo, .int .u64 m.a, .int .u64 m.se, .int .i64 m.b, U]] :: sl U 1 ((List.replicate i (⟨#[]⟩ : ByteArray)).map AVal.str) :: row (2 :: 0 :: ν) 3 [.agg [.emp, .emp, .emp]] :: row (1 :: 0 :: ν) 11 [m.enc] :: row (0 :: 0 :: ν) 3 [.agg [V, S0, T0]] :: sl V 5 (rowsOf Us c.vs) :: lvA Us c.vs :: sl S0 3 (c.ss.map SE.Se.enc) :: sl T0 3 (c.qs.map Qu.enc) :: L) ∧ (i ≤ P) ∧ ∃ g : Nat → AVal, ee = [g 0, g 1, .ptr (0 :: 0 :: ν) 0 0, .ptr (1 :: 0 :: ν) 0 0, .ptr (2 :: 0 :: ν) 0 0, .int .i64 0, .ptr (10 :: 0 :: 1 :: 1 :: 1 :: 1 :: ν) 0 0, .int .i64 i, g 8, g 9, g 10, g 11, g 12, g 13, g 14, g 15, g 16, g 17, g 18, g 19, g 20, g 21, g 22, g 23, g 24, g 25, g 26, g 27, g 28, g 29, g 30, g 31, g 32, g 33, g 34, g 35, g 36, g 37, g 38, g 39, g 40, g 41, g 42, g 43, g 44, g 45, g 46, g 47, g 48, g 49, g 50, g 51]) ?_ _ _ _ _ ⟨0, .emp, rfl, AI, Own.cast (Own.mono (Own.rot (A := [_]) (Own.addE (w := 1) hS8)) (Ar (ν := ν) (a := [12, 0, 1, 1, 1, 1]) (b := [1, 0, 1, 1, 1, 1, 1]) (by decide))) (rfl), (by omega), AU rfl⟩
  rintro ν1 mm ee H9 ⟨i, U, rfl, hU1, hS9, hi, g1, rfl⟩
  refine Aq (Ac (Aa rfl rfl (Al rfl rfl rfl ?_)))
  refine Ad hS9 (k := 0) rfl rfl rfl rfl rfl (by rfl) ?_
  refine EN (c52 ..) rfl ?_
  refine AB rfl rfl (power_e (by omega) hpw ?_) 
  refine Ah rfl rfl rfl rfl rfl ?_
  refine EZ (c52 ..) rfl ?_
  refine AH rfl (fun h9 => ?_) (fun h9 => ?_)
  ·try simp only [bs] at h9
   refine At (Ag (Aq (AD (AC (Al rfl rfl rfl ?_)))))
   refine Ad hS9 (k := 0) rfl rfl rfl rfl rfl (by rfl) ?_
   refine Bq rfl rfl (v := .lst [_]) rfl ?_
   refine EN (c52 ..) rfl ?_
   refine Bz hS9 (k := 1) rfl (AE (p := ν1) (b := [3, 0, 1, 0])) (Af [3, 0, 1, 0] (Bk (Af [1, 0, 1, 1, 1, 1, 1] hβ) hU1)) rfl rfl rfl rfl rfl rfl rfl rfl (by rfl) (by exact Br rfl) (by (simp; omega)) (by decide) fun O1 H10 hS10 => ?_
   replace hS10 : Own _ _ _ (_ :: _ :: _ :: _ :: _ :: _ :: _ :: _ :: _ :: L) := hS10
   refine Al rfl rfl rfl ?_
   refine Bs hS10 (k := 0) rfl (Ar (ν := ν1) (a := [4, 0, 1, 0]) (b := [5, 0, 1, 0]) (by decide)) rfl rfl rfl (hS10.one (k := 1) rfl) rfl rfl (Nat.le_of_ble_eq_true rfl) (u2 := .agg [_, _, _, _, _]) rfl fun H11 hS11 => ?_
   replace hS11 : Own _ _ _ (_ :: _ :: _ :: _ :: _ :: _ :: _ :: _ :: _ :: L) := hS11
   refine EZ (c52 ..) rfl ?_
   refine AJ (Ag (AC (Aa rfl rfl ?_)))
   refine Ah rfl rfl rfl rfl (AW (by omega)) ?_
   refine Ab rfl rfl ?_
   refine EZ (c52 ..) rfl ?_
   refine ⟨_, ?_, i + 1, O1, rfl, AM hU1, Own.cast (Own.mono (hS11) (Ar (ν := ν1) (a := [6, 0, 1, 0]) (b := [1]) (by decide))) (by rw [List.replicate_succ', List.map_append]; rfl), ?_, AU rfl⟩
   · omega
   omega
  try simp only [bs] at h9
  refine AY (AQ (AN (Ag (Ac (Al rfl rfl rfl ?_)))))
  refine Ad hS9 (k := 4) rfl rfl rfl rfl rfl (by rfl) ?_
  refine Ad hS9 (k := 0) rfl rfl rfl rfl rfl (by exact Aj rfl rfl rfl) ?_
  refine EN (c52 ..) rfl ?_
  refine Bq rfl rfl (v := .lst [_]) rfl ?_
  refine Bz hS9 (k := 5) rfl (Ax (Bg (a := []) hU1 (Au (ν := ν) (a := [1, 0, 1, 1, 1, 1, 1]) (b := [4, 0, 1, 1, 1, 1, 1, 1]) (by decide)))) (Af [4, 0, 1, 1, 1, 1, 1, 1] hβ) rfl rfl rfl rfl rfl rfl rfl rfl (by rfl) (by exact Br rfl) (by (simp only [ss]; omega)) (by decide) fun O2 H12 hS12 => ?_
  replace hS12 : Own _ _ _ (_ :: _ :: _ :: _ :: _ :: _ :: _ :: _ :: _ :: L) := hS12
  refine Al rfl rfl rfl (EN (c52 ..) rfl ?_)
  refine Bs hS12 (k := 4) rfl (Ar (ν := ν) (a := [5, 0, 1, 1, 1, 1, 1, 1]) (b := [6, 0, 1, 1, 1, 1, 1, 1]) (by decide)) rfl rfl rfl (hS12.one (k := 5) rfl) rfl rfl (Nat.le_of_ble_eq_true rfl) (u2 := .agg [_, _, _]) rfl fun H13 hS13 => ?_
  replace hS13 : Own _ _ _ (_ :: _ :: _ :: _ :: _ :: _ :: _ :: _ :: _ :: L) := hS13
  refine EZ (c52 ..) rfl ?_
  refine Ac ?_
  refine Ad hS13 (k := 4) rfl rfl rfl rfl rfl (by exact Aj rfl rfl rfl) ?_
  refine Av hS13 (k := 2) rfl (Ar (ν := ν) (a := [7, 0, 1, 1, 1, 1, 1, 1]) (b := [1, 0, 1, 1, 1, 1, 1, 1, 1]) (by decide)) rfl rfl rfl rfl ⟨rfl, rfl, Nat.le_of_ble_eq_true rfl⟩ (u2 := .agg [_, _, _]) rfl fun H14 hS14 => ?_
  replace hS14 : Own _ _ _ (_ :: _ :: _ :: _ :: _ :: _ :: _ :: _ :: _ :: L) := hS14
  refine Ab rfl rfl ?_
  refine EZ (c52 ..) rfl ?_
  refine Ap ?_
  refine Ak (res2 rfl (AP hS14 (k := 2) rfl rfl rfl rfl (by exact Aj rfl rfl rfl)) (Ai rfl)) ?_
  rw [makeR, if_neg (by omega), if_neg (by omega), if_neg (by omega), hpw, show P = i by omega] at hq
  have hz : Own _ _ _ (sl U 1 ((List.replicate i (⟨#[]⟩ : ByteArray)).map AVal.str) :: sl _ 5 (rowsOf Us c.vs ++ [(⟨m.vo, m.a, m.se, m.b, List.replicate i ⟨#[]⟩⟩ : Vo).row U]) :: lvA Us c.vs :: sl S0 3 _ :: sl T0 3 _ :: L) := Own.drop (Own.drop (Own.drop (Own.drop0 (Own.mono hS14 (Ax (Az (a := [2, 0, 1, 1, 1, 1, 1, 1, 1]) hp)))) (k := 1) rfl) (k := 1) rfl) (k := 1) rfl
  have hz2 : Own _ _ _ (sl U 1 _ :: lvA Us c.vs :: sl _ 5 _ :: sl S0 3 _ :: sl T0 3 _ :: L) := Own.rot (A := [_, _]) (Own.tor (A := [_]) hz)
  have hz3 := Own.rot (A := [_]) (Own.lv_snoc (x := ⟨m.vo, m.a, m.se, m.b, List.replicate i ⟨#[]⟩⟩) hz2 hu)
  rw [rows_snoc hu] at hz3
  exact hq _ _ _ _ (Own.stM (c := ⟨c.vs ++ [_], c.ss, c.qs⟩) hz3 (by simp [hu]))
end
/- Layer 07: the laws, reckoned. -/
set_option maxRecDepth 100000
section
open Go Go.RowKit WM
variable {ν β ps pos' : Nm} {H : Heap} {Q : AVal → Heap → Prop} {L : List Asr} {q : Nm} {k : Nat} {S T : Rf}
structure Isd (S : Rf) (key : Int) (l : List Tk) : Prop where
  inv : S.Inv
  row : ∀ t ∈ l, ⟨2, key, 0, tkB t, ⟨#[]⟩, t.tag⟩ ∈ S.rows
  only : ∀ y ∈ S.rows, y.t = 2 → ∃ t ∈ l, y.k = key ∧ y.a = tkB t ∧ y.h = t.tag
theorem value_only {x y : Rw} (h : y ∈ (S.value x).2.rows) : y ∈ S.rows ∨ y = ⟨x.t, x.k, x.n, x.a, x.b, (S.value x).1⟩ := by
  unfold Rf.value at h ⊢
  split at h
  · exact .inl h
  simp only [Rf.draw, List.mem_append, List.mem_singleton] at h
  exact h
theorem Isd.issue {key : Int} {l : List Tk} (h : Isd S key l) (t : Tk) : Isd (S.issue key t).2 key (l ++ [(S.issue key t).1]) := by
  have hu : S.Up (S.issue key t).2 := Rf.value_up _
  refine ⟨hu.inv h.inv, fun u hu' => ?_, fun y hy h2 => ?_⟩
  · rcases List.mem_append.1 hu' with h1 | h1
    · exact hu.sub _ (h.row u h1)
    simp only [List.mem_singleton] at h1
    subst h1
    exact Rf.mac_row (S := S) (kk := key) (a := tkB t) rfl
  rcases value_only (S := S) hy with h1 | h1
  · obtain ⟨u, h3, h4⟩ := h.only y h1 h2
    exact ⟨u, by simp [h3], h4⟩
  exact ⟨(S.issue key t).1, by simp, by rw [h1], by rw [h1]; rfl, by rw [h1]; rfl⟩
theorem Isd.issues {key : Int} : ∀ (m : List Tk) {l : List Tk} {S : Rf}, Isd S key l → Isd (S.issues key m).2 key (l ++ (S.issues key m).1)
  | [], l, S, h => by simpa [Rf.issues] using h
  | t :: m, l, S, h => by
    have := Isd.issues m (h.issue t)
    simpa [Rf.issues] using this
def fit4 (t : Tk) : Prop := U64 t.tn ∧ U64 t.vo ∧ U64 t.ep ∧ U64 t.ri
theorem Us.rows (x : Us) : x.ts.2.rows.length ≤ 100 := by
  have h1 := Rf.issues_rows (x.iss.take 100) (S := Rf.new x.d) (key := x.key)
  have h2 : (Rf.new x.d).rows.length = 0 := rfl
  rw [List.length_take] at h1
  show ((Rf.new x.d).issues x.key (x.iss.take 100)).2.rows.length ≤ 100
  omega
theorem Us.len (x : Us) : x.ts.1.length ≤ 100 := by
  show ((Rf.new x.d).issues x.key (x.iss.take 100)).1.length ≤ 100
  rw [Rf.issues_len, List.length_take]; omega
end
/- Layer 07: TokenForged, TokenEpochs, TokenApart, reckoned. -/
set_option maxRecDepth 100000
section
open Go Go.RowKit WM
variable {ν β ps pos' : Nm} {H : Heap} {Q : AVal → Heap → Prop} {L : List Asr} {q : Nm} {k : Nat} {S T : Rf}
structure As where
  t : Tk
  vol : Int
  ep : Int
  want : Int
def As.enc (a : As) : AVal := .agg [.int .u64 a.t.tn, .int .u64 a.t.vo, .int .u64 a.t.ep, .int .u64 a.t.ri, .int .u64 a.t.tag, .int .u64 a.vol, .int .u64 a.ep, .int .u64 a.want]
structure Le where
  x : Us
  a : As
  ahead : Int
  less : Int
def Le.enc (y : Le) : AVal := .agg [.lst (y.x.d.map (fun a : Int => AVal.int .u64 a)), .int .u64 y.x.key, .lst (y.x.iss.map Tk.enc), .int .u64 y.a.t.tn, .int .u64 y.a.t.vo, .int .u64 y.a.t.ep, .int .u64 y.a.t.ri, .int .u64 y.a.t.tag, .int .u64 y.a.vol, .int .u64 y.a.ep, .int .u64 y.a.want, .int .u64 y.ahead, .int .u64 y.less]
def andB (w l : Int) : Int := IntKind.u64.wrap (((BitVec.ofInt 64 w &&& BitVec.ofInt 64 l).toNat : Nat) : Int)
theorem wrapN (b : BitVec 64) : IntKind.u64.wrap ((b.toNat : Nat) : Int) = (b.toNat : Int) := IntWalk.u64_in _ (by have := b.isLt; omega)
theorem andN_0 {w r : Int} : andN w r = 0 ↔ BitVec.ofInt 64 w &&& ~~~ BitVec.ofInt 64 r = 0#64 := by
  unfold andN
  rw [wrapN]
  constructor
  · intro h
    apply BitVec.eq_of_toNat_eq
    simpa using (by omega : (BitVec.ofInt 64 w &&& ~~~ BitVec.ofInt 64 r).toNat = 0)
  intro h; rw [h]; rfl
end
/- Layer 07: the reference's Issue and Check; the law TokenChecks. -/
set_option maxRecDepth 100000
section
open Go Go.RowKit WM
variable {ν β ps pos' : Nm} {H : Heap} {Q : AVal → Heap → Prop} {L : List Asr} {q : Nm} {k : Nat} {S T : Rf}
def subN (w r : Nat) : Prop := ∀ i, w.testBit i = true → r.testBit i = true
theorem subN_step (w r : Nat) : subN w r ↔ ¬ (w % 2 = 1 ∧ r % 2 = 0) ∧ subN (w / 2) (r / 2) := by
  constructor
  · intro h
    refine ⟨fun ⟨h1, h2⟩ => ?_, fun i hi => ?_⟩
    · have := h 0 (by simp [Nat.testBit_zero, h1])
      simp [Nat.testBit_zero] at this
      omega
    have := h (i + 1) (by rw [Nat.testBit_succ]; exact hi)
    rwa [Nat.testBit_succ] at this
  rintro ⟨h1, h2⟩ i hi
  cases i with
  | zero =>
    simp [Nat.testBit_zero] at hi ⊢
    omega
  | succ i => rw [Nat.testBit_succ] at hi ⊢; exact h2 i hi
theorem andN_sub {w r : Int} (hw : U64 w) (hr : U64 r) : andN w r = 0 ↔ subN w.toNat r.toNat := by
  rw [andN_0]
  have e1 : BitVec.ofInt 64 w = BitVec.ofNat 64 w.toNat := by rw [← BitVec.ofInt_natCast]; congr 1; omega
  have e2 : BitVec.ofInt 64 r = BitVec.ofNat 64 r.toNat := by rw [← BitVec.ofInt_natCast]; congr 1; omega
  rw [e1, e2]
  constructor
  · intro h i hi
    have hi64 : i < 64 := by
      rcases Nat.lt_or_ge i 64 with h | h
      · exact h
      rw [Nat.testBit_lt_two_pow (Nat.lt_of_lt_of_le (by omega : w.toNat < 2 ^ 64) (Nat.pow_le_pow_right (by decide) h))] at hi
      cases hi
    have := congrArg (fun b : BitVec 64 => b.getLsbD i) h
    simp only [BitVec.getLsbD_and, BitVec.getLsbD_not, BitVec.getLsbD_ofNat, hi64, decide_true, Bool.true_and, hi, BitVec.getLsbD_zero] at this
    simpa using this
  intro h
  apply BitVec.eq_of_getLsbD_eq
  intro i hi
  simp only [BitVec.getLsbD_and, BitVec.getLsbD_not, BitVec.getLsbD_ofNat, hi, decide_true, Bool.true_and, BitVec.getLsbD_zero]
  cases hb : w.toNat.testBit i with
  | false => simp
  | true => rw [h i hb]; simp
theorem subN_zero {r : Nat} : subN 0 r := fun i h => by simp at h
theorem rissueW (hS : Own β ps H L) (hL : L[k]? = some (rorc q S)) (hle : le ps ν) (hβ : under β ν = true) (hp : before ν pos') {N : Nat} (hN : S.le N) (hn : N ≤ 4294960000) (key : Int) (t : Tk) (ht : t.fit)
    (hq : ∀ H1, Own β pos' H1 (L.set k (rorc q (S.issue key t).2)) → Q (S.issue key t).1.enc H1) : CW cfg ν 35 [.ptr q 0 0, .int .u64 key, t.enc] H Q := by
  replace hS := hS.pick hL
  have hz := fdB_size ht
  refine AX g35 F35 Z ?_
  replace hS := Own.mono hS hle
  refine Ac (AR hS (AE (p := ν) (b := [0, 0])) (Af [0, 0] hβ) Z Z Z ⟨Z, Z⟩ fun H1 (hS1 : Own _ _ _ (_ :: _ :: L.eraseIdx k)) => AG hS1 le_refl (Af [1, 0] hβ) Z Z Z Z fun H2 (hS2 : Own _ _ _ (_ :: _ :: _ :: L.eraseIdx k)) => Am (e' := [_,_,_,_,_,_,_,_,_,_,_,_,_,_,_]) Z (Ac (Aa Z Z (Aa Z Z (Ad hS2 (k := 1) Z Z Z Z Z (Aj Z Z Z) (Ay (e' := [_,_,_,_,_,_,_,_,_,_,_,_,_,_,_]) Z (AB Z Z (saidW (by assumption) ?_) )))))))
  refine Ah Z Z Z Z (cat (by show 5 + _ ≤ 9223372036854775807; omega)) (AB Z Z (rMac hS2 (k := 2) Z (Ar (ν := ν) (a := [2, 0]) (b := [5, 0, 1]) (by decide)) (Af [5, 0, 1] hβ) (Au (ν := ν) (a := [5, 0, 1]) (b := [6, 0, 1]) (by decide)) (hN.mono (by omega)) _ (tkB t) fun H3 hS3 => ?_) )
  replace hS3 : Own _ _ _ (_ :: _ :: _ :: L.eraseIdx k) := hS3
  refine Ay (e' := [_,_,_,_,_,_,_,_,_,_,_,_,_,_,_]) Z (Al Z Z Z (Av hS3 (k := 1) Z (Ar (ν := ν) (a := [6, 0, 1]) (b := [7, 0, 1]) (by decide)) Z Z Z Z ⟨Z, Z, Nat.le_of_ble_eq_true Z⟩ (u2 := .agg [_, _, _, _, _]) Z fun H4 (hS4 : Own _ _ _ (_ :: _ :: _ :: L.eraseIdx k)) => Am (e' := [_,_,_,_,_,_,_,_,_,_,_,_,_,_,_]) Z (Ac (Ad hS4 (k := 1) Z Z Z Z Z (Aj Z Z Z) (Av hS4 (k := 0) Z (Ar (ν := ν) (a := [8, 0, 1]) (b := [1, 0, 1, 1]) (by decide)) Z Z Z Z ⟨Z, Z, Nat.le_of_ble_eq_true Z⟩ (u2 := .agg [_, _, _, _, _]) Z fun H5 (hS5 : Own _ _ _ (_ :: _ :: _ :: L.eraseIdx k)) => Am (e' := [_,_,_,_,_,_,_,_,_,_,_,_,_,_,_]) Z (Ap (Ak (res1 Z (AP hS5 (k := 0) Z Z Z Z (Aj Z Z Z))) ?_)))))))
  exact hq _ (Own.unpick (Own.drop0 (Own.drop0 (Own.mono hS5 (Ax (Az (a := [2, 0, 1, 1]) hp))))) hL)
theorem rcheckW (hS : Own β ps H L) (hL : L[k]? = some (rorc q S)) (hle : le ps ν) (hβ : under β ν = true) (hp : before ν pos') {N : Nat} (hN : S.le N) (hn : N ≤ 4294960000) (key : Int) (t : Tk) (ht : t.fit) (vol ep want : Int) (hwn : U64 want)
    (hq : ∀ H1, Own β pos' H1 (L.set k (rorc q (S.check key t vol ep want).2)) → Q (.int .i64 (S.check key t vol ep want).1) H1) : CW cfg ν 104 [.ptr q 0 0, .int .u64 key, t.enc, .int .u64 vol, .int .u64 ep, .int .u64 want] H Q := by
  replace hS := hS.pick hL
  have hz := fdB_size ht
  refine AX g104 F104 Z ?_
  replace hS := Own.mono hS hle
  refine Ac ?_
  refine AR hS (AE (p := ν) (b := [0, 0])) (Af [0, 0] hβ) Z Z Z ⟨Z, Z⟩ fun H1 (hS1 : Own _ _ _ (_ :: _ :: L.eraseIdx k)) => ?_
  refine Ab Z Z ?_
  refine EZ (c52 ..) Z ?_
  refine Aq (Ac (Aa Z Z (Aa Z Z ?_)))
  refine Ad hS1 (k := 0) Z Z Z Z Z (by exact Aj Z Z Z) ?_
  refine EN (c52 ..) Z ?_
  refine AB Z Z (saidW (by assumption) ?_) 
  refine Ah Z Z Z Z (cat (by show 5 + _ ≤ 9223372036854775807; omega)) ?_
  refine Al Z Z Z (EN (c52 ..) Z ?_)
  refine Ad hS1 (k := 0) Z Z Z Z Z (by rfl) ?_
  refine AB Z Z (rVerify hS1 (k := 1) Z (Ar (ν := ν) (a := [1, 0]) (b := [7, 0, 0, 1]) (by decide)) (Af [7, 0, 0, 1] hβ) (Au (ν := ν) (a := [7, 0, 0, 1]) (b := [8, 0, 0, 1]) (by decide)) (hN.mono (by omega)) _ (tkB t) _ fun H2 hS2 => ?_) 
  replace hS2 : Own _ _ _ (_ :: _ :: L.eraseIdx k) := hS2
  refine BE Z Z Z ?_
  refine EZ (c52 ..) Z ?_
  refine AH Z (fun h1 => ?_) (fun h1 => ?_)
  ·try simp only [bs] at h1
   refine Ac (Ab Z Z ?_)
   refine EZ (c52 ..) Z ?_
   refine Ap (Ao ?_)
   refine Ak (res1 Z (Ai Z)) ?_
   refine qcast (hq _ (Own.unpick (Own.drop0 (Own.mono hS2 (Ax (Az (a := [8, 0, 0, 1]) hp)))) hL)) ?_; simp [Rf.check, Rf.ans, h1]
  try simp only [bs] at h1
  refine At (Ag (Aq (Ac (Al Z Z Z ?_))))
  refine Ad hS2 (k := 0) Z Z Z Z Z (by rfl) ?_
  refine Aa Z Z (EN (c52 ..) Z ?_)
  refine Ah Z Z Z Z Z ?_
  refine EZ (c52 ..) Z ?_
  refine AH Z (fun h3 => ?_) (fun h3 => ?_)
  ·try simp only [bs] at h3
   refine Ac (Ab Z Z ?_)
   refine EZ (c52 ..) Z ?_
   refine Ap (Ao ?_)
   refine Ak (res1 Z (Ai Z)) ?_
   refine qcast (hq _ (Own.unpick (Own.drop0 (Own.mono hS2 (Ax (Az (a := [8, 0, 0, 1]) hp)))) hL)) ?_; simp [Rf.check, Rf.ans, h1, h3]
  try simp only [bs] at h3
  refine At (Ag (Aq (Ac (Al Z Z Z ?_))))
  refine Ad hS2 (k := 0) Z Z Z Z Z (by rfl) ?_
  refine Aa Z Z (EN (c52 ..) Z ?_)
  refine Ah Z Z Z Z Z ?_
  refine EZ (c52 ..) Z ?_
  refine AH Z (fun h5 => ?_) (fun h5 => ?_)
  ·try simp only [bs] at h5
   refine Ac (Ab Z Z ?_)
   refine EZ (c52 ..) Z ?_
   refine Ap (Ao ?_)
   refine Ak (res1 Z (Ai Z)) ?_
   refine qcast (hq _ (Own.unpick (Own.drop0 (Own.mono hS2 (Ax (Az (a := [8, 0, 0, 1]) hp)))) hL)) ?_; simp [Rf.check, Rf.ans, h1, h3, h5]
  try simp only [bs] at h5
  refine At (Ag (Aq (AD ?_)))
  refine AV (I := fun ν' mm ee H' => ∃ (w : Int) (r : Int), mm = w.toNat + r.toNat ∧ under (0 :: 1 :: 1 :: 1 :: 1 :: ν) ν' = true ∧ Own β ν' H' (row (0 :: 0 :: ν) 5 [.agg [.int .u64 t.tn, .int .u64 t.vo, .int .u64 t.ep, .int .u64 r, .int .u64 t.tag]] :: rorc q (S.verify key (tkB t) t.tag).2 :: L.eraseIdx k) ∧ (U64 w ∧ U64 r ∧ (andN want t.ri = 0 ↔ subN w.toNat r.toNat)) ∧ ∃ g : Nat → AVal, ee = [g 0, g 1, g 2, g 3, g 4, .int .u64 w, g 6, g 7, .ptr (0 :: 0 :: ν) 0 0, g 9, g 10, g 11, g 12, g 13, g 14, g 15, g 16, g 17, g 18, g 19, g 20, g 21, g 22, g 23, g 24, g 25, g 26, g 27, g 28, g 29, g 30, g 31, g 32, g 33, g 34, g 35, g 36, g 37, g 38, g 39, g 40, g 41, g 42, g 43, g 44, g 45, g 46, g 47, g 48, g 49, g 50, g 51]) ?_ _ _ _ _ ⟨want, t.ri, Z, AI, Own.cast (Own.mono (hS2) (Ar (ν := ν) (a := [8, 0, 0, 1]) (b := [0, 1, 1, 1, 1]) (by decide))) (Z), (⟨hwn, ht.2.2.2.1, andN_sub hwn ht.2.2.2.1⟩), AU Z⟩
  rintro ν1 mm ee H3 ⟨w, r, rfl, hU1, hS3, ⟨hw, hr, hI⟩, g1, rfl⟩
  refine Aq (Ac (Aa Z Z ?_))
  refine Ah Z Z Z Z Z ?_
  refine Aa Z Z (EN (c52 ..) Z ?_)
  refine AT (tt := 32) Z (fun g7_3 => ?_) (fun g7_3 => ?_)
  ·try simp only [bs] at g7_3
   refine An Z (An Z (EN (c52 ..) Z (An Z (Aw Z Z Z ?_))))
   refine EZ (c52 ..) Z ?_
   refine AZ Z Z ?_
   refine At (Ag (AD (Aq (Ac (Aa Z Z ?_)))))
   refine Ah Z Z Z Z (rem_inu64 (by omega)) ?_
   refine Ah Z Z Z Z Z ?_
   refine EN (c52 ..) Z (Aa Z Z ?_)
   refine AT (tt := 40) Z (fun g8_4 => ?_) (fun g8_4 => ?_)
   ·try simp only [bs] at g8_4
    refine Al Z Z Z (EN (c52 ..) Z ?_)
    refine Ad hS3 (k := 0) Z Z Z Z Z (by rfl) ?_
    refine Ah Z Z Z Z (rem_inu64 (by omega)) ?_
    refine Ah Z Z Z Z Z ?_
    refine EN (c52 ..) Z (Aw Z Z Z ?_)
    refine EZ (c52 ..) Z ?_
    refine AH Z (fun h8 => ?_) (fun h8 => ?_)
    ·try simp only [bs] at h8
     refine Ac (Ab Z Z ?_)
     refine EZ (c52 ..) Z ?_
     refine Ap (Ao (AA (AA (Ao ?_))))
     refine Ak (res1 Z (Ai Z)) ?_
     have hne : andN want t.ri ≠ 0 := fun e => (subN_step _ _).1 (hI.1 e) |>.1 ⟨by omega, by omega⟩
     refine qcast (hq _ (Own.unpick (Own.drop0 (Own.mono hS3 (Ax (Bg (a := []) hU1 (Az (a := [0, 1, 1, 1, 1]) hp))))) hL)) ?_; simp [Rf.check, Rf.ans, h1, h3, h5, hne]
    try simp only [bs] at h8
    refine At (Ag (Ac (Aa Z Z ?_)))
    refine Ah Z Z Z Z (quo_inu64 (by omega)) ?_
    refine Ab Z Z ?_
    refine EZ (c52 ..) Z ?_
    refine AC (Al Z Z Z ?_)
    refine Ad hS3 (k := 0) Z Z Z Z Z (by rfl) ?_
    refine Ah Z Z Z Z (quo_inu64 (by omega)) ?_
    refine EN (c52 ..) Z (Al Z Z Z ?_)
    refine Av hS3 (k := 0) Z (AE (p := ν1) (b := [4, 1, 1, 1, 0])) Z Z Z Z ⟨Z, Z, Nat.le_of_ble_eq_true Z⟩ (u2 := .agg [_, _, _, _, _]) Z fun H4 (hS4 : Own _ _ _ (_ :: _ :: L.eraseIdx k)) => ?_
    refine EZ (c52 ..) Z ?_
    refine AJ ?_
    refine ⟨_, ?_, w / 2, r / 2, Z, AM hU1, Own.cast (Own.mono (hS4) (Ar (ν := ν1) (a := [5, 1, 1, 1, 0]) (b := [1]) (by decide))) (Z), ?_, AU Z⟩
    · omega
    refine ⟨by omega, by omega, ?_⟩; rw [hI, subN_step, show (w / 2).toNat = w.toNat / 2 by omega, show (r / 2).toNat = r.toNat / 2 by omega]; exact ⟨fun h => h.2, fun h => ⟨fun e => by omega, h⟩⟩
   try simp only [bs] at g8_4
   refine An Z (EN (c52 ..) Z (An Z (An Z (An Z (EN (c52 ..) Z (Aw Z Z Z ?_))))))
   refine EZ (c52 ..) Z ?_
   refine Bd Z Z ?_
   refine At (Ag (Ac (Aa Z Z ?_)))
   refine Ah Z Z Z Z (quo_inu64 (by omega)) ?_
   refine Ab Z Z ?_
   refine EZ (c52 ..) Z ?_
   refine AC (Al Z Z Z ?_)
   refine Ad hS3 (k := 0) Z Z Z Z Z (by rfl) ?_
   refine Ah Z Z Z Z (quo_inu64 (by omega)) ?_
   refine EN (c52 ..) Z (Al Z Z Z ?_)
   refine Av hS3 (k := 0) Z (AE (p := ν1) (b := [4, 1, 1, 1, 0])) Z Z Z Z ⟨Z, Z, Nat.le_of_ble_eq_true Z⟩ (u2 := .agg [_, _, _, _, _]) Z fun H5 (hS5 : Own _ _ _ (_ :: _ :: L.eraseIdx k)) => ?_
   refine EZ (c52 ..) Z ?_
   refine AJ ?_
   refine ⟨_, ?_, w / 2, r / 2, Z, AM hU1, Own.cast (Own.mono (hS5) (Ar (ν := ν1) (a := [5, 1, 1, 1, 0]) (b := [1]) (by decide))) (Z), ?_, AU Z⟩
   · omega
   refine ⟨by omega, by omega, ?_⟩; rw [hI, subN_step, show (w / 2).toNat = w.toNat / 2 by omega, show (r / 2).toNat = r.toNat / 2 by omega]; exact ⟨fun h => h.2, fun h => ⟨fun e => by omega, h⟩⟩
  try simp only [bs] at g7_3
  refine Al Z Z Z ?_
  refine Ad hS3 (k := 0) Z Z Z Z Z (by rfl) ?_
  refine EN (c52 ..) Z ?_
  refine Ah Z Z Z Z Z ?_
  refine Aw Z Z Z ?_
  refine EZ (c52 ..) Z ?_
  refine AH Z (fun h7 => ?_) (fun h7 => ?_)
  ·try simp only [bs] at h7
   refine At (Ag (AD (Aq (Ac (Aa Z Z ?_)))))
   refine Ah Z Z Z Z (rem_inu64 (by omega)) ?_
   refine Ah Z Z Z Z Z ?_
   refine EN (c52 ..) Z (Aa Z Z ?_)
   refine AT (tt := 40) Z (fun g8_4 => ?_) (fun g8_4 => ?_)
   ·try simp only [bs] at g8_4
    refine Al Z Z Z (EN (c52 ..) Z ?_)
    refine Ad hS3 (k := 0) Z Z Z Z Z (by rfl) ?_
    refine Ah Z Z Z Z (rem_inu64 (by omega)) ?_
    refine Ah Z Z Z Z Z ?_
    refine EN (c52 ..) Z (Aw Z Z Z ?_)
    refine EZ (c52 ..) Z ?_
    refine AH Z (fun h8 => ?_) (fun h8 => ?_)
    ·try simp only [bs] at h8
     refine Ac (Ab Z Z ?_)
     refine EZ (c52 ..) Z ?_
     refine Ap (Ao (AA (AA (Ao ?_))))
     refine Ak (res1 Z (Ai Z)) ?_
     have hne : andN want t.ri ≠ 0 := fun e => (subN_step _ _).1 (hI.1 e) |>.1 ⟨by omega, by omega⟩
     refine qcast (hq _ (Own.unpick (Own.drop0 (Own.mono hS3 (Ax (Bg (a := []) hU1 (Az (a := [0, 1, 1, 1, 1]) hp))))) hL)) ?_; simp [Rf.check, Rf.ans, h1, h3, h5, hne]
    try simp only [bs] at h8
    refine At (Ag (Ac (Aa Z Z ?_)))
    refine Ah Z Z Z Z (quo_inu64 (by omega)) ?_
    refine Ab Z Z ?_
    refine EZ (c52 ..) Z ?_
    refine AC (Al Z Z Z ?_)
    refine Ad hS3 (k := 0) Z Z Z Z Z (by rfl) ?_
    refine Ah Z Z Z Z (quo_inu64 (by omega)) ?_
    refine EN (c52 ..) Z (Al Z Z Z ?_)
    refine Av hS3 (k := 0) Z (AE (p := ν1) (b := [4, 1, 1, 1, 0])) Z Z Z Z ⟨Z, Z, Nat.le_of_ble_eq_true Z⟩ (u2 := .agg [_, _, _, _, _]) Z fun H6 (hS6 : Own _ _ _ (_ :: _ :: L.eraseIdx k)) => ?_
    refine EZ (c52 ..) Z ?_
    refine AJ ?_
    refine ⟨_, ?_, w / 2, r / 2, Z, AM hU1, Own.cast (Own.mono (hS6) (Ar (ν := ν1) (a := [5, 1, 1, 1, 0]) (b := [1]) (by decide))) (Z), ?_, AU Z⟩
    · omega
    refine ⟨by omega, by omega, ?_⟩; rw [hI, subN_step, show (w / 2).toNat = w.toNat / 2 by omega, show (r / 2).toNat = r.toNat / 2 by omega]; exact ⟨fun h => h.2, fun h => ⟨fun e => by omega, h⟩⟩
   try simp only [bs] at g8_4
   refine An Z (EN (c52 ..) Z (An Z (An Z (An Z (EN (c52 ..) Z (Aw Z Z Z ?_))))))
   refine EZ (c52 ..) Z ?_
   refine Bd Z Z ?_
   refine At (Ag (Ac (Aa Z Z ?_)))
   refine Ah Z Z Z Z (quo_inu64 (by omega)) ?_
   refine Ab Z Z ?_
   refine EZ (c52 ..) Z ?_
   refine AC (Al Z Z Z ?_)
   refine Ad hS3 (k := 0) Z Z Z Z Z (by rfl) ?_
   refine Ah Z Z Z Z (quo_inu64 (by omega)) ?_
   refine EN (c52 ..) Z (Al Z Z Z ?_)
   refine Av hS3 (k := 0) Z (AE (p := ν1) (b := [4, 1, 1, 1, 0])) Z Z Z Z ⟨Z, Z, Nat.le_of_ble_eq_true Z⟩ (u2 := .agg [_, _, _, _, _]) Z fun H7 (hS7 : Own _ _ _ (_ :: _ :: L.eraseIdx k)) => ?_
   refine EZ (c52 ..) Z ?_
   refine AJ ?_
   refine ⟨_, ?_, w / 2, r / 2, Z, AM hU1, Own.cast (Own.mono (hS7) (Ar (ν := ν1) (a := [5, 1, 1, 1, 0]) (b := [1]) (by decide))) (Z), ?_, AU Z⟩
   · omega
   refine ⟨by omega, by omega, ?_⟩; rw [hI, subN_step, show (w / 2).toNat = w.toNat / 2 by omega, show (r / 2).toNat = r.toNat / 2 by omega]; exact ⟨fun h => h.2, fun h => ⟨fun e => by omega, h⟩⟩
  try simp only [bs] at h7
  refine AY (AQ (AN (Ag (Ac (Ab Z Z ?_)))))
  refine EZ (c52 ..) Z ?_
  refine Ap ?_
  refine Ak (res1 Z (Ai Z)) ?_
  have hez : andN want t.ri = 0 := hI.2 (by rw [show w.toNat = 0 by omega]; exact subN_zero)
  refine qcast (hq _ (Own.unpick (Own.drop0 (Own.mono hS3 (Ax (Bg (a := []) hU1 (Az (a := [0, 1, 1, 1, 1]) hp))))) hL)) ?_; simp [Rf.check, Rf.ans, h1, h3, h5, hez]
end
/- Layer 13: the reference's leaf. -/
set_option maxRecDepth 100000
section
open Go Go.RowKit WM
variable {ν β ps pos pos' : Nm} {H H1 : Heap} {Q : AVal → Heap → Prop} {L : List Asr} {k : Nat} {S T : Rf} {c : Ck} {q qo : Nm} {key want : Int} {m : Cm}
theorem Own.st_lvS {V S0 T0 U : AVal} {Us : List AVal} {i j : Nat} {s : ByteArray} {qs : List Qu} (hu : Us.length = c.vs.length) (hi : i < c.vs.length) (he : Us[i]'(by omega) = U) (h : Own β ps H (sl U 1 ((c.vs[i].lv.map AVal.str).set j (.str s)) :: lvX i Us c.vs :: sl V 5 (rowsOf Us c.vs) :: sl S0 3 (c.ss.map SE.Se.enc) :: sl T0 3 (qs.map Qu.enc) :: L)) : Own β ps H (stO V S0 T0 ⟨c.vs.set i { c.vs[i] with lv := c.vs[i].lv.set j s }, c.ss, qs⟩ :: L) := by
  subst he
  rw [show (c.vs[i].lv.map AVal.str).set j (.str s) = (c.vs[i].lv.set j s).map AVal.str from (List.map_set).symm] at h
  have h1 := Own.lv_put (y := { c.vs[i] with lv := c.vs[i].lv.set j s }) h hu hi
  rw [← rows_lv (l := c.vs[i].lv.set j s) hu hi] at h1
  exact Own.stM (c := ⟨c.vs.set i { c.vs[i] with lv := c.vs[i].lv.set j s }, c.ss, qs⟩) (Own.rot (A := [_]) h1) (by rw [hu]; simp)
theorem Own.st_lvK {V S0 T0 U : AVal} {Us : List AVal} {i : Nat} {qs : List Qu} (hu : Us.length = c.vs.length) (hi : i < c.vs.length) (he : Us[i]'(by omega) = U) (h : Own β ps H (sl U 1 (c.vs[i].lv.map AVal.str) :: lvX i Us c.vs :: sl V 5 (rowsOf Us c.vs) :: sl S0 3 (c.ss.map SE.Se.enc) :: sl T0 3 (qs.map Qu.enc) :: L)) : Own β ps H (stO V S0 T0 ⟨c.vs, c.ss, qs⟩ :: L) := by
  subst he
  have h1 := Own.lv_put (y := c.vs[i]) h hu hi
  rw [List.set_getElem_self] at h1
  exact Own.stM (c := ⟨c.vs, c.ss, qs⟩) (Own.rot (A := [_]) h1) hu
theorem Own.dr4 {X1 X2 B1 B2 B3 B4 : Asr} (h : Own β ps H (X1 :: X2 :: B1 :: B2 :: B3 :: B4 :: L)) : Own β ps H (X1 :: X2 :: L) := Own.drop (Own.drop (Own.drop (Own.drop h (k := 2) Z) (k := 2) Z) (k := 2) Z) (k := 2) Z
theorem Own.dr5 {X0 X1 X2 X3 X4 X5 B1 B2 B3 B4 : Asr} (h : Own β ps H (X0 :: X1 :: X2 :: B1 :: B2 :: B3 :: B4 :: X3 :: X4 :: X5 :: L)) : Own β ps H (X1 :: X2 :: X3 :: X4 :: X0 :: L) :=
  Own.rot (A := [X1, X2, X3, X4]) (show Own β ps H (X0 :: ([X1, X2, X3, X4] ++ L)) from Own.drop (Own.drop (Own.drop (Own.drop (Own.drop h (k := 3) Z) (k := 3) Z) (k := 3) Z) (k := 3) Z) (k := 5) Z)
theorem rleaf_3 {V S0 T0 : AVal} (hg : c.good) (hm : m.fit) (hd : m.d = 3) (hS : Own β ps H (stO V S0 T0 c :: rorc qo S :: L)) (hle : le ps ν) (hβ : under β ν = true) (hp : before ν pos') {N : Nat} (hN : S.le N) (hn : N ≤ 4294960000)
    (hq : ∀ H1 V1 S1 T1, Own β pos' H1 (stO V1 S1 T1 (leafR S key c m 2 putR).1.c :: rorc qo (leafR S key c m 2 putR).2 :: L) → Q (.tup [.agg [V1, S1, T1], .int .i64 (leafR S key c m 2 putR).1.e, .str (leafR S key c m 2 putR).1.an]) H1) : CW cfg ν 59 [.ptr qo 0 0, .int .u64 key, .agg [V, S0, T0], m.enc] H Q := by
  obtain ⟨Us, hu, hS⟩ := hS.stU
  have hvl := hg.vl
  have hql := hg.ql
  have hse := hm.se
  have hrl := rows_lenE (vs := c.vs) hu
  have hzl : (c.vs.zip Us).length = c.vs.length := by rw [List.length_zip]; omega
  refine AX g59 F59 Z ?_
  replace hS := Own.mono hS hle
  refine Ac (AR hS (AE (p := ν) (b := [0, 0])) (Af [0, 0] hβ) Z Z Z ⟨Z, Z⟩ fun H1 (hS1 : Own _ _ _ (_ :: _ :: _ :: _ :: _ :: _ :: L)) => AR hS1 le_refl (Af [1, 0] hβ) Z Z Z ⟨Z, Z⟩ fun H2 (hS2 : Own _ _ _ (_ :: _ :: _ :: _ :: _ :: _ :: _ :: L)) => AG hS2 le_refl (Af [2, 0] hβ) Z Z Z Z fun H3 (hS3 : Own _ _ _ (_ :: _ :: _ :: _ :: _ :: _ :: _ :: _ :: L)) => EN (c126 ..) Z (Ab Z Z (Ab Z Z (EZ (c126 ..) Z (Ac (Ad hS3 (k := 2) Z Z Z Z Z (Aj Z Z Z) (Al Z Z Z (Ad hS3 (k := 1) Z Z Z Z Z Z (EN (c126 ..) Z (AB Z Z (rk_find (c := c) (Own.st_fzK hS3 (a := 3) (b := 4) (d := 5) (e := 6) Z Z Z Z hu) (by omega) _ ?_) ))))))))))
  refine Ab Z Z (EZ (c126 ..) Z (Aq (Ac ?_)))
  generalize hat : atP m.vo c.vs = at0
  refine Aa Z Z (Ah Z Z Z Z Z (EZ (c126 ..) Z (AH Z (fun h2 => ?_) (fun h2 => ?_))))
  ·try simp only [bs] at h2
   refine Ac (Ad hS3 (k := 2) Z Z Z Z Z (Aj Z Z Z) (Av hS3 (k := 0) Z (Ar (ν := ν) (a := [3, 0]) (b := [1, 0, 1, 0, 1, 1]) (by decide)) Z Z Z Z ⟨Z, Z, Nat.le_of_ble_eq_true Z⟩ (u2 := .agg [_, _, _]) Z fun H4 (hS4 : Own _ _ _ (_ :: _ :: _ :: _ :: _ :: _ :: _ :: _ :: L)) => Ab Z Z (EN (c126 ..) Z (Ab Z Z (EZ (c126 ..) Z (Ap (Ao (Ak (res3 Z (AP hS4 (k := 0) Z Z Z Z (Aj Z Z Z)) (Ai Z) (Ai Z)) ?_))))))))
   rw [leafR_err (by unfold leafE; rw [if_pos (by omega)]; exact (by decide : (132 : Int) ≠ 0)), show leafE S key c m 2 = (132, S) by unfold leafE; rw [if_pos (by omega)]] at hq; exact hq _ _ _ _ (Own.stM (Own.drop0 (Own.drop0 (Own.drop0 (Own.mono hS4 (Ax (Az (a := [2, 0, 1, 0, 1, 1]) hp)))))) hu)
  try simp only [bs] at h2
  refine At (Ag (Ac ?_))
  obtain ⟨i, hi, rfl, hvo⟩ := atP_some hat h2
  have hrow := rows_get (Us := Us) hu hi
  rw [show c.vs[i].row (Us[i]'(by omega)) = .agg [.int .u64 c.vs[i].vo, .int .u64 c.vs[i].tn, .int .u64 c.vs[i].ep, .int .i64 c.vs[i].de, Us[i]'(by omega)] from rfl] at hrow
  have hvg := hg.vg c.vs[i] (List.getElem_mem hi)
  have hl16 := hvg.len
  have hlE := leafE_at (S := S) (key := key) (want := 2) hat hi
  refine Al Z Z Z (Ad hS3 (k := 2) Z Z Z Z Z Z (Aa Z Z (EN (c126 ..) Z (Bi hS3 (k := 3) Z Z Z Z Z Z Z Z Z (by assumption) fun q1 ys1 hO1 hq1 ht1 hy1 hu1 => ?_))))
  subst hO1
  refine Bo Z Z hq1 hy1 Z (Aj Z Z Z) (AG hS3 (Ar (ν := ν) (a := [3, 0]) (b := [5, 0, 1, 1, 1]) (by decide)) (Af [5, 0, 1, 1, 1] hβ) Z Z Z Z fun H5 (hS5 : Own _ _ _ (_ :: _ :: _ :: _ :: _ :: _ :: _ :: _ :: _ :: L)) => EN (c126 ..) Z (Av hS5 (k := 0) Z le_refl Z Z Z Z ⟨Z, Z, Nat.le_of_ble_eq_true Z⟩ (u2 := .agg [_, _, _, _, _]) Z fun H6 (hS6 : Own _ _ _ (_ :: _ :: _ :: _ :: _ :: _ :: _ :: _ :: _ :: L)) => EZ (c126 ..) Z (Ac (Ab Z Z (EZ (c126 ..) Z (Aq (Ac (Al Z Z Z (Ad hS6 (k := 2) Z Z Z Z Z Z ?_)))))))))
  rw [hd]
  refine Ah Z Z Z Z Z (EZ (c126 ..) Z (Bd Z Z (At (Ag (Ac (Aa Z Z (Aa Z Z (Al Z Z Z (EN (c126 ..) Z (Ad hS6 (k := 2) Z Z Z Z Z Z (Al Z Z Z (Ad hS6 (k := 2) Z Z Z Z Z Z (EN (c126 ..) Z (Al Z Z Z (Ad hS6 (k := 0) Z Z Z Z Z Z (Aa Z Z (EN (c126 ..) Z (AB Z Z (rcheckW hS6 (k := 8) Z (Ar (ν := ν) (a := [7, 0, 1, 1, 1]) (b := [9, 0, 1, 1, 1, 1, 1, 1]) (by decide)) (Af [9, 0, 1, 1, 1, 1, 1, 1] hβ) (Au (ν := ν) (a := [9, 0, 1, 1, 1, 1, 1, 1]) (b := [10, 0, 1, 1, 1, 1, 1, 1]) (by decide)) hN hn key m.t hm.t m.vo c.vs[i].ep _ (by decide) fun H7 hS7 => ?_) ))))))))))))))))))
  replace hS7 : Own _ _ _ (_ :: _ :: _ :: _ :: _ :: _ :: _ :: _ :: _ :: L) := hS7
  refine Ab Z Z (EZ (c126 ..) Z (Aq (Ac (Aa Z Z (Ah Z Z Z Z Z (EZ (c126 ..) Z (AH Z (fun h9 => ?_) (fun h9 => ?_))))))))
  ·try simp only [bs] at h9
   refine Ac ?_
   rw [leafR_err (by rw [hlE, if_pos h9]; exact h9), hlE, if_pos h9] at hq
   refine Ad hS7 (k := 3) Z Z Z Z Z (Aj Z Z Z) (Aa Z Z (Av hS7 (k := 1) Z (Ar (ν := ν) (a := [10, 0, 1, 1, 1, 1, 1, 1]) (b := [2, 0, 1, 0, 1, 1, 1, 1, 1, 1, 1]) (by decide)) Z Z Z Z ⟨Z, Z, Nat.le_of_ble_eq_true Z⟩ (u2 := .agg [_, _, _]) Z fun H8 (hS8 : Own _ _ _ (_ :: _ :: _ :: _ :: _ :: _ :: _ :: _ :: _ :: L)) => EN (c126 ..) Z (Ab Z Z (Ab Z Z (EZ (c126 ..) Z (Ap (Ao (Ak (res3 Z (AP hS8 (k := 1) Z Z Z Z (Aj Z Z Z)) (Ai Z) (Ai Z)) ?_))))))))
   exact hq _ _ _ _ (Own.stM (Own.drop0 (Own.drop0 (Own.drop0 (Own.drop0 (Own.mono hS8 (Ax (Az (a := [3, 0, 1, 0, 1, 1, 1, 1, 1, 1, 1]) hp))))))) hu)
  try simp only [bs] at h9
  refine At (Ag (Aq (Ac ?_)))
  replace hS7 := Own.lv_at (Own.tor (A := [_, _, _, _, _]) hS7) hu hi
  obtain ⟨bU, hbU⟩ := Own.slcOf hS7 (k := 0) Z (by rw [List.length_map, hvg.ll]; exact (pow4 hvg.de).1)
  rw [hbU] at hS7 hrow
  refine Al Z Z Z (Ad hS7 (k := 4) Z Z Z Z Z Z (Al Z Z Z (EN (c126 ..) Z (Ad hS7 (k := 2) Z Z Z Z Z Z (BC hS7 (k := 0) Z Z Z Z Z Z (List.length_map _) (Bc Z Z (Bm Z Z Z (IntWalk.u64_in _ (by omega))) (EN (c126 ..) Z (Ah Z Z Z Z Z (EZ (c126 ..) Z (AH Z (fun h11 => ?_) (fun h11 => ?_)))))))))))
  ·try simp only [bs] at h11
   refine Ac ?_
   have hE : leafE S key c m 2 = (133, (S.check key m.t m.vo c.vs[i].ep 2).2) := by rw [hlE, if_neg (fun h => h h9), if_pos (by omega)]
   rw [leafR_err (by rw [hE]; exact (by decide : (133 : Int) ≠ 0)), hE] at hq
   refine Ad hS7 (k := 5) Z Z Z Z Z (Aj Z Z Z) (Av hS7 (k := 3) Z (Ar (ν := ν) (a := [10, 0, 1, 1, 1, 1, 1, 1]) (b := [1, 0, 1, 0, 1, 1, 1, 1, 1, 1, 1, 1]) (by decide)) Z Z Z Z ⟨Z, Z, Nat.le_of_ble_eq_true Z⟩ (u2 := .agg [_, _, _]) Z fun H9 (hS9 : Own _ _ _ (_ :: _ :: _ :: _ :: _ :: _ :: _ :: _ :: _ :: _ :: L)) => Ab Z Z (EN (c126 ..) Z (Ab Z Z (EZ (c126 ..) Z (Ap (Ao (Ak (res3 Z (AP hS9 (k := 3) Z Z Z Z (Aj Z Z Z)) (Ai Z) (Ai Z)) ?_)))))))
   exact hq _ _ _ _ (Own.st_lvK (qs := c.qs) hu hi hbU (Own.drop (Own.drop (Own.drop (Own.drop (Own.mono hS9 (Ax (Az (a := [2, 0, 1, 0, 1, 1, 1, 1, 1, 1, 1, 1]) hp))) (k := 2) Z) (k := 2) Z) (k := 2) Z) (k := 2) Z))
  try simp only [bs] at h11
  refine At (Ag (Ac ?_))
  have hE : leafE S key c m 2 = (0, (S.check key m.t m.vo c.vs[i].ep 2).2) := by rw [hlE, if_neg (fun h => h h9), if_neg (by omega)]
  rw [leafR_ok (by rw [hE]), hE] at hq
  have hold := old_at (m := m) hat hi (by omega)
  have hatc := at_eq (m := m) hat hi
  refine Al Z Z Z (Ad hS7 (k := 4) Z Z Z Z Z Z (Bc Z Z (Bm Z Z Z (IntWalk.i64_in _ (by omega))) (EN (c126 ..) Z (Ab Z Z (EZ (c126 ..) Z (Ac ?_))))))
  have hlt2 : m.se.toNat < c.vs[i].lv.length := by omega
  refine Al Z Z Z (Ad hS7 (k := 2) Z Z Z Z Z Z (Aa Z Z (EN (c126 ..) Z (Bi hS7 (k := 0) Z Z Z Z Z Z Z Z ((Int.toNat_of_nonneg (by omega)).symm) (Ba (by assumption)) fun q2 ys2 hO2 hq2 ht2 hy2 hu2 => ?_))))
  obtain rfl : bU = q2 := (AVal.slc.inj hO2).1
  refine Bo Z Z hq2 hy2 Z Z (Ab Z Z (EZ (c126 ..) Z (Aq (Ac (Al Z Z Z (Ad hS7 (k := 4) Z Z Z Z Z Z ?_))))))
  rw [hd]
  refine Ah Z Z Z Z Z (EZ (c126 ..) Z (Bd Z Z (At (Ag (Aq (Ac (Al Z Z Z (Ad hS7 (k := 4) Z Z Z Z Z Z ?_))))))))
  rw [hd]
  refine Ah Z Z Z Z Z (EZ (c126 ..) Z (AZ Z Z (Aq (Ac (Al Z Z Z (Ad hS7 (k := 4) Z Z Z Z Z Z (By Z Z Z (EN (c126 ..) Z (Ah Z Z Z Z Z (Aa Z Z (AT (tt := 78) Z (fun g18_5 => ?_) (fun g18_5 => ?_))))))))))))
  ·try simp only [bs] at g18_5
   refine EN (c126 ..) Z (An Z (An Z (An Z (EN (c126 ..) Z (Aw Z Z Z (EZ (c126 ..) Z (AZ Z Z (Ac (Ad hS7 (k := 5) Z Z Z Z Z (Aj Z Z Z) (Av hS7 (k := 3) Z (Ar (ν := ν) (a := [10, 0, 1, 1, 1, 1, 1, 1]) (b := [1, 0, 1, 0, 1, 0, 1, 1, 1, 1, 1, 1, 1, 1, 1, 1, 1, 1]) (by decide)) Z Z Z Z ⟨Z, Z, Nat.le_of_ble_eq_true Z⟩ (u2 := .agg [_, _, _]) Z fun H10 (hS10 : Own _ _ _ (_ :: _ :: _ :: _ :: _ :: _ :: _ :: _ :: _ :: _ :: L)) => Ab Z Z (EN (c126 ..) Z (Ab Z Z (EZ (c126 ..) Z (Ap (Ao (Ao (Ak (res3 Z (AP hS10 (k := 3) Z Z Z Z (Aj Z Z Z)) (Ai Z) (Ai Z)) ?_)))))))))))))))))
   rw [putR, if_pos (.inl (by omega))] at hq; exact hq _ _ _ _ (Own.st_lvK (qs := c.qs) hu hi hbU (Own.dr4 (Own.mono hS10 (Ax (Az (a := [2, 0, 1, 0, 1, 0, 1, 1, 1, 1, 1, 1, 1, 1, 1, 1, 1, 1]) hp)))))
  try simp only [bs] at g18_5
  refine EN (c126 ..) Z (Al Z Z Z (Ad hS7 (k := 4) Z Z Z Z Z Z (Ah Z Z Z Z Z (EN (c126 ..) Z (Aw Z Z Z (EZ (c126 ..) Z (AH Z (fun h18 => ?_) (fun h18 => ?_))))))))
  ·try simp only [bs] at h18
   refine Ac (Ad hS7 (k := 5) Z Z Z Z Z (Aj Z Z Z) (Av hS7 (k := 3) Z (Ar (ν := ν) (a := [10, 0, 1, 1, 1, 1, 1, 1]) (b := [1, 0, 1, 0, 1, 0, 1, 1, 1, 1, 1, 1, 1, 1, 1, 1, 1, 1]) (by decide)) Z Z Z Z ⟨Z, Z, Nat.le_of_ble_eq_true Z⟩ (u2 := .agg [_, _, _]) Z fun H11 (hS11 : Own _ _ _ (_ :: _ :: _ :: _ :: _ :: _ :: _ :: _ :: _ :: _ :: L)) => Ab Z Z (EN (c126 ..) Z (Ab Z Z (EZ (c126 ..) Z (Ap (Ao (Ao (Ak (res3 Z (AP hS11 (k := 3) Z Z Z Z (Aj Z Z Z)) (Ai Z) (Ai Z)) ?_)))))))))
   rw [putR, if_pos (.inr (by assumption))] at hq; exact hq _ _ _ _ (Own.st_lvK (qs := c.qs) hu hi hbU (Own.dr4 (Own.mono hS11 (Ax (Az (a := [2, 0, 1, 0, 1, 0, 1, 1, 1, 1, 1, 1, 1, 1, 1, 1, 1, 1]) hp)))))
  try simp only [bs] at h18
  refine At (Ag (Aq (Ac (Aa Z Z (Ah Z Z Z Z Z (EZ (c126 ..) Z (AH Z (fun h20 => ?_) (fun h20 => ?_))))))))
  ·try simp only [bs] at h20
   refine Ac (Al Z Z Z (Ad hS7 (k := 5) Z Z Z Z Z Z (Al Z Z Z (EN (c126 ..) Z (Ad hS7 (k := 2) Z Z Z Z Z Z (AB Z Z (rTakeK hS7 (k := 8) Z (Ar (ν := ν) (a := [10, 0, 1, 1, 1, 1, 1, 1]) (b := [4, 0, 1, 0, 1, 1, 0, 1, 1, 1, 1, 1, 1, 1, 1, 1, 1, 1, 1]) (by decide)) (Af [4, 0, 1, 0, 1, 1, 0, 1, 1, 1, 1, 1, 1, 1, 1, 1, 1, 1, 1] hβ) (Au (ν := ν) (a := [4, 0, 1, 0, 1, 1, 0, 1, 1, 1, 1, 1, 1, 1, 1, 1, 1, 1, 1]) (b := [5, 0, 1, 0, 1, 1, 0, 1, 1, 1, 1, 1, 1, 1, 1, 1, 1, 1, 1]) (by decide)) (by omega) hg.qf _ _ (by omega) fun H12 O1 hS12 => ?_) ))))))
   replace hS12 : Own _ _ _ (_ :: _ :: _ :: _ :: _ :: _ :: _ :: _ :: _ :: _ :: _ :: L) := hS12
   refine Aa Z Z (EN (c126 ..) Z (AK Z Z Z (AK Z Z Z (Ab Z Z (EN (c126 ..) Z (Ab Z Z (EZ (c126 ..) Z (Aq (Ac (Aa Z Z (Ah Z Z Z Z Z (EZ (c126 ..) Z (AH Z (fun h22 => ?_) (fun h22 => ?_))))))))))))))
   ·try simp only [bs] at h22
    refine Ac (Ad hS12 (k := 6) Z Z Z Z Z (Aj Z Z Z) (Aa Z Z (Av hS12 (k := 4) Z (Ar (ν := ν) (a := [5, 0, 1, 0, 1, 1, 0, 1, 1, 1, 1, 1, 1, 1, 1, 1, 1, 1, 1]) (b := [2, 0, 1, 0, 1, 1, 0, 1, 1, 0, 1, 1, 1, 1, 1, 1, 1, 1, 1, 1, 1, 1]) (by decide)) Z Z Z Z ⟨Z, Z, Nat.le_of_ble_eq_true Z⟩ (u2 := .agg [_, _, _]) Z fun H13 (hS13 : Own _ _ _ (_ :: _ :: _ :: _ :: _ :: _ :: _ :: _ :: _ :: _ :: _ :: L)) => EN (c126 ..) Z (Ab Z Z (Ab Z Z (EZ (c126 ..) Z (Ap (Ao (Ao (Ao (Ak (res3 Z (AP hS13 (k := 4) Z Z Z Z (Aj Z Z Z)) (Ai Z) (Ai Z)) ?_)))))))))))
    rw [putR, if_neg (by rintro (h | h); omega; contradiction), hold, hatc, if_pos h20, if_pos h22] at hq; exact hq _ _ _ _ (Own.st_lvK (qs := c.qs) hu hi hbU (Own.dr4 (Own.drop0 (Own.mono hS13 (Ax (Az (a := [3, 0, 1, 0, 1, 1, 0, 1, 1, 0, 1, 1, 1, 1, 1, 1, 1, 1, 1, 1, 1, 1]) hp))))))
   try simp only [bs] at h22
   refine At (Ag (AC (Aa Z Z (Al Z Z Z (Bs hS12 (k := 6) Z (Ar (ν := ν) (a := [5, 0, 1, 0, 1, 1, 0, 1, 1, 1, 1, 1, 1, 1, 1, 1, 1, 1, 1]) (b := [2, 1, 1, 1, 0, 1, 1, 0, 1, 1, 1, 1, 1, 1, 1, 1, 1, 1, 1, 1]) (by decide)) Z Z Z (hS12.one (k := 0) Z) Z Z (Nat.le_of_ble_eq_true Z) (u2 := .agg [_, _, _]) Z fun H14 (hS14 : Own _ _ _ (_ :: _ :: _ :: _ :: _ :: _ :: _ :: _ :: _ :: _ :: _ :: L)) => EZ (c126 ..) Z (Ag (Ac (Al Z Z Z (Ad hS14 (k := 3) Z Z Z Z Z Z (Aa Z Z (EN (c126 ..) Z (Al Z Z Z (Ad hS14 (k := 5) Z Z Z Z Z Z (Bi hS14 (k := 1) Z Z Z Z Z Z Z Z ((Int.toNat_of_nonneg (by omega)).symm) (by assumption) fun q3 ys3 hO3 hq3 ht3 hy3 hu3 => ?_))))))))))))))
   obtain rfl : bU = q3 := (AVal.slc.inj hO3).1
   refine EN (c126 ..) Z (Bv hS14 (k := 1) Z (Ar (ν := ν) (a := [3, 1, 1, 1, 0, 1, 1, 0, 1, 1, 1, 1, 1, 1, 1, 1, 1, 1, 1, 1]) (b := [6, 0, 1, 1, 1, 0, 1, 1, 1, 1, 1, 1, 1, 1, 1, 1, 1, 1]) (by decide)) Z Z Z Z hu3 ⟨Z, Z, Nat.le_of_ble_eq_true Z⟩ (u2 := _) Z fun H15 (hS15 : Own _ _ _ (_ :: _ :: _ :: _ :: _ :: _ :: _ :: _ :: _ :: _ :: _ :: L)) => EZ (c126 ..) Z (Ac (Ad hS15 (k := 6) Z Z Z Z Z (Aj Z Z Z) (Av hS15 (k := 4) Z (Ar (ν := ν) (a := [7, 0, 1, 1, 1, 0, 1, 1, 1, 1, 1, 1, 1, 1, 1, 1, 1, 1]) (b := [1, 0, 1, 1, 1, 1, 0, 1, 1, 1, 1, 1, 1, 1, 1, 1, 1, 1, 1]) (by decide)) Z Z Z Z ⟨Z, Z, Nat.le_of_ble_eq_true Z⟩ (u2 := .agg [_, _, _]) Z fun H16 (hS16 : Own _ _ _ (_ :: _ :: _ :: _ :: _ :: _ :: _ :: _ :: _ :: _ :: _ :: L)) => Ab Z Z (EN (c126 ..) Z (Ab Z Z (EZ (c126 ..) Z (Ap (Ao (Ak (res3 Z (AP hS16 (k := 4) Z Z Z Z (Aj Z Z Z)) (Ai Z) (Ai Z)) ?_))))))))))
   rw [putR, if_neg (by rintro (h | h); omega; contradiction), hold, hatc, if_pos h20, if_neg (fun h => h h22), setL_at hat hi] at hq; exact hq _ _ _ _ (Own.st_lvS hu hi hbU (Own.dr5 (Own.mono hS16 (Ax (Az (a := [2, 0, 1, 1, 1, 1, 0, 1, 1, 1, 1, 1, 1, 1, 1, 1, 1, 1, 1]) hp)))))
  try simp only [bs] at h20
  refine At (Ag (Ac (Al Z Z Z (Ad hS7 (k := 2) Z Z Z Z Z Z (Aa Z Z (EN (c126 ..) Z (Al Z Z Z (Ad hS7 (k := 4) Z Z Z Z Z Z (Bi hS7 (k := 0) Z Z Z Z Z Z Z Z ((Int.toNat_of_nonneg (by omega)).symm) (by assumption) fun q4 ys4 hO4 hq4 ht4 hy4 hu4 => ?_)))))))))
  obtain rfl : bU = q4 := (AVal.slc.inj hO4).1
  refine EN (c126 ..) Z (Bv hS7 (k := 0) Z (Ar (ν := ν) (a := [10, 0, 1, 1, 1, 1, 1, 1]) (b := [6, 0, 1, 1, 1, 0, 1, 1, 1, 1, 1, 1, 1, 1, 1, 1, 1, 1]) (by decide)) Z Z Z Z hu4 ⟨Z, Z, Nat.le_of_ble_eq_true Z⟩ (u2 := _) Z fun H17 (hS17 : Own _ _ _ (_ :: _ :: _ :: _ :: _ :: _ :: _ :: _ :: _ :: _ :: L)) => EZ (c126 ..) Z (Ac (Ad hS17 (k := 5) Z Z Z Z Z (Aj Z Z Z) (Av hS17 (k := 3) Z (Ar (ν := ν) (a := [7, 0, 1, 1, 1, 0, 1, 1, 1, 1, 1, 1, 1, 1, 1, 1, 1, 1]) (b := [1, 0, 1, 1, 1, 1, 0, 1, 1, 1, 1, 1, 1, 1, 1, 1, 1, 1, 1]) (by decide)) Z Z Z Z ⟨Z, Z, Nat.le_of_ble_eq_true Z⟩ (u2 := .agg [_, _, _]) Z fun H18 (hS18 : Own _ _ _ (_ :: _ :: _ :: _ :: _ :: _ :: _ :: _ :: _ :: _ :: L)) => Ab Z Z (EN (c126 ..) Z (Ab Z Z (EZ (c126 ..) Z (Ap (Ao (Ak (res3 Z (AP hS18 (k := 3) Z Z Z Z (Aj Z Z Z)) (Ai Z) (Ai Z)) ?_))))))))))
  rw [putR, if_neg (by rintro (h | h); omega; contradiction), hold, if_neg h20, setL_at hat hi] at hq; exact hq _ _ _ _ (Own.st_lvS (qs := c.qs) hu hi hbU (Own.dr4 (Own.mono hS18 (Ax (Az (a := [2, 0, 1, 1, 1, 1, 0, 1, 1, 1, 1, 1, 1, 1, 1, 1, 1, 1, 1]) hp)))))
theorem rleaf_4 {V S0 T0 : AVal} (hg : c.good) (hm : m.fit) (hd : m.d = 4) (hS : Own β ps H (stO V S0 T0 c :: rorc qo S :: L)) (hle : le ps ν) (hβ : under β ν = true) (hp : before ν pos') {N : Nat} (hN : S.le N) (hn : N ≤ 4294960000)
    (hq : ∀ H1 V1 S1 T1, Own β pos' H1 (stO V1 S1 T1 (leafR S key c m 1 getR).1.c :: rorc qo (leafR S key c m 1 getR).2 :: L) → Q (.tup [.agg [V1, S1, T1], .int .i64 (leafR S key c m 1 getR).1.e, .str (leafR S key c m 1 getR).1.an]) H1) : CW cfg ν 59 [.ptr qo 0 0, .int .u64 key, .agg [V, S0, T0], m.enc] H Q := by
  obtain ⟨Us, hu, hS⟩ := hS.stU
  have hvl := hg.vl
  have hql := hg.ql
  have hse := hm.se
  have hrl := rows_lenE (vs := c.vs) hu
  have hzl : (c.vs.zip Us).length = c.vs.length := by rw [List.length_zip]; omega
  refine AX g59 F59 Z ?_
  replace hS := Own.mono hS hle
  refine Ac (AR hS (AE (p := ν) (b := [0, 0])) (Af [0, 0] hβ) Z Z Z ⟨Z, Z⟩ fun H1 (hS1 : Own _ _ _ (_ :: _ :: _ :: _ :: _ :: _ :: L)) => AR hS1 le_refl (Af [1, 0] hβ) Z Z Z ⟨Z, Z⟩ fun H2 (hS2 : Own _ _ _ (_ :: _ :: _ :: _ :: _ :: _ :: _ :: L)) => AG hS2 le_refl (Af [2, 0] hβ) Z Z Z Z fun H3 (hS3 : Own _ _ _ (_ :: _ :: _ :: _ :: _ :: _ :: _ :: _ :: L)) => EN (c126 ..) Z (Ab Z Z (Ab Z Z (EZ (c126 ..) Z (Ac (Ad hS3 (k := 2) Z Z Z Z Z (Aj Z Z Z) (Al Z Z Z (Ad hS3 (k := 1) Z Z Z Z Z Z (EN (c126 ..) Z (AB Z Z (rk_find (c := c) (Own.st_fzK hS3 (a := 3) (b := 4) (d := 5) (e := 6) Z Z Z Z hu) (by omega) _ ?_) ))))))))))
  refine Ab Z Z (EZ (c126 ..) Z (Aq (Ac ?_)))
  generalize hat : atP m.vo c.vs = at0
  refine Aa Z Z (Ah Z Z Z Z Z (EZ (c126 ..) Z (AH Z (fun h2 => ?_) (fun h2 => ?_))))
  ·try simp only [bs] at h2
   refine Ac (Ad hS3 (k := 2) Z Z Z Z Z (Aj Z Z Z) (Av hS3 (k := 0) Z (Ar (ν := ν) (a := [3, 0]) (b := [1, 0, 1, 0, 1, 1]) (by decide)) Z Z Z Z ⟨Z, Z, Nat.le_of_ble_eq_true Z⟩ (u2 := .agg [_, _, _]) Z fun H4 (hS4 : Own _ _ _ (_ :: _ :: _ :: _ :: _ :: _ :: _ :: _ :: L)) => Ab Z Z (EN (c126 ..) Z (Ab Z Z (EZ (c126 ..) Z (Ap (Ao (Ak (res3 Z (AP hS4 (k := 0) Z Z Z Z (Aj Z Z Z)) (Ai Z) (Ai Z)) ?_))))))))
   rw [leafR_err (by unfold leafE; rw [if_pos (by omega)]; exact (by decide : (132 : Int) ≠ 0)), show leafE S key c m 1 = (132, S) by unfold leafE; rw [if_pos (by omega)]] at hq; exact hq _ _ _ _ (Own.stM (Own.drop0 (Own.drop0 (Own.drop0 (Own.mono hS4 (Ax (Az (a := [2, 0, 1, 0, 1, 1]) hp)))))) hu)
  try simp only [bs] at h2
  refine At (Ag (Ac ?_))
  obtain ⟨i, hi, rfl, hvo⟩ := atP_some hat h2
  have hrow := rows_get (Us := Us) hu hi
  rw [show c.vs[i].row (Us[i]'(by omega)) = .agg [.int .u64 c.vs[i].vo, .int .u64 c.vs[i].tn, .int .u64 c.vs[i].ep, .int .i64 c.vs[i].de, Us[i]'(by omega)] from rfl] at hrow
  have hvg := hg.vg c.vs[i] (List.getElem_mem hi)
  have hl16 := hvg.len
  have hlE := leafE_at (S := S) (key := key) (want := 1) hat hi
  refine Al Z Z Z (Ad hS3 (k := 2) Z Z Z Z Z Z (Aa Z Z (EN (c126 ..) Z (Bi hS3 (k := 3) Z Z Z Z Z Z Z Z Z (by assumption) fun q1 ys1 hO1 hq1 ht1 hy1 hu1 => ?_))))
  subst hO1
  refine Bo Z Z hq1 hy1 Z (Aj Z Z Z) (AG hS3 (Ar (ν := ν) (a := [3, 0]) (b := [5, 0, 1, 1, 1]) (by decide)) (Af [5, 0, 1, 1, 1] hβ) Z Z Z Z fun H5 (hS5 : Own _ _ _ (_ :: _ :: _ :: _ :: _ :: _ :: _ :: _ :: _ :: L)) => EN (c126 ..) Z (Av hS5 (k := 0) Z le_refl Z Z Z Z ⟨Z, Z, Nat.le_of_ble_eq_true Z⟩ (u2 := .agg [_, _, _, _, _]) Z fun H6 (hS6 : Own _ _ _ (_ :: _ :: _ :: _ :: _ :: _ :: _ :: _ :: _ :: L)) => EZ (c126 ..) Z (Ac (Ab Z Z (EZ (c126 ..) Z (Aq (Ac (Al Z Z Z (Ad hS6 (k := 2) Z Z Z Z Z Z ?_)))))))))
  rw [hd]
  refine Ah Z Z Z Z Z (EZ (c126 ..) Z (AZ Z Z (AC (Ab Z Z (EZ (c126 ..) Z (Ag (Ac (Aa Z Z (Aa Z Z (Al Z Z Z (EN (c126 ..) Z (Ad hS6 (k := 2) Z Z Z Z Z Z (Al Z Z Z (Ad hS6 (k := 2) Z Z Z Z Z Z (EN (c126 ..) Z (Al Z Z Z (Ad hS6 (k := 0) Z Z Z Z Z Z (Aa Z Z (EN (c126 ..) Z (AB Z Z (rcheckW hS6 (k := 8) Z (Ar (ν := ν) (a := [7, 0, 1, 1, 1]) (b := [9, 0, 1, 1, 1, 1, 1, 1]) (by decide)) (Af [9, 0, 1, 1, 1, 1, 1, 1] hβ) (Au (ν := ν) (a := [9, 0, 1, 1, 1, 1, 1, 1]) (b := [10, 0, 1, 1, 1, 1, 1, 1]) (by decide)) hN hn key m.t hm.t m.vo c.vs[i].ep _ (by decide) fun H7 hS7 => ?_) ))))))))))))))))))))
  replace hS7 : Own _ _ _ (_ :: _ :: _ :: _ :: _ :: _ :: _ :: _ :: _ :: L) := hS7
  refine Ab Z Z (EZ (c126 ..) Z (Aq (Ac (Aa Z Z (Ah Z Z Z Z Z (EZ (c126 ..) Z (AH Z (fun h9 => ?_) (fun h9 => ?_))))))))
  ·try simp only [bs] at h9
   refine Ac ?_
   rw [leafR_err (by rw [hlE, if_pos h9]; exact h9), hlE, if_pos h9] at hq
   refine Ad hS7 (k := 3) Z Z Z Z Z (Aj Z Z Z) (Aa Z Z (Av hS7 (k := 1) Z (Ar (ν := ν) (a := [10, 0, 1, 1, 1, 1, 1, 1]) (b := [2, 0, 1, 0, 1, 1, 1, 1, 1, 1, 1]) (by decide)) Z Z Z Z ⟨Z, Z, Nat.le_of_ble_eq_true Z⟩ (u2 := .agg [_, _, _]) Z fun H8 (hS8 : Own _ _ _ (_ :: _ :: _ :: _ :: _ :: _ :: _ :: _ :: _ :: L)) => EN (c126 ..) Z (Ab Z Z (Ab Z Z (EZ (c126 ..) Z (Ap (Ao (Ak (res3 Z (AP hS8 (k := 1) Z Z Z Z (Aj Z Z Z)) (Ai Z) (Ai Z)) ?_))))))))
   exact hq _ _ _ _ (Own.stM (Own.drop0 (Own.drop0 (Own.drop0 (Own.drop0 (Own.mono hS8 (Ax (Az (a := [3, 0, 1, 0, 1, 1, 1, 1, 1, 1, 1]) hp))))))) hu)
  try simp only [bs] at h9
  refine At (Ag (Aq (Ac ?_)))
  replace hS7 := Own.lv_at (Own.tor (A := [_, _, _, _, _]) hS7) hu hi
  obtain ⟨bU, hbU⟩ := Own.slcOf hS7 (k := 0) Z (by rw [List.length_map, hvg.ll]; exact (pow4 hvg.de).1)
  rw [hbU] at hS7 hrow
  refine Al Z Z Z (Ad hS7 (k := 4) Z Z Z Z Z Z (Al Z Z Z (EN (c126 ..) Z (Ad hS7 (k := 2) Z Z Z Z Z Z (BC hS7 (k := 0) Z Z Z Z Z Z (List.length_map _) (Bc Z Z (Bm Z Z Z (IntWalk.u64_in _ (by omega))) (EN (c126 ..) Z (Ah Z Z Z Z Z (EZ (c126 ..) Z (AH Z (fun h11 => ?_) (fun h11 => ?_)))))))))))
  ·try simp only [bs] at h11
   refine Ac ?_
   have hE : leafE S key c m 1 = (133, (S.check key m.t m.vo c.vs[i].ep 1).2) := by rw [hlE, if_neg (fun h => h h9), if_pos (by omega)]
   rw [leafR_err (by rw [hE]; exact (by decide : (133 : Int) ≠ 0)), hE] at hq
   refine Ad hS7 (k := 5) Z Z Z Z Z (Aj Z Z Z) (Av hS7 (k := 3) Z (Ar (ν := ν) (a := [10, 0, 1, 1, 1, 1, 1, 1]) (b := [1, 0, 1, 0, 1, 1, 1, 1, 1, 1, 1, 1]) (by decide)) Z Z Z Z ⟨Z, Z, Nat.le_of_ble_eq_true Z⟩ (u2 := .agg [_, _, _]) Z fun H9 (hS9 : Own _ _ _ (_ :: _ :: _ :: _ :: _ :: _ :: _ :: _ :: _ :: _ :: L)) => Ab Z Z (EN (c126 ..) Z (Ab Z Z (EZ (c126 ..) Z (Ap (Ao (Ak (res3 Z (AP hS9 (k := 3) Z Z Z Z (Aj Z Z Z)) (Ai Z) (Ai Z)) ?_)))))))
   exact hq _ _ _ _ (Own.st_lvK (qs := c.qs) hu hi hbU (Own.drop (Own.drop (Own.drop (Own.drop (Own.mono hS9 (Ax (Az (a := [2, 0, 1, 0, 1, 1, 1, 1, 1, 1, 1, 1]) hp))) (k := 2) Z) (k := 2) Z) (k := 2) Z) (k := 2) Z))
  try simp only [bs] at h11
  refine At (Ag (Ac ?_))
  have hE : leafE S key c m 1 = (0, (S.check key m.t m.vo c.vs[i].ep 1).2) := by rw [hlE, if_neg (fun h => h h9), if_neg (by omega)]
  rw [leafR_ok (by rw [hE]), hE] at hq
  have hold := old_at (m := m) hat hi (by omega)
  have hatc := at_eq (m := m) hat hi
  refine Al Z Z Z (Ad hS7 (k := 4) Z Z Z Z Z Z (Bc Z Z (Bm Z Z Z (IntWalk.i64_in _ (by omega))) (EN (c126 ..) Z (Ab Z Z (EZ (c126 ..) Z (Ac ?_))))))
  have hlt2 : m.se.toNat < c.vs[i].lv.length := by omega
  refine Al Z Z Z (Ad hS7 (k := 2) Z Z Z Z Z Z (Aa Z Z (EN (c126 ..) Z (Bi hS7 (k := 0) Z Z Z Z Z Z Z Z ((Int.toNat_of_nonneg (by omega)).symm) (Ba (by assumption)) fun q2 ys2 hO2 hq2 ht2 hy2 hu2 => ?_))))
  obtain rfl : bU = q2 := (AVal.slc.inj hO2).1
  refine Bo Z Z hq2 hy2 Z Z (Ab Z Z (EZ (c126 ..) Z (Aq (Ac (Al Z Z Z (Ad hS7 (k := 4) Z Z Z Z Z Z ?_))))))
  rw [hd]
  refine Ah Z Z Z Z Z (EZ (c126 ..) Z (AZ Z Z (Ac (Ad hS7 (k := 5) Z Z Z Z Z (Aj Z Z Z) (Aa Z Z (Av hS7 (k := 3) Z (Ar (ν := ν) (a := [10, 0, 1, 1, 1, 1, 1, 1]) (b := [2, 0, 1, 0, 1, 1, 1, 1, 1, 1, 1, 1, 1, 1, 1]) (by decide)) Z Z Z Z ⟨Z, Z, Nat.le_of_ble_eq_true Z⟩ (u2 := .agg [_, _, _]) Z fun H10 (hS10 : Own _ _ _ (_ :: _ :: _ :: _ :: _ :: _ :: _ :: _ :: _ :: _ :: L)) => EN (c126 ..) Z (Ab Z Z (Ab Z Z (EZ (c126 ..) Z (Ap (Ao (Ak (res3 Z (AP hS10 (k := 3) Z Z Z Z (Aj Z Z Z)) (Ai Z) (Ai Z)) ?_))))))))))))
  rw [getR, hold] at hq; exact hq _ _ _ _ (Own.st_lvK (qs := c.qs) hu hi hbU (Own.dr4 (Own.mono hS10 (Ax (Az (a := [3, 0, 1, 0, 1, 1, 1, 1, 1, 1, 1, 1, 1, 1, 1]) hp)))))
theorem rleaf_5 {V S0 T0 : AVal} (hg : c.good) (hm : m.fit) (hd : m.d = 5) (hS : Own β ps H (stO V S0 T0 c :: rorc qo S :: L)) (hle : le ps ν) (hβ : under β ν = true) (hp : before ν pos') {N : Nat} (hN : S.le N) (hn : N ≤ 4294960000)
    (hq : ∀ H1 V1 S1 T1, Own β pos' H1 (stO V1 S1 T1 (leafR S key c m 2 trimR).1.c :: rorc qo (leafR S key c m 2 trimR).2 :: L) → Q (.tup [.agg [V1, S1, T1], .int .i64 (leafR S key c m 2 trimR).1.e, .str (leafR S key c m 2 trimR).1.an]) H1) : CW cfg ν 59 [.ptr qo 0 0, .int .u64 key, .agg [V, S0, T0], m.enc] H Q := by
  obtain ⟨Us, hu, hS⟩ := hS.stU
  have hvl := hg.vl
  have hql := hg.ql
  have hse := hm.se
  have hrl := rows_lenE (vs := c.vs) hu
  have hzl : (c.vs.zip Us).length = c.vs.length := by rw [List.length_zip]; omega
  refine AX g59 F59 Z ?_
  replace hS := Own.mono hS hle
  refine Ac (AR hS (AE (p := ν) (b := [0, 0])) (Af [0, 0] hβ) Z Z Z ⟨Z, Z⟩ fun H1 (hS1 : Own _ _ _ (_ :: _ :: _ :: _ :: _ :: _ :: L)) => AR hS1 le_refl (Af [1, 0] hβ) Z Z Z ⟨Z, Z⟩ fun H2 (hS2 : Own _ _ _ (_ :: _ :: _ :: _ :: _ :: _ :: _ :: L)) => AG hS2 le_refl (Af [2, 0] hβ) Z Z Z Z fun H3 (hS3 : Own _ _ _ (_ :: _ :: _ :: _ :: _ :: _ :: _ :: _ :: L)) => EN (c126 ..) Z (Ab Z Z (Ab Z Z (EZ (c126 ..) Z (Ac (Ad hS3 (k := 2) Z Z Z Z Z (Aj Z Z Z) (Al Z Z Z (Ad hS3 (k := 1) Z Z Z Z Z Z (EN (c126 ..) Z (AB Z Z (rk_find (c := c) (Own.st_fzK hS3 (a := 3) (b := 4) (d := 5) (e := 6) Z Z Z Z hu) (by omega) _ ?_) ))))))))))
  refine Ab Z Z (EZ (c126 ..) Z (Aq (Ac ?_)))
  generalize hat : atP m.vo c.vs = at0
  refine Aa Z Z (Ah Z Z Z Z Z (EZ (c126 ..) Z (AH Z (fun h2 => ?_) (fun h2 => ?_))))
  ·try simp only [bs] at h2
   refine Ac (Ad hS3 (k := 2) Z Z Z Z Z (Aj Z Z Z) (Av hS3 (k := 0) Z (Ar (ν := ν) (a := [3, 0]) (b := [1, 0, 1, 0, 1, 1]) (by decide)) Z Z Z Z ⟨Z, Z, Nat.le_of_ble_eq_true Z⟩ (u2 := .agg [_, _, _]) Z fun H4 (hS4 : Own _ _ _ (_ :: _ :: _ :: _ :: _ :: _ :: _ :: _ :: L)) => Ab Z Z (EN (c126 ..) Z (Ab Z Z (EZ (c126 ..) Z (Ap (Ao (Ak (res3 Z (AP hS4 (k := 0) Z Z Z Z (Aj Z Z Z)) (Ai Z) (Ai Z)) ?_))))))))
   rw [leafR_err (by unfold leafE; rw [if_pos (by omega)]; exact (by decide : (132 : Int) ≠ 0)), show leafE S key c m 2 = (132, S) by unfold leafE; rw [if_pos (by omega)]] at hq; exact hq _ _ _ _ (Own.stM (Own.drop0 (Own.drop0 (Own.drop0 (Own.mono hS4 (Ax (Az (a := [2, 0, 1, 0, 1, 1]) hp)))))) hu)
  try simp only [bs] at h2
  refine At (Ag (Ac ?_))
  obtain ⟨i, hi, rfl, hvo⟩ := atP_some hat h2
  have hrow := rows_get (Us := Us) hu hi
  rw [show c.vs[i].row (Us[i]'(by omega)) = .agg [.int .u64 c.vs[i].vo, .int .u64 c.vs[i].tn, .int .u64 c.vs[i].ep, .int .i64 c.vs[i].de, Us[i]'(by omega)] from rfl] at hrow
  have hvg := hg.vg c.vs[i] (List.getElem_mem hi)
  have hl16 := hvg.len
  have hlE := leafE_at (S := S) (key := key) (want := 2) hat hi
  refine Al Z Z Z (Ad hS3 (k := 2) Z Z Z Z Z Z (Aa Z Z (EN (c126 ..) Z (Bi hS3 (k := 3) Z Z Z Z Z Z Z Z Z (by assumption) fun q1 ys1 hO1 hq1 ht1 hy1 hu1 => ?_))))
  subst hO1
  refine Bo Z Z hq1 hy1 Z (Aj Z Z Z) (AG hS3 (Ar (ν := ν) (a := [3, 0]) (b := [5, 0, 1, 1, 1]) (by decide)) (Af [5, 0, 1, 1, 1] hβ) Z Z Z Z fun H5 (hS5 : Own _ _ _ (_ :: _ :: _ :: _ :: _ :: _ :: _ :: _ :: _ :: L)) => EN (c126 ..) Z (Av hS5 (k := 0) Z le_refl Z Z Z Z ⟨Z, Z, Nat.le_of_ble_eq_true Z⟩ (u2 := .agg [_, _, _, _, _]) Z fun H6 (hS6 : Own _ _ _ (_ :: _ :: _ :: _ :: _ :: _ :: _ :: _ :: _ :: L)) => EZ (c126 ..) Z (Ac (Ab Z Z (EZ (c126 ..) Z (Aq (Ac (Al Z Z Z (Ad hS6 (k := 2) Z Z Z Z Z Z ?_)))))))))
  rw [hd]
  refine Ah Z Z Z Z Z (EZ (c126 ..) Z (Bd Z Z (At (Ag (Ac (Aa Z Z (Aa Z Z (Al Z Z Z (EN (c126 ..) Z (Ad hS6 (k := 2) Z Z Z Z Z Z (Al Z Z Z (Ad hS6 (k := 2) Z Z Z Z Z Z (EN (c126 ..) Z (Al Z Z Z (Ad hS6 (k := 0) Z Z Z Z Z Z (Aa Z Z (EN (c126 ..) Z (AB Z Z (rcheckW hS6 (k := 8) Z (Ar (ν := ν) (a := [7, 0, 1, 1, 1]) (b := [9, 0, 1, 1, 1, 1, 1, 1]) (by decide)) (Af [9, 0, 1, 1, 1, 1, 1, 1] hβ) (Au (ν := ν) (a := [9, 0, 1, 1, 1, 1, 1, 1]) (b := [10, 0, 1, 1, 1, 1, 1, 1]) (by decide)) hN hn key m.t hm.t m.vo c.vs[i].ep _ (by decide) fun H7 hS7 => ?_) ))))))))))))))))))
  replace hS7 : Own _ _ _ (_ :: _ :: _ :: _ :: _ :: _ :: _ :: _ :: _ :: L) := hS7
  refine Ab Z Z (EZ (c126 ..) Z (Aq (Ac (Aa Z Z (Ah Z Z Z Z Z (EZ (c126 ..) Z (AH Z (fun h9 => ?_) (fun h9 => ?_))))))))
  ·try simp only [bs] at h9
   refine Ac ?_
   rw [leafR_err (by rw [hlE, if_pos h9]; exact h9), hlE, if_pos h9] at hq
   refine Ad hS7 (k := 3) Z Z Z Z Z (Aj Z Z Z) (Aa Z Z (Av hS7 (k := 1) Z (Ar (ν := ν) (a := [10, 0, 1, 1, 1, 1, 1, 1]) (b := [2, 0, 1, 0, 1, 1, 1, 1, 1, 1, 1]) (by decide)) Z Z Z Z ⟨Z, Z, Nat.le_of_ble_eq_true Z⟩ (u2 := .agg [_, _, _]) Z fun H8 (hS8 : Own _ _ _ (_ :: _ :: _ :: _ :: _ :: _ :: _ :: _ :: _ :: L)) => EN (c126 ..) Z (Ab Z Z (Ab Z Z (EZ (c126 ..) Z (Ap (Ao (Ak (res3 Z (AP hS8 (k := 1) Z Z Z Z (Aj Z Z Z)) (Ai Z) (Ai Z)) ?_))))))))
   exact hq _ _ _ _ (Own.stM (Own.drop0 (Own.drop0 (Own.drop0 (Own.drop0 (Own.mono hS8 (Ax (Az (a := [3, 0, 1, 0, 1, 1, 1, 1, 1, 1, 1]) hp))))))) hu)
  try simp only [bs] at h9
  refine At (Ag (Aq (Ac ?_)))
  replace hS7 := Own.lv_at (Own.tor (A := [_, _, _, _, _]) hS7) hu hi
  obtain ⟨bU, hbU⟩ := Own.slcOf hS7 (k := 0) Z (by rw [List.length_map, hvg.ll]; exact (pow4 hvg.de).1)
  rw [hbU] at hS7 hrow
  refine Al Z Z Z (Ad hS7 (k := 4) Z Z Z Z Z Z (Al Z Z Z (EN (c126 ..) Z (Ad hS7 (k := 2) Z Z Z Z Z Z (BC hS7 (k := 0) Z Z Z Z Z Z (List.length_map _) (Bc Z Z (Bm Z Z Z (IntWalk.u64_in _ (by omega))) (EN (c126 ..) Z (Ah Z Z Z Z Z (EZ (c126 ..) Z (AH Z (fun h11 => ?_) (fun h11 => ?_)))))))))))
  ·try simp only [bs] at h11
   refine Ac ?_
   have hE : leafE S key c m 2 = (133, (S.check key m.t m.vo c.vs[i].ep 2).2) := by rw [hlE, if_neg (fun h => h h9), if_pos (by omega)]
   rw [leafR_err (by rw [hE]; exact (by decide : (133 : Int) ≠ 0)), hE] at hq
   refine Ad hS7 (k := 5) Z Z Z Z Z (Aj Z Z Z) (Av hS7 (k := 3) Z (Ar (ν := ν) (a := [10, 0, 1, 1, 1, 1, 1, 1]) (b := [1, 0, 1, 0, 1, 1, 1, 1, 1, 1, 1, 1]) (by decide)) Z Z Z Z ⟨Z, Z, Nat.le_of_ble_eq_true Z⟩ (u2 := .agg [_, _, _]) Z fun H9 (hS9 : Own _ _ _ (_ :: _ :: _ :: _ :: _ :: _ :: _ :: _ :: _ :: _ :: L)) => Ab Z Z (EN (c126 ..) Z (Ab Z Z (EZ (c126 ..) Z (Ap (Ao (Ak (res3 Z (AP hS9 (k := 3) Z Z Z Z (Aj Z Z Z)) (Ai Z) (Ai Z)) ?_)))))))
   exact hq _ _ _ _ (Own.st_lvK (qs := c.qs) hu hi hbU (Own.drop (Own.drop (Own.drop (Own.drop (Own.mono hS9 (Ax (Az (a := [2, 0, 1, 0, 1, 1, 1, 1, 1, 1, 1, 1]) hp))) (k := 2) Z) (k := 2) Z) (k := 2) Z) (k := 2) Z))
  try simp only [bs] at h11
  refine At (Ag (Ac ?_))
  have hE : leafE S key c m 2 = (0, (S.check key m.t m.vo c.vs[i].ep 2).2) := by rw [hlE, if_neg (fun h => h h9), if_neg (by omega)]
  rw [leafR_ok (by rw [hE]), hE] at hq
  have hold := old_at (m := m) hat hi (by omega)
  have hatc := at_eq (m := m) hat hi
  refine Al Z Z Z (Ad hS7 (k := 4) Z Z Z Z Z Z (Bc Z Z (Bm Z Z Z (IntWalk.i64_in _ (by omega))) (EN (c126 ..) Z (Ab Z Z (EZ (c126 ..) Z (Ac ?_))))))
  have hlt2 : m.se.toNat < c.vs[i].lv.length := by omega
  refine Al Z Z Z (Ad hS7 (k := 2) Z Z Z Z Z Z (Aa Z Z (EN (c126 ..) Z (Bi hS7 (k := 0) Z Z Z Z Z Z Z Z ((Int.toNat_of_nonneg (by omega)).symm) (Ba (by assumption)) fun q2 ys2 hO2 hq2 ht2 hy2 hu2 => ?_))))
  obtain rfl : bU = q2 := (AVal.slc.inj hO2).1
  refine Bo Z Z hq2 hy2 Z Z (Ab Z Z (EZ (c126 ..) Z (Aq (Ac (Al Z Z Z (Ad hS7 (k := 4) Z Z Z Z Z Z ?_))))))
  rw [hd]
  refine Ah Z Z Z Z Z (EZ (c126 ..) Z (Bd Z Z (At (Ag (Aq (Ac (Al Z Z Z (Ad hS7 (k := 4) Z Z Z Z Z Z ?_))))))))
  rw [hd]
  refine Ah Z Z Z Z Z (EZ (c126 ..) Z (Bd Z Z (At (Ag (Aq (Ac (Aa Z Z (Ah Z Z Z Z Z (EZ (c126 ..) Z (AH Z (fun h27 => ?_) (fun h27 => ?_)))))))))))
  ·try simp only [bs] at h27
   refine Ac (Al Z Z Z (Ad hS7 (k := 5) Z Z Z Z Z Z (Al Z Z Z (EN (c126 ..) Z (Ad hS7 (k := 2) Z Z Z Z Z Z (AB Z Z (rGiveK hS7 (k := 8) Z (Ar (ν := ν) (a := [10, 0, 1, 1, 1, 1, 1, 1]) (b := [4, 0, 1, 0, 1, 1, 1, 1, 1, 1, 1, 1, 1, 1, 1, 1, 1]) (by decide)) (Af [4, 0, 1, 0, 1, 1, 1, 1, 1, 1, 1, 1, 1, 1, 1, 1, 1] hβ) (Au (ν := ν) (a := [4, 0, 1, 0, 1, 1, 1, 1, 1, 1, 1, 1, 1, 1, 1, 1, 1]) (b := [5, 0, 1, 0, 1, 1, 1, 1, 1, 1, 1, 1, 1, 1, 1, 1, 1]) (by decide)) (by omega) hg.qf _ _ (by omega) fun H10 O1 hS10 => ?_) ))))))
   replace hS10 : Own _ _ _ (_ :: _ :: _ :: _ :: _ :: _ :: _ :: _ :: _ :: _ :: _ :: L) := hS10
   refine Aa Z Z (EN (c126 ..) Z (AK Z Z Z (AK Z Z Z (Ab Z Z (EN (c126 ..) Z (Ab Z Z (EZ (c126 ..) Z (Aq (Ac (Aa Z Z (Ah Z Z Z Z Z (EZ (c126 ..) Z (AH Z (fun h29 => ?_) (fun h29 => ?_))))))))))))))
   ·try simp only [bs] at h29
    refine AC (Aa Z Z (Al Z Z Z (Bs hS10 (k := 6) Z (Ar (ν := ν) (a := [5, 0, 1, 0, 1, 1, 1, 1, 1, 1, 1, 1, 1, 1, 1, 1, 1]) (b := [2, 1, 0, 1, 1, 0, 1, 1, 1, 1, 1, 1, 1, 1, 1, 1, 1, 1, 1]) (by decide)) Z Z Z (hS10.one (k := 0) Z) Z Z (Nat.le_of_ble_eq_true Z) (u2 := .agg [_, _, _]) Z fun H11 (hS11 : Own _ _ _ (_ :: _ :: _ :: _ :: _ :: _ :: _ :: _ :: _ :: _ :: _ :: L)) => EZ (c126 ..) Z (Ag (AC (Al Z Z Z (Ad hS11 (k := 3) Z Z Z Z Z Z (Aa Z Z (EN (c126 ..) Z (Bi hS11 (k := 1) Z Z Z Z Z Z Z Z ((Int.toNat_of_nonneg (by omega)).symm) (by assumption) fun q3 ys3 hO3 hq3 ht3 hy3 hu3 => ?_))))))))))
    obtain rfl : bU = q3 := (AVal.slc.inj hO3).1
    refine Bv hS11 (k := 1) Z (Ar (ν := ν) (a := [3, 1, 0, 1, 1, 0, 1, 1, 1, 1, 1, 1, 1, 1, 1, 1, 1, 1, 1]) (b := [4, 1, 1, 1, 0, 1, 1, 1, 1, 1, 1, 1, 1, 1, 1, 1, 1, 1]) (by decide)) Z Z Z Z hu3 ⟨Z, Z, Nat.le_of_ble_eq_true Z⟩ (u2 := _) Z fun H12 (hS12 : Own _ _ _ (_ :: _ :: _ :: _ :: _ :: _ :: _ :: _ :: _ :: _ :: _ :: L)) => EZ (c126 ..) Z (Ag (Ac (Ad hS12 (k := 6) Z Z Z Z Z (Aj Z Z Z) (Av hS12 (k := 4) Z (Ar (ν := ν) (a := [5, 1, 1, 1, 0, 1, 1, 1, 1, 1, 1, 1, 1, 1, 1, 1, 1, 1]) (b := [1, 0, 1, 1, 1, 1, 1, 1, 1, 1, 1, 1, 1, 1, 1, 1]) (by decide)) Z Z Z Z ⟨Z, Z, Nat.le_of_ble_eq_true Z⟩ (u2 := .agg [_, _, _]) Z fun H13 (hS13 : Own _ _ _ (_ :: _ :: _ :: _ :: _ :: _ :: _ :: _ :: _ :: _ :: _ :: L)) => Ab Z Z (EN (c126 ..) Z (Ab Z Z (EZ (c126 ..) Z (Ap (Ak (res3 Z (AP hS13 (k := 4) Z Z Z Z (Aj Z Z Z)) (Ai Z) (Ai Z)) ?_)))))))))
    rw [trimR, hold, hatc, if_neg h27, if_pos h29, setL_at hat hi] at hq; exact hq _ _ _ _ (Own.st_lvS hu hi hbU (Own.dr5 (Own.mono hS13 (Ax (Az (a := [2, 0, 1, 1, 1, 1, 1, 1, 1, 1, 1, 1, 1, 1, 1, 1]) hp)))))
   try simp only [bs] at h29
   refine At (Ag (AC (Al Z Z Z (Ad hS10 (k := 3) Z Z Z Z Z Z (Aa Z Z (EN (c126 ..) Z (Bi hS10 (k := 1) Z Z Z Z Z Z Z Z ((Int.toNat_of_nonneg (by omega)).symm) (by assumption) fun q4 ys4 hO4 hq4 ht4 hy4 hu4 => ?_)))))))
   obtain rfl : bU = q4 := (AVal.slc.inj hO4).1
   refine Bv hS10 (k := 1) Z (Ar (ν := ν) (a := [5, 0, 1, 0, 1, 1, 1, 1, 1, 1, 1, 1, 1, 1, 1, 1, 1]) (b := [4, 1, 1, 1, 0, 1, 1, 1, 1, 1, 1, 1, 1, 1, 1, 1, 1, 1]) (by decide)) Z Z Z Z hu4 ⟨Z, Z, Nat.le_of_ble_eq_true Z⟩ (u2 := _) Z fun H14 (hS14 : Own _ _ _ (_ :: _ :: _ :: _ :: _ :: _ :: _ :: _ :: _ :: _ :: _ :: L)) => EZ (c126 ..) Z (Ag (Ac (Ad hS14 (k := 6) Z Z Z Z Z (Aj Z Z Z) (Av hS14 (k := 4) Z (Ar (ν := ν) (a := [5, 1, 1, 1, 0, 1, 1, 1, 1, 1, 1, 1, 1, 1, 1, 1, 1, 1]) (b := [1, 0, 1, 1, 1, 1, 1, 1, 1, 1, 1, 1, 1, 1, 1, 1]) (by decide)) Z Z Z Z ⟨Z, Z, Nat.le_of_ble_eq_true Z⟩ (u2 := .agg [_, _, _]) Z fun H15 (hS15 : Own _ _ _ (_ :: _ :: _ :: _ :: _ :: _ :: _ :: _ :: _ :: _ :: _ :: L)) => Ab Z Z (EN (c126 ..) Z (Ab Z Z (EZ (c126 ..) Z (Ap (Ak (res3 Z (AP hS15 (k := 4) Z Z Z Z (Aj Z Z Z)) (Ai Z) (Ai Z)) ?_)))))))))
   rw [trimR, hold, hatc, if_neg h27, if_neg h29, setL_at hat hi] at hq; exact hq _ _ _ _ (Own.st_lvS (qs := c.qs) hu hi hbU (Own.dr4 (Own.drop0 (Own.mono hS15 (Ax (Az (a := [2, 0, 1, 1, 1, 1, 1, 1, 1, 1, 1, 1, 1, 1, 1, 1]) hp))))))
  try simp only [bs] at h27
  refine At (Ag (Ac (Ad hS7 (k := 5) Z Z Z Z Z (Aj Z Z Z) (Av hS7 (k := 3) Z (Ar (ν := ν) (a := [10, 0, 1, 1, 1, 1, 1, 1]) (b := [1, 0, 1, 1, 1, 1, 1, 1, 1, 1, 1, 1, 1, 1, 1, 1]) (by decide)) Z Z Z Z ⟨Z, Z, Nat.le_of_ble_eq_true Z⟩ (u2 := .agg [_, _, _]) Z fun H16 (hS16 : Own _ _ _ (_ :: _ :: _ :: _ :: _ :: _ :: _ :: _ :: _ :: _ :: L)) => Ab Z Z (EN (c126 ..) Z (Ab Z Z (EZ (c126 ..) Z (Ap (Ak (res3 Z (AP hS16 (k := 3) Z Z Z Z (Aj Z Z Z)) (Ai Z) (Ai Z)) ?_)))))))))
  rw [trimR, hold, if_pos (by assumption)] at hq; exact hq _ _ _ _ (Own.st_lvK (qs := c.qs) hu hi hbU (Own.dr4 (Own.mono hS16 (Ax (Az (a := [2, 0, 1, 1, 1, 1, 1, 1, 1, 1, 1, 1, 1, 1, 1, 1]) hp)))))
end
/- Layer 13: the reference's Run. -/
set_option maxRecDepth 100000
section
open Go Go.RowKit WM
variable {ν β ps pos pos' : Nm} {H H1 : Heap} {Q : AVal → Heap → Prop} {L : List Asr} {k : Nat} {S T : Rf} {c : Ck} {q qo : Nm} {key want : Int} {m : Cm} {v0 : AVal}
theorem Own.st_frz {V S0 T0 : AVal} (h : Own β ps H L) (hL : L[k]? = some (stO V S0 T0 c)) : X.freeze [] H 8 (.agg [V, S0, T0]) = c.enc := by
  obtain ⟨f, hf, _⟩ := h.get hL
  exact st_freeze (n := 4) hf
theorem Own.stV {V S0 T0 : AVal} {Us : List AVal} {i : Nat} {y : Vo} {hU : i < Us.length} (h : Own β ps H (sl V 5 ((rowsOf Us c.vs).set i (y.row (Us[i]'hU))) :: lvA Us c.vs :: sl S0 3 (c.ss.map SE.Se.enc) :: sl T0 3 (c.qs.map Qu.enc) :: L)) (hu : Us.length = c.vs.length) (hi : i < c.vs.length) (hy : y.lv = c.vs[i].lv) : Own β ps H (stO V S0 T0 ⟨c.vs.set i y, c.ss, c.qs⟩ :: L) := by
  rw [rows_set hu hi, ← lvs_same hu hi hy] at h
  exact Own.stM (c := ⟨c.vs.set i y, c.ss, c.qs⟩) h (by rw [hu]; simp)
theorem rdone {V S0 T0 : AVal} {r : Rs} {Y X0 : Asr} (hz : Own β pos' H (stO V S0 T0 r.c :: Y :: L.eraseIdx k)) (hL : L[k]? = some X0) (hq : ∀ H1, Own β pos' H1 (L.set k Y) → Q (.tup [r.c.enc, .int .i64 r.e, .str r.an]) H1) : Q (X.freeze [] H 8 (.tup [.agg [V, S0, T0], .int .i64 r.e, .str r.an])) (X.lose (X.reach [] H 8 (.tup [.agg [V, S0, T0], .int .i64 r.e, .str r.an])) H) := by
  obtain ⟨fz, hfz, _⟩ := hz.get (k := 0) Z
  rw [fz3 (stO_F hfz)]; exact hq _ (Own.unpick (Own.lose hz fun f hf => rc3 (stO_F hf)) hL)
theorem Own.b4 {X B1 B2 B3 B4 : Asr} (h : Own β ps H (X :: B1 :: B2 :: B3 :: B4 :: L)) : Own β ps H (X :: L) := Own.drop (Own.drop (Own.drop (Own.drop h (k := 1) Z) (k := 1) Z) (k := 1) Z) (k := 1) Z
theorem Own.run_ord {X1 X2 X3 X4 X5 X6 : Asr} (h : Own β ps H (X1 :: X2 :: X3 :: X4 :: X5 :: X6 :: L)) : Own β ps H (X2 :: X6 :: X1 :: X3 :: X4 :: X5 :: L) := by
  have h1 : Own β ps H (X6 :: X1 :: X2 :: X3 :: X4 :: X5 :: L) := Own.tor (A := [X1, X2, X3, X4, X5]) h
  exact Own.tor (A := [X6, X1]) h1
theorem makeR_an : (makeR c m).an = ⟨#[]⟩ := by
  unfold makeR
  split
  · rfl
  split
  · rfl
  split <;> rfl
theorem rrun_0 (hg : c.good) (hm : m.fit) (hd : m.d = 0) (hf : X.freeze [] H 8 v0 = c.enc) (hS : Own β ps (X.lose (X.reach [] H 8 v0) H) L) (hL : L[k]? = some (rorc qo S)) (hle : le ps ν) (hβ : under β ν = true) (hp : before ν pos') {N : Nat} (hN : S.le N) (hn : N ≤ 4294960000)
    (hq : ∀ H1, Own β pos' H1 (L.set k (rorc qo (runR S key c m).2)) → Q (.tup [(runR S key c m).1.c.enc, .int .i64 (runR S key c m).1.e, .str (runR S key c m).1.an]) H1) : CW cfg ν 18 [.ptr qo 0 0, .int .u64 key, v0, m.enc] H Q := by
  replace hS := hS.pick hL
  have hsm := hg.sm
  rw [runR_0 hd] at hq
  have hR : X.reach [] H 9 (.tup [.ptr qo 0 0, .int .u64 key, v0, m.enc]) = X.reach [] H 8 v0 := by simp [X.reach, Cm.enc]
  rw [← hR] at hS
  refine Bu (args' := [.ptr qo 0 0, .int .u64 key, c.enc, m.enc]) g18 F18 Z (AF (Ae Z) (AF (Ae Z) (AF (by assumption) (AF (Ae Z) Bw)))) ?_
  replace hS := Own.mono hS hle
  refine Ac (AR hS (AE (p := ν) (b := [0, 0])) (Af [0, 0] hβ) Z Z Z ⟨Z, Z⟩ fun H1 (hS1 : Own _ _ _ (_ :: _ :: L.eraseIdx k)) => AR hS1 le_refl (Af [1, 0] hβ) Z Z Z ⟨Z, Z⟩ fun H2 (hS2 : Own _ _ _ (_ :: _ :: _ :: L.eraseIdx k)) => AG hS2 le_refl (Af [2, 0] hβ) Z Z Z Z fun H3 (hS3 : Own _ _ _ (_ :: _ :: _ :: _ :: L.eraseIdx k)) => EN (c88 ..) Z (Ab Z Z (Ab Z Z (EZ (c88 ..) Z (Ac (Ad hS3 (k := 2) Z Z Z Z Z (Aj Z Z Z) (AB Z Z (copy_c (v0 := c.enc) Z (Bp hS3 Z) (Ar (ν := ν) (a := [3, 0]) (b := [1, 0, 1]) (by decide)) (Af [1, 0, 1] hβ) (Au (ν := ν) (a := [1, 0, 1]) (b := [2, 0, 1]) (by decide)) hsm fun H4 V S1 T hS4 => ?_) )))))))
  replace hS4 : Own _ _ _ (_ :: _ :: _ :: _ :: _ :: L.eraseIdx k) := hS4
  refine AG hS4 le_refl (Af [2, 0, 1] hβ) Z Z Z Z fun H5 (hS5 : Own _ _ _ (_ :: _ :: _ :: _ :: _ :: _ :: L.eraseIdx k)) => EN (c88 ..) Z (Av hS5 (k := 0) Z le_refl Z Z Z Z ⟨Z, Z, Nat.le_of_ble_eq_true Z⟩ (u2 := .agg [_, _, _]) Z fun H6 (hS6 : Own _ _ _ (_ :: _ :: _ :: _ :: _ :: _ :: L.eraseIdx k)) => EZ (c88 ..) Z (Aq (Ac (Al Z Z Z (Ad hS6 (k := 3) Z Z Z Z Z Z (EZ (c88 ..) Z (AD (Ac ?_))))))))
  rw [hd]
  refine Ah Z Z Z Z Z (Ab Z Z (EZ (c88 ..) Z (AZ Z Z (Ac ?_))))
  replace hS6 := Own.rot (A := [_]) hS6
  refine Ad hS6 (k := 1) Z Z Z Z Z (Aj Z Z Z) (Ad hS6 (k := 3) Z Z Z Z Z (Aj Z Z Z) (AB Z Z (made_c hg hm hS6 (Ar (ν := ν) (a := [4, 0, 1]) (b := [2, 0, 1, 1, 0, 1, 1]) (by decide)) (Af [2, 0, 1, 1, 0, 1, 1] hβ) (Au (ν := ν) (a := [2, 0, 1, 1, 0, 1, 1]) (b := [3, 0, 1, 1, 0, 1, 1]) (by decide)) fun H7 V2 S2 T2 hS7 => ?_) ))
  replace hS7 : Own _ _ _ (_ :: _ :: _ :: _ :: _ :: _ :: L.eraseIdx k) := hS7
  refine EN (c88 ..) Z (Aa Z Z (AK Z Z Z (AK Z Z Z (EN (c88 ..) Z (AG hS7 (Ar (ν := ν) (a := [3, 0, 1, 1, 0, 1, 1]) (b := [6, 0, 1, 1, 0, 1, 1]) (by decide)) (Af [6, 0, 1, 1, 0, 1, 1] hβ) Z Z Z Z fun H8 (hS8 : Own _ _ _ (_ :: _ :: _ :: _ :: _ :: _ :: _ :: L.eraseIdx k)) => Av hS8 (k := 0) Z le_refl Z Z Z Z ⟨Z, Z, Nat.le_of_ble_eq_true Z⟩ (u2 := .agg [_, _, _]) Z fun H9 (hS9 : Own _ _ _ (_ :: _ :: _ :: _ :: _ :: _ :: _ :: L.eraseIdx k)) => Ab Z Z (EZ (c88 ..) Z (Ac (Ad hS9 (k := 0) Z Z Z Z Z (Aj Z Z Z) (Aa Z Z (Av hS9 (k := 3) Z (Ar (ν := ν) (a := [8, 0, 1, 1, 0, 1, 1]) (b := [2, 0, 1, 1, 1, 0, 1, 1]) (by decide)) Z Z Z Z ⟨Z, Z, Nat.le_of_ble_eq_true Z⟩ (u2 := .agg [_, _, _]) Z fun H10 (hS10 : Own _ _ _ (_ :: _ :: _ :: _ :: _ :: _ :: _ :: L.eraseIdx k)) => EN (c88 ..) Z (Ab Z Z (Ab Z Z (EZ (c88 ..) Z (Ap (AA (Ao (Ak (res3 Z (AP hS10 (k := 3) Z Z Z Z (Aj Z Z Z)) (Ai Z) (Ai Z)) ?_)))))))))))))))))
  rw [← makeR_an (c := c) (m := m)]; exact rdone (Own.b4 (Own.drop0 (Own.mono hS10 (Ax (Az (a := [3, 0, 1, 1, 1, 0, 1, 1]) hp))))) hL hq
theorem rrun_1 (hg : c.good) (hm : m.fit) (hd : m.d = 1) (hf : X.freeze [] H 8 v0 = c.enc) (hS : Own β ps (X.lose (X.reach [] H 8 v0) H) L) (hL : L[k]? = some (rorc qo S)) (hle : le ps ν) (hβ : under β ν = true) (hp : before ν pos') {N : Nat} (hN : S.le N) (hn : N ≤ 4294960000)
    (hq : ∀ H1, Own β pos' H1 (L.set k (rorc qo (runR S key c m).2)) → Q (.tup [(runR S key c m).1.c.enc, .int .i64 (runR S key c m).1.e, .str (runR S key c m).1.an]) H1) : CW cfg ν 18 [.ptr qo 0 0, .int .u64 key, v0, m.enc] H Q := by
  replace hS := hS.pick hL
  have hsm := hg.sm
  have hvl := hg.vl
  rw [runR_1 hd] at hq
  have hR : X.reach [] H 9 (.tup [.ptr qo 0 0, .int .u64 key, v0, m.enc]) = X.reach [] H 8 v0 := by simp [X.reach, Cm.enc]
  rw [← hR] at hS
  refine Bu (args' := [.ptr qo 0 0, .int .u64 key, c.enc, m.enc]) g18 F18 Z (AF (Ae Z) (AF (Ae Z) (AF (by assumption) (AF (Ae Z) Bw)))) ?_
  replace hS := Own.mono hS hle
  refine Ac (AR hS (AE (p := ν) (b := [0, 0])) (Af [0, 0] hβ) Z Z Z ⟨Z, Z⟩ fun H1 (hS1 : Own _ _ _ (_ :: _ :: L.eraseIdx k)) => AR hS1 le_refl (Af [1, 0] hβ) Z Z Z ⟨Z, Z⟩ fun H2 (hS2 : Own _ _ _ (_ :: _ :: _ :: L.eraseIdx k)) => AG hS2 le_refl (Af [2, 0] hβ) Z Z Z Z fun H3 (hS3 : Own _ _ _ (_ :: _ :: _ :: _ :: L.eraseIdx k)) => EN (c88 ..) Z (Ab Z Z (Ab Z Z (EZ (c88 ..) Z (Ac (Ad hS3 (k := 2) Z Z Z Z Z (Aj Z Z Z) (AB Z Z (copy_c (v0 := c.enc) Z (Bp hS3 Z) (Ar (ν := ν) (a := [3, 0]) (b := [1, 0, 1]) (by decide)) (Af [1, 0, 1] hβ) (Au (ν := ν) (a := [1, 0, 1]) (b := [2, 0, 1]) (by decide)) hsm fun H4 V S1 T hS4 => ?_) )))))))
  replace hS4 : Own _ _ _ (_ :: _ :: _ :: _ :: _ :: L.eraseIdx k) := hS4
  refine AG hS4 le_refl (Af [2, 0, 1] hβ) Z Z Z Z fun H5 (hS5 : Own _ _ _ (_ :: _ :: _ :: _ :: _ :: _ :: L.eraseIdx k)) => EN (c88 ..) Z (Av hS5 (k := 0) Z le_refl Z Z Z Z ⟨Z, Z, Nat.le_of_ble_eq_true Z⟩ (u2 := .agg [_, _, _]) Z fun H6 (hS6 : Own _ _ _ (_ :: _ :: _ :: _ :: _ :: _ :: L.eraseIdx k)) => EZ (c88 ..) Z (Aq (Ac (Al Z Z Z (Ad hS6 (k := 3) Z Z Z Z Z Z (EZ (c88 ..) Z (AD (Ac ?_))))))))
  rw [hd]
  refine Ah Z Z Z Z Z (Ab Z Z (EZ (c88 ..) Z (Bd Z Z (Ac (Ah Z Z Z Z Z (Ab Z Z (EZ (c88 ..) Z (AZ Z Z (Ac (Ad hS6 (k := 0) Z Z Z Z Z (Aj Z Z Z) (Al Z Z Z (Ad hS6 (k := 3) Z Z Z Z Z Z (EN (c88 ..) Z (AB Z Z (rk_find (c := c) (Own.st_frz hS6 (k := 1) Z) (by omega) _ ?_) ))))))))))))))
  refine Ab Z Z (EZ (c88 ..) Z (Aq (Ac ?_)))
  generalize hat : atP m.vo c.vs = at0
  refine Aa Z Z (Ah Z Z Z Z Z (EZ (c88 ..) Z (AH Z (fun h8 => ?_) (fun h8 => ?_))))
  ·try simp only [bs] at h8
   refine Ac (Ad hS6 (k := 0) Z Z Z Z Z (Aj Z Z Z) (Av hS6 (k := 2) Z (Ar (ν := ν) (a := [4, 0, 1]) (b := [1, 0, 1, 0, 1, 1, 1, 1, 0, 1, 1]) (by decide)) Z Z Z Z ⟨Z, Z, Nat.le_of_ble_eq_true Z⟩ (u2 := .agg [_, _, _]) Z fun H7 (hS7 : Own _ _ _ (_ :: _ :: _ :: _ :: _ :: _ :: L.eraseIdx k)) => Ab Z Z (EN (c88 ..) Z (Ab Z Z (EZ (c88 ..) Z (Ap (Ao (AA (Ao (Ak (res3 Z (AP hS7 (k := 2) Z Z Z Z (Aj Z Z Z)) (Ai Z) (Ai Z)) ?_))))))))))
   rw [show epochR c m = err c 132 from if_pos (by omega)] at hq; exact rdone (r := err c 132) (Own.b4 (Own.rot (A := [_]) (Own.mono hS7 (Ax (Az (a := [2, 0, 1, 0, 1, 1, 1, 1, 0, 1, 1]) hp))))) hL hq
  try simp only [bs] at h8
  refine At (Ag (Aq (Ac ?_)))
  obtain ⟨i, hi, rfl, hvo⟩ := atP_some hat h8
  obtain ⟨Us, hu, hz⟩ := Own.stU (Own.rot (A := [_]) hS6)
  replace hS6 : Own _ _ _ (sl V 5 _ :: lvA Us c.vs :: sl S1 3 _ :: sl T 3 _ :: _ :: _ :: _ :: _ :: _ :: _) := hz
  have hrl := rows_lenE (vs := c.vs) hu
  have hzl : (c.vs.zip Us).length = c.vs.length := by rw [List.length_zip]; omega
  have hrow := rows_get (Us := Us) hu hi
  rw [show c.vs[i].row (Us[i]'(by omega)) = .agg [.int .u64 c.vs[i].vo, .int .u64 c.vs[i].tn, .int .u64 c.vs[i].ep, .int .i64 c.vs[i].de, Us[i]'(by omega)] from rfl] at hrow
  refine Al Z Z Z (Ad hS6 (k := 6) Z Z Z Z Z Z (Al Z Z Z (EN (c88 ..) Z (Ad hS6 (k := 4) Z Z Z Z Z Z (Aa Z Z (Bi hS6 (k := 0) Z Z Z Z Z Z Z Z Z (by assumption) fun q1 ys1 hO1 hq1 ht1 hy1 hu1 => ?_))))))
  subst hO1
  refine EN (c88 ..) Z (Al Z Z Z (Bo Z Z hq1 hy1 Z Z (Ah Z Z Z Z Z (EZ (c88 ..) Z (AH Z (fun h10 => ?_) (fun h10 => ?_))))))
  ·try simp only [bs] at h10
   refine AC (Al Z Z Z (Ad hS6 (k := 4) Z Z Z Z Z Z (Aa Z Z (EN (c88 ..) Z (Al Z Z Z (Ad hS6 (k := 6) Z Z Z Z Z Z (Bi hS6 (k := 0) Z Z Z Z Z Z Z Z Z (by assumption) fun q2 ys2 hO2 hq2 ht2 hy2 hu2 => ?_)))))))
   obtain rfl : q1 = q2 := (AVal.slc.inj hO2).1
   refine EN (c88 ..) Z (Al Z Z Z (Bv hS6 (k := 0) Z (Ar (ν := ν) (a := [4, 0, 1]) (b := [7, 1, 0, 1, 1, 1, 1, 1, 0, 1, 1]) (by decide)) Z Z Z Z hu2 ⟨Z, Z, Nat.le_of_ble_eq_true Z⟩ (u2 := .agg [_, _, _, _, _]) Z fun H8 (hS8 : Own _ _ _ (_ :: _ :: _ :: _ :: _ :: _ :: _ :: _ :: _ :: L.eraseIdx k)) => EZ (c88 ..) Z (Ag (Ac (Ad hS8 (k := 4) Z Z Z Z Z (Aj Z Z Z) (Av hS8 (k := 5) Z (Ar (ν := ν) (a := [8, 1, 0, 1, 1, 1, 1, 1, 0, 1, 1]) (b := [1, 0, 1, 1, 1, 1, 1, 1, 0, 1, 1]) (by decide)) Z Z Z Z ⟨Z, Z, Nat.le_of_ble_eq_true Z⟩ (u2 := .agg [_, _, _]) Z fun H9 (hS9 : Own _ _ _ (_ :: _ :: _ :: _ :: _ :: _ :: _ :: _ :: _ :: L.eraseIdx k)) => Ab Z Z (EN (c88 ..) Z (Ab Z Z (EZ (c88 ..) Z (Ap (AA (Ao (Ak (res3 Z (AP hS9 (k := 5) Z Z Z Z (Aj Z Z Z)) (Ai Z) (Ai Z)) ?_)))))))))))))
   rw [show epochR c m = err ⟨c.vs.set i { c.vs[i] with ep := m.a }, c.ss, c.qs⟩ 0 by rw [epochR, hat, if_neg (by omega), at_eq hat hi, setV_eq hat, show max c.vs[i].ep m.a = m.a by omega]] at hq
   exact rdone (r := err _ 0) (Own.b4 (Own.stV (y := { c.vs[i] with ep := m.a }) (Own.mono hS9 (Ax (Az (a := [2, 0, 1, 1, 1, 1, 1, 1, 0, 1, 1]) hp))) hu hi rfl)) hL hq
  try simp only [bs] at h10
  refine At (Ag (Ac (Ad hS6 (k := 4) Z Z Z Z Z (Aj Z Z Z) (Av hS6 (k := 5) Z (Ar (ν := ν) (a := [4, 0, 1]) (b := [1, 0, 1, 1, 1, 1, 1, 1, 0, 1, 1]) (by decide)) Z Z Z Z ⟨Z, Z, Nat.le_of_ble_eq_true Z⟩ (u2 := .agg [_, _, _]) Z fun H10 (hS10 : Own _ _ _ (_ :: _ :: _ :: _ :: _ :: _ :: _ :: _ :: _ :: L.eraseIdx k)) => Ab Z Z (EN (c88 ..) Z (Ab Z Z (EZ (c88 ..) Z (Ap (AA (Ao (Ak (res3 Z (AP hS10 (k := 5) Z Z Z Z (Aj Z Z Z)) (Ai Z) (Ai Z)) ?_)))))))))))
  rw [show epochR c m = err c 0 by rw [epochR, hat, if_neg (by omega), at_eq hat hi, setV_eq hat, show max c.vs[i].ep m.a = c.vs[i].ep by omega]; show err ⟨c.vs.set i c.vs[i], c.ss, c.qs⟩ 0 = _; rw [List.set_getElem_self]] at hq
  exact rdone (r := err c 0) (Own.b4 (Own.stM (Own.mono hS10 (Ax (Az (a := [2, 0, 1, 1, 1, 1, 1, 1, 0, 1, 1]) hp))) hu)) hL hq
theorem rrun_2 (hg : c.good) (hm : m.fit) (hd : m.d = 2) (hf : X.freeze [] H 8 v0 = c.enc) (hS : Own β ps (X.lose (X.reach [] H 8 v0) H) L) (hL : L[k]? = some (rorc qo S)) (hle : le ps ν) (hβ : under β ν = true) (hp : before ν pos') {N : Nat} (hN : S.le N) (hn : N ≤ 4294960000)
    (hq : ∀ H1, Own β pos' H1 (L.set k (rorc qo (runR S key c m).2)) → Q (.tup [(runR S key c m).1.c.enc, .int .i64 (runR S key c m).1.e, .str (runR S key c m).1.an]) H1) : CW cfg ν 18 [.ptr qo 0 0, .int .u64 key, v0, m.enc] H Q := by
  replace hS := hS.pick hL
  have hsm := hg.sm
  have hql := hg.ql
  rw [runR_2 hd] at hq
  have hR : X.reach [] H 9 (.tup [.ptr qo 0 0, .int .u64 key, v0, m.enc]) = X.reach [] H 8 v0 := by simp [X.reach, Cm.enc]
  rw [← hR] at hS
  refine Bu (args' := [.ptr qo 0 0, .int .u64 key, c.enc, m.enc]) g18 F18 Z (AF (Ae Z) (AF (Ae Z) (AF (by assumption) (AF (Ae Z) Bw)))) ?_
  replace hS := Own.mono hS hle
  refine Ac (AR hS (AE (p := ν) (b := [0, 0])) (Af [0, 0] hβ) Z Z Z ⟨Z, Z⟩ fun H1 (hS1 : Own _ _ _ (_ :: _ :: L.eraseIdx k)) => AR hS1 le_refl (Af [1, 0] hβ) Z Z Z ⟨Z, Z⟩ fun H2 (hS2 : Own _ _ _ (_ :: _ :: _ :: L.eraseIdx k)) => AG hS2 le_refl (Af [2, 0] hβ) Z Z Z Z fun H3 (hS3 : Own _ _ _ (_ :: _ :: _ :: _ :: L.eraseIdx k)) => EN (c88 ..) Z (Ab Z Z (Ab Z Z (EZ (c88 ..) Z (Ac (Ad hS3 (k := 2) Z Z Z Z Z (Aj Z Z Z) (AB Z Z (copy_c (v0 := c.enc) Z (Bp hS3 Z) (Ar (ν := ν) (a := [3, 0]) (b := [1, 0, 1]) (by decide)) (Af [1, 0, 1] hβ) (Au (ν := ν) (a := [1, 0, 1]) (b := [2, 0, 1]) (by decide)) hsm fun H4 V S1 T hS4 => ?_) )))))))
  replace hS4 : Own _ _ _ (_ :: _ :: _ :: _ :: _ :: L.eraseIdx k) := hS4
  refine AG hS4 le_refl (Af [2, 0, 1] hβ) Z Z Z Z fun H5 (hS5 : Own _ _ _ (_ :: _ :: _ :: _ :: _ :: _ :: L.eraseIdx k)) => EN (c88 ..) Z (Av hS5 (k := 0) Z le_refl Z Z Z Z ⟨Z, Z, Nat.le_of_ble_eq_true Z⟩ (u2 := .agg [_, _, _]) Z fun H6 (hS6 : Own _ _ _ (_ :: _ :: _ :: _ :: _ :: _ :: L.eraseIdx k)) => EZ (c88 ..) Z (Aq (Ac (Al Z Z Z (Ad hS6 (k := 3) Z Z Z Z Z Z (EZ (c88 ..) Z (AD (Ac ?_))))))))
  rw [hd]
  refine Ah Z Z Z Z Z (Ab Z Z (EZ (c88 ..) Z (Bd Z Z (Ac (Ah Z Z Z Z Z (Ab Z Z (EZ (c88 ..) Z (Bd Z Z (Ac (Ah Z Z Z Z Z (Ab Z Z (EZ (c88 ..) Z (AZ Z Z (Ac ?_))))))))))))))
  replace hS6 : Own _ _ _ (vols V c.vs :: sl S1 3 _ :: sl T 3 _ :: _ :: _ :: _ :: _ :: _ :: _) := Own.un_all (Own.rot (A := [_]) hS6)
  refine Al Z Z Z (Ad hS6 (k := 3) Z Z Z Z Z Z (Al Z Z Z (EN (c88 ..) Z (Ad hS6 (k := 5) Z Z Z Z Z Z (Al Z Z Z (Ad hS6 (k := 5) Z Z Z Z Z Z (EN (c88 ..) Z (AB Z Z (rSetK hS6 (k := 2) Z (Ar (ν := ν) (a := [4, 0, 1]) (b := [6, 0, 1, 1, 1, 1, 0, 1, 1]) (by decide)) (Af [6, 0, 1, 1, 1, 1, 0, 1, 1] hβ) (Au (ν := ν) (a := [6, 0, 1, 1, 1, 1, 0, 1, 1]) (b := [7, 0, 1, 1, 1, 1, 0, 1, 1]) (by decide)) (by omega) _ _ fun H7 O1 hS7 => ?_) ))))))))
  replace hS7 : Own _ _ _ (_ :: _ :: _ :: _ :: _ :: _ :: _ :: _ :: _ :: L.eraseIdx k) := hS7
  refine Aa Z Z (AK Z Z Z (EN (c88 ..) Z (AK Z Z Z (Ab Z Z (Ab Z Z (EZ (c88 ..) Z (Aq (Ac (Aa Z Z (BE Z Z Z (EZ (c88 ..) Z (AH Z (fun h15 => ?_) (fun h15 => ?_)))))))))))))
  ·try simp only [bs] at h15
   refine Ac (Ad hS7 (k := 4) Z Z Z Z Z (Aj Z Z Z) (Av hS7 (k := 5) Z (Ar (ν := ν) (a := [7, 0, 1, 1, 1, 1, 0, 1, 1]) (b := [1, 0, 1, 0, 1, 1, 1, 1, 1, 0, 1, 1]) (by decide)) Z Z Z Z ⟨Z, Z, Nat.le_of_ble_eq_true Z⟩ (u2 := .agg [_, _, _]) Z fun H8 (hS8 : Own _ _ _ (_ :: _ :: _ :: _ :: _ :: _ :: _ :: _ :: _ :: L.eraseIdx k)) => Ab Z Z (EN (c88 ..) Z (Ab Z Z (EZ (c88 ..) Z (Ap (Ao (AA (Ao (Ak (res3 Z (AP hS8 (k := 5) Z Z Z Z (Aj Z Z Z)) (Ai Z) (Ai Z)) ?_))))))))))
   rw [limitR, if_pos h15] at hq; exact rdone (r := err c 135) (V := V) (S0 := S1) (T0 := T) (Own.b4 (Own.mk_all (L1 := [vols V c.vs, sl S1 3 (c.ss.map SE.Se.enc), sl T 3 (c.qs.map Qu.enc)]) (Own.drop0 (Own.mono hS8 (Ax (Az (a := [2, 0, 1, 0, 1, 1, 1, 1, 1, 0, 1, 1]) hp)))))) hL hq
  try simp only [bs] at h15
  refine At (Ag (Ac (Aa Z Z (Al Z Z Z (Bs hS7 (k := 4) Z (Ar (ν := ν) (a := [7, 0, 1, 1, 1, 1, 0, 1, 1]) (b := [2, 0, 1, 1, 1, 1, 1, 1, 0, 1, 1]) (by decide)) Z Z Z (hS7.one (k := 0) Z) Z Z (Nat.le_of_ble_eq_true Z) (u2 := .agg [_, _, _]) Z fun H9 (hS9 : Own _ _ _ (_ :: _ :: _ :: _ :: _ :: _ :: _ :: _ :: _ :: L.eraseIdx k)) => EZ (c88 ..) Z (Ac (Ad hS9 (k := 4) Z Z Z Z Z (Aj Z Z Z) (Av hS9 (k := 5) Z (Ar (ν := ν) (a := [3, 0, 1, 1, 1, 1, 1, 1, 0, 1, 1]) (b := [1, 0, 1, 1, 1, 1, 1, 1, 1, 0, 1, 1]) (by decide)) Z Z Z Z ⟨Z, Z, Nat.le_of_ble_eq_true Z⟩ (u2 := .agg [_, _, _]) Z fun H10 (hS10 : Own _ _ _ (_ :: _ :: _ :: _ :: _ :: _ :: _ :: _ :: _ :: L.eraseIdx k)) => Ab Z Z (EN (c88 ..) Z (Ab Z Z (EZ (c88 ..) Z (Ap (AA (Ao (Ak (res3 Z (AP hS10 (k := 5) Z Z Z Z (Aj Z Z Z)) (Ai Z) (Ai Z)) ?_)))))))))))))))
  rw [limitR, if_neg (by rw [h15]; decide)] at hq; exact rdone (r := err ⟨c.vs, c.ss, (setQ c.qs m.a m.b).1⟩ 0) (V := V) (S0 := S1) (T0 := O1) (Own.b4 (Own.mk_all (L1 := [vols V c.vs, sl S1 3 (c.ss.map SE.Se.enc), sl O1 3 ((setQ c.qs m.a m.b).1.map Qu.enc)]) (Own.rot (A := [_, _]) (Own.drop (Own.mono hS10 (Ax (Az (a := [2, 0, 1, 1, 1, 1, 1, 1, 1, 0, 1, 1]) hp))) (k := 3) Z)))) hL hq
theorem rrun_bad (hg : c.good) (hm : m.fit) (hd : m.d < 0 ∨ 6 ≤ m.d) (hf : X.freeze [] H 8 v0 = c.enc) (hS : Own β ps (X.lose (X.reach [] H 8 v0) H) L) (hL : L[k]? = some (rorc qo S)) (hle : le ps ν) (hβ : under β ν = true) (hp : before ν pos') {N : Nat} (hN : S.le N) (hn : N ≤ 4294960000)
    (hq : ∀ H1, Own β pos' H1 (L.set k (rorc qo (runR S key c m).2)) → Q (.tup [(runR S key c m).1.c.enc, .int .i64 (runR S key c m).1.e, .str (runR S key c m).1.an]) H1) : CW cfg ν 18 [.ptr qo 0 0, .int .u64 key, v0, m.enc] H Q := by
  replace hS := hS.pick hL
  have hsm := hg.sm
  rw [runR_b hd] at hq
  have hR : X.reach [] H 9 (.tup [.ptr qo 0 0, .int .u64 key, v0, m.enc]) = X.reach [] H 8 v0 := by simp [X.reach, Cm.enc]
  rw [← hR] at hS
  refine Bu (args' := [.ptr qo 0 0, .int .u64 key, c.enc, m.enc]) g18 F18 Z (AF (Ae Z) (AF (Ae Z) (AF (by assumption) (AF (Ae Z) Bw)))) ?_
  replace hS := Own.mono hS hle
  refine Ac (AR hS (AE (p := ν) (b := [0, 0])) (Af [0, 0] hβ) Z Z Z ⟨Z, Z⟩ fun H1 (hS1 : Own _ _ _ (_ :: _ :: L.eraseIdx k)) => AR hS1 le_refl (Af [1, 0] hβ) Z Z Z ⟨Z, Z⟩ fun H2 (hS2 : Own _ _ _ (_ :: _ :: _ :: L.eraseIdx k)) => AG hS2 le_refl (Af [2, 0] hβ) Z Z Z Z fun H3 (hS3 : Own _ _ _ (_ :: _ :: _ :: _ :: L.eraseIdx k)) => EN (c88 ..) Z (Ab Z Z (Ab Z Z (EZ (c88 ..) Z (Ac (Ad hS3 (k := 2) Z Z Z Z Z (Aj Z Z Z) (AB Z Z (copy_c (v0 := c.enc) Z (Bp hS3 Z) (Ar (ν := ν) (a := [3, 0]) (b := [1, 0, 1]) (by decide)) (Af [1, 0, 1] hβ) (Au (ν := ν) (a := [1, 0, 1]) (b := [2, 0, 1]) (by decide)) hsm fun H4 V S1 T hS4 => ?_) )))))))
  replace hS4 : Own _ _ _ (_ :: _ :: _ :: _ :: _ :: L.eraseIdx k) := hS4
  refine AG hS4 le_refl (Af [2, 0, 1] hβ) Z Z Z Z fun H5 (hS5 : Own _ _ _ (_ :: _ :: _ :: _ :: _ :: _ :: L.eraseIdx k)) => EN (c88 ..) Z (Av hS5 (k := 0) Z le_refl Z Z Z Z ⟨Z, Z, Nat.le_of_ble_eq_true Z⟩ (u2 := .agg [_, _, _]) Z fun H6 (hS6 : Own _ _ _ (_ :: _ :: _ :: _ :: _ :: _ :: L.eraseIdx k)) => EZ (c88 ..) Z (Aq (Ac (Al Z Z Z (Ad hS6 (k := 3) Z Z Z Z Z Z (EZ (c88 ..) Z (AD (Ac (Ah Z Z Z Z Z (Ab Z Z (EZ (c88 ..) Z (AH Z (fun h3 => ?_) (fun h3 => ?_)))))))))))))
  · exfalso; (try simp only [bs] at h3) <;> (omega)
  try simp only [bs] at h3
  refine Ac (Ah Z Z Z Z Z (Ab Z Z (EZ (c88 ..) Z (AH Z (fun h6 => ?_) (fun h6 => ?_)))))
  · exfalso; (try simp only [bs] at h6) <;> (omega)
  try simp only [bs] at h6
  refine Ac (Ah Z Z Z Z Z (Ab Z Z (EZ (c88 ..) Z (AH Z (fun h13 => ?_) (fun h13 => ?_)))))
  · exfalso; (try simp only [bs] at h13) <;> (omega)
  try simp only [bs] at h13
  refine Aq (Ac (Ah Z Z Z Z Z (Ab Z Z (EZ (c88 ..) Z (AH Z (fun h19 => ?_) (fun h19 => ?_))))))
  · exfalso; (try simp only [bs] at h19) <;> (omega)
  try simp only [bs] at h19
  refine Ac (Ah Z Z Z Z Z (Ab Z Z (EZ (c88 ..) Z (AH Z (fun h20 => ?_) (fun h20 => ?_)))))
  · exfalso; (try simp only [bs] at h20) <;> (omega)
  try simp only [bs] at h20
  refine AC (Ah Z Z Z Z Z (Ab Z Z (EZ (c88 ..) Z (Ag (AH Z (fun h21 => ?_) (fun h21 => ?_))))))
  · exfalso; (try simp only [bs] at h21) <;> (omega)
  try simp only [bs] at h21
  refine At (AJ (Ag (Ac (Ad hS6 (k := 0) Z Z Z Z Z (Aj Z Z Z) (Av hS6 (k := 2) Z (Ar (ν := ν) (a := [4, 0, 1]) (b := [1, 0, 1, 1, 1]) (by decide)) Z Z Z Z ⟨Z, Z, Nat.le_of_ble_eq_true Z⟩ (u2 := .agg [_, _, _]) Z fun H7 (hS7 : Own _ _ _ (_ :: _ :: _ :: _ :: _ :: _ :: L.eraseIdx k)) => Ab Z Z (EN (c88 ..) Z (Ab Z Z (EZ (c88 ..) Z (Ap (Ak (res3 Z (AP hS7 (k := 2) Z Z Z Z (Aj Z Z Z)) (Ai Z) (Ai Z)) ?_))))))))))
  exact rdone (r := err c 130) (Own.b4 (Own.rot (A := [_]) (Own.mono hS7 (Ax (Az (a := [2, 0, 1, 1, 1]) hp))))) hL hq
theorem rrun_3 (hg : c.good) (hm : m.fit) (hd : m.d = 3) (hf : X.freeze [] H 8 v0 = c.enc) (hS : Own β ps (X.lose (X.reach [] H 8 v0) H) L) (hL : L[k]? = some (rorc qo S)) (hle : le ps ν) (hβ : under β ν = true) (hp : before ν pos') {N : Nat} (hN : S.le N) (hn : N ≤ 4294960000)
    (hq : ∀ H1, Own β pos' H1 (L.set k (rorc qo (runR S key c m).2)) → Q (.tup [(runR S key c m).1.c.enc, .int .i64 (runR S key c m).1.e, .str (runR S key c m).1.an]) H1) : CW cfg ν 18 [.ptr qo 0 0, .int .u64 key, v0, m.enc] H Q := by
  replace hS := hS.pick hL
  have hsm := hg.sm
  rw [runR_3 hd] at hq
  have hR : X.reach [] H 9 (.tup [.ptr qo 0 0, .int .u64 key, v0, m.enc]) = X.reach [] H 8 v0 := by simp [X.reach, Cm.enc]
  rw [← hR] at hS
  refine Bu (args' := [.ptr qo 0 0, .int .u64 key, c.enc, m.enc]) g18 F18 Z (AF (Ae Z) (AF (Ae Z) (AF (by assumption) (AF (Ae Z) Bw)))) ?_
  replace hS := Own.mono hS hle
  refine Ac (AR hS (AE (p := ν) (b := [0, 0])) (Af [0, 0] hβ) Z Z Z ⟨Z, Z⟩ fun H1 (hS1 : Own _ _ _ (_ :: _ :: L.eraseIdx k)) => AR hS1 le_refl (Af [1, 0] hβ) Z Z Z ⟨Z, Z⟩ fun H2 (hS2 : Own _ _ _ (_ :: _ :: _ :: L.eraseIdx k)) => AG hS2 le_refl (Af [2, 0] hβ) Z Z Z Z fun H3 (hS3 : Own _ _ _ (_ :: _ :: _ :: _ :: L.eraseIdx k)) => EN (c88 ..) Z (Ab Z Z (Ab Z Z (EZ (c88 ..) Z (Ac (Ad hS3 (k := 2) Z Z Z Z Z (Aj Z Z Z) (AB Z Z (copy_c (v0 := c.enc) Z (Bp hS3 Z) (Ar (ν := ν) (a := [3, 0]) (b := [1, 0, 1]) (by decide)) (Af [1, 0, 1] hβ) (Au (ν := ν) (a := [1, 0, 1]) (b := [2, 0, 1]) (by decide)) hsm fun H4 V S1 T hS4 => ?_) )))))))
  replace hS4 : Own _ _ _ (_ :: _ :: _ :: _ :: _ :: L.eraseIdx k) := hS4
  refine AG hS4 le_refl (Af [2, 0, 1] hβ) Z Z Z Z fun H5 (hS5 : Own _ _ _ (_ :: _ :: _ :: _ :: _ :: _ :: L.eraseIdx k)) => EN (c88 ..) Z (Av hS5 (k := 0) Z le_refl Z Z Z Z ⟨Z, Z, Nat.le_of_ble_eq_true Z⟩ (u2 := .agg [_, _, _]) Z fun H6 (hS6 : Own _ _ _ (_ :: _ :: _ :: _ :: _ :: _ :: L.eraseIdx k)) => EZ (c88 ..) Z (Aq (Ac (Al Z Z Z (Ad hS6 (k := 3) Z Z Z Z Z Z (EZ (c88 ..) Z (AD (Ac ?_))))))))
  rw [hd]
  refine Ah Z Z Z Z Z (Ab Z Z (EZ (c88 ..) Z (Bd Z Z (Ac (Ah Z Z Z Z Z (Ab Z Z (EZ (c88 ..) Z (Bd Z Z (Ac (Ah Z Z Z Z Z (Ab Z Z (EZ (c88 ..) Z (Bd Z Z (Aq (Ac (Ah Z Z Z Z Z (Ab Z Z (EZ (c88 ..) Z (AZ Z Z (At (Ag (AZ Z Z (Ac ?_)))))))))))))))))))))))
  replace hS6 := Own.run_ord hS6
  refine Aa Z Z (Aa Z Z (Ad hS6 (k := 2) Z Z Z Z Z (Aj Z Z Z) (EN (c88 ..) Z (Ad hS6 (k := 4) Z Z Z Z Z (Aj Z Z Z) (AB Z Z (rleaf_3 hg hm hd hS6 (Ar (ν := ν) (a := [4, 0, 1]) (b := [4, 0, 1, 1, 1, 1, 1, 0, 1, 1]) (by decide)) (Af [4, 0, 1, 1, 1, 1, 1, 0, 1, 1] hβ) (Au (ν := ν) (a := [4, 0, 1, 1, 1, 1, 1, 0, 1, 1]) (b := [5, 0, 1, 1, 1, 1, 1, 0, 1, 1]) (by decide)) hN hn fun H7 V2 S2 T2 hS7 => ?_) )))))
  replace hS7 : Own _ _ _ (_ :: _ :: _ :: _ :: _ :: _ :: L.eraseIdx k) := hS7
  refine AK Z Z Z (EN (c88 ..) Z (AK Z Z Z (AK Z Z Z (Av hS7 (k := 3) Z (Ar (ν := ν) (a := [5, 0, 1, 1, 1, 1, 1, 0, 1, 1]) (b := [8, 0, 1, 1, 1, 1, 1, 0, 1, 1]) (by decide)) Z Z Z Z ⟨Z, Z, Nat.le_of_ble_eq_true Z⟩ (u2 := .agg [_, _, _]) Z fun H8 (hS8 : Own _ _ _ (_ :: _ :: _ :: _ :: _ :: _ :: L.eraseIdx k)) => EN (c88 ..) Z (Ab Z Z (Ab Z Z (EZ (c88 ..) Z (Ap (AA (Ao (Ak (res3 Z (AP hS8 (k := 3) Z Z Z Z (Aj Z Z Z)) (Ai Z) (Ai Z)) ?_)))))))))))
  exact rdone (Own.dr4 (Own.mono hS8 (Ax (Az (a := [9, 0, 1, 1, 1, 1, 1, 0, 1, 1]) hp)))) hL hq
theorem rrun_4 (hg : c.good) (hm : m.fit) (hd : m.d = 4) (hf : X.freeze [] H 8 v0 = c.enc) (hS : Own β ps (X.lose (X.reach [] H 8 v0) H) L) (hL : L[k]? = some (rorc qo S)) (hle : le ps ν) (hβ : under β ν = true) (hp : before ν pos') {N : Nat} (hN : S.le N) (hn : N ≤ 4294960000)
    (hq : ∀ H1, Own β pos' H1 (L.set k (rorc qo (runR S key c m).2)) → Q (.tup [(runR S key c m).1.c.enc, .int .i64 (runR S key c m).1.e, .str (runR S key c m).1.an]) H1) : CW cfg ν 18 [.ptr qo 0 0, .int .u64 key, v0, m.enc] H Q := by
  replace hS := hS.pick hL
  have hsm := hg.sm
  rw [runR_4 hd] at hq
  have hR : X.reach [] H 9 (.tup [.ptr qo 0 0, .int .u64 key, v0, m.enc]) = X.reach [] H 8 v0 := by simp [X.reach, Cm.enc]
  rw [← hR] at hS
  refine Bu (args' := [.ptr qo 0 0, .int .u64 key, c.enc, m.enc]) g18 F18 Z (AF (Ae Z) (AF (Ae Z) (AF (by assumption) (AF (Ae Z) Bw)))) ?_
  replace hS := Own.mono hS hle
  refine Ac (AR hS (AE (p := ν) (b := [0, 0])) (Af [0, 0] hβ) Z Z Z ⟨Z, Z⟩ fun H1 (hS1 : Own _ _ _ (_ :: _ :: L.eraseIdx k)) => AR hS1 le_refl (Af [1, 0] hβ) Z Z Z ⟨Z, Z⟩ fun H2 (hS2 : Own _ _ _ (_ :: _ :: _ :: L.eraseIdx k)) => AG hS2 le_refl (Af [2, 0] hβ) Z Z Z Z fun H3 (hS3 : Own _ _ _ (_ :: _ :: _ :: _ :: L.eraseIdx k)) => EN (c88 ..) Z (Ab Z Z (Ab Z Z (EZ (c88 ..) Z (Ac (Ad hS3 (k := 2) Z Z Z Z Z (Aj Z Z Z) (AB Z Z (copy_c (v0 := c.enc) Z (Bp hS3 Z) (Ar (ν := ν) (a := [3, 0]) (b := [1, 0, 1]) (by decide)) (Af [1, 0, 1] hβ) (Au (ν := ν) (a := [1, 0, 1]) (b := [2, 0, 1]) (by decide)) hsm fun H4 V S1 T hS4 => ?_) )))))))
  replace hS4 : Own _ _ _ (_ :: _ :: _ :: _ :: _ :: L.eraseIdx k) := hS4
  refine AG hS4 le_refl (Af [2, 0, 1] hβ) Z Z Z Z fun H5 (hS5 : Own _ _ _ (_ :: _ :: _ :: _ :: _ :: _ :: L.eraseIdx k)) => EN (c88 ..) Z (Av hS5 (k := 0) Z le_refl Z Z Z Z ⟨Z, Z, Nat.le_of_ble_eq_true Z⟩ (u2 := .agg [_, _, _]) Z fun H6 (hS6 : Own _ _ _ (_ :: _ :: _ :: _ :: _ :: _ :: L.eraseIdx k)) => EZ (c88 ..) Z (Aq (Ac (Al Z Z Z (Ad hS6 (k := 3) Z Z Z Z Z Z (EZ (c88 ..) Z (AD (Ac ?_))))))))
  rw [hd]
  refine Ah Z Z Z Z Z (Ab Z Z (EZ (c88 ..) Z (Bd Z Z (Ac (Ah Z Z Z Z Z (Ab Z Z (EZ (c88 ..) Z (Bd Z Z (Ac (Ah Z Z Z Z Z (Ab Z Z (EZ (c88 ..) Z (Bd Z Z (Aq (Ac (Ah Z Z Z Z Z (Ab Z Z (EZ (c88 ..) Z (Bd Z Z (Ac (Ah Z Z Z Z Z (Ab Z Z (EZ (c88 ..) Z (AZ Z Z (At (Ag (AZ Z Z (Ac ?_))))))))))))))))))))))))))))
  replace hS6 := Own.run_ord hS6
  refine Aa Z Z (Aa Z Z (Ad hS6 (k := 2) Z Z Z Z Z (Aj Z Z Z) (EN (c88 ..) Z (Ad hS6 (k := 4) Z Z Z Z Z (Aj Z Z Z) (AB Z Z (rleaf_4 hg hm hd hS6 (Ar (ν := ν) (a := [4, 0, 1]) (b := [4, 0, 1, 1, 1, 1, 1, 0, 1, 1]) (by decide)) (Af [4, 0, 1, 1, 1, 1, 1, 0, 1, 1] hβ) (Au (ν := ν) (a := [4, 0, 1, 1, 1, 1, 1, 0, 1, 1]) (b := [5, 0, 1, 1, 1, 1, 1, 0, 1, 1]) (by decide)) hN hn fun H7 V2 S2 T2 hS7 => ?_) )))))
  replace hS7 : Own _ _ _ (_ :: _ :: _ :: _ :: _ :: _ :: L.eraseIdx k) := hS7
  refine AK Z Z Z (EN (c88 ..) Z (AK Z Z Z (AK Z Z Z (Av hS7 (k := 3) Z (Ar (ν := ν) (a := [5, 0, 1, 1, 1, 1, 1, 0, 1, 1]) (b := [8, 0, 1, 1, 1, 1, 1, 0, 1, 1]) (by decide)) Z Z Z Z ⟨Z, Z, Nat.le_of_ble_eq_true Z⟩ (u2 := .agg [_, _, _]) Z fun H8 (hS8 : Own _ _ _ (_ :: _ :: _ :: _ :: _ :: _ :: L.eraseIdx k)) => EN (c88 ..) Z (Ab Z Z (Ab Z Z (EZ (c88 ..) Z (Ap (AA (Ao (Ak (res3 Z (AP hS8 (k := 3) Z Z Z Z (Aj Z Z Z)) (Ai Z) (Ai Z)) ?_)))))))))))
  exact rdone (Own.dr4 (Own.mono hS8 (Ax (Az (a := [9, 0, 1, 1, 1, 1, 1, 0, 1, 1]) hp)))) hL hq
theorem rrun_5 (hg : c.good) (hm : m.fit) (hd : m.d = 5) (hf : X.freeze [] H 8 v0 = c.enc) (hS : Own β ps (X.lose (X.reach [] H 8 v0) H) L) (hL : L[k]? = some (rorc qo S)) (hle : le ps ν) (hβ : under β ν = true) (hp : before ν pos') {N : Nat} (hN : S.le N) (hn : N ≤ 4294960000)
    (hq : ∀ H1, Own β pos' H1 (L.set k (rorc qo (runR S key c m).2)) → Q (.tup [(runR S key c m).1.c.enc, .int .i64 (runR S key c m).1.e, .str (runR S key c m).1.an]) H1) : CW cfg ν 18 [.ptr qo 0 0, .int .u64 key, v0, m.enc] H Q := by
  replace hS := hS.pick hL
  have hsm := hg.sm
  rw [runR_5 hd] at hq
  have hR : X.reach [] H 9 (.tup [.ptr qo 0 0, .int .u64 key, v0, m.enc]) = X.reach [] H 8 v0 := by simp [X.reach, Cm.enc]
  rw [← hR] at hS
  refine Bu (args' := [.ptr qo 0 0, .int .u64 key, c.enc, m.enc]) g18 F18 Z (AF (Ae Z) (AF (Ae Z) (AF (by assumption) (AF (Ae Z) Bw)))) ?_
  replace hS := Own.mono hS hle
  refine Ac (AR hS (AE (p := ν) (b := [0, 0])) (Af [0, 0] hβ) Z Z Z ⟨Z, Z⟩ fun H1 (hS1 : Own _ _ _ (_ :: _ :: L.eraseIdx k)) => AR hS1 le_refl (Af [1, 0] hβ) Z Z Z ⟨Z, Z⟩ fun H2 (hS2 : Own _ _ _ (_ :: _ :: _ :: L.eraseIdx k)) => AG hS2 le_refl (Af [2, 0] hβ) Z Z Z Z fun H3 (hS3 : Own _ _ _ (_ :: _ :: _ :: _ :: L.eraseIdx k)) => EN (c88 ..) Z (Ab Z Z (Ab Z Z (EZ (c88 ..) Z (Ac (Ad hS3 (k := 2) Z Z Z Z Z (Aj Z Z Z) (AB Z Z (copy_c (v0 := c.enc) Z (Bp hS3 Z) (Ar (ν := ν) (a := [3, 0]) (b := [1, 0, 1]) (by decide)) (Af [1, 0, 1] hβ) (Au (ν := ν) (a := [1, 0, 1]) (b := [2, 0, 1]) (by decide)) hsm fun H4 V S1 T hS4 => ?_) )))))))
  replace hS4 : Own _ _ _ (_ :: _ :: _ :: _ :: _ :: L.eraseIdx k) := hS4
  refine AG hS4 le_refl (Af [2, 0, 1] hβ) Z Z Z Z fun H5 (hS5 : Own _ _ _ (_ :: _ :: _ :: _ :: _ :: _ :: L.eraseIdx k)) => EN (c88 ..) Z (Av hS5 (k := 0) Z le_refl Z Z Z Z ⟨Z, Z, Nat.le_of_ble_eq_true Z⟩ (u2 := .agg [_, _, _]) Z fun H6 (hS6 : Own _ _ _ (_ :: _ :: _ :: _ :: _ :: _ :: L.eraseIdx k)) => EZ (c88 ..) Z (Aq (Ac (Al Z Z Z (Ad hS6 (k := 3) Z Z Z Z Z Z (EZ (c88 ..) Z (AD (Ac ?_))))))))
  rw [hd]
  refine Ah Z Z Z Z Z (Ab Z Z (EZ (c88 ..) Z (Bd Z Z (Ac (Ah Z Z Z Z Z (Ab Z Z (EZ (c88 ..) Z (Bd Z Z (Ac (Ah Z Z Z Z Z (Ab Z Z (EZ (c88 ..) Z (Bd Z Z (Aq (Ac (Ah Z Z Z Z Z (Ab Z Z (EZ (c88 ..) Z (Bd Z Z (Ac (Ah Z Z Z Z Z (Ab Z Z (EZ (c88 ..) Z (Bd Z Z (AC (Ah Z Z Z Z Z (Ab Z Z (EZ (c88 ..) Z (Ag (AZ Z Z (Ac ?_)))))))))))))))))))))))))))))))
  replace hS6 := Own.run_ord hS6
  refine Aa Z Z (Aa Z Z (Ad hS6 (k := 2) Z Z Z Z Z (Aj Z Z Z) (EN (c88 ..) Z (Ad hS6 (k := 4) Z Z Z Z Z (Aj Z Z Z) (AB Z Z (rleaf_5 hg hm hd hS6 (Ar (ν := ν) (a := [4, 0, 1]) (b := [4, 0, 1, 1, 1, 1, 1, 0, 1, 1]) (by decide)) (Af [4, 0, 1, 1, 1, 1, 1, 0, 1, 1] hβ) (Au (ν := ν) (a := [4, 0, 1, 1, 1, 1, 1, 0, 1, 1]) (b := [5, 0, 1, 1, 1, 1, 1, 0, 1, 1]) (by decide)) hN hn fun H7 V2 S2 T2 hS7 => ?_) )))))
  replace hS7 : Own _ _ _ (_ :: _ :: _ :: _ :: _ :: _ :: L.eraseIdx k) := hS7
  refine AK Z Z Z (EN (c88 ..) Z (AK Z Z Z (AK Z Z Z (Av hS7 (k := 3) Z (Ar (ν := ν) (a := [5, 0, 1, 1, 1, 1, 1, 0, 1, 1]) (b := [8, 0, 1, 1, 1, 1, 1, 0, 1, 1]) (by decide)) Z Z Z Z ⟨Z, Z, Nat.le_of_ble_eq_true Z⟩ (u2 := .agg [_, _, _]) Z fun H8 (hS8 : Own _ _ _ (_ :: _ :: _ :: _ :: _ :: _ :: L.eraseIdx k)) => EN (c88 ..) Z (Ab Z Z (Ab Z Z (EZ (c88 ..) Z (Ap (AA (Ao (Ak (res3 Z (AP hS8 (k := 3) Z Z Z Z (Aj Z Z Z)) (Ai Z) (Ai Z)) ?_)))))))))))
  exact rdone (Own.dr4 (Own.mono hS8 (Ax (Az (a := [9, 0, 1, 1, 1, 1, 1, 0, 1, 1]) hp)))) hL hq
theorem rrun_c (hg : c.good) (hm : m.fit) (hf : X.freeze [] H 8 v0 = c.enc) (hS : Own β ps (X.lose (X.reach [] H 8 v0) H) L) (hL : L[k]? = some (rorc qo S)) (hle : le ps ν) (hβ : under β ν = true) (hp : before ν pos') {N : Nat} (hN : S.le N) (hn : N ≤ 4294960000)
    (hq : ∀ H1, Own β pos' H1 (L.set k (rorc qo (runR S key c m).2)) → Q (.tup [(runR S key c m).1.c.enc, .int .i64 (runR S key c m).1.e, .str (runR S key c m).1.an]) H1) : CW cfg ν 18 [.ptr qo 0 0, .int .u64 key, v0, m.enc] H Q := by
  rcases (by omega : m.d = 0 ∨ m.d = 1 ∨ m.d = 2 ∨ m.d = 3 ∨ m.d = 4 ∨ m.d = 5 ∨ (m.d < 0 ∨ 6 ≤ m.d)) with hd | hd | hd | hd | hd | hd | hd
  · exact rrun_0 hg hm hd hf hS hL hle hβ hp hN hn hq
  · exact rrun_1 hg hm hd hf hS hL hle hβ hp hN hn hq
  · exact rrun_2 hg hm hd hf hS hL hle hβ hp hN hn hq
  · exact rrun_3 hg hm hd hf hS hL hle hβ hp hN hn hq
  · exact rrun_4 hg hm hd hf hS hL hle hβ hp hN hn hq
  · exact rrun_5 hg hm hd hf hS hL hle hβ hp hN hn hq
  exact rrun_bad hg hm hd hf hS hL hle hβ hp hN hn hq
end
/- Layer 13: the reference's Apply. -/
set_option maxRecDepth 100000
section
open Go Go.RowKit WM
variable {ν β ps pos pos' : Nm} {H H1 : Heap} {Q : AVal → Heap → Prop} {L : List Asr} {k : Nat} {S : Rf} {c : Ck} {q qo : Nm} {key want id nr : Int} {m : Cm} {v0 : AVal} {cmd : ByteArray}
theorem Own.ss_frz {V S0 T0 : AVal} (h : Own β ps H L) (hL : L[k]? = some (stO V S0 T0 c)) : X.freeze [] H 8 S0 = .lst (c.ss.map SE.Se.enc) := by
  obtain ⟨f, ⟨f1, f2, h0, h1, h2, f3, f4, k0, k1, k2, f5, f6, m0, m1, m2, m3⟩, _⟩ := h.get hL
  exact Sl.freezeP (n := 7) k2 se_plain
theorem rseek_e {v : AVal} {t : List SE.Se} {kk : Int} {s : ByteArray} (hv : X.freeze [] H 8 v = .lst (t.map SE.Se.enc)) (hn : t.length ≤ 4294967296) (id nr : Int) (he : SE.seekL id nr t = (kk, s)) (hq : Q (.tup [.int .i64 kk, .str s]) H) : CW cfg ν 42 [v, .int .u64 id, .int .u64 nr] H Q := SE.rSeek hv hn id nr (by rw [he]; exact hq)
theorem runpack_e {s : ByteArray} {m : Cm} {b : Bool} (hs : s.size ≤ 4611686018427387904) (he : unpC s = (m, b)) (hq : Q (.tup [m.enc, .bool b]) H) : CW cfg ν 20 [.str s] H Q := r_unpackC hs (by rw [he]; exact hq)
theorem Own.b3 {X1 B0 B1 B2 : Asr} (h : Own β ps H (B0 :: X1 :: B1 :: B2 :: L)) : Own β ps H (X1 :: L) := Own.drop (Own.drop (Own.drop0 h) (k := 1) Z) (k := 1) Z
theorem rapply_old {s : ByteArray} (he : SE.seekL id nr c.ss = (2, s)) (hg : c.good) (hf : X.freeze [] H 8 v0 = c.enc) (hS : Own β ps (X.lose (X.reach [] H 8 v0) H) L) (hle : le ps ν) (hβ : under β ν = true) (hp : before ν pos')
    (hq : ∀ H1, Own β pos' H1 L → Q (.tup [c.enc, .int .i64 131, .str ⟨#[]⟩]) H1) : CW cfg ν 13 [.ptr qo 0 0, .int .u64 key, v0, .int .u64 id, .int .u64 nr, .str cmd] H Q := by
  have hsm := hg.sm
  have hsl := hg.sl
  have hR : X.reach [] H 9 (.tup [.ptr qo 0 0, .int .u64 key, v0, .int .u64 id, .int .u64 nr, .str cmd]) = X.reach [] H 8 v0 := by simp [X.reach]
  rw [← hR] at hS
  refine Bu (args' := [.ptr qo 0 0, .int .u64 key, c.enc, .int .u64 id, .int .u64 nr, .str cmd]) g13 F13 Z (AF (Ae Z) (AF (Ae Z) (AF (by assumption) (AF (Ae Z) (AF (Ae Z) (AF (Ae Z) Bw)))))) ?_
  replace hS := Own.mono hS hle
  refine Ac (AR hS (AE (p := ν) (b := [0, 0])) (Af [0, 0] hβ) Z Z Z ⟨Z, Z⟩ fun H1 (hS1 : Own _ _ _ (_ :: L)) => AG hS1 le_refl (Af [1, 0] hβ) Z Z Z Z fun H2 (hS2 : Own _ _ _ (_ :: _ :: L)) => Ab Z Z (EN (c97 ..) Z (Ab Z Z (EZ (c97 ..) Z (Ac (Ad hS2 (k := 1) Z Z Z Z Z (Aj Z Z Z) (AB Z Z (copy_c (v0 := c.enc) Z (Bp hS2 Z) (Ar (ν := ν) (a := [2, 0]) (b := [1, 0, 1]) (by decide)) (Af [1, 0, 1] hβ) (Au (ν := ν) (a := [1, 0, 1]) (b := [2, 0, 1]) (by decide)) hsm fun H3 V S1 T hS3 => ?_) )))))))
  replace hS3 : Own _ _ _ (_ :: _ :: _ :: L) := hS3
  refine AG hS3 le_refl (Af [2, 0, 1] hβ) Z Z Z Z fun H4 (hS4 : Own _ _ _ (_ :: _ :: _ :: _ :: L)) => EN (c97 ..) Z (Av hS4 (k := 0) Z le_refl Z Z Z Z ⟨Z, Z, Nat.le_of_ble_eq_true Z⟩ (u2 := .agg [_, _, _]) Z fun H5 (hS5 : Own _ _ _ (_ :: _ :: _ :: _ :: L)) => EZ (c97 ..) Z (Ac (Al Z Z Z (Ad hS5 (k := 0) Z Z Z Z Z Z (Aa Z Z (EN (c97 ..) Z (Aa Z Z (AB Z Z (rseek_e (Own.ss_frz hS5 (k := 1) Z) (by omega) id nr he ?_) ))))))))
  refine Aa Z Z (EN (c97 ..) Z (AK Z Z Z (AK Z Z Z (Ab Z Z (EN (c97 ..) Z (Ab Z Z (EZ (c97 ..) Z (Aq (Ac (Aa Z Z (Ah Z Z Z Z Z (EZ (c97 ..) Z (AZ Z Z (Ac (Ad hS5 (k := 0) Z Z Z Z Z (Aj Z Z Z) (Av hS5 (k := 2) Z (Ar (ν := ν) (a := [4, 0, 1]) (b := [1, 0, 1, 0, 1, 1, 1]) (by decide)) Z Z Z Z ⟨Z, Z, Nat.le_of_ble_eq_true Z⟩ (u2 := .agg [_, _, _]) Z fun H6 (hS6 : Own _ _ _ (_ :: _ :: _ :: _ :: L)) => Ab Z Z (EN (c97 ..) Z (Ab Z Z (EZ (c97 ..) Z (Ap (Ao (Ak (res3 Z (AP hS6 (k := 2) Z Z Z Z (Aj Z Z Z)) (Ai Z) (Ai Z)) ?_))))))))))))))))))))))
  have hz := Own.b3 (Own.mono hS6 (Ax (Az (a := [2, 0, 1, 0, 1, 1, 1]) hp)))
  obtain ⟨fz, hfz, _⟩ := hz.get (k := 0) Z
  rw [fz3 (stO_F hfz)]; exact hq _ (Own.lose hz fun f hf => rc3 (stO_F hf))
theorem rapply_again {s : ByteArray} (he : SE.seekL id nr c.ss = (1, s)) (hs : s.size ≤ 4611686018427387904) (hg : c.good) (hf : X.freeze [] H 8 v0 = c.enc) (hS : Own β ps (X.lose (X.reach [] H 8 v0) H) L) (hle : le ps ν) (hβ : under β ν = true) (hp : before ν pos')
    (hq : ∀ H1, Own β pos' H1 L → Q (.tup [c.enc, .int .i64 (ntS s).1, .str (ntS s).2]) H1) : CW cfg ν 13 [.ptr qo 0 0, .int .u64 key, v0, .int .u64 id, .int .u64 nr, .str cmd] H Q := by
  have hsm := hg.sm
  have hsl := hg.sl
  have hr : (resU s).2.1.size ≤ 4611686018427387904 := Nat.le_trans (resU_size s) hs
  have hR : X.reach [] H 9 (.tup [.ptr qo 0 0, .int .u64 key, v0, .int .u64 id, .int .u64 nr, .str cmd]) = X.reach [] H 8 v0 := by simp [X.reach]
  rw [← hR] at hS
  refine Bu (args' := [.ptr qo 0 0, .int .u64 key, c.enc, .int .u64 id, .int .u64 nr, .str cmd]) g13 F13 Z (AF (Ae Z) (AF (Ae Z) (AF (by assumption) (AF (Ae Z) (AF (Ae Z) (AF (Ae Z) Bw)))))) ?_
  replace hS := Own.mono hS hle
  refine Ac (AR hS (AE (p := ν) (b := [0, 0])) (Af [0, 0] hβ) Z Z Z ⟨Z, Z⟩ fun H1 (hS1 : Own _ _ _ (_ :: L)) => AG hS1 le_refl (Af [1, 0] hβ) Z Z Z Z fun H2 (hS2 : Own _ _ _ (_ :: _ :: L)) => Ab Z Z (EN (c97 ..) Z (Ab Z Z (EZ (c97 ..) Z (Ac (Ad hS2 (k := 1) Z Z Z Z Z (Aj Z Z Z) (AB Z Z (copy_c (v0 := c.enc) Z (Bp hS2 Z) (Ar (ν := ν) (a := [2, 0]) (b := [1, 0, 1]) (by decide)) (Af [1, 0, 1] hβ) (Au (ν := ν) (a := [1, 0, 1]) (b := [2, 0, 1]) (by decide)) hsm fun H3 V S1 T hS3 => ?_) )))))))
  replace hS3 : Own _ _ _ (_ :: _ :: _ :: L) := hS3
  refine AG hS3 le_refl (Af [2, 0, 1] hβ) Z Z Z Z fun H4 (hS4 : Own _ _ _ (_ :: _ :: _ :: _ :: L)) => EN (c97 ..) Z (Av hS4 (k := 0) Z le_refl Z Z Z Z ⟨Z, Z, Nat.le_of_ble_eq_true Z⟩ (u2 := .agg [_, _, _]) Z fun H5 (hS5 : Own _ _ _ (_ :: _ :: _ :: _ :: L)) => EZ (c97 ..) Z (Ac (Al Z Z Z (Ad hS5 (k := 0) Z Z Z Z Z Z (Aa Z Z (EN (c97 ..) Z (Aa Z Z (AB Z Z (rseek_e (Own.ss_frz hS5 (k := 1) Z) (by omega) id nr he ?_) ))))))))
  refine Aa Z Z (EN (c97 ..) Z (AK Z Z Z (AK Z Z Z (Ab Z Z (EN (c97 ..) Z (Ab Z Z (EZ (c97 ..) Z (Aq (Ac (Aa Z Z (Ah Z Z Z Z Z (EZ (c97 ..) Z (Bd Z Z (At (Ag (Aq (Ac (Aa Z Z (Ah Z Z Z Z Z (EZ (c97 ..) Z (AZ Z Z (Ac (Aa Z Z (AB Z Z (rtakeU hs ?_) ))))))))))))))))))))))))
  refine Aa Z Z (EN (c97 ..) Z (AK Z Z Z (AK Z Z Z (AK Z Z Z (EN (c97 ..) Z (Ab Z Z (Ab Z Z (Ab Z Z (EZ (c97 ..) Z (Ac (Aa Z Z (Aa Z Z (By Z Z Z (EN (c97 ..) Z (AB Z Z (rtakeT_c hr (by omega) ?_) )))))))))))))))
  refine Aa Z Z (AK Z Z Z (EN (c97 ..) Z (AK Z Z Z (AK Z Z Z (Ab Z Z (EN (c97 ..) Z (Ab Z Z (Ab Z Z (EZ (c97 ..) Z (Ac (Ad hS5 (k := 0) Z Z Z Z Z (Aj Z Z Z) (Aa Z Z (Bc Z Z Z (EN (c97 ..) Z (Aa Z Z (Av hS5 (k := 2) Z (Ar (ν := ν) (a := [4, 0, 1]) (b := [4, 0, 1, 1, 1, 0, 1, 1, 1, 1]) (by decide)) Z Z Z Z ⟨Z, Z, Nat.le_of_ble_eq_true Z⟩ (u2 := .agg [_, _, _]) Z fun H6 (hS6 : Own _ _ _ (_ :: _ :: _ :: _ :: L)) => Ab Z Z (EN (c97 ..) Z (Ab Z Z (EZ (c97 ..) Z (Ap (Ao (Ak (res3 Z (AP hS6 (k := 2) Z Z Z Z (Aj Z Z Z)) (Ai Z) (Ai Z)) ?_))))))))))))))))))))))
  have hz := Own.b3 (Own.mono hS6 (Ax (Az (a := [5, 0, 1, 1, 1, 0, 1, 1, 1, 1]) hp)))
  obtain ⟨fz, hfz, _⟩ := hz.get (k := 0) Z
  rw [fz3 (stO_F hfz)]; exact hq _ (Own.lose hz fun f hf => rc3 (stO_F hf))
theorem Own.u2 {X1 X2 B1 B2 B3 B4 : Asr} (h : Own β ps H (X1 :: X2 :: B1 :: B2 :: B3 :: B4 :: L)) : Own β ps H (X1 :: X2 :: L) := Own.dr4 h
theorem own_loseO {V S0 T0 : AVal} (h : Own β ps H (stO V S0 T0 c :: L)) : Own β ps (X.lose (X.reach [] H 8 (.agg [V, S0, T0])) H) L := Own.lose h fun f hf => st_reach hf
theorem own_loseS {S0 : AVal} {l : List SE.Se} (h : Own β ps H (sl S0 3 (l.map SE.Se.enc) :: L)) : Own β ps (X.lose (X.reach [] H 8 S0) H) L := Own.lose h fun f hf => Sl.reachP hf se_plain
theorem rapply_ok {s0 : ByteArray} (he : SE.seekL id nr c.ss = (0, s0)) (hu : unpC cmd = (m, true)) (hm : m.fit) (hg : c.good) (hc : cmd.size ≤ 1099511627776) (hf : X.freeze [] H 8 v0 = c.enc) (hS : Own β ps (X.lose (X.reach [] H 8 v0) H) L) (hL : L[k]? = some (rorc qo S)) (hle : le ps ν) (hβ : under β ν = true) (hp : before ν pos') {N : Nat} (hN : S.le N) (hn : N ≤ 4294960000)
    (hq : ∀ H1, Own β pos' H1 (L.set k (rorc qo (runR S key c m).2)) → Q (.tup [(noteR (runR S key c m).1 id nr).c.enc, .int .i64 (runR S key c m).1.e, .str (runR S key c m).1.an]) H1) : CW cfg ν 13 [.ptr qo 0 0, .int .u64 key, v0, .int .u64 id, .int .u64 nr, .str cmd] H Q := by
  have hsm := hg.sm
  have hsl := hg.sl
  have han := runR_an (S := S) (key := key) (m := m) hg
  have hne := noteE_size (e := (runR S key c m).1.e) han
  have hs1 := encS_size (s := (runR S key c m).1.an) (by omega)
  have hs2 := encU_i (u64_wr (runR S key c m).1.e)
  have hg2 := (runR_good (S := S) (key := key) hg hm).sl
  replace hS := hS.pick hL
  have hR : X.reach [] H 9 (.tup [.ptr qo 0 0, .int .u64 key, v0, .int .u64 id, .int .u64 nr, .str cmd]) = X.reach [] H 8 v0 := by simp [X.reach]
  rw [← hR] at hS
  refine Bu (args' := [.ptr qo 0 0, .int .u64 key, c.enc, .int .u64 id, .int .u64 nr, .str cmd]) g13 F13 Z (AF (Ae Z) (AF (Ae Z) (AF (by assumption) (AF (Ae Z) (AF (Ae Z) (AF (Ae Z) Bw)))))) ?_
  replace hS := Own.mono hS hle
  refine Ac (AR hS (AE (p := ν) (b := [0, 0])) (Af [0, 0] hβ) Z Z Z ⟨Z, Z⟩ fun H1 (hS1 : Own _ _ _ (_ :: _ :: L.eraseIdx k)) => AG hS1 le_refl (Af [1, 0] hβ) Z Z Z Z fun H2 (hS2 : Own _ _ _ (_ :: _ :: _ :: L.eraseIdx k)) => Ab Z Z (EN (c97 ..) Z (Ab Z Z (EZ (c97 ..) Z (Ac (Ad hS2 (k := 1) Z Z Z Z Z (Aj Z Z Z) (AB Z Z (copy_c (v0 := c.enc) Z (Bp hS2 Z) (Ar (ν := ν) (a := [2, 0]) (b := [1, 0, 1]) (by decide)) (Af [1, 0, 1] hβ) (Au (ν := ν) (a := [1, 0, 1]) (b := [2, 0, 1]) (by decide)) hsm fun H3 V S1 T hS3 => ?_) )))))))
  replace hS3 : Own _ _ _ (_ :: _ :: _ :: _ :: L.eraseIdx k) := hS3
  refine AG hS3 le_refl (Af [2, 0, 1] hβ) Z Z Z Z fun H4 (hS4 : Own _ _ _ (_ :: _ :: _ :: _ :: _ :: L.eraseIdx k)) => EN (c97 ..) Z (Av hS4 (k := 0) Z le_refl Z Z Z Z ⟨Z, Z, Nat.le_of_ble_eq_true Z⟩ (u2 := .agg [_, _, _]) Z fun H5 (hS5 : Own _ _ _ (_ :: _ :: _ :: _ :: _ :: L.eraseIdx k)) => EZ (c97 ..) Z (Ac (Al Z Z Z (Ad hS5 (k := 0) Z Z Z Z Z Z (Aa Z Z (EN (c97 ..) Z (Aa Z Z (AB Z Z (rseek_e (Own.ss_frz hS5 (k := 1) Z) (by omega) id nr he ?_) ))))))))
  refine Aa Z Z (EN (c97 ..) Z (AK Z Z Z (AK Z Z Z (Ab Z Z (EN (c97 ..) Z (Ab Z Z (EZ (c97 ..) Z (Aq (Ac (Aa Z Z (Ah Z Z Z Z Z (EZ (c97 ..) Z (Bd Z Z (At (Ag (Aq (Ac (Aa Z Z (Ah Z Z Z Z Z (EZ (c97 ..) Z (Bd Z Z (At (Ag (Ac (Aa Z Z (AB Z Z (runpack_e (by omega) hu ?_) ))))))))))))))))))))))))))
  refine Aa Z Z (EN (c97 ..) Z (AK Z Z Z (AK Z Z Z (AG hS5 (Ar (ν := ν) (a := [4, 0, 1]) (b := [5, 0, 1, 1, 1, 1, 1]) (by decide)) (Af [5, 0, 1, 1, 1, 1, 1] hβ) Z Z Z Z fun H6 (hS6 : Own _ _ _ (_ :: _ :: _ :: _ :: _ :: _ :: L.eraseIdx k)) => EN (c97 ..) Z (Av hS6 (k := 0) Z le_refl Z Z Z Z ⟨Z, Z, Nat.le_of_ble_eq_true Z⟩ (u2 := .agg [_, _, _, _, _, _, _, _, _, _, _]) Z fun H7 (hS7 : Own _ _ _ (_ :: _ :: _ :: _ :: _ :: _ :: L.eraseIdx k)) => Ab Z Z (EZ (c97 ..) Z (Ac (Ab Z Z (EZ (c97 ..) Z (Ac (Ab Z Z (EZ (c97 ..) Z (Aq (Ac (Aa Z Z (EZ (c97 ..) Z (AZ Z Z (Ac ?_))))))))))))))))))
  replace hS7 := Own.tor (A := [_, _]) hS7
  refine Aa Z Z (Aa Z Z (Ad hS7 (k := 2) Z Z Z Z Z (Aj Z Z Z) (EN (c97 ..) Z (Ad hS7 (k := 1) Z Z Z Z Z (Aj Z Z Z) (AB Z Z (rrun_c hg hm (v0 := .agg [V, S1, T]) (Own.st_frz hS7 (k := 0) Z) (own_loseO hS7) (k := 4) Z (Ar (ν := ν) (a := [7, 0, 1, 1, 1, 1, 1]) (b := [4, 0, 1, 0, 1, 1, 1, 1, 1, 1, 1, 1]) (by decide)) (Af [4, 0, 1, 0, 1, 1, 1, 1, 1, 1, 1, 1] hβ) (Au (ν := ν) (a := [4, 0, 1, 0, 1, 1, 1, 1, 1, 1, 1, 1]) (b := [5, 0, 1, 0, 1, 1, 1, 1, 1, 1, 1, 1]) (by decide)) hN hn fun H8 hS8 => ?_) )))))
  replace hS8 : Own _ _ _ (_ :: _ :: _ :: _ :: _ :: L.eraseIdx k) := hS8
  refine Aa Z Z (EN (c97 ..) Z (AK Z Z Z (AK Z Z Z (AK Z Z Z (EN (c97 ..) Z (AG hS8 (Ar (ν := ν) (a := [5, 0, 1, 0, 1, 1, 1, 1, 1, 1, 1, 1]) (b := [9, 0, 1, 0, 1, 1, 1, 1, 1, 1, 1, 1]) (by decide)) (Af [9, 0, 1, 0, 1, 1, 1, 1, 1, 1, 1, 1] hβ) Z Z Z Z fun H9 (hS9 : Own _ _ _ (_ :: _ :: _ :: _ :: _ :: _ :: L.eraseIdx k)) => Av hS9 (k := 0) Z le_refl Z Z Z Z ⟨Z, Z, Nat.le_of_ble_eq_true Z⟩ (u2 := .agg [_, _, _]) Z fun H10 (hS10 : Own _ _ _ (_ :: _ :: _ :: _ :: _ :: _ :: L.eraseIdx k)) => Ab Z Z (EN (c97 ..) Z (Ab Z Z (EZ (c97 ..) Z (Ac (Ad hS10 (k := 0) Z Z Z Z Z (Aj Z Z Z) (Av hS10 (k := 2) Z (Ar (ν := ν) (a := [11, 0, 1, 0, 1, 1, 1, 1, 1, 1, 1, 1]) (b := [1, 0, 1, 1, 0, 1, 1, 1, 1, 1, 1, 1, 1]) (by decide)) Z Z Z Z ⟨Z, Z, Nat.le_of_ble_eq_true Z⟩ (u2 := .agg [_, _, _]) Z fun H11 (hS11 : Own _ _ _ (_ :: _ :: _ :: _ :: _ :: _ :: L.eraseIdx k)) => EZ (c97 ..) Z (Ac (Aa Z Z (Ab Z Z (EZ (c97 ..) Z ?_))))))))))))))))
  refine AC (Aa Z Z (Ab Z Z (EZ (c97 ..) Z (Ag (Ac (Al Z Z Z (Ad hS11 (k := 2) Z Z Z Z Z Z (Aa Z Z (EN (c97 ..) Z (Aa Z Z (Aa Z Z (Bc Z Z Z (EN (c97 ..) Z (AB Z Z (rputUi (u64_wr (runR S key c m).1.e) ?_) ))))))))))))))
  refine Aa Z Z (AB Z Z (rputTx (by omega) ?_) )
  refine EN (c97 ..) Z (Ah Z Z Z Z (cat (by omega)) (AB Z Z (SE.rNote (t := (runR S key c m).1.c.ss) Z (Bp hS11 Z) (Ar (ν := ν) (a := [2, 0, 1, 1, 0, 1, 1, 1, 1, 1, 1, 1, 1]) (b := [10, 0, 1, 1, 1, 1, 1, 1, 1, 1, 1]) (by decide)) (Af [10, 0, 1, 1, 1, 1, 1, 1, 1, 1, 1] hβ) (Au (ν := ν) (a := [10, 0, 1, 1, 1, 1, 1, 1, 1, 1, 1]) (b := [11, 0, 1, 1, 1, 1, 1, 1, 1, 1, 1]) (by decide)) (by omega) id nr _ (by simp only [ss]; omega) fun H12 hS12 => ?_) ))
  replace hS12 : Own _ _ _ (_ :: _ :: _ :: _ :: _ :: _ :: L.eraseIdx k) := hS12
  refine Al Z Z Z (EN (c97 ..) Z (Av hS12 (k := 2) Z (Ar (ν := ν) (a := [11, 0, 1, 1, 1, 1, 1, 1, 1, 1, 1]) (b := [12, 0, 1, 1, 1, 1, 1, 1, 1, 1, 1]) (by decide)) Z Z Z Z ⟨Z, Z, Nat.le_of_ble_eq_true Z⟩ (u2 := .agg [_, _, _]) Z fun H13 (hS13 : Own _ _ _ (_ :: _ :: _ :: _ :: _ :: _ :: L.eraseIdx k)) => EZ (c97 ..) Z (Ac (Ad hS13 (k := 2) Z Z Z Z Z (Aj Z Z Z) (Aa Z Z (Aa Z Z (EN (c97 ..) Z (Av hS13 (k := 3) Z (Ar (ν := ν) (a := [13, 0, 1, 1, 1, 1, 1, 1, 1, 1, 1]) (b := [3, 0, 1, 1, 1, 1, 1, 1, 1, 1, 1, 1]) (by decide)) Z Z Z Z ⟨Z, Z, Nat.le_of_ble_eq_true Z⟩ (u2 := .agg [_, _, _]) Z fun H14 (hS14 : Own _ _ _ (_ :: _ :: _ :: _ :: _ :: _ :: L.eraseIdx k)) => Ab Z Z (Ab Z Z (EZ (c97 ..) Z (Ap (Ak (res3 Z (AP hS14 (k := 3) Z Z Z Z (Aj Z Z Z)) (Ai Z) (Ai Z)) ?_))))))))))))
  have hz := Own.drop (Own.drop (Own.drop (Own.drop (Own.drop0 (Own.mono hS14 (Ax (Az (a := [4, 0, 1, 1, 1, 1, 1, 1, 1, 1, 1, 1]) hp)))) (k := 0) Z) (k := 0) Z) (k := 0) Z) (k := 0) Z
  rw [fzC]; exact hq _ (Bp (Own.unpick hz hL) rcC)
theorem rapply_bad {s0 : ByteArray} (he : SE.seekL id nr c.ss = (0, s0)) (hu : unpC cmd = (m, false)) (hg : c.good) (hc : cmd.size ≤ 1099511627776) (hf : X.freeze [] H 8 v0 = c.enc) (hS : Own β ps (X.lose (X.reach [] H 8 v0) H) L) (hle : le ps ν) (hβ : under β ν = true) (hp : before ν pos')
    (hq : ∀ H1, Own β pos' H1 L → Q (.tup [(noteR (err c 130) id nr).c.enc, .int .i64 130, .str ⟨#[]⟩]) H1) : CW cfg ν 13 [.ptr qo 0 0, .int .u64 key, v0, .int .u64 id, .int .u64 nr, .str cmd] H Q := by
  have hsm := hg.sm
  have hsl := hg.sl
  have hs1 := encS_size (s := ⟨#[]⟩) (by decide)
  have hs2 := encU_i (u64_wr 130)
  have h00 : (⟨#[]⟩ : ByteArray).size = 0 := rfl
  have hR : X.reach [] H 9 (.tup [.ptr qo 0 0, .int .u64 key, v0, .int .u64 id, .int .u64 nr, .str cmd]) = X.reach [] H 8 v0 := by simp [X.reach]
  rw [← hR] at hS
  refine Bu (args' := [.ptr qo 0 0, .int .u64 key, c.enc, .int .u64 id, .int .u64 nr, .str cmd]) g13 F13 Z (AF (Ae Z) (AF (Ae Z) (AF (by assumption) (AF (Ae Z) (AF (Ae Z) (AF (Ae Z) Bw)))))) ?_
  replace hS := Own.mono hS hle
  refine Ac (AR hS (AE (p := ν) (b := [0, 0])) (Af [0, 0] hβ) Z Z Z ⟨Z, Z⟩ fun H1 (hS1 : Own _ _ _ (_ :: L)) => AG hS1 le_refl (Af [1, 0] hβ) Z Z Z Z fun H2 (hS2 : Own _ _ _ (_ :: _ :: L)) => Ab Z Z (EN (c97 ..) Z (Ab Z Z (EZ (c97 ..) Z (Ac (Ad hS2 (k := 1) Z Z Z Z Z (Aj Z Z Z) (AB Z Z (copy_c (v0 := c.enc) Z (Bp hS2 Z) (Ar (ν := ν) (a := [2, 0]) (b := [1, 0, 1]) (by decide)) (Af [1, 0, 1] hβ) (Au (ν := ν) (a := [1, 0, 1]) (b := [2, 0, 1]) (by decide)) hsm fun H3 V S1 T hS3 => ?_) )))))))
  replace hS3 : Own _ _ _ (_ :: _ :: _ :: L) := hS3
  refine AG hS3 le_refl (Af [2, 0, 1] hβ) Z Z Z Z fun H4 (hS4 : Own _ _ _ (_ :: _ :: _ :: _ :: L)) => EN (c97 ..) Z (Av hS4 (k := 0) Z le_refl Z Z Z Z ⟨Z, Z, Nat.le_of_ble_eq_true Z⟩ (u2 := .agg [_, _, _]) Z fun H5 (hS5 : Own _ _ _ (_ :: _ :: _ :: _ :: L)) => EZ (c97 ..) Z (Ac (Al Z Z Z (Ad hS5 (k := 0) Z Z Z Z Z Z (Aa Z Z (EN (c97 ..) Z (Aa Z Z (AB Z Z (rseek_e (Own.ss_frz hS5 (k := 1) Z) (by omega) id nr he ?_) ))))))))
  refine Aa Z Z (EN (c97 ..) Z (AK Z Z Z (AK Z Z Z (Ab Z Z (EN (c97 ..) Z (Ab Z Z (EZ (c97 ..) Z (Aq (Ac (Aa Z Z (Ah Z Z Z Z Z (EZ (c97 ..) Z (Bd Z Z (At (Ag (Aq (Ac (Aa Z Z (Ah Z Z Z Z Z (EZ (c97 ..) Z (Bd Z Z (At (Ag (Ac (Aa Z Z (AB Z Z (runpack_e (by omega) hu ?_) ))))))))))))))))))))))))))
  refine Aa Z Z (EN (c97 ..) Z (AK Z Z Z (AK Z Z Z (AG hS5 (Ar (ν := ν) (a := [4, 0, 1]) (b := [5, 0, 1, 1, 1, 1, 1]) (by decide)) (Af [5, 0, 1, 1, 1, 1, 1] hβ) Z Z Z Z fun H6 (hS6 : Own _ _ _ (_ :: _ :: _ :: _ :: _ :: L)) => EN (c97 ..) Z (Av hS6 (k := 0) Z le_refl Z Z Z Z ⟨Z, Z, Nat.le_of_ble_eq_true Z⟩ (u2 := .agg [_, _, _, _, _, _, _, _, _, _, _]) Z fun H7 (hS7 : Own _ _ _ (_ :: _ :: _ :: _ :: _ :: L)) => Ab Z Z (EZ (c97 ..) Z (Ac (Ab Z Z (EZ (c97 ..) Z (Ac (Ab Z Z (EZ (c97 ..) Z (Aq (Ac (Aa Z Z (EZ (c97 ..) Z (Bd Z Z (At (Ag (Ac ?_))))))))))))))))))))
  have hz : Own _ _ _ (stO V S1 T c :: _ :: _ :: _ :: _ :: L) := Own.tor (A := [_, _]) hS7
  have hz2 : Own _ _ _ (vols V c.vs :: sl S1 3 (c.ss.map SE.Se.enc) :: sl T 3 (c.qs.map Qu.enc) :: _ :: _ :: _ :: _ :: L) := Own.un_all hz
  replace hS7 : Own _ _ _ (sl S1 3 (c.ss.map SE.Se.enc) :: vols V c.vs :: sl T 3 (c.qs.map Qu.enc) :: _ :: _ :: _ :: _ :: L) := Own.tor (A := [_]) hz2
  refine Al Z Z Z (Ad hS7 (k := 4) Z Z Z Z Z Z (Aa Z Z (EN (c97 ..) Z (Aa Z Z (Aa Z Z (Bc Z Z Z (EN (c97 ..) Z (AB Z Z (rputUi (u64_wr 130) ?_) ))))))))
  refine Aa Z Z (AB Z Z (rputTx (by decide) ?_) )
  refine EN (c97 ..) Z (Ah Z Z Z Z (cat (by omega)) (AB Z Z (SE.rNote (t := c.ss) (Own.freeze0 hS7 (k := 0) Z se_plain) (own_loseS hS7) (Ar (ν := ν) (a := [7, 0, 1, 1, 1, 1, 1]) (b := [10, 0, 1, 1, 1, 1, 1, 1, 1, 1, 1]) (by decide)) (Af [10, 0, 1, 1, 1, 1, 1, 1, 1, 1, 1] hβ) (Au (ν := ν) (a := [10, 0, 1, 1, 1, 1, 1, 1, 1, 1, 1]) (b := [11, 0, 1, 1, 1, 1, 1, 1, 1, 1, 1]) (by decide)) (by omega) id nr _ (by simp only [ss]; omega) fun H8 hS8 => ?_) ))
  replace hS8 : Own _ _ _ (_ :: _ :: _ :: _ :: _ :: _ :: L) := hS8
  refine Al Z Z Z (EN (c97 ..) Z (Av hS8 (k := 3) Z (Ar (ν := ν) (a := [11, 0, 1, 1, 1, 1, 1, 1, 1, 1, 1]) (b := [12, 0, 1, 1, 1, 1, 1, 1, 1, 1, 1]) (by decide)) Z Z Z Z ⟨Z, Z, Nat.le_of_ble_eq_true Z⟩ (u2 := .agg [_, _, _]) Z fun H9 (hS9 : Own _ _ _ (_ :: _ :: _ :: _ :: _ :: _ :: L)) => EZ (c97 ..) Z (Ac (Ad hS9 (k := 3) Z Z Z Z Z (Aj Z Z Z) (Aa Z Z (Aa Z Z (EN (c97 ..) Z (Av hS9 (k := 4) Z (Ar (ν := ν) (a := [13, 0, 1, 1, 1, 1, 1, 1, 1, 1, 1]) (b := [3, 0, 1, 1, 1, 1, 1, 1, 1, 1, 1, 1]) (by decide)) Z Z Z Z ⟨Z, Z, Nat.le_of_ble_eq_true Z⟩ (u2 := .agg [_, _, _]) Z fun H10 (hS10 : Own _ _ _ (_ :: _ :: _ :: _ :: _ :: _ :: L)) => Ab Z Z (Ab Z Z (EZ (c97 ..) Z (Ap (Ak (res3 Z (AP hS10 (k := 4) Z Z Z Z (Aj Z Z Z)) (Ai Z) (Ai Z)) ?_))))))))))))
  have hz := Own.u2 (Own.mono hS10 (Ax (Az (a := [4, 0, 1, 1, 1, 1, 1, 1, 1, 1, 1, 1]) hp)))
  replace hz : Own _ _ _ (Asr.all [vols V c.vs, sl T 3 (c.qs.map Qu.enc)] :: L) := Own.mk_all (L1 := [_, _]) hz
  obtain ⟨fz, hfz, _⟩ := hz.get (k := 0) Z
  rw [fzM hfz]; exact hq _ (Own.lose hz fun f hf => rcM hf)
theorem rapply_c (hg : c.good) (hc : cmd.size ≤ 1099511627776) (hf : X.freeze [] H 8 v0 = c.enc) (hS : Own β ps (X.lose (X.reach [] H 8 v0) H) L) (hL : L[k]? = some (rorc qo S)) (hle : le ps ν) (hβ : under β ν = true) (hp : before ν pos') {N : Nat} (hN : S.le N) (hn : N ≤ 4294960000)
    (hq : ∀ H1, Own β pos' H1 (L.set k (rorc qo (applyR S key c id nr cmd).2)) → Q (.tup [(applyR S key c id nr cmd).1.c.enc, .int .i64 (applyR S key c id nr cmd).1.e, .str (applyR S key c id nr cmd).1.an]) H1) : CW cfg ν 13 [.ptr qo 0 0, .int .u64 key, v0, .int .u64 id, .int .u64 nr, .str cmd] H Q := by
  have han := seekL_an (id := id) (nr := nr) (of_decide_eq_true hg.sc).2.1
  rcases seekL_k (id := id) (nr := nr) c.ss with h | h | h
  · cases hu : unpC cmd with
    | mk m b =>
      have e : ∀ r, applyR S key c id nr cmd = r ↔ (if b = true then (noteR (runR S key c m).1 id nr, (runR S key c m).2) else (noteR (err c 130) id nr, S)) = r := fun r => by
        unfold applyR; rw [if_neg (by omega), if_neg (by omega), hu]
      cases b with
      | true =>
        rw [(e _).2 (if_pos rfl)] at hq
        exact rapply_ok (Prod.ext h rfl : SE.seekL id nr c.ss = (0, _)) hu (by have := unpC_fit hc; rw [hu] at this; exact this) hg hc hf hS hL hle hβ hp hN hn hq
      | false =>
        rw [(e _).2 (if_neg (by decide))] at hq
        rw [Bn hL] at hq
        exact rapply_bad (Prod.ext h rfl : SE.seekL id nr c.ss = (0, _)) hu hg hc hf hS hle hβ hp hq
  · rw [applyR, if_neg (by omega), if_pos h, Bn hL] at hq
    exact rapply_again (Prod.ext h rfl : SE.seekL id nr c.ss = (1, (SE.seekL id nr c.ss).2)) (Nat.le_trans han (by decide)) hg hf hS hle hβ hp hq
  rw [applyR, if_pos h, Bn hL] at hq
  exact rapply_old (Prod.ext h rfl : SE.seekL id nr c.ss = (2, _)) hg hf hS hle hβ hp hq
end
/- Layer 13: the law's plays: oracle, bytes, after. -/
set_option maxRecDepth 100000
section
open Go Go.RowKit WM
variable {ν β ps pos pos' : Nm} {H H1 : Heap} {Q : AVal → Heap → Prop} {L : List Asr} {k : Nat} {S : Rf} {c : Ck} {q qo : Nm} {key : Int}
structure Stp where
  id : Int
  nr : Int
  m : Cm
  raw : ByteArray
def Stp.enc (s : Stp) : AVal := .agg [.int .u64 s.id, .int .u64 s.nr, .int .i64 s.m.d, .int .u64 s.m.t.tn, .int .u64 s.m.t.vo, .int .u64 s.m.t.ep, .int .u64 s.m.t.ri, .int .u64 s.m.t.tag, .int .u64 s.m.vo, .int .u64 s.m.se, .int .u64 s.m.a, .int .u64 s.m.b, .str s.m.lf, .str s.raw]
structure Stp.fit (s : Stp) : Prop where
  id : U64 s.id
  nr : U64 s.nr
  m : s.m.fit
  lf : s.m.lf.size ≤ 1048576
  raw : s.raw.size ≤ 1048576
structure Py where
  c : Ck
  d : List Int
  key : Int
  iss : List Tk
  l : List Stp
def Py.enc (x : Py) : AVal := .agg [.lst (x.c.vs.map Vo.enc), .lst (x.c.ss.map SE.Se.enc), .lst (x.c.qs.map Qu.enc), .lst (x.d.map (fun a : Int => AVal.int .u64 a)), .int .u64 x.key, .lst (x.iss.map Tk.enc), .lst (x.l.map Stp.enc)]
structure Py.good (x : Py) : Prop where
  sz : x.c.sz
  d : x.d.length ≤ 1048576
  iss : x.iss.length ≤ 1048576
  ifit : ∀ t ∈ x.iss, t.fit
  l : x.l.length ≤ 1048576
  lfit : ∀ s ∈ x.l, s.fit
def Stp.bytes (s : Stp) : ByteArray := if s.raw ≠ ⟨#[]⟩ then s.raw else packC s.m
theorem Stp.fit.bytes {s : Stp} (h : s.fit) : s.bytes.size ≤ 1099511627776 := by
  have h1 := packC_size h.m; have h2 := h.lf; have h3 := h.raw
  unfold Stp.bytes; split <;> omega
theorem bytes_c {s : Stp} (h : s.fit) (hq : Q (.str s.bytes) H) : CW cfg ν 12 [s.enc] H Q := by
  refine Be g12 F12 Z ?_
  have hS0 : Own ν ν (fun _ => none) [] := Own.nil
  refine Ac (AR hS0 (AE (p := ν) (b := [0, 0])) (Af [0, 0] AI) Z Z Z ⟨Z, Z⟩ fun H1 (hS1 : Own _ _ _ ([_])) => Ab Z Z (Am (e' := [_,_,_,_,_,_,_,_,_,_,_]) Z (Aq (Ac (Al Z Z Z (Ad hS1 (k := 0) Z Z Z Z Z Z (Ah Z Z Z Z Z (Am (e' := [_,_,_,_,_,_,_,_,_,_,_]) Z (AH Z (fun h1 => ?_) (fun h1 => ?_))))))))))
  ·try simp only [bs] at h1
   refine Ac (Al Z Z Z (Ad hS1 (k := 0) Z Z Z Z Z Z (Ab Z Z (Am (e' := [_,_,_,_,_,_,_,_,_,_,_]) Z (Ap (Ao (Ak (res1 Z (Ai Z)) (frz1 (Q := Q) (Ae Z) ?_))))))))
   unfold Stp.bytes at hq; simp only [*, ne_eq, not_true_eq_false, not_false_eq_true, if_true, if_false] at hq; exact hq
  try simp only [bs] at h1
  refine At (Ag (Ac (Al Z Z Z (Ad hS1 (k := 0) Z Z Z Z Z Z (AB Z Z (p_packC h.m ?_) )))))
  refine Ay (e' := [_,_,_,_,_,_,_,_,_,_,_]) Z (Ab Z Z (Am (e' := [_,_,_,_,_,_,_,_,_,_,_]) Z (Ap (Ak (res1 Z (Ai Z)) (frz1 (Q := Q) (Ae Z) ?_)))))
  unfold Stp.bytes at hq; simp only [*, ne_eq, not_true_eq_false, not_false_eq_true, if_true, if_false] at hq; exact hq
def Py.os (x : Py) : Rf := ((Rf.new x.d).issues x.key (x.iss.take 20)).2
theorem Py.stop {x : Py} {i : Nat} (hi : i ≤ 20) (h : x.iss.length ≤ i ∨ 20 ≤ i) : ((Rf.new x.d).issues x.key (x.iss.take i)).2 = x.os := by
  unfold Py.os
  rcases h with h | h
  · rw [List.take_of_length_le h, List.take_of_length_le (by omega)]
  obtain rfl : i = 20 := by omega
  rfl
theorem oracle_c {x : Py} (hx : x.good) (hS : Own β ps H L) (hle : le ps ν) (hβ : under β ν = true) (hp : before ν pos')
    (hq : ∀ q H1, Own β pos' H1 (orc q x.os.of :: L) → Q (.ptr q 0 0) H1) : CW cfg ν 7 [x.enc] H Q := by
  have hil := hx.iss
  have hdl := hx.d
  refine AX g7 F7 rfl ?_
  replace hS := Own.mono hS hle
  refine Ac ?_
  refine AR hS (AE (p := ν) (b := [0, 0])) (Af [0, 0] hβ) rfl rfl rfl ⟨rfl, rfl⟩ fun H1 hS1 => ?_
  replace hS1 : Own _ _ _ (_ :: L) := hS1
  refine Ab rfl rfl ?_
  refine EZ (c38 ..) rfl ?_
  refine Ac (Al rfl rfl rfl ?_)
  refine Ad hS1 (k := 0) rfl rfl rfl rfl rfl (by rfl) ?_
  refine AB rfl rfl (oNew hS1 (Ar (ν := ν) (a := [1, 0]) (b := [2, 0, 1]) (by decide)) (Af [2, 0, 1] hβ) (Au (ν := ν) (a := [2, 0, 1]) (b := [3, 0, 1]) (by decide)) Ls.of (by omega) fun q1 H2 hS2 => ?_) 
  replace hS2 : Own _ _ _ (_ :: _ :: L) := hS2
  refine EN (c38 ..) rfl (Ab rfl rfl ?_)
  refine EZ (c38 ..) rfl ?_
  refine Aq (Ac (Ab rfl rfl ?_))
  refine EZ (c38 ..) rfl ?_
  refine AD ?_
  refine AV (I := fun ν' mm ee H' => ∃ (i : Nat), mm = x.iss.length - i ∧ under (1 :: 0 :: 1 :: 1 :: ν) ν' = true ∧ Own β ν' H' (orc q1 ((Rf.new x.d).issues x.key (x.iss.take i)).2.of :: row (0 :: 0 :: ν) 7 [x.enc] :: L) ∧ (i ≤ x.iss.length ∧ i ≤ 20) ∧ ∃ g : Nat → AVal, ee = [g 0, .ptr (0 :: 0 :: ν) 0 0, g 2, .ptr q1 0 0, .int .i64 i, g 5, g 6, g 7, g 8, g 9, g 10, g 11, g 12, g 13, g 14, g 15, g 16, g 17, g 18, g 19, g 20, g 21, g 22, g 23, g 24, g 25, g 26, g 27, g 28, g 29, g 30, g 31, g 32, g 33, g 34, g 35, g 36, g 37]) ?_ _ _ _ _ ⟨0, rfl, AI, Own.cast (Own.mono (hS2) (Ar (ν := ν) (a := [3, 0, 1]) (b := [1, 0, 1, 1]) (by decide))) (rfl), (⟨Nat.zero_le _, by omega⟩), AU rfl⟩
  rintro ν1 mm ee H3 ⟨i, rfl, hU1, hS3, ⟨hi, hi2⟩, g1, rfl⟩
  have hr := Rf.issues_rows (x.iss.take i) (S := Rf.new x.d) (key := x.key)
  rw [List.length_take] at hr
  refine Aq (Ac (Aa rfl rfl (Al rfl rfl rfl ?_)))
  refine Ad hS3 (k := 1) rfl rfl rfl rfl rfl (by rfl) ?_
  refine EN (c38 ..) rfl ?_
  refine Bj rfl rfl (by exact Ls.of) rfl rfl rfl (by exact List.length_map _) ?_
  refine Ah rfl rfl rfl rfl rfl ?_
  refine Aa rfl rfl (EN (c38 ..) rfl ?_)
  refine AT (tt := 14) rfl (fun g3_6 => ?_) (fun g3_6 => ?_)
  ·try simp only [bs] at g3_6
   refine Aa rfl rfl ?_
   refine Ah rfl rfl rfl rfl rfl ?_
   refine EN (c38 ..) rfl (Aw rfl rfl rfl ?_)
   refine EZ (c38 ..) rfl ?_
   refine AH rfl (fun h3 => ?_) (fun h3 => ?_)
   ·try simp only [bs] at h3
    refine At (Ag (Aq (AD (Ac (Al rfl rfl rfl ?_)))))
    refine Ad hS3 (k := 1) rfl rfl rfl rfl rfl (by rfl) ?_
    refine Aa rfl rfl (EN (c38 ..) rfl ?_)
    refine Bb rfl rfl rfl Ls.of rfl rfl rfl (by rfl) (by exact Ba (by omega)) rfl ?_
    refine AS rfl rfl rfl (by exact Aj rfl rfl rfl) ?_
    refine AG hS3 (AE (p := ν1) (b := [5, 0, 0, 1, 0])) (Af [5, 0, 0, 1, 0] (Bk (Af [1, 0, 1, 1] hβ) hU1)) rfl rfl rfl rfl fun H4 hS4 => ?_
    replace hS4 : Own _ _ _ (_ :: _ :: _ :: L) := hS4
    refine EN (c38 ..) rfl ?_
    refine Av hS4 (k := 0) rfl le_refl rfl rfl rfl rfl ⟨rfl, rfl, Nat.le_of_ble_eq_true rfl⟩ (u2 := .agg [_, _, _, _, _]) rfl fun H5 hS5 => ?_
    replace hS5 : Own _ _ _ (_ :: _ :: _ :: L) := hS5
    refine EZ (c38 ..) rfl ?_
    refine AC (Aa rfl rfl (Al rfl rfl rfl ?_))
    refine Ad hS5 (k := 2) rfl rfl rfl rfl rfl (by rfl) ?_
    refine EN (c38 ..) rfl (Al rfl rfl rfl ?_)
    refine Ad hS5 (k := 0) rfl rfl rfl rfl rfl (by rfl) ?_
    refine Al rfl rfl rfl (EN (c38 ..) rfl ?_)
    refine Ad hS5 (k := 0) rfl rfl rfl rfl rfl (by rfl) ?_
    refine Al rfl rfl rfl ?_
    refine Ad hS5 (k := 0) rfl rfl rfl rfl rfl (by rfl) ?_
    refine EN (c38 ..) rfl (Al rfl rfl rfl ?_)
    refine Ad hS5 (k := 0) rfl rfl rfl rfl rfl (by rfl) ?_
    refine AB rfl rfl (issueW hS5 (k := 1) rfl (Ar (ν := ν1) (a := [7, 0, 0, 1, 0]) (b := [11, 1, 0, 1, 0]) (by decide)) (Af [11, 1, 0, 1, 0] (Bk (Af [1, 0, 1, 1] hβ) hU1)) (Au (ν := ν1) (a := [11, 1, 0, 1, 0]) (b := [12, 1, 0, 1, 0]) (by decide)) (by show _ ≤ _; have : (Rf.new x.d).rows.length = 0 := rfl; omega) x.key x.iss[i] (hx.ifit _ (List.getElem_mem (by omega))) fun H6 hS6 => ?_) 
    replace hS6 : Own _ _ _ (_ :: _ :: _ :: L) := hS6
    refine EZ (c38 ..) rfl ?_
    refine AJ (Ag (AC (Aa rfl rfl ?_)))
    refine Ah rfl rfl rfl rfl (AW (by omega)) ?_
    refine Ab rfl rfl ?_
    refine EZ (c38 ..) rfl ?_
    have hSd1 : Own _ _ _ (_ :: _ :: L) := (Own.drop hS6 (k := 0) rfl)
    refine ⟨_, ?_, i + 1, rfl, AM hU1, Own.cast (Own.mono (hSd1) (Ar (ν := ν1) (a := [12, 1, 0, 1, 0]) (b := [1]) (by decide))) (by rw [Rf.issues_step (by omega)]), ?_, AU rfl⟩
    · omega
    exact ⟨by omega, by omega⟩
   try simp only [bs] at h3
   refine AY (AQ (AN (Ag (Ac (Aa rfl rfl (Ab rfl rfl ?_))))))
   refine EZ (c38 ..) rfl ?_
   refine Ap ?_
   refine Ak (res1 rfl (Ai rfl)) ?_
   have he := Py.stop (x := x) hi2 (by omega)
   refine hq _ _ (Own.cast (Own.drop (Own.mono hS3 (Ax (Bg (a := []) hU1 (Az (a := [1, 0, 1, 1]) hp)))) (k := 1) rfl) (by rw [he]; rfl))
  try simp only [bs] at g3_6
  refine An rfl (An rfl (EN (c38 ..) rfl (Aw rfl rfl rfl ?_)))
  refine EZ (c38 ..) rfl ?_
  refine Bd rfl rfl ?_
  refine AY (AQ (AN (Ag (Ac (Aa rfl rfl (Ab rfl rfl ?_))))))
  refine EZ (c38 ..) rfl ?_
  refine Ap ?_
  refine Ak (res1 rfl (Ai rfl)) ?_
  have he := Py.stop (x := x) hi2 (by omega)
  refine hq _ _ (Own.cast (Own.drop (Own.mono hS3 (Ax (Bg (a := []) hU1 (Az (a := [1, 0, 1, 1]) hp)))) (k := 1) rfl) (by rw [he]; rfl))
def stepS (key : Int) (p : Ck × Rf) (y : Stp) : Ck × Rf := ((applyR p.2 key p.1 y.id y.nr y.bytes).1.c, (applyR p.2 key p.1 y.id y.nr y.bytes).2)
def afterS (S : Rf) (key : Int) (c : Ck) (l : List Stp) : Ck × Rf := l.foldl (stepS key) (c, S)
theorem stepS_good {p : Ck × Rf} {y : Stp} (hg : p.1.good) (hy : y.fit) : (stepS key p y).1.good := applyR_good hg hy.id hy.nr hy.bytes
end
end Go.Proofs.YtfkgdlfponfimaaGreat.X
