import Derived.Test.YtfkgdlfponfimaaGreatU34
import Derived.Test.YtfkgdlfponfimaaGreatU29
import Derived.Test.YtfkgdlfponfimaaGreatU33
/- Layer 13: texts of commands. -/
set_option linter.unusedVariables false
set_option linter.unusedSimpArgs false
set_option maxRecDepth 100000
namespace Go.Proofs.YtfkgdlfponfimaaGreat.X
open Go Go.RowKit WM
variable {ν : Nm} {H : Heap} {Q : AVal → Heap → Prop} {m : Cm}
theorem u64_wr (d : Int) : 0 ≤ IntKind.u64.wrap d ∧ IntKind.u64.wrap d ≤ 18446744073709551615 := by rw [IntKind.wrap_u64]; omega
def packC (m : Cm) : ByteArray := ba (encU (IntKind.u64.wrap m.d).toNat) ++ pkB m.t ++ ba (encU m.vo.toNat) ++ ba (encU m.se.toNat) ++ ba (encU m.a.toNat) ++ ba (encU m.b.toNat) ++ encS m.lf
theorem packC_size (hm : m.fit) : (packC m).size ≤ 120 + m.lf.size := by
  have h1 := encU_i (u64_wr m.d); have h2 := pkB_size hm.t; have h3 := encU_i hm.vo; have h4 := encU_i hm.se; have h5 := encU_i hm.a; have h6 := encU_i hm.b; have h7 := encS_size (s := m.lf) (by have := hm.lf; omega)
  simp only [packC, ss]; omega
theorem p_packC (hm : m.fit) (hq : Q (.str (packC m)) H) : CW cfg ν 23 [m.enc] H Q := by
  have h1 := encU_i (u64_wr m.d); have h2 := pkB_size hm.t; have h3 := encU_i hm.vo; have h4 := encU_i hm.se; have h5 := encU_i hm.a; have h6 := encU_i hm.b; have hlf := hm.lf; have h7 := encS_size (s := m.lf) (by omega)
  have hvo := hm.vo; have hse := hm.se; have ha := hm.a; have hb := hm.b
  refine CW_pure g23 F23 rfl ?_
  have hS0 : Own ν ν (fun _ => none) [] := Own.nil
  refine XW_sr ?_
  refine OW_boxR hS0 (le_app (p := ν) (b := [0, 0])) (under_app [0, 0] under_me) rfl rfl rfl ⟨rfl, rfl⟩ fun H1 hS1 => ?_
  replace hS1 : Own _ _ _ ([_]) := hS1
  refine OW_as rfl rfl ?_
  refine OW_nilE (e' := [_,_,_,_,_,_,_,_,_,_,_,_,_,_,_,_,_,_,_,_,_,_,_,_,_,_,_,_,_,_,_]) rfl ?_
  refine XW_sr (OW_fa rfl rfl rfl ?_)
  refine OW_loadR hS1 (k := 0) rfl rfl rfl rfl rfl (by rfl) ?_
  refine OW_conv rfl rfl rfl ?_
  refine EN31 rfl ?_
  refine OW_fn rfl rfl (putUi (u64_wr m.d) ?_) 
  refine OW_fa rfl rfl rfl ?_
  refine OW_loadR hS1 (k := 0) rfl rfl rfl rfl rfl (by rfl) ?_
  refine EN31 rfl ?_
  refine OW_fn rfl rfl (packW hm.t ?_) 
  refine OW_bin rfl rfl rfl rfl (cat (by omega)) ?_
  refine OW_fa rfl rfl rfl (EN31 rfl ?_)
  refine OW_loadR hS1 (k := 0) rfl rfl rfl rfl rfl (by rfl) ?_
  refine OW_fn rfl rfl (putUi (by assumption) ?_) 
  refine OW_bin rfl rfl rfl rfl (cat (by (simp only [ss]; omega))) ?_
  refine EN31 rfl (OW_fa rfl rfl rfl ?_)
  refine OW_loadR hS1 (k := 0) rfl rfl rfl rfl rfl (by rfl) ?_
  refine OW_fn rfl rfl (putUi (by assumption) ?_) 
  refine EN31 rfl ?_
  refine OW_bin rfl rfl rfl rfl (cat (by (simp only [ss]; omega))) ?_
  refine OW_fa rfl rfl rfl ?_
  refine OW_loadR hS1 (k := 0) rfl rfl rfl rfl rfl (by rfl) ?_
  refine EN31 rfl ?_
  refine OW_fn rfl rfl (putUi (by assumption) ?_) 
  refine OW_bin rfl rfl rfl rfl (cat (by (simp only [ss]; omega))) ?_
  refine OW_fa rfl rfl rfl (EN31 rfl ?_)
  refine OW_loadR hS1 (k := 0) rfl rfl rfl rfl rfl (by rfl) ?_
  refine OW_fn rfl rfl (putUi (by assumption) ?_) 
  refine OW_bin rfl rfl rfl rfl (cat (by (simp only [ss]; omega))) ?_
  refine EN31 rfl (OW_fa rfl rfl rfl ?_)
  refine OW_loadR hS1 (k := 0) rfl rfl rfl rfl rfl (by rfl) ?_
  refine OW_fn rfl rfl (putTx (by omega) ?_) 
  refine EN31 rfl ?_
  refine OW_bin rfl rfl rfl rfl (cat (by (simp only [ss]; omega))) ?_
  refine OW_as rfl rfl ?_
  refine OW_nilE (e' := [_,_,_,_,_,_,_,_,_,_,_,_,_,_,_,_,_,_,_,_,_,_,_,_,_,_,_,_,_,_,_]) rfl ?_
  refine XW_ret ?_
  refine ret_ret (res1 rfl (rv_tmp rfl)) (frz1 (Q := Q) (by exact freeze_plain rfl) ?_)
  exact hq
theorem r_packC (hm : m.fit) (hq : Q (.str (packC m)) H) : CW cfg ν 24 [m.enc] H Q := by
  have h1 := encU_i (u64_wr m.d); have h2 := pkB_size hm.t; have h3 := encU_i hm.vo; have h4 := encU_i hm.se; have h5 := encU_i hm.a; have h6 := encU_i hm.b; have hlf := hm.lf; have h7 := encS_size (s := m.lf) (by omega)
  have hvo := hm.vo; have hse := hm.se; have ha := hm.a; have hb := hm.b
  refine CW_pure g24 F24 rfl ?_
  have hS0 : Own ν ν (fun _ => none) [] := Own.nil
  refine XW_sr ?_
  refine OW_boxR hS0 (le_app (p := ν) (b := [0, 0])) (under_app [0, 0] under_me) rfl rfl rfl ⟨rfl, rfl⟩ fun H1 hS1 => ?_
  replace hS1 : Own _ _ _ ([_]) := hS1
  refine OW_as rfl rfl ?_
  refine OW_nilE (e' := [_,_,_,_,_,_,_,_,_,_,_,_,_,_,_,_,_,_,_,_,_,_,_,_,_,_,_,_,_,_,_]) rfl ?_
  refine XW_sr (OW_fa rfl rfl rfl ?_)
  refine OW_loadR hS1 (k := 0) rfl rfl rfl rfl rfl (by rfl) ?_
  refine OW_conv rfl rfl rfl ?_
  refine EN31 rfl ?_
  refine OW_fn rfl rfl (rputUi (u64_wr m.d) ?_) 
  refine OW_fa rfl rfl rfl ?_
  refine OW_loadR hS1 (k := 0) rfl rfl rfl rfl rfl (by rfl) ?_
  refine EN31 rfl ?_
  refine OW_fn rfl rfl (rpackW hm.t ?_) 
  refine OW_bin rfl rfl rfl rfl (cat (by omega)) ?_
  refine OW_fa rfl rfl rfl (EN31 rfl ?_)
  refine OW_loadR hS1 (k := 0) rfl rfl rfl rfl rfl (by rfl) ?_
  refine OW_fn rfl rfl (rputUi (by assumption) ?_) 
  refine OW_bin rfl rfl rfl rfl (cat (by (simp only [ss]; omega))) ?_
  refine EN31 rfl (OW_fa rfl rfl rfl ?_)
  refine OW_loadR hS1 (k := 0) rfl rfl rfl rfl rfl (by rfl) ?_
  refine OW_fn rfl rfl (rputUi (by assumption) ?_) 
  refine EN31 rfl ?_
  refine OW_bin rfl rfl rfl rfl (cat (by (simp only [ss]; omega))) ?_
  refine OW_fa rfl rfl rfl ?_
  refine OW_loadR hS1 (k := 0) rfl rfl rfl rfl rfl (by rfl) ?_
  refine EN31 rfl ?_
  refine OW_fn rfl rfl (rputUi (by assumption) ?_) 
  refine OW_bin rfl rfl rfl rfl (cat (by (simp only [ss]; omega))) ?_
  refine OW_fa rfl rfl rfl (EN31 rfl ?_)
  refine OW_loadR hS1 (k := 0) rfl rfl rfl rfl rfl (by rfl) ?_
  refine OW_fn rfl rfl (rputUi (by assumption) ?_) 
  refine OW_bin rfl rfl rfl rfl (cat (by (simp only [ss]; omega))) ?_
  refine EN31 rfl (OW_fa rfl rfl rfl ?_)
  refine OW_loadR hS1 (k := 0) rfl rfl rfl rfl rfl (by rfl) ?_
  refine OW_fn rfl rfl (rputTx (by omega) ?_) 
  refine EN31 rfl ?_
  refine OW_bin rfl rfl rfl rfl (cat (by (simp only [ss]; omega))) ?_
  refine OW_as rfl rfl ?_
  refine OW_nilE (e' := [_,_,_,_,_,_,_,_,_,_,_,_,_,_,_,_,_,_,_,_,_,_,_,_,_,_,_,_,_,_,_]) rfl ?_
  refine XW_ret ?_
  refine ret_ret (res1 rfl (rv_tmp rfl)) (frz1 (Q := Q) (by exact freeze_plain rfl) ?_)
  exact hq
theorem num10 (s : ByteArray) : resN 10 s = ([], ⟨#[]⟩, false) ∨ ∃ a0 a1 a2 a3 a4 a5 a6 a7 a8 a9 r, resN 10 s = ([a0, a1, a2, a3, a4, a5, a6, a7, a8, a9], r, true) ∧ r.size ≤ s.size ∧ (∀ x ∈ [a0, a1, a2, a3, a4, a5, a6, a7, a8, a9], U64 x) ∧ cI.manyT 10 s.data.toList = some ([a0, a1, a2, a3, a4, a5, a6, a7, a8, a9], r.data.toList) := by
  unfold resN
  cases h : cI.manyT 10 s.data.toList with
  | none => exact .inl rfl
  | some p =>
    obtain ⟨l, r⟩ := p
    obtain ⟨⟨h1, h2⟩, h3⟩ := (cI.manyT_iff _ _ _ _).1 h
    have hsz : (ba r).size ≤ s.size := by
      have := congrArg List.length h3
      rw [List.length_append] at this
      rw [ba_size]
      have e : s.data.toList.length = s.size := rfl
      omega
    match l, h1, h2 with
    | [a0, a1, a2, a3, a4, a5, a6, a7, a8, a9], _, h2 => exact .inr ⟨a0, a1, a2, a3, a4, a5, a6, a7, a8, a9, ba r, rfl, hsz, h2, rfl⟩
def cm0 : Cm := ⟨0, ⟨0, 0, 0, 0, 0⟩, 0, 0, 0, 0, ⟨#[]⟩⟩
def unpC (s : ByteArray) : Cm × Bool := match resN 10 s with
  | ([a0, a1, a2, a3, a4, a5, a6, a7, a8, a9], r, true) => if (resT (r.size : Int) r).2.2 = true ∧ (resT (r.size : Int) r).2.1 = ⟨#[]⟩ ∧ a0 < 6 then (⟨a0, ⟨a1, a2, a3, a4, a5⟩, a6, a7, a8, a9, (resT (r.size : Int) r).1⟩, true) else (cm0, false)
  | _ => (cm0, false)
theorem takeK_e {s : ByteArray} {m : Nat} {l : List Int} {r : ByteArray} {b : Bool} (hs : s.size ≤ 4611686018427387904) (hm : m ≤ 16) (he : resN m s = (l, r, b)) (hq : Q (.tup [.lst (l.map encN), .str r, .bool b]) H) : CW cfg ν 60 [.str s, .int .i64 m] H Q := takeK_c hs hm (by rw [he]; exact hq)
theorem p_unpackC {s : ByteArray} (hs : s.size ≤ 4611686018427387904) (hq : Q (.tup [(unpC s).1.enc, .bool (unpC s).2]) H) : CW cfg ν 19 [.str s] H Q := by
  rcases num10 s with h | ⟨a0, a1, a2, a3, a4, a5, a6, a7, a8, a9, r, h, hr, hx, _⟩
  · rw [unpC, h] at hq
    refine CW_pure g19 F19 rfl ?_
    have hS0 : Own ν ν (fun _ => none) [] := Own.nil
    refine XW_sr ?_
    refine OW_allocR hS0 (le_app (p := ν) (b := [0, 0])) (under_app [0, 0] under_me) rfl rfl rfl rfl fun H1 hS1 => ?_
    replace hS1 : Own _ _ _ ([_]) := hS1
    refine OW_as rfl rfl ?_
    refine EZ75 rfl ?_
    refine XW_sr (OW_mv rfl rfl ?_)
    refine OW_fn rfl rfl (takeK_e (m := 10) hs (by decide) h ?_) 
    refine OW_mv rfl rfl (EN75 rfl (OW_ex rfl rfl rfl (OW_ex rfl rfl rfl (OW_ex rfl rfl rfl (EN75 rfl (OW_as rfl rfl (OW_as rfl rfl (OW_as rfl rfl ?_))))))))
    refine EZ75 rfl ?_
    refine XW_sr (OW_mv rfl rfl (OW_mv rfl rfl ?_))
    refine OW_lenS rfl rfl rfl ?_
    refine EN75 rfl ?_
    refine OW_fn rfl rfl (takeT_c (by decide) (by decide) ?_) 
    refine OW_mv rfl rfl (OW_ex rfl rfl rfl (EN75 rfl (OW_ex rfl rfl rfl (OW_ex rfl rfl rfl (OW_as rfl rfl (EN75 rfl (OW_as rfl rfl (OW_as rfl rfl ?_))))))))
    refine EZ75 rfl ?_
    refine XW_seq (XW_sr (OW_mv rfl rfl (OW_un rfl rfl rfl (OW_mv rfl rfl (EN75 rfl (OW_no rfl (OW_no rfl (OW_pick rfl rfl rfl (EN75 rfl ?_)))))))))
    refine OW_mv rfl rfl (OW_no rfl (OW_no rfl (EN75 rfl (OW_pick rfl rfl rfl (OW_mv rfl rfl (OW_no rfl (EN75 rfl (OW_no rfl (OW_no rfl ?_)))))))))
    refine OW_no rfl (EN75 rfl (OW_pick rfl rfl rfl ?_))
    refine EZ75 rfl ?_
    refine XW_yes rfl rfl ?_
    refine XW_sr ?_
    refine OW_bd rfl rfl (v := .agg [_, _, _, _, _, _, _, _, _, _, _]) rfl ?_
    refine OW_storeR hS1 (k := 0) rfl (le_lit (ν := ν) (a := [1, 0]) (b := [1, 0, 1, 0, 1, 1, 1]) (by decide)) rfl rfl rfl rfl ⟨rfl, rfl, Nat.le_of_ble_eq_true rfl⟩ (u2 := .agg [_, _, _, _, _, _, _, _, _, _, _]) rfl fun H2 hS2 => ?_
    replace hS2 : Own _ _ _ ([_]) := hS2
    refine OW_as rfl rfl ?_
    refine EZ75 rfl ?_
    refine XW_ret (then_ret ?_)
    refine ret_ret (res2 rfl (rv_cellR hS2 (k := 0) rfl rfl rfl rfl (by exact part_whole rfl rfl rfl)) (rv_tmp rfl)) (frz2 (Q := Q) (by exact freeze_plain rfl) (by exact freeze_plain rfl) ?_)
    exact hq
  rw [unpC, h] at hq
  simp only at hq
  have h0 := hx a0 (by simp)
  refine CW_pure g19 F19 rfl ?_
  have hS0 : Own ν ν (fun _ => none) [] := Own.nil
  refine XW_sr ?_
  refine OW_allocR hS0 (le_app (p := ν) (b := [0, 0])) (under_app [0, 0] under_me) rfl rfl rfl rfl fun H1 hS1 => ?_
  replace hS1 : Own _ _ _ ([_]) := hS1
  refine OW_as rfl rfl ?_
  refine EZ75 rfl ?_
  refine XW_sr (OW_mv rfl rfl ?_)
  refine OW_fn rfl rfl (takeK_e (m := 10) hs (by decide) h ?_) 
  refine OW_mv rfl rfl (EN75 rfl (OW_ex rfl rfl rfl (OW_ex rfl rfl rfl (OW_ex rfl rfl rfl (EN75 rfl (OW_as rfl rfl (OW_as rfl rfl (OW_as rfl rfl ?_))))))))
  refine EZ75 rfl ?_
  refine XW_sr (OW_mv rfl rfl (OW_mv rfl rfl ?_))
  refine OW_lenS rfl rfl rfl ?_
  refine EN75 rfl ?_
  refine OW_fn rfl rfl (takeT_c (by omega) (by omega) ?_) 
  refine OW_mv rfl rfl (OW_ex rfl rfl rfl (EN75 rfl (OW_ex rfl rfl rfl (OW_ex rfl rfl rfl (OW_as rfl rfl (EN75 rfl (OW_as rfl rfl (OW_as rfl rfl ?_))))))))
  refine EZ75 rfl ?_
  refine XW_seq (XW_sr (OW_mv rfl rfl (OW_un rfl rfl rfl (OW_mv rfl rfl (EN75 rfl (OW_mv rfl rfl (OW_un rfl rfl rfl (OW_pick rfl rfl rfl (EN75 rfl ?_)))))))))
  refine OW_mv rfl rfl ?_
  refine OW_split (tt := 30) rfl (fun g3_7 => ?_) (fun g3_7 => ?_)
  ·first
   |skip
    try simp only [bs] at g3_7
    refine OW_no rfl (EN75 rfl (OW_no rfl (OW_pick rfl rfl rfl (OW_mv rfl rfl (EN75 rfl (OW_no rfl (OW_no rfl (OW_no rfl (EN75 rfl ?_)))))))))
    refine OW_no rfl (OW_pick rfl rfl rfl ?_)
    refine EZ75 rfl ?_
    refine XW_yes rfl rfl ?_
    refine XW_sr ?_
    refine OW_bd rfl rfl (v := .agg [_, _, _, _, _, _, _, _, _, _, _]) rfl ?_
    refine OW_storeR hS1 (k := 0) rfl (le_lit (ν := ν) (a := [1, 0]) (b := [1, 0, 1, 0, 1, 1, 1]) (by decide)) rfl rfl rfl rfl ⟨rfl, rfl, Nat.le_of_ble_eq_true rfl⟩ (u2 := .agg [_, _, _, _, _, _, _, _, _, _, _]) rfl fun H2 hS2 => ?_
    replace hS2 : Own _ _ _ ([_]) := hS2
    refine OW_as rfl rfl ?_
    refine EZ75 rfl ?_
    refine XW_ret (then_ret ?_)
    refine ret_ret (res2 rfl (rv_cellR hS2 (k := 0) rfl rfl rfl rfl (by exact part_whole rfl rfl rfl)) (rv_tmp rfl)) (frz2 (Q := Q) (by exact freeze_plain rfl) (by exact freeze_plain rfl) ?_)
    rw [if_neg (by rintro ⟨e1, e2, e3⟩; rw [g3_7] at e1; cases e1)] at hq; exact hq
  first
  |skip
   try simp only [bs] at g3_7
   refine OW_mv rfl rfl (EN75 rfl ?_)
   refine OW_bin rfl rfl rfl rfl rfl ?_
   refine OW_pick rfl rfl rfl (OW_mv rfl rfl (EN75 rfl ?_))
   refine OW_split (tt := 34) rfl (fun g3_11 => ?_) (fun g3_11 => ?_)
   ·first
    |skip
     try simp only [bs] at g3_11
     refine OW_no rfl (OW_no rfl (EN75 rfl (OW_no rfl (OW_no rfl (OW_pick rfl rfl rfl ?_)))))
     refine EZ75 rfl ?_
     refine XW_yes rfl rfl ?_
     refine XW_sr ?_
     refine OW_bd rfl rfl (v := .agg [_, _, _, _, _, _, _, _, _, _, _]) rfl ?_
     refine OW_storeR hS1 (k := 0) rfl (le_lit (ν := ν) (a := [1, 0]) (b := [1, 0, 1, 0, 1, 1, 1]) (by decide)) rfl rfl rfl rfl ⟨rfl, rfl, Nat.le_of_ble_eq_true rfl⟩ (u2 := .agg [_, _, _, _, _, _, _, _, _, _, _]) rfl fun H3 hS3 => ?_
     replace hS3 : Own _ _ _ ([_]) := hS3
     refine OW_as rfl rfl ?_
     refine EZ75 rfl ?_
     refine XW_ret (then_ret ?_)
     refine ret_ret (res2 rfl (rv_cellR hS3 (k := 0) rfl rfl rfl rfl (by exact part_whole rfl rfl rfl)) (rv_tmp rfl)) (frz2 (Q := Q) (by exact freeze_plain rfl) (by exact freeze_plain rfl) ?_)
     (rw [if_neg (by rintro ⟨e1, e2, e3⟩; contradiction)] at hq; exact hq)
   first
   |skip
    try simp only [bs] at g3_11
    refine OW_mv rfl rfl ?_
    refine OW_iaL rfl rfl rfl Ls.of rfl rfl rfl (by rfl) (by rfl) rfl ?_
    refine EN75 rfl ?_
    refine OW_loadE rfl rfl rfl (by rfl) ?_
    refine OW_bin rfl rfl rfl rfl rfl ?_
    refine OW_pick rfl rfl rfl ?_
    refine EZ75 rfl ?_
    refine XW_if rfl (fun h3 => ?_) (fun h3 => ?_)
    ·first
     |skip
      try simp only [bs] at h3
      refine XW_sr ?_
      refine OW_bd rfl rfl (v := .agg [_, _, _, _, _, _, _, _, _, _, _]) rfl ?_
      refine OW_storeR hS1 (k := 0) rfl (le_lit (ν := ν) (a := [1, 0]) (b := [1, 0, 1, 0, 1, 1, 1]) (by decide)) rfl rfl rfl rfl ⟨rfl, rfl, Nat.le_of_ble_eq_true rfl⟩ (u2 := .agg [_, _, _, _, _, _, _, _, _, _, _]) rfl fun H4 hS4 => ?_
      replace hS4 : Own _ _ _ ([_]) := hS4
      refine OW_as rfl rfl ?_
      refine EZ75 rfl ?_
      refine XW_ret (then_ret ?_)
      refine ret_ret (res2 rfl (rv_cellR hS4 (k := 0) rfl rfl rfl rfl (by exact part_whole rfl rfl rfl)) (rv_tmp rfl)) (frz2 (Q := Q) (by exact freeze_plain rfl) (by exact freeze_plain rfl) ?_)
      (rw [if_neg (by rintro ⟨e1, e2, e3⟩; omega)] at hq; exact hq)
    first
    |skip
     try simp only [bs] at h3
     refine XW_skip (then_norm (XW_sr (OW_mv rfl rfl ?_)))
     refine OW_iaL rfl rfl rfl Ls.of rfl rfl rfl (by rfl) (by rfl) rfl ?_
     refine OW_loadE rfl rfl rfl (by rfl) ?_
     refine EN75 rfl ?_
     refine OW_conv rfl rfl (conv_in rfl rfl rfl (IntWalk.i64_in _ (by omega))) ?_
     refine OW_mv rfl rfl ?_
     refine OW_iaL rfl rfl rfl Ls.of rfl rfl rfl (by rfl) (by rfl) rfl ?_
     refine EN75 rfl ?_
     refine OW_loadE rfl rfl rfl (by rfl) ?_
     refine OW_mv rfl rfl ?_
     refine OW_iaL rfl rfl rfl Ls.of rfl rfl rfl (by rfl) (by rfl) rfl ?_
     refine EN75 rfl ?_
     refine OW_loadE rfl rfl rfl (by rfl) ?_
     refine OW_mv rfl rfl ?_
     refine OW_iaL rfl rfl rfl Ls.of rfl rfl rfl (by rfl) (by rfl) rfl ?_
     refine EN75 rfl ?_
     refine OW_loadE rfl rfl rfl (by rfl) ?_
     refine OW_mv rfl rfl ?_
     refine OW_iaL rfl rfl rfl Ls.of rfl rfl rfl (by rfl) (by rfl) rfl ?_
     refine EN75 rfl ?_
     refine OW_loadE rfl rfl rfl (by rfl) ?_
     refine OW_mv rfl rfl ?_
     refine OW_iaL rfl rfl rfl Ls.of rfl rfl rfl (by rfl) (by rfl) rfl ?_
     refine EN75 rfl ?_
     refine OW_loadE rfl rfl rfl (by rfl) ?_
     refine OW_bd rfl rfl (v := .agg [_, _, _, _, _]) rfl ?_
     refine OW_mv rfl rfl (EN75 rfl ?_)
     refine OW_iaL rfl rfl rfl Ls.of rfl rfl rfl (by rfl) (by rfl) rfl ?_
     refine OW_loadE rfl rfl rfl (by rfl) ?_
     refine OW_mv rfl rfl (EN75 rfl ?_)
     refine OW_iaL rfl rfl rfl Ls.of rfl rfl rfl (by rfl) (by rfl) rfl ?_
     refine OW_loadE rfl rfl rfl (by rfl) ?_
     refine OW_mv rfl rfl (EN75 rfl ?_)
     refine OW_iaL rfl rfl rfl Ls.of rfl rfl rfl (by rfl) (by rfl) rfl ?_
     refine OW_loadE rfl rfl rfl (by rfl) ?_
     refine OW_mv rfl rfl (EN75 rfl ?_)
     refine OW_iaL rfl rfl rfl Ls.of rfl rfl rfl (by rfl) (by rfl) rfl ?_
     refine OW_loadE rfl rfl rfl (by rfl) ?_
     refine OW_mv rfl rfl (EN75 rfl ?_)
     refine OW_bd rfl rfl (v := .agg [_, _, _, _, _, _, _, _, _, _, _]) rfl ?_
     refine OW_storeR hS1 (k := 0) rfl (le_lit (ν := ν) (a := [1, 0]) (b := [34, 0, 1, 1, 1, 1]) (by decide)) rfl rfl rfl rfl ⟨rfl, rfl, Nat.le_of_ble_eq_true rfl⟩ (u2 := .agg [_, _, _, _, _, _, _, _, _, _, _]) rfl fun H5 hS5 => ?_
     replace hS5 : Own _ _ _ ([_]) := hS5
     refine OW_as rfl rfl ?_
     refine EZ75 rfl ?_
     refine XW_ret ?_
     refine ret_ret (res2 rfl (rv_cellR hS5 (k := 0) rfl rfl rfl rfl (by exact part_whole rfl rfl rfl)) (rv_tmp rfl)) (frz2 (Q := Q) (by exact freeze_plain rfl) (by exact freeze_plain rfl) ?_)
     (rw [if_pos ⟨by assumption, by assumption, by omega⟩] at hq; exact hq)
theorem rnums_e {s : ByteArray} {m : Nat} {l : List Int} {r : ByteArray} {b : Bool} (hs : s.size ≤ 4611686018427387904) (hm : m ≤ 16) (he : resN m s = (l, r, b)) (hq : Q (.tup [.lst (l.map encN), .str r, .bool b]) H) : CW cfg ν 62 [.str s, .int .i64 m] H Q := rnums_c hs hm (by rw [he]; exact hq)
theorem r_unpackC {s : ByteArray} (hs : s.size ≤ 4611686018427387904) (hq : Q (.tup [(unpC s).1.enc, .bool (unpC s).2]) H) : CW cfg ν 20 [.str s] H Q := by
  rcases num10 s with h | ⟨a0, a1, a2, a3, a4, a5, a6, a7, a8, a9, r, h, hr, hx, _⟩
  · rw [unpC, h] at hq
    refine CW_pure g20 F20 rfl ?_
    have hS0 : Own ν ν (fun _ => none) [] := Own.nil
    refine XW_sr ?_
    refine OW_allocR hS0 (le_app (p := ν) (b := [0, 0])) (under_app [0, 0] under_me) rfl rfl rfl rfl fun H1 hS1 => ?_
    replace hS1 : Own _ _ _ ([_]) := hS1
    refine OW_as rfl rfl ?_
    refine EZ76 rfl ?_
    refine XW_sr (OW_mv rfl rfl ?_)
    refine OW_fn rfl rfl (rnums_e (m := 10) hs (by decide) h ?_) 
    refine OW_mv rfl rfl (EN76 rfl (OW_ex rfl rfl rfl (OW_ex rfl rfl rfl (OW_ex rfl rfl rfl (EN76 rfl (OW_as rfl rfl (OW_as rfl rfl (OW_as rfl rfl ?_))))))))
    refine EZ76 rfl ?_
    refine XW_seq (XW_sr (OW_mv rfl rfl (OW_un rfl rfl rfl (OW_mv rfl rfl (EN76 rfl (OW_no rfl (OW_no rfl (OW_no rfl (EN76 rfl ?_)))))))))
    refine OW_no rfl (OW_pick rfl rfl rfl ?_)
    refine EZ76 rfl ?_
    refine XW_yes rfl rfl ?_
    refine XW_sr ?_
    refine OW_bd rfl rfl (v := .agg [_, _, _, _, _, _, _, _, _, _, _]) rfl ?_
    refine OW_storeR hS1 (k := 0) rfl (le_lit (ν := ν) (a := [1, 0]) (b := [1, 0, 1, 0, 1, 1]) (by decide)) rfl rfl rfl rfl ⟨rfl, rfl, Nat.le_of_ble_eq_true rfl⟩ (u2 := .agg [_, _, _, _, _, _, _, _, _, _, _]) rfl fun H2 hS2 => ?_
    replace hS2 : Own _ _ _ ([_]) := hS2
    refine OW_as rfl rfl ?_
    refine EZ76 rfl ?_
    refine XW_ret (then_ret ?_)
    refine ret_ret (res2 rfl (rv_cellR hS2 (k := 0) rfl rfl rfl rfl (by exact part_whole rfl rfl rfl)) (rv_tmp rfl)) (frz2 (Q := Q) (by exact freeze_plain rfl) (by exact freeze_plain rfl) ?_)
    exact hq
  rw [unpC, h] at hq
  simp only at hq
  have h0 := hx a0 (by simp)
  refine CW_pure g20 F20 rfl ?_
  have hS0 : Own ν ν (fun _ => none) [] := Own.nil
  refine XW_sr ?_
  refine OW_allocR hS0 (le_app (p := ν) (b := [0, 0])) (under_app [0, 0] under_me) rfl rfl rfl rfl fun H1 hS1 => ?_
  replace hS1 : Own _ _ _ ([_]) := hS1
  refine OW_as rfl rfl ?_
  refine EZ76 rfl ?_
  refine XW_sr (OW_mv rfl rfl ?_)
  refine OW_fn rfl rfl (rnums_e (m := 10) hs (by decide) h ?_) 
  refine OW_mv rfl rfl (EN76 rfl (OW_ex rfl rfl rfl (OW_ex rfl rfl rfl (OW_ex rfl rfl rfl (EN76 rfl (OW_as rfl rfl (OW_as rfl rfl (OW_as rfl rfl ?_))))))))
  refine EZ76 rfl ?_
  refine XW_seq (XW_sr (OW_mv rfl rfl (OW_un rfl rfl rfl (OW_mv rfl rfl (EN76 rfl (OW_mv rfl rfl ?_))))))
  refine OW_iaL rfl rfl rfl Ls.of rfl rfl rfl (by rfl) (by rfl) rfl ?_
  refine OW_loadE rfl rfl rfl (by rfl) ?_
  refine EN76 rfl ?_
  refine OW_bin rfl rfl rfl rfl rfl ?_
  refine OW_pick rfl rfl rfl ?_
  refine EZ76 rfl ?_
  refine XW_if rfl (fun h2 => ?_) (fun h2 => ?_)
  ·first
   |skip
    try simp only [bs] at h2
    refine XW_sr ?_
    refine OW_bd rfl rfl (v := .agg [_, _, _, _, _, _, _, _, _, _, _]) rfl ?_
    refine OW_storeR hS1 (k := 0) rfl (le_lit (ν := ν) (a := [1, 0]) (b := [1, 0, 1, 0, 1, 1]) (by decide)) rfl rfl rfl rfl ⟨rfl, rfl, Nat.le_of_ble_eq_true rfl⟩ (u2 := .agg [_, _, _, _, _, _, _, _, _, _, _]) rfl fun H2 hS2 => ?_
    replace hS2 : Own _ _ _ ([_]) := hS2
    refine OW_as rfl rfl ?_
    refine EZ76 rfl ?_
    refine XW_ret (then_ret ?_)
    refine ret_ret (res2 rfl (rv_cellR hS2 (k := 0) rfl rfl rfl rfl (by exact part_whole rfl rfl rfl)) (rv_tmp rfl)) (frz2 (Q := Q) (by exact freeze_plain rfl) (by exact freeze_plain rfl) ?_)
    (rw [if_neg (by rintro ⟨e1, e2, e3⟩; omega)] at hq; exact hq)
  first
  |skip
   try simp only [bs] at h2
   refine XW_skip (then_norm (XW_sr (OW_mv rfl rfl (OW_mv rfl rfl ?_))))
   refine OW_lenS rfl rfl rfl ?_
   refine EN76 rfl ?_
   refine OW_fn rfl rfl (rtakeT_c (by omega) (by omega) ?_) 
   refine OW_mv rfl rfl (OW_ex rfl rfl rfl (EN76 rfl (OW_ex rfl rfl rfl (OW_ex rfl rfl rfl (OW_as rfl rfl (EN76 rfl (OW_as rfl rfl (OW_as rfl rfl ?_))))))))
   refine EZ76 rfl ?_
   refine XW_seq (XW_sr (OW_mv rfl rfl (OW_un rfl rfl rfl (OW_mv rfl rfl (EN76 rfl ?_)))))
   refine OW_split (tt := 36) rfl (fun g5_3 => ?_) (fun g5_3 => ?_)
   ·first
    |skip
     try simp only [bs] at g5_3
     refine OW_no rfl (OW_no rfl (EN76 rfl (OW_pick rfl rfl rfl ?_)))
     refine EZ76 rfl ?_
     refine XW_yes rfl rfl ?_
     refine XW_sr ?_
     refine OW_bd rfl rfl (v := .agg [_, _, _, _, _, _, _, _, _, _, _]) rfl ?_
     refine OW_storeR hS1 (k := 0) rfl (le_lit (ν := ν) (a := [1, 0]) (b := [1, 0, 1, 0, 1, 1, 1, 1]) (by decide)) rfl rfl rfl rfl ⟨rfl, rfl, Nat.le_of_ble_eq_true rfl⟩ (u2 := .agg [_, _, _, _, _, _, _, _, _, _, _]) rfl fun H3 hS3 => ?_
     replace hS3 : Own _ _ _ ([_]) := hS3
     refine OW_as rfl rfl ?_
     refine EZ76 rfl ?_
     refine XW_ret (then_ret ?_)
     refine ret_ret (res2 rfl (rv_cellR hS3 (k := 0) rfl rfl rfl rfl (by exact part_whole rfl rfl rfl)) (rv_tmp rfl)) (frz2 (Q := Q) (by exact freeze_plain rfl) (by exact freeze_plain rfl) ?_)
     (rw [if_neg (by rintro ⟨e1, e2, e3⟩; (simp_all; done))] at hq; exact hq)
   first
   |skip
    try simp only [bs] at g5_3
    refine OW_mv rfl rfl ?_
    refine OW_bin rfl rfl rfl rfl rfl ?_
    refine EN76 rfl (OW_pick rfl rfl rfl ?_)
    refine EZ76 rfl ?_
    refine XW_if rfl (fun h5 => ?_) (fun h5 => ?_)
    ·first
     |skip
      try simp only [bs] at h5
      refine XW_sr ?_
      refine OW_bd rfl rfl (v := .agg [_, _, _, _, _, _, _, _, _, _, _]) rfl ?_
      refine OW_storeR hS1 (k := 0) rfl (le_lit (ν := ν) (a := [1, 0]) (b := [1, 0, 1, 0, 1, 1, 1, 1]) (by decide)) rfl rfl rfl rfl ⟨rfl, rfl, Nat.le_of_ble_eq_true rfl⟩ (u2 := .agg [_, _, _, _, _, _, _, _, _, _, _]) rfl fun H4 hS4 => ?_
      replace hS4 : Own _ _ _ ([_]) := hS4
      refine OW_as rfl rfl ?_
      refine EZ76 rfl ?_
      refine XW_ret (then_ret ?_)
      refine ret_ret (res2 rfl (rv_cellR hS4 (k := 0) rfl rfl rfl rfl (by exact part_whole rfl rfl rfl)) (rv_tmp rfl)) (frz2 (Q := Q) (by exact freeze_plain rfl) (by exact freeze_plain rfl) ?_)
      (rw [if_neg (by rintro ⟨e1, e2, e3⟩; contradiction)] at hq; exact hq)
    first
    |skip
     try simp only [bs] at h5
     refine XW_skip (then_norm (XW_sr (OW_mv rfl rfl ?_)))
     refine OW_iaL rfl rfl rfl Ls.of rfl rfl rfl (by rfl) (by rfl) rfl ?_
     refine OW_loadE rfl rfl rfl (by rfl) ?_
     refine EN76 rfl (OW_mv rfl rfl ?_)
     refine OW_iaL rfl rfl rfl Ls.of rfl rfl rfl (by rfl) (by rfl) rfl ?_
     refine OW_loadE rfl rfl rfl (by rfl) ?_
     refine EN76 rfl (OW_mv rfl rfl ?_)
     refine OW_iaL rfl rfl rfl Ls.of rfl rfl rfl (by rfl) (by rfl) rfl ?_
     refine OW_loadE rfl rfl rfl (by rfl) ?_
     refine EN76 rfl (OW_mv rfl rfl ?_)
     refine OW_iaL rfl rfl rfl Ls.of rfl rfl rfl (by rfl) (by rfl) rfl ?_
     refine OW_loadE rfl rfl rfl (by rfl) ?_
     refine EN76 rfl (OW_mv rfl rfl ?_)
     refine OW_iaL rfl rfl rfl Ls.of rfl rfl rfl (by rfl) (by rfl) rfl ?_
     refine OW_loadE rfl rfl rfl (by rfl) ?_
     refine EN76 rfl ?_
     refine OW_bd rfl rfl (v := .agg [_, _, _, _, _]) rfl ?_
     refine OW_allocR hS1 (le_lit (ν := ν) (a := [1, 0]) (b := [16, 0, 1, 1, 1, 1, 1]) (by decide)) (under_app [16, 0, 1, 1, 1, 1, 1] under_me) rfl rfl rfl rfl fun H5 hS5 => ?_
     replace hS5 : Own _ _ _ ([_, _]) := hS5
     refine OW_storeR hS5 (k := 0) rfl le_refl rfl rfl rfl rfl ⟨rfl, rfl, Nat.le_of_ble_eq_true rfl⟩ (u2 := .agg [_, _, _, _, _]) rfl fun H6 hS6 => ?_
     replace hS6 : Own _ _ _ ([_, _]) := hS6
     refine EZ76 rfl ?_
     refine XW_sr (OW_mv rfl rfl ?_)
     refine OW_iaL rfl rfl rfl Ls.of rfl rfl rfl (by rfl) (by rfl) rfl ?_
     refine OW_loadE rfl rfl rfl (by rfl) ?_
     refine EN76 rfl ?_
     refine OW_conv rfl rfl (conv_in rfl rfl rfl (IntWalk.i64_in _ (by omega))) ?_
     refine OW_loadR hS6 (k := 0) rfl rfl rfl rfl rfl (by exact part_whole rfl rfl rfl) ?_
     refine OW_mv rfl rfl (EN76 rfl ?_)
     refine OW_iaL rfl rfl rfl Ls.of rfl rfl rfl (by rfl) (by rfl) rfl ?_
     refine OW_loadE rfl rfl rfl (by rfl) ?_
     refine OW_mv rfl rfl (EN76 rfl ?_)
     refine OW_iaL rfl rfl rfl Ls.of rfl rfl rfl (by rfl) (by rfl) rfl ?_
     refine OW_loadE rfl rfl rfl (by rfl) ?_
     refine OW_mv rfl rfl (EN76 rfl ?_)
     refine OW_iaL rfl rfl rfl Ls.of rfl rfl rfl (by rfl) (by rfl) rfl ?_
     refine OW_loadE rfl rfl rfl (by rfl) ?_
     refine OW_mv rfl rfl (EN76 rfl ?_)
     refine OW_iaL rfl rfl rfl Ls.of rfl rfl rfl (by rfl) (by rfl) rfl ?_
     refine OW_loadE rfl rfl rfl (by rfl) ?_
     refine OW_mv rfl rfl (EN76 rfl ?_)
     refine OW_bd rfl rfl (v := .agg [_, _, _, _, _, _, _, _, _, _, _]) rfl ?_
     refine OW_storeR hS6 (k := 1) rfl (le_lit (ν := ν) (a := [18, 0, 1, 1, 1, 1, 1]) (b := [19, 0, 1, 1, 1, 1, 1, 1]) (by decide)) rfl rfl rfl rfl ⟨rfl, rfl, Nat.le_of_ble_eq_true rfl⟩ (u2 := .agg [_, _, _, _, _, _, _, _, _, _, _]) rfl fun H7 hS7 => ?_
     replace hS7 : Own _ _ _ ([_, _]) := hS7
     refine OW_as rfl rfl ?_
     refine EZ76 rfl ?_
     refine XW_ret ?_
     refine ret_ret (res2 rfl (rv_cellR hS7 (k := 1) rfl rfl rfl rfl (by exact part_whole rfl rfl rfl)) (rv_tmp rfl)) (frz2 (Q := Q) (by exact freeze_plain rfl) (by exact freeze_plain rfl) ?_)
     (rw [if_pos ⟨by assumption, by assumption, by omega⟩] at hq; exact hq)
end Go.Proofs.YtfkgdlfponfimaaGreat.X

/- Layer 13: chunk.Apply. -/
set_option linter.unusedVariables false
set_option linter.unusedSimpArgs false
set_option maxRecDepth 100000
namespace Go.Proofs.YtfkgdlfponfimaaGreat.X
open Go Go.RowKit WM
variable {ν β ps pos pos' : Nm} {H H1 : Heap} {Q : AVal → Heap → Prop} {L : List Asr} {k : Nat} {S : Rf} {c : Ck} {q qo : Nm} {key want id nr : Int} {m : Cm} {V0 S0 T0 v0 : AVal} {cmd : ByteArray}
def noteE (e : Int) (an : ByteArray) : ByteArray := ba (encU (IntKind.u64.wrap e).toNat) ++ encS an
def noteR (r : Rs) (id nr : Int) : Rs := ⟨{ r.c with ss := SE.noteL r.c.ss id nr (noteE r.e r.an) }, r.e, r.an⟩
def applyR (S : Rf) (key : Int) (c : Ck) (id nr : Int) (cmd : ByteArray) : Rs × Rf :=
  if (SE.seekL id nr c.ss).1 = 2 then (err c 131, S)
  else if (SE.seekL id nr c.ss).1 = 1 then (⟨c, (ntS (SE.seekL id nr c.ss).2).1, (ntS (SE.seekL id nr c.ss).2).2⟩, S)
  else if (unpC cmd).2 = true then (noteR (runR S key c (unpC cmd).1).1 id nr, (runR S key c (unpC cmd).1).2)
  else (noteR (err c 130) id nr, S)
end Go.Proofs.YtfkgdlfponfimaaGreat.X

/- Layer 13: a state that may be stays one. -/
set_option linter.unusedVariables false
set_option linter.unusedSimpArgs false
set_option maxRecDepth 100000
namespace Go.Proofs.YtfkgdlfponfimaaGreat.X
open Go Go.RowKit WM
variable {S : Rf} {c : Ck} {key want id nr : Int} {m : Cm} {cmd : ByteArray}
theorem resT_size1 (m : Int) (s : ByteArray) : (resT m s).1.size ≤ s.size := by
  unfold resT
  cases h : WM.takeT m s.data.toList with
  | none => exact Nat.zero_le _
  | some p => obtain ⟨t, r⟩ := p; have := takeT_short h; show (ba t).size ≤ _; rw [ba_size]; have e : s.data.toList.length = s.size := rfl; omega
theorem give_fit {t : List Qu} {tn n : Int} (hf : Fit t) (h0 : 0 ≤ n) : Fit (giveQ t tn n).1 := by
  unfold giveQ
  cases hg : getQ tn t with
  | none => intro x hx; simp at hx
  | some r =>
    intro x hx
    rcases modQ_mem hx with h | ⟨r', h1, rfl⟩
    · exact hf x h
    rw [hg] at h1
    obtain rfl := Option.some.inj h1
    obtain ⟨f1, f2, f3⟩ := hf r (getQ_mem hg).1
    exact ⟨f1, ⟨by show 0 ≤ r.us - min n r.us; omega, by show r.us - min n r.us ≤ _; omega⟩, f3⟩
theorem good_vs {i : Nat} {y : Vo} (hg : c.good) (hi : i < c.vs.length) (hy : y.good) (hv : y.vo = c.vs[i].vo) : (⟨c.vs.set i y, c.ss, c.qs⟩ : Ck).good := by
  refine ⟨by rw [List.length_set]; exact hg.vl, fun x hx => ?_, ?_, hg.sc, hg.sf, hg.qc, hg.qf⟩
  · rcases List.mem_or_eq_of_mem_set hx with h | rfl
    · exact hg.vg x h
    exact hy
  show ((c.vs.set i y).map Vo.vo).Nodup
  rw [List.map_set, hv, show c.vs[i].vo = (c.vs.map Vo.vo)[i]'(by simpa using hi) by simp, List.set_getElem_self]
  exact hg.nd
theorem good_qs {qs : List Qu} (hg : c.good) (h1 : chkQ qs = true) (h2 : Fit qs) : (⟨c.vs, c.ss, qs⟩ : Ck).good := ⟨hg.vl, hg.vg, hg.nd, hg.sc, hg.sf, h1, h2⟩
theorem good_ss {ss : List SE.Se} (hg : c.good) (h1 : SE.chkL ss = true) (h2 : ∀ x ∈ ss, x.fit) : (⟨c.vs, ss, c.qs⟩ : Ck).good := ⟨hg.vl, hg.vg, hg.nd, h1, h2, hg.qc, hg.qf⟩
theorem atP_good (hg : c.good) (h : ¬ atP m.vo c.vs < 0) : ∃ (i : Nat) (hi : i < c.vs.length), atP m.vo c.vs = i ∧ c.vs[i].vo = m.vo ∧ c.vs[i].good := by
  obtain ⟨i, hi, h1, h2⟩ := atP_some (c := c) (m := m) rfl h
  exact ⟨i, hi, h1, h2, hg.vg _ (List.getElem_mem hi)⟩
theorem makeR_good (hg : c.good) (hm : m.fit) : (makeR c m).c.good := by
  unfold makeR
  split
  · exact hg
  rename_i h1
  split
  · exact hg
  split
  · exact hg
  rename_i h2 h3
  have hb := hm.b
  refine ⟨by simp [err]; omega, fun x hx => ?_, ?_, hg.sc, hg.sf, hg.qc, hg.qf⟩
  · rcases List.mem_append.1 hx with h | h
    · exact hg.vg x h
    simp only [List.mem_singleton] at h
    subst h
    exact ⟨hm.vo, hm.a, hm.se, ⟨hb.1, by show m.b ≤ 4; omega⟩, by simp, fun s hs => by rw [(List.mem_replicate.1 hs).2]; decide⟩
  show ((c.vs ++ [_]).map Vo.vo).Nodup
  rw [List.map_append, List.nodup_append]
  refine ⟨hg.nd, by simp, ?_⟩
  intro a ha b hb'
  obtain ⟨x, hx, rfl⟩ := List.mem_map.1 ha
  simp only [List.map_cons, List.map_nil, List.mem_singleton] at hb'
  subst hb'
  rcases atP_cases m.vo c.vs with ⟨_, h⟩ | ⟨i, hi, h, _⟩
  · exact h x hx
  omega
theorem epochR_good (hg : c.good) (hm : m.fit) : (epochR c m).c.good := by
  unfold epochR
  split
  · exact hg
  rename_i h
  obtain ⟨i, hi, h1, h2, h3⟩ := atP_good hg h
  rw [at_eq h1 hi, setV_eq h1]
  have ha := hm.a
  have he := h3.ep
  exact good_vs (y := { c.vs[i] with ep := max c.vs[i].ep m.a }) hg hi ⟨h3.vo, h3.tn, ⟨by show 0 ≤ max c.vs[i].ep m.a; omega, by show max c.vs[i].ep m.a ≤ _; omega⟩, h3.de, h3.ll, h3.lv⟩ rfl
theorem limitR_good (hg : c.good) (hm : m.fit) : (limitR c m).c.good := by
  unfold limitR
  split
  · exact hg
  rename_i h
  exact good_qs hg (good_set hg.qc (by simpa using h)).1 (set_fit hg.qf hm.a hm.b)
theorem leaf_at (hg : c.good) (he : (leafE S key c m want).1 = 0) : ∃ (i : Nat) (hi : i < c.vs.length), atP m.vo c.vs = i ∧ c.vs[i].vo = m.vo ∧ c.vs[i].good ∧ m.se < c.vs[i].lv.length ∧ (S.check key m.t m.vo c.vs[i].ep want).1 = 0 := by
  have h0 : ¬ atP m.vo c.vs < 0 := fun h => by rw [leafE, if_pos h] at he; exact absurd he (show ¬ (132 : Int) = 0 by decide)
  obtain ⟨i, hi, h1, h2, h3⟩ := atP_good hg h0
  rw [leafE_at h1 hi] at he
  split at he
  · rename_i h; exact absurd he h
  rename_i h
  split at he
  · exact absurd he (show ¬ (133 : Int) = 0 by decide)
  rename_i h4
  exact ⟨i, hi, h1, h2, h3, by omega, Classical.not_not.1 h⟩
theorem setL_good {s : ByteArray} {i : Nat} (hg : c.good) (hs : s.size ≤ 64) (h1 : atP m.vo c.vs = i) (hi : i < c.vs.length) : (c.setL m s).good := by
  rw [setL_at h1 hi]
  have h3 := hg.vg _ (List.getElem_mem hi)
  exact good_vs (y := { c.vs[i] with lv := c.vs[i].lv.set m.se.toNat s }) hg hi ⟨h3.vo, h3.tn, h3.ep, h3.de, by show (c.vs[i].lv.set _ _).length = _; rw [List.length_set]; exact h3.ll, fun x hx => by
    rcases List.mem_or_eq_of_mem_set hx with h | rfl
    · exact h3.lv x h
    exact hs⟩ rfl
theorem putR_good {i : Nat} (hg : c.good) (h1 : atP m.vo c.vs = i) (hi : i < c.vs.length) : (putR c m).c.good := by
  unfold putR
  split
  · exact hg
  rename_i h
  have hs : m.lf.size ≤ 64 := by omega
  split
  · split
    · exact hg
    rename_i h4
    have h5 : (takeQ c.qs (c.at m).tn 1).2 = 0 := Classical.not_not.1 h4
    exact good_qs (setL_good hg hs h1 hi) (good_take hg.qc h5).1 (take_fit hg.qf (by decide))
  exact setL_good hg hs h1 hi
theorem trimR_good {i : Nat} (hg : c.good) (h1 : atP m.vo c.vs = i) (hi : i < c.vs.length) : (trimR c m).c.good := by
  unfold trimR
  split
  · exact hg
  split
  · rename_i h4
    exact good_qs (setL_good hg (by decide) h1 hi) (good_give hg.qc h4).1 (give_fit hg.qf (by decide))
  exact setL_good hg (by decide) h1 hi
theorem leafR_good {f : Ck → Cm → Rs} (hg : c.good) (hf : ∀ i, atP m.vo c.vs = (i : Nat) → i < c.vs.length → (f c m).c.good) : (leafR S key c m want f).1.c.good := by
  by_cases he : (leafE S key c m want).1 = 0
  · rw [leafR_ok he]
    obtain ⟨i, hi, h1, _⟩ := leaf_at hg he
    exact hf i h1 hi
  rw [leafR_err he]; exact hg
theorem runR_good (hg : c.good) (hm : m.fit) : (runR S key c m).1.c.good := by
  unfold runR
  split
  · exact makeR_good hg hm
  split
  · exact epochR_good hg hm
  split
  · exact limitR_good hg hm
  split
  · exact leafR_good hg fun i h hi => putR_good hg h hi
  split
  · exact leafR_good hg fun i h hi => hg
  split
  · exact leafR_good hg fun i h hi => trimR_good hg h hi
  exact hg
theorem noteL_good {t : List SE.Se} {a : ByteArray} (h : SE.chkL t = true) (hf : ∀ x ∈ t, x.fit) (hi : U64 id) (hn : U64 nr) : SE.chkL (SE.noteL t id nr a) = true ∧ ∀ x ∈ SE.noteL t id nr a, x.fit := by
  obtain ⟨h1, h2, h3⟩ := of_decide_eq_true h
  have hsub : (SE.keepL id t).Sublist t := List.filter_sublist
  have hmem : ∀ x ∈ SE.noteL t id nr a, x ∈ SE.keepL id t ∨ x = ⟨id, nr, SE.cutA a⟩ := fun x hx => by
    have := List.mem_of_mem_drop hx
    simpa using this
  refine ⟨decide_eq_true ⟨?_, ?_, ?_⟩, ?_⟩
  · simp only [SE.noteL, SE.lastL, List.length_drop]; omega
  · intro x hx
    rcases hmem x hx with h | rfl
    · exact h2 x (hsub.subset h)
    show (SE.cutA a).size ≤ 256
    simp only [SE.cutA, ss]; omega
  · have hd : ((SE.keepL id t ++ [(⟨id, nr, SE.cutA a⟩ : SE.Se)]).map SE.Se.id).Nodup := by
      rw [List.map_append, List.nodup_append]
      refine ⟨(hsub.map _).nodup h3, by simp, ?_⟩
      intro x hx y hy
      simp only [List.map_cons, List.map_nil, List.mem_singleton] at hy
      subst hy
      obtain ⟨z, hz, rfl⟩ := List.mem_map.1 hx
      have := (List.mem_filter.1 hz).2
      simpa using this
    exact ((List.drop_sublist _ _).map _).nodup hd
  intro x hx
  rcases hmem x hx with h | rfl
  · exact hf x (hsub.subset h)
  exact ⟨hi, hn⟩
theorem noteR_good {r : Rs} (hg : r.c.good) (hi : U64 id) (hn : U64 nr) : (noteR r id nr).c.good := by
  obtain ⟨h1, h2⟩ := noteL_good (a := noteE r.e r.an) hg.sc hg.sf hi hn
  exact good_ss hg h1 h2
theorem unpC_fit (hc : cmd.size ≤ 1099511627776) : (unpC cmd).1.fit := by
  have u0 : U64 0 := by decide
  have h0 : cm0.fit := ⟨by decide, ⟨u0, u0, u0, u0, u0⟩, u0, u0, u0, u0, by decide⟩
  rcases num10 cmd with h | ⟨a0, a1, a2, a3, a4, a5, a6, a7, a8, a9, r, h, hr, hx, _⟩
  · rw [unpC, h]; exact h0
  rw [unpC, h]
  simp only
  split
  · rename_i hh
    refine ⟨by have := hx a0 (by simp); show -9223372036854775808 ≤ a0 ∧ a0 ≤ _; omega, ⟨hx a1 (by simp), hx a2 (by simp), hx a3 (by simp), hx a4 (by simp), hx a5 (by simp)⟩, hx a6 (by simp), hx a7 (by simp), hx a8 (by simp), hx a9 (by simp), ?_⟩
    have := resT_size1 (r.size : Int) r
    show (resT (r.size : Int) r).1.size ≤ _
    omega
  exact h0
theorem applyR_good (hg : c.good) (hi : U64 id) (hn : U64 nr) (hc : cmd.size ≤ 1099511627776) : (applyR S key c id nr cmd).1.c.good := by
  unfold applyR
  split
  · exact hg
  split
  · exact hg
  split
  · exact noteR_good (runR_good hg (unpC_fit hc)) hi hn
  exact noteR_good (r := err c 130) hg hi hn
end Go.Proofs.YtfkgdlfponfimaaGreat.X

/- Layer 13: chunk.Apply of a new command. -/
set_option linter.unusedVariables false
set_option linter.unusedSimpArgs false
set_option maxRecDepth 100000
namespace Go.Proofs.YtfkgdlfponfimaaGreat.X
open Go Go.RowKit WM
variable {ν β ps pos pos' : Nm} {H H1 : Heap} {Q : AVal → Heap → Prop} {L : List Asr} {k : Nat} {S : Rf} {c : Ck} {q qo : Nm} {key want id nr : Int} {m : Cm} {V0 S0 T0 v0 : AVal} {cmd : ByteArray}
end Go.Proofs.YtfkgdlfponfimaaGreat.X

/- Lists of texts as bytes. -/
set_option linter.unusedVariables false
set_option linter.unusedSimpArgs false
set_option maxRecDepth 100000
namespace Go.Proofs.YtfkgdlfponfimaaGreat.X
open Go Go.RowKit WM
variable {ν β : Nm} {H : Heap} {Q : AVal → Heap → Prop}
def cX : Cod ByteArray := cT 4611686018427387904 (by decide)
def textL (l : List ByteArray) : ByteArray := ba (encU l.length ++ (l.map cX.enc).flatten)
def sumB (l : List ByteArray) : Nat := (l.map ByteArray.size).sum
theorem sumB_take (t : List ByteArray) (i : Nat) : sumB (t.take i) ≤ sumB t := by
  induction t generalizing i with
  | nil => simp [sumB]
  | cons x r ih =>
    cases i with
    | zero => simp [sumB]
    | succ i => have := ih i; simp only [List.take_succ_cons, sumB, List.map_cons, List.sum_cons] at *; omega
theorem sumB_mem {t : List ByteArray} {x : ByteArray} (h : x ∈ t) : x.size ≤ sumB t := by
  induction t with
  | nil => simp at h
  | cons y r ih =>
    simp only [sumB, List.map_cons, List.sum_cons] at *
    rcases List.mem_cons.1 h with rfl | h
    · omega
    have := ih h; omega
theorem flatX_len {t : List ByteArray} (h : ∀ x ∈ t, x.size ≤ 4611686018427387904) : ((t.map cX.enc).flatten).length ≤ 10 * t.length + sumB t := by
  induction t with
  | nil => simp
  | cons x r ih =>
    have h1 := encU_le10 (n := x.size) (by have := h x (by simp); omega)
    have h2 := ih (fun y hy => h y (by simp [hy]))
    have h3 : (cX.enc x).length ≤ 10 + x.size := by
      show (encT x.data.toList).length ≤ _
      simp only [List.length_append, encT, bytes_size]; omega
    simp only [List.map_cons, List.flatten_cons, List.length_append, List.length_cons, sumB, List.sum_cons] at *
    omega
theorem flatX_ge (t : List ByteArray) : t.length + sumB t ≤ ((t.map cX.enc).flatten).length := by
  induction t with
  | nil => simp [sumB]
  | cons x r ih =>
    have h1 := encU_pos x.size
    have h3 : (cX.enc x).length = (encU x.size).length + x.size := by
      show (encT x.data.toList).length = _
      simp only [List.length_append, encT, bytes_size]
    simp only [List.map_cons, List.flatten_cons, List.length_append, List.length_cons, sumB, List.sum_cons] at *
    omega
theorem textL_step {t : List ByteArray} {i : Nat} (hi : i < t.length) (n : Nat) : ba (encU n ++ ((t.take i).map cX.enc).flatten) ++ encS t[i] = ba (encU n ++ ((t.take (i + 1)).map cX.enc).flatten) := by
  rw [List.take_succ_eq_append_getElem hi, encS, ba_append, List.map_append, List.flatten_append]
  congr 1
  simp only [List.map_cons, List.map_nil, List.flatten_cons, List.flatten_nil, List.append_nil, List.append_assoc]
  rfl
theorem textL_B {t : List ByteArray} (hn : t.length ≤ 1048576) (hs : sumB t ≤ 1073741824) (i : Nat) : (ba (encU t.length ++ ((t.take i).map cX.enc).flatten)).size ≤ 10 * t.length + sumB t + 10 := by
  have h1 := flatX_len (t := t.take i) (fun x hx => by have := sumB_mem (List.mem_of_mem_take hx); omega)
  have h2 := encU_le10 (n := t.length) (by omega)
  have h3 := sumB_take t i
  rw [ba_size, List.length_append]
  rw [List.length_take] at h1; omega
theorem textL_size {t : List ByteArray} (hn : t.length ≤ 1048576) (hs : sumB t ≤ 1073741824) : (textL t).size ≤ 10 * t.length + sumB t + 10 := by
  have := textL_B hn hs t.length
  rw [List.take_of_length_le (by omega)] at this
  exact this
theorem putL {v : AVal} {t : List ByteArray} (hv : Ls v (t.map AVal.str)) (hn : t.length ≤ 1048576) (hsum : sumB t ≤ 1073741824) (hq : Q (.str (textL t)) H) : CW cfg ν 77 [v] H Q := by
  have hB := textL_B hn hsum
  have hB0 := hB 0
  simp only [List.take_zero, List.map_nil, List.flatten_nil, List.append_nil] at hB0
  refine CW_pure g77 F77 rfl ?_
  have hS0 : Own ν ν (fun _ => none) [] := Own.nil
  refine XW_sr (OW_as rfl rfl ?_)
  refine EZ22 rfl ?_
  refine XW_sr ?_
  refine OW_allocB hS0 (le_app (p := ν) (b := [0, 0, 1])) (under_app [0, 0, 1] under_me) rfl rfl rfl fun H1 hS1 => ?_
  replace hS1 : Own _ _ _ ([_]) := hS1
  refine EZ22 rfl ?_
  refine XW_sr (OW_mv rfl rfl ?_)
  refine OW_lenL rfl rfl (by assumption) rfl rfl rfl (by exact List.length_map _) ?_
  refine OW_conv rfl rfl (conv_in rfl rfl rfl (IntWalk.u64_in _ (by omega))) ?_
  refine OW_env (e' := [_,_,_,_,_,_,_,_,_,_,_,_,_,_,_,_,_,_,_,_,_,_]) rfl ?_
  refine OW_fn rfl rfl (putUi (by omega) ?_) 
  have hz : (⟨#[]⟩ : ByteArray).size + (ba (encU ((t.length : Nat) : Int).toNat)).size ≤ 1099511627776 := by have := encU_i (a := (t.length : Int)) (by omega); show 0 + _ ≤ _; omega
  refine OW_fn rfl rfl (W_write rfl hS1 (k := 0) rfl (le_lit (ν := ν) (a := [1, 0, 1]) (b := [4, 0, 1, 1]) (by decide)) (before_lit (ν := ν) (a := [4, 0, 1, 1]) (b := [5, 0, 1, 1]) (by decide)) (by omega) fun H2 hS2 => ?_) 
  replace hS2 : Own _ _ _ ([_]) := hS2
  refine EZ22 rfl ?_
  refine XW_seq (XW_sr (OW_mv rfl rfl ?_))
  refine OW_lenL rfl rfl (by assumption) rfl rfl rfl (by exact List.length_map _) ?_
  refine OW_mv rfl rfl ?_
  refine EZ22 rfl ?_
  refine XW_block ?_
  refine XW_whileN (I := fun ν' mm ee H' => ∃ (i : Nat), mm = t.length - i ∧ under (1 :: 0 :: 1 :: 1 :: 1 :: ν) ν' = true ∧ Own ν ν' H' ([bld (0 :: 0 :: 1 :: ν) (ba (encU t.length ++ ((t.take i).map cX.enc).flatten))]) ∧ (i ≤ t.length) ∧ ∃ g : Nat → AVal, ee = [v, g 1, g 2, .ptr (0 :: 0 :: 1 :: ν) 0 0, g 4, g 5, g 6, g 7, g 8, g 9, g 10, v, .int .i64 t.length, .int .i64 i, g 14, g 15, g 16, g 17, g 18, g 19, g 20, g 21]) ?_ _ _ _ _ ⟨0, rfl, under_me, Own.cast (Own.mono (hS2) (le_lit (ν := ν) (a := [5, 0, 1, 1]) (b := [1, 0, 1, 1, 1]) (by decide))) (by rw [Int.toNat_natCast, ← ba_nil, ba_append]; simp), (by omega), env_g rfl⟩
  rintro ν1 mm ee H3 ⟨i, rfl, hU1, hS3, hi, g1, rfl⟩
  refine XW_sr ?_
  refine OW_bin rfl rfl rfl rfl rfl ?_
  refine EZ22 rfl ?_
  refine XW_seq ?_
  refine XW_if rfl (fun h4 => ?_) (fun h4 => ?_)
  ·try simp only [bs] at h4
   refine XW_skip (then_norm (XW_seq (XW_block (XW_sr ?_))))
   have hsa := sumB_mem (List.getElem_mem (l := t) (n := i) (by omega)); have hs3 := encS_size (s := t[i]) (by omega); have hBi := hB i
   refine OW_iaL rfl rfl rfl (by assumption) rfl rfl rfl (by rfl) (by exact at_map (by omega)) rfl ?_
   refine OW_loadE rfl rfl rfl (by rfl) ?_
   refine OW_as rfl rfl ?_
   refine EZ22 rfl ?_
   refine XW_region (OW_mv rfl rfl ?_)
   refine OW_fn rfl rfl (putTx (by omega) ?_) 
   refine OW_fn rfl rfl (W_write rfl hS3 (k := 0) rfl (le_app (p := ν1) (b := [2, 1, 0, 1, 1, 0])) (before_lit (ν := ν1) (a := [2, 1, 0, 1, 1, 0]) (b := [3, 1, 0, 1, 1, 0]) (by decide)) (by omega) fun H4 hS4 => ?_) 
   replace hS4 : Own _ _ _ ([_]) := hS4
   refine EZ22 rfl ?_
   refine block_norm (then_norm (XW_region ?_))
   refine OW_bin rfl rfl rfl rfl (add_w64 (by omega)) ?_
   refine OW_mv rfl rfl ?_
   refine EZ22 rfl ?_
   refine ⟨_, ?_, i + 1, rfl, under_in hU1, Own.cast (Own.mono (hS4) (le_lit (ν := ν1) (a := [3, 1, 0, 1, 1, 0]) (b := [1]) (by decide))) (by rw [textL_step (by omega)]), ?_, env_g rfl⟩
   · omega
   omega
  try simp only [bs] at h4
  refine XW_exit (then_exit (block_exit (then_norm (XW_sr ?_))))
  rw [List.take_of_length_le (by omega)] at hS3
  refine OW_fn rfl rfl (W_string rfl hS3 (k := 0) rfl (le_bef (bef_under (a := []) hU1 (before_lit (ν := ν) (a := [1, 0, 1, 1, 1]) (b := [0, 0, 1, 1, 1, 1]) (by decide)))) (before_lit (ν := ν) (a := [0, 0, 1, 1, 1, 1]) (b := [1, 0, 1, 1, 1, 1]) (by decide)) fun H5 hS5 => ?_) 
  replace hS5 : Own _ _ _ ([]) := hS5
  refine OW_as rfl rfl ?_
  refine EZ22 rfl ?_
  refine XW_ret ?_
  refine ret_ret (res1 rfl (rv_tmp rfl)) (frz1 (Q := Q) (by exact freeze_plain rfl) ?_)
  exact hq
theorem rputL {v : AVal} {t : List ByteArray} (hv : Ls v (t.map AVal.str)) (hn : t.length ≤ 1048576) (hsum : sumB t ≤ 1073741824) (hq : Q (.str (textL t)) H) : CW cfg ν 81 [v] H Q := by
  have hB := textL_B hn hsum
  refine CW_pure g81 F81 rfl ?_
  refine XW_sr (OW_as rfl rfl ?_)
  refine OW_nilE (e' := [_,_,_,_,_,_,_,_,_,_,_,_,_,_,_,_,_,_,_,_,_,_,_]) rfl ?_
  refine XW_sr (OW_mv rfl rfl ?_)
  refine OW_lenL rfl rfl (by assumption) rfl rfl rfl (by exact List.length_map _) ?_
  refine OW_conv rfl rfl (conv_in rfl rfl rfl (IntWalk.u64_in _ (by omega))) ?_
  refine OW_env (e' := [_,_,_,_,_,_,_,_,_,_,_,_,_,_,_,_,_,_,_,_,_,_,_]) rfl ?_
  refine OW_fn rfl rfl (rputUi (by omega) ?_) 
  refine OW_as rfl rfl ?_
  refine OW_nilE (e' := [_,_,_,_,_,_,_,_,_,_,_,_,_,_,_,_,_,_,_,_,_,_,_]) rfl ?_
  refine XW_seq (XW_sr ?_)
  rw [Int.toNat_natCast, show encU t.length = encU t.length ++ ((t.take 0).map cX.enc).flatten by simp]
  refine OW_as rfl rfl ?_
  refine OW_nilE (e' := [_,_,_,_,_,_,_,_,_,_,_,_,_,_,_,_,_,_,_,_,_,_,_]) rfl ?_
  refine XW_block ?_
  refine XW_whileN (I := fun ν' mm ee H' => ∃ (i : Nat), mm = t.length - i ∧ under (1 :: 0 :: 1 :: 1 :: ν) ν' = true ∧ (i ≤ t.length) ∧ ∃ g : Nat → AVal, ee = [v, g 1, g 2, .str (ba (encU t.length ++ ((t.take i).map cX.enc).flatten)), .int .i64 i, g 5, g 6, g 7, g 8, g 9, g 10, g 11, g 12, g 13, g 14, g 15, g 16, g 17, g 18, g 19, g 20, g 21, g 22]) ?_ _ _ _ _ ⟨0, rfl, under_me, (by omega), env_g rfl⟩
  rintro ν1 mm ee H1 ⟨i, rfl, hU1, hi, g1, rfl⟩
  refine XW_seq (XW_sr (OW_mv rfl rfl (OW_mv rfl rfl ?_)))
  refine OW_lenL rfl rfl (by assumption) rfl rfl rfl (by exact List.length_map _) ?_
  refine OW_env (e' := [_,_,_,_,_,_,_,_,_,_,_,_,_,_,_,_,_,_,_,_,_,_,_]) rfl ?_
  refine OW_bin rfl rfl rfl rfl rfl ?_
  refine OW_nilE (e' := [_,_,_,_,_,_,_,_,_,_,_,_,_,_,_,_,_,_,_,_,_,_,_]) rfl ?_
  refine XW_if rfl (fun h3 => ?_) (fun h3 => ?_)
  ·try simp only [bs] at h3
   refine XW_skip (then_norm (XW_seq (XW_block (XW_region ?_))))
   have hsa := sumB_mem (List.getElem_mem (l := t) (n := i) (by omega)); have hs3 := encS_size (s := t[i]) (by omega); have hBi := hB i
   refine OW_mv rfl rfl (OW_mv rfl rfl (OW_mv rfl rfl ?_))
   refine OW_env (e' := [_,_,_,_,_,_,_,_,_,_,_,_,_,_,_,_,_,_,_,_,_,_,_]) rfl ?_
   refine OW_iaL rfl rfl rfl (by assumption) rfl rfl rfl (by rfl) (by exact at_map (by omega)) rfl ?_
   refine OW_loadE rfl rfl rfl (by rfl) ?_
   refine OW_fn rfl rfl (rputTx (by omega) ?_) 
   refine OW_env (e' := [_,_,_,_,_,_,_,_,_,_,_,_,_,_,_,_,_,_,_,_,_,_,_]) rfl ?_
   refine OW_bin rfl rfl rfl rfl (cat (by omega)) ?_
   rw [textL_step (by omega)]
   refine OW_as rfl rfl ?_
   refine OW_nilE (e' := [_,_,_,_,_,_,_,_,_,_,_,_,_,_,_,_,_,_,_,_,_,_,_]) rfl ?_
   refine block_norm (then_norm (XW_region (OW_mv rfl rfl ?_)))
   refine OW_bin rfl rfl rfl rfl (add_w64 (by omega)) ?_
   refine OW_as rfl rfl ?_
   refine OW_nilE (e' := [_,_,_,_,_,_,_,_,_,_,_,_,_,_,_,_,_,_,_,_,_,_,_]) rfl ?_
   refine ⟨_, ?_, i + 1, rfl, under_in hU1, ?_, env_g rfl⟩
   · omega
   omega
  try simp only [bs] at h3
  refine XW_exit (then_exit (block_exit (then_norm (XW_sr ?_))))
  rw [List.take_of_length_le (by omega)]
  refine OW_mv rfl rfl (OW_as rfl rfl ?_)
  refine OW_nilE (e' := [_,_,_,_,_,_,_,_,_,_,_,_,_,_,_,_,_,_,_,_,_,_,_]) rfl ?_
  refine XW_ret ?_
  refine ret_ret (res1 rfl (rv_tmp rfl)) (frz1 (Q := Q) (by exact freeze_plain rfl) ?_)
  exact hq
def noL : List ByteArray × ByteArray × Bool := ([], ⟨#[]⟩, false)
def resL (m : Int) (s : ByteArray) : List ByteArray × ByteArray × Bool := match takeU 64 s.data.toList with
  | some (n, r) => if (n : Int) ≤ m then (match cX.manyT n r with
    | some (l, q) => (l, ba q, true)
    | none => noL) else noL
  | none => noL
def resM (m : Int) (s : ByteArray) : Int × ByteArray × Bool := match takeU 64 s.data.toList with
  | some (n, r) => if (n : Int) ≤ m ∧ n ≤ r.length then ((n : Int), ba r, true) else (0, ⟨#[]⟩, false)
  | none => (0, ⟨#[]⟩, false)
theorem resT_far {s : ByteArray} (hs : s.size ≤ 4611686018427387904) : resT (s.size : Int) s = resT 4611686018427387904 s := by
  unfold resT WM.takeT
  cases h : takeU 64 s.data.toList with
  | none => rfl
  | some p =>
    obtain ⟨n, r⟩ := p
    have hr := takeU_short h
    have e : s.data.toList.length = s.size := rfl
    simp only
    by_cases hn : n ≤ r.length
    · rw [if_pos ⟨by omega, by omega, hn⟩, if_pos ⟨by omega, by omega, hn⟩]
    rw [if_neg (by omega), if_neg (by omega)]
theorem cX_res {s : ByteArray} (hs : s.size ≤ 4611686018427387904) : ((resT (s.size : Int) s).2.2 = false ∧ cX.tk s.data.toList = none) ∨ ((resT (s.size : Int) s).2.2 = true ∧ cX.tk s.data.toList = some ((resT (s.size : Int) s).1, (resT (s.size : Int) s).2.1.data.toList)) := by
  rw [resT_far hs]
  rcases cT_res 4611686018427387904 (by decide) s with ⟨h1, _, h2⟩ | ⟨h1, h2⟩
  · exact .inl ⟨h1, h2⟩
  exact .inr ⟨h1, h2⟩
theorem cX_tk {s : ByteArray} (hs : s.size ≤ 4611686018427387904) (h : (resT (s.size : Int) s).2.2 = true) : cX.tk s.data.toList = some ((resT (s.size : Int) s).1, (resT (s.size : Int) s).2.1.data.toList) := by
  rcases cX_res hs with ⟨h1, _⟩ | ⟨_, h2⟩
  · rw [h1] at h; cases h
  exact h2
theorem cX_tk0 {s : ByteArray} (hs : s.size ≤ 4611686018427387904) (h : (resT (s.size : Int) s).2.2 = false) : cX.tk s.data.toList = none := by
  rcases cX_res hs with ⟨_, h2⟩ | ⟨h1, _⟩
  · exact h2
  rw [h1] at h; cases h
theorem cX_many {n : Nat} {s r : List UInt8} {l : List ByteArray} (h : cX.manyT n s = some (l, r)) : n + sumB l + r.length ≤ s.length := by
  obtain ⟨⟨h1, _⟩, rfl⟩ := (cX.manyT_iff _ _ _ _).1 h
  have := flatX_ge l
  rw [List.length_append]; omega
theorem many_c {s : ByteArray} {m : Int} (hs : s.size ≤ 4611686018427387904) (h0 : 0 ≤ m) (hm : m ≤ 4611686018427387904) (hq : Q (.tup [.int .i64 (resM m s).1, .str (resM m s).2.1, .bool (resM m s).2.2]) H) : CW cfg ν 122 [.str s, .int .i64 m] H Q := by
  rcases resU_cases s with ⟨h1, h2⟩ | ⟨n, r, h1, h2, hn, hr⟩
  · rw [resM, h1] at hq
    refine CW_pure g122 F122 rfl ?_
    refine XW_sr (OW_as rfl rfl (OW_as rfl rfl (OW_as rfl rfl ?_)))
    refine EZ38 rfl ?_
    refine XW_sr (OW_mv rfl rfl ?_)
    refine OW_fn rfl rfl (takeU_e hs h2 ?_) 
    refine OW_mv rfl rfl (EN38 rfl (OW_ex rfl rfl rfl (OW_ex rfl rfl rfl (OW_ex rfl rfl rfl (EN38 rfl (OW_as rfl rfl (OW_as rfl rfl (OW_as rfl rfl ?_))))))))
    refine EZ38 rfl ?_
    refine XW_seq (XW_sr (OW_mv rfl rfl (OW_un rfl rfl rfl (OW_mv rfl rfl (EN38 rfl ?_)))))
    refine OW_split (tt := 18) rfl (fun g2_3 => ?_) (fun g2_3 => ?_)
    ·first
     |skip
      try simp only [bs] at g2_3
      refine OW_no rfl (OW_no rfl (EN38 rfl (OW_pick rfl rfl rfl (OW_mv rfl rfl (OW_no rfl (EN38 rfl (OW_no rfl (OW_no rfl (OW_no rfl ?_)))))))))
      refine EN38 rfl (OW_pick rfl rfl rfl (OW_mv rfl rfl (OW_no rfl (EN38 rfl (OW_no rfl (OW_no rfl (OW_no rfl (EN38 rfl (OW_no rfl ?_)))))))))
      refine OW_pick rfl rfl rfl ?_
      refine EZ38 rfl ?_
      refine XW_yes rfl rfl ?_
      refine XW_sr (OW_as rfl rfl (OW_as rfl rfl (OW_as rfl rfl ?_)))
      refine EZ38 rfl ?_
      refine XW_ret (then_ret ?_)
      refine ret_ret (res3 rfl (rv_tmp rfl) (rv_tmp rfl) (rv_tmp rfl)) (frz3 (Q := Q) (by exact freeze_plain rfl) (by exact freeze_plain rfl) (by exact freeze_plain rfl) ?_)
      exact hq
    (exfalso; (try simp only [bs] at g2_3) <;> ((simp at g2_3; done)); done)
  have hbr : (ba r).size = r.length := ba_size r
  rw [resM, h1] at hq
  simp only at hq
  refine CW_pure g122 F122 rfl ?_
  refine XW_sr (OW_as rfl rfl (OW_as rfl rfl (OW_as rfl rfl ?_)))
  refine EZ38 rfl ?_
  refine XW_sr (OW_mv rfl rfl ?_)
  refine OW_fn rfl rfl (takeU_e hs h2 ?_) 
  refine OW_mv rfl rfl (EN38 rfl (OW_ex rfl rfl rfl (OW_ex rfl rfl rfl (OW_ex rfl rfl rfl (EN38 rfl (OW_as rfl rfl (OW_as rfl rfl (OW_as rfl rfl ?_))))))))
  refine EZ38 rfl ?_
  refine XW_seq (XW_sr (OW_mv rfl rfl (OW_un rfl rfl rfl (OW_mv rfl rfl (EN38 rfl ?_)))))
  refine OW_split (tt := 18) rfl (fun g2_3 => ?_) (fun g2_3 => ?_)
  ·(exfalso; (try simp only [bs] at g2_3) <;> ((simp at g2_3; done)); done)
  first
  |skip
   try simp only [bs] at g2_3
   refine OW_mv rfl rfl ?_
   refine OW_bin rfl rfl rfl rfl rfl ?_
   refine EN38 rfl (OW_pick rfl rfl rfl (OW_mv rfl rfl ?_))
   refine OW_split (tt := 22) rfl (fun g2_7 => ?_) (fun g2_7 => ?_)
   ·(exfalso; (try simp only [bs] at g2_7) <;> (omega); done)
   first
   |skip
    try simp only [bs] at g2_7
    refine EN38 rfl (OW_mv rfl rfl (OW_mv rfl rfl ?_))
    refine OW_conv rfl rfl (conv_in rfl rfl rfl (IntWalk.u64_in _ (by omega))) ?_
    refine EN38 rfl ?_
    refine OW_bin rfl rfl rfl rfl rfl ?_
    refine OW_pick rfl rfl rfl (OW_mv rfl rfl (EN38 rfl ?_))
    refine OW_split (tt := 28) rfl (fun g2_13 => ?_) (fun g2_13 => ?_)
    ·first
     |skip
      try simp only [bs] at g2_13
      refine OW_no rfl (OW_no rfl (EN38 rfl (OW_no rfl (OW_no rfl (OW_no rfl (EN38 rfl (OW_pick rfl rfl rfl ?_)))))))
      refine EZ38 rfl ?_
      refine XW_yes rfl rfl ?_
      refine XW_sr (OW_as rfl rfl (OW_as rfl rfl (OW_as rfl rfl ?_)))
      refine EZ38 rfl ?_
      refine XW_ret (then_ret ?_)
      refine ret_ret (res3 rfl (rv_tmp rfl) (rv_tmp rfl) (rv_tmp rfl)) (frz3 (Q := Q) (by exact freeze_plain rfl) (by exact freeze_plain rfl) (by exact freeze_plain rfl) ?_)
      (rw [if_neg (by omega)] at hq; exact hq)
    first
    |skip
     try simp only [bs] at g2_13
     refine OW_mv rfl rfl (OW_mv rfl rfl (EN38 rfl ?_))
     refine OW_lenS rfl rfl rfl ?_
     refine OW_conv rfl rfl (conv_in rfl rfl rfl (IntWalk.u64_in _ (by omega))) ?_
     refine OW_bin rfl rfl rfl rfl rfl ?_
     refine EN38 rfl (OW_pick rfl rfl rfl ?_)
     refine EZ38 rfl ?_
     refine XW_if rfl (fun h2 => ?_) (fun h2 => ?_)
     ·first
      |skip
       try simp only [bs] at h2
       refine XW_sr (OW_as rfl rfl (OW_as rfl rfl (OW_as rfl rfl ?_)))
       refine EZ38 rfl ?_
       refine XW_ret (then_ret ?_)
       refine ret_ret (res3 rfl (rv_tmp rfl) (rv_tmp rfl) (rv_tmp rfl)) (frz3 (Q := Q) (by exact freeze_plain rfl) (by exact freeze_plain rfl) (by exact freeze_plain rfl) ?_)
       (rw [if_neg (by omega)] at hq; exact hq)
     first
     |skip
      try simp only [bs] at h2
      refine XW_skip (then_norm (XW_sr (OW_mv rfl rfl ?_)))
      refine OW_conv rfl rfl (conv_in rfl rfl rfl (IntWalk.i64_in _ (by omega))) ?_
      refine OW_mv rfl rfl (EN38 rfl (OW_as rfl rfl (OW_as rfl rfl (OW_as rfl rfl ?_))))
      refine EZ38 rfl ?_
      refine XW_ret ?_
      refine ret_ret (res3 rfl (rv_tmp rfl) (rv_tmp rfl) (rv_tmp rfl)) (frz3 (Q := Q) (by exact freeze_plain rfl) (by exact freeze_plain rfl) (by exact freeze_plain rfl) ?_)
      (rw [if_pos ⟨by omega, by omega⟩] at hq; exact hq)
theorem many_e {s b : ByteArray} {m a : Int} {d : Bool} (hs : s.size ≤ 4611686018427387904) (h0 : 0 ≤ m) (hm : m ≤ 4611686018427387904) (he : resM m s = (a, b, d)) (hq : Q (.tup [.int .i64 a, .str b, .bool d]) H) : CW cfg ν 122 [.str s, .int .i64 m] H Q := many_c hs h0 hm (by rw [he]; exact hq)
theorem takeL_c {s : ByteArray} {m : Int} (hs : s.size ≤ 4611686018427387904) (h0 : 0 ≤ m) (hm : m ≤ 4294967000) (hq : Q (.tup [.lst ((resL m s).1.map AVal.str), .str (resL m s).2.1, .bool (resL m s).2.2]) H) : CW cfg ν 107 [.str s, .int .i64 m] H Q := by
  have hno : resM m s = (0, ⟨#[]⟩, false) → resL m s = noL := by
    intro h
    unfold resM at h
    unfold resL
    cases h1 : takeU 64 s.data.toList with
    | none => rfl
    | some p =>
      obtain ⟨n, r⟩ := p
      rw [h1] at h
      simp only at h ⊢
      by_cases hn : (n : Int) ≤ m
      · rw [if_pos hn]
        cases h2 : cX.manyT n r with
        | none => rfl
        | some q =>
          obtain ⟨l, q⟩ := q
          have := cX_many h2
          rw [if_pos ⟨hn, by omega⟩] at h
          cases h
      rw [if_neg hn]
  rcases resU_cases s with ⟨h1, h2⟩ | ⟨n, r, h1, h2, hn, hr⟩
  · have hM : resM m s = (0, ⟨#[]⟩, false) := by rw [resM, h1]
    rw [hno hM] at hq
    refine CW_pure g107 F107 rfl ?_
    have hS0 : Own ν ν (fun _ => none) [] := Own.nil
    refine XW_sr (OW_as rfl rfl (OW_as rfl rfl (OW_as rfl rfl ?_)))
    refine EZ41 rfl ?_
    refine XW_sr (OW_mv rfl rfl (OW_mv rfl rfl ?_))
    refine OW_fn rfl rfl (many_e hs h0 (by omega) hM ?_) 
    refine EN41 rfl (OW_mv rfl rfl (OW_ex rfl rfl rfl (OW_ex rfl rfl rfl (EN41 rfl (OW_ex rfl rfl rfl (OW_as rfl rfl (OW_as rfl rfl (EN41 rfl (OW_as rfl rfl ?_)))))))))
    refine EZ41 rfl ?_
    refine XW_seq (XW_sr (OW_mv rfl rfl (OW_un rfl rfl rfl ?_)))
    refine EZ41 rfl ?_
    refine XW_yes rfl rfl ?_
    refine XW_sr (OW_as rfl rfl (OW_as rfl rfl (OW_as rfl rfl ?_)))
    refine EZ41 rfl ?_
    refine XW_ret (then_ret ?_)
    refine ret_ret (res3 rfl (rv_tmp rfl) (rv_tmp rfl) (rv_tmp rfl)) (frz3 (Q := Q) (by exact Ls.freeze Ls.nls) (by exact freeze_plain rfl) (by exact freeze_plain rfl) ?_)
    exact hq
  by_cases hc : (n : Int) ≤ m ∧ n ≤ r.length
  · have hM : resM m s = ((n : Int), ba r, true) := by rw [resM, h1]; exact if_pos hc
    have hbr : (ba r).size = r.length := ba_size r
    rw [resL, h1] at hq
    simp only at hq
    rw [if_pos hc.1] at hq
    refine CW_pure g107 F107 rfl ?_
    have hS0 : Own ν ν (fun _ => none) [] := Own.nil
    refine XW_sr (OW_as rfl rfl (OW_as rfl rfl (OW_as rfl rfl ?_)))
    refine EZ41 rfl ?_
    refine XW_sr (OW_mv rfl rfl (OW_mv rfl rfl ?_))
    refine OW_fn rfl rfl (many_e hs h0 (by omega) hM ?_) 
    refine EN41 rfl (OW_mv rfl rfl (OW_ex rfl rfl rfl (OW_ex rfl rfl rfl (EN41 rfl (OW_ex rfl rfl rfl (OW_as rfl rfl (OW_as rfl rfl (EN41 rfl (OW_as rfl rfl ?_)))))))))
    refine EZ41 rfl ?_
    refine XW_seq (XW_sr (OW_mv rfl rfl (OW_un rfl rfl rfl ?_)))
    refine EZ41 rfl ?_
    refine XW_no rfl rfl ?_
    refine XW_skip (then_norm (XW_sr (OW_as rfl rfl ?_)))
    refine EZ41 rfl ?_
    refine XW_seq (XW_sr (OW_mv rfl rfl (OW_mv rfl rfl ?_)))
    refine EZ41 rfl ?_
    refine XW_block ?_
    refine XW_whileN (I := fun ν' mm ee H' => ∃ (i : Nat) (O : AVal) (acc : List ByteArray) (rest : ByteArray) (z : ByteArray), mm = n - i ∧ under (1 :: 0 :: 1 :: 1 :: 1 :: 1 :: ν) ν' = true ∧ Own ν ν' H' ([sl O 1 (acc.map AVal.str)]) ∧ (cX.Far n r i acc rest.data.toList ∧ rest.size ≤ s.size) ∧ ∃ g : Nat → AVal, ee = [g 0, g 1, g 2, g 3, g 4, g 5, g 6, g 7, .str rest, g 9, O, g 11, g 12, g 13, g 14, g 15, g 16, g 17, g 18, g 19, g 20, .int .i64 n, .int .i64 i, g 23, g 24, g 25, g 26, g 27, g 28, g 29, g 30, g 31, g 32, g 33, g 34, g 35, g 36, g 37, g 38, g 39, g 40]) ?_ _ _ _ _ ⟨0, .nls, [], ba r, ⟨#[]⟩, rfl, under_me, Own.cast (Own.mono (hS0.addN) (le_app (p := ν) (b := [1, 0, 1, 1, 1, 1]))) (rfl), (⟨by rw [ba_data]; exact cX.far0 n r, by omega⟩), env_g rfl⟩
    rintro ν1 mm ee H1 ⟨i, O, acc, rest, z, rfl, hU1, hS1, ⟨hF, hrs⟩, g1, rfl⟩
    refine XW_sr ?_
    refine OW_bin rfl rfl rfl rfl rfl ?_
    refine EZ41 rfl ?_
    refine XW_seq ?_
    refine XW_if rfl (fun h6 => ?_) (fun h6 => ?_)
    ·try simp only [bs] at h6
     refine XW_skip (then_norm (XW_seq (XW_block (XW_sr (OW_as rfl rfl ?_)))))
     refine EZ41 rfl ?_
     refine XW_seq (XW_sr (OW_mv rfl rfl (OW_mv rfl rfl ?_)))
     refine OW_lenS rfl rfl rfl ?_
     refine EN41 rfl ?_
     refine OW_fn rfl rfl (takeT_c (by omega) (by omega) ?_) 
     refine OW_mv rfl rfl (OW_ex rfl rfl rfl (EN41 rfl (OW_ex rfl rfl rfl (OW_ex rfl rfl rfl (OW_as rfl rfl (EN41 rfl (OW_as rfl rfl (OW_as rfl rfl ?_))))))))
     refine EZ41 rfl ?_
     refine XW_sr ?_
     have z1 := resT_size rest.size rest; have hal := hF.2.1
     refine OW_mv rfl rfl (OW_un rfl rfl rfl ?_)
     refine EZ41 rfl ?_
     refine XW_if rfl (fun h9 => ?_) (fun h9 => ?_)
     ·try simp only [bs] at h9
      refine XW_sr (OW_as rfl rfl (OW_as rfl rfl (OW_as rfl rfl ?_)))
      refine EZ41 rfl ?_
      refine XW_ret (then_ret (block_ret (then_ret (block_ret (then_ret ?_)))))
      refine ret_ret (res3 rfl (rv_tmp rfl) (rv_tmp rfl) (rv_tmp rfl)) (frz3 (Q := Q) (by exact Ls.freeze Ls.nls) (by exact freeze_plain rfl) (by exact freeze_plain rfl) ?_)
      (rw [Cod.far_none hF (by omega) (cX_tk0 (by omega) (by simp_all))] at hq; exact hq)
     try simp only [bs] at h9
     refine XW_skip (then_norm (XW_region (OW_mv rfl rfl (OW_mv rfl rfl ?_))))
     refine OW_bs rfl rfl (v := .lst [_]) rfl ?_
     refine EN41 rfl ?_
     refine OW_app hS1 (k := 0) rfl (le_app (p := ν1) (b := [3, 1, 1, 0, 1, 1, 0])) (under_app [3, 1, 1, 0, 1, 1, 0] (under_trans (under_app [1, 0, 1, 1, 1, 1] under_me) hU1)) rfl rfl rfl rfl rfl rfl rfl rfl (by rfl) (by exact one_wide rfl) (by (simp only [ss]; omega)) (by decide) fun O1 H2 hS2 => ?_
     replace hS2 : Own _ _ _ ([_]) := hS2
     refine OW_as rfl rfl ?_
     refine EZ41 rfl ?_
     refine block_norm (then_norm (XW_region ?_))
     refine OW_bin rfl rfl rfl rfl (add_w64 (by omega)) ?_
     refine OW_mv rfl rfl ?_
     refine EZ41 rfl ?_
     refine ⟨_, ?_, i + 1, O1, acc ++ [(resT rest.size rest).1], _, ⟨#[]⟩, rfl, under_in hU1, Own.cast (Own.mono (hS2) (le_lit (ν := ν1) (a := [4, 1, 1, 0, 1, 1, 0]) (b := [1]) (by decide))) (by simp), ?_, env_g rfl⟩
     · omega
     exact ⟨Cod.far_step hF (by omega) (cX_tk (by omega) (by assumption)), by omega⟩
    try simp only [bs] at h6
    refine XW_exit (then_exit (block_exit (then_norm (XW_sr (OW_mv rfl rfl (OW_mv rfl rfl (OW_as rfl rfl (EN41 rfl (OW_as rfl rfl ?_)))))))))
    refine OW_as rfl rfl ?_
    refine EZ41 rfl ?_
    refine XW_ret ?_
    refine ret_ret (res3 rfl (rv_tmp rfl) (rv_tmp rfl) (rv_tmp rfl)) (frz3 (Q := Q) (by exact hS1.frz (k := 0) rfl (by exact map_plain (fun _ => rfl))) (by exact freeze_plain rfl) (by exact freeze_plain rfl) ?_)
    (rw [Cod.far_end hF (by omega)] at hq; exact hq)
  have hM : resM m s = (0, ⟨#[]⟩, false) := by rw [resM, h1]; exact if_neg hc
  rw [hno hM] at hq
  refine CW_pure g107 F107 rfl ?_
  have hS0 : Own ν ν (fun _ => none) [] := Own.nil
  refine XW_sr (OW_as rfl rfl (OW_as rfl rfl (OW_as rfl rfl ?_)))
  refine EZ41 rfl ?_
  refine XW_sr (OW_mv rfl rfl (OW_mv rfl rfl ?_))
  refine OW_fn rfl rfl (many_e hs h0 (by omega) hM ?_) 
  refine EN41 rfl (OW_mv rfl rfl (OW_ex rfl rfl rfl (OW_ex rfl rfl rfl (EN41 rfl (OW_ex rfl rfl rfl (OW_as rfl rfl (OW_as rfl rfl (EN41 rfl (OW_as rfl rfl ?_)))))))))
  refine EZ41 rfl ?_
  refine XW_seq (XW_sr (OW_mv rfl rfl (OW_un rfl rfl rfl ?_)))
  refine EZ41 rfl ?_
  refine XW_yes rfl rfl ?_
  refine XW_sr (OW_as rfl rfl (OW_as rfl rfl (OW_as rfl rfl ?_)))
  refine EZ41 rfl ?_
  refine XW_ret (then_ret ?_)
  refine ret_ret (res3 rfl (rv_tmp rfl) (rv_tmp rfl) (rv_tmp rfl)) (frz3 (Q := Q) (by exact Ls.freeze Ls.nls) (by exact freeze_plain rfl) (by exact freeze_plain rfl) ?_)
  exact hq
theorem rtakeL_c {s : ByteArray} {m : Int} (hs : s.size ≤ 4611686018427387904) (h0 : 0 ≤ m) (hm : m ≤ 4294967000) (hq : Q (.tup [.lst ((resL m s).1.map AVal.str), .str (resL m s).2.1, .bool (resL m s).2.2]) H) : CW cfg ν 66 [.str s, .int .i64 m] H Q := by
  rcases resU_cases s with ⟨h1, h2⟩ | ⟨n, r, h1, h2, hn, hr⟩
  · rw [resL, h1] at hq
    refine CW_pure g66 F66 rfl ?_
    have hS0 : Own ν ν (fun _ => none) [] := Own.nil
    refine XW_sr (OW_as rfl rfl (OW_as rfl rfl (OW_as rfl rfl ?_)))
    refine EZ56 rfl ?_
    refine XW_sr (OW_mv rfl rfl ?_)
    refine OW_fn rfl rfl (rtakeU_e hs h2 ?_) 
    refine OW_mv rfl rfl (EN56 rfl (OW_ex rfl rfl rfl (OW_ex rfl rfl rfl (OW_ex rfl rfl rfl (EN56 rfl (OW_as rfl rfl (OW_as rfl rfl (OW_as rfl rfl ?_))))))))
    refine EZ56 rfl ?_
    refine XW_seq (XW_sr (OW_mv rfl rfl (OW_un rfl rfl rfl (OW_mv rfl rfl (EN56 rfl (OW_no rfl (OW_no rfl (OW_pick rfl rfl rfl (EN56 rfl ?_)))))))))
    refine OW_mv rfl rfl (OW_no rfl (OW_no rfl (EN56 rfl (OW_no rfl (OW_no rfl (OW_pick rfl rfl rfl ?_))))))
    refine EZ56 rfl ?_
    refine XW_yes rfl rfl ?_
    refine XW_sr (OW_as rfl rfl (OW_as rfl rfl (OW_as rfl rfl ?_)))
    refine EZ56 rfl ?_
    refine XW_ret (then_ret ?_)
    refine ret_ret (res3 rfl (rv_tmp rfl) (rv_tmp rfl) (rv_tmp rfl)) (frz3 (Q := Q) (by exact Ls.freeze Ls.nls) (by exact freeze_plain rfl) (by exact freeze_plain rfl) ?_)
    exact hq
  rw [resL, h1] at hq
  simp only at hq
  have hbr : (ba r).size = r.length := ba_size r
  refine CW_pure g66 F66 rfl ?_
  have hS0 : Own ν ν (fun _ => none) [] := Own.nil
  refine XW_sr (OW_as rfl rfl (OW_as rfl rfl (OW_as rfl rfl ?_)))
  refine EZ56 rfl ?_
  refine XW_sr (OW_mv rfl rfl ?_)
  refine OW_fn rfl rfl (rtakeU_e hs h2 ?_) 
  refine OW_mv rfl rfl (EN56 rfl (OW_ex rfl rfl rfl (OW_ex rfl rfl rfl (OW_ex rfl rfl rfl (EN56 rfl (OW_as rfl rfl (OW_as rfl rfl (OW_as rfl rfl ?_))))))))
  refine EZ56 rfl ?_
  refine XW_seq (XW_sr (OW_mv rfl rfl (OW_un rfl rfl rfl (OW_mv rfl rfl (EN56 rfl (OW_mv rfl rfl ?_))))))
  refine OW_bin rfl rfl rfl rfl rfl ?_
  refine OW_pick rfl rfl rfl (EN56 rfl (OW_mv rfl rfl ?_))
  refine OW_split (tt := 27) rfl (fun g2_7 => ?_) (fun g2_7 => ?_)
  ·try simp only [bs] at g2_7
   refine OW_no rfl (EN56 rfl (OW_no rfl (OW_no rfl (OW_no rfl (EN56 rfl (OW_pick rfl rfl rfl ?_))))))
   refine EZ56 rfl ?_
   refine XW_yes rfl rfl ?_
   refine XW_sr ?_
   rw [if_neg (by omega)] at hq
   refine OW_as rfl rfl (OW_as rfl rfl (OW_as rfl rfl ?_))
   refine EZ56 rfl ?_
   refine XW_ret (then_ret ?_)
   refine ret_ret (res3 rfl (rv_tmp rfl) (rv_tmp rfl) (rv_tmp rfl)) (frz3 (Q := Q) (by exact Ls.freeze Ls.nls) (by exact freeze_plain rfl) (by exact freeze_plain rfl) ?_)
   exact hq
  try simp only [bs] at g2_7
  refine OW_mv rfl rfl (EN56 rfl (OW_mv rfl rfl ?_))
  refine OW_conv rfl rfl (conv_in rfl rfl rfl (IntWalk.u64_in _ (by omega))) ?_
  refine OW_bin rfl rfl rfl rfl rfl ?_
  refine EN56 rfl (OW_pick rfl rfl rfl ?_)
  refine EZ56 rfl ?_
  refine XW_if rfl (fun h2 => ?_) (fun h2 => ?_)
  ·try simp only [bs] at h2
   refine XW_sr ?_
   rw [if_neg (by omega)] at hq
   refine OW_as rfl rfl (OW_as rfl rfl (OW_as rfl rfl ?_))
   refine EZ56 rfl ?_
   refine XW_ret (then_ret ?_)
   refine ret_ret (res3 rfl (rv_tmp rfl) (rv_tmp rfl) (rv_tmp rfl)) (frz3 (Q := Q) (by exact Ls.freeze Ls.nls) (by exact freeze_plain rfl) (by exact freeze_plain rfl) ?_)
   exact hq
  try simp only [bs] at h2
  refine XW_skip (then_norm (XW_sr ?_))
  rw [if_pos (by omega)] at hq
  refine OW_bs rfl rfl rfl ?_
  refine OW_as rfl rfl ?_
  refine EZ56 rfl ?_
  refine XW_seq (XW_sr (OW_as rfl rfl ?_))
  refine EZ56 rfl ?_
  refine XW_block ?_
  refine XW_whileN (I := fun ν' mm ee H' => ∃ (i : Nat) (O : AVal) (acc : List ByteArray) (rest : ByteArray), mm = n - i ∧ under (1 :: 0 :: 1 :: 1 :: 1 :: 1 :: ν) ν' = true ∧ Own ν ν' H' ([sl O 1 (acc.map AVal.str)]) ∧ (cX.Far n r i acc rest.data.toList ∧ rest.size ≤ s.size) ∧ ∃ g : Nat → AVal, ee = [g 0, g 1, g 2, g 3, g 4, g 5, g 6, .int .u64 n, .str rest, g 9, O, .int .u64 i, g 12, g 13, g 14, g 15, g 16, g 17, g 18, g 19, g 20, g 21, g 22, g 23, g 24, g 25, g 26, g 27, g 28, g 29, g 30, g 31, g 32, g 33, g 34, g 35, g 36, g 37, g 38, g 39, g 40, g 41, g 42, g 43, g 44, g 45, g 46, g 47, g 48, g 49, g 50, g 51, g 52, g 53, g 54, g 55]) ?_ _ _ _ _ ⟨0, .emp, [], ba r, rfl, under_me, Own.cast (Own.mono (hS0.addE) (le_app (p := ν) (b := [1, 0, 1, 1, 1, 1]))) (rfl), (⟨by rw [ba_data]; exact cX.far0 n r, by omega⟩), env_g rfl⟩
  rintro ν1 mm ee H1 ⟨i, O, acc, rest, rfl, hU1, hS1, ⟨hF, hrs⟩, g1, rfl⟩
  refine XW_seq (XW_sr (OW_mv rfl rfl (OW_mv rfl rfl ?_)))
  refine OW_bin rfl rfl rfl rfl rfl ?_
  refine EZ56 rfl ?_
  refine XW_if rfl (fun h6 => ?_) (fun h6 => ?_)
  ·try simp only [bs] at h6
   refine XW_skip (then_norm (XW_seq (XW_block (XW_sr (OW_mv rfl rfl (OW_mv rfl rfl ?_))))))
   refine OW_lenS rfl rfl rfl ?_
   refine EN56 rfl ?_
   refine OW_fn rfl rfl (rtakeT_c (by omega) (by omega) ?_) 
   refine OW_mv rfl rfl (OW_ex rfl rfl rfl (EN56 rfl (OW_ex rfl rfl rfl (OW_ex rfl rfl rfl (OW_as rfl rfl (EN56 rfl (OW_as rfl rfl (OW_as rfl rfl ?_))))))))
   refine EZ56 rfl ?_
   refine XW_seq (XW_sr ?_)
   have z1 := resT_size rest.size rest; have hal := hF.2.1
   refine OW_mv rfl rfl (OW_un rfl rfl rfl ?_)
   refine EZ56 rfl ?_
   refine XW_if rfl (fun h9 => ?_) (fun h9 => ?_)
   ·try simp only [bs] at h9
    refine XW_sr (OW_as rfl rfl (OW_as rfl rfl (OW_as rfl rfl ?_)))
    refine EZ56 rfl ?_
    refine XW_ret (then_ret (block_ret (then_ret (block_ret (then_ret ?_)))))
    refine ret_ret (res3 rfl (rv_tmp rfl) (rv_tmp rfl) (rv_tmp rfl)) (frz3 (Q := Q) (by exact Ls.freeze Ls.nls) (by exact freeze_plain rfl) (by exact freeze_plain rfl) ?_)
    (rw [Cod.far_none hF (by omega) (cX_tk0 (by omega) (by simp_all))] at hq; exact hq)
   try simp only [bs] at h9
   refine XW_skip (then_norm (XW_sr (OW_mv rfl rfl (OW_mv rfl rfl ?_))))
   refine OW_bs rfl rfl (v := .lst [_]) rfl ?_
   refine EN56 rfl ?_
   refine OW_app hS1 (k := 0) rfl (le_app (p := ν1) (b := [3, 0, 1, 1, 0, 1, 0])) (under_app [3, 0, 1, 1, 0, 1, 0] (under_trans (under_app [1, 0, 1, 1, 1, 1] under_me) hU1)) rfl rfl rfl rfl rfl rfl rfl rfl (by rfl) (by exact one_wide rfl) (by (simp only [ss]; omega)) (by decide) fun O1 H2 hS2 => ?_
   replace hS2 : Own _ _ _ ([_]) := hS2
   refine OW_as rfl rfl ?_
   refine EZ56 rfl ?_
   refine XW_region (OW_mv rfl rfl (OW_as rfl rfl ?_))
   refine EZ56 rfl ?_
   refine block_norm (then_norm (XW_region (OW_mv rfl rfl ?_)))
   refine OW_bin rfl rfl rfl rfl (add_wu64 (by omega)) ?_
   refine OW_as rfl rfl ?_
   refine EZ56 rfl ?_
   refine ⟨_, ?_, i + 1, O1, acc ++ [(resT rest.size rest).1], _, rfl, under_in hU1, Own.cast (Own.mono (hS2) (le_lit (ν := ν1) (a := [4, 0, 1, 1, 0, 1, 0]) (b := [1]) (by decide))) (by simp), ?_, env_g rfl⟩
   · omega
   exact ⟨Cod.far_step hF (by omega) (cX_tk (by omega) (by assumption)), by omega⟩
  try simp only [bs] at h6
  refine XW_exit (then_exit (block_exit (then_norm (XW_sr (OW_mv rfl rfl (OW_mv rfl rfl (OW_as rfl rfl (EN56 rfl (OW_as rfl rfl ?_)))))))))
  refine OW_as rfl rfl ?_
  refine EZ56 rfl ?_
  refine XW_ret ?_
  refine ret_ret (res3 rfl (rv_tmp rfl) (rv_tmp rfl) (rv_tmp rfl)) (frz3 (Q := Q) (by exact hS1.frz (k := 0) rfl (by exact map_plain (fun _ => rfl))) (by exact freeze_plain rfl) (by exact freeze_plain rfl) ?_)
  (rw [Cod.far_end hF (by omega)] at hq; exact hq)
theorem texts_c {v w : AVal} {s t : List ByteArray} (hv : Ls v (s.map AVal.str)) (hw : Ls w (t.map AVal.str)) (hn : s.length ≤ 4294967296) (hm : t.length ≤ 4294967296) (hq : Q (.bool (decide (s = t))) H) : CW cfg ν 98 [v, w] H Q := by
  refine CW_pure g98 F98 rfl ?_
  refine XW_sr (OW_as rfl rfl ?_)
  refine EZ26 rfl ?_
  refine XW_seq (XW_sr (OW_mv rfl rfl ?_))
  refine OW_lenL rfl rfl (by assumption) rfl rfl rfl (by exact List.length_map _) ?_
  refine OW_mv rfl rfl ?_
  refine OW_env (e' := [_,_,_,_,_,_,_,_,_,_,_,_,_,_,_,_,_,_,_,_,_,_,_,_,_,_]) rfl ?_
  refine OW_lenL rfl rfl (by assumption) rfl rfl rfl (by exact List.length_map _) ?_
  refine OW_bin rfl rfl rfl rfl rfl ?_
  refine EZ26 rfl ?_
  refine XW_if rfl (fun h1 => ?_) (fun h1 => ?_)
  ·try simp only [bs] at h1
   refine XW_sr (OW_as rfl rfl ?_)
   refine EZ26 rfl ?_
   refine XW_ret (then_ret ?_)
   refine ret_ret (res1 rfl (rv_tmp rfl)) (frz1 (Q := Q) (by exact freeze_plain rfl) ?_)
   refine qcast hq ?_
   congr 1
   exact (decide_eq_false (fun e => h1 (by rw [e]))).symm
  try simp only [bs] at h1
  refine XW_skip (then_norm (XW_seq (XW_sr (OW_as rfl rfl ?_))))
  refine EZ26 rfl ?_
  refine XW_block ?_
  refine XW_whileN (I := fun ν' mm ee H' => ∃ (i : Nat), mm = s.length - i ∧ under (1 :: 0 :: 1 :: 1 :: ν) ν' = true ∧ (i ≤ s.length ∧ s.length = t.length ∧ s.take i = t.take i) ∧ ∃ g : Nat → AVal, ee = [v, w, g 2, g 3, g 4, .int .i64 i, g 6, g 7, g 8, g 9, g 10, g 11, g 12, g 13, g 14, g 15, g 16, g 17, g 18, g 19, g 20, g 21, g 22, g 23, g 24, g 25]) ?_ _ _ _ _ ⟨0, rfl, under_me, (⟨by omega, by omega, rfl⟩), env_g rfl⟩
  rintro ν1 mm ee H1 ⟨i, rfl, hU1, ⟨hi, hl, hI⟩, g1, rfl⟩
  refine XW_seq (XW_sr (OW_mv rfl rfl (OW_mv rfl rfl ?_)))
  refine OW_lenL rfl rfl (by assumption) rfl rfl rfl (by exact List.length_map _) ?_
  refine OW_env (e' := [_,_,_,_,_,_,_,_,_,_,_,_,_,_,_,_,_,_,_,_,_,_,_,_,_,_]) rfl ?_
  refine OW_bin rfl rfl rfl rfl rfl ?_
  refine EZ26 rfl ?_
  refine XW_if rfl (fun h4 => ?_) (fun h4 => ?_)
  ·try simp only [bs] at h4
   refine XW_skip (then_norm (XW_seq (XW_block (XW_sr (OW_mv rfl rfl (OW_mv rfl rfl ?_))))))
   refine OW_iaL rfl rfl rfl (by assumption) rfl rfl rfl (by rfl) (by exact at_map (by omega)) rfl ?_
   refine OW_env (e' := [_,_,_,_,_,_,_,_,_,_,_,_,_,_,_,_,_,_,_,_,_,_,_,_,_,_]) rfl ?_
   refine OW_loadE rfl rfl rfl (by rfl) ?_
   refine OW_mv rfl rfl (OW_mv rfl rfl ?_)
   refine OW_env (e' := [_,_,_,_,_,_,_,_,_,_,_,_,_,_,_,_,_,_,_,_,_,_,_,_,_,_]) rfl ?_
   refine OW_iaL rfl rfl rfl (by assumption) rfl rfl rfl (by rfl) (by exact at_map (by omega)) rfl ?_
   refine OW_loadE rfl rfl rfl (by rfl) ?_
   refine OW_bin rfl rfl rfl rfl rfl ?_
   refine EZ26 rfl ?_
   refine XW_if rfl (fun h6 => ?_) (fun h6 => ?_)
   ·try simp only [bs] at h6
    refine XW_sr (OW_as rfl rfl ?_)
    refine EZ26 rfl ?_
    refine XW_ret (block_ret (then_ret (block_ret (then_ret ?_))))
    refine ret_ret (res1 rfl (rv_tmp rfl)) (frz1 (Q := Q) (by exact freeze_plain rfl) ?_)
    refine qcast hq ?_
    congr 1
    exact (decide_eq_false (fun e => by subst e; exact h6 rfl)).symm
   try simp only [bs] at h6
   refine XW_skip (block_norm (then_norm (XW_region (OW_mv rfl rfl ?_))))
   refine OW_bin rfl rfl rfl rfl (add_w64 (by omega)) ?_
   refine OW_as rfl rfl ?_
   refine EZ26 rfl ?_
   refine ⟨_, ?_, i + 1, rfl, under_in hU1, ?_, env_g rfl⟩
   · omega
   exact ⟨by omega, hl, by rw [List.take_succ_eq_append_getElem (by omega), List.take_succ_eq_append_getElem (by omega), hI, h6]⟩
  try simp only [bs] at h4
  refine XW_exit (then_exit (block_exit (then_norm (XW_sr (OW_as rfl rfl ?_)))))
  refine EZ26 rfl ?_
  refine XW_ret ?_
  refine ret_ret (res1 rfl (rv_tmp rfl)) (frz1 (Q := Q) (by exact freeze_plain rfl) ?_)
  refine qcast hq ?_
  congr 1
  exact (decide_eq_true (by rw [List.take_of_length_le (by omega), List.take_of_length_le (by omega)] at hI; exact hI)).symm
end Go.Proofs.YtfkgdlfponfimaaGreat.X

/- Layer 13: Check, Is, IsVol. -/
set_option linter.unusedVariables false
set_option linter.unusedSimpArgs false
set_option maxRecDepth 100000
namespace Go.Proofs.YtfkgdlfponfimaaGreat.X
open Go Go.RowKit WM
variable {ν : Nm} {H : Heap} {Q : AVal → Heap → Prop} {c d : Ck}
def okV (x : Vo) : Prop := 0 ≤ x.de ∧ x.de ≤ 4 ∧ x.lv.length = 2 ^ x.de.toNat ∧ ∀ s ∈ x.lv, s.size ≤ 64
instance : DecidablePred okV := fun x => by unfold okV; infer_instance
def chkC (c : Ck) : Bool := decide (c.vs.length ≤ 8 ∧ (∀ x ∈ c.vs, okV x) ∧ (c.vs.map Vo.vo).Nodup) && SE.chkL c.ss && chkQ c.qs
theorem nodup_atP {t : List Vo} (h : (t.map Vo.vo).Nodup) {i : Nat} (hi : i < t.length) : atP t[i].vo t = i := by
  rcases atP_cases t[i].vo t with ⟨_, h2⟩ | ⟨k, hk, h1, h3⟩
  · exact absurd rfl (h2 t[i] (List.getElem_mem hi))
  rw [h1]
  have := (List.getElem_inj (i := k) (j := i) (h₀ := by simpa using hk) (h₁ := by simpa using hi) h).1 (by simpa using h3)
  rw [this]
theorem atP_nodup {t : List Vo} (h : ∀ i (hi : i < t.length), atP t[i].vo t = i) : (t.map Vo.vo).Nodup := by
  rw [List.Nodup, List.pairwise_iff_getElem]
  intro i j hi hj hij he
  simp only [List.length_map] at hi hj
  simp only [List.getElem_map] at he
  have h1 := h i hi
  have h2 := h j hj
  rw [he] at h1
  omega
theorem chk_vs {t : List Vo} (hl : t.length ≤ 8) (h : ∀ i (hi : i < t.length), atP t[i].vo t = i ∧ okV t[i]) : decide (t.length ≤ 8 ∧ (∀ x ∈ t, okV x) ∧ (t.map Vo.vo).Nodup) = true :=
  decide_eq_true ⟨hl, fun x hx => by obtain ⟨i, hi, rfl⟩ := List.getElem_of_mem hx; exact (h i hi).2, atP_nodup fun i hi => (h i hi).1⟩
theorem chk_vsF {t : List Vo} {i : Nat} (hi : i < t.length) (h : atP t[i].vo t ≠ i ∨ ¬ okV t[i]) : decide (t.length ≤ 8 ∧ (∀ x ∈ t, okV x) ∧ (t.map Vo.vo).Nodup) = false :=
  decide_eq_false fun ⟨_, h1, h2⟩ => h.elim (fun h => h (nodup_atP h2 hi)) (fun h => h (h1 _ (List.getElem_mem hi)))
theorem chkF {i : Nat} (hi : i < c.vs.length) (h : atP c.vs[i].vo c.vs ≠ i ∨ ¬ okV c.vs[i]) : chkC c = false := by unfold chkC; rw [chk_vsF hi h]; rfl
structure Ck.sz (c : Ck) : Prop where
  v : c.vs.length ≤ 1048577
  s : c.ss.length ≤ 1048577
  q : c.qs.length ≤ 1048577
  l : ∀ x ∈ c.vs, x.lv.length ≤ 1048577
theorem power_c {n : Int} (h : 0 ≤ n ∧ n ≤ 4) (hq : Q (.int .i64 ((2 ^ n.toNat : Nat) : Int)) H) : CW cfg ν 32 [.int .i64 n] H Q := by
  obtain ⟨k, rfl⟩ := Int.eq_ofNat_of_zero_le h.1
  rcases (by omega : k = 0 ∨ k = 1 ∨ k = 2 ∨ k = 3 ∨ k = 4) with rfl | rfl | rfl | rfl | rfl <;> exact ⟨60, _, _, by kernel_rfl, hq⟩
theorem rk_check {v : AVal} (hv : X.freeze [] H 8 v = c.enc) (hz : c.sz) (hq : Q (.bool (chkC c)) H) : CW cfg ν 6 [v] H Q := by
  obtain ⟨hz1, hz2, hz3, hz4⟩ := hz
  refine CW_borrowL (args' := [c.enc]) g6 F6 rfl (fz_cons (by assumption) fz_nil) ?_
  have hS0 : Own ν ν (fun _ => none) [] := Own.nil
  refine XW_sr ?_
  refine OW_boxR hS0 (le_app (p := ν) (b := [0, 0])) (under_app [0, 0] under_me) rfl rfl rfl ⟨rfl, rfl⟩ fun H1 hS1 => ?_
  replace hS1 : Own _ _ _ ([_]) := hS1
  refine OW_as rfl rfl ?_
  refine EZ71 rfl ?_
  refine XW_seq (XW_sr (OW_as rfl rfl ?_))
  refine EZ71 rfl ?_
  refine XW_block ?_
  refine XW_whileN (I := fun ν' mm ee H' => ∃ (i : Nat), mm = c.vs.length - i ∧ under (1 :: 0 :: 1 :: ν) ν' = true ∧ Own ν ν' H' ([row (0 :: 0 :: ν) 3 [.agg [.lst (c.vs.map Vo.enc), .lst (c.ss.map SE.Se.enc), .lst (c.qs.map Qu.enc)]]]) ∧ (i ≤ c.vs.length ∧ ∀ j (hj : j < c.vs.length), j < i → atP c.vs[j].vo c.vs = j ∧ okV c.vs[j]) ∧ ∃ g : Nat → AVal, ee = [g 0, .ptr (0 :: 0 :: ν) 0 0, g 2, .int .i64 i, g 4, g 5, g 6, g 7, g 8, g 9, g 10, g 11, g 12, g 13, g 14, g 15, g 16, g 17, g 18, g 19, g 20, g 21, g 22, g 23, g 24, g 25, g 26, g 27, g 28, g 29, g 30, g 31, g 32, g 33, g 34, g 35, g 36, g 37, g 38, g 39, g 40, g 41, g 42, g 43, g 44, g 45, g 46, g 47, g 48, g 49, g 50, g 51, g 52, g 53, g 54, g 55, g 56, g 57, g 58, g 59, g 60, g 61, g 62, g 63, g 64, g 65, g 66, g 67, g 68, g 69, g 70]) ?_ _ _ _ _ ⟨0, rfl, under_me, Own.cast (Own.mono (hS1) (le_lit (ν := ν) (a := [1, 0]) (b := [1, 0, 1]) (by decide))) (rfl), (⟨by omega, fun j hj h => by omega⟩), env_g rfl⟩
  rintro ν1 mm ee H2 ⟨i, rfl, hU1, hS2, ⟨hi, hI⟩, g1, rfl⟩
  refine XW_seq (XW_sr (OW_mv rfl rfl (OW_fa rfl rfl rfl ?_)))
  refine OW_loadR hS2 (k := 0) rfl rfl rfl rfl rfl (by rfl) ?_
  refine EN71 rfl ?_
  refine OW_lenL rfl rfl (by exact Ls.of) rfl rfl rfl (by exact List.length_map _) ?_
  refine OW_bin rfl rfl rfl rfl rfl ?_
  refine EZ71 rfl ?_
  refine XW_if rfl (fun h2 => ?_) (fun h2 => ?_)
  ·try simp only [bs] at h2
   refine XW_skip (then_norm (XW_seq (XW_block (XW_sr ?_))))
   have hlz := hz4 c.vs[i] (List.getElem_mem (by omega))
   refine OW_fa rfl rfl rfl ?_
   refine OW_loadR hS2 (k := 0) rfl rfl rfl rfl rfl (by rfl) ?_
   refine OW_mv rfl rfl (EN71 rfl ?_)
   refine OW_iaL rfl rfl rfl Ls.of rfl rfl rfl (by rfl) (by exact at_map (by omega)) rfl ?_
   refine OW_loadE rfl rfl rfl (by exact part_whole rfl rfl rfl) ?_
   refine OW_allocR hS2 (le_app (p := ν1) (b := [5, 0, 0, 1, 0])) (under_app [5, 0, 0, 1, 0] (under_trans (under_app [1, 0, 1] under_me) hU1)) rfl rfl rfl rfl fun H3 hS3 => ?_
   replace hS3 : Own _ _ _ ([_, _]) := hS3
   refine EN71 rfl ?_
   refine OW_storeR hS3 (k := 0) rfl le_refl rfl rfl rfl rfl ⟨rfl, rfl, Nat.le_of_ble_eq_true rfl⟩ (u2 := .agg [_, _, _, _, _]) rfl fun H4 hS4 => ?_
   replace hS4 : Own _ _ _ ([_, _]) := hS4
   refine EZ71 rfl ?_
   refine XW_seq (XW_sr ?_)
   refine OW_loadR hS4 (k := 1) rfl rfl rfl rfl rfl (by exact part_whole rfl rfl rfl) ?_
   refine OW_fa rfl rfl rfl ?_
   refine OW_loadR hS4 (k := 0) rfl rfl rfl rfl rfl (by rfl) ?_
   refine EN71 rfl ?_
   refine OW_fn rfl rfl (rk_find (c := c) rfl (by omega) _ ?_) 
   refine OW_mv rfl rfl ?_
   refine OW_bin rfl rfl rfl rfl rfl ?_
   refine EN71 rfl (OW_mv rfl rfl ?_)
   refine OW_split (tt := 24) rfl (fun g5_7 => ?_) (fun g5_7 => ?_)
   ·try simp only [bs] at g5_7
    refine OW_no rfl (EN71 rfl (OW_no rfl (OW_no rfl (OW_pick rfl rfl rfl (EN71 rfl (OW_mv rfl rfl (OW_no rfl (OW_no rfl (EN71 rfl ?_)))))))))
    refine OW_no rfl (OW_pick rfl rfl rfl (OW_mv rfl rfl (EN71 rfl (OW_no rfl (OW_no rfl (OW_no rfl (EN71 rfl (OW_no rfl (OW_no rfl ?_)))))))))
    refine OW_no rfl (EN71 rfl (OW_no rfl (OW_pick rfl rfl rfl ?_)))
    refine EZ71 rfl ?_
    refine XW_yes rfl rfl ?_
    refine XW_sr (OW_as rfl rfl ?_)
    refine EZ71 rfl ?_
    refine XW_ret (then_ret (block_ret (then_ret (block_ret (then_ret ?_)))))
    refine ret_ret (res1 rfl (rv_tmp rfl)) ⟨rfl, ?_⟩
    refine qcast hq ?_
    congr 1
    exact (chkF (i := i) (by omega) (.inl (by omega))).symm
   try simp only [bs] at g5_7
   refine OW_fa rfl rfl rfl (EN71 rfl ?_)
   refine OW_loadR hS4 (k := 0) rfl rfl rfl rfl rfl (by rfl) ?_
   refine OW_bin rfl rfl rfl rfl rfl ?_
   refine OW_pick rfl rfl rfl (EN71 rfl (OW_mv rfl rfl ?_))
   refine OW_split (tt := 29) rfl (fun g5_12 => ?_) (fun g5_12 => ?_)
   ·try simp only [bs] at g5_12
    refine OW_no rfl (EN71 rfl (OW_no rfl (OW_no rfl (OW_pick rfl rfl rfl (EN71 rfl (OW_mv rfl rfl (OW_no rfl (OW_no rfl (EN71 rfl ?_)))))))))
    refine OW_no rfl (OW_no rfl (OW_no rfl (EN71 rfl (OW_no rfl (OW_no rfl (OW_pick rfl rfl rfl ?_))))))
    refine EZ71 rfl ?_
    refine XW_yes rfl rfl ?_
    refine XW_sr (OW_as rfl rfl ?_)
    refine EZ71 rfl ?_
    refine XW_ret (then_ret (block_ret (then_ret (block_ret (then_ret ?_)))))
    refine ret_ret (res1 rfl (rv_tmp rfl)) ⟨rfl, ?_⟩
    refine qcast hq ?_
    congr 1
    exact (chkF (i := i) (by omega) (.inr (fun ⟨a1, a2, a3, _⟩ => by omega))).symm
   try simp only [bs] at g5_12
   refine OW_fa rfl rfl rfl (EN71 rfl ?_)
   refine OW_loadR hS4 (k := 0) rfl rfl rfl rfl rfl (by rfl) ?_
   refine OW_bin rfl rfl rfl rfl rfl ?_
   refine OW_pick rfl rfl rfl (EN71 rfl (OW_mv rfl rfl ?_))
   refine OW_split (tt := 34) rfl (fun g5_17 => ?_) (fun g5_17 => ?_)
   ·try simp only [bs] at g5_17
    refine OW_no rfl (EN71 rfl (OW_no rfl (OW_no rfl (OW_no rfl (EN71 rfl (OW_no rfl (OW_no rfl (OW_no rfl (EN71 rfl ?_)))))))))
    refine OW_pick rfl rfl rfl ?_
    refine EZ71 rfl ?_
    refine XW_yes rfl rfl ?_
    refine XW_sr (OW_as rfl rfl ?_)
    refine EZ71 rfl ?_
    refine XW_ret (then_ret (block_ret (then_ret (block_ret (then_ret ?_)))))
    refine ret_ret (res1 rfl (rv_tmp rfl)) ⟨rfl, ?_⟩
    refine qcast hq ?_
    congr 1
    exact (chkF (i := i) (by omega) (.inr (fun ⟨a1, a2, a3, _⟩ => by omega))).symm
   try simp only [bs] at g5_17
   refine OW_fa rfl rfl rfl (EN71 rfl ?_)
   refine OW_loadR hS4 (k := 0) rfl rfl rfl rfl rfl (by rfl) ?_
   refine OW_lenL rfl rfl (by exact Ls.of) rfl rfl rfl (by exact List.length_map _) ?_
   refine OW_fa rfl rfl rfl (EN71 rfl ?_)
   refine OW_loadR hS4 (k := 0) rfl rfl rfl rfl rfl (by rfl) ?_
   refine OW_fn rfl rfl (power_c (by omega) ?_) 
   refine OW_bin rfl rfl rfl rfl rfl ?_
   refine EN71 rfl (OW_pick rfl rfl rfl ?_)
   refine EZ71 rfl ?_
   refine XW_if rfl (fun h5 => ?_) (fun h5 => ?_)
   ·try simp only [bs] at h5
    refine XW_sr (OW_as rfl rfl ?_)
    refine EZ71 rfl ?_
    refine XW_ret (then_ret (block_ret (then_ret (block_ret (then_ret ?_)))))
    refine ret_ret (res1 rfl (rv_tmp rfl)) ⟨rfl, ?_⟩
    refine qcast hq ?_
    congr 1
    exact (chkF (i := i) (by omega) (.inr (fun ⟨a1, a2, a3, _⟩ => by omega))).symm
   try simp only [bs] at h5
   refine XW_skip (then_norm (XW_sr (OW_as rfl rfl ?_)))
   refine EZ71 rfl ?_
   refine XW_block ?_
   refine XW_whileN (I := fun ν' mm ee H' => ∃ (k : Nat), mm = c.vs[i].lv.length - k ∧ under (1 :: 1 :: 1 :: 0 :: 1 :: 0 :: ν1) ν' = true ∧ Own ν ν' H' ([row (5 :: 0 :: 0 :: 1 :: 0 :: ν1) 5 [c.vs[i].enc], row (0 :: 0 :: ν) 3 [.agg [.lst (c.vs.map Vo.enc), .lst (c.ss.map SE.Se.enc), .lst (c.qs.map Qu.enc)]]]) ∧ (k ≤ c.vs[i].lv.length ∧ ∀ j (hj : j < c.vs[i].lv.length), j < k → c.vs[i].lv[j].size ≤ 64) ∧ ∃ g : Nat → AVal, ee = [g 0, .ptr (0 :: 0 :: ν) 0 0, g 2, .int .i64 i, .ptr (5 :: 0 :: 0 :: 1 :: 0 :: ν1) 0 0, .int .i64 k, g 6, g 7, g 8, g 9, g 10, g 11, g 12, g 13, g 14, g 15, g 16, g 17, g 18, g 19, g 20, g 21, g 22, g 23, g 24, g 25, g 26, g 27, g 28, g 29, g 30, g 31, g 32, g 33, g 34, g 35, g 36, g 37, g 38, g 39, g 40, g 41, g 42, g 43, g 44, g 45, g 46, g 47, g 48, g 49, g 50, g 51, g 52, g 53, g 54, g 55, g 56, g 57, g 58, g 59, g 60, g 61, g 62, g 63, g 64, g 65, g 66, g 67, g 68, g 69, g 70]) ?_ _ _ _ _ ⟨0, rfl, under_me, Own.cast (Own.mono (hS4) (le_lit (ν := ν1) (a := [7, 0, 0, 1, 0]) (b := [1, 1, 1, 0, 1, 0]) (by decide))) (rfl), (⟨by omega, fun j hj h => by omega⟩), env_g rfl⟩
   rintro ν2 mm ee H5 ⟨k, rfl, hU2, hS5, ⟨hk, hK⟩, g2, rfl⟩
   refine XW_seq (XW_sr (OW_mv rfl rfl (OW_fa rfl rfl rfl ?_)))
   refine OW_loadR hS5 (k := 0) rfl rfl rfl rfl rfl (by rfl) ?_
   refine EN71 rfl ?_
   refine OW_lenL rfl rfl (by exact Ls.of) rfl rfl rfl (by exact List.length_map _) ?_
   refine OW_bin rfl rfl rfl rfl rfl ?_
   refine EZ71 rfl ?_
   refine XW_if rfl (fun h8 => ?_) (fun h8 => ?_)
   ·try simp only [bs] at h8
    refine XW_skip (then_norm (XW_seq (XW_block (XW_sr (OW_fa rfl rfl rfl ?_)))))
    refine OW_loadR hS5 (k := 0) rfl rfl rfl rfl rfl (by rfl) ?_
    refine OW_mv rfl rfl (EN71 rfl ?_)
    refine OW_iaL rfl rfl rfl Ls.of rfl rfl rfl (by rfl) (by exact at_map (by omega)) rfl ?_
    refine OW_loadE rfl rfl rfl (by rfl) ?_
    refine OW_lenS rfl rfl rfl ?_
    refine EN71 rfl ?_
    refine OW_bin rfl rfl rfl rfl rfl ?_
    refine EZ71 rfl ?_
    refine XW_if rfl (fun h10 => ?_) (fun h10 => ?_)
    ·try simp only [bs] at h10
     refine XW_sr (OW_as rfl rfl ?_)
     refine EZ71 rfl ?_
     refine XW_ret (block_ret (then_ret (block_ret (block_ret (then_ret (block_ret (then_ret ?_)))))))
     refine ret_ret (res1 rfl (rv_tmp rfl)) ⟨rfl, ?_⟩
     refine qcast hq ?_
     congr 1
     exact (chkF (i := i) (by omega) (.inr (fun h => by have := h.2.2.2 _ (List.getElem_mem (l := c.vs[i].lv) (n := k) (by omega)); omega))).symm
    try simp only [bs] at h10
    refine XW_skip (block_norm (then_norm (XW_region (OW_mv rfl rfl ?_))))
    refine OW_bin rfl rfl rfl rfl (add_w64 (by omega)) ?_
    refine OW_as rfl rfl ?_
    refine EZ71 rfl ?_
    refine ⟨_, ?_, k + 1, rfl, under_in hU2, Own.cast (Own.mono (hS5) (le_app (p := ν2) (b := [1]))) (rfl), ?_, env_g rfl⟩
    · omega
    exact ⟨by omega, fun j hj h => by by_cases e : j = k; (subst e; omega); exact hK j hj (by omega)⟩
   try simp only [bs] at h8
   refine XW_exit (then_exit (block_exit (block_norm (then_norm (XW_region (OW_mv rfl rfl ?_))))))
   refine OW_bin rfl rfl rfl rfl (add_w64 (by omega)) ?_
   refine OW_as rfl rfl ?_
   refine EZ71 rfl ?_
   have hSd1 : Own _ _ _ ([_]) := (Own.drop hS5 (k := 0) rfl)
   refine ⟨_, ?_, i + 1, rfl, under_in hU1, Own.cast (Own.mono (hSd1) (le_bef (bef_under (a := []) hU2 (before_lit (ν := ν1) (a := [1, 1, 1, 0, 1, 0]) (b := [1]) (by decide))))) (rfl), ?_, env_g rfl⟩
   · omega
   exact ⟨by omega, fun j hj h => by by_cases e : j = i; (subst e; exact ⟨by omega, by omega, by omega, by omega, fun s hs => by obtain ⟨n, hn, rfl⟩ := List.getElem_of_mem hs; exact hK n hn (by omega)⟩); exact hI j hj (by omega)⟩
  try simp only [bs] at h2
  refine XW_exit (then_exit (block_exit (then_norm (XW_sr (OW_fa rfl rfl rfl ?_)))))
  refine OW_loadR hS2 (k := 0) rfl rfl rfl rfl rfl (by rfl) ?_
  refine OW_lenL rfl rfl (by exact Ls.of) rfl rfl rfl (by exact List.length_map _) ?_
  refine EN71 rfl ?_
  refine OW_bin rfl rfl rfl rfl rfl ?_
  refine OW_mv rfl rfl ?_
  refine OW_split (tt := 61) rfl (fun g12_5 => ?_) (fun g12_5 => ?_)
  ·try simp only [bs] at g12_5
   refine EN71 rfl (OW_fa rfl rfl rfl ?_)
   refine OW_loadR hS2 (k := 0) rfl rfl rfl rfl rfl (by rfl) ?_
   refine OW_fn rfl rfl (SE.r_check (Ls.freeze Ls.of) (by omega) ?_) 
   refine EN71 rfl (OW_pick rfl rfl rfl (OW_mv rfl rfl ?_))
   refine OW_split (tt := 66) rfl (fun g12_10 => ?_) (fun g12_10 => ?_)
   ·try simp only [bs] at g12_10
    refine EN71 rfl (OW_fa rfl rfl rfl ?_)
    refine OW_loadR hS2 (k := 0) rfl rfl rfl rfl rfl (by rfl) ?_
    refine OW_fn rfl rfl (r_check (Ls.freeze Ls.of) (by omega) ?_) 
    refine EN71 rfl (OW_pick rfl rfl rfl (OW_as rfl rfl ?_))
    refine EZ71 rfl ?_
    refine XW_ret ?_
    refine ret_ret (res1 rfl (rv_tmp rfl)) ⟨rfl, ?_⟩
    refine qcast hq ?_
    congr 1
    (unfold chkC; rw [chk_vs (by omega) (fun j hj => hI j hj (by omega))]; simp [*])
   try simp only [bs] at g12_10
   refine EN71 rfl (OW_no rfl (OW_no rfl (OW_no rfl (EN71 rfl (OW_pick rfl rfl rfl (OW_as rfl rfl ?_))))))
   refine EZ71 rfl ?_
   refine XW_ret ?_
   refine ret_ret (res1 rfl (rv_tmp rfl)) ⟨rfl, ?_⟩
   refine qcast hq ?_
   congr 1
   (unfold chkC; rw [chk_vs (by omega) (fun j hj => hI j hj (by omega))]; simp [*])
  try simp only [bs] at g12_5
  refine EN71 rfl (OW_no rfl (OW_no rfl (OW_no rfl (EN71 rfl (OW_pick rfl rfl rfl (OW_mv rfl rfl (OW_no rfl (EN71 rfl (OW_no rfl ?_)))))))))
  refine OW_no rfl (OW_pick rfl rfl rfl (EN71 rfl (OW_as rfl rfl ?_)))
  refine EZ71 rfl ?_
  refine XW_ret ?_
  refine ret_ret (res1 rfl (rv_tmp rfl)) ⟨rfl, ?_⟩
  refine qcast hq ?_
  congr 1
  (unfold chkC; rw [decide_eq_false (fun e => by have := e.1; omega)]; rfl)
theorem ckvol_c {a b : Vo} (ha : a.lv.length ≤ 1048577) (hb : b.lv.length ≤ 1048577) (hq : Q (.bool (decide (a = b))) H) : CW cfg ν 50 [a.enc, b.enc] H Q := by
  have e : decide (a = b) = (decide (a.vo = b.vo) && (decide (a.tn = b.tn) && (decide (a.ep = b.ep) && (decide (a.de = b.de) && decide (a.lv = b.lv))))) := by
    obtain ⟨a1, a2, a3, a4, a5⟩ := a; obtain ⟨b1, b2, b3, b4, b5⟩ := b
    by_cases h1 : a1 = b1 <;> by_cases h2 : a2 = b2 <;> by_cases h3 : a3 = b3 <;> by_cases h4 : a4 = b4 <;> by_cases h5 : a5 = b5 <;> simp [h1, h2, h3, h4, h5]
  rw [e] at hq
  refine CW_pure g50 F50 rfl ?_
  have hS0 : Own ν ν (fun _ => none) [] := Own.nil
  refine XW_sr ?_
  refine OW_boxR hS0 (le_app (p := ν) (b := [0, 0])) (under_app [0, 0] under_me) rfl rfl rfl ⟨rfl, rfl⟩ fun H1 hS1 => ?_
  replace hS1 : Own _ _ _ ([_]) := hS1
  refine OW_boxR hS1 le_refl (under_app [1, 0] under_me) rfl rfl rfl ⟨rfl, rfl⟩ fun H2 hS2 => ?_
  replace hS2 : Own _ _ _ ([_, _]) := hS2
  refine OW_as rfl rfl ?_
  refine OW_nilE (e' := [_,_,_,_,_,_,_,_,_,_,_,_,_,_,_,_,_,_,_,_,_,_,_,_,_,_,_,_,_,_,_,_,_,_,_,_,_,_]) rfl ?_
  refine XW_sr (OW_fa rfl rfl rfl ?_)
  refine OW_loadR hS2 (k := 1) rfl rfl rfl rfl rfl (by rfl) ?_
  refine OW_fa rfl rfl rfl (EN38 rfl ?_)
  refine OW_loadR hS2 (k := 0) rfl rfl rfl rfl rfl (by rfl) ?_
  refine OW_bin rfl rfl rfl rfl rfl ?_
  refine OW_mv rfl rfl (EN38 rfl ?_)
  refine OW_split (tt := 10) rfl (fun g1_6 => ?_) (fun g1_6 => ?_)
  ·try simp only [bs] at g1_6
   refine OW_fa rfl rfl rfl ?_
   refine OW_loadR hS2 (k := 1) rfl rfl rfl rfl rfl (by rfl) ?_
   refine EN38 rfl (OW_fa rfl rfl rfl ?_)
   refine OW_loadR hS2 (k := 0) rfl rfl rfl rfl rfl (by rfl) ?_
   refine OW_bin rfl rfl rfl rfl rfl ?_
   refine EN38 rfl (OW_pick rfl rfl rfl (OW_mv rfl rfl ?_))
   refine OW_split (tt := 17) rfl (fun g1_13 => ?_) (fun g1_13 => ?_)
   ·try simp only [bs] at g1_13
    refine EN38 rfl (OW_fa rfl rfl rfl ?_)
    refine OW_loadR hS2 (k := 1) rfl rfl rfl rfl rfl (by rfl) ?_
    refine OW_fa rfl rfl rfl (EN38 rfl ?_)
    refine OW_loadR hS2 (k := 0) rfl rfl rfl rfl rfl (by rfl) ?_
    refine OW_bin rfl rfl rfl rfl rfl ?_
    refine OW_pick rfl rfl rfl (EN38 rfl (OW_mv rfl rfl ?_))
    refine OW_split (tt := 24) rfl (fun g1_20 => ?_) (fun g1_20 => ?_)
    ·try simp only [bs] at g1_20
     refine OW_fa rfl rfl rfl (EN38 rfl ?_)
     refine OW_loadR hS2 (k := 1) rfl rfl rfl rfl rfl (by rfl) ?_
     refine OW_fa rfl rfl rfl ?_
     refine OW_loadR hS2 (k := 0) rfl rfl rfl rfl rfl (by rfl) ?_
     refine EN38 rfl ?_
     refine OW_bin rfl rfl rfl rfl rfl ?_
     refine OW_pick rfl rfl rfl (OW_mv rfl rfl (EN38 rfl ?_))
     refine OW_split (tt := 31) rfl (fun g1_27 => ?_) (fun g1_27 => ?_)
     ·try simp only [bs] at g1_27
      refine OW_fa rfl rfl rfl ?_
      refine OW_loadR hS2 (k := 1) rfl rfl rfl rfl rfl (by rfl) ?_
      refine EN38 rfl (OW_fa rfl rfl rfl ?_)
      refine OW_loadR hS2 (k := 0) rfl rfl rfl rfl rfl (by rfl) ?_
      refine OW_fn rfl rfl (texts_c Ls.of Ls.of (by omega) (by omega) ?_) 
      refine EN38 rfl (OW_pick rfl rfl rfl (OW_as rfl rfl ?_))
      refine OW_nilE (e' := [_,_,_,_,_,_,_,_,_,_,_,_,_,_,_,_,_,_,_,_,_,_,_,_,_,_,_,_,_,_,_,_,_,_,_,_,_,_]) rfl ?_
      refine XW_ret ?_
      refine ret_ret (res1 rfl (rv_tmp rfl)) (frz1 (Q := Q) (by exact freeze_plain rfl) ?_)
      refine qcast hq ?_
      simp [*]
     try simp only [bs] at g1_27
     refine OW_no rfl (OW_no rfl (EN38 rfl (OW_no rfl (OW_no rfl (OW_no rfl (EN38 rfl (OW_pick rfl rfl rfl (OW_as rfl rfl ?_))))))))
     refine OW_nilE (e' := [_,_,_,_,_,_,_,_,_,_,_,_,_,_,_,_,_,_,_,_,_,_,_,_,_,_,_,_,_,_,_,_,_,_,_,_,_,_]) rfl ?_
     refine XW_ret ?_
     refine ret_ret (res1 rfl (rv_tmp rfl)) (frz1 (Q := Q) (by exact freeze_plain rfl) ?_)
     refine qcast hq ?_
     simp [*]
    try simp only [bs] at g1_20
    refine OW_no rfl (EN38 rfl (OW_no rfl (OW_no rfl (OW_no rfl (EN38 rfl (OW_no rfl (OW_pick rfl rfl rfl (OW_mv rfl rfl (EN38 rfl ?_)))))))))
    refine OW_no rfl (OW_no rfl (OW_no rfl (EN38 rfl (OW_no rfl (OW_no rfl (OW_pick rfl rfl rfl (EN38 rfl (OW_as rfl rfl ?_))))))))
    refine OW_nilE (e' := [_,_,_,_,_,_,_,_,_,_,_,_,_,_,_,_,_,_,_,_,_,_,_,_,_,_,_,_,_,_,_,_,_,_,_,_,_,_]) rfl ?_
    refine XW_ret ?_
    refine ret_ret (res1 rfl (rv_tmp rfl)) (frz1 (Q := Q) (by exact freeze_plain rfl) ?_)
    refine qcast hq ?_
    simp [*]
   try simp only [bs] at g1_13
   refine EN38 rfl (OW_no rfl (OW_no rfl (OW_no rfl (EN38 rfl (OW_no rfl (OW_no rfl (OW_pick rfl rfl rfl (EN38 rfl (OW_mv rfl rfl ?_)))))))))
   refine OW_no rfl (OW_no rfl (EN38 rfl (OW_no rfl (OW_no rfl (OW_no rfl (EN38 rfl (OW_pick rfl rfl rfl (OW_mv rfl rfl (OW_no rfl ?_)))))))))
   refine EN38 rfl (OW_no rfl (OW_no rfl (OW_no rfl (EN38 rfl (OW_no rfl (OW_pick rfl rfl rfl (OW_as rfl rfl ?_)))))))
   refine OW_nilE (e' := [_,_,_,_,_,_,_,_,_,_,_,_,_,_,_,_,_,_,_,_,_,_,_,_,_,_,_,_,_,_,_,_,_,_,_,_,_,_]) rfl ?_
   refine XW_ret ?_
   refine ret_ret (res1 rfl (rv_tmp rfl)) (frz1 (Q := Q) (by exact freeze_plain rfl) ?_)
   refine qcast hq ?_
   simp [*]
  try simp only [bs] at g1_6
  refine OW_no rfl (OW_no rfl (EN38 rfl (OW_no rfl (OW_no rfl (OW_no rfl (EN38 rfl (OW_pick rfl rfl rfl (OW_mv rfl rfl (OW_no rfl ?_)))))))))
  refine EN38 rfl (OW_no rfl (OW_no rfl (OW_no rfl (EN38 rfl (OW_no rfl (OW_pick rfl rfl rfl (OW_mv rfl rfl (EN38 rfl (OW_no rfl ?_)))))))))
  refine OW_no rfl (OW_no rfl (EN38 rfl (OW_no rfl (OW_no rfl (OW_pick rfl rfl rfl (EN38 rfl (OW_mv rfl rfl (OW_no rfl (OW_no rfl ?_)))))))))
  refine EN38 rfl (OW_no rfl (OW_no rfl (OW_no rfl (EN38 rfl (OW_pick rfl rfl rfl (OW_as rfl rfl ?_))))))
  refine OW_nilE (e' := [_,_,_,_,_,_,_,_,_,_,_,_,_,_,_,_,_,_,_,_,_,_,_,_,_,_,_,_,_,_,_,_,_,_,_,_,_,_]) rfl ?_
  refine XW_ret ?_
  refine ret_ret (res1 rfl (rv_tmp rfl)) (frz1 (Q := Q) (by exact freeze_plain rfl) ?_)
  refine qcast hq ?_
  simp [*]
theorem ckis_c (hz : c.sz) (hd : d.sz) (hq : Q (.bool (decide (c = d))) H) : CW cfg ν 14 [c.enc, d.enc] H Q := by
  obtain ⟨hz1, hz2, hz3, hz4⟩ := hz
  obtain ⟨hd1, hd2, hd3, hd4⟩ := hd
  have ne : ∀ h : ¬ (c.vs = d.vs ∧ c.ss = d.ss ∧ c.qs = d.qs), (false = decide (c = d)) := fun h => (decide_eq_false (fun e => h (by subst e; exact ⟨rfl, rfl, rfl⟩))).symm
  refine CW_pure g14 F14 rfl ?_
  have hS0 : Own ν ν (fun _ => none) [] := Own.nil
  refine XW_sr ?_
  refine OW_boxR hS0 (le_app (p := ν) (b := [0, 0])) (under_app [0, 0] under_me) rfl rfl rfl ⟨rfl, rfl⟩ fun H1 hS1 => ?_
  replace hS1 : Own _ _ _ ([_]) := hS1
  refine OW_boxR hS1 le_refl (under_app [1, 0] under_me) rfl rfl rfl ⟨rfl, rfl⟩ fun H2 hS2 => ?_
  replace hS2 : Own _ _ _ ([_, _]) := hS2
  refine OW_as rfl rfl ?_
  refine EZ48 rfl ?_
  refine XW_seq (XW_sr (OW_fa rfl rfl rfl ?_))
  refine OW_loadR hS2 (k := 1) rfl rfl rfl rfl rfl (by rfl) ?_
  refine OW_lenL rfl rfl (by exact Ls.of) rfl rfl rfl (by exact List.length_map _) ?_
  refine EN48 rfl (OW_fa rfl rfl rfl ?_)
  refine OW_loadR hS2 (k := 0) rfl rfl rfl rfl rfl (by rfl) ?_
  refine OW_lenL rfl rfl (by exact Ls.of) rfl rfl rfl (by exact List.length_map _) ?_
  refine EN48 rfl ?_
  refine OW_bin rfl rfl rfl rfl rfl ?_
  refine OW_mv rfl rfl ?_
  refine OW_split (tt := 13) rfl (fun g1_8 => ?_) (fun g1_8 => ?_)
  ·try simp only [bs] at g1_8
   refine EN48 rfl (OW_no rfl (OW_no rfl (OW_no rfl (EN48 rfl (OW_no rfl (OW_no rfl (OW_no rfl (EN48 rfl (OW_pick rfl rfl rfl ?_)))))))))
   refine OW_mv rfl rfl (OW_no rfl (EN48 rfl (OW_no rfl (OW_no rfl (OW_no rfl (EN48 rfl (OW_no rfl (OW_no rfl (OW_pick rfl rfl rfl ?_)))))))))
   refine EZ48 rfl ?_
   refine XW_yes rfl rfl ?_
   refine XW_sr (OW_as rfl rfl ?_)
   refine EZ48 rfl ?_
   refine XW_ret (then_ret ?_)
   refine ret_ret (res1 rfl (rv_tmp rfl)) (frz1 (Q := Q) (by exact freeze_plain rfl) ?_)
   refine qcast hq ?_
   congr 1
   exact ne (fun e => by have := congrArg List.length e.1; omega)
  try simp only [bs] at g1_8
  refine EN48 rfl (OW_fa rfl rfl rfl ?_)
  refine OW_loadR hS2 (k := 1) rfl rfl rfl rfl rfl (by rfl) ?_
  refine OW_fa rfl rfl rfl (EN48 rfl ?_)
  refine OW_loadR hS2 (k := 0) rfl rfl rfl rfl rfl (by rfl) ?_
  refine OW_fn rfl rfl (SE.c_Is Ls.of Ls.of (by omega) (by omega) ?_) 
  refine OW_un rfl rfl rfl (EN48 rfl (OW_pick rfl rfl rfl (OW_mv rfl rfl ?_)))
  refine OW_split (tt := 21) rfl (fun g1_16 => ?_) (fun g1_16 => ?_)
  ·try simp only [bs] at g1_16
   refine EN48 rfl (OW_no rfl (OW_no rfl (OW_no rfl (EN48 rfl (OW_no rfl (OW_no rfl (OW_no rfl (EN48 rfl (OW_pick rfl rfl rfl ?_)))))))))
   refine EZ48 rfl ?_
   refine XW_yes rfl rfl ?_
   refine XW_sr (OW_as rfl rfl ?_)
   refine EZ48 rfl ?_
   refine XW_ret (then_ret ?_)
   refine ret_ret (res1 rfl (rv_tmp rfl)) (frz1 (Q := Q) (by exact freeze_plain rfl) ?_)
   refine qcast hq ?_
   congr 1
   exact ne (fun e => by simp_all)
  try simp only [bs] at g1_16
  refine EN48 rfl (OW_fa rfl rfl rfl ?_)
  refine OW_loadR hS2 (k := 1) rfl rfl rfl rfl rfl (by rfl) ?_
  refine OW_fa rfl rfl rfl (EN48 rfl ?_)
  refine OW_loadR hS2 (k := 0) rfl rfl rfl rfl rfl (by rfl) ?_
  refine OW_fn rfl rfl (Qu.is Ls.of Ls.of (by omega) (by omega) ?_) 
  refine OW_un rfl rfl rfl (EN48 rfl (OW_pick rfl rfl rfl ?_))
  refine EZ48 rfl ?_
  refine XW_if rfl (fun h1 => ?_) (fun h1 => ?_)
  ·try simp only [bs] at h1
   refine XW_sr (OW_as rfl rfl ?_)
   refine EZ48 rfl ?_
   refine XW_ret (then_ret ?_)
   refine ret_ret (res1 rfl (rv_tmp rfl)) (frz1 (Q := Q) (by exact freeze_plain rfl) ?_)
   refine qcast hq ?_
   congr 1
   exact ne (fun e => by simp_all)
  try simp only [bs] at h1
  refine XW_skip (then_norm (XW_seq (XW_sr (OW_as rfl rfl ?_))))
  refine EZ48 rfl ?_
  refine XW_block ?_
  refine XW_whileN (I := fun ν' mm ee H' => ∃ (i : Nat), mm = c.vs.length - i ∧ under (1 :: 0 :: 1 :: 1 :: ν) ν' = true ∧ Own ν ν' H' ([row (1 :: 0 :: ν) 3 [d.enc], row (0 :: 0 :: ν) 3 [c.enc]]) ∧ (i ≤ c.vs.length ∧ c.vs.length = d.vs.length ∧ c.ss = d.ss ∧ c.qs = d.qs ∧ c.vs.take i = d.vs.take i) ∧ ∃ g : Nat → AVal, ee = [g 0, g 1, .ptr (0 :: 0 :: ν) 0 0, .ptr (1 :: 0 :: ν) 0 0, g 4, .int .i64 i, g 6, g 7, g 8, g 9, g 10, g 11, g 12, g 13, g 14, g 15, g 16, g 17, g 18, g 19, g 20, g 21, g 22, g 23, g 24, g 25, g 26, g 27, g 28, g 29, g 30, g 31, g 32, g 33, g 34, g 35, g 36, g 37, g 38, g 39, g 40, g 41, g 42, g 43, g 44, g 45, g 46, g 47]) ?_ _ _ _ _ ⟨0, rfl, under_me, Own.cast (Own.mono (hS2) (le_lit (ν := ν) (a := [2, 0]) (b := [1, 0, 1, 1]) (by decide))) (rfl), (⟨by omega, by omega, by simp_all, by simp_all, rfl⟩), env_g rfl⟩
  rintro ν1 mm ee H3 ⟨i, rfl, hU1, hS3, ⟨hi, hl, hI1, hI2, hI⟩, g1, rfl⟩
  refine XW_seq (XW_sr (OW_mv rfl rfl (OW_fa rfl rfl rfl ?_)))
  refine OW_loadR hS3 (k := 1) rfl rfl rfl rfl rfl (by rfl) ?_
  refine EN48 rfl ?_
  refine OW_lenL rfl rfl (by exact Ls.of) rfl rfl rfl (by exact List.length_map _) ?_
  refine OW_bin rfl rfl rfl rfl rfl ?_
  refine EZ48 rfl ?_
  refine XW_if rfl (fun h4 => ?_) (fun h4 => ?_)
  ·try simp only [bs] at h4
   refine XW_skip (then_norm (XW_seq (XW_block (XW_sr ?_))))
   have hlz := hz4 c.vs[i] (List.getElem_mem (by omega))
   have hld := hd4 d.vs[i] (List.getElem_mem (by omega))
   refine OW_fa rfl rfl rfl ?_
   refine OW_loadR hS3 (k := 1) rfl rfl rfl rfl rfl (by rfl) ?_
   refine OW_mv rfl rfl (EN48 rfl ?_)
   refine OW_iaL rfl rfl rfl Ls.of rfl rfl rfl (by rfl) (by exact at_map (by omega)) rfl ?_
   refine OW_loadE rfl rfl rfl (by exact part_whole rfl rfl rfl) ?_
   refine OW_fa rfl rfl rfl (EN48 rfl ?_)
   refine OW_loadR hS3 (k := 0) rfl rfl rfl rfl rfl (by rfl) ?_
   refine OW_mv rfl rfl ?_
   refine OW_iaL rfl rfl rfl Ls.of rfl rfl rfl (by rfl) (by exact at_map (by omega)) rfl ?_
   refine EN48 rfl ?_
   refine OW_loadE rfl rfl rfl (by exact part_whole rfl rfl rfl) ?_
   refine OW_fn rfl rfl (ckvol_c (by omega) (by omega) ?_) 
   refine OW_un rfl rfl rfl ?_
   refine EZ48 rfl ?_
   refine XW_if rfl (fun h6 => ?_) (fun h6 => ?_)
   ·try simp only [bs] at h6
    refine XW_sr (OW_as rfl rfl ?_)
    refine EZ48 rfl ?_
    refine XW_ret (block_ret (then_ret (block_ret (then_ret ?_))))
    refine ret_ret (res1 rfl (rv_tmp rfl)) (frz1 (Q := Q) (by exact freeze_plain rfl) ?_)
    refine qcast hq ?_
    congr 1
    exact ne (fun e => by simp_all)
   try simp only [bs] at h6
   refine XW_skip (block_norm (then_norm (XW_region (OW_mv rfl rfl ?_))))
   refine OW_bin rfl rfl rfl rfl (add_w64 (by omega)) ?_
   refine OW_as rfl rfl ?_
   refine EZ48 rfl ?_
   refine ⟨_, ?_, i + 1, rfl, under_in hU1, Own.cast (Own.mono (hS3) (le_app (p := ν1) (b := [1]))) (rfl), ?_, env_g rfl⟩
   · omega
   exact ⟨by omega, hl, hI1, hI2, by rw [List.take_succ_eq_append_getElem (by omega), List.take_succ_eq_append_getElem (by omega), hI, h6]⟩
  try simp only [bs] at h4
  refine XW_exit (then_exit (block_exit (then_norm (XW_sr (OW_as rfl rfl ?_)))))
  refine EZ48 rfl ?_
  refine XW_ret ?_
  refine ret_ret (res1 rfl (rv_tmp rfl)) (frz1 (Q := Q) (by exact freeze_plain rfl) ?_)
  refine qcast hq ?_
  congr 1
  exact (decide_eq_true (by rw [List.take_of_length_le (by omega), List.take_of_length_le (by omega)] at hI; obtain ⟨a1, a2, a3⟩ := c; obtain ⟨b1, b2, b3⟩ := d; simp only at hI hI1 hI2; rw [hI, hI1, hI2])).symm
def isLong : ByteArray → Bool := fun s => decide (64 < s.size)
theorem idxS_c {l : List ByteArray} (hn : l.length ≤ 4294967296) (hq : Q (.int .i64 (firstI isLong l 0)) H) : CW cfg ν 113 [.lst (l.map AVal.str), .fn 75 []] H Q := by
  refine CW_pure g113 F113 rfl ?_
  refine XW_sr (OW_as rfl rfl ?_)
  refine EZ19 rfl ?_
  refine XW_seq (XW_sr (OW_mv rfl rfl ?_))
  refine OW_lenL rfl rfl (by exact Ls.of) rfl rfl rfl (by exact List.length_map _) ?_
  refine OW_mv rfl rfl ?_
  refine EZ19 rfl ?_
  refine XW_block ?_
  refine XW_whileN (I := fun ν' mm ee H' => ∃ (i : Nat), mm = l.length - i ∧ under (1 :: 0 :: 1 :: ν) ν' = true ∧ (i ≤ l.length ∧ firstI isLong l 0 = firstI isLong (l.drop i) i) ∧ ∃ g : Nat → AVal, ee = [.lst (l.map AVal.str), .fn 75 [], g 2, g 3, g 4, g 5, g 6, .int .i64 l.length, .int .i64 i, g 9, g 10, g 11, g 12, g 13, g 14, g 15, g 16, g 17, g 18]) ?_ _ _ _ _ ⟨0, rfl, under_me, (⟨by omega, rfl⟩), env_g rfl⟩
  rintro ν1 mm ee H1 ⟨i, rfl, hU1, ⟨hi, hI⟩, g1, rfl⟩
  refine XW_sr ?_
  refine OW_bin rfl rfl rfl rfl rfl ?_
  refine EZ19 rfl ?_
  refine XW_seq ?_
  refine XW_if rfl (fun h2 => ?_) (fun h2 => ?_)
  ·try simp only [bs] at h2
   refine XW_skip (then_norm (XW_seq (XW_block (XW_sr (OW_mv rfl rfl (OW_as rfl rfl ?_))))))
   refine EZ19 rfl ?_
   refine XW_sr (OW_mv rfl rfl (OW_mv rfl rfl (OW_mv rfl rfl ?_)))
   refine OW_env (e' := [_,_,_,_,_,_,_,_,_,_,_,_,_,_,_,_,_,_,_]) rfl ?_
   refine OW_iaL rfl rfl rfl Ls.of rfl rfl rfl (by rfl) (by exact at_map (by omega)) rfl ?_
   refine OW_loadE rfl rfl rfl (by rfl) ?_
   refine OW_fv rfl rfl rfl (long_c ?_)
   refine EZ19 rfl ?_
   refine XW_if rfl (fun h4 => ?_) (fun h4 => ?_)
   ·try simp only [bs] at h4
    refine XW_sr (OW_mv rfl rfl (OW_as rfl rfl ?_))
    refine EZ19 rfl ?_
    refine XW_ret (block_ret (then_ret (block_ret (then_ret ?_))))
    refine ret_ret (res1 rfl (rv_tmp rfl)) (frz1 (Q := Q) (by exact freeze_plain rfl) ?_)
    (rw [hI, List.drop_eq_getElem_cons (by omega), firstI, if_pos (by unfold isLong; simpa using h4)] at hq; exact hq)
   try simp only [bs] at h4
   refine XW_skip (block_norm (then_norm (XW_region ?_)))
   refine OW_bin rfl rfl rfl rfl (add_w64 (by omega)) ?_
   refine OW_mv rfl rfl ?_
   refine EZ19 rfl ?_
   refine ⟨_, ?_, i + 1, rfl, under_in hU1, ?_, env_g rfl⟩
   · omega
   exact ⟨by omega, by rw [hI, List.drop_eq_getElem_cons (by omega), firstI, if_neg (by unfold isLong; simpa using h4)]; rfl⟩
  try simp only [bs] at h2
  refine XW_exit (then_exit (block_exit (then_norm (XW_sr (OW_as rfl rfl ?_)))))
  refine EZ19 rfl ?_
  refine XW_ret ?_
  refine ret_ret (res1 rfl (rv_tmp rfl)) (frz1 (Q := Q) (by exact freeze_plain rfl) ?_)
  (rw [hI, List.drop_eq_nil_of_le (by omega)] at hq; exact hq)
theorem hasS_c {l : List ByteArray} (hn : l.length ≤ 4294967296) (hq : Q (.bool (l.any isLong)) H) : CW cfg ν 74 [.lst (l.map AVal.str), .fn 75 []] H Q := by
  have e : decide (firstI isLong l 0 ≥ 0) = l.any isLong := firstI_any isLong l 0 (by omega)
  rw [← e] at hq
  refine CW_pure g74 F74 rfl ?_
  refine XW_sr (OW_as rfl rfl ?_)
  refine OW_nilE (e' := [_,_,_,_,_,_,_,_,_]) rfl ?_
  refine XW_sr (OW_mv rfl rfl (OW_mv rfl rfl ?_))
  refine OW_fn rfl rfl (idxS_c hn ?_) 
  refine OW_env (e' := [_,_,_,_,_,_,_,_,_]) rfl ?_
  refine OW_bin rfl rfl rfl rfl rfl ?_
  refine OW_as rfl rfl ?_
  refine OW_nilE (e' := [_,_,_,_,_,_,_,_,_]) rfl ?_
  refine XW_ret ?_
  refine ret_ret (res1 rfl (rv_tmp rfl)) (frz1 (Q := Q) (by exact freeze_plain rfl) ?_)
  exact hq
theorem any_long {l : List ByteArray} : l.any isLong = false ↔ ∀ s ∈ l, s.size ≤ 64 := by
  rw [List.any_eq_false]
  constructor
  · intro h s hs; have := h s hs; simp only [isLong, decide_eq_true_eq] at this; omega
  intro h s hs; have := h s hs; simp only [isLong, decide_eq_true_eq]; omega
theorem shl_i {b : Int} (h : 0 ≤ b ∧ b ≤ 4) : aBin cfg.T .shl 3 (.int .i64 1) (.int .i64 b) = some (.int .i64 ((2 ^ b.toNat : Nat) : Int)) := by
  obtain ⟨n, rfl⟩ := Int.eq_ofNat_of_zero_le h.1
  rcases (by omega : n = 0 ∨ n = 1 ∨ n = 2 ∨ n = 3 ∨ n = 4) with rfl | rfl | rfl | rfl | rfl <;> rfl
theorem pk_check (hz : c.sz) (hq : Q (.bool (chkC c)) H) : CW cfg ν 25 [c.enc] H Q := by
  obtain ⟨hz1, hz2, hz3, hz4⟩ := hz
  refine CW_pure g25 F25 rfl ?_
  have hS0 : Own ν ν (fun _ => none) [] := Own.nil
  refine XW_sr ?_
  refine OW_boxR hS0 (le_app (p := ν) (b := [0, 0])) (under_app [0, 0] under_me) rfl rfl rfl ⟨rfl, rfl⟩ fun H1 hS1 => ?_
  replace hS1 : Own _ _ _ ([_]) := hS1
  refine OW_as rfl rfl ?_
  refine EZ60 rfl ?_
  refine XW_seq (XW_sr (OW_fa rfl rfl rfl ?_))
  refine OW_loadR hS1 (k := 0) rfl rfl rfl rfl rfl (by rfl) ?_
  refine OW_lenL rfl rfl (by exact Ls.of) rfl rfl rfl (by exact List.length_map _) ?_
  refine EN60 rfl ?_
  refine OW_bin rfl rfl rfl rfl rfl ?_
  refine OW_mv rfl rfl ?_
  refine OW_split (tt := 9) rfl (fun g1_5 => ?_) (fun g1_5 => ?_)
  ·try simp only [bs] at g1_5
   refine EN60 rfl (OW_no rfl (OW_no rfl (OW_no rfl (EN60 rfl (OW_no rfl (OW_pick rfl rfl rfl (OW_mv rfl rfl (EN60 rfl (OW_no rfl ?_)))))))))
   refine OW_no rfl (OW_no rfl (EN60 rfl (OW_no rfl (OW_pick rfl rfl rfl ?_))))
   refine EZ60 rfl ?_
   refine XW_yes rfl rfl ?_
   refine XW_sr (OW_as rfl rfl ?_)
   refine EZ60 rfl ?_
   refine XW_ret (then_ret ?_)
   refine ret_ret (res1 rfl (rv_tmp rfl)) (frz1 (Q := Q) (by exact freeze_plain rfl) ?_)
   refine qcast hq ?_
   congr 1
   (unfold chkC; rw [decide_eq_false (fun e => by have := e.1; omega)]; rfl)
  try simp only [bs] at g1_5
  refine EN60 rfl (OW_fa rfl rfl rfl ?_)
  refine OW_loadR hS1 (k := 0) rfl rfl rfl rfl rfl (by rfl) ?_
  refine OW_fn rfl rfl (SE.p_check (Ls.freeze Ls.of) (by omega) ?_) 
  refine EN60 rfl (OW_un rfl rfl rfl (OW_pick rfl rfl rfl (OW_mv rfl rfl (EN60 rfl ?_))))
  refine OW_split (tt := 15) rfl (fun g1_11 => ?_) (fun g1_11 => ?_)
  ·try simp only [bs] at g1_11
   refine OW_no rfl (OW_no rfl (EN60 rfl (OW_no rfl (OW_no rfl (OW_pick rfl rfl rfl ?_)))))
   refine EZ60 rfl ?_
   refine XW_yes rfl rfl ?_
   refine XW_sr (OW_as rfl rfl ?_)
   refine EZ60 rfl ?_
   refine XW_ret (then_ret ?_)
   refine ret_ret (res1 rfl (rv_tmp rfl)) (frz1 (Q := Q) (by exact freeze_plain rfl) ?_)
   refine qcast hq ?_
   congr 1
   (unfold chkC; simp [*]; done)
  try simp only [bs] at g1_11
  refine OW_fa rfl rfl rfl ?_
  refine OW_loadR hS1 (k := 0) rfl rfl rfl rfl rfl (by rfl) ?_
  refine EN60 rfl ?_
  refine OW_fn rfl rfl (c_check (Ls.freeze Ls.of) (by omega) ?_) 
  refine OW_un rfl rfl rfl (OW_pick rfl rfl rfl ?_)
  refine EZ60 rfl ?_
  refine XW_if rfl (fun h1 => ?_) (fun h1 => ?_)
  ·try simp only [bs] at h1
   refine XW_sr (OW_as rfl rfl ?_)
   refine EZ60 rfl ?_
   refine XW_ret (then_ret ?_)
   refine ret_ret (res1 rfl (rv_tmp rfl)) (frz1 (Q := Q) (by exact freeze_plain rfl) ?_)
   refine qcast hq ?_
   congr 1
   (unfold chkC; simp [*]; done)
  try simp only [bs] at h1
  refine XW_skip (then_norm (XW_seq (XW_sr (OW_fa rfl rfl rfl ?_))))
  refine OW_loadR hS1 (k := 0) rfl rfl rfl rfl rfl (by rfl) ?_
  refine OW_lenL rfl rfl (by exact Ls.of) rfl rfl rfl (by exact List.length_map _) ?_
  refine EN60 rfl (OW_mv rfl rfl ?_)
  refine EZ60 rfl ?_
  refine XW_block ?_
  refine XW_whileN (I := fun ν' mm ee H' => ∃ (i : Nat), mm = c.vs.length - i ∧ under (1 :: 0 :: 1 :: 1 :: ν) ν' = true ∧ Own ν ν' H' ([row (0 :: 0 :: ν) 3 [.agg [.lst (c.vs.map Vo.enc), .lst (c.ss.map SE.Se.enc), .lst (c.qs.map Qu.enc)]]]) ∧ (i ≤ c.vs.length ∧ c.vs.length ≤ 8 ∧ SE.chkL c.ss = true ∧ chkQ c.qs = true ∧ ∀ j (hj : j < c.vs.length), j < i → atP c.vs[j].vo c.vs = j ∧ okV c.vs[j]) ∧ ∃ g : Nat → AVal, ee = [g 0, .ptr (0 :: 0 :: ν) 0 0, g 2, g 3, g 4, g 5, g 6, g 7, g 8, g 9, g 10, g 11, g 12, g 13, g 14, g 15, g 16, g 17, g 18, g 19, g 20, g 21, .lst (c.vs.map Vo.enc), .int .i64 c.vs.length, .int .i64 i, g 25, g 26, g 27, g 28, g 29, g 30, g 31, g 32, g 33, g 34, g 35, g 36, g 37, g 38, g 39, g 40, g 41, g 42, g 43, g 44, g 45, g 46, g 47, g 48, g 49, g 50, g 51, g 52, g 53, g 54, g 55, g 56, g 57, g 58, g 59]) ?_ _ _ _ _ ⟨0, rfl, under_me, Own.cast (Own.mono (hS1) (le_lit (ν := ν) (a := [1, 0]) (b := [1, 0, 1, 1]) (by decide))) (rfl), (⟨by omega, by omega, by simp_all, by simp_all, fun j hj h => by omega⟩), env_g rfl⟩
  rintro ν1 mm ee H2 ⟨i, rfl, hU1, hS2, ⟨hi, hl8, hcs, hcq, hI⟩, g1, rfl⟩
  refine XW_sr ?_
  refine OW_bin rfl rfl rfl rfl rfl ?_
  refine EZ60 rfl ?_
  refine XW_seq ?_
  refine XW_if rfl (fun h4 => ?_) (fun h4 => ?_)
  ·try simp only [bs] at h4
   refine XW_skip (then_norm (XW_seq (XW_block (XW_sr ?_))))
   have hlz := hz4 c.vs[i] (List.getElem_mem (by omega))
   refine OW_mv rfl rfl ?_
   refine OW_iaL rfl rfl rfl Ls.of rfl rfl rfl (by rfl) (by exact at_map (by omega)) rfl ?_
   refine OW_loadE rfl rfl rfl (by exact part_whole rfl rfl rfl) ?_
   refine EN60 rfl ?_
   refine OW_allocR hS2 (le_app (p := ν1) (b := [3, 0, 0, 1, 1, 0])) (under_app [3, 0, 0, 1, 1, 0] (under_trans (under_app [1, 0, 1, 1] under_me) hU1)) rfl rfl rfl rfl fun H3 hS3 => ?_
   replace hS3 : Own _ _ _ ([_, _]) := hS3
   refine OW_as rfl rfl ?_
   refine OW_storeR hS3 (k := 0) rfl (le_lit (ν := ν1) (a := [4, 0, 0, 1, 1, 0]) (b := [5, 0, 0, 1, 1, 0]) (by decide)) rfl rfl rfl rfl ⟨rfl, rfl, Nat.le_of_ble_eq_true rfl⟩ (u2 := .agg [_, _, _, _, _]) rfl fun H4 hS4 => ?_
   replace hS4 : Own _ _ _ ([_, _]) := hS4
   refine EZ60 rfl ?_
   refine XW_sr ?_
   refine OW_loadR hS4 (k := 1) rfl rfl rfl rfl rfl (by exact part_whole rfl rfl rfl) ?_
   refine OW_fa rfl rfl rfl ?_
   refine OW_loadR hS4 (k := 0) rfl rfl rfl rfl rfl (by rfl) ?_
   refine EN60 rfl ?_
   refine OW_fn rfl rfl (ck_find rfl (by omega) _ ?_) 
   refine OW_mv rfl rfl ?_
   refine OW_bin rfl rfl rfl rfl rfl ?_
   refine EN60 rfl (OW_mv rfl rfl ?_)
   refine OW_split (tt := 35) rfl (fun g6_7 => ?_) (fun g6_7 => ?_)
   ·try simp only [bs] at g6_7
    refine OW_no rfl (EN60 rfl (OW_no rfl (OW_no rfl (OW_pick rfl rfl rfl (EN60 rfl (OW_mv rfl rfl (OW_no rfl (OW_no rfl (EN60 rfl ?_)))))))))
    refine OW_no rfl (OW_pick rfl rfl rfl (OW_mv rfl rfl (EN60 rfl (OW_no rfl (OW_no rfl (OW_no rfl (EN60 rfl (OW_no rfl (OW_no rfl ?_)))))))))
    refine OW_no rfl (EN60 rfl (OW_no rfl (OW_pick rfl rfl rfl (OW_mv rfl rfl (EN60 rfl (OW_no rfl (OW_no rfl (OW_no rfl (EN60 rfl ?_)))))))))
    refine OW_pick rfl rfl rfl ?_
    refine EZ60 rfl ?_
    refine XW_yes rfl rfl ?_
    refine XW_sr (OW_as rfl rfl ?_)
    refine EZ60 rfl ?_
    refine XW_ret (block_ret (then_ret (block_ret (then_ret ?_))))
    refine ret_ret (res1 rfl (rv_tmp rfl)) (frz1 (Q := Q) (by exact freeze_plain rfl) ?_)
    refine qcast hq ?_
    congr 1
    exact (chkF (i := i) (by omega) (.inl (by omega))).symm
   try simp only [bs] at g6_7
   refine OW_fa rfl rfl rfl (EN60 rfl ?_)
   refine OW_loadR hS4 (k := 0) rfl rfl rfl rfl rfl (by rfl) ?_
   refine OW_bin rfl rfl rfl rfl rfl ?_
   refine OW_pick rfl rfl rfl (EN60 rfl (OW_mv rfl rfl ?_))
   refine OW_split (tt := 40) rfl (fun g6_12 => ?_) (fun g6_12 => ?_)
   ·try simp only [bs] at g6_12
    refine OW_no rfl (EN60 rfl (OW_no rfl (OW_no rfl (OW_pick rfl rfl rfl (EN60 rfl (OW_mv rfl rfl (OW_no rfl (OW_no rfl (EN60 rfl ?_)))))))))
    refine OW_no rfl (OW_no rfl (OW_no rfl (EN60 rfl (OW_no rfl (OW_no rfl (OW_pick rfl rfl rfl (EN60 rfl (OW_mv rfl rfl (OW_no rfl ?_)))))))))
    refine OW_no rfl (EN60 rfl (OW_no rfl (OW_pick rfl rfl rfl ?_)))
    refine EZ60 rfl ?_
    refine XW_yes rfl rfl ?_
    refine XW_sr (OW_as rfl rfl ?_)
    refine EZ60 rfl ?_
    refine XW_ret (block_ret (then_ret (block_ret (then_ret ?_))))
    refine ret_ret (res1 rfl (rv_tmp rfl)) (frz1 (Q := Q) (by exact freeze_plain rfl) ?_)
    refine qcast hq ?_
    congr 1
    exact (chkF (i := i) (by omega) (.inr (fun ⟨a1, a2, a3, _⟩ => by omega))).symm
   try simp only [bs] at g6_12
   refine OW_fa rfl rfl rfl (EN60 rfl ?_)
   refine OW_loadR hS4 (k := 0) rfl rfl rfl rfl rfl (by rfl) ?_
   refine OW_bin rfl rfl rfl rfl rfl ?_
   refine OW_pick rfl rfl rfl (EN60 rfl (OW_mv rfl rfl ?_))
   refine OW_split (tt := 45) rfl (fun g6_17 => ?_) (fun g6_17 => ?_)
   ·try simp only [bs] at g6_17
    refine OW_no rfl (EN60 rfl (OW_no rfl (OW_no rfl (OW_no rfl (EN60 rfl (OW_no rfl (OW_no rfl (OW_no rfl (EN60 rfl ?_)))))))))
    refine OW_pick rfl rfl rfl (OW_mv rfl rfl (OW_no rfl (EN60 rfl (OW_no rfl (OW_no rfl (OW_pick rfl rfl rfl ?_))))))
    refine EZ60 rfl ?_
    refine XW_yes rfl rfl ?_
    refine XW_sr (OW_as rfl rfl ?_)
    refine EZ60 rfl ?_
    refine XW_ret (block_ret (then_ret (block_ret (then_ret ?_))))
    refine ret_ret (res1 rfl (rv_tmp rfl)) (frz1 (Q := Q) (by exact freeze_plain rfl) ?_)
    refine qcast hq ?_
    congr 1
    exact (chkF (i := i) (by omega) (.inr (fun ⟨a1, a2, a3, _⟩ => by omega))).symm
   try simp only [bs] at g6_17
   refine OW_fa rfl rfl rfl (EN60 rfl ?_)
   refine OW_loadR hS4 (k := 0) rfl rfl rfl rfl rfl (by rfl) ?_
   refine OW_lenL rfl rfl (by exact Ls.of) rfl rfl rfl (by exact List.length_map _) ?_
   refine OW_fa rfl rfl rfl (EN60 rfl ?_)
   refine OW_loadR hS4 (k := 0) rfl rfl rfl rfl rfl (by rfl) ?_
   refine OW_bin rfl rfl rfl rfl (shl_i (by omega)) ?_
   refine OW_bin rfl rfl rfl rfl rfl ?_
   refine EN60 rfl (OW_pick rfl rfl rfl (OW_mv rfl rfl ?_))
   refine OW_split (tt := 54) rfl (fun g6_26 => ?_) (fun g6_26 => ?_)
   ·try simp only [bs] at g6_26
    refine EN60 rfl (OW_no rfl (OW_no rfl (OW_no rfl (EN60 rfl (OW_pick rfl rfl rfl ?_)))))
    refine EZ60 rfl ?_
    refine XW_yes rfl rfl ?_
    refine XW_sr (OW_as rfl rfl ?_)
    refine EZ60 rfl ?_
    refine XW_ret (block_ret (then_ret (block_ret (then_ret ?_))))
    refine ret_ret (res1 rfl (rv_tmp rfl)) (frz1 (Q := Q) (by exact freeze_plain rfl) ?_)
    refine qcast hq ?_
    congr 1
    exact (chkF (i := i) (by omega) (.inr (fun ⟨a1, a2, a3, _⟩ => by omega))).symm
   try simp only [bs] at g6_26
   refine EN60 rfl (OW_fa rfl rfl rfl ?_)
   refine OW_loadR hS4 (k := 0) rfl rfl rfl rfl rfl (by rfl) ?_
   refine OW_fn rfl rfl (hasS_c (by omega) ?_) 
   refine EN60 rfl (OW_pick rfl rfl rfl ?_)
   refine EZ60 rfl ?_
   refine XW_if rfl (fun h6 => ?_) (fun h6 => ?_)
   ·try simp only [bs] at h6
    refine XW_sr (OW_as rfl rfl ?_)
    refine EZ60 rfl ?_
    refine XW_ret (block_ret (then_ret (block_ret (then_ret ?_))))
    refine ret_ret (res1 rfl (rv_tmp rfl)) (frz1 (Q := Q) (by exact freeze_plain rfl) ?_)
    refine qcast hq ?_
    congr 1
    exact (chkF (i := i) (by omega) (.inr (fun h => by have := any_long.2 h.2.2.2; simp_all))).symm
   try simp only [bs] at h6
   refine XW_skip (block_norm (then_norm (XW_region ?_)))
   refine OW_bin rfl rfl rfl rfl (add_w64 (by omega)) ?_
   refine OW_mv rfl rfl ?_
   refine EZ60 rfl ?_
   have hSd1 : Own _ _ _ ([_]) := (Own.drop hS4 (k := 0) rfl)
   refine ⟨_, ?_, i + 1, rfl, under_in hU1, Own.cast (Own.mono (hSd1) (le_lit (ν := ν1) (a := [6, 0, 0, 1, 1, 0]) (b := [1]) (by decide))) (rfl), ?_, env_g rfl⟩
   · omega
   exact ⟨by omega, hl8, hcs, hcq, fun j hj h => by by_cases e : j = i; (subst e; exact ⟨by omega, by omega, by omega, by omega, any_long.1 (by assumption)⟩); exact hI j hj (by omega)⟩
  try simp only [bs] at h4
  refine XW_exit (then_exit (block_exit (then_norm (XW_sr (OW_as rfl rfl ?_)))))
  refine EZ60 rfl ?_
  refine XW_ret ?_
  refine ret_ret (res1 rfl (rv_tmp rfl)) (frz1 (Q := Q) (by exact freeze_plain rfl) ?_)
  refine qcast hq ?_
  congr 1
  (unfold chkC; rw [chk_vs (by omega) (fun j hj => hI j hj (by omega))]; simp [*]; done)
end Go.Proofs.YtfkgdlfponfimaaGreat.X

/- Layer 13: the law's plays: oracle, bytes, after. -/
set_option linter.unusedVariables false
set_option linter.unusedSimpArgs false
set_option maxRecDepth 100000
namespace Go.Proofs.YtfkgdlfponfimaaGreat.X
open Go Go.RowKit WM
variable {ν β ps pos pos' : Nm} {H H1 : Heap} {Q : AVal → Heap → Prop} {L : List Asr} {k : Nat} {S : Rf} {c : Ck} {q qo : Nm} {key : Int}
structure Stp where
  id : Int
  nr : Int
  m : Cm
  raw : ByteArray
def Stp.enc (s : Stp) : AVal := .agg [.int .u64 s.id, .int .u64 s.nr, .int .i64 s.m.d, .int .u64 s.m.t.tn, .int .u64 s.m.t.vo, .int .u64 s.m.t.ep, .int .u64 s.m.t.ri, .int .u64 s.m.t.tag, .int .u64 s.m.vo, .int .u64 s.m.se, .int .u64 s.m.a, .int .u64 s.m.b, .str s.m.lf, .str s.raw]
structure Stp.fit (s : Stp) : Prop where
  id : U64 s.id
  nr : U64 s.nr
  m : s.m.fit
  lf : s.m.lf.size ≤ 1048576
  raw : s.raw.size ≤ 1048576
structure Py where
  c : Ck
  d : List Int
  key : Int
  iss : List Tk
  l : List Stp
def Py.enc (x : Py) : AVal := .agg [.lst (x.c.vs.map Vo.enc), .lst (x.c.ss.map SE.Se.enc), .lst (x.c.qs.map Qu.enc), .lst (x.d.map (fun a : Int => AVal.int .u64 a)), .int .u64 x.key, .lst (x.iss.map Tk.enc), .lst (x.l.map Stp.enc)]
structure Py.good (x : Py) : Prop where
  sz : x.c.sz
  d : x.d.length ≤ 1048576
  iss : x.iss.length ≤ 1048576
  ifit : ∀ t ∈ x.iss, t.fit
  l : x.l.length ≤ 1048576
  lfit : ∀ s ∈ x.l, s.fit
def Stp.bytes (s : Stp) : ByteArray := if s.raw ≠ ⟨#[]⟩ then s.raw else packC s.m
theorem Stp.fit.bytes {s : Stp} (h : s.fit) : s.bytes.size ≤ 1099511627776 := by
  have h1 := packC_size h.m; have h2 := h.lf; have h3 := h.raw
  unfold Stp.bytes; split <;> omega
def Py.os (x : Py) : Rf := ((Rf.new x.d).issues x.key (x.iss.take 20)).2
def stepS (key : Int) (p : Ck × Rf) (y : Stp) : Ck × Rf := ((applyR p.2 key p.1 y.id y.nr y.bytes).1.c, (applyR p.2 key p.1 y.id y.nr y.bytes).2)
def afterS (S : Rf) (key : Int) (c : Ck) (l : List Stp) : Ck × Rf := l.foldl (stepS key) (c, S)
theorem stepS_good {p : Ck × Rf} {y : Stp} (hg : p.1.good) (hy : y.fit) : (stepS key p y).1.good := applyR_good hg hy.id hy.nr hy.bytes
end Go.Proofs.YtfkgdlfponfimaaGreat.X

/- Layer 13: what a command leaves of the volumes. -/
set_option linter.unusedVariables false
set_option linter.unusedSimpArgs false
set_option maxRecDepth 100000
namespace Go.Proofs.YtfkgdlfponfimaaGreat.X
open Go Go.RowKit WM
variable {S : Rf} {c : Ck} {key want id nr vo ep : Int} {m : Cm} {cmd : ByteArray}
structure Ext (vo : Int) (c d : Ck) : Prop where
  len : c.vs.length ≤ d.vs.length
  each : ∀ i (h : i < c.vs.length) (h' : i < d.vs.length), d.vs[i].vo = c.vs[i].vo ∧ c.vs[i].ep ≤ d.vs[i].ep ∧ d.vs[i].tn = c.vs[i].tn ∧ (c.vs[i].vo ≠ vo → d.vs[i] = c.vs[i])
theorem ext_of {d : Ck} (h : d.vs = c.vs) : Ext vo c d := by
  obtain ⟨a, b, e⟩ := d
  subst h
  exact ⟨Nat.le_refl _, fun i h h' => ⟨rfl, Int.le_refl _, rfl, fun _ => rfl⟩⟩
theorem ext_app {x : Vo} {ss : List SE.Se} {qs : List Qu} : Ext vo c ⟨c.vs ++ [x], ss, qs⟩ := by
  refine ⟨by simp, fun i h h' => ?_⟩
  have : (c.vs ++ [x])[i]'h' = c.vs[i] := List.getElem_append_left h
  show (c.vs ++ [x])[i].vo = _ ∧ _
  rw [this]
  exact ⟨rfl, Int.le_refl _, rfl, fun _ => rfl⟩
theorem ext_set {i : Nat} {y : Vo} {ss : List SE.Se} {qs : List Qu} (hi : i < c.vs.length) (hv : c.vs[i].vo = vo) (h1 : y.vo = c.vs[i].vo) (h2 : c.vs[i].ep ≤ y.ep) (h3 : y.tn = c.vs[i].tn) : Ext vo c ⟨c.vs.set i y, ss, qs⟩ := by
  refine ⟨by simp, fun j h h' => ?_⟩
  show (c.vs.set i y)[j].vo = _ ∧ _ ≤ (c.vs.set i y)[j].ep ∧ (c.vs.set i y)[j].tn = _ ∧ (_ → (c.vs.set i y)[j] = _)
  rw [List.getElem_set]
  split
  · rename_i e; subst e; exact ⟨h1, h2, h3, fun h => absurd hv h⟩
  exact ⟨rfl, Int.le_refl _, rfl, fun _ => rfl⟩
theorem ext_setL {i : Nat} {s : ByteArray} (h1 : atP m.vo c.vs = i) (hi : i < c.vs.length) (hv : c.vs[i].vo = m.vo) (qs : List Qu) : Ext m.vo c { c.setL m s with qs := qs } := by
  rw [setL_at h1 hi]
  exact ext_set (y := { c.vs[i] with lv := c.vs[i].lv.set m.se.toNat s }) hi hv rfl (Int.le_refl _) rfl
theorem leafR_ext {f : Ck → Cm → Rs} (hg : c.good) (hf : ∀ i, atP m.vo c.vs = (i : Nat) → (hi : i < c.vs.length) → c.vs[i].vo = m.vo → Ext m.vo c (f c m).c) : Ext m.vo c (leafR S key c m want f).1.c := by
  by_cases he : (leafE S key c m want).1 = 0
  · rw [leafR_ok he]
    obtain ⟨i, hi, h1, h2, _⟩ := leaf_at hg he
    exact hf i h1 hi h2
  rw [leafR_err he]; exact ext_of rfl
theorem runR_ext (hg : c.good) : Ext m.vo c (runR S key c m).1.c := by
  unfold runR
  split
  · unfold makeR
    split
    · exact ext_of rfl
    split
    · exact ext_of rfl
    split
    · exact ext_of rfl
    exact ext_app
  split
  · unfold epochR
    split
    · exact ext_of rfl
    rename_i h
    obtain ⟨i, hi, h1, h2, h3⟩ := atP_good hg h
    rw [at_eq h1 hi, setV_eq h1]
    exact ext_set (y := { c.vs[i] with ep := max c.vs[i].ep m.a }) hi h2 rfl (Int.le_max_left _ _) rfl
  split
  · unfold limitR; split <;> exact ext_of rfl
  split
  · refine leafR_ext hg fun i h1 hi hv => ?_
    unfold putR
    split
    · exact ext_of rfl
    split
    · split
      · exact ext_of rfl
      exact ext_setL h1 hi hv _
    exact ext_setL h1 hi hv c.qs
  split
  · exact leafR_ext hg fun i h1 hi hv => ext_of rfl
  split
  · refine leafR_ext hg fun i h1 hi hv => ?_
    unfold trimR
    split
    · exact ext_of rfl
    split
    · exact ext_setL h1 hi hv _
    exact ext_setL h1 hi hv c.qs
  exact ext_of rfl
def Ge (vo ep : Int) (c : Ck) : Prop := ∃ (i : Nat) (hi : i < c.vs.length), c.vs[i].vo = vo ∧ ep ≤ c.vs[i].ep
theorem Ge.ext {d : Ck} {w : Int} (h : Ge vo ep c) (he : Ext w c d) : Ge vo ep d := by
  obtain ⟨i, hi, h1, h2⟩ := h
  have hi' : i < d.vs.length := Nat.lt_of_lt_of_le hi he.len
  obtain ⟨e1, e2, _⟩ := he.each i hi hi'
  exact ⟨i, hi', by rw [e1]; exact h1, Int.le_trans h2 e2⟩
theorem applyR_ext (hg : c.good) : ∃ w, Ext w c (applyR S key c id nr cmd).1.c := by
  unfold applyR
  split
  · exact ⟨0, ext_of rfl⟩
  split
  · exact ⟨0, ext_of rfl⟩
  split
  · obtain ⟨h1, h2⟩ := runR_ext (S := S) (key := key) (m := (unpC cmd).1) hg
    exact ⟨(unpC cmd).1.vo, h1, h2⟩
  exact ⟨0, ext_of rfl⟩
theorem Ge.after : ∀ {l : List Stp} {c : Ck} {S : Rf}, Ge vo ep c → c.good → (∀ y ∈ l, y.fit) → Ge vo ep (afterS S key c l).1
  | [], _, _, h, _, _ => h
  | y :: l, c, S, h, hg, hl => by
    obtain ⟨w, hw⟩ := applyR_ext (S := S) (key := key) (id := y.id) (nr := y.nr) (cmd := y.bytes) hg
    exact Ge.after (l := l) (c := (stepS key (c, S) y).1) (S := (stepS key (c, S) y).2) (h.ext hw) (stepS_good (p := (c, S)) hg (hl y (by simp))) fun z hz => hl z (by simp [hz])
theorem Ge.at (h : Ge vo ep c) (hg : c.good) : ∃ (i : Nat) (hi : i < c.vs.length), atP vo c.vs = i ∧ ep ≤ c.vs[i].ep := by
  obtain ⟨i, hi, h1, h2⟩ := h
  exact ⟨i, hi, by rw [← h1]; exact nodup_atP hg.nd hi, h2⟩
end Go.Proofs.YtfkgdlfponfimaaGreat.X

/- Layer 13: what the statements' sizes say of their arguments. -/
set_option linter.unusedVariables false
set_option linter.unusedSimpArgs false
set_option maxRecDepth 100000
namespace Go.Proofs.YtfkgdlfponfimaaGreat.X
open Go Go.RowKit WM
structure A2 where
  a : Int
  b : Int
def A2.enc (x : A2) : AVal := .agg [.int .u64 x.a, .int .u64 x.b]
def A2.Q (x : A2) (n : Nat) : Prop := Open.QSt (Open.QPair (Open.QInt .u64) (Open.QInt .u64)) (x.a, x.b) n
theorem A2.ok {a : A2} {n : Nat} (h : A2.Q a n) : (0 ≤ a.a ∧ a.a ≤ 18446744073709551615) ∧ (0 ≤ a.b ∧ a.b ≤ 18446744073709551615) := by
  obtain ⟨mm, hm, ⟨m0, k0, e0, h0, h1⟩⟩ := h
  exact ⟨(in_u64 h0), (in_u64 h1)⟩
theorem A2.Q_mono {a : A2} {n m : Nat} (h : A2.Q a n) (hm : n ≤ m) : A2.Q a m := let ⟨k, h1, h2⟩ := h; ⟨k, Nat.le_trans h1 hm, h2⟩
theorem A2.Q.pos {a : A2} {n : Nat} (h : A2.Q a n) : 1 ≤ n := let ⟨k, h1, _⟩ := h; by omega
def Tk.Q (x : Tk) (n : Nat) : Prop := Open.QSt (Open.QPair (Open.QInt .u64) (Open.QPair (Open.QInt .u64) (Open.QPair (Open.QInt .u64) (Open.QPair (Open.QInt .u64) (Open.QInt .u64))))) (x.tn, x.vo, x.ep, x.ri, x.tag) n
theorem Tk.ok {a : Tk} {n : Nat} (h : Tk.Q a n) : (0 ≤ a.tn ∧ a.tn ≤ 18446744073709551615) ∧ (0 ≤ a.vo ∧ a.vo ≤ 18446744073709551615) ∧ (0 ≤ a.ep ∧ a.ep ≤ 18446744073709551615) ∧ (0 ≤ a.ri ∧ a.ri ≤ 18446744073709551615) ∧ (0 ≤ a.tag ∧ a.tag ≤ 18446744073709551615) := by
  obtain ⟨mm, hm, ⟨m0, k0, e0, h0, ⟨m1, k1, e1, h1, ⟨m2, k2, e2, h2, ⟨m3, k3, e3, h3, h4⟩⟩⟩⟩⟩ := h
  exact ⟨(in_u64 h0), (in_u64 h1), (in_u64 h2), (in_u64 h3), (in_u64 h4)⟩
theorem Tk.Q_mono {a : Tk} {n m : Nat} (h : Tk.Q a n) (hm : n ≤ m) : Tk.Q a m := let ⟨k, h1, h2⟩ := h; ⟨k, Nat.le_trans h1 hm, h2⟩
theorem Tk.Q.pos {a : Tk} {n : Nat} (h : Tk.Q a n) : 1 ≤ n := let ⟨k, h1, _⟩ := h; by omega
def Cm.Q (x : Cm) (n : Nat) : Prop := Open.QSt (Open.QPair (Open.QInt .i64) (Open.QPair Tk.Q (Open.QPair (Open.QInt .u64) (Open.QPair (Open.QInt .u64) (Open.QPair (Open.QInt .u64) (Open.QPair (Open.QInt .u64) Open.QStr)))))) (x.d, x.t, x.vo, x.se, x.a, x.b, x.lf) n
theorem Cm.ok {a : Cm} {n : Nat} (h : Cm.Q a n) : (-9223372036854775808 ≤ a.d ∧ a.d ≤ 9223372036854775807) ∧ Tk.Q a.t n ∧ (0 ≤ a.vo ∧ a.vo ≤ 18446744073709551615) ∧ (0 ≤ a.se ∧ a.se ≤ 18446744073709551615) ∧ (0 ≤ a.a ∧ a.a ≤ 18446744073709551615) ∧ (0 ≤ a.b ∧ a.b ≤ 18446744073709551615) ∧ a.lf.size + 1 ≤ n := by
  obtain ⟨mm, hm, ⟨m0, k0, e0, h0, ⟨m1, k1, e1, h1, ⟨m2, k2, e2, h2, ⟨m3, k3, e3, h3, ⟨m4, k4, e4, h4, ⟨m5, k5, e5, h5, h6⟩⟩⟩⟩⟩⟩⟩ := h
  exact ⟨(in_i64 h0), (Tk.Q_mono h1 (by omega)), (in_u64 h2), (in_u64 h3), (in_u64 h4), (in_u64 h5), (Nat.le_trans h6.2 (by omega))⟩
theorem Cm.Q_mono {a : Cm} {n m : Nat} (h : Cm.Q a n) (hm : n ≤ m) : Cm.Q a m := let ⟨k, h1, h2⟩ := h; ⟨k, Nat.le_trans h1 hm, h2⟩
theorem Cm.Q.pos {a : Cm} {n : Nat} (h : Cm.Q a n) : 1 ≤ n := let ⟨k, h1, _⟩ := h; by omega
def Vo.Q (x : Vo) (n : Nat) : Prop := Open.QSt (Open.QPair (Open.QInt .u64) (Open.QPair (Open.QInt .u64) (Open.QPair (Open.QInt .u64) (Open.QPair (Open.QInt .i64) (Open.QSl Open.QStr))))) (x.vo, x.tn, x.ep, x.de, x.lv) n
theorem Vo.ok {a : Vo} {n : Nat} (h : Vo.Q a n) : (0 ≤ a.vo ∧ a.vo ≤ 18446744073709551615) ∧ (0 ≤ a.tn ∧ a.tn ≤ 18446744073709551615) ∧ (0 ≤ a.ep ∧ a.ep ≤ 18446744073709551615) ∧ (-9223372036854775808 ≤ a.de ∧ a.de ≤ 9223372036854775807) ∧ (a.lv.length + 1 ≤ n ∧ (a.lv.map ByteArray.size).sum + 1 ≤ n ∧ ∀ x ∈ a.lv, x.size + 1 ≤ n) := by
  obtain ⟨mm, hm, ⟨m0, k0, e0, h0, ⟨m1, k1, e1, h1, ⟨m2, k2, e2, h2, ⟨m3, k3, e3, h3, h4⟩⟩⟩⟩⟩ := h
  exact ⟨(in_u64 h0), (in_u64 h1), (in_u64 h2), (in_i64 h3), (⟨Nat.le_trans (qsl_len h4 (fun _ _ h => Nat.le_trans (by omega) h.2)) (by omega), Nat.le_trans (qsl_sum (f := ByteArray.size) (fun _ _ h => Nat.le_trans (by omega) h.2) h4) (by omega), fun x hx => let ⟨_, h⟩ := qsl_mem h4 x hx; Nat.le_trans h.2.2 (by omega)⟩)⟩
theorem Vo.Q_mono {a : Vo} {n m : Nat} (h : Vo.Q a n) (hm : n ≤ m) : Vo.Q a m := let ⟨k, h1, h2⟩ := h; ⟨k, Nat.le_trans h1 hm, h2⟩
theorem Vo.Q.pos {a : Vo} {n : Nat} (h : Vo.Q a n) : 1 ≤ n := let ⟨k, h1, _⟩ := h; by omega
def SE.Se.Q (x : SE.Se) (n : Nat) : Prop := Open.QSt (Open.QPair (Open.QInt .u64) (Open.QPair (Open.QInt .u64) Open.QStr)) (x.id, x.nr, x.an) n
theorem SE.Se.ok {a : SE.Se} {n : Nat} (h : SE.Se.Q a n) : (0 ≤ a.id ∧ a.id ≤ 18446744073709551615) ∧ (0 ≤ a.nr ∧ a.nr ≤ 18446744073709551615) ∧ a.an.size + 1 ≤ n := by
  obtain ⟨mm, hm, ⟨m0, k0, e0, h0, ⟨m1, k1, e1, h1, h2⟩⟩⟩ := h
  exact ⟨(in_u64 h0), (in_u64 h1), (Nat.le_trans h2.2 (by omega))⟩
theorem SE.Se.Q_mono {a : SE.Se} {n m : Nat} (h : SE.Se.Q a n) (hm : n ≤ m) : SE.Se.Q a m := let ⟨k, h1, h2⟩ := h; ⟨k, Nat.le_trans h1 hm, h2⟩
theorem SE.Se.Q.pos {a : SE.Se} {n : Nat} (h : SE.Se.Q a n) : 1 ≤ n := let ⟨k, h1, _⟩ := h; by omega
def Qu.Q (x : Qu) (n : Nat) : Prop := Open.QSt (Open.QPair (Open.QInt .u64) (Open.QPair (Open.QInt .u64) (Open.QInt .u64))) (x.tn, x.us, x.li) n
theorem Qu.ok {a : Qu} {n : Nat} (h : Qu.Q a n) : (0 ≤ a.tn ∧ a.tn ≤ 18446744073709551615) ∧ (0 ≤ a.us ∧ a.us ≤ 18446744073709551615) ∧ (0 ≤ a.li ∧ a.li ≤ 18446744073709551615) := by
  obtain ⟨mm, hm, ⟨m0, k0, e0, h0, ⟨m1, k1, e1, h1, h2⟩⟩⟩ := h
  exact ⟨(in_u64 h0), (in_u64 h1), (in_u64 h2)⟩
theorem Qu.Q_mono {a : Qu} {n m : Nat} (h : Qu.Q a n) (hm : n ≤ m) : Qu.Q a m := let ⟨k, h1, h2⟩ := h; ⟨k, Nat.le_trans h1 hm, h2⟩
theorem Qu.Q.pos {a : Qu} {n : Nat} (h : Qu.Q a n) : 1 ≤ n := let ⟨k, h1, _⟩ := h; by omega
def Ck.Q (x : Ck) (n : Nat) : Prop := Open.QSt (Open.QPair (Open.QSl Vo.Q) (Open.QPair (Open.QSl SE.Se.Q) (Open.QSl Qu.Q))) (x.vs, x.ss, x.qs) n
theorem Ck.ok {a : Ck} {n : Nat} (h : Ck.Q a n) : (a.vs.length + 1 ≤ n ∧ ∀ x ∈ a.vs, Vo.Q x n) ∧ (a.ss.length + 1 ≤ n ∧ ∀ x ∈ a.ss, SE.Se.Q x n) ∧ (a.qs.length + 1 ≤ n ∧ ∀ x ∈ a.qs, Qu.Q x n) := by
  obtain ⟨mm, hm, ⟨m0, k0, e0, h0, ⟨m1, k1, e1, h1, h2⟩⟩⟩ := h
  exact ⟨(⟨Nat.le_trans (qsl_len h0 (fun _ _ h => h.pos)) (by omega), fun x hx => let ⟨_, h⟩ := qsl_mem h0 x hx; Vo.Q_mono h.2 (by omega)⟩), (⟨Nat.le_trans (qsl_len h1 (fun _ _ h => h.pos)) (by omega), fun x hx => let ⟨_, h⟩ := qsl_mem h1 x hx; SE.Se.Q_mono h.2 (by omega)⟩), (⟨Nat.le_trans (qsl_len h2 (fun _ _ h => h.pos)) (by omega), fun x hx => let ⟨_, h⟩ := qsl_mem h2 x hx; Qu.Q_mono h.2 (by omega)⟩)⟩
theorem Ck.Q_mono {a : Ck} {n m : Nat} (h : Ck.Q a n) (hm : n ≤ m) : Ck.Q a m := let ⟨k, h1, h2⟩ := h; ⟨k, Nat.le_trans h1 hm, h2⟩
theorem Ck.Q.pos {a : Ck} {n : Nat} (h : Ck.Q a n) : 1 ≤ n := let ⟨k, h1, _⟩ := h; by omega
def Stp.Q (x : Stp) (n : Nat) : Prop := Open.QSt (Open.QPair (Open.QInt .u64) (Open.QPair (Open.QInt .u64) (Open.QPair Cm.Q Open.QStr))) (x.id, x.nr, x.m, x.raw) n
theorem Stp.ok {a : Stp} {n : Nat} (h : Stp.Q a n) : (0 ≤ a.id ∧ a.id ≤ 18446744073709551615) ∧ (0 ≤ a.nr ∧ a.nr ≤ 18446744073709551615) ∧ Cm.Q a.m n ∧ a.raw.size + 1 ≤ n := by
  obtain ⟨mm, hm, ⟨m0, k0, e0, h0, ⟨m1, k1, e1, h1, ⟨m2, k2, e2, h2, h3⟩⟩⟩⟩ := h
  exact ⟨(in_u64 h0), (in_u64 h1), (Cm.Q_mono h2 (by omega)), (Nat.le_trans h3.2 (by omega))⟩
theorem Stp.Q_mono {a : Stp} {n m : Nat} (h : Stp.Q a n) (hm : n ≤ m) : Stp.Q a m := let ⟨k, h1, h2⟩ := h; ⟨k, Nat.le_trans h1 hm, h2⟩
theorem Stp.Q.pos {a : Stp} {n : Nat} (h : Stp.Q a n) : 1 ≤ n := let ⟨k, h1, _⟩ := h; by omega
def Py.Q (x : Py) (n : Nat) : Prop := Open.QSt (Open.QPair Ck.Q (Open.QPair (Open.QSl (Open.QInt .u64)) (Open.QPair (Open.QInt .u64) (Open.QPair (Open.QSl Tk.Q) (Open.QSl Stp.Q))))) (x.c, x.d, x.key, x.iss, x.l) n
theorem Py.ok {a : Py} {n : Nat} (h : Py.Q a n) : Ck.Q a.c n ∧ (a.d.length + 1 ≤ n ∧ ∀ x ∈ a.d, 0 ≤ x ∧ x ≤ 18446744073709551615) ∧ (0 ≤ a.key ∧ a.key ≤ 18446744073709551615) ∧ (a.iss.length + 1 ≤ n ∧ ∀ x ∈ a.iss, Tk.Q x n) ∧ (a.l.length + 1 ≤ n ∧ ∀ x ∈ a.l, Stp.Q x n) := by
  obtain ⟨mm, hm, ⟨m0, k0, e0, h0, ⟨m1, k1, e1, h1, ⟨m2, k2, e2, h2, ⟨m3, k3, e3, h3, h4⟩⟩⟩⟩⟩ := h
  exact ⟨(Ck.Q_mono h0 (by omega)), (⟨Nat.le_trans (qsl_len h1 (fun _ _ h => h.2)) (by omega), fun x hx => let ⟨_, h⟩ := qsl_mem h1 x hx; in_u64 h.2⟩), (in_u64 h2), (⟨Nat.le_trans (qsl_len h3 (fun _ _ h => h.pos)) (by omega), fun x hx => let ⟨_, h⟩ := qsl_mem h3 x hx; Tk.Q_mono h.2 (by omega)⟩), (⟨Nat.le_trans (qsl_len h4 (fun _ _ h => h.pos)) (by omega), fun x hx => let ⟨_, h⟩ := qsl_mem h4 x hx; Stp.Q_mono h.2 (by omega)⟩)⟩
theorem Py.Q_mono {a : Py} {n m : Nat} (h : Py.Q a n) (hm : n ≤ m) : Py.Q a m := let ⟨k, h1, h2⟩ := h; ⟨k, Nat.le_trans h1 hm, h2⟩
theorem Py.Q.pos {a : Py} {n : Nat} (h : Py.Q a n) : 1 ≤ n := let ⟨k, h1, _⟩ := h; by omega
structure Ck.fits (c : Ck) : Prop where
  v : ∀ y ∈ c.vs, U64 y.vo ∧ U64 y.tn ∧ U64 y.ep
  s : ∀ y ∈ c.ss, y.fit
  q : Fit c.qs
  b : ∀ y ∈ c.ss, y.an.size ≤ 1048576
  l : ∀ y ∈ c.vs, sumB y.lv ≤ 1048576
  d : ∀ y ∈ c.vs, -9223372036854775808 ≤ y.de ∧ y.de ≤ 9223372036854775807
theorem ck_of {c : Ck} {n : Nat} (h : Ck.Q c n) (hn : n ≤ 1048576) : c.sz ∧ c.fits := by
  obtain ⟨⟨h1, h2⟩, ⟨h3, h4⟩, h5, h6⟩ := Ck.ok h
  refine ⟨⟨by omega, by omega, by omega, fun x hx => ?_⟩, fun x hx => ?_, fun x hx => ?_, fun x hx => ?_, fun x hx => ?_, fun x hx => ?_, fun x hx => ?_⟩
  · have := (Vo.ok (h2 x hx)).2.2.2.2.1; omega
  · have := Vo.ok (h2 x hx); exact ⟨this.1, this.2.1, this.2.2.1⟩
  · have := SE.Se.ok (h4 x hx); exact ⟨this.1, this.2.1⟩
  · exact Qu.ok (h6 x hx)
  · have := (SE.Se.ok (h4 x hx)).2.2; omega
  · have := (Vo.ok (h2 x hx)).2.2.2.2.2.1; unfold sumB; omega
  exact (Vo.ok (h2 x hx)).2.2.2.1
theorem cm_of {m : Cm} {n : Nat} (h : Cm.Q m n) (hn : n ≤ 1048576) : m.fit ∧ m.lf.size ≤ 1048576 := by
  obtain ⟨h1, h2, h3, h4, h5, h6, h7⟩ := Cm.ok h
  exact ⟨⟨h1, Tk.ok h2, h3, h4, h5, h6, by omega⟩, by omega⟩
end Go.Proofs.YtfkgdlfponfimaaGreat.X

/- Layer 13: texts of states. -/
set_option linter.unusedVariables false
set_option linter.unusedSimpArgs false
set_option maxRecDepth 100000
namespace Go.Proofs.YtfkgdlfponfimaaGreat.X
open Go Go.RowKit WM
variable {ν : Nm} {H : Heap} {Q : AVal → Heap → Prop} {c : Ck}
def Cod.sub {α : Type} (c : Cod α) (p : α → Prop) [DecidablePred p] : Cod α where
  enc := c.enc
  ok a := c.ok a ∧ p a
  tk s := match c.tk s with
    | some (a, r) => if p a then some (a, r) else none
    | none => none
  iff s a r := by
    constructor
    · intro h
      cases h1 : c.tk s with
      | none => rw [h1] at h; cases h
      | some q =>
        obtain ⟨b, q⟩ := q
        rw [h1] at h
        simp only at h
        split at h
        · rename_i hp
          simp only [Option.some.injEq, Prod.mk.injEq] at h
          obtain ⟨rfl, rfl⟩ := h
          obtain ⟨k1, k2⟩ := (c.iff _ _ _).1 h1
          exact ⟨⟨k1, hp⟩, k2⟩
        cases h
    rintro ⟨⟨h1, h2⟩, rfl⟩
    rw [c.back h1]
    simp only [h2, if_true]
def cL16 : Cod (List ByteArray) := cX.list 16 (by decide)
def cVo : Cod Vo := (cI.pair (cI.pair (cI.pair ((Cod.sub cI fun d => d ≤ 4).pair cL16)))).iso (fun p => ⟨p.1, p.2.1, p.2.2.1, p.2.2.2.1, p.2.2.2.2⟩) (fun x => (x.vo, x.tn, x.ep, x.de, x.lv)) (fun _ => rfl) (fun _ => rfl)
theorem cVo_tk (s : List UInt8) : cVo.tk s = match cI.manyT 4 s with
    | some ([a, b, c, d], r) => if d ≤ 4 then (match cL16.tk r with
      | some (l, q) => some (⟨a, b, c, d, l⟩, q)
      | none => none) else none
    | _ => none := by
  unfold cVo Cod.iso Cod.pair Cod.sub
  simp only [Cod.manyT]
  cases h1 : cI.tk s with
  | none => rfl
  | some p1 =>
    obtain ⟨a, r1⟩ := p1
    simp only
    cases h2 : cI.tk r1 with
    | none => rfl
    | some p2 =>
      obtain ⟨b, r2⟩ := p2
      simp only
      cases h3 : cI.tk r2 with
      | none => rfl
      | some p3 =>
        obtain ⟨c, r3⟩ := p3
        simp only
        cases h4 : cI.tk r3 with
        | none => rfl
        | some p4 =>
          obtain ⟨d, r4⟩ := p4
          simp only
          by_cases hd : d ≤ 4
          · simp only [hd, if_true]
            cases h5 : cL16.tk r4 with
            | none => rfl
            | some p5 => obtain ⟨l, q⟩ := p5; rfl
          simp only [hd, if_false]
theorem resL_tk (s : ByteArray) : resL 16 s = match cL16.tk s.data.toList with
    | some (l, q) => (l, ba q, true)
    | none => noL := by
  unfold resL cL16 Cod.list
  simp only
  cases h1 : takeU 64 s.data.toList with
  | none => rfl
  | some p =>
    obtain ⟨n, r⟩ := p
    simp only
    by_cases hn : n ≤ 16
    · rw [if_pos hn, if_pos (by omega)]
      all_goals
        cases cX.manyT n r with
        | none => rfl
        | some q => obtain ⟨l, q⟩ := q; rfl
    rw [if_neg hn, if_neg (by omega)]
def Vo.w (x : Vo) : Vo := ⟨x.vo, x.tn, x.ep, IntKind.u64.wrap x.de, x.lv⟩
theorem Vo.good.w {x : Vo} (h : x.good) : x.w = x := by
  obtain ⟨a, b, c, d, e⟩ := x
  have h2 : 0 ≤ d ∧ d ≤ 4 := h.de
  show Vo.mk a b c (IntKind.u64.wrap d) e = _
  rw [IntWalk.u64_in _ (show 0 ≤ d ∧ d ≤ 18446744073709551615 by omega)]
def encV (vs : List Vo) (i : Nat) : List UInt8 := encU vs.length ++ ((vs.take i).map fun x => cVo.enc x.w).flatten
def textC (c : Ck) : ByteArray := ba (encV c.vs c.vs.length) ++ (encS (SE.textS c.ss) ++ encS (textS c.qs))
def volW (vs : List Vo) : Nat := (vs.map fun v => 10 * v.lv.length + sumB v.lv).sum
theorem volW_take (vs : List Vo) (i : Nat) : volW (vs.take i) ≤ volW vs := by
  induction vs generalizing i with
  | nil => simp
  | cons x r ih =>
    cases i with
    | zero => simp [volW]
    | succ i => have := ih i; simp only [List.take_succ_cons, volW, List.map_cons, List.sum_cons] at *; omega
theorem volW_mem {vs : List Vo} {x : Vo} (h : x ∈ vs) : 10 * x.lv.length + sumB x.lv ≤ volW vs := by
  induction vs with
  | nil => simp at h
  | cons y r ih =>
    simp only [volW, List.map_cons, List.sum_cons] at *
    rcases List.mem_cons.1 h with rfl | h
    · omega
    have := ih h; omega
theorem cVo_enc (x : Vo) : ba (cVo.enc x.w) = ba (encU x.vo.toNat) ++ ba (encU x.tn.toNat) ++ ba (encU x.ep.toNat) ++ ba (encU (IntKind.u64.wrap x.de).toNat) ++ textL x.lv := by
  rw [textL, ba_append, ba_append, ba_append, ba_append, List.append_assoc, List.append_assoc, List.append_assoc]; rfl
structure Ck.tz (c : Ck) : Prop where
  v : c.vs.length ≤ 1048577
  vo : ∀ y ∈ c.vs, U64 y.vo ∧ U64 y.tn ∧ U64 y.ep
  l : ∀ y ∈ c.vs, y.lv.length ≤ 1048576 ∧ sumB y.lv ≤ 1073741824
  w : volW c.vs ≤ 1073741824
  s : c.ss.length ≤ 1048576
  sf : ∀ x ∈ c.ss, x.fit
  sa : SE.sumA c.ss ≤ 1073741824
  q : c.qs.length ≤ 1048576
  qf : Fit c.qs
theorem cVo_len {x : Vo} (h : U64 x.vo ∧ U64 x.tn ∧ U64 x.ep) (hl : x.lv.length ≤ 1048576) (hs : sumB x.lv ≤ 1073741824) : (cVo.enc x.w).length ≤ 50 + (10 * x.lv.length + sumB x.lv) := by
  have h1 := encU_i h.1; have h2 := encU_i h.2.1; have h3 := encU_i h.2.2; have h4 := encU_i (u64_wr x.de); have h5 := textL_size hl hs
  have := congrArg ByteArray.size (cVo_enc x)
  rw [ba_size] at this
  rw [this]
  simp only [ss]; omega
theorem encV_len {c : Ck} (h : c.tz) (i : Nat) : (encV c.vs i).length ≤ 10 + (50 * c.vs.length + volW c.vs) := by
  have key : ∀ (vs : List Vo), (∀ y ∈ vs, U64 y.vo ∧ U64 y.tn ∧ U64 y.ep) → (∀ y ∈ vs, y.lv.length ≤ 1048576 ∧ sumB y.lv ≤ 1073741824) → ((vs.map fun x => cVo.enc x.w).flatten).length ≤ 50 * vs.length + volW vs := by
    intro vs
    induction vs with
    | nil => intro _ _; simp
    | cons x r ih =>
      intro h1 h2
      have h3 := ih (fun y hy => h1 y (by simp [hy])) (fun y hy => h2 y (by simp [hy]))
      have h4 := cVo_len (h1 x (by simp)) (h2 x (by simp)).1 (h2 x (by simp)).2
      simp only [List.map_cons, List.flatten_cons, List.length_append, List.length_cons, volW, List.sum_cons] at *
      omega
  have h1 := key (c.vs.take i) (fun y hy => h.vo y (List.mem_of_mem_take hy)) (fun y hy => h.l y (List.mem_of_mem_take hy))
  have h2 := volW_take c.vs i
  have h3 := encU_le10 (n := c.vs.length) (by have := h.v; omega)
  rw [List.length_take] at h1
  unfold encV
  rw [List.length_append]; omega
theorem encV_step {vs : List Vo} {i : Nat} (hi : i < vs.length) : ba (encV vs i) ++ (ba (encU vs[i].vo.toNat) ++ ba (encU vs[i].tn.toNat) ++ ba (encU vs[i].ep.toNat) ++ ba (encU (IntKind.u64.wrap vs[i].de).toNat) ++ textL vs[i].lv) = ba (encV vs (i + 1)) := by
  rw [← cVo_enc, ba_append]
  congr 1
  unfold encV
  rw [List.take_succ_eq_append_getElem hi, List.map_append, List.flatten_append]; simp
theorem encV_0 (vs : List Vo) : ba (encU vs.length) = ba (encV vs 0) := by simp [encV]
theorem sT_size {c : Ck} (h : c.tz) : (SE.textS c.ss).size ≤ 2147483648 := by
  have h1 := SE.flat_len (t := c.ss) fun x hx => ⟨h.sf x hx, by have := SE.sumA_mem hx; have := h.sa; omega⟩
  have h2 := encU_le10 (n := c.ss.length) (by have := h.s; omega)
  have h3 := h.s; have h4 := h.sa
  unfold SE.textS
  rw [ba_size, List.length_append]; omega
theorem qT_size {c : Ck} (h : c.tz) : (textS c.qs).size ≤ 2147483648 := by
  have h1 := flat_len h.qf
  have h2 := encU_le10 (n := c.qs.length) (by have := h.q; omega)
  have h3 := h.q
  unfold textS
  rw [ba_size, List.length_append]; omega
theorem p_textC (h : c.tz) (hq : Q (.str (textC c)) H) : CW cfg ν 26 [c.enc] H Q := by
  have hv := h.v; have hw := h.w
  have hB := encV_len h
  have hB0 := hB 0
  have hs := sT_size h; have hqs := qT_size h
  have hs2 := encS_size (s := SE.textS c.ss) (by omega)
  have hq2 := encS_size (s := textS c.qs) (by omega)
  have hz : (⟨#[]⟩ : ByteArray).size + (ba (encU ((c.vs.length : Nat) : Int).toNat)).size ≤ 1099511627776 := by have := encU_i (a := (c.vs.length : Int)) (by omega); show 0 + _ ≤ _; omega
  refine CW_pure g26 F26 rfl ?_
  have hS0 : Own ν ν (fun _ => none) [] := Own.nil
  refine XW_sr ?_
  refine OW_boxR hS0 (le_app (p := ν) (b := [0, 0])) (under_app [0, 0] under_me) rfl rfl rfl ⟨rfl, rfl⟩ fun H1 hS1 => ?_
  replace hS1 : Own _ _ _ ([_]) := hS1
  refine OW_as rfl rfl ?_
  refine EZ52 rfl ?_
  refine XW_sr ?_
  refine OW_allocB hS1 (le_lit (ν := ν) (a := [1, 0]) (b := [0, 0, 1]) (by decide)) (under_app [0, 0, 1] under_me) rfl rfl rfl fun H2 hS2 => ?_
  replace hS2 : Own _ _ _ ([_, _]) := hS2
  refine EZ52 rfl ?_
  refine XW_sr (OW_fa rfl rfl rfl ?_)
  refine OW_loadR hS2 (k := 1) rfl rfl rfl rfl rfl (by rfl) ?_
  refine OW_lenL rfl rfl (by exact Ls.of) rfl rfl rfl (by exact List.length_map _) ?_
  refine OW_env (e' := [_,_,_,_,_,_,_,_,_,_,_,_,_,_,_,_,_,_,_,_,_,_,_,_,_,_,_,_,_,_,_,_,_,_,_,_,_,_,_,_,_,_,_,_,_,_,_,_,_,_,_,_]) rfl ?_
  refine OW_conv rfl rfl (conv_in rfl rfl rfl (IntWalk.u64_in _ (by omega))) ?_
  refine OW_fn rfl rfl (putUi (by omega) ?_) 
  refine OW_fn rfl rfl (W_write rfl hS2 (k := 0) rfl (le_lit (ν := ν) (a := [1, 0, 1]) (b := [5, 0, 1, 1]) (by decide)) (before_lit (ν := ν) (a := [5, 0, 1, 1]) (b := [6, 0, 1, 1]) (by decide)) (by omega) fun H3 hS3 => ?_) 
  replace hS3 : Own _ _ _ ([_, _]) := hS3
  refine EZ52 rfl ?_
  refine XW_seq (XW_sr (OW_fa rfl rfl rfl ?_))
  refine OW_loadR hS3 (k := 1) rfl rfl rfl rfl rfl (by rfl) ?_
  refine OW_lenL rfl rfl (by exact Ls.of) rfl rfl rfl (by exact List.length_map _) ?_
  refine OW_env (e' := [_,_,_,_,_,_,_,_,_,_,_,_,_,_,_,_,_,_,_,_,_,_,_,_,_,_,_,_,_,_,_,_,_,_,_,_,_,_,_,_,_,_,_,_,_,_,_,_,_,_,_,_]) rfl ?_
  refine OW_mv rfl rfl ?_
  refine EZ52 rfl ?_
  refine XW_block ?_
  refine XW_whileN (I := fun ν' mm ee H' => ∃ (i : Nat), mm = c.vs.length - i ∧ under (1 :: 0 :: 1 :: 1 :: 1 :: ν) ν' = true ∧ Own ν ν' H' ([bld (0 :: 0 :: 1 :: ν) (ba (encV c.vs i)), row (0 :: 0 :: ν) 3 [c.enc]]) ∧ (i ≤ c.vs.length) ∧ ∃ g : Nat → AVal, ee = [g 0, .ptr (0 :: 0 :: ν) 0 0, g 2, .ptr (0 :: 0 :: 1 :: ν) 0 0, g 4, g 5, g 6, g 7, g 8, g 9, g 10, g 11, g 12, .lst (c.vs.map Vo.enc), .int .i64 c.vs.length, .int .i64 i, g 16, g 17, g 18, g 19, g 20, g 21, g 22, g 23, g 24, g 25, g 26, g 27, g 28, g 29, g 30, g 31, g 32, g 33, g 34, g 35, g 36, g 37, g 38, g 39, g 40, g 41, g 42, g 43, g 44, g 45, g 46, g 47, g 48, g 49, g 50, g 51]) ?_ _ _ _ _ ⟨0, rfl, under_me, Own.cast (Own.mono (hS3) (le_lit (ν := ν) (a := [6, 0, 1, 1]) (b := [1, 0, 1, 1, 1]) (by decide))) (by rw [Int.toNat_natCast, ← encV_0]; rfl), (by omega), env_g rfl⟩
  rintro ν1 mm ee H4 ⟨i, rfl, hU1, hS4, hi, g1, rfl⟩
  refine XW_sr ?_
  refine OW_bin rfl rfl rfl rfl rfl ?_
  refine EZ52 rfl ?_
  refine XW_seq ?_
  refine XW_if rfl (fun h4 => ?_) (fun h4 => ?_)
  ·try simp only [bs] at h4
   refine XW_skip (then_norm (XW_seq (XW_block (XW_sr ?_))))
   have hvo := h.vo c.vs[i] (List.getElem_mem (by omega)); have hvl := h.l c.vs[i] (List.getElem_mem (by omega)); have hvl1 := hvl.1; have hvl2 := hvl.2; have hBi := hB i
   have z1 := encU_i hvo.1; have z2 := encU_i hvo.2.1; have z3 := encU_i hvo.2.2; have z4 := encU_i (u64_wr c.vs[i].de); have z5 := textL_size hvl1 hvl2; have z6 := volW_mem (List.getElem_mem (l := c.vs) (n := i) (by omega))
   refine OW_iaL rfl rfl rfl Ls.of rfl rfl rfl (by rfl) (by exact at_map (by omega)) rfl ?_
   refine OW_loadE rfl rfl rfl (by exact part_whole rfl rfl rfl) ?_
   refine OW_allocR hS4 (le_app (p := ν1) (b := [2, 0, 0, 1, 1, 0])) (under_app [2, 0, 0, 1, 1, 0] (under_trans (under_app [1, 0, 1, 1, 1] under_me) hU1)) rfl rfl rfl rfl fun H5 hS5 => ?_
   replace hS5 : Own _ _ _ ([_, _, _]) := hS5
   refine OW_env (e' := [_,_,_,_,_,_,_,_,_,_,_,_,_,_,_,_,_,_,_,_,_,_,_,_,_,_,_,_,_,_,_,_,_,_,_,_,_,_,_,_,_,_,_,_,_,_,_,_,_,_,_,_]) rfl ?_
   refine OW_storeR hS5 (k := 0) rfl le_refl rfl rfl rfl rfl ⟨rfl, rfl, Nat.le_of_ble_eq_true rfl⟩ (u2 := .agg [_, _, _, _, _]) rfl fun H6 hS6 => ?_
   replace hS6 : Own _ _ _ ([_, _, _]) := hS6
   refine EZ52 rfl ?_
   refine XW_regionF (qs := [2 :: 0 :: 0 :: 1 :: 1 :: 0 :: ν1]) rfl rfl ?_
   have hSF1 : Own _ _ _ ([_, _, _]) := (Own.hide (Own.hide0 hS6) (k := 0) rfl)
   refine OWF_op rfl (OW_fa rfl rfl rfl (OW_nil (OWF_fl rfl ?_)))
   refine OW_loadK hS6 (k := 0) rfl (by simp) rfl rfl rfl rfl (by rfl) ?_
   refine OW_nil (OWF_op rfl ?_)
   refine OW_fn rfl rfl (putUi (by omega) ?_) 
   refine OW_nil ?_
   refine OWF_env (e' := [_,_,_,_,_,_,_,_,_,_,_,_,_,_,_,_,_,_,_,_,_,_,_,_,_,_,_,_,_,_,_,_,_,_,_,_,_,_,_,_,_,_,_,_,_,_,_,_,_,_,_,_]) rfl ?_
   refine OWF_op rfl (OW_fa rfl rfl rfl (OW_nil (OWF_fl rfl ?_)))
   refine OW_loadK hS6 (k := 0) rfl (by simp) rfl rfl rfl rfl (by rfl) ?_
   refine OW_nil (OWF_op rfl ?_)
   refine OW_fn rfl rfl (putUi (by omega) ?_) 
   refine OW_nil ?_
   refine OWF_env (e' := [_,_,_,_,_,_,_,_,_,_,_,_,_,_,_,_,_,_,_,_,_,_,_,_,_,_,_,_,_,_,_,_,_,_,_,_,_,_,_,_,_,_,_,_,_,_,_,_,_,_,_,_]) rfl ?_
   refine OWF_op rfl ?_
   refine OW_bin rfl rfl rfl rfl (cat (by omega)) ?_
   refine OW_nil (OWF_op rfl (OW_fa rfl rfl rfl (OW_nil (OWF_fl rfl ?_))))
   refine OW_loadK hS6 (k := 0) rfl (by simp) rfl rfl rfl rfl (by rfl) ?_
   refine OW_nil ?_
   refine OWF_env (e' := [_,_,_,_,_,_,_,_,_,_,_,_,_,_,_,_,_,_,_,_,_,_,_,_,_,_,_,_,_,_,_,_,_,_,_,_,_,_,_,_,_,_,_,_,_,_,_,_,_,_,_,_]) rfl ?_
   refine OWF_op rfl ?_
   refine OW_fn rfl rfl (putUi (by omega) ?_) 
   refine OW_nil (OWF_op rfl ?_)
   refine OW_bin rfl rfl rfl rfl (cat (by (simp only [ss]; omega))) ?_
   refine OW_nil (OWF_op rfl (OW_fa rfl rfl rfl (OW_nil ?_)))
   refine OWF_env (e' := [_,_,_,_,_,_,_,_,_,_,_,_,_,_,_,_,_,_,_,_,_,_,_,_,_,_,_,_,_,_,_,_,_,_,_,_,_,_,_,_,_,_,_,_,_,_,_,_,_,_,_,_]) rfl ?_
   refine OWF_fl rfl ?_
   refine OW_loadK hS6 (k := 0) rfl (by simp) rfl rfl rfl rfl (by rfl) ?_
   refine OW_nil (OWF_op rfl ?_)
   refine OW_conv rfl rfl rfl ?_
   refine OW_nil (OWF_op rfl ?_)
   refine OW_fn rfl rfl (putUi (u64_wr _) ?_) 
   refine OW_nil ?_
   refine OWF_env (e' := [_,_,_,_,_,_,_,_,_,_,_,_,_,_,_,_,_,_,_,_,_,_,_,_,_,_,_,_,_,_,_,_,_,_,_,_,_,_,_,_,_,_,_,_,_,_,_,_,_,_,_,_]) rfl ?_
   refine OWF_op rfl ?_
   refine OW_bin rfl rfl rfl rfl (cat (by (simp only [ss]; omega))) ?_
   refine OW_nil (OWF_op rfl (OW_fa rfl rfl rfl (OW_nil (OWF_fl rfl ?_))))
   refine OW_loadK hS6 (k := 0) rfl (by simp) rfl rfl rfl rfl (by rfl) ?_
   refine OW_nil ?_
   refine OWF_env (e' := [_,_,_,_,_,_,_,_,_,_,_,_,_,_,_,_,_,_,_,_,_,_,_,_,_,_,_,_,_,_,_,_,_,_,_,_,_,_,_,_,_,_,_,_,_,_,_,_,_,_,_,_]) rfl ?_
   refine OWF_op rfl ?_
   refine OW_fn rfl rfl (putL Ls.of hvl1 hvl2 ?_) 
   refine OW_nil (OWF_op rfl ?_)
   refine OW_bin rfl rfl rfl rfl (cat (by (simp only [ss]; omega))) ?_
   refine OW_nil (OWF_op rfl ?_)
   refine OW_fn rfl rfl (W_write rfl hSF1 (k := 1) rfl (le_lit (ν := ν1) (a := [4, 0, 0, 1, 1, 0]) (b := [20, 1, 0, 1, 1, 0]) (by decide)) (before_lit (ν := ν1) (a := [20, 1, 0, 1, 1, 0]) (b := [21, 1, 0, 1, 1, 0]) (by decide)) (by (simp only [ByteArray.size_append, ba_size] at *; omega)) fun H7 hS7 => ?_) 
   replace hS7 : Own _ _ _ ([_, _, _]) := hS7
   refine OW_nil ?_
   refine OWF_nilE (e' := [_,_,_,_,_,_,_,_,_,_,_,_,_,_,_,_,_,_,_,_,_,_,_,_,_,_,_,_,_,_,_,_,_,_,_,_,_,_,_,_,_,_,_,_,_,_,_,_,_,_,_,_]) rfl ?_
   have hSB1 : Own _ _ _ ([_, _, _]) := (Own.back hS6 (k := 0) rfl (Own.back0 hS7) (k' := 0) rfl)
   refine block_norm (then_norm (XW_region ?_))
   refine OW_bin rfl rfl rfl rfl (add_w64 (by omega)) ?_
   refine OW_mv rfl rfl ?_
   refine EZ52 rfl ?_
   have hSd1 : Own _ _ _ ([_, _]) := (Own.drop hSB1 (k := 0) rfl)
   refine ⟨_, ?_, i + 1, rfl, under_in hU1, Own.cast (Own.mono (hSd1) (le_lit (ν := ν1) (a := [21, 1, 0, 1, 1, 0]) (b := [1]) (by decide))) (by rw [encV_step (by omega)]), ?_, env_g rfl⟩
   · omega
   omega
  try simp only [bs] at h4
  refine XW_exit (then_exit (block_exit (then_norm (XW_sr ?_))))
  have hBi := hB i
  refine OW_fa rfl rfl rfl ?_
  refine OW_loadR hS4 (k := 1) rfl rfl rfl rfl rfl (by rfl) ?_
  refine OW_fn rfl rfl (SE.p_text Ls.of h.s h.sf h.sa ?_) 
  refine OW_env (e' := [_,_,_,_,_,_,_,_,_,_,_,_,_,_,_,_,_,_,_,_,_,_,_,_,_,_,_,_,_,_,_,_,_,_,_,_,_,_,_,_,_,_,_,_,_,_,_,_,_,_,_,_]) rfl ?_
  refine OW_fn rfl rfl (putTx (by omega) ?_) 
  refine OW_fa rfl rfl rfl ?_
  refine OW_loadR hS4 (k := 1) rfl rfl rfl rfl rfl (by rfl) ?_
  refine OW_env (e' := [_,_,_,_,_,_,_,_,_,_,_,_,_,_,_,_,_,_,_,_,_,_,_,_,_,_,_,_,_,_,_,_,_,_,_,_,_,_,_,_,_,_,_,_,_,_,_,_,_,_,_,_]) rfl ?_
  refine OW_fn rfl rfl (p_text Ls.of (by have := h.q; omega) h.qf ?_) 
  refine OW_fn rfl rfl (putTx (by omega) ?_) 
  refine OW_bin rfl rfl rfl rfl (cat (by omega)) ?_
  refine OW_env (e' := [_,_,_,_,_,_,_,_,_,_,_,_,_,_,_,_,_,_,_,_,_,_,_,_,_,_,_,_,_,_,_,_,_,_,_,_,_,_,_,_,_,_,_,_,_,_,_,_,_,_,_,_]) rfl ?_
  refine OW_fn rfl rfl (W_write rfl hS4 (k := 0) rfl (le_bef (bef_under (a := []) hU1 (before_lit (ν := ν) (a := [1, 0, 1, 1, 1]) (b := [9, 0, 1, 1, 1, 1]) (by decide)))) (before_lit (ν := ν) (a := [9, 0, 1, 1, 1, 1]) (b := [10, 0, 1, 1, 1, 1]) (by decide)) (by (simp only [ByteArray.size_append, ba_size] at *; omega)) fun H8 hS8 => ?_) 
  replace hS8 : Own _ _ _ ([_, _]) := hS8
  refine EZ52 rfl ?_
  refine XW_sr ?_
  refine OW_fn rfl rfl (W_string rfl hS8 (k := 0) rfl (le_lit (ν := ν) (a := [10, 0, 1, 1, 1, 1]) (b := [0, 0, 1, 1, 1, 1, 1]) (by decide)) (before_lit (ν := ν) (a := [0, 0, 1, 1, 1, 1, 1]) (b := [1, 0, 1, 1, 1, 1, 1]) (by decide)) fun H9 hS9 => ?_) 
  replace hS9 : Own _ _ _ ([_]) := hS9
  refine OW_as rfl rfl ?_
  refine EZ52 rfl ?_
  refine XW_ret ?_
  refine ret_ret (res1 rfl (rv_tmp rfl)) (frz1 (Q := Q) (by exact freeze_plain rfl) ?_)
  refine qcast hq ?_; rw [show i = c.vs.length by omega]; rfl
theorem r_textC (h : c.tz) (hq : Q (.str (textC c)) H) : CW cfg ν 27 [c.enc] H Q := by
  have hv := h.v; have hw := h.w
  have hB := encV_len h
  have hB0 := hB 0
  have hs := sT_size h; have hqs := qT_size h
  have hs2 := encS_size (s := SE.textS c.ss) (by omega)
  have hq2 := encS_size (s := textS c.qs) (by omega)
  refine CW_pure g27 F27 rfl ?_
  have hS0 : Own ν ν (fun _ => none) [] := Own.nil
  refine XW_sr ?_
  refine OW_boxR hS0 (le_app (p := ν) (b := [0, 0])) (under_app [0, 0] under_me) rfl rfl rfl ⟨rfl, rfl⟩ fun H1 hS1 => ?_
  replace hS1 : Own _ _ _ ([_]) := hS1
  refine OW_as rfl rfl ?_
  refine EZ56 rfl ?_
  refine XW_sr (OW_fa rfl rfl rfl ?_)
  refine OW_loadR hS1 (k := 0) rfl rfl rfl rfl rfl (by rfl) ?_
  refine OW_lenL rfl rfl (by exact Ls.of) rfl rfl rfl (by exact List.length_map _) ?_
  refine EN56 rfl ?_
  refine OW_conv rfl rfl (conv_in rfl rfl rfl (IntWalk.u64_in _ (by omega))) ?_
  refine OW_fn rfl rfl (rputUi (by omega) ?_) 
  refine OW_as rfl rfl ?_
  refine EZ56 rfl ?_
  refine XW_seq (XW_sr ?_)
  rw [Int.toNat_natCast, encV_0]
  refine OW_as rfl rfl ?_
  refine EZ56 rfl ?_
  refine XW_block ?_
  refine XW_whileN (I := fun ν' mm ee H' => ∃ (i : Nat), mm = c.vs.length - i ∧ under (1 :: 0 :: 1 :: 1 :: ν) ν' = true ∧ Own ν ν' H' ([row (0 :: 0 :: ν) 3 [c.enc]]) ∧ (i ≤ c.vs.length) ∧ ∃ g : Nat → AVal, ee = [g 0, .ptr (0 :: 0 :: ν) 0 0, g 2, .str (ba (encV c.vs i)), .int .i64 i, g 5, g 6, g 7, g 8, g 9, g 10, g 11, g 12, g 13, g 14, g 15, g 16, g 17, g 18, g 19, g 20, g 21, g 22, g 23, g 24, g 25, g 26, g 27, g 28, g 29, g 30, g 31, g 32, g 33, g 34, g 35, g 36, g 37, g 38, g 39, g 40, g 41, g 42, g 43, g 44, g 45, g 46, g 47, g 48, g 49, g 50, g 51, g 52, g 53, g 54, g 55]) ?_ _ _ _ _ ⟨0, rfl, under_me, Own.cast (Own.mono (hS1) (le_lit (ν := ν) (a := [1, 0]) (b := [1, 0, 1, 1]) (by decide))) (rfl), (by omega), env_g rfl⟩
  rintro ν1 mm ee H2 ⟨i, rfl, hU1, hS2, hi, g1, rfl⟩
  refine XW_seq (XW_sr (OW_mv rfl rfl (OW_fa rfl rfl rfl ?_)))
  refine OW_loadR hS2 (k := 0) rfl rfl rfl rfl rfl (by rfl) ?_
  refine EN56 rfl ?_
  refine OW_lenL rfl rfl (by exact Ls.of) rfl rfl rfl (by exact List.length_map _) ?_
  refine OW_bin rfl rfl rfl rfl rfl ?_
  refine EZ56 rfl ?_
  refine XW_if rfl (fun h3 => ?_) (fun h3 => ?_)
  ·try simp only [bs] at h3
   refine XW_skip (then_norm (XW_seq (XW_block (XW_sr ?_))))
   have hvo := h.vo c.vs[i] (List.getElem_mem (by omega)); have hvl := h.l c.vs[i] (List.getElem_mem (by omega)); have hvl1 := hvl.1; have hvl2 := hvl.2; have hBi : (ba (encV c.vs i)).size ≤ 10 + (50 * c.vs.length + volW c.vs) := by rw [ba_size]; exact hB i
   have z1 := encU_i hvo.1; have z2 := encU_i hvo.2.1; have z3 := encU_i hvo.2.2; have z4 := encU_i (u64_wr c.vs[i].de); have z5 := textL_size hvl1 hvl2; have z6 := volW_mem (List.getElem_mem (l := c.vs) (n := i) (by omega))
   refine OW_fa rfl rfl rfl ?_
   refine OW_loadR hS2 (k := 0) rfl rfl rfl rfl rfl (by rfl) ?_
   refine OW_mv rfl rfl (EN56 rfl ?_)
   refine OW_iaL rfl rfl rfl Ls.of rfl rfl rfl (by rfl) (by exact at_map (by omega)) rfl ?_
   refine OW_loadE rfl rfl rfl (by exact part_whole rfl rfl rfl) ?_
   refine OW_allocR hS2 (le_app (p := ν1) (b := [5, 0, 0, 1, 0])) (under_app [5, 0, 0, 1, 0] (under_trans (under_app [1, 0, 1, 1] under_me) hU1)) rfl rfl rfl rfl fun H3 hS3 => ?_
   replace hS3 : Own _ _ _ ([_, _]) := hS3
   refine EN56 rfl ?_
   refine OW_storeR hS3 (k := 0) rfl le_refl rfl rfl rfl rfl ⟨rfl, rfl, Nat.le_of_ble_eq_true rfl⟩ (u2 := .agg [_, _, _, _, _]) rfl fun H4 hS4 => ?_
   replace hS4 : Own _ _ _ ([_, _]) := hS4
   refine EZ56 rfl ?_
   refine XW_region (OW_mv rfl rfl (OW_fa rfl rfl rfl ?_))
   refine OW_loadR hS4 (k := 0) rfl rfl rfl rfl rfl (by rfl) ?_
   refine EN56 rfl ?_
   refine OW_fn rfl rfl (rputUi (by omega) ?_) 
   refine OW_fa rfl rfl rfl ?_
   refine OW_loadR hS4 (k := 0) rfl rfl rfl rfl rfl (by rfl) ?_
   refine EN56 rfl ?_
   refine OW_fn rfl rfl (rputUi (by omega) ?_) 
   refine OW_bin rfl rfl rfl rfl (cat (by omega)) ?_
   refine OW_fa rfl rfl rfl (EN56 rfl ?_)
   refine OW_loadR hS4 (k := 0) rfl rfl rfl rfl rfl (by rfl) ?_
   refine OW_fn rfl rfl (rputUi (by omega) ?_) 
   refine OW_bin rfl rfl rfl rfl (cat (by (simp only [ss]; omega))) ?_
   refine EN56 rfl (OW_fa rfl rfl rfl ?_)
   refine OW_loadR hS4 (k := 0) rfl rfl rfl rfl rfl (by rfl) ?_
   refine OW_conv rfl rfl rfl ?_
   refine EN56 rfl ?_
   refine OW_fn rfl rfl (rputUi (u64_wr _) ?_) 
   refine OW_bin rfl rfl rfl rfl (cat (by (simp only [ss]; omega))) ?_
   refine OW_fa rfl rfl rfl (EN56 rfl ?_)
   refine OW_loadR hS4 (k := 0) rfl rfl rfl rfl rfl (by rfl) ?_
   refine OW_fn rfl rfl (rputL Ls.of hvl1 hvl2 ?_) 
   refine OW_bin rfl rfl rfl rfl (cat (by (simp only [ss]; omega))) ?_
   refine EN56 rfl ?_
   refine OW_bin rfl rfl rfl rfl (cat (by (simp only [ss]; omega))) ?_
   refine OW_as rfl rfl ?_
   refine EZ56 rfl ?_
   refine block_norm (then_norm (XW_region ?_))
   rw [encV_step (by omega)]
   refine OW_mv rfl rfl ?_
   refine OW_bin rfl rfl rfl rfl (add_w64 (by omega)) ?_
   refine OW_as rfl rfl ?_
   refine EZ56 rfl ?_
   have hSd1 : Own _ _ _ ([_]) := (Own.drop hS4 (k := 0) rfl)
   refine ⟨_, ?_, i + 1, rfl, under_in hU1, Own.cast (Own.mono (hSd1) (le_lit (ν := ν1) (a := [7, 0, 0, 1, 0]) (b := [1]) (by decide))) (rfl), ?_, env_g rfl⟩
   · omega
   omega
  try simp only [bs] at h3
  refine XW_exit (then_exit (block_exit (then_norm (XW_sr ?_))))
  have hBi : (ba (encV c.vs i)).size ≤ 10 + (50 * c.vs.length + volW c.vs) := by rw [ba_size]; exact hB i
  refine OW_mv rfl rfl (OW_fa rfl rfl rfl ?_)
  refine OW_loadR hS2 (k := 0) rfl rfl rfl rfl rfl (by rfl) ?_
  refine EN56 rfl ?_
  refine OW_fn rfl rfl (SE.r_text Ls.of h.s h.sf h.sa ?_) 
  refine OW_fn rfl rfl (rputTx (by omega) ?_) 
  refine OW_bin rfl rfl rfl rfl (cat (by omega)) ?_
  refine EN56 rfl (OW_fa rfl rfl rfl ?_)
  refine OW_loadR hS2 (k := 0) rfl rfl rfl rfl rfl (by rfl) ?_
  refine OW_fn rfl rfl (r_text Ls.of (by have := h.q; omega) h.qf ?_) 
  refine EN56 rfl ?_
  refine OW_fn rfl rfl (rputTx (by omega) ?_) 
  refine OW_bin rfl rfl rfl rfl (cat (by (simp only [ss]; omega))) ?_
  refine OW_as rfl rfl ?_
  refine EZ56 rfl ?_
  refine XW_ret ?_
  refine ret_ret (res1 rfl (rv_tmp rfl)) (frz1 (Q := Q) (by exact freeze_plain rfl) ?_)
  refine qcast hq ?_; rw [show i = c.vs.length by omega]; unfold textC; rw [ByteArray.append_assoc]
def volR (s : ByteArray) : List Vo × ByteArray × Bool := match (cVo.list 8 (by decide)).tk s.data.toList with
  | some (l, r) => (l, ba r, true)
  | none => ([], ⟨#[]⟩, false)
def ck0 : Ck := ⟨[], [], []⟩
theorem volR_no {s : ByteArray} (h : takeU 64 s.data.toList = none) : volR s = ([], ⟨#[]⟩, false) := by
  unfold volR Cod.list; simp only [h]
theorem volR_far {s : ByteArray} {n : Nat} {r : List UInt8} (h : takeU 64 s.data.toList = some (n, r)) : volR s = if n ≤ 8 then (match cVo.manyT n r with
    | some (l, q) => (l, ba q, true)
    | none => ([], ⟨#[]⟩, false)) else ([], ⟨#[]⟩, false) := by
  unfold volR Cod.list
  simp only [h]
  by_cases hn : n ≤ 8
  · rw [if_pos hn, if_pos hn]
  rw [if_neg hn, if_neg hn]
theorem num4 (s : ByteArray) : (resN 4 s = ([], ⟨#[]⟩, false) ∧ cVo.tk s.data.toList = none) ∨ ∃ a b c d r, resN 4 s = ([a, b, c, d], r, true) ∧ r.size ≤ s.size ∧ U64 d ∧ cVo.tk s.data.toList = if d ≤ 4 then (match cL16.tk r.data.toList with
      | some (l, q) => some (⟨a, b, c, d, l⟩, q)
      | none => none) else none := by
  rw [cVo_tk]
  unfold resN
  cases h : cI.manyT 4 s.data.toList with
  | none => exact .inl ⟨rfl, rfl⟩
  | some p =>
    obtain ⟨l, r⟩ := p
    obtain ⟨⟨h1, h2⟩, h3⟩ := (cI.manyT_iff _ _ _ _).1 h
    have hsz : (ba r).size ≤ s.size := by
      have := congrArg List.length h3
      rw [List.length_append] at this
      rw [ba_size]
      have e : s.data.toList.length = s.size := rfl
      omega
    match l, h1, h2 with
    | [a, b, c, d], _, h2 => exact .inr ⟨a, b, c, d, ba r, rfl, hsz, h2 d (by simp), rfl⟩
theorem resL_size (s : ByteArray) : (resL 16 s).2.1.size ≤ s.size := by
  rw [resL_tk]
  cases h : cL16.tk s.data.toList with
  | none => exact Nat.zero_le _
  | some p =>
    obtain ⟨l, q⟩ := p
    have := (cL16.iff _ _ _).1 h
    have h2 := congrArg List.length this.2
    rw [List.length_append] at h2
    show (ba q).size ≤ _
    rw [ba_size]
    have e : s.data.toList.length = s.size := rfl
    omega
theorem resL_yes {s : ByteArray} (h : (resL 16 s).2.2 = true) : cL16.tk s.data.toList = some ((resL 16 s).1, (resL 16 s).2.1.data.toList) := by
  rw [resL_tk] at h ⊢
  cases h1 : cL16.tk s.data.toList with
  | none => rw [h1] at h; cases h
  | some p => obtain ⟨l, q⟩ := p; rfl
theorem resL_no {s : ByteArray} (h : (resL 16 s).2.2 = false) : cL16.tk s.data.toList = none := by
  rw [resL_tk] at h
  cases h1 : cL16.tk s.data.toList with
  | none => rfl
  | some p => obtain ⟨l, q⟩ := p; rw [h1] at h; cases h
end Go.Proofs.YtfkgdlfponfimaaGreat.X

/- Layer 11: the reference's Parse; the laws SessionTexts and SessionBack. -/
set_option linter.unusedVariables false
set_option linter.unusedSimpArgs false
set_option maxRecDepth 100000
namespace Go.Proofs.YtfkgdlfponfimaaGreat.X.SE
open Go Go.RowKit WM
variable {ν : Nm} {H : Heap} {Q : AVal → Heap → Prop}
theorem r_parse {s : ByteArray} (hs : s.size ≤ 4611686018427387904) (hq : Q (.tup [.lst ((resP s).1.map Se.enc), .bool (resP s).2]) H) : CW cfg ν 67 [.str s] H Q := by
  rcases resU_cases s with ⟨h1, h2⟩ | ⟨n, r, h1, h2, hn, hr⟩
  · rw [resP, parS_none h1] at hq
    refine CW_pure g67 F67 rfl ?_
    have hS0 : Own ν ν (fun _ => none) [] := Own.nil
    refine XW_sr (OW_as rfl rfl (OW_as rfl rfl ?_))
    refine EZ80 rfl ?_
    refine XW_sr (OW_mv rfl rfl ?_)
    refine OW_fn rfl rfl (rtakeU_e hs h2 ?_) 
    refine OW_mv rfl rfl (EN80 rfl (OW_ex rfl rfl rfl (OW_ex rfl rfl rfl (OW_ex rfl rfl rfl (EN80 rfl (OW_as rfl rfl (OW_as rfl rfl (OW_as rfl rfl ?_))))))))
    refine EZ80 rfl ?_
    refine XW_seq (XW_sr (OW_mv rfl rfl (OW_un rfl rfl rfl (OW_mv rfl rfl (EN80 rfl (OW_no rfl (OW_no rfl (OW_pick rfl rfl rfl ?_))))))))
    refine EZ80 rfl ?_
    refine XW_yes rfl rfl ?_
    refine XW_sr (OW_as rfl rfl (OW_as rfl rfl ?_))
    refine EZ80 rfl ?_
    refine XW_ret (then_ret ?_)
    refine ret_ret (res2 rfl (rv_tmp rfl) (rv_tmp rfl)) (frz2 (Q := Q) (by exact Ls.freeze Ls.nls) (by exact freeze_plain rfl) ?_)
    exact hq
  rw [resP, parS_far h1] at hq
  have hbr : (ba r).size = r.length := ba_size r
  refine CW_pure g67 F67 rfl ?_
  have hS0 : Own ν ν (fun _ => none) [] := Own.nil
  refine XW_sr (OW_as rfl rfl (OW_as rfl rfl ?_))
  refine EZ80 rfl ?_
  refine XW_sr (OW_mv rfl rfl ?_)
  refine OW_fn rfl rfl (rtakeU_e hs h2 ?_) 
  refine OW_mv rfl rfl (EN80 rfl (OW_ex rfl rfl rfl (OW_ex rfl rfl rfl (OW_ex rfl rfl rfl (EN80 rfl (OW_as rfl rfl (OW_as rfl rfl (OW_as rfl rfl ?_))))))))
  refine EZ80 rfl ?_
  refine XW_seq (XW_sr (OW_mv rfl rfl (OW_un rfl rfl rfl (OW_mv rfl rfl (EN80 rfl (OW_mv rfl rfl ?_))))))
  refine OW_bin rfl rfl rfl rfl rfl ?_
  refine OW_pick rfl rfl rfl ?_
  refine EZ80 rfl ?_
  refine XW_if rfl (fun h2 => ?_) (fun h2 => ?_)
  ·try simp only [bs] at h2
   refine XW_sr ?_
   rw [if_neg (by omega)] at hq
   refine OW_as rfl rfl (OW_as rfl rfl ?_)
   refine EZ80 rfl ?_
   refine XW_ret (then_ret ?_)
   refine ret_ret (res2 rfl (rv_tmp rfl) (rv_tmp rfl)) (frz2 (Q := Q) (by exact Ls.freeze Ls.nls) (by exact freeze_plain rfl) ?_)
   exact hq
  try simp only [bs] at h2
  refine XW_skip (then_norm (XW_sr ?_))
  rw [if_pos (by omega)] at hq
  refine OW_bs rfl rfl rfl ?_
  refine OW_as rfl rfl ?_
  refine EZ80 rfl ?_
  refine XW_seq (XW_sr (OW_as rfl rfl ?_))
  refine EZ80 rfl ?_
  refine XW_block ?_
  refine XW_whileN (I := fun ν' mm ee H' => ∃ (i : Nat) (O : AVal) (acc : List Se) (rest : ByteArray), mm = n - i ∧ under (1 :: 0 :: 1 :: 1 :: 1 :: 1 :: ν) ν' = true ∧ Own ν ν' H' ([sl O 3 (acc.map Se.enc)]) ∧ (cSe.Far n r i acc rest.data.toList ∧ rest.size ≤ s.size) ∧ ∃ g : Nat → AVal, ee = [g 0, g 1, .nls, .bool false, .int .u64 (n : Int), .str rest, g 6, O, .int .u64 (i : Int), g 9, g 10, g 11, g 12, g 13, g 14, g 15, g 16, g 17, g 18, g 19, g 20, g 21, g 22, g 23, g 24, g 25, g 26, g 27, g 28, g 29, g 30, g 31, g 32, g 33, g 34, g 35, g 36, g 37, g 38, g 39, g 40, g 41, g 42, g 43, g 44, g 45, g 46, g 47, g 48, g 49, g 50, g 51, g 52, g 53, g 54, g 55, g 56, g 57, g 58, g 59, g 60, g 61, g 62, g 63, g 64, g 65, g 66, g 67, g 68, g 69, g 70, g 71, g 72, g 73, g 74, g 75, g 76, g 77, g 78, g 79]) ?_ _ _ _ _ ⟨0, .emp, [], ba r, rfl, under_me, Own.cast (Own.mono (hS0.addE) (le_app (p := ν) (b := [1, 0, 1, 1, 1, 1]))) (rfl), (⟨by rw [ba_data]; exact cSe.far0 n r, by omega⟩), env_g rfl⟩
  rintro ν1 mm ee H1 ⟨i, O, acc, rest, rfl, hU1, hS1, ⟨hF, hrs⟩, g1, rfl⟩
  refine XW_seq (XW_sr (OW_mv rfl rfl (OW_mv rfl rfl ?_)))
  refine OW_bin rfl rfl rfl rfl rfl ?_
  refine EZ80 rfl ?_
  refine XW_if rfl (fun h6 => ?_) (fun h6 => ?_)
  ·try simp only [bs] at h6
   refine XW_skip (then_norm (XW_seq (XW_block (XW_sr ?_))))
   have z1 := resU_size rest; have z2 := resU_size (resU rest).2.1; have z3 := resT_size 256 (resU (resU rest).2.1).2.1; have hal := hF.2.1
   refine OW_mv rfl rfl ?_
   refine OW_fn rfl rfl (rtakeU (by omega) ?_) 
   refine OW_mv rfl rfl (EN80 rfl (OW_ex rfl rfl rfl (OW_ex rfl rfl rfl (OW_ex rfl rfl rfl (EN80 rfl (OW_as rfl rfl (OW_as rfl rfl (OW_as rfl rfl ?_))))))))
   refine EZ80 rfl ?_
   refine XW_sr (OW_mv rfl rfl ?_)
   refine OW_fn rfl rfl (rtakeU (by omega) ?_) 
   refine OW_mv rfl rfl (EN80 rfl (OW_ex rfl rfl rfl (OW_ex rfl rfl rfl (OW_ex rfl rfl rfl (EN80 rfl (OW_as rfl rfl (OW_as rfl rfl (OW_as rfl rfl ?_))))))))
   refine EZ80 rfl ?_
   refine XW_sr (OW_mv rfl rfl ?_)
   refine OW_fn rfl rfl (rtakeT_c (by omega) (by decide) ?_) 
   refine OW_mv rfl rfl (EN80 rfl (OW_ex rfl rfl rfl (OW_ex rfl rfl rfl (OW_ex rfl rfl rfl (EN80 rfl (OW_as rfl rfl (OW_as rfl rfl (OW_as rfl rfl ?_))))))))
   refine EZ80 rfl ?_
   refine XW_seq (XW_sr (OW_mv rfl rfl (OW_un rfl rfl rfl (OW_mv rfl rfl (EN80 rfl ?_)))))
   refine OW_split (tt := 56) rfl (fun g11_3 => ?_) (fun g11_3 => ?_)
   ·try simp only [bs] at g11_3
    refine OW_no rfl (OW_no rfl (EN80 rfl (OW_pick rfl rfl rfl (OW_mv rfl rfl (OW_no rfl (EN80 rfl (OW_no rfl (OW_pick rfl rfl rfl ?_))))))))
    refine EZ80 rfl ?_
    refine XW_yes rfl rfl ?_
    refine XW_sr (OW_as rfl rfl (OW_as rfl rfl ?_))
    refine EZ80 rfl ?_
    refine XW_ret (then_ret (block_ret (then_ret (block_ret (then_ret ?_)))))
    refine ret_ret (res2 rfl (rv_tmp rfl) (rv_tmp rfl)) (frz2 (Q := Q) (by exact Ls.freeze Ls.nls) (by exact freeze_plain rfl) ?_)
    (rw [Cod.far_none hF (by omega) (by rw [tk_row, if_neg (by rintro ⟨a1, a2, a3⟩; simp_all)])] at hq; exact hq)
   try simp only [bs] at g11_3
   refine OW_mv rfl rfl (OW_un rfl rfl rfl (EN80 rfl (OW_pick rfl rfl rfl (OW_mv rfl rfl ?_))))
   refine OW_split (tt := 60) rfl (fun g11_7 => ?_) (fun g11_7 => ?_)
   ·try simp only [bs] at g11_7
    refine EN80 rfl (OW_no rfl (OW_no rfl (OW_pick rfl rfl rfl ?_)))
    refine EZ80 rfl ?_
    refine XW_yes rfl rfl ?_
    refine XW_sr (OW_as rfl rfl (OW_as rfl rfl ?_))
    refine EZ80 rfl ?_
    refine XW_ret (then_ret (block_ret (then_ret (block_ret (then_ret ?_)))))
    refine ret_ret (res2 rfl (rv_tmp rfl) (rv_tmp rfl)) (frz2 (Q := Q) (by exact Ls.freeze Ls.nls) (by exact freeze_plain rfl) ?_)
    (rw [Cod.far_none hF (by omega) (by rw [tk_row, if_neg (by rintro ⟨a1, a2, a3⟩; simp_all)])] at hq; exact hq)
   try simp only [bs] at g11_7
   refine EN80 rfl (OW_mv rfl rfl (OW_un rfl rfl rfl (OW_pick rfl rfl rfl ?_)))
   refine EZ80 rfl ?_
   refine XW_if rfl (fun h11 => ?_) (fun h11 => ?_)
   ·try simp only [bs] at h11
    refine XW_sr (OW_as rfl rfl (OW_as rfl rfl ?_))
    refine EZ80 rfl ?_
    refine XW_ret (then_ret (block_ret (then_ret (block_ret (then_ret ?_)))))
    refine ret_ret (res2 rfl (rv_tmp rfl) (rv_tmp rfl)) (frz2 (Q := Q) (by exact Ls.freeze Ls.nls) (by exact freeze_plain rfl) ?_)
    (rw [Cod.far_none hF (by omega) (by rw [tk_row, if_neg (by rintro ⟨a1, a2, a3⟩; simp_all)])] at hq; exact hq)
   try simp only [bs] at h11
   refine XW_skip (then_norm (XW_sr (OW_mv rfl rfl (OW_mv rfl rfl (OW_mv rfl rfl (EN80 rfl (OW_mv rfl rfl ?_)))))))
   refine OW_bd rfl rfl (v := .agg [_, _, _]) rfl ?_
   refine OW_bs rfl rfl (v := .lst [_]) rfl ?_
   refine EN80 rfl ?_
   refine OW_app hS1 (k := 0) rfl (le_app (p := ν1) (b := [6, 0, 1, 1, 1, 1, 0, 1, 0])) (under_app [6, 0, 1, 1, 1, 1, 0, 1, 0] (under_trans (under_app [1, 0, 1, 1, 1, 1] under_me) hU1)) rfl rfl rfl rfl rfl rfl rfl rfl (by rfl) (by exact one_wide rfl) (by (simp only [ss]; omega)) (by decide) fun O1 H2 hS2 => ?_
   replace hS2 : Own _ _ _ ([_]) := hS2
   refine OW_as rfl rfl ?_
   refine EZ80 rfl ?_
   refine XW_region (OW_mv rfl rfl (OW_as rfl rfl ?_))
   refine EZ80 rfl ?_
   refine block_norm (then_norm (XW_region (OW_mv rfl rfl ?_)))
   refine OW_bin rfl rfl rfl rfl (add_wu64 (by omega)) ?_
   refine OW_as rfl rfl ?_
   refine EZ80 rfl ?_
   refine ⟨_, ?_, i + 1, O1, acc ++ [⟨(resU rest).1, (resU (resU rest).2.1).1, (resT 256 (resU (resU rest).2.1).2.1).1⟩], _, rfl, under_in hU1, Own.cast (Own.mono (hS2) (le_lit (ν := ν1) (a := [7, 0, 1, 1, 1, 1, 0, 1, 0]) (b := [1]) (by decide))) (by simp [Se.enc]), ?_, env_g rfl⟩
   · omega
   exact ⟨Cod.far_step hF (by omega) (by rw [tk_row, if_pos ⟨by simpa using g11_3, by simpa using g11_7, by simpa using h11⟩]), by omega⟩
  try simp only [bs] at h6
  refine XW_exit (then_exit (block_exit (then_norm (XW_seq (XW_sr ?_)))))
  have hal := hF.2.1; have hin := hF.1
  refine OW_mv rfl rfl ?_
  refine OW_bin rfl rfl rfl rfl rfl ?_
  refine OW_mv rfl rfl (EN80 rfl ?_)
  refine OW_split (tt := 74) rfl (fun g15_3 => ?_) (fun g15_3 => ?_)
  ·try simp only [bs] at g15_3
   refine OW_no rfl (OW_no rfl (EN80 rfl (OW_no rfl (OW_pick rfl rfl rfl ?_))))
   refine EZ80 rfl ?_
   refine XW_yes rfl rfl ?_
   refine XW_sr (OW_as rfl rfl (OW_as rfl rfl ?_))
   refine EZ80 rfl ?_
   refine XW_ret (then_ret ?_)
   refine ret_ret (res2 rfl (rv_tmp rfl) (rv_tmp rfl)) (frz2 (Q := Q) (by exact Ls.freeze Ls.nls) (by exact freeze_plain rfl) ?_)
   (rw [Cod.far_end hF (by omega)] at hq; simp only at hq; (rw [if_neg (by rintro ⟨a1, a2⟩; exact g15_3 (nil_str a1))] at hq; exact hq))
  try simp only [bs] at g15_3
  refine OW_mv rfl rfl ?_
  refine OW_fn rfl rfl (r_check (hS1.freeze0 (k := 0) rfl (map_plain (fun _ => rfl))) (by omega) ?_) 
  refine EN80 rfl (OW_un rfl rfl rfl (OW_pick rfl rfl rfl ?_))
  refine EZ80 rfl ?_
  refine XW_if rfl (fun h15 => ?_) (fun h15 => ?_)
  ·try simp only [bs] at h15
   refine XW_sr (OW_as rfl rfl (OW_as rfl rfl ?_))
   refine EZ80 rfl ?_
   refine XW_ret (then_ret ?_)
   refine ret_ret (res2 rfl (rv_tmp rfl) (rv_tmp rfl)) (frz2 (Q := Q) (by exact Ls.freeze Ls.nls) (by exact freeze_plain rfl) ?_)
   (rw [Cod.far_end hF (by omega)] at hq; simp only at hq; (rw [if_neg (by rintro ⟨a1, a2⟩; simp_all)] at hq; exact hq))
  try simp only [bs] at h15
  refine XW_skip (then_norm (XW_sr (OW_mv rfl rfl (OW_as rfl rfl (OW_as rfl rfl ?_)))))
  refine EZ80 rfl ?_
  refine XW_ret ?_
  refine ret_ret (res2 rfl (rv_tmp rfl) (rv_tmp rfl)) (frz2 (Q := Q) (by exact hS1.frz (k := 0) rfl (by exact map_plain (fun _ => rfl))) (by exact freeze_plain rfl) ?_)
  (rw [Cod.far_end hF (by omega)] at hq; simp only at hq; (rw [if_pos ⟨str_nil (by assumption), by assumption⟩] at hq; exact hq))
theorem parS_iff (s : ByteArray) (l : List Se) : parS s = some l ↔ chkL l = true ∧ (∀ x ∈ l, x.fit) ∧ s = textS l := by
  unfold parS
  constructor
  · intro h
    cases ha : (cSe.list 16 (by decide)).all s.data.toList with
    | none => rw [ha] at h; cases h
    | some l' =>
      rw [ha] at h
      simp only at h
      split at h
      · rename_i hc
        cases h
        obtain ⟨⟨h1, h2⟩, h3⟩ := (Cod.all_iff _ _ _).1 ha
        refine ⟨hc, fun x hx => ?_, ?_⟩
        · have := h2 x hx
          exact ⟨this.1, this.2.1⟩
        rw [← ba_of s, h3]; rfl
      cases h
  rintro ⟨h1, h2, rfl⟩
  have hc := of_decide_eq_true h1
  have : (cSe.list 16 (by decide)).all (textS l).data.toList = some l := (Cod.all_iff _ _ _).2 ⟨⟨hc.1, fun x hx => ⟨(h2 x hx).1, (h2 x hx).2, hc.2.1 x hx⟩⟩, rfl⟩
  rw [this]
  simp only [h1, if_true]
def cSeB : Cod Se := (cI.pair (cI.pair (cT 4611686018427387904 (by decide)))).iso (fun p => ⟨p.1, p.2.1, p.2.2⟩) (fun x => (x.id, x.nr, x.an)) (fun _ => rfl) (fun _ => rfl)
theorem resP_len (s : ByteArray) : (resP s).1.length ≤ 16 := by
  unfold resP
  cases h : parS s with
  | none => simp
  | some l => exact (of_decide_eq_true ((parS_iff _ _).1 h).1).1
end Go.Proofs.YtfkgdlfponfimaaGreat.X.SE

/- Layer 13: states that texts say. -/
set_option linter.unusedVariables false
set_option linter.unusedSimpArgs false
set_option maxRecDepth 100000
namespace Go.Proofs.YtfkgdlfponfimaaGreat.X
open Go Go.RowKit WM
variable {ν : Nm} {H : Heap} {Q : AVal → Heap → Prop} {c : Ck}
theorem take4 (s : ByteArray) : ∃ l r b, resN 4 s = (l, r, b) ∧ r.size ≤ s.size ∧ (b = false → cVo.tk s.data.toList = none) ∧ (b = true → ∃ x y z d, l = [x, y, z, d] ∧ U64 d ∧ cVo.tk s.data.toList = if d ≤ 4 then (match cL16.tk r.data.toList with
      | some (l, q) => some (⟨x, y, z, d, l⟩, q)
      | none => none) else none) := by
  rcases num4 s with ⟨h1, h2⟩ | ⟨x, y, z, d, r, h1, h2, h3, h4⟩
  · exact ⟨_, _, _, h1, Nat.zero_le _, fun _ => h2, fun h => nomatch h⟩
  exact ⟨_, _, _, h1, h2, (fun h => nomatch h), fun _ => ⟨x, y, z, d, rfl, h3, h4⟩⟩
theorem takeK_e4 {s : ByteArray} {l : List Int} {r : ByteArray} {b : Bool} (hs : s.size ≤ 4611686018427387904) (he : resN 4 s = (l, r, b)) (hq : Q (.tup [.lst (l.map encN), .str r, .bool b]) H) : CW cfg ν 60 [.str s, .int .i64 4] H Q := takeK_c (m := 4) hs (by decide) (by rw [he]; exact hq)
theorem p_volumes {s : ByteArray} (hs : s.size ≤ 4611686018427387904) (hq : Q (.tup [.lst ((volR s).1.map Vo.enc), .str (volR s).2.1, .bool (volR s).2.2]) H) : CW cfg ν 63 [.str s] H Q := by
  rcases resU_cases s with ⟨h1, h2⟩ | ⟨n, r, h1, h2, hn, hr⟩
  · rw [volR_no h1] at hq
    refine CW_pure g63 F63 rfl ?_
    have hS0 : Own ν ν (fun _ => none) [] := Own.nil
    refine XW_sr (OW_as rfl rfl (OW_as rfl rfl (OW_as rfl rfl ?_)))
    refine EZ70 rfl ?_
    refine XW_sr (OW_mv rfl rfl ?_)
    refine OW_fn rfl rfl (takeU_e hs h2 ?_) 
    refine OW_mv rfl rfl (EN70 rfl (OW_ex rfl rfl rfl (OW_ex rfl rfl rfl (OW_ex rfl rfl rfl (EN70 rfl (OW_as rfl rfl (OW_as rfl rfl (OW_as rfl rfl ?_))))))))
    refine EZ70 rfl ?_
    refine XW_seq (XW_sr (OW_mv rfl rfl (OW_un rfl rfl rfl (OW_mv rfl rfl (EN70 rfl (OW_no rfl (OW_no rfl (OW_pick rfl rfl rfl ?_))))))))
    refine EZ70 rfl ?_
    refine XW_yes rfl rfl ?_
    refine XW_sr (OW_as rfl rfl (OW_as rfl rfl (OW_as rfl rfl ?_)))
    refine EZ70 rfl ?_
    refine XW_ret (then_ret ?_)
    refine ret_ret (res3 rfl (rv_tmp rfl) (rv_tmp rfl) (rv_tmp rfl)) (frz3 (Q := Q) (by exact Ls.freeze Ls.nls) (by exact freeze_plain rfl) (by exact freeze_plain rfl) ?_)
    exact hq
  rw [volR_far h1] at hq
  have hbr : (ba r).size = r.length := ba_size r
  refine CW_pure g63 F63 rfl ?_
  have hS0 : Own ν ν (fun _ => none) [] := Own.nil
  refine XW_sr (OW_as rfl rfl (OW_as rfl rfl (OW_as rfl rfl ?_)))
  refine EZ70 rfl ?_
  refine XW_sr (OW_mv rfl rfl ?_)
  refine OW_fn rfl rfl (takeU_e hs h2 ?_) 
  refine OW_mv rfl rfl (EN70 rfl (OW_ex rfl rfl rfl (OW_ex rfl rfl rfl (OW_ex rfl rfl rfl (EN70 rfl (OW_as rfl rfl (OW_as rfl rfl (OW_as rfl rfl ?_))))))))
  refine EZ70 rfl ?_
  refine XW_seq (XW_sr (OW_mv rfl rfl (OW_un rfl rfl rfl (OW_mv rfl rfl (EN70 rfl (OW_mv rfl rfl ?_))))))
  refine OW_bin rfl rfl rfl rfl rfl ?_
  refine OW_pick rfl rfl rfl ?_
  refine EZ70 rfl ?_
  refine XW_if rfl (fun h2 => ?_) (fun h2 => ?_)
  ·try simp only [bs] at h2
   refine XW_sr ?_
   rw [if_neg (by omega)] at hq
   refine OW_as rfl rfl (OW_as rfl rfl (OW_as rfl rfl ?_))
   refine EZ70 rfl ?_
   refine XW_ret (then_ret ?_)
   refine ret_ret (res3 rfl (rv_tmp rfl) (rv_tmp rfl) (rv_tmp rfl)) (frz3 (Q := Q) (by exact Ls.freeze Ls.nls) (by exact freeze_plain rfl) (by exact freeze_plain rfl) ?_)
   exact hq
  try simp only [bs] at h2
  refine XW_skip (then_norm (XW_sr ?_))
  rw [if_pos (by omega)] at hq
  refine OW_as rfl rfl ?_
  refine EZ70 rfl ?_
  refine XW_seq (XW_sr (OW_mv rfl rfl (OW_mv rfl rfl ?_)))
  refine EZ70 rfl ?_
  refine XW_block ?_
  refine XW_whileN (I := fun ν' mm ee H' => ∃ (i : Nat) (O : AVal) (acc : List Vo) (rest : ByteArray), mm = n - i ∧ under (1 :: 0 :: 1 :: 1 :: 1 :: 1 :: ν) ν' = true ∧ Own ν ν' H' ([sl O 5 (acc.map Vo.enc)]) ∧ (cVo.Far n r i acc rest.data.toList ∧ rest.size ≤ s.size) ∧ ∃ g : Nat → AVal, ee = [g 0, g 1, g 2, g 3, g 4, g 5, .str rest, g 7, O, g 9, g 10, g 11, g 12, g 13, g 14, g 15, g 16, g 17, g 18, g 19, g 20, g 21, g 22, .int .u64 n, .int .u64 i, g 25, g 26, g 27, g 28, g 29, g 30, g 31, g 32, g 33, g 34, g 35, g 36, g 37, g 38, g 39, g 40, g 41, g 42, g 43, g 44, g 45, g 46, g 47, g 48, g 49, g 50, g 51, g 52, g 53, g 54, g 55, g 56, g 57, g 58, g 59, g 60, g 61, g 62, g 63, g 64, g 65, g 66, g 67, g 68, g 69]) ?_ _ _ _ _ ⟨0, .nls, [], ba r, rfl, under_me, Own.cast (Own.mono (hS0.addN) (le_app (p := ν) (b := [1, 0, 1, 1, 1, 1]))) (rfl), (⟨by rw [ba_data]; exact cVo.far0 n r, by omega⟩), env_g rfl⟩
  rintro ν1 mm ee H1 ⟨i, O, acc, rest, rfl, hU1, hS1, ⟨hF, hrs⟩, g1, rfl⟩
  refine XW_sr ?_
  refine OW_bin rfl rfl rfl rfl rfl ?_
  refine EZ70 rfl ?_
  refine XW_seq ?_
  refine XW_if rfl (fun h6 => ?_) (fun h6 => ?_)
  ·try simp only [bs] at h6
   refine XW_skip (then_norm (XW_seq (XW_block (XW_sr (OW_as rfl rfl ?_)))))
   refine EZ70 rfl ?_
   refine XW_seq (XW_sr ?_)
   obtain ⟨l4, r4, b4, hN, hr4, hF4, hT4⟩ := take4 rest
   have hal := hF.2.1
   refine OW_mv rfl rfl ?_
   refine OW_fn rfl rfl (takeK_e4 (by omega) hN ?_) 
   refine OW_mv rfl rfl (EN70 rfl (OW_ex rfl rfl rfl (OW_ex rfl rfl rfl (OW_ex rfl rfl rfl (EN70 rfl (OW_as rfl rfl (OW_as rfl rfl (OW_as rfl rfl ?_))))))))
   refine EZ70 rfl ?_
   refine XW_sr (OW_mv rfl rfl (OW_un rfl rfl rfl (OW_mv rfl rfl (EN70 rfl ?_))))
   refine OW_split (tt := 34) rfl (fun g9_3 => ?_) (fun g9_3 => ?_)
   ·try simp only [bs] at g9_3
    refine OW_no rfl (OW_no rfl (EN70 rfl (OW_no rfl (OW_no rfl (OW_pick rfl rfl rfl ?_)))))
    refine EZ70 rfl ?_
    refine XW_yes rfl rfl ?_
    refine XW_sr (OW_as rfl rfl (OW_as rfl rfl (OW_as rfl rfl ?_)))
    refine EZ70 rfl ?_
    refine XW_ret (then_ret (block_ret (then_ret (block_ret (then_ret ?_)))))
    refine ret_ret (res3 rfl (rv_tmp rfl) (rv_tmp rfl) (rv_tmp rfl)) (frz3 (Q := Q) (by exact Ls.freeze Ls.nls) (by exact freeze_plain rfl) (by exact freeze_plain rfl) ?_)
    (rw [Cod.far_none hF (by omega) (hF4 (by assumption))] at hq; exact hq)
   try simp only [bs] at g9_3
   refine OW_mv rfl rfl ?_
   obtain ⟨x, y, z, d, rfl, hd, htk⟩ := hT4 (by assumption)
   refine OW_iaL rfl rfl rfl Ls.of rfl rfl rfl (by rfl) (by rfl) rfl ?_
   refine EN70 rfl ?_
   refine OW_loadE rfl rfl rfl (by rfl) ?_
   refine OW_bin rfl rfl rfl rfl rfl ?_
   refine OW_pick rfl rfl rfl ?_
   refine EZ70 rfl ?_
   refine XW_if rfl (fun h9 => ?_) (fun h9 => ?_)
   ·try simp only [bs] at h9
    refine XW_sr (OW_as rfl rfl (OW_as rfl rfl (OW_as rfl rfl ?_)))
    refine EZ70 rfl ?_
    refine XW_ret (then_ret (block_ret (then_ret (block_ret (then_ret ?_)))))
    refine ret_ret (res3 rfl (rv_tmp rfl) (rv_tmp rfl) (rv_tmp rfl)) (frz3 (Q := Q) (by exact Ls.freeze Ls.nls) (by exact freeze_plain rfl) (by exact freeze_plain rfl) ?_)
    (rw [Cod.far_none hF (by omega) (by rw [htk, if_neg (by omega)])] at hq; exact hq)
   try simp only [bs] at h9
   refine XW_skip (then_norm (XW_sr (OW_mv rfl rfl ?_)))
   refine OW_iaL rfl rfl rfl Ls.of rfl rfl rfl (by rfl) (by rfl) rfl ?_
   refine OW_loadE rfl rfl rfl (by rfl) ?_
   refine EN70 rfl (OW_mv rfl rfl ?_)
   refine OW_iaL rfl rfl rfl Ls.of rfl rfl rfl (by rfl) (by rfl) rfl ?_
   refine OW_loadE rfl rfl rfl (by rfl) ?_
   refine EN70 rfl (OW_mv rfl rfl ?_)
   refine OW_iaL rfl rfl rfl Ls.of rfl rfl rfl (by rfl) (by rfl) rfl ?_
   refine OW_loadE rfl rfl rfl (by rfl) ?_
   refine EN70 rfl (OW_mv rfl rfl ?_)
   refine OW_iaL rfl rfl rfl Ls.of rfl rfl rfl (by rfl) (by rfl) rfl ?_
   refine OW_loadE rfl rfl rfl (by rfl) ?_
   refine EN70 rfl ?_
   refine OW_conv rfl rfl (conv_in rfl rfl rfl (IntWalk.i64_in _ (by omega))) ?_
   refine OW_bd rfl rfl (v := .agg [_, _, _, _, _]) rfl ?_
   refine OW_allocR hS1 (le_app (p := ν1) (b := [14, 0, 1, 1, 0, 1, 1, 0])) (under_app [14, 0, 1, 1, 0, 1, 1, 0] (under_trans (under_app [1, 0, 1, 1, 1, 1] under_me) hU1)) rfl rfl rfl rfl fun H2 hS2 => ?_
   replace hS2 : Own _ _ _ ([_, _]) := hS2
   refine EN70 rfl ?_
   refine OW_storeR hS2 (k := 0) rfl le_refl rfl rfl rfl rfl ⟨rfl, rfl, Nat.le_of_ble_eq_true rfl⟩ (u2 := .agg [_, _, _, _, _]) rfl fun H3 hS3 => ?_
   replace hS3 : Own _ _ _ ([_, _]) := hS3
   refine EZ70 rfl ?_
   refine XW_seq (XW_sr ?_)
   have hz := resL_size r4
   refine OW_mv rfl rfl ?_
   refine OW_fn rfl rfl (takeL_c (by omega) (by decide) (by decide) ?_) 
   refine OW_mv rfl rfl (EN70 rfl (OW_ex rfl rfl rfl (OW_ex rfl rfl rfl (OW_ex rfl rfl rfl (EN70 rfl (OW_fa rfl rfl rfl ?_))))))
   refine OW_storeR hS3 (k := 0) rfl (le_lit (ν := ν1) (a := [16, 0, 1, 1, 0, 1, 1, 0]) (b := [7, 0, 0, 1, 1, 1, 0, 1, 1, 0]) (by decide)) rfl rfl rfl rfl ⟨rfl, rfl, Nat.le_of_ble_eq_true rfl⟩ (u2 := .agg [_, _, _, _, _]) rfl fun H4 hS4 => ?_
   replace hS4 : Own _ _ _ ([_, _]) := hS4
   refine OW_as rfl rfl (EN70 rfl (OW_as rfl rfl ?_))
   refine EZ70 rfl ?_
   refine XW_sr (OW_mv rfl rfl (OW_un rfl rfl rfl ?_))
   refine EZ70 rfl ?_
   refine XW_if rfl (fun h13 => ?_) (fun h13 => ?_)
   ·try simp only [bs] at h13
    refine XW_sr (OW_as rfl rfl (OW_as rfl rfl (OW_as rfl rfl ?_)))
    refine EZ70 rfl ?_
    refine XW_ret (then_ret (block_ret (then_ret (block_ret (then_ret ?_)))))
    refine ret_ret (res3 rfl (rv_tmp rfl) (rv_tmp rfl) (rv_tmp rfl)) (frz3 (Q := Q) (by exact Ls.freeze Ls.nls) (by exact freeze_plain rfl) (by exact freeze_plain rfl) ?_)
    (rw [Cod.far_none hF (by omega) (by rw [htk, if_pos (by omega), resL_no (by assumption)])] at hq; exact hq)
   try simp only [bs] at h13
   refine XW_skip (then_norm (XW_region (OW_mv rfl rfl ?_)))
   refine OW_loadR hS4 (k := 0) rfl rfl rfl rfl rfl (by exact part_whole rfl rfl rfl) ?_
   refine OW_bs rfl rfl (v := .lst [_]) rfl ?_
   refine EN70 rfl ?_
   refine OW_app hS4 (k := 1) rfl (le_lit (ν := ν1) (a := [8, 0, 0, 1, 1, 1, 0, 1, 1, 0]) (b := [3, 1, 1, 1, 1, 0, 1, 1, 0]) (by decide)) (under_app [3, 1, 1, 1, 1, 0, 1, 1, 0] (under_trans (under_app [1, 0, 1, 1, 1, 1] under_me) hU1)) rfl rfl rfl rfl rfl rfl rfl rfl (by rfl) (by exact one_wide rfl) (by (simp only [ss]; omega)) (by decide) fun O1 H5 hS5 => ?_
   replace hS5 : Own _ _ _ ([_, _]) := hS5
   refine OW_as rfl rfl ?_
   refine EZ70 rfl ?_
   refine block_norm (then_norm (XW_region ?_))
   refine OW_bin rfl rfl rfl rfl (add_wu64 (by omega)) ?_
   refine OW_mv rfl rfl ?_
   refine EZ70 rfl ?_
   have hSd1 : Own _ _ _ ([_]) := (Own.drop hS5 (k := 0) rfl)
   refine ⟨_, ?_, i + 1, O1, acc ++ [⟨x, y, z, d, (resL 16 r4).1⟩], (resL 16 r4).2.1, rfl, under_in hU1, Own.cast (Own.mono (hSd1) (le_lit (ν := ν1) (a := [4, 1, 1, 1, 1, 0, 1, 1, 0]) (b := [1]) (by decide))) (by rw [List.map_append]; rfl), ?_, env_g rfl⟩
   · omega
   exact ⟨Cod.far_step hF (by omega) (by rw [htk, if_pos (by omega), resL_yes (by assumption)]), by omega⟩
  try simp only [bs] at h6
  refine XW_exit (then_exit (block_exit (then_norm (XW_sr (OW_mv rfl rfl (OW_mv rfl rfl (OW_as rfl rfl (EN70 rfl (OW_as rfl rfl ?_)))))))))
  refine OW_as rfl rfl ?_
  refine EZ70 rfl ?_
  refine XW_ret ?_
  refine ret_ret (res3 rfl (rv_tmp rfl) (rv_tmp rfl) (rv_tmp rfl)) (frz3 (Q := Q) (by exact hS1.frz (k := 0) rfl (by exact map_plain (fun _ => rfl))) (by exact freeze_plain rfl) (by exact freeze_plain rfl) ?_)
  (rw [Cod.far_end hF (by omega)] at hq; exact hq)
def parC (s : ByteArray) : Ck × Bool :=
  if (volR s).2.2 = true ∧ (resT ((volR s).2.1.size : Int) (volR s).2.1).2.2 = true ∧ (resT ((resT ((volR s).2.1.size : Int) (volR s).2.1).2.1.size : Int) (resT ((volR s).2.1.size : Int) (volR s).2.1).2.1).2.2 = true
    ∧ (SE.resP (resT ((volR s).2.1.size : Int) (volR s).2.1).1).2 = true ∧ (resP (resT ((resT ((volR s).2.1.size : Int) (volR s).2.1).2.1.size : Int) (resT ((volR s).2.1.size : Int) (volR s).2.1).2.1).1).2 = true
    ∧ (resT ((resT ((volR s).2.1.size : Int) (volR s).2.1).2.1.size : Int) (resT ((volR s).2.1.size : Int) (volR s).2.1).2.1).2.1 = ⟨#[]⟩
    ∧ chkC ⟨(volR s).1, (SE.resP (resT ((volR s).2.1.size : Int) (volR s).2.1).1).1, (resP (resT ((resT ((volR s).2.1.size : Int) (volR s).2.1).2.1.size : Int) (resT ((volR s).2.1.size : Int) (volR s).2.1).2.1).1).1⟩ = true
  then (⟨(volR s).1, (SE.resP (resT ((volR s).2.1.size : Int) (volR s).2.1).1).1, (resP (resT ((resT ((volR s).2.1.size : Int) (volR s).2.1).2.1.size : Int) (resT ((volR s).2.1.size : Int) (volR s).2.1).2.1).1).1⟩, true)
  else (ck0, false)
theorem parC_if {s : ByteArray} {v : List Vo × ByteArray × Bool} {t q : ByteArray × ByteArray × Bool} {a : List SE.Se × Bool} {b : List Qu × Bool} (hv : volR s = v) (ht : resT (v.2.1.size : Int) v.2.1 = t) (hq : resT (t.2.1.size : Int) t.2.1 = q) (ha : SE.resP t.1 = a) (hb : resP q.1 = b) :
    parC s = if v.2.2 = true ∧ t.2.2 = true ∧ q.2.2 = true ∧ a.2 = true ∧ b.2 = true ∧ q.2.1 = ⟨#[]⟩ ∧ chkC ⟨v.1, a.1, b.1⟩ = true then (⟨v.1, a.1, b.1⟩, true) else (ck0, false) := by
  subst hv; subst ht; subst hq; subst ha; subst hb; rfl
theorem volR_sz (s : ByteArray) : (volR s).1.length ≤ 8 ∧ (volR s).2.1.size ≤ s.size ∧ ∀ x ∈ (volR s).1, (U64 x.vo ∧ U64 x.tn ∧ U64 x.ep) ∧ (0 ≤ x.de ∧ x.de ≤ 4) ∧ x.lv.length ≤ 16 := by
  unfold volR
  cases h : (cVo.list 8 (by decide)).tk s.data.toList with
  | none => exact ⟨Nat.zero_le _, Nat.zero_le _, fun x hx => by simp at hx⟩
  | some p =>
    obtain ⟨l, r⟩ := p
    obtain ⟨⟨h1, h2⟩, h3⟩ := (Cod.iff _ _ _ _).1 h
    refine ⟨h1, ?_, fun x hx => ?_⟩
    · have := congrArg List.length h3
      rw [List.length_append] at this
      show (ba r).size ≤ _
      rw [ba_size]
      have e : s.data.toList.length = s.size := rfl
      omega
    obtain ⟨k1, k2, k3, ⟨k4, k5⟩, k6⟩ := h2 x hx
    exact ⟨⟨k1, k2, k3⟩, ⟨k4.1, k5⟩, k6.1⟩
theorem se_len (s : ByteArray) : (SE.resP s).1.length ≤ 16 := by
  unfold SE.resP
  cases h : SE.parS s with
  | none => simp
  | some l =>
    unfold SE.parS at h
    split at h
    · split at h
      · rename_i hc; cases h; exact (of_decide_eq_true hc).1
      cases h
    cases h
theorem p_parseCk {s : ByteArray} (hs : s.size ≤ 4611686018427387904) (hq : Q (.tup [(parC s).1.enc, .bool (parC s).2]) H) : CW cfg ν 21 [.str s] H Q := by
  obtain ⟨v, hv⟩ : ∃ v, volR s = v := ⟨_, rfl⟩
  obtain ⟨t, ht⟩ : ∃ t, resT (v.2.1.size : Int) v.2.1 = t := ⟨_, rfl⟩
  obtain ⟨q, hqq⟩ : ∃ q, resT (t.2.1.size : Int) t.2.1 = q := ⟨_, rfl⟩
  obtain ⟨a, ha⟩ : ∃ a, SE.resP t.1 = a := ⟨_, rfl⟩
  obtain ⟨b, hb⟩ : ∃ b, resP q.1 = b := ⟨_, rfl⟩
  rw [parC_if hv ht hqq ha hb] at hq
  have s1 := volR_sz s; rw [hv] at s1
  have s2 := resT_size1 (v.2.1.size : Int) v.2.1; have s3 := resT_size (v.2.1.size : Int) v.2.1; rw [ht] at s2 s3
  have s4 := resT_size1 (t.2.1.size : Int) t.2.1; have s5 := resT_size (t.2.1.size : Int) t.2.1; rw [hqq] at s4 s5
  have s6 := se_len t.1; rw [ha] at s6
  have s7 := resP_len q.1; rw [hb] at s7
  obtain ⟨s0, s8, s9⟩ := s1
  refine CW_pure g21 F21 rfl ?_
  have hS0 : Own ν ν (fun _ => none) [] := Own.nil
  refine XW_sr ?_
  refine OW_allocR hS0 (le_app (p := ν) (b := [0, 0])) (under_app [0, 0] under_me) rfl rfl rfl rfl fun H1 hS1 => ?_
  replace hS1 : Own _ _ _ ([_]) := hS1
  refine OW_as rfl rfl ?_
  refine EZ83 rfl ?_
  refine XW_sr (OW_mv rfl rfl ?_)
  refine OW_fn rfl rfl (p_volumes hs ?_) 
  rw [hv]
  refine OW_mv rfl rfl (EN83 rfl (OW_ex rfl rfl rfl (OW_ex rfl rfl rfl (OW_ex rfl rfl rfl (EN83 rfl (OW_as rfl rfl (OW_as rfl rfl (OW_as rfl rfl ?_))))))))
  refine EZ83 rfl ?_
  refine XW_sr (OW_mv rfl rfl (OW_mv rfl rfl ?_))
  refine OW_lenS rfl rfl rfl ?_
  refine EN83 rfl ?_
  refine OW_fn rfl rfl (takeT_c (by omega) (by omega) ?_) 
  rw [ht]
  refine OW_mv rfl rfl (OW_ex rfl rfl rfl (EN83 rfl (OW_ex rfl rfl rfl (OW_ex rfl rfl rfl (OW_as rfl rfl (EN83 rfl (OW_as rfl rfl (OW_as rfl rfl ?_))))))))
  refine EZ83 rfl ?_
  refine XW_sr (OW_mv rfl rfl (OW_mv rfl rfl ?_))
  refine OW_lenS rfl rfl rfl ?_
  refine EN83 rfl ?_
  refine OW_fn rfl rfl (takeT_c (by omega) (by omega) ?_) 
  rw [hqq]
  refine OW_mv rfl rfl (OW_ex rfl rfl rfl (EN83 rfl (OW_ex rfl rfl rfl (OW_ex rfl rfl rfl (OW_as rfl rfl (EN83 rfl (OW_as rfl rfl (OW_as rfl rfl ?_))))))))
  refine EZ83 rfl ?_
  refine XW_sr (OW_mv rfl rfl ?_)
  refine OW_fn rfl rfl (SE.p_parse (by omega) ?_) 
  rw [ha]
  refine OW_mv rfl rfl (EN83 rfl (OW_ex rfl rfl rfl (OW_ex rfl rfl rfl (OW_as rfl rfl (EN83 rfl (OW_as rfl rfl ?_))))))
  refine EZ83 rfl ?_
  refine XW_sr (OW_mv rfl rfl ?_)
  refine OW_fn rfl rfl (p_parse (by omega) ?_) 
  rw [hb]
  refine OW_mv rfl rfl (EN83 rfl (OW_ex rfl rfl rfl (OW_ex rfl rfl rfl (OW_as rfl rfl (EN83 rfl (OW_as rfl rfl ?_))))))
  refine EZ83 rfl ?_
  refine XW_sr (OW_mv rfl rfl (OW_mv rfl rfl (OW_mv rfl rfl (EN83 rfl ?_))))
  refine OW_bd rfl rfl (v := .agg [_, _, _]) rfl ?_
  refine OW_allocR hS1 (le_lit (ν := ν) (a := [1, 0]) (b := [4, 0, 1, 1, 1, 1, 1, 1]) (by decide)) (under_app [4, 0, 1, 1, 1, 1, 1, 1] under_me) rfl rfl rfl rfl fun H2 hS2 => ?_
  replace hS2 : Own _ _ _ ([_, _]) := hS2
  refine OW_storeR hS2 (k := 0) rfl le_refl rfl rfl rfl rfl ⟨rfl, rfl, Nat.le_of_ble_eq_true rfl⟩ (u2 := .agg [_, _, _]) rfl fun H3 hS3 => ?_
  replace hS3 : Own _ _ _ ([_, _]) := hS3
  refine EZ83 rfl ?_
  refine XW_seq (XW_sr (OW_mv rfl rfl (OW_un rfl rfl rfl (OW_mv rfl rfl (EN83 rfl ?_)))))
  refine OW_split (tt := 56) rfl (fun g7_3 => ?_) (fun g7_3 => ?_)
  ·try simp only [bs] at g7_3
   refine OW_no rfl (OW_no rfl (EN83 rfl (OW_pick rfl rfl rfl (OW_mv rfl rfl (OW_no rfl (EN83 rfl (OW_no rfl (OW_pick rfl rfl rfl (OW_mv rfl rfl ?_)))))))))
   refine EN83 rfl (OW_no rfl (OW_no rfl (OW_pick rfl rfl rfl (EN83 rfl (OW_mv rfl rfl (OW_no rfl (OW_no rfl (EN83 rfl (OW_pick rfl rfl rfl ?_)))))))))
   refine OW_mv rfl rfl (OW_no rfl (EN83 rfl (OW_no rfl (OW_pick rfl rfl rfl (OW_mv rfl rfl (EN83 rfl (OW_no rfl (OW_no rfl (OW_no rfl ?_)))))))))
   refine EN83 rfl (OW_pick rfl rfl rfl ?_)
   refine EZ83 rfl ?_
   refine XW_yes rfl rfl ?_
   refine XW_sr ?_
   refine OW_bd rfl rfl (v := .agg [_, _, _]) rfl ?_
   refine OW_storeR hS3 (k := 1) rfl (le_lit (ν := ν) (a := [6, 0, 1, 1, 1, 1, 1, 1]) (b := [1, 0, 1, 0, 1, 1, 1, 1, 1, 1, 1]) (by decide)) rfl rfl rfl rfl ⟨rfl, rfl, Nat.le_of_ble_eq_true rfl⟩ (u2 := .agg [_, _, _]) rfl fun H4 hS4 => ?_
   replace hS4 : Own _ _ _ ([_, _]) := hS4
   refine OW_as rfl rfl ?_
   refine EZ83 rfl ?_
   refine XW_ret (then_ret ?_)
   refine ret_ret (res2 rfl (rv_cellR hS4 (k := 1) rfl rfl rfl rfl (by exact part_whole rfl rfl rfl)) (rv_tmp rfl)) (frz2 (Q := Q) (by exact frA (frAc (by exact Ls.freeze Ls.emp) (frAc (by exact Ls.freeze Ls.emp) (frAc (by exact Ls.freeze Ls.emp) frAn)))) (by exact freeze_plain rfl) ?_)
   (rw [if_neg (by rintro ⟨e1, e2, e3, e4, e5, e6, e7⟩; simp_all; done)] at hq; exact hq)
  try simp only [bs] at g7_3
  refine OW_mv rfl rfl (OW_un rfl rfl rfl (EN83 rfl (OW_pick rfl rfl rfl (OW_mv rfl rfl ?_))))
  refine OW_split (tt := 60) rfl (fun g7_7 => ?_) (fun g7_7 => ?_)
  ·try simp only [bs] at g7_7
   refine EN83 rfl (OW_no rfl (OW_no rfl (OW_pick rfl rfl rfl (EN83 rfl (OW_mv rfl rfl (OW_no rfl (OW_no rfl (EN83 rfl (OW_pick rfl rfl rfl ?_)))))))))
   refine OW_mv rfl rfl (OW_no rfl (EN83 rfl (OW_no rfl (OW_pick rfl rfl rfl (OW_mv rfl rfl (EN83 rfl (OW_no rfl (OW_no rfl (OW_pick rfl rfl rfl ?_)))))))))
   refine EN83 rfl (OW_mv rfl rfl (OW_no rfl (OW_no rfl (EN83 rfl (OW_no rfl (OW_pick rfl rfl rfl ?_))))))
   refine EZ83 rfl ?_
   refine XW_yes rfl rfl ?_
   refine XW_sr ?_
   refine OW_bd rfl rfl (v := .agg [_, _, _]) rfl ?_
   refine OW_storeR hS3 (k := 1) rfl (le_lit (ν := ν) (a := [6, 0, 1, 1, 1, 1, 1, 1]) (b := [1, 0, 1, 0, 1, 1, 1, 1, 1, 1, 1]) (by decide)) rfl rfl rfl rfl ⟨rfl, rfl, Nat.le_of_ble_eq_true rfl⟩ (u2 := .agg [_, _, _]) rfl fun H5 hS5 => ?_
   replace hS5 : Own _ _ _ ([_, _]) := hS5
   refine OW_as rfl rfl ?_
   refine EZ83 rfl ?_
   refine XW_ret (then_ret ?_)
   refine ret_ret (res2 rfl (rv_cellR hS5 (k := 1) rfl rfl rfl rfl (by exact part_whole rfl rfl rfl)) (rv_tmp rfl)) (frz2 (Q := Q) (by exact frA (frAc (by exact Ls.freeze Ls.emp) (frAc (by exact Ls.freeze Ls.emp) (frAc (by exact Ls.freeze Ls.emp) frAn)))) (by exact freeze_plain rfl) ?_)
   (rw [if_neg (by rintro ⟨e1, e2, e3, e4, e5, e6, e7⟩; simp_all; done)] at hq; exact hq)
  try simp only [bs] at g7_7
  refine EN83 rfl (OW_mv rfl rfl (OW_un rfl rfl rfl (OW_pick rfl rfl rfl (EN83 rfl (OW_mv rfl rfl ?_)))))
  refine OW_split (tt := 64) rfl (fun g7_11 => ?_) (fun g7_11 => ?_)
  ·try simp only [bs] at g7_11
   refine OW_no rfl (EN83 rfl (OW_no rfl (OW_pick rfl rfl rfl (OW_mv rfl rfl (EN83 rfl (OW_no rfl (OW_no rfl (OW_pick rfl rfl rfl (EN83 rfl ?_)))))))))
   refine OW_mv rfl rfl (OW_no rfl (OW_no rfl (EN83 rfl (OW_pick rfl rfl rfl (OW_mv rfl rfl (OW_no rfl (EN83 rfl (OW_no rfl (OW_no rfl ?_)))))))))
   refine OW_pick rfl rfl rfl ?_
   refine EZ83 rfl ?_
   refine XW_yes rfl rfl ?_
   refine XW_sr ?_
   refine OW_bd rfl rfl (v := .agg [_, _, _]) rfl ?_
   refine OW_storeR hS3 (k := 1) rfl (le_lit (ν := ν) (a := [6, 0, 1, 1, 1, 1, 1, 1]) (b := [1, 0, 1, 0, 1, 1, 1, 1, 1, 1, 1]) (by decide)) rfl rfl rfl rfl ⟨rfl, rfl, Nat.le_of_ble_eq_true rfl⟩ (u2 := .agg [_, _, _]) rfl fun H6 hS6 => ?_
   replace hS6 : Own _ _ _ ([_, _]) := hS6
   refine OW_as rfl rfl ?_
   refine EZ83 rfl ?_
   refine XW_ret (then_ret ?_)
   refine ret_ret (res2 rfl (rv_cellR hS6 (k := 1) rfl rfl rfl rfl (by exact part_whole rfl rfl rfl)) (rv_tmp rfl)) (frz2 (Q := Q) (by exact frA (frAc (by exact Ls.freeze Ls.emp) (frAc (by exact Ls.freeze Ls.emp) (frAc (by exact Ls.freeze Ls.emp) frAn)))) (by exact freeze_plain rfl) ?_)
   (rw [if_neg (by rintro ⟨e1, e2, e3, e4, e5, e6, e7⟩; simp_all; done)] at hq; exact hq)
  try simp only [bs] at g7_11
  refine OW_mv rfl rfl (EN83 rfl (OW_un rfl rfl rfl (OW_pick rfl rfl rfl (OW_mv rfl rfl (EN83 rfl ?_)))))
  refine OW_split (tt := 68) rfl (fun g7_15 => ?_) (fun g7_15 => ?_)
  ·try simp only [bs] at g7_15
   refine OW_no rfl (OW_no rfl (EN83 rfl (OW_pick rfl rfl rfl (OW_mv rfl rfl (OW_no rfl (EN83 rfl (OW_no rfl (OW_pick rfl rfl rfl (OW_mv rfl rfl ?_)))))))))
   refine EN83 rfl (OW_no rfl (OW_no rfl (OW_no rfl (EN83 rfl (OW_pick rfl rfl rfl ?_)))))
   refine EZ83 rfl ?_
   refine XW_yes rfl rfl ?_
   refine XW_sr ?_
   refine OW_bd rfl rfl (v := .agg [_, _, _]) rfl ?_
   refine OW_storeR hS3 (k := 1) rfl (le_lit (ν := ν) (a := [6, 0, 1, 1, 1, 1, 1, 1]) (b := [1, 0, 1, 0, 1, 1, 1, 1, 1, 1, 1]) (by decide)) rfl rfl rfl rfl ⟨rfl, rfl, Nat.le_of_ble_eq_true rfl⟩ (u2 := .agg [_, _, _]) rfl fun H7 hS7 => ?_
   replace hS7 : Own _ _ _ ([_, _]) := hS7
   refine OW_as rfl rfl ?_
   refine EZ83 rfl ?_
   refine XW_ret (then_ret ?_)
   refine ret_ret (res2 rfl (rv_cellR hS7 (k := 1) rfl rfl rfl rfl (by exact part_whole rfl rfl rfl)) (rv_tmp rfl)) (frz2 (Q := Q) (by exact frA (frAc (by exact Ls.freeze Ls.emp) (frAc (by exact Ls.freeze Ls.emp) (frAc (by exact Ls.freeze Ls.emp) frAn)))) (by exact freeze_plain rfl) ?_)
   (rw [if_neg (by rintro ⟨e1, e2, e3, e4, e5, e6, e7⟩; simp_all; done)] at hq; exact hq)
  try simp only [bs] at g7_15
  refine OW_mv rfl rfl (OW_un rfl rfl rfl (EN83 rfl (OW_pick rfl rfl rfl (OW_mv rfl rfl ?_))))
  refine OW_split (tt := 72) rfl (fun g7_19 => ?_) (fun g7_19 => ?_)
  ·try simp only [bs] at g7_19
   refine EN83 rfl (OW_no rfl (OW_no rfl (OW_pick rfl rfl rfl (EN83 rfl (OW_mv rfl rfl (OW_no rfl (OW_no rfl (EN83 rfl (OW_no rfl ?_)))))))))
   refine OW_pick rfl rfl rfl ?_
   refine EZ83 rfl ?_
   refine XW_yes rfl rfl ?_
   refine XW_sr ?_
   refine OW_bd rfl rfl (v := .agg [_, _, _]) rfl ?_
   refine OW_storeR hS3 (k := 1) rfl (le_lit (ν := ν) (a := [6, 0, 1, 1, 1, 1, 1, 1]) (b := [1, 0, 1, 0, 1, 1, 1, 1, 1, 1, 1]) (by decide)) rfl rfl rfl rfl ⟨rfl, rfl, Nat.le_of_ble_eq_true rfl⟩ (u2 := .agg [_, _, _]) rfl fun H8 hS8 => ?_
   replace hS8 : Own _ _ _ ([_, _]) := hS8
   refine OW_as rfl rfl ?_
   refine EZ83 rfl ?_
   refine XW_ret (then_ret ?_)
   refine ret_ret (res2 rfl (rv_cellR hS8 (k := 1) rfl rfl rfl rfl (by exact part_whole rfl rfl rfl)) (rv_tmp rfl)) (frz2 (Q := Q) (by exact frA (frAc (by exact Ls.freeze Ls.emp) (frAc (by exact Ls.freeze Ls.emp) (frAc (by exact Ls.freeze Ls.emp) frAn)))) (by exact freeze_plain rfl) ?_)
   (rw [if_neg (by rintro ⟨e1, e2, e3, e4, e5, e6, e7⟩; simp_all; done)] at hq; exact hq)
  try simp only [bs] at g7_19
  refine EN83 rfl (OW_mv rfl rfl ?_)
  refine OW_bin rfl rfl rfl rfl rfl ?_
  refine OW_pick rfl rfl rfl (EN83 rfl (OW_mv rfl rfl ?_))
  refine OW_split (tt := 76) rfl (fun g7_23 => ?_) (fun g7_23 => ?_)
  ·try simp only [bs] at g7_23
   refine OW_no rfl (EN83 rfl (OW_no rfl (OW_no rfl (OW_pick rfl rfl rfl ?_))))
   refine EZ83 rfl ?_
   refine XW_yes rfl rfl ?_
   refine XW_sr ?_
   refine OW_bd rfl rfl (v := .agg [_, _, _]) rfl ?_
   refine OW_storeR hS3 (k := 1) rfl (le_lit (ν := ν) (a := [6, 0, 1, 1, 1, 1, 1, 1]) (b := [1, 0, 1, 0, 1, 1, 1, 1, 1, 1, 1]) (by decide)) rfl rfl rfl rfl ⟨rfl, rfl, Nat.le_of_ble_eq_true rfl⟩ (u2 := .agg [_, _, _]) rfl fun H9 hS9 => ?_
   replace hS9 : Own _ _ _ ([_, _]) := hS9
   refine OW_as rfl rfl ?_
   refine EZ83 rfl ?_
   refine XW_ret (then_ret ?_)
   refine ret_ret (res2 rfl (rv_cellR hS9 (k := 1) rfl rfl rfl rfl (by exact part_whole rfl rfl rfl)) (rv_tmp rfl)) (frz2 (Q := Q) (by exact frA (frAc (by exact Ls.freeze Ls.emp) (frAc (by exact Ls.freeze Ls.emp) (frAc (by exact Ls.freeze Ls.emp) frAn)))) (by exact freeze_plain rfl) ?_)
   (rw [if_neg (by rintro ⟨e1, e2, e3, e4, e5, e6, e7⟩; simp_all; done)] at hq; exact hq)
  try simp only [bs] at g7_23
  refine OW_loadR hS3 (k := 0) rfl rfl rfl rfl rfl (by exact part_whole rfl rfl rfl) ?_
  refine EN83 rfl ?_
  refine OW_fn rfl rfl (pk_check (c := ⟨v.1, a.1, b.1⟩) ⟨by show v.1.length ≤ _; omega, by show a.1.length ≤ _; omega, by show b.1.length ≤ _; omega, fun x hx => by have := (s9 x hx).2.2; omega⟩ ?_) 
  refine OW_un rfl rfl rfl (OW_pick rfl rfl rfl ?_)
  refine EZ83 rfl ?_
  refine XW_if rfl (fun h7 => ?_) (fun h7 => ?_)
  ·try simp only [bs] at h7
   refine XW_sr ?_
   refine OW_bd rfl rfl (v := .agg [_, _, _]) rfl ?_
   refine OW_storeR hS3 (k := 1) rfl (le_lit (ν := ν) (a := [6, 0, 1, 1, 1, 1, 1, 1]) (b := [1, 0, 1, 0, 1, 1, 1, 1, 1, 1, 1]) (by decide)) rfl rfl rfl rfl ⟨rfl, rfl, Nat.le_of_ble_eq_true rfl⟩ (u2 := .agg [_, _, _]) rfl fun H10 hS10 => ?_
   replace hS10 : Own _ _ _ ([_, _]) := hS10
   refine OW_as rfl rfl ?_
   refine EZ83 rfl ?_
   refine XW_ret (then_ret ?_)
   refine ret_ret (res2 rfl (rv_cellR hS10 (k := 1) rfl rfl rfl rfl (by exact part_whole rfl rfl rfl)) (rv_tmp rfl)) (frz2 (Q := Q) (by exact frA (frAc (by exact Ls.freeze Ls.emp) (frAc (by exact Ls.freeze Ls.emp) (frAc (by exact Ls.freeze Ls.emp) frAn)))) (by exact freeze_plain rfl) ?_)
   (rw [if_neg (by rintro ⟨e1, e2, e3, e4, e5, e6, e7⟩; simp_all; done)] at hq; exact hq)
  try simp only [bs] at h7
  refine XW_skip (then_norm (XW_sr ?_))
  refine OW_loadR hS3 (k := 0) rfl rfl rfl rfl rfl (by exact part_whole rfl rfl rfl) ?_
  refine OW_storeR hS3 (k := 1) rfl (le_lit (ν := ν) (a := [6, 0, 1, 1, 1, 1, 1, 1]) (b := [1, 0, 1, 1, 1, 1, 1, 1, 1, 1]) (by decide)) rfl rfl rfl rfl ⟨rfl, rfl, Nat.le_of_ble_eq_true rfl⟩ (u2 := .agg [_, _, _]) rfl fun H11 hS11 => ?_
  replace hS11 : Own _ _ _ ([_, _]) := hS11
  refine OW_as rfl rfl ?_
  refine EZ83 rfl ?_
  refine XW_ret ?_
  refine ret_ret (res2 rfl (rv_cellR hS11 (k := 1) rfl rfl rfl rfl (by exact part_whole rfl rfl rfl)) (rv_tmp rfl)) (frz2 (Q := Q) (by exact freeze_plain rfl) (by exact freeze_plain rfl) ?_)
  (rw [if_pos ⟨by assumption, by assumption, by assumption, by assumption, by assumption, by assumption, by assumption⟩] at hq; exact hq)
theorem rnums_e4 {s : ByteArray} {l : List Int} {r : ByteArray} {b : Bool} (hs : s.size ≤ 4611686018427387904) (he : resN 4 s = (l, r, b)) (hq : Q (.tup [.lst (l.map encN), .str r, .bool b]) H) : CW cfg ν 62 [.str s, .int .i64 4] H Q := rnums_c (m := 4) hs (by decide) (by rw [he]; exact hq)
theorem vo_plain (t : List Vo) : ∀ x ∈ t.map Vo.enc, plain x = true := fun x hx => by obtain ⟨y, _, rfl⟩ := List.mem_map.1 hx; rfl
theorem parC_no {s : ByteArray} (h : volR s = ([], ⟨#[]⟩, false)) : parC s = (ck0, false) := by rw [parC_if h rfl rfl rfl rfl]; exact if_neg fun e => nomatch e.1
set_option maxHeartbeats 1000000 in
theorem r_parseCk {s : ByteArray} (hs : s.size ≤ 4611686018427387904) (hq : Q (.tup [(parC s).1.enc, .bool (parC s).2]) H) : CW cfg ν 22 [.str s] H Q := by
  rcases resU_cases s with ⟨h1, h2⟩ | ⟨n, r, h1, h2, hn, hr⟩
  · rw [parC_no (volR_no h1)] at hq
    refine CW_pure g22 F22 rfl ?_
    have hS0 : Own ν ν (fun _ => none) [] := Own.nil
    refine XW_sr ?_
    refine OW_allocR hS0 (le_app (p := ν) (b := [0, 0])) (under_app [0, 0] under_me) rfl rfl rfl rfl fun H1 hS1 => ?_
    replace hS1 : Own _ _ _ ([_]) := hS1
    refine OW_as rfl rfl ?_
    refine EZ144 rfl ?_
    refine XW_sr ?_
    refine OW_bd rfl rfl (v := .agg [_, _, _]) rfl ?_
    refine OW_allocR hS1 (le_lit (ν := ν) (a := [1, 0]) (b := [1, 0, 1]) (by decide)) (under_app [1, 0, 1] under_me) rfl rfl rfl rfl fun H2 hS2 => ?_
    replace hS2 : Own _ _ _ ([_, _]) := hS2
    refine OW_storeR hS2 (k := 0) rfl le_refl rfl rfl rfl rfl ⟨rfl, rfl, Nat.le_of_ble_eq_true rfl⟩ (u2 := .agg [_, _, _]) rfl fun H3 hS3 => ?_
    replace hS3 : Own _ _ _ ([_, _]) := hS3
    refine EZ144 rfl ?_
    refine XW_sr (OW_mv rfl rfl ?_)
    refine OW_fn rfl rfl (rtakeU_e hs h2 ?_) 
    refine OW_mv rfl rfl (EN144 rfl (OW_ex rfl rfl rfl (OW_ex rfl rfl rfl (OW_ex rfl rfl rfl (EN144 rfl (OW_as rfl rfl (OW_as rfl rfl (OW_as rfl rfl ?_))))))))
    refine EZ144 rfl ?_
    refine XW_seq (XW_sr (OW_mv rfl rfl (OW_un rfl rfl rfl (OW_mv rfl rfl (EN144 rfl (OW_no rfl (OW_no rfl (OW_pick rfl rfl rfl ?_))))))))
    refine EZ144 rfl ?_
    refine XW_yes rfl rfl ?_
    refine XW_sr ?_
    refine OW_bd rfl rfl (v := .agg [_, _, _]) rfl ?_
    refine OW_storeR hS3 (k := 1) rfl (le_lit (ν := ν) (a := [3, 0, 1]) (b := [1, 0, 1, 0, 1, 1, 1]) (by decide)) rfl rfl rfl rfl ⟨rfl, rfl, Nat.le_of_ble_eq_true rfl⟩ (u2 := .agg [_, _, _]) rfl fun H4 hS4 => ?_
    replace hS4 : Own _ _ _ ([_, _]) := hS4
    refine OW_as rfl rfl ?_
    refine EZ144 rfl ?_
    refine XW_ret (then_ret ?_)
    refine ret_ret (res2 rfl (rv_cellR hS4 (k := 1) rfl rfl rfl rfl (by exact part_whole rfl rfl rfl)) (rv_tmp rfl)) (frz2 (Q := Q) (by exact frA (frAc (by exact Ls.freeze Ls.emp) (frAc (by exact Ls.freeze Ls.emp) (frAc (by exact Ls.freeze Ls.emp) frAn)))) (by exact freeze_plain rfl) ?_)
    exact hq
  have hbr : (ba r).size = r.length := ba_size r
  have hV := volR_far h1
  refine CW_pure g22 F22 rfl ?_
  have hS0 : Own ν ν (fun _ => none) [] := Own.nil
  refine XW_sr ?_
  refine OW_allocR hS0 (le_app (p := ν) (b := [0, 0])) (under_app [0, 0] under_me) rfl rfl rfl rfl fun H1 hS1 => ?_
  replace hS1 : Own _ _ _ ([_]) := hS1
  refine OW_as rfl rfl ?_
  refine EZ144 rfl ?_
  refine XW_sr ?_
  refine OW_bd rfl rfl (v := .agg [_, _, _]) rfl ?_
  refine OW_allocR hS1 (le_lit (ν := ν) (a := [1, 0]) (b := [1, 0, 1]) (by decide)) (under_app [1, 0, 1] under_me) rfl rfl rfl rfl fun H2 hS2 => ?_
  replace hS2 : Own _ _ _ ([_, _]) := hS2
  refine OW_storeR hS2 (k := 0) rfl le_refl rfl rfl rfl rfl ⟨rfl, rfl, Nat.le_of_ble_eq_true rfl⟩ (u2 := .agg [_, _, _]) rfl fun H3 hS3 => ?_
  replace hS3 : Own _ _ _ ([_, _]) := hS3
  refine EZ144 rfl ?_
  refine XW_sr (OW_mv rfl rfl ?_)
  refine OW_fn rfl rfl (rtakeU_e hs h2 ?_) 
  refine OW_mv rfl rfl (EN144 rfl (OW_ex rfl rfl rfl (OW_ex rfl rfl rfl (OW_ex rfl rfl rfl (EN144 rfl (OW_as rfl rfl (OW_as rfl rfl (OW_as rfl rfl ?_))))))))
  refine EZ144 rfl ?_
  refine XW_seq (XW_sr (OW_mv rfl rfl (OW_un rfl rfl rfl (OW_mv rfl rfl (EN144 rfl (OW_mv rfl rfl ?_))))))
  refine OW_bin rfl rfl rfl rfl rfl ?_
  refine OW_pick rfl rfl rfl ?_
  refine EZ144 rfl ?_
  refine XW_if rfl (fun h3 => ?_) (fun h3 => ?_)
  ·try simp only [bs] at h3
   refine XW_sr ?_
   rw [if_neg (by omega)] at hV
   rw [parC_no hV] at hq
   refine OW_bd rfl rfl (v := .agg [_, _, _]) rfl ?_
   refine OW_storeR hS3 (k := 1) rfl (le_lit (ν := ν) (a := [3, 0, 1]) (b := [1, 0, 1, 0, 1, 1, 1]) (by decide)) rfl rfl rfl rfl ⟨rfl, rfl, Nat.le_of_ble_eq_true rfl⟩ (u2 := .agg [_, _, _]) rfl fun H4 hS4 => ?_
   replace hS4 : Own _ _ _ ([_, _]) := hS4
   refine OW_as rfl rfl ?_
   refine EZ144 rfl ?_
   refine XW_ret (then_ret ?_)
   refine ret_ret (res2 rfl (rv_cellR hS4 (k := 1) rfl rfl rfl rfl (by exact part_whole rfl rfl rfl)) (rv_tmp rfl)) (frz2 (Q := Q) (by exact frA (frAc (by exact Ls.freeze Ls.emp) (frAc (by exact Ls.freeze Ls.emp) (frAc (by exact Ls.freeze Ls.emp) frAn)))) (by exact freeze_plain rfl) ?_)
   exact hq
  try simp only [bs] at h3
  refine XW_skip (then_norm (XW_seq (XW_sr ?_)))
  rw [if_pos (by omega)] at hV
  refine OW_as rfl rfl ?_
  refine EZ144 rfl ?_
  refine XW_block ?_
  refine XW_whileN (I := fun ν' mm ee H' => ∃ (i : Nat) (O : AVal) (acc : List Vo) (rest : ByteArray), mm = n - i ∧ under (1 :: 0 :: 1 :: 1 :: 1 :: 1 :: ν) ν' = true ∧ Own ν ν' H' ([row (1 :: 0 :: 1 :: ν) 3 [.agg [O, .emp, .emp]], sl O 5 (acc.map Vo.enc), row (0 :: 0 :: ν) 3 [.agg [.emp, .emp, .emp]]]) ∧ (cVo.Far n r i acc rest.data.toList ∧ rest.size ≤ s.size) ∧ ∃ g : Nat → AVal, ee = [g 0, g 1, .ptr (0 :: 0 :: ν) 0 0, .bool false, .ptr (1 :: 0 :: 1 :: ν) 0 0, .int .u64 n, .str rest, g 7, .int .u64 i, g 9, g 10, g 11, g 12, g 13, g 14, g 15, g 16, g 17, g 18, g 19, g 20, g 21, g 22, g 23, g 24, g 25, g 26, g 27, g 28, g 29, g 30, g 31, g 32, g 33, g 34, g 35, g 36, g 37, g 38, g 39, g 40, g 41, g 42, g 43, g 44, g 45, g 46, g 47, g 48, g 49, g 50, g 51, g 52, g 53, g 54, g 55, g 56, g 57, g 58, g 59, g 60, g 61, g 62, g 63, g 64, g 65, g 66, g 67, g 68, g 69, g 70, g 71, g 72, g 73, g 74, g 75, g 76, g 77, g 78, g 79, g 80, g 81, g 82, g 83, g 84, g 85, g 86, g 87, g 88, g 89, g 90, g 91, g 92, g 93, g 94, g 95, g 96, g 97, g 98, g 99, g 100, g 101, g 102, g 103, g 104, g 105, g 106, g 107, g 108, g 109, g 110, g 111, g 112, g 113, g 114, g 115, g 116, g 117, g 118, g 119, g 120, g 121, g 122, g 123, g 124, g 125, g 126, g 127, g 128, g 129, g 130, g 131, g 132, g 133, g 134, g 135, g 136, g 137, g 138, g 139, g 140, g 141, g 142, g 143]) ?_ _ _ _ _ ⟨0, .emp, [], ba r, rfl, under_me, Own.cast (Own.mono (Own.rot (A := [_]) (Own.addE (w := 5) hS3)) (le_lit (ν := ν) (a := [3, 0, 1]) (b := [1, 0, 1, 1, 1, 1]) (by decide))) (rfl), (⟨by rw [ba_data]; exact cVo.far0 n r, by omega⟩), env_g rfl⟩
  rintro ν1 mm ee H5 ⟨i, O, acc, rest, rfl, hU1, hS5, ⟨hF, hrs⟩, g1, rfl⟩
  refine XW_seq (XW_sr (OW_mv rfl rfl (OW_mv rfl rfl ?_)))
  refine OW_bin rfl rfl rfl rfl rfl ?_
  refine EZ144 rfl ?_
  refine XW_if rfl (fun h6 => ?_) (fun h6 => ?_)
  ·try simp only [bs] at h6
   refine XW_skip (then_norm (XW_seq (XW_block (XW_sr ?_))))
   obtain ⟨l4, r4, b4, hN, hr4, hF4, hT4⟩ := take4 rest
   have hal := hF.2.1
   refine OW_mv rfl rfl ?_
   refine OW_fn rfl rfl (rnums_e4 (by omega) hN ?_) 
   refine OW_mv rfl rfl (EN144 rfl (OW_ex rfl rfl rfl (OW_ex rfl rfl rfl (OW_ex rfl rfl rfl (EN144 rfl (OW_as rfl rfl (OW_as rfl rfl (OW_as rfl rfl ?_))))))))
   refine EZ144 rfl ?_
   refine XW_seq (XW_sr (OW_mv rfl rfl (OW_un rfl rfl rfl (OW_mv rfl rfl (EN144 rfl ?_)))))
   refine OW_split (tt := 52) rfl (fun g9_3 => ?_) (fun g9_3 => ?_)
   ·try simp only [bs] at g9_3
    refine OW_no rfl (OW_no rfl (EN144 rfl (OW_no rfl (OW_no rfl (OW_pick rfl rfl rfl ?_)))))
    refine EZ144 rfl ?_
    refine XW_yes rfl rfl ?_
    refine XW_sr ?_
    rw [Cod.far_none hF (by omega) (hF4 (by assumption))] at hV
    rw [parC_no hV] at hq
    refine OW_bd rfl rfl (v := .agg [_, _, _]) rfl ?_
    refine OW_storeR hS5 (k := 2) rfl (le_app (p := ν1) (b := [1, 0, 1, 0, 1, 0, 1, 0])) rfl rfl rfl rfl ⟨rfl, rfl, Nat.le_of_ble_eq_true rfl⟩ (u2 := .agg [_, _, _]) rfl fun H6 hS6 => ?_
    replace hS6 : Own _ _ _ ([_, _, _]) := hS6
    refine OW_as rfl rfl ?_
    refine EZ144 rfl ?_
    refine XW_ret (then_ret (block_ret (then_ret (block_ret (then_ret ?_)))))
    have fz1 := hS6.frz (k := 1) (n := 5) rfl (by exact map_plain (fun _ => rfl))
    refine ret_ret (res2 rfl (rv_cellR hS6 (k := 2) rfl rfl rfl rfl (by exact part_whole rfl rfl rfl)) (rv_tmp rfl)) (frz2 (Q := Q) (by exact frA (frAc (by exact Ls.freeze Ls.emp) (frAc (by exact Ls.freeze Ls.emp) (frAc (by exact Ls.freeze Ls.emp) frAn)))) (by exact freeze_plain rfl) ?_)
    exact hq
   try simp only [bs] at g9_3
   refine OW_mv rfl rfl ?_
   obtain ⟨x, y, z, d, rfl, hd, htk⟩ := hT4 (by assumption)
   refine OW_iaL rfl rfl rfl Ls.of rfl rfl rfl (by rfl) (by rfl) rfl ?_
   refine EN144 rfl ?_
   refine OW_loadE rfl rfl rfl (by rfl) ?_
   refine OW_bin rfl rfl rfl rfl rfl ?_
   refine OW_pick rfl rfl rfl ?_
   refine EZ144 rfl ?_
   refine XW_if rfl (fun h9 => ?_) (fun h9 => ?_)
   ·try simp only [bs] at h9
    refine XW_sr ?_
    rw [Cod.far_none hF (by omega) (by rw [htk, if_neg (by omega)])] at hV
    rw [parC_no hV] at hq
    refine OW_bd rfl rfl (v := .agg [_, _, _]) rfl ?_
    refine OW_storeR hS5 (k := 2) rfl (le_app (p := ν1) (b := [1, 0, 1, 0, 1, 0, 1, 0])) rfl rfl rfl rfl ⟨rfl, rfl, Nat.le_of_ble_eq_true rfl⟩ (u2 := .agg [_, _, _]) rfl fun H7 hS7 => ?_
    replace hS7 : Own _ _ _ ([_, _, _]) := hS7
    refine OW_as rfl rfl ?_
    refine EZ144 rfl ?_
    refine XW_ret (then_ret (block_ret (then_ret (block_ret (then_ret ?_)))))
    have fz1 := hS7.frz (k := 1) (n := 5) rfl (by exact map_plain (fun _ => rfl))
    refine ret_ret (res2 rfl (rv_cellR hS7 (k := 2) rfl rfl rfl rfl (by exact part_whole rfl rfl rfl)) (rv_tmp rfl)) (frz2 (Q := Q) (by exact frA (frAc (by exact Ls.freeze Ls.emp) (frAc (by exact Ls.freeze Ls.emp) (frAc (by exact Ls.freeze Ls.emp) frAn)))) (by exact freeze_plain rfl) ?_)
    exact hq
   try simp only [bs] at h9
   refine XW_skip (then_norm (XW_sr (OW_mv rfl rfl ?_)))
   refine OW_fn rfl rfl (rtakeL_c (by omega) (by decide) (by decide) ?_) 
   refine OW_mv rfl rfl (EN144 rfl (OW_ex rfl rfl rfl (OW_ex rfl rfl rfl (OW_ex rfl rfl rfl (EN144 rfl (OW_as rfl rfl (OW_as rfl rfl (OW_as rfl rfl ?_))))))))
   refine EZ144 rfl ?_
   refine XW_seq (XW_sr ?_)
   have hz := resL_size r4
   refine OW_mv rfl rfl (OW_un rfl rfl rfl ?_)
   refine EZ144 rfl ?_
   refine XW_if rfl (fun h12 => ?_) (fun h12 => ?_)
   ·try simp only [bs] at h12
    refine XW_sr ?_
    rw [Cod.far_none hF (by omega) (by rw [htk, if_pos (by omega), resL_no (by assumption)])] at hV; rw [parC_no hV] at hq
    refine OW_bd rfl rfl (v := .agg [_, _, _]) rfl ?_
    refine OW_storeR hS5 (k := 2) rfl (le_app (p := ν1) (b := [1, 0, 1, 0, 1, 1, 1, 0, 1, 0])) rfl rfl rfl rfl ⟨rfl, rfl, Nat.le_of_ble_eq_true rfl⟩ (u2 := .agg [_, _, _]) rfl fun H8 hS8 => ?_
    replace hS8 : Own _ _ _ ([_, _, _]) := hS8
    refine OW_as rfl rfl ?_
    refine EZ144 rfl ?_
    refine XW_ret (then_ret (block_ret (then_ret (block_ret (then_ret ?_)))))
    have fz1 := hS8.frz (k := 1) (n := 5) rfl (by exact map_plain (fun _ => rfl))
    refine ret_ret (res2 rfl (rv_cellR hS8 (k := 2) rfl rfl rfl rfl (by exact part_whole rfl rfl rfl)) (rv_tmp rfl)) (frz2 (Q := Q) (by exact frA (frAc (by exact Ls.freeze Ls.emp) (frAc (by exact Ls.freeze Ls.emp) (frAc (by exact Ls.freeze Ls.emp) frAn)))) (by exact freeze_plain rfl) ?_)
    exact hq
   try simp only [bs] at h12
   refine XW_skip (then_norm (XW_sr (OW_fa rfl rfl rfl ?_)))
   refine OW_loadR hS5 (k := 0) rfl rfl rfl rfl rfl (by rfl) ?_
   refine OW_mv rfl rfl (EN144 rfl ?_)
   refine OW_iaL rfl rfl rfl Ls.of rfl rfl rfl (by rfl) (by rfl) rfl ?_
   refine OW_loadE rfl rfl rfl (by rfl) ?_
   refine OW_mv rfl rfl (EN144 rfl ?_)
   refine OW_iaL rfl rfl rfl Ls.of rfl rfl rfl (by rfl) (by rfl) rfl ?_
   refine OW_loadE rfl rfl rfl (by rfl) ?_
   refine OW_mv rfl rfl (EN144 rfl ?_)
   refine OW_iaL rfl rfl rfl Ls.of rfl rfl rfl (by rfl) (by rfl) rfl ?_
   refine OW_loadE rfl rfl rfl (by rfl) ?_
   refine OW_mv rfl rfl (EN144 rfl ?_)
   refine OW_iaL rfl rfl rfl Ls.of rfl rfl rfl (by rfl) (by rfl) rfl ?_
   refine OW_loadE rfl rfl rfl (by rfl) ?_
   refine OW_conv rfl rfl (conv_in rfl rfl rfl (IntWalk.i64_in _ (by omega))) ?_
   refine EN144 rfl (OW_mv rfl rfl ?_)
   refine OW_bd rfl rfl (v := .agg [_, _, _, _, _]) rfl ?_
   refine OW_bs rfl rfl (v := .lst [_]) rfl ?_
   refine EN144 rfl ?_
   refine OW_app hS5 (k := 1) rfl (le_app (p := ν1) (b := [18, 0, 1, 1, 1, 1, 0, 1, 0])) (under_app [18, 0, 1, 1, 1, 1, 0, 1, 0] (under_trans (under_app [1, 0, 1, 1, 1, 1] under_me) hU1)) rfl rfl rfl rfl rfl rfl rfl rfl (by rfl) (by exact one_wide rfl) (by (simp only [ss]; omega)) (by decide) fun O1 H9 hS9 => ?_
   replace hS9 : Own _ _ _ ([_, _, _]) := hS9
   refine OW_fa rfl rfl rfl ?_
   refine OW_storeC hS9 (k := 0) rfl (le_lit (ν := ν1) (a := [19, 0, 1, 1, 1, 1, 0, 1, 0]) (b := [20, 0, 1, 1, 1, 1, 0, 1, 0]) (by decide)) rfl rfl rfl (hS9.one (k := 1) rfl) rfl rfl (Nat.le_of_ble_eq_true rfl) (u2 := .agg [_, _, _]) rfl fun H10 hS10 => ?_
   replace hS10 : Own _ _ _ ([_, _, _]) := hS10
   refine EZ144 rfl ?_
   refine XW_region (OW_mv rfl rfl (OW_as rfl rfl ?_))
   refine EZ144 rfl ?_
   refine block_norm (then_norm (XW_region (OW_mv rfl rfl ?_)))
   refine OW_bin rfl rfl rfl rfl (add_wu64 (by omega)) ?_
   refine OW_as rfl rfl ?_
   refine EZ144 rfl ?_
   refine ⟨_, ?_, i + 1, O1, acc ++ [⟨x, y, z, d, (resL 16 r4).1⟩], (resL 16 r4).2.1, rfl, under_in hU1, Own.cast (Own.mono (hS10) (le_lit (ν := ν1) (a := [21, 0, 1, 1, 1, 1, 0, 1, 0]) (b := [1]) (by decide))) (by rw [List.map_append]; rfl), ?_, env_g rfl⟩
   · omega
   exact ⟨Cod.far_step hF (by omega) (by rw [htk, if_pos (by omega), resL_yes (by assumption)]), by omega⟩
  try simp only [bs] at h6
  refine XW_exit (then_exit (block_exit (then_norm (XW_sr ?_))))
  rw [Cod.far_end hF (by omega)] at hV
  have hv : volR s = (acc, rest, true) := hV.trans (by show (acc, ba rest.data.toList, true) = _; rw [ba_of]); clear hV
  obtain ⟨t, ht⟩ : ∃ t, resT (rest.size : Int) rest = t := ⟨_, rfl⟩; obtain ⟨q, hqq⟩ : ∃ q, resT (t.2.1.size : Int) t.2.1 = q := ⟨_, rfl⟩; obtain ⟨a, ha⟩ : ∃ a, SE.resP t.1 = a := ⟨_, rfl⟩; obtain ⟨b, hb⟩ : ∃ b, resP q.1 = b := ⟨_, rfl⟩; rw [parC_if hv ht hqq ha hb] at hq
  have s1 := volR_sz s; rw [hv] at s1; obtain ⟨s0, s8, s9⟩ := s1; have s2 := resT_size1 (rest.size : Int) rest; have s3 := resT_size (rest.size : Int) rest; rw [ht] at s2 s3; have s4 := resT_size1 (t.2.1.size : Int) t.2.1; have s5 := resT_size (t.2.1.size : Int) t.2.1; rw [hqq] at s4 s5; have s6 := se_len t.1; rw [ha] at s6; have s7 := resP_len q.1; rw [hb] at s7
  refine OW_mv rfl rfl (OW_mv rfl rfl ?_)
  refine OW_lenS rfl rfl rfl ?_
  refine EN144 rfl ?_
  refine OW_fn rfl rfl (rtakeT_c (by omega) (by omega) ?_) 
  rw [ht]
  refine OW_mv rfl rfl (OW_ex rfl rfl rfl (EN144 rfl (OW_ex rfl rfl rfl (OW_ex rfl rfl rfl (OW_as rfl rfl (EN144 rfl (OW_as rfl rfl (OW_as rfl rfl ?_))))))))
  refine EZ144 rfl ?_
  refine XW_sr (OW_mv rfl rfl (OW_mv rfl rfl ?_))
  refine OW_lenS rfl rfl rfl ?_
  refine EN144 rfl ?_
  refine OW_fn rfl rfl (rtakeT_c (by omega) (by omega) ?_) 
  rw [hqq]
  refine OW_mv rfl rfl (OW_ex rfl rfl rfl (EN144 rfl (OW_ex rfl rfl rfl (OW_ex rfl rfl rfl (OW_as rfl rfl (EN144 rfl (OW_as rfl rfl (OW_as rfl rfl ?_))))))))
  refine EZ144 rfl ?_
  refine XW_sr (OW_mv rfl rfl ?_)
  refine OW_fn rfl rfl (SE.r_parse (by omega) ?_) 
  rw [ha]
  refine OW_mv rfl rfl (EN144 rfl (OW_ex rfl rfl rfl (OW_ex rfl rfl rfl (OW_as rfl rfl (EN144 rfl (OW_as rfl rfl ?_))))))
  refine EZ144 rfl ?_
  refine XW_sr (OW_mv rfl rfl ?_)
  refine OW_fn rfl rfl (r_parse (by omega) ?_) 
  rw [hb]
  refine OW_mv rfl rfl (EN144 rfl (OW_ex rfl rfl rfl (OW_ex rfl rfl rfl (OW_as rfl rfl (EN144 rfl (OW_as rfl rfl ?_))))))
  refine EZ144 rfl ?_
  refine XW_sr (OW_mv rfl rfl (OW_fa rfl rfl rfl ?_))
  refine OW_storeR hS5 (k := 0) rfl (le_bef (bef_under (a := []) hU1 (before_lit (ν := ν) (a := [1, 0, 1, 1, 1, 1]) (b := [2, 0, 1, 1, 1, 1, 1, 1, 1, 1, 1]) (by decide)))) rfl rfl rfl rfl ⟨rfl, rfl, Nat.le_of_ble_eq_true rfl⟩ (u2 := .agg [_, _, _]) rfl fun H11 hS11 => ?_
  replace hS11 : Own _ _ _ ([_, _, _]) := hS11
  refine EZ144 rfl ?_
  refine XW_sr (OW_mv rfl rfl (OW_fa rfl rfl rfl ?_))
  refine OW_storeR hS11 (k := 0) rfl (le_lit (ν := ν) (a := [3, 0, 1, 1, 1, 1, 1, 1, 1, 1, 1]) (b := [2, 0, 1, 1, 1, 1, 1, 1, 1, 1, 1, 1]) (by decide)) rfl rfl rfl rfl ⟨rfl, rfl, Nat.le_of_ble_eq_true rfl⟩ (u2 := .agg [_, _, _]) rfl fun H12 hS12 => ?_
  replace hS12 : Own _ _ _ ([_, _, _]) := hS12
  refine EZ144 rfl ?_
  refine XW_seq (XW_sr (OW_mv rfl rfl (OW_un rfl rfl rfl (OW_mv rfl rfl (EN144 rfl ?_)))))
  refine OW_split (tt := 121) rfl (fun g22_3 => ?_) (fun g22_3 => ?_)
  ·try simp only [bs] at g22_3
   refine OW_no rfl (OW_no rfl (EN144 rfl (OW_pick rfl rfl rfl (OW_mv rfl rfl (OW_no rfl (EN144 rfl (OW_no rfl (OW_pick rfl rfl rfl (OW_mv rfl rfl ?_)))))))))
   refine EN144 rfl (OW_no rfl (OW_no rfl (OW_pick rfl rfl rfl (EN144 rfl (OW_mv rfl rfl (OW_no rfl (OW_no rfl (EN144 rfl (OW_pick rfl rfl rfl ?_)))))))))
   refine OW_mv rfl rfl (OW_no rfl (EN144 rfl (OW_no rfl (OW_no rfl (OW_pick rfl rfl rfl ?_)))))
   refine EZ144 rfl ?_
   refine XW_yes rfl rfl ?_
   refine XW_sr ?_
   refine OW_bd rfl rfl (v := .agg [_, _, _]) rfl ?_
   refine OW_storeR hS12 (k := 2) rfl (le_lit (ν := ν) (a := [3, 0, 1, 1, 1, 1, 1, 1, 1, 1, 1, 1]) (b := [1, 0, 1, 0, 1, 1, 1, 1, 1, 1, 1, 1, 1, 1, 1]) (by decide)) rfl rfl rfl rfl ⟨rfl, rfl, Nat.le_of_ble_eq_true rfl⟩ (u2 := .agg [_, _, _]) rfl fun H13 hS13 => ?_
   replace hS13 : Own _ _ _ ([_, _, _]) := hS13
   refine OW_as rfl rfl ?_
   refine EZ144 rfl ?_
   refine XW_ret (then_ret ?_)
   have fz1 := hS13.frz (k := 1) (n := 5) rfl (by exact map_plain (fun _ => rfl))
   refine ret_ret (res2 rfl (rv_cellR hS13 (k := 2) rfl rfl rfl rfl (by exact part_whole rfl rfl rfl)) (rv_tmp rfl)) (frz2 (Q := Q) (by exact frA (frAc (by exact Ls.freeze Ls.emp) (frAc (by exact Ls.freeze Ls.emp) (frAc (by exact Ls.freeze Ls.emp) frAn)))) (by exact freeze_plain rfl) ?_)
   (rw [if_neg (by rintro ⟨e1, e2, e3, e4, e5, e6, e7⟩; exact nomatch (e2.symm.trans (show t.2.2 = false by assumption)))] at hq; exact hq)
  try simp only [bs] at g22_3
  refine OW_mv rfl rfl (OW_un rfl rfl rfl (EN144 rfl (OW_pick rfl rfl rfl (OW_mv rfl rfl ?_))))
  refine OW_split (tt := 125) rfl (fun g22_7 => ?_) (fun g22_7 => ?_)
  ·try simp only [bs] at g22_7
   refine EN144 rfl (OW_no rfl (OW_no rfl (OW_pick rfl rfl rfl (EN144 rfl (OW_mv rfl rfl (OW_no rfl (OW_no rfl (EN144 rfl (OW_pick rfl rfl rfl ?_)))))))))
   refine OW_mv rfl rfl (OW_no rfl (EN144 rfl (OW_no rfl (OW_pick rfl rfl rfl (OW_mv rfl rfl (EN144 rfl (OW_no rfl (OW_no rfl (OW_no rfl ?_)))))))))
   refine EN144 rfl (OW_pick rfl rfl rfl ?_)
   refine EZ144 rfl ?_
   refine XW_yes rfl rfl ?_
   refine XW_sr ?_
   refine OW_bd rfl rfl (v := .agg [_, _, _]) rfl ?_
   refine OW_storeR hS12 (k := 2) rfl (le_lit (ν := ν) (a := [3, 0, 1, 1, 1, 1, 1, 1, 1, 1, 1, 1]) (b := [1, 0, 1, 0, 1, 1, 1, 1, 1, 1, 1, 1, 1, 1, 1]) (by decide)) rfl rfl rfl rfl ⟨rfl, rfl, Nat.le_of_ble_eq_true rfl⟩ (u2 := .agg [_, _, _]) rfl fun H14 hS14 => ?_
   replace hS14 : Own _ _ _ ([_, _, _]) := hS14
   refine OW_as rfl rfl ?_
   refine EZ144 rfl ?_
   refine XW_ret (then_ret ?_)
   have fz1 := hS14.frz (k := 1) (n := 5) rfl (by exact map_plain (fun _ => rfl))
   refine ret_ret (res2 rfl (rv_cellR hS14 (k := 2) rfl rfl rfl rfl (by exact part_whole rfl rfl rfl)) (rv_tmp rfl)) (frz2 (Q := Q) (by exact frA (frAc (by exact Ls.freeze Ls.emp) (frAc (by exact Ls.freeze Ls.emp) (frAc (by exact Ls.freeze Ls.emp) frAn)))) (by exact freeze_plain rfl) ?_)
   (rw [if_neg (by rintro ⟨e1, e2, e3, e4, e5, e6, e7⟩; exact nomatch (e3.symm.trans (show q.2.2 = false by assumption)))] at hq; exact hq)
  try simp only [bs] at g22_7
  refine EN144 rfl (OW_mv rfl rfl (OW_un rfl rfl rfl (OW_pick rfl rfl rfl (EN144 rfl (OW_mv rfl rfl ?_)))))
  refine OW_split (tt := 129) rfl (fun g22_11 => ?_) (fun g22_11 => ?_)
  ·try simp only [bs] at g22_11
   refine OW_no rfl (EN144 rfl (OW_no rfl (OW_pick rfl rfl rfl (OW_mv rfl rfl (EN144 rfl (OW_no rfl (OW_no rfl (OW_pick rfl rfl rfl (EN144 rfl ?_)))))))))
   refine OW_mv rfl rfl (OW_no rfl (OW_no rfl (EN144 rfl (OW_no rfl (OW_pick rfl rfl rfl ?_)))))
   refine EZ144 rfl ?_
   refine XW_yes rfl rfl ?_
   refine XW_sr ?_
   refine OW_bd rfl rfl (v := .agg [_, _, _]) rfl ?_
   refine OW_storeR hS12 (k := 2) rfl (le_lit (ν := ν) (a := [3, 0, 1, 1, 1, 1, 1, 1, 1, 1, 1, 1]) (b := [1, 0, 1, 0, 1, 1, 1, 1, 1, 1, 1, 1, 1, 1, 1]) (by decide)) rfl rfl rfl rfl ⟨rfl, rfl, Nat.le_of_ble_eq_true rfl⟩ (u2 := .agg [_, _, _]) rfl fun H15 hS15 => ?_
   replace hS15 : Own _ _ _ ([_, _, _]) := hS15
   refine OW_as rfl rfl ?_
   refine EZ144 rfl ?_
   refine XW_ret (then_ret ?_)
   have fz1 := hS15.frz (k := 1) (n := 5) rfl (by exact map_plain (fun _ => rfl))
   refine ret_ret (res2 rfl (rv_cellR hS15 (k := 2) rfl rfl rfl rfl (by exact part_whole rfl rfl rfl)) (rv_tmp rfl)) (frz2 (Q := Q) (by exact frA (frAc (by exact Ls.freeze Ls.emp) (frAc (by exact Ls.freeze Ls.emp) (frAc (by exact Ls.freeze Ls.emp) frAn)))) (by exact freeze_plain rfl) ?_)
   (rw [if_neg (by rintro ⟨e1, e2, e3, e4, e5, e6, e7⟩; exact nomatch (e4.symm.trans (show a.2 = false by assumption)))] at hq; exact hq)
  try simp only [bs] at g22_11
  refine OW_mv rfl rfl (EN144 rfl (OW_un rfl rfl rfl (OW_pick rfl rfl rfl (OW_mv rfl rfl (EN144 rfl ?_)))))
  refine OW_split (tt := 133) rfl (fun g22_15 => ?_) (fun g22_15 => ?_)
  ·try simp only [bs] at g22_15
   refine OW_no rfl (OW_no rfl (EN144 rfl (OW_pick rfl rfl rfl (OW_mv rfl rfl (OW_no rfl (EN144 rfl (OW_no rfl (OW_no rfl (OW_pick rfl rfl rfl ?_)))))))))
   refine EZ144 rfl ?_
   refine XW_yes rfl rfl ?_
   refine XW_sr ?_
   refine OW_bd rfl rfl (v := .agg [_, _, _]) rfl ?_
   refine OW_storeR hS12 (k := 2) rfl (le_lit (ν := ν) (a := [3, 0, 1, 1, 1, 1, 1, 1, 1, 1, 1, 1]) (b := [1, 0, 1, 0, 1, 1, 1, 1, 1, 1, 1, 1, 1, 1, 1]) (by decide)) rfl rfl rfl rfl ⟨rfl, rfl, Nat.le_of_ble_eq_true rfl⟩ (u2 := .agg [_, _, _]) rfl fun H16 hS16 => ?_
   replace hS16 : Own _ _ _ ([_, _, _]) := hS16
   refine OW_as rfl rfl ?_
   refine EZ144 rfl ?_
   refine XW_ret (then_ret ?_)
   have fz1 := hS16.frz (k := 1) (n := 5) rfl (by exact map_plain (fun _ => rfl))
   refine ret_ret (res2 rfl (rv_cellR hS16 (k := 2) rfl rfl rfl rfl (by exact part_whole rfl rfl rfl)) (rv_tmp rfl)) (frz2 (Q := Q) (by exact frA (frAc (by exact Ls.freeze Ls.emp) (frAc (by exact Ls.freeze Ls.emp) (frAc (by exact Ls.freeze Ls.emp) frAn)))) (by exact freeze_plain rfl) ?_)
   (rw [if_neg (by rintro ⟨e1, e2, e3, e4, e5, e6, e7⟩; exact nomatch (e5.symm.trans (show b.2 = false by assumption)))] at hq; exact hq)
  try simp only [bs] at g22_15
  refine OW_mv rfl rfl ?_
  refine OW_bin rfl rfl rfl rfl rfl ?_
  refine EN144 rfl (OW_pick rfl rfl rfl (OW_mv rfl rfl ?_))
  refine OW_split (tt := 137) rfl (fun g22_19 => ?_) (fun g22_19 => ?_)
  ·try simp only [bs] at g22_19
   refine EN144 rfl (OW_no rfl (OW_no rfl (OW_no rfl (EN144 rfl (OW_pick rfl rfl rfl ?_)))))
   refine EZ144 rfl ?_
   refine XW_yes rfl rfl ?_
   refine XW_sr ?_
   refine OW_bd rfl rfl (v := .agg [_, _, _]) rfl ?_
   refine OW_storeR hS12 (k := 2) rfl (le_lit (ν := ν) (a := [3, 0, 1, 1, 1, 1, 1, 1, 1, 1, 1, 1]) (b := [1, 0, 1, 0, 1, 1, 1, 1, 1, 1, 1, 1, 1, 1, 1]) (by decide)) rfl rfl rfl rfl ⟨rfl, rfl, Nat.le_of_ble_eq_true rfl⟩ (u2 := .agg [_, _, _]) rfl fun H17 hS17 => ?_
   replace hS17 : Own _ _ _ ([_, _, _]) := hS17
   refine OW_as rfl rfl ?_
   refine EZ144 rfl ?_
   refine XW_ret (then_ret ?_)
   have fz1 := hS17.frz (k := 1) (n := 5) rfl (by exact map_plain (fun _ => rfl))
   refine ret_ret (res2 rfl (rv_cellR hS17 (k := 2) rfl rfl rfl rfl (by exact part_whole rfl rfl rfl)) (rv_tmp rfl)) (frz2 (Q := Q) (by exact frA (frAc (by exact Ls.freeze Ls.emp) (frAc (by exact Ls.freeze Ls.emp) (frAc (by exact Ls.freeze Ls.emp) frAn)))) (by exact freeze_plain rfl) ?_)
   (rw [if_neg (by rintro ⟨e1, e2, e3, e4, e5, e6, e7⟩; exact absurd e6 (by assumption))] at hq; exact hq)
  try simp only [bs] at g22_19
  refine EN144 rfl ?_
  refine OW_loadR hS12 (k := 0) rfl rfl rfl rfl rfl (by exact part_whole rfl rfl rfl) ?_
  refine OW_fn rfl rfl (rk_check (c := ⟨acc, a.1, b.1⟩) (frA (frAc (by exact Own.freeze0 hS12 (k := 1) rfl (vo_plain _)) rfl)) ⟨Nat.le_trans s0 (by decide), by show a.1.length ≤ _; omega, by show b.1.length ≤ _; omega, fun x hx => Nat.le_trans (s9 x hx).2.2 (by decide)⟩ ?_) 
  refine OW_un rfl rfl rfl (EN144 rfl (OW_pick rfl rfl rfl ?_))
  refine EZ144 rfl ?_
  refine XW_if rfl (fun h22 => ?_) (fun h22 => ?_)
  ·try simp only [bs] at h22
   refine XW_sr ?_
   refine OW_bd rfl rfl (v := .agg [_, _, _]) rfl ?_
   refine OW_storeR hS12 (k := 2) rfl (le_lit (ν := ν) (a := [3, 0, 1, 1, 1, 1, 1, 1, 1, 1, 1, 1]) (b := [1, 0, 1, 0, 1, 1, 1, 1, 1, 1, 1, 1, 1, 1, 1]) (by decide)) rfl rfl rfl rfl ⟨rfl, rfl, Nat.le_of_ble_eq_true rfl⟩ (u2 := .agg [_, _, _]) rfl fun H18 hS18 => ?_
   replace hS18 : Own _ _ _ ([_, _, _]) := hS18
   refine OW_as rfl rfl ?_
   refine EZ144 rfl ?_
   refine XW_ret (then_ret ?_)
   have fz1 := hS18.frz (k := 1) (n := 5) rfl (by exact map_plain (fun _ => rfl))
   refine ret_ret (res2 rfl (rv_cellR hS18 (k := 2) rfl rfl rfl rfl (by exact part_whole rfl rfl rfl)) (rv_tmp rfl)) (frz2 (Q := Q) (by exact frA (frAc (by exact Ls.freeze Ls.emp) (frAc (by exact Ls.freeze Ls.emp) (frAc (by exact Ls.freeze Ls.emp) frAn)))) (by exact freeze_plain rfl) ?_)
   (rw [if_neg (by rintro ⟨e1, e2, e3, e4, e5, e6, e7⟩; exact nomatch (e7.symm.trans (show chkC ⟨acc, a.1, b.1⟩ = false by assumption)))] at hq; exact hq)
  try simp only [bs] at h22
  refine XW_skip (then_norm (XW_sr ?_))
  refine OW_loadR hS12 (k := 0) rfl rfl rfl rfl rfl (by exact part_whole rfl rfl rfl) ?_
  refine OW_storeR hS12 (k := 2) rfl (le_lit (ν := ν) (a := [3, 0, 1, 1, 1, 1, 1, 1, 1, 1, 1, 1]) (b := [1, 0, 1, 1, 1, 1, 1, 1, 1, 1, 1, 1, 1, 1]) (by decide)) rfl rfl rfl rfl ⟨rfl, rfl, Nat.le_of_ble_eq_true rfl⟩ (u2 := .agg [_, _, _]) rfl fun H19 hS19 => ?_
  replace hS19 : Own _ _ _ ([_, _, _]) := hS19
  refine OW_as rfl rfl ?_
  refine EZ144 rfl ?_
  refine XW_ret ?_
  have fz1 := hS19.frz (k := 1) (n := 5) rfl (by exact map_plain (fun _ => rfl))
  refine ret_ret (res2 rfl (rv_cellR hS19 (k := 2) rfl rfl rfl rfl (by exact part_whole rfl rfl rfl)) (rv_tmp rfl)) (frz2 (Q := Q) (by exact frA (frAc (by assumption) (frAc (by exact freeze_plain rfl) (frAc (by exact freeze_plain rfl) frAn)))) (by exact freeze_plain rfl) ?_)
  (rw [if_pos ⟨rfl, by assumption, by assumption, by assumption, by assumption, by assumption, by assumption⟩] at hq; exact hq)
end Go.Proofs.YtfkgdlfponfimaaGreat.X

/- Layer 13: texts, program and reference. -/
set_option linter.unusedVariables false
set_option linter.unusedSimpArgs false
set_option maxRecDepth 100000
namespace Go.Proofs.YtfkgdlfponfimaaGreat.X
open Go Go.RowKit WM
variable {ν : Nm} {H : Heap} {Q : AVal → Heap → Prop} {c : Ck}
theorem volW_two (l : List Vo) : volW l = 10 * (l.map fun x => x.lv.length).sum + (l.map fun x => sumB x.lv).sum := by
  induction l with
  | nil => rfl
  | cons x r ih => simp only [volW, List.map_cons, List.sum_cons] at *; omega
theorem ck_tz {n : Nat} (h : Ck.Q c n) (hn : n ≤ 1048576) : c.tz := by
  obtain ⟨k1, k2⟩ := ck_of h hn
  obtain ⟨⟨h1, h2⟩, ⟨h3, h4⟩, h5, h6⟩ := Ck.ok h
  obtain ⟨mm, hm, ⟨m0, l0, e0, q0, ⟨m1, l1, e1, q1, q2⟩⟩⟩ := h
  have w1 := qsl_sum (f := fun x : Vo => x.lv.length) (fun a m ha => by have := (Vo.ok ha).2.2.2.2.1; omega) q0
  have w2 := qsl_sum (f := fun x : Vo => sumB x.lv) (fun a m ha => by have := (Vo.ok ha).2.2.2.2.2.1; unfold sumB; omega) q0
  have w3 := qsl_sum (f := fun x : SE.Se => x.an.size) (fun a m ha => by have := (SE.Se.ok ha).2.2; omega) q1
  have w4 := volW_two c.vs; simp only at w1 w2 w3
  exact ⟨by omega, k2.v, fun y hy => ⟨by have := (Vo.ok (h2 y hy)).2.2.2.2.1; omega, by have := k2.l y hy; omega⟩, by omega, by omega, k2.s, by unfold SE.sumA; omega, by omega, k2.q⟩
theorem eqCm (x : Cm) : aBin cfg.T .eql 44 x.enc x.enc = some (.bool true) := by
  have e : aBin cfg.T .eql 44 x.enc x.enc = some (.bool (decide (x.d = x.d) && ((decide (x.t.tn = x.t.tn) && (decide (x.t.vo = x.t.vo) && (decide (x.t.ep = x.t.ep) && (decide (x.t.ri = x.t.ri) && (decide (x.t.tag = x.t.tag) && true))))) && (decide (x.vo = x.vo) && (decide (x.se = x.se) && (decide (x.a = x.a) && (decide (x.b = x.b) && (decide (x.lf = x.lf) && true)))))))) := rfl
  rw [e]; simp
theorem eqSx {T : TT} {t : TypeId} (a : ByteArray) : aBin T .eql t (.str a) (.str a) = some (.bool true) := by simp [aBin, aStr]
theorem eqBx (a : Bool) : aBin cfg.T .eql 4 (.bool a) (.bool a) = some (.bool true) := by cases a <;> rfl
theorem parC_sz (s : ByteArray) : (parC s).1.sz := by
  unfold parC
  split
  · have s1 := volR_sz s
    have s6 := se_len (resT ((volR s).2.1.size : Int) (volR s).2.1).1
    have s7 := resP_len (resT ((resT ((volR s).2.1.size : Int) (volR s).2.1).2.1.size : Int) (resT ((volR s).2.1.size : Int) (volR s).2.1).2.1).1
    exact ⟨by show (volR s).1.length ≤ _; omega, by show (SE.resP _).1.length ≤ _; omega, by show (resP _).1.length ≤ _; omega, fun x hx => by have := (s1.2.2 x hx).2.2; omega⟩
  exact ⟨Nat.zero_le _, Nat.zero_le _, Nat.zero_le _, fun x hx => by simp [ck0] at hx⟩
theorem fixedT13 (h : acall cfg (aexec cfg 100) ν 5 [] H = some (.bool true, H)) (hq : Q (.bool true) H) : CW cfg ν 5 [] H Q := ⟨100, _, _, h, hq⟩
theorem is_same (hz : c.sz) (hq : Q (.bool true) H) : CW cfg ν 14 [c.enc, c.enc] H Q := ckis_c hz hz (by rw [decide_eq_true rfl]; exact hq)
theorem lawTexts (c : Ck) (m : Cm) (s : ByteArray) (hc : c.sz) (ht : c.tz) (hm : m.fit) (hs : s.size ≤ 1048576) (hq : Q (.bool true) H) : CW cfg [] 4 [c.enc, m.enc, .str s] H Q := by
  refine CW_pure g4 F4 rfl ?_
  have hS0 : Own [] [] (fun _ => none) [] := Own.nil
  refine XW_sr ?_
  refine OW_boxR hS0 (le_app (p := []) (b := [0, 0])) under_nil rfl rfl rfl ⟨rfl, rfl⟩ fun H1 hS1 => ?_
  replace hS1 : Own _ _ _ ([_]) := hS1
  refine OW_boxR hS1 le_refl under_nil rfl rfl rfl ⟨rfl, rfl⟩ fun H2 hS2 => ?_
  replace hS2 : Own _ _ _ ([_, _]) := hS2
  refine OW_as rfl rfl ?_
  refine OW_nilE (e' := [_,_,_,_,_,_,_,_,_,_,_,_,_,_,_,_,_,_,_,_,_,_,_,_,_,_,_,_,_,_,_,_,_,_,_,_,_,_,_,_,_,_,_,_,_,_,_,_,_,_,_,_,_,_,_,_,_,_,_,_,_,_,_,_,_,_,_,_,_,_,_,_,_,_,_,_,_]) rfl ?_
  refine XW_sr (OW_mv rfl rfl ?_)
  refine OW_fn rfl rfl (p_unpackC (by omega) ?_) 
  refine OW_mv rfl rfl (EN77 rfl (OW_ex rfl rfl rfl (OW_ex rfl rfl rfl ?_)))
  refine OW_allocR hS2 (le_lit (ν := []) (a := [2, 0]) (b := [5, 0, 1]) (by decide)) under_nil rfl rfl rfl rfl fun H3 hS3 => ?_
  replace hS3 : Own _ _ _ ([_, _, _]) := hS3
  refine EN77 rfl ?_
  refine OW_storeR hS3 (k := 0) rfl le_refl rfl rfl rfl rfl ⟨rfl, rfl, Nat.le_of_ble_eq_true rfl⟩ (u2 := .agg [_, _, _, _, _, _, _, _, _, _, _]) rfl fun H4 hS4 => ?_
  replace hS4 : Own _ _ _ ([_, _, _]) := hS4
  refine OW_as rfl rfl ?_
  refine OW_nilE (e' := [_,_,_,_,_,_,_,_,_,_,_,_,_,_,_,_,_,_,_,_,_,_,_,_,_,_,_,_,_,_,_,_,_,_,_,_,_,_,_,_,_,_,_,_,_,_,_,_,_,_,_,_,_,_,_,_,_,_,_,_,_,_,_,_,_,_,_,_,_,_,_,_,_,_,_,_,_]) rfl ?_
  refine XW_sr (OW_mv rfl rfl ?_)
  refine OW_fn rfl rfl (r_unpackC (by omega) ?_) 
  refine OW_mv rfl rfl (EN77 rfl (OW_ex rfl rfl rfl (OW_ex rfl rfl rfl ?_)))
  refine OW_allocR hS4 (le_lit (ν := []) (a := [7, 0, 1]) (b := [5, 0, 1, 1]) (by decide)) under_nil rfl rfl rfl rfl fun H5 hS5 => ?_
  replace hS5 : Own _ _ _ ([_, _, _, _]) := hS5
  refine EN77 rfl ?_
  refine OW_storeR hS5 (k := 0) rfl le_refl rfl rfl rfl rfl ⟨rfl, rfl, Nat.le_of_ble_eq_true rfl⟩ (u2 := .agg [_, _, _, _, _, _, _, _, _, _, _]) rfl fun H6 hS6 => ?_
  replace hS6 : Own _ _ _ ([_, _, _, _]) := hS6
  refine OW_as rfl rfl ?_
  refine OW_nilE (e' := [_,_,_,_,_,_,_,_,_,_,_,_,_,_,_,_,_,_,_,_,_,_,_,_,_,_,_,_,_,_,_,_,_,_,_,_,_,_,_,_,_,_,_,_,_,_,_,_,_,_,_,_,_,_,_,_,_,_,_,_,_,_,_,_,_,_,_,_,_,_,_,_,_,_,_,_,_]) rfl ?_
  refine XW_sr (OW_mv rfl rfl ?_)
  refine OW_fn rfl rfl (p_parseCk (by omega) ?_) 
  refine OW_mv rfl rfl (EN77 rfl (OW_ex rfl rfl rfl (OW_ex rfl rfl rfl ?_)))
  refine OW_allocR hS6 (le_lit (ν := []) (a := [7, 0, 1, 1]) (b := [5, 0, 1, 1, 1]) (by decide)) under_nil rfl rfl rfl rfl fun H7 hS7 => ?_
  replace hS7 : Own _ _ _ ([_, _, _, _, _]) := hS7
  refine EN77 rfl ?_
  refine OW_storeR hS7 (k := 0) rfl le_refl rfl rfl rfl rfl ⟨rfl, rfl, Nat.le_of_ble_eq_true rfl⟩ (u2 := .agg [_, _, _]) rfl fun H8 hS8 => ?_
  replace hS8 : Own _ _ _ ([_, _, _, _, _]) := hS8
  refine OW_as rfl rfl ?_
  refine OW_nilE (e' := [_,_,_,_,_,_,_,_,_,_,_,_,_,_,_,_,_,_,_,_,_,_,_,_,_,_,_,_,_,_,_,_,_,_,_,_,_,_,_,_,_,_,_,_,_,_,_,_,_,_,_,_,_,_,_,_,_,_,_,_,_,_,_,_,_,_,_,_,_,_,_,_,_,_,_,_,_]) rfl ?_
  refine XW_sr (OW_mv rfl rfl ?_)
  refine OW_fn rfl rfl (r_parseCk (by omega) ?_) 
  refine OW_mv rfl rfl (EN77 rfl (OW_ex rfl rfl rfl (OW_ex rfl rfl rfl ?_)))
  refine OW_allocR hS8 (le_lit (ν := []) (a := [7, 0, 1, 1, 1]) (b := [5, 0, 1, 1, 1, 1]) (by decide)) under_nil rfl rfl rfl rfl fun H9 hS9 => ?_
  replace hS9 : Own _ _ _ ([_, _, _, _, _, _]) := hS9
  refine EN77 rfl ?_
  refine OW_storeR hS9 (k := 0) rfl le_refl rfl rfl rfl rfl ⟨rfl, rfl, Nat.le_of_ble_eq_true rfl⟩ (u2 := .agg [_, _, _]) rfl fun H10 hS10 => ?_
  replace hS10 : Own _ _ _ ([_, _, _, _, _, _]) := hS10
  refine OW_as rfl rfl ?_
  refine OW_nilE (e' := [_,_,_,_,_,_,_,_,_,_,_,_,_,_,_,_,_,_,_,_,_,_,_,_,_,_,_,_,_,_,_,_,_,_,_,_,_,_,_,_,_,_,_,_,_,_,_,_,_,_,_,_,_,_,_,_,_,_,_,_,_,_,_,_,_,_,_,_,_,_,_,_,_,_,_,_,_]) rfl ?_
  refine XW_sr ?_
  refine OW_fn rfl rfl (fixedT13 (by kernel_rfl) ?_) 
  refine OW_mv rfl rfl ?_
  refine OW_loadR hS10 (k := 4) rfl rfl rfl rfl rfl (by exact part_whole rfl rfl rfl) ?_
  refine EN77 rfl ?_
  refine OW_fn rfl rfl (p_packC hm ?_) 
  refine OW_loadR hS10 (k := 4) rfl rfl rfl rfl rfl (by exact part_whole rfl rfl rfl) ?_
  refine OW_fn rfl rfl (r_packC hm ?_) 
  refine EN77 rfl ?_
  refine OW_bin rfl rfl rfl rfl (eqSx _) ?_
  refine OW_pick rfl rfl rfl (OW_mv rfl rfl (EN77 rfl ?_))
  refine OW_loadR hS10 (k := 3) rfl rfl rfl rfl rfl (by exact part_whole rfl rfl rfl) ?_
  refine OW_loadR hS10 (k := 2) rfl rfl rfl rfl rfl (by exact part_whole rfl rfl rfl) ?_
  refine OW_bin rfl rfl rfl rfl (eqCm _) ?_
  refine EN77 rfl (OW_pick rfl rfl rfl (OW_mv rfl rfl (OW_mv rfl rfl (EN77 rfl (OW_mv rfl rfl ?_)))))
  refine OW_bin rfl rfl rfl rfl (eqBx _) ?_
  refine OW_pick rfl rfl rfl (EN77 rfl (OW_mv rfl rfl ?_))
  refine OW_loadR hS10 (k := 5) rfl rfl rfl rfl rfl (by exact part_whole rfl rfl rfl) ?_
  refine OW_fn rfl rfl (pk_check hc ?_) 
  refine EN77 rfl ?_
  refine OW_loadR hS10 (k := 5) rfl rfl rfl rfl rfl (by exact part_whole rfl rfl rfl) ?_
  refine OW_fn rfl rfl (rk_check (c := c) rfl hc ?_) 
  refine OW_bin rfl rfl rfl rfl (eqBx _) ?_
  refine EN77 rfl (OW_pick rfl rfl rfl (OW_mv rfl rfl ?_))
  refine OW_loadR hS10 (k := 5) rfl rfl rfl rfl rfl (by exact part_whole rfl rfl rfl) ?_
  refine EN77 rfl ?_
  refine OW_fn rfl rfl (p_textC ht ?_) 
  refine OW_loadR hS10 (k := 5) rfl rfl rfl rfl rfl (by exact part_whole rfl rfl rfl) ?_
  refine OW_fn rfl rfl (r_textC ht ?_) 
  refine EN77 rfl ?_
  refine OW_bin rfl rfl rfl rfl (eqSx _) ?_
  refine OW_pick rfl rfl rfl (OW_mv rfl rfl (EN77 rfl ?_))
  refine OW_loadR hS10 (k := 1) rfl rfl rfl rfl rfl (by exact part_whole rfl rfl rfl) ?_
  refine OW_loadR hS10 (k := 0) rfl rfl rfl rfl rfl (by exact part_whole rfl rfl rfl) ?_
  refine OW_fn rfl rfl (is_same (parC_sz s) ?_) 
  refine EN77 rfl (OW_pick rfl rfl rfl (OW_mv rfl rfl (OW_mv rfl rfl (EN77 rfl (OW_mv rfl rfl ?_)))))
  refine OW_bin rfl rfl rfl rfl (eqBx _) ?_
  refine OW_pick rfl rfl rfl (EN77 rfl (OW_as rfl rfl ?_))
  refine OW_nilE (e' := [_,_,_,_,_,_,_,_,_,_,_,_,_,_,_,_,_,_,_,_,_,_,_,_,_,_,_,_,_,_,_,_,_,_,_,_,_,_,_,_,_,_,_,_,_,_,_,_,_,_,_,_,_,_,_,_,_,_,_,_,_,_,_,_,_,_,_,_,_,_,_,_,_,_,_,_,_]) rfl ?_
  refine XW_ret ?_
  refine ret_ret (res1 rfl (rv_tmp rfl)) (frz1 (Q := Q) (by exact freeze_plain rfl) ?_)
  exact hq
theorem ChunkTexts_true (a0 : Ck) (n0 : Nat) (q0 : Ck.Q a0 n0) (a1 : Cm) (n1 : Nat) (q1 : Cm.Q a1 n1) (a2 : ByteArray) (n2 : Nat) (q2 : Open.QStr a2 n2) (hb : n0 + (n1 + (n2 + (0))) ≤ 1048576) :
    CW cfg [] 4 [Ck.enc a0, Cm.enc a1, AVal.str a2] (fun _ => none) (fun v _ => v = .bool true) :=
  lawTexts a0 a1 a2 (ck_of q0 (by omega)).1 (ck_tz q0 (by omega)) (cm_of q1 (by omega)).1 (by have := q2.2; omega) rfl
end Go.Proofs.YtfkgdlfponfimaaGreat.X
