import Derived.Test.YtfkgdlfponfimaaGreatU7
/- Appends, copies, clears, what is built. -/
namespace Go.Proofs.YtfkgdlfponfimaaGreat.X
open Go Go.RowKit
variable {B : BT} {P : Program} {ν : Nm} {G G' : Gh} {H H1 : Heap} {W W' : World}
theorem widthsOf {w : Nat} {ys : List AVal} (h : (ys.all fun v => v.cells.length == w) = true) : ∀ y ∈ ys, y.cells.length = w := by
  rw [List.all_eq_true] at h
  intro y hy; simpa using h y hy
theorem firstCells_at {size n : Nat} {b o len c : Nat} {cv : List Value} (hl : cv.length = n * size) (hc : ∀ k v, cv[k]? = some v → W.cell? ⟨b, o + k, none⟩ = some v) :
    (Builtin.firstCells size n (.slice (some ⟨b, o, none⟩) len c)).run P W = .ok cv.toArray W := by
  simp only [Builtin.firstCells]
  rw [← hl, run_loadCells_list W ⟨b, o, none⟩ cv (fun j v hj => by rw [Addr.add_lit]; exact hc j v hj)]
theorem firstCells_zero {size : Nat} {a : Option Addr} {len c : Nat} : (Builtin.firstCells size 0 (.slice a len c)).run P W = .ok #[] W := by
  cases a with
  | none => rfl
  | some a => simp only [Builtin.firstCells, Nat.zero_mul]; rfl
theorem bytes_flat (s : ByteArray) : flat (s.data.toList.map fun b => AVal.int .u8 b.toNat) = s.data.toList.map fun b => AVal.int .u8 b.toNat := by
  simp only [flat]
  generalize s.data.toList = l
  induction l with
  | nil => rfl
  | cons x l ih => simp only [List.map_cons, List.flatMap_cons, ih]; rfl
theorem source (h : R B G H W) {y : AVal} {y' : Value} {ys : List AVal} {w : Nat} (hy : VR G y y') (he : elems H y = some ys) (hw : ∀ v ∈ ys, v.cells.length = w) :
    wide w ys ∧ (Builtin.lenOf y').run P W = .ok ys.length W ∧ ∃ news : List Value, L2 (VR G) (flat ys) news ∧ (∀ u ∈ news, u.oneCell' = true) ∧
      (∀ k, k ≤ ys.length → ∀ W2 : World, W2.heap = W.heap → (Builtin.firstCells w k y').run P W2 = .ok (news.take (k * w)).toArray W2) := by
  have emp : ∀ (a : Option Addr) (c : Nat), ys = [] → wide w ys ∧ (Builtin.lenOf (.slice a 0 c)).run P W = .ok ys.length W ∧ ∃ news : List Value, L2 (VR G) (flat ys) news ∧ (∀ u ∈ news, u.oneCell' = true) ∧
      (∀ k, k ≤ ys.length → ∀ W2 : World, W2.heap = W.heap → (Builtin.firstCells w k (.slice a 0 c)).run P W2 = .ok (news.take (k * w)).toArray W2) := by
    rintro a c rfl
    refine ⟨fun x hx => by simp at hx, rfl, [], L2.nil, fun u hu => by simp at hu, fun k hk W2 _ => ?_⟩
    obtain rfl : k = 0 := by simpa using hk
    rw [firstCells_zero]; simp
  have ones : ∀ {ys : List AVal} {news : List Value}, wide w ys → L2 (VR G) (flat ys) news → ∀ u ∈ news, u.oneCell' = true := by
    intro ys news hwd hL u hu
    obtain ⟨k, hk⟩ := List.mem_iff_getElem?.1 hu
    obtain ⟨c, hc1, hc2⟩ := hL.get' hk
    rw [hc2.one]
    obtain ⟨x, hx, hcx⟩ := List.mem_flatMap.1 (List.mem_of_getElem? hc1)
    exact (hwd x hx).2 c hcx
  cases hy with
  | nls => exact emp _ _ (Option.some.inj he).symm
  | nne => exact emp _ _ (Option.some.inj he).symm
  | emp => exact emp _ _ (Option.some.inj he).symm
  | lst0 => exact emp _ _ (Option.some.inj he).symm
  | @lst xs b o w' c cv n0 h1 h2 h3 h4 h5 =>
    obtain rfl := Option.some.inj he
    obtain ⟨x0, hx0⟩ : ∃ x0, x0 ∈ xs := List.exists_mem_of_ne_nil xs n0
    have hwe : w' = w := by rw [← (h1 x0 hx0).1]; exact hw x0 hx0
    subst hwe
    have hL : L2 (VR G) (flat xs) cv := ⟨h4, h5⟩
    refine ⟨h1, rfl, cv, hL, ones h1 hL, fun k hk W2 hW2 => ?_⟩
    refine firstCells_at ?_ (fun j v hj => ?_)
    · rw [List.length_take, ← h4, flat_length h1]
      have := Nat.mul_le_mul_right w' hk
      omega
    · rw [List.getElem?_take] at hj
      split at hj
      · have := h.f _ _ _ (h3 j v hj)
        rw [cell_block (show W2.heap[b]? = W.heap[b]? by rw [hW2])]
        exact this
      · cases hj
  | @slc q w' off len cap a l hq hwl hcap hlc ha =>
    simp only [elems] at he
    cases hH : H q with
    | none => rw [hH] at he; cases he
    | some ob =>
      rw [hH] at he
      cases ob with
      | row w2 xs =>
        simp only at he
        split at he
        · rename_i hle
          obtain rfl := Option.some.inj he
          obtain ⟨hw2, cur, T, r1, r2, r3, r4, r5, r6⟩ := h.ob q l _ hq hH
          have hlen : ((xs.drop off).take len).length = len := by simp; omega
          by_cases h0 : len = 0
          · subst h0
            exact emp _ _ (by simp)
          · have hwd : wide w' ((xs.drop off).take len) := by
              have e : w2 = w' := hw2.symm.trans hwl
              rw [← e]; exact wide_take (wide_drop r5 off) len
            obtain ⟨x0, hx0⟩ : ∃ x0, x0 ∈ (xs.drop off).take len := List.exists_mem_of_ne_nil _ (fun e => by rw [e] at hlen; exact h0 hlen.symm)
            have hwe : w' = w := by rw [← (hwd x0 hx0).1]; exact hw x0 hx0
            subst hwe
            have e : w2 = w' := hw2.symm.trans hwl
            subst e
            obtain ha : a = ⟨l.b, off * w2, none⟩ := by
              rcases ha with ha | ha
              · exact ha
              · omega
            subst ha
            have hL : L2 (VR G) (flat ((xs.drop off).take len)) (((cur.toList.take (xs.length * w2)).drop (off * w2)).take (len * w2)) := by
              rw [flat_take (wide_drop r5 off), flat_drop r5]
              exact (r6.drop _).take _
            refine ⟨hwd, by rw [hlen]; rfl, _, hL, ones hwd hL, fun k hk W2 hW2 => ?_⟩
            rw [hlen] at hk
            refine firstCells_at ?_ (fun j v hj => ?_)
            · rw [List.length_take, ← hL.1, flat_length hwd, hlen]
              have := Nat.mul_le_mul_right w2 hk
              omega
            · rw [List.getElem?_take] at hj
              split at hj
              · rw [List.getElem?_take] at hj
                split at hj
                · rw [List.getElem?_drop, List.getElem?_take] at hj
                  split at hj
                  · rw [cell_block (show W2.heap[l.b]? = W.heap[l.b]? by rw [hW2]), cell_of_row W l.b _ cur T (0, 0) r1]
                    simpa using hj
                  · cases hj
                · cases hj
              · cases hj
        · cases he
      | map es => cases he
      | bld s => cases he
  | str s =>
    obtain rfl := Option.some.inj he
    by_cases h0 : s.size = 0
    · have hs : s.data.toList = [] := List.eq_nil_of_length_eq_zero (by simpa using h0)
      have hd : s.data = #[] := by apply Array.ext'; simpa using hs
      simp only [hs, List.map_nil]
      refine ⟨fun x hx => by simp at hx, by simp [Builtin.lenOf, h0], [], L2.nil, fun u hu => by simp at hu, fun k hk W2 _ => ?_⟩
      obtain rfl : k = 0 := by simpa using hk
      simp only [Builtin.firstCells, Sem.run_pure]
      congr 1
      apply Array.ext'
      simp
    · have hw1 : w = 1 := by
        obtain ⟨b, hb⟩ : ∃ b, b ∈ s.data.toList := List.exists_mem_of_ne_nil _ (fun e => h0 (by have := congrArg List.length e; simpa using this))
        exact (hw _ (List.mem_map.2 ⟨b, hb, rfl⟩)).symm
      subst hw1
      have hwd : wide 1 (s.data.toList.map fun b => AVal.int .u8 b.toNat) := by
        intro x hx
        obtain ⟨b, _, rfl⟩ := List.mem_map.1 hx
        exact ⟨rfl, fun c hc => by simp [AVal.cells] at hc; subst hc; rfl⟩
      have hL : L2 (VR G) (flat (s.data.toList.map fun b => AVal.int .u8 b.toNat)) (s.data.toList.map fun b => Value.int .u8 b.toNat) := by
        rw [bytes_flat]
        refine ⟨by simp, fun i x v hx hv => ?_⟩
        rw [List.getElem?_map] at hx hv
        obtain ⟨b, hb, rfl⟩ := Option.map_eq_some_iff.1 hx
        obtain ⟨b', hb', rfl⟩ := Option.map_eq_some_iff.1 hv
        rw [hb] at hb'
        obtain rfl := Option.some.inj hb'
        exact .int _ _
      refine ⟨hwd, by simp [Builtin.lenOf], _, hL, ones hwd hL, fun k hk W2 _ => ?_⟩
      simp only [Builtin.firstCells, Sem.run_pure, Nat.mul_one]
      congr 1
      apply Array.ext'
      simp [List.extract_eq_take_drop, List.map_take]
  | _ => cases he
def notInt : TypeDesc → Bool
  | .int _ => false
  | _ => true
theorem src_kind {T : TT} (hT : TTok B P T) {t t2 : TypeId} (hs : srcOk T [t, t2] = true) : ∃ d, P.underlying t2 = some d ∧ notInt d = true := by
  simp only [srcOk] at hs
  cases hti : T t2 with
  | none => rw [hti] at hs; cases hs
  | some ti =>
    rw [hti] at hs
    simp only at hs
    cases hk : ti.k <;> rw [hk] at hs <;> try (cases hs; done)
    · exact ⟨_, under_str (hT _ _ hti) hk, rfl⟩
    · exact ⟨_, under_slice (hT _ _ hti) hk, rfl⟩
theorem run_zeros {t2 : TypeId} {d : TypeDesc} (h : P.underlying t2 = some d) (hd : notInt d = true) (W : World) :
    (do pure ((← underlying t2) matches .int _) : Sem Bool).run P W = .ok false W := by
  simp only [Sem.run_bind, run_underlying h, Result.andThen_ok, Sem.run_pure]
  cases d <;> first | rfl | cases hd
section
variable {t t2 ty e : TypeId} {d2 : TypeDesc} {i : TypeInfo}
theorem run_room (ht : P.underlying t = some (.slice e)) (h2 : P.underlying t2 = some d2) (hd : notInt d2 = true) (hi : P.info? e = some i) {a : Option Addr} {sLen sCap n : Nat} {y' : Value} {news : Array Value}
    (hlen : (Builtin.lenOf y').run P W = .ok n W) (hn : (Builtin.firstCells i.size n y').run P W = .ok news W) (hroom : sLen + n ≤ sCap)
    (hst : match a with | none => W' = W | some a => (storeCells (a.add (sLen * i.size)) news.toList).run P W = .ok () W') :
    (Builtin.append_ #[t, t2] ty #[.slice a sLen sCap, y']).run P W = .ok (.slice a (sLen + n) sCap) W' := by
  have hz := run_zeros (P := P) h2 hd W
  simp only [Sem.run_bind, run_underlying h2, Result.andThen_ok, Sem.run_pure] at hz
  have hz' : (match d2 with | .int _ => true | _ => false) = false := by cases d2 <;> first | rfl | cases hd
  unfold Builtin.append_
  simp only [List.getElem?_toArray, List.getElem?_cons_zero, List.getElem?_cons_succ, Sem.run_bind, run_underlying ht, Result.andThen_ok, sizeOf, typeInfo, run_program, hi, Sem.run_pure, run_underlying h2]
  cases d2 <;> first
    | (cases hd; done)
    | (simp only [Bool.false_eq_true, if_false, hlen, Result.andThen_ok, Bool.not_false, if_true, Sem.run_bind]
       rw [if_pos hroom]
       cases a with
       | none =>
         simp only at hst
         subst hst
         simp only [Sem.run_bind, hn, Result.andThen_ok, Sem.run_pure]
       | some a => simp only [Sem.run_bind, hn, Result.andThen_ok, hst, Sem.run_pure])
theorem run_grow (ht : P.underlying t = some (.slice e)) (h2 : P.underlying t2 = some d2) (hd : notInt d2 = true) (hi : P.info? e = some i) {z : Value} (hz : i.zero = some z) {a : Option Addr} {sLen sCap n : Nat} {y' : Value} {olds news : Array Value}
    (hlen : (Builtin.lenOf y').run P W = .ok n W) (ho : (Builtin.firstCells i.size sLen (.slice a sLen sCap)).run P W.drew = .ok olds W.drew) (hn : (Builtin.firstCells i.size n y').run P W.drew = .ok news W.drew) (hroom : sCap < sLen + n)
    (h63 : sLen + n ≤ 9223372036854775807) (hfit : Builtin.nextslicecap (sLen + n) sCap * i.bytes ≤ 281474976710656) :
    (Builtin.append_ #[t, t2] ty #[.slice a sLen sCap, y']).run P W = .ok (.slice (some ⟨W.heap.size, 0, none⟩) (sLen + n) (grownCap W (sLen + n) sCap e))
      (W.drew.alloc (.cells (olds ++ news ++ Builtin.zeroCells z.cells (grownCap W (sLen + n) sCap e - (sLen + n))) e)) := by
  have hr : ¬ (sLen + n ≤ sCap) := by omega
  have h63' : ∀ p : Prop, ¬ (((sLen + n : Nat) : Int) > IntKind.i64.max ∧ p) := by
    rintro p ⟨h, _⟩
    have : IntKind.i64.max = 9223372036854775807 := by decide
    omega
  have h48 : ¬ (Builtin.nextslicecap (sLen + n) sCap * i.bytes > 2 ^ 48) := by omega
  have hch : (choose (.appendCap (sLen + n) sCap e)).run P W = .ok (grownCap W (sLen + n) sCap e) W.drew := by simp [run_choose, Question.forced, grownCap]
  have hzv : (zeroValue e).run P W.drew = .ok z W.drew := by simp [zeroValue, typeInfo, hi, hz]
  unfold Builtin.append_
  simp only [List.getElem?_toArray, List.getElem?_cons_zero, List.getElem?_cons_succ, Sem.run_bind, run_underlying ht, Result.andThen_ok, sizeOf, typeInfo, run_program, hi, Sem.run_pure, run_underlying h2]
  cases d2 <;> first
    | (cases hd; done)
    | (simp only [Bool.false_eq_true, if_false, hlen, Result.andThen_ok, Bool.not_false, if_true, Sem.run_bind, Sem.run_pure, Bool.false_or]
       rw [if_neg hr]
       simp only [Sem.run_bind, typeInfo, run_program, hi, Result.andThen_ok, Sem.run_pure]
       rw [if_neg (h63' _)]
       simp only [Sem.run_bind, run_program, hi, Result.andThen_ok, Sem.run_pure]
       rw [if_neg h48]
       simp only [Sem.run_bind, hch, hi, run_program, Sem.run_pure, Result.andThen_ok, run_askRoom, ho, hn, hzv, newRow, run_newObj]
       rfl)
end
theorem append_sound {T : TT} (hT : TTok B P T) (h : R B G H W) (hf : Fresh ν G H) {t t2 ty : TypeId} {x y v : AVal} {x' y' : Value} (hl : aAppend T ν H t x y = some (v, H1)) (hs : srcOk T [t, t2] = true) (hx : VR G x x') (hy : VR G y y') :
    ∃ v' W' G', (Builtin.append_ #[t, t2] ty #[x', y']).run P W = .ok v' W' ∧ VR G' v v' ∧ R B G' H1 W' ∧ St ν G G' H H1 W W' := by
  obtain ⟨d2, h2, hd⟩ := src_kind hT hs
  unfold aAppend at hl
  cases hti : T t with
  | none => rw [hti] at hl; cases hl
  | some ti =>
    rw [hti] at hl
    simp only at hl
    cases hk : ti.k <;> rw [hk] at hl <;> try (cases hl; done)
    rename_i e
    simp only at hl
    cases hei : T e with
    | none => rw [hei] at hl; cases hl
    | some ei =>
      rw [hei] at hl
      simp only at hl
      have he := hT e ei hei
      have hu := under_slice (hT t ti hti) hk
      obtain ⟨d, i, z, _, hi, hi3, hi4, hz5, hz6, _⟩ := he.ex
      cases hel : elems H y with
      | none => rw [hel] at hl; cases hl
      | some ys =>
        rw [hel] at hl
        simp only at hl
        split at hl
        · rename_i hall
          obtain ⟨wd, hlen, news, hL, hones, hfc⟩ := source (P := P) h hy hel (widthsOf hall)
          have hnl : news.length = ys.length * ei.size := by rw [← hL.1, flat_length wd]
          have hfc' : ∀ W2 : World, W2.heap = W.heap → (Builtin.firstCells i.size ys.length y').run P W2 = .ok news.toArray W2 := by
            intro W2 hW2
            have := hfc ys.length (Nat.le_refl _) W2 hW2
            rw [List.take_of_length_le (by rw [hnl]; exact Nat.le_refl _)] at this
            rw [hi3]; exact this
          have hgz : z.cells.size = ei.size := by
            have := ((hz6 G).cellsOf he.zt).1.1
            rw [he.zc] at this; simpa using this.symm
          have grown : ∀ (a : Option Addr) (n0 cap0 : Nat) (xs : List AVal) (olds : List Value), wide ei.size xs → L2 (VR G) (flat xs) olds → xs.length = n0 → cap0 < n0 + ys.length → (n0 + ys.length) * (ei.bytes + 1) ≤ 1099511627776 →
              (Builtin.firstCells i.size n0 (.slice a n0 cap0)).run P W.drew = .ok olds.toArray W.drew → ∀ H0, R B G H0 W → Fresh ν G H0 →
              ∃ v' W' G', (Builtin.append_ #[t, t2] ty #[.slice a n0 cap0, y']).run P W = .ok v' W' ∧ VR G' (.slc ν ei.size 0 (n0 + ys.length)) v' ∧ R B G' (H0.put ν (some (.row ei.size (xs ++ ys)))) W' ∧ St ν G G' H0 (H0.put ν (some (.row ei.size (xs ++ ys)))) W W' := by
            intro a n0 cap0 xs olds hwx hLx hn0 hcap hb ho H0 hR0 hF0
            have hm : (n0 + ys.length) * (ei.bytes + 1) = (n0 + ys.length) * ei.bytes + (n0 + ys.length) := by rw [Nat.mul_add, Nat.mul_one]
            have hg1 := grownCap_ge W (n0 + ys.length) cap0 e
            have hg2 := grownCap_le_maxLen W (n0 + ys.length) cap0 e (by unfold maxLen; omega)
            have hrun := run_grow (ty := ty) (W := W) hu h2 hd hi hz5 hlen ho (hfc' W.drew rfl) hcap (by omega) (growslice_fits hcap (by rw [hi4]; omega))
            have hol : olds.length = n0 * ei.size := by rw [← hLx.1, flat_length hwx, hn0]
            have hsz : (olds.toArray ++ news.toArray ++ Builtin.zeroCells z.cells (grownCap W (n0 + ys.length) cap0 e - (n0 + ys.length))).size = grownCap W (n0 + ys.length) cap0 e * ei.size := by
              simp only [Array.size_append, List.size_toArray, size_zeroCells, hgz, hol, hnl, ← Nat.add_mul]
              congr 1
              omega
            obtain ⟨G', r1, r2, r3, r4⟩ := new_row (ν := ν) (T := e) (cap := grownCap W (n0 + ys.length) cap0 e) hR0.drew hF0 (wide_append hwx wd) hsz (by rw [List.length_append, hn0]; exact hg1) hg2 (by
              rw [flat_append, List.length_append, hn0]
              simp only [Array.toList_append, List.toList_toArray]
              rw [List.take_append_of_le_length (by rw [List.length_append, hol, hnl, ← Nat.add_mul]; exact Nat.le_refl _), List.take_of_length_le (by rw [List.length_append, hol, hnl, ← Nat.add_mul]; exact Nat.le_refl _)]
              exact hLx.append hL)
            refine ⟨_, _, G', hrun, ?_, r1, ?_⟩
            · exact VR.slc (G := G') (off := 0) (a := ⟨W.heap.size, 0, none⟩) r3 rfl (by simp) hg1 (.inl (by simp))
            · exact ⟨r2.le, r2.mu', r2.F', r2.hp, r2.sz, r2.fr, r2.ow, r2.sm, r2.un⟩
          cases hx with
          | nls =>
            simp only at hl
            by_cases h0 : ys.length = 0
            · rw [if_pos h0] at hl
              obtain ⟨rfl, rfl⟩ := Prod.mk.inj (Option.some.inj hl)
              have hn0 : news = [] := List.eq_nil_of_length_eq_zero (by rw [hnl, h0]; simp)
              subst hn0
              have hrun := run_room (ty := ty) (W := W) (W' := W) (a := none) (sLen := 0) (sCap := 0) hu h2 hd hi hlen (hfc' W rfl) (by omega) rfl
              rw [h0] at hrun
              exact ⟨_, _, G, hrun, .nls, h, St.refl _ _ _ _⟩
            · rw [if_neg h0] at hl
              split at hl
              · rename_i hb
                obtain ⟨rfl, rfl⟩ := Prod.mk.inj (Option.some.inj hl)
                have := grown none 0 0 [] [] (fun x hx => by simp at hx) L2.nil rfl (by omega) (by simpa using hb) firstCells_zero H h hf
                simpa using this
              · cases hl
          | @emp a =>
            simp only at hl
            by_cases h0 : ys.length = 0
            · rw [if_pos h0] at hl
              obtain ⟨rfl, rfl⟩ := Prod.mk.inj (Option.some.inj hl)
              have hn0 : news = [] := List.eq_nil_of_length_eq_zero (by rw [hnl, h0]; simp)
              subst hn0
              have hrun := run_room (ty := ty) (W := W) (W' := W) (a := a) (sLen := 0) (sCap := 0) hu h2 hd hi hlen (hfc' W rfl) (by omega) (by cases a <;> simp [storeCells])
              rw [h0] at hrun
              exact ⟨_, _, G, hrun, .emp, h, St.refl _ _ _ _⟩
            · rw [if_neg h0] at hl
              split at hl
              · rename_i hb
                obtain ⟨rfl, rfl⟩ := Prod.mk.inj (Option.some.inj hl)
                have := grown a 0 0 [] [] (fun x hx => by simp at hx) L2.nil rfl (by omega) (by simpa using hb) firstCells_zero H h hf
                simpa using this
              · cases hl
          | @slc q w off len cap a l hq hw hcap hlc ha =>
            simp only at hl
            split at hl
            · rename_i hwo
              obtain ⟨rfl, rfl⟩ := hwo
              cases hH : H q with
              | none => rw [hH] at hl; cases hl
              | some ob =>
                rw [hH] at hl
                cases ob with
                | row w' xs =>
                  simp only at hl
                  obtain ⟨hw2, cur, T', r1, r2, r3, r4, r5, r6⟩ := h.ob q l _ hq hH
                  obtain rfl : w' = ei.size := by rw [← hw2, hw]
                  obtain ha : a = ⟨l.b, 0, none⟩ := by
                    rcases ha with ha | ha
                    · simpa using ha
                    · omega
                  subst ha
                  have hlcap : cap = l.cap := by omega
                  have hcl : cur.toList.length = l.cap * ei.size := by simpa using r2
                  have place : ∀ xs2, len + ys.length ≤ cap → wide ei.size xs2 → xs2.length ≤ l.cap → L2 (VR G) (flat xs2) ((cur.toList.take (len * ei.size) ++ news ++ cur.toList.drop (len * ei.size + news.length)).take (xs2.length * ei.size)) →
                      ∃ v' W', (Builtin.append_ #[t, t2] ty #[.slice (some ⟨l.b, 0, none⟩) len cap, y']).run P W = .ok v' W' ∧ v' = .slice (some ⟨l.b, 0, none⟩) (len + ys.length) cap ∧ Same W W' ∧ W'.heap.size = W.heap.size ∧ (∀ b, b ≠ l.b → W'.heap[b]? = W.heap[b]?) ∧ OKrow G ei.size xs2 l W' := by
                    intro xs2 hroom hw3 hl3 hL3
                    have hsz : len * ei.size + news.length ≤ cur.size := by
                      rw [hnl, ← Nat.add_mul, r2, ← hlcap]; exact Nat.mul_le_mul_right _ hroom
                    have hst := run_storeCells_at P l.b (len * ei.size) T' news 0 cur W r1 (by simpa using hsz) hones
                    simp only [Nat.add_zero] at hst
                    have hrun := run_room (ty := ty) (W := W) (a := some ⟨l.b, 0, none⟩) hu h2 hd hi hlen (hfc' W rfl) hroom (by simp only [Addr.add_lit, Nat.zero_add, hi3]; exact hst)
                    refine ⟨_, _, hrun, Z, ⟨Z, Z, Z⟩, by simp, fun b hb => setRow_other W l.b b _ hb, hw2, _, T', setRow_heap W l.b cur _ T' _ r1, ?_, hl3, r4, hw3, ?_⟩
                    · rw [List.size_toArray, List.length_append, List.length_append, List.length_take, List.length_drop, hcl]
                      have : cur.size = l.cap * ei.size := r2
                      omega
                    · simpa using hL3
                  split at hl
                  · rename_i hin
                    obtain ⟨rfl, rfl⟩ := Prod.mk.inj (Option.some.inj hl)
                    have hxl : (xs.take len ++ ys ++ xs.drop (len + ys.length)).length = xs.length := by simp; omega
                    obtain ⟨v', W', p1, rfl, p3, p4, p5, p6⟩ := place (xs.take len ++ ys ++ xs.drop (len + ys.length)) (by omega) (wide_append (wide_append (wide_take r5 _) wd) (wide_drop r5 _)) (by rw [hxl]; exact r3) (by
                      rw [hxl, flat_append, flat_append, flat_take r5, flat_drop r5]
                      have e1 : (len + ys.length) * ei.size = len * ei.size + news.length := by rw [Nat.add_mul, hnl]
                      rw [e1]
                      have hle : len * ei.size + news.length ≤ xs.length * ei.size := by rw [hnl, ← Nat.add_mul]; exact Nat.mul_le_mul_right _ hin
                      have hle2 : xs.length * ei.size ≤ l.cap * ei.size := Nat.mul_le_mul_right _ r3
                      have key := ((r6.take (len * ei.size)).append hL).append (r6.drop (len * ei.size + news.length))
                      have e2 : (cur.toList.take (len * ei.size) ++ news ++ cur.toList.drop (len * ei.size + news.length)).take (xs.length * ei.size) = (cur.toList.take (xs.length * ei.size)).take (len * ei.size) ++ news ++ (cur.toList.take (xs.length * ei.size)).drop (len * ei.size + news.length) := by
                        have a1 : (cur.toList.take (len * ei.size)).length = len * ei.size := by rw [List.length_take, hcl]; omega
                        rw [List.take_append, List.take_append, List.take_take, List.take_take, List.drop_take, a1, List.length_append, a1]
                        have a2 : min (xs.length * ei.size) (len * ei.size) = len * ei.size := by omega
                        have a3 : min (len * ei.size) (xs.length * ei.size) = len * ei.size := by omega
                        rw [a2, a3, List.take_of_length_le (l := news) (by omega)]
                      rw [e2]; exact key)
                    obtain ⟨q1, q2⟩ := h.write (ν := ν) hq hH p3 p4 p5 (show OK B G (.row ei.size _) l W' from p6) (fun k hk => ownB_row hk)
                    exact ⟨_, _, G, p1, .slc hq hw hcap (by omega) (.inl (by simp)), q1, q2⟩
                  · rename_i hout
                    split at hl
                    · rename_i hend
                      obtain ⟨hend1, hb⟩ := hend
                      obtain ⟨rfl, rfl⟩ := Prod.mk.inj (Option.some.inj hl)
                      have hqν : q ≠ ν := fun e => by subst e; rw [(hf q (under_self q)).1] at hq; cases hq
                      obtain ⟨hdr1, hdr2⟩ := h.drop (ν := ν) q
                      have hdr3 := hdr2 (.inr ⟨_, hq⟩)
                      have hF0 : Fresh ν G (H.put q none) := fun p hp => ⟨(hf p hp).1, by
                        by_cases e : p = q
                        · subst e; rw [put_same]
                        · rw [put_other H _ e]; exact (hf p hp).2⟩
                      have htl : (xs.take len).length = len := by rw [List.length_take]; omega
                      have hr6 : L2 (VR G) (flat (xs.take len)) (cur.toList.take (len * ei.size)) := by
                        have k := r6.take (len * ei.size)
                        rw [← flat_take r5, List.take_take, Nat.min_eq_left (Nat.mul_le_mul_right _ hend1)] at k
                        exact k
                      by_cases hroom : len + ys.length ≤ cap
                      · obtain ⟨v', W', p1, rfl, p3, p4, p5, p6⟩ := place (xs.take len ++ ys) hroom (wide_append (wide_take r5 len) wd) (by rw [List.length_append, List.length_take]; omega) (by
                          rw [flat_append, List.length_append, htl]
                          have key := hr6.append hL
                          have e2 : (cur.toList.take (len * ei.size) ++ news ++ cur.toList.drop (len * ei.size + news.length)).take ((len + ys.length) * ei.size) = cur.toList.take (len * ei.size) ++ news := by
                            have hle3 : len * ei.size ≤ l.cap * ei.size := Nat.mul_le_mul_right _ (Nat.le_trans hend1 r3)
                            rw [List.take_append_of_le_length (by rw [List.length_append, List.length_take, hcl, hnl, Nat.add_mul]; omega), List.take_of_length_le (by rw [List.length_append, List.length_take, hnl, Nat.add_mul]; omega)]
                          rw [e2]; exact key)
                        obtain ⟨q1, q2⟩ := h.write (ν := ν) hq hH p3 p4 p5 (show OK B G (.row ei.size _) l W' from p6) (fun k hk => ownB_row hk)
                        have hF1 : Fresh ν G (H.put q (some (.row ei.size (xs.take len ++ ys)))) := fun p hp => ⟨(hf p hp).1, by
                          have : p ≠ q := fun e => by subst e; rw [(hf p hp).2] at hH; cases hH
                          rw [put_other _ _ this]; exact (hf p hp).2⟩
                        obtain ⟨G2, s1, s2, s3, s4⟩ := q1.ren hF1 hq (put_same _ _ _)
                        rw [put_put] at s1 s2
                        refine ⟨_, _, G2, p1, ?_, s1, q2.trans s2⟩
                        exact VR.slc (G := G2) (off := 0) (a := ⟨l.b, 0, none⟩) s3 hw hcap hroom (.inl (by simp))
                      · have hob : (Builtin.firstCells i.size len (.slice (some ⟨l.b, 0, none⟩) len cap)).run P W.drew = .ok (cur.toList.take (len * ei.size)).toArray W.drew := by
                          refine firstCells_at ?_ (fun k u hk => ?_)
                          · rw [List.length_take, hcl, hi3]
                            have := Nat.mul_le_mul_right ei.size (Nat.le_trans hend1 r3)
                            omega
                          · rw [List.getElem?_take] at hk
                            split at hk
                            · rw [World.cell?_drew, cell_of_row W l.b _ cur T' (0, 0) r1]
                              simpa using hk
                            · cases hk
                        obtain ⟨v', W', G', p1, p2, p3, p4⟩ := grown (some ⟨l.b, 0, none⟩) len cap (xs.take len) _ (wide_take r5 len) hr6 htl (by omega) hb hob _ hdr1 hF0
                        exact ⟨v', W', G', p1, p2, p3, hdr3.trans p4⟩
                    · cases hl
                | map es => cases hl
                | bld s => cases hl
            · cases hl
          | _ => cases hl
        · cases hl
theorem copy_sound {T : TT} (hT : TTok B P T) (h : R B G H W) {t t2 ty : TypeId} {x y v : AVal} {x' y' : Value} (hl : aCopy T H t x y = some (v, H1)) (hx : VR G x x') (hy : VR G y y') :
    ∃ v' W' G', (Builtin.copy_ #[t, t2] ty #[x', y']).run P W = .ok v' W' ∧ VR G' v v' ∧ R B G' H1 W' ∧ St ν G G' H H1 W W' := by
  unfold aCopy at hl
  cases hti : T t with
  | none => rw [hti] at hl; cases hl
  | some ti =>
    rw [hti] at hl
    simp only at hl
    cases hk : ti.k <;> rw [hk] at hl <;> try (cases hl; done)
    rename_i e
    simp only at hl
    cases hei : T e with
    | none => rw [hei] at hl; cases hl
    | some ei =>
      rw [hei] at hl
      simp only at hl
      have he := hT e ei hei
      have hu := under_slice (hT t ti hti) hk
      obtain ⟨d, i, z, _, hi, hi3, hi4, hz5, hz6, _⟩ := he.ex
      cases hel : elems H y with
      | none => rw [hel] at hl; cases hl
      | some ys =>
        rw [hel] at hl
        simp only at hl
        split at hl
        · rename_i hall
          obtain ⟨wd, hlen, news, hL, hones, hfc⟩ := source (P := P) h hy hel (widthsOf hall)
          have hnl : news.length = ys.length * ei.size := by rw [← hL.1, flat_length wd]
          cases hx with
          | @slc q w off len cap a l hq hw hcap hlc ha =>
            simp only at hl
            split at hl
            · rename_i hwo
              obtain ⟨rfl, hpos⟩ := hwo
              cases hH : H q with
              | none => rw [hH] at hl; cases hl
              | some ob =>
                rw [hH] at hl
                cases ob with
                | row w' xs =>
                  simp only at hl
                  split at hl
                  · rename_i hin
                    obtain ⟨rfl, rfl⟩ := Prod.mk.inj (Option.some.inj hl)
                    obtain ⟨hw2, cur, T', r1, r2, r3, r4, r5, r6⟩ := h.ob q l _ hq hH
                    obtain rfl : w' = ei.size := by rw [← hw2, hw]
                    obtain ha : a = ⟨l.b, off * ei.size, none⟩ := by
                      rcases ha with ha | ha
                      · exact ha
                      · omega
                    subst ha
                    have hnm : Nat.min ys.length len ≤ ys.length := Nat.min_le_left _ _
                    have hnm2 : Nat.min ys.length len ≤ len := Nat.min_le_right _ _
                    have hf := hfc _ hnm W rfl
                    generalize hn : Nat.min ys.length len = n at *
                    have hcl : cur.toList.length = l.cap * ei.size := by simpa using r2
                    have hcsl : (news.take (n * ei.size)).length = n * ei.size := by
                      rw [List.length_take, hnl]; exact Nat.min_eq_left (Nat.mul_le_mul_right _ hnm)
                    have hsz : off * ei.size + (news.take (n * ei.size)).length ≤ cur.size := by
                      rw [hcsl, ← Nat.add_mul, r2]; exact Nat.mul_le_mul_right _ (by omega)
                    have hst := run_storeCells_at P l.b (off * ei.size) T' (news.take (n * ei.size)) 0 cur W r1 (by simpa using hsz) (fun u hu => hones u (List.mem_of_mem_take hu))
                    simp only [Nat.add_zero] at hst
                    have hrun : (Builtin.copy_ #[t, t2] ty #[.slice (some ⟨l.b, off * ei.size, none⟩) len cap, y']).run P W = .ok (goInt n) (W.setRow l.b (cur.toList.take (off * ei.size) ++ news.take (n * ei.size) ++ cur.toList.drop (off * ei.size + (news.take (n * ei.size)).length)).toArray) := by
                      unfold Builtin.copy_
                      simp only [List.getElem?_toArray, List.getElem?_cons_zero, List.getElem?_cons_succ, Sem.run_bind, run_underlying hu, Result.andThen_ok, sizeOf, typeInfo, run_program, hi, Sem.run_pure, hlen, hn, hi3, hf, List.toList_toArray, hst]
                    have hxl : (xs.take off ++ ys.take n ++ xs.drop (off + n)).length = xs.length := by simp; omega
                    obtain ⟨q1, q2⟩ := h.write (ν := ν) (W' := W.setRow l.b (cur.toList.take (off * ei.size) ++ news.take (n * ei.size) ++ cur.toList.drop (off * ei.size + (news.take (n * ei.size)).length)).toArray) hq hH ⟨rfl, rfl, rfl⟩ (by simp) (fun b hb => setRow_other W l.b b _ hb) (obj' := .row ei.size (xs.take off ++ ys.take n ++ xs.drop (off + n)))
                      (show OKrow G ei.size (xs.take off ++ ys.take n ++ xs.drop (off + n)) l _ from ⟨hw2, _, T', setRow_heap W l.b cur _ T' _ r1, (by
                        rw [List.size_toArray, List.length_append, List.length_append, List.length_take, List.length_drop, hcl]
                        have : cur.size = l.cap * ei.size := r2
                        omega), (by rw [hxl]; exact r3), r4, wide_append (wide_append (wide_take r5 _) (wide_take wd _)) (wide_drop r5 _), (by
                        rw [hxl, flat_append, flat_append, flat_take r5, flat_drop r5, flat_take wd]
                        have e1 : (off + n) * ei.size = off * ei.size + n * ei.size := Nat.add_mul ..
                        rw [e1, hcsl]
                        have hle : off * ei.size + n * ei.size ≤ xs.length * ei.size := by rw [← Nat.add_mul]; exact Nat.mul_le_mul_right _ (by omega)
                        have hle2 : xs.length * ei.size ≤ l.cap * ei.size := Nat.mul_le_mul_right _ r3
                        have key := ((r6.take (off * ei.size)).append (hL.take (n * ei.size))).append (r6.drop (off * ei.size + n * ei.size))
                        have e2 : (cur.toList.take (off * ei.size) ++ news.take (n * ei.size) ++ cur.toList.drop (off * ei.size + n * ei.size)).take (xs.length * ei.size) = (cur.toList.take (xs.length * ei.size)).take (off * ei.size) ++ news.take (n * ei.size) ++ (cur.toList.take (xs.length * ei.size)).drop (off * ei.size + n * ei.size) := by
                          have a1 : (cur.toList.take (off * ei.size)).length = off * ei.size := by rw [List.length_take, hcl]; omega
                          have a2 : min (xs.length * ei.size) (off * ei.size) = off * ei.size := by omega
                          have a3 : min (off * ei.size) (xs.length * ei.size) = off * ei.size := by omega
                          have a4 : min (xs.length * ei.size - off * ei.size) (n * ei.size) = n * ei.size := by omega
                          rw [List.take_append, List.take_append, List.take_take, a1, List.take_take, List.take_take, List.drop_take, List.length_append, a1, hcsl, a2, a3, a4]
                        simp only [List.toList_toArray]; rw [e2]; exact key)⟩) (fun k hk => ownB_row hk)
                    exact ⟨_, _, G, hrun, .int _ _, q1, q2⟩
                  · cases hl
                | _ => cases hl
            · cases hl
          | _ => cases hl
        · cases hl
end Go.Proofs.YtfkgdlfponfimaaGreat.X
