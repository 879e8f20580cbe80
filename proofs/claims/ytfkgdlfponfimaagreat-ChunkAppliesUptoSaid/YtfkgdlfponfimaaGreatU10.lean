import Derived.Test.YtfkgdlfponfimaaGreatU9
/- Clears, lengths, conversions, maps, the least and the greatest. -/
namespace Go.Proofs.YtfkgdlfponfimaaGreat.X
open Go Go.RowKit
variable {B : BT} {P : Program} {ν : Nm} {G G' : Gh} {H H1 : Heap} {W W' : World}
theorem put_id {q : Nm} {ob : AObj} (h : H q = some ob) : H.put q (some ob) = H := by
  funext p; by_cases e : p = q
  · subst e; rw [put_same, h]
  · rw [put_other _ _ e]
theorem splice_len {α : Type} (a b : List α) (off n : Nat) (h : off + n ≤ a.length) (hb : b.length = n) : (a.take off ++ b ++ a.drop (off + n)).length = a.length := by
  simp [hb]; omega
theorem clear_sound {T : TT} (hT : TTok B P T) (h : R B G H W) {t ty : TypeId} {x : AVal} {x' : Value} (hl : aClear T H t x = some H1) (hx : VR G x x') :
    ∃ W', (Builtin.clear_ #[t] ty #[x']).run P W = .ok (.tuple #[]) W' ∧ R B G H1 W' ∧ St ν G G H H1 W W' := by
  unfold aClear at hl
  cases hti : T t with
  | none => rw [hti] at hl; cases hl
  | some ti =>
    rw [hti] at hl
    simp only at hl
    cases hk : ti.k <;> rw [hk] at hl <;> try (cases hl; done)
    rename_i e
    simp only at hl
    have hu := under_slice (hT t ti hti) hk
    cases hei : T e with
    | none => rw [hei] at hl; cases hl
    | some ei =>
      rw [hei] at hl
      have he := hT e ei hei
      have zero : ∀ a c, (Builtin.clear_ #[t] ty #[.slice a 0 c]).run P W = .ok (.tuple #[]) W := by
        intro a c
        simp only [Builtin.clear_, List.getElem?_toArray, List.getElem?_cons_zero, Sem.run_bind, run_underlying hu, Result.andThen_ok]
        cases a <;> simp
      cases hx with
      | @emp a =>
        obtain rfl := Option.some.inj hl
        exact ⟨W, zero a 0, h, St.refl _ _ _ _⟩
      | @slc q w off len cap a l hq hw hcap hlc ha =>
        simp only at hl
        cases hH : H q with
        | none => rw [hH] at hl; cases hl
        | some ob =>
          rw [hH] at hl
          cases ob with
          | row w' xs =>
            simp only at hl
            split at hl
            · rename_i hc
              obtain ⟨rfl, hc2, hc3⟩ := hc
              obtain rfl := Option.some.inj hl
              obtain ⟨hw2, cur, T', r1, r2, r3, r4, r5, r6⟩ := h.ob q l _ hq hH
              obtain rfl : w' = ei.size := by rw [← hw2, hw]
              by_cases h0 : len = 0
              · subst h0
                have e1 : xs.take off ++ List.replicate 0 ei.zero ++ xs.drop (off + 0) = xs := by simp
                rw [e1, put_id hH]
                exact ⟨W, zero (some a) cap, h, St.refl _ _ _ _⟩
              · obtain ha : a = ⟨l.b, off * ei.size, none⟩ := by
                  rcases ha with ha | ha
                  · exact ha
                  · omega
                subst ha
                obtain ⟨z, hz1, hz2⟩ := run_zero he W
                obtain ⟨hzl, hz0⟩ := (hz2 G).cellsOf he.zt
                have hzs : z.cells.size = ei.size := by have := hzl.1; rw [hc3] at this; simpa using this.symm
                have hrep := rep_L2 hzl hz0 (by rw [hzs]; exact he.pos) len
                have hzc : (Builtin.zeroCells z.cells len).toList = ((Array.range (len * z.cells.size)).map fun i => z.cells[i % z.cells.size]!).toList := rfl
                rw [← hzc] at hrep
                have hzcl : (Builtin.zeroCells z.cells len).toList.length = len * ei.size := by rw [← hrep.1, flat_length (wide_rep len hc3 hz0)]; simp
                have hcl : cur.toList.length = l.cap * ei.size := by simpa using r2
                have m1 : (off + len) * ei.size ≤ xs.length * ei.size := Nat.mul_le_mul_right _ hc2
                have m2 : xs.length * ei.size ≤ l.cap * ei.size := Nat.mul_le_mul_right _ r3
                have m3 : (off + len) * ei.size = off * ei.size + len * ei.size := Nat.add_mul _ _ _
                have hones : ∀ u ∈ (Builtin.zeroCells z.cells len).toList, u.oneCell' = true := by
                  intro u hu'
                  obtain ⟨k, hk'⟩ := List.mem_iff_getElem?.1 hu'
                  obtain ⟨c, hc1, hc2'⟩ := hrep.get' hk'
                  rw [hc2'.one]
                  obtain ⟨x, hx, hcx⟩ := List.mem_flatMap.1 (List.mem_of_getElem? hc1)
                  exact (wide_rep len hc3 hz0 x hx).2 c hcx
                have hst := run_storeCells_at P l.b (off * ei.size) T' (Builtin.zeroCells z.cells len).toList 0 cur W r1 (by rw [hzcl]; have : cur.size = l.cap * ei.size := r2; omega) hones
                simp only [Nat.add_zero] at hst
                have hrun : (Builtin.clear_ #[t] ty #[.slice (some ⟨l.b, off * ei.size, none⟩) len cap]).run P W = .ok (.tuple #[]) (W.setRow l.b (cur.toList.take (off * ei.size) ++ (Builtin.zeroCells z.cells len).toList ++ cur.toList.drop (off * ei.size + (Builtin.zeroCells z.cells len).toList.length)).toArray) := by
                  simp only [Builtin.clear_, List.getElem?_toArray, List.getElem?_cons_zero, Sem.run_bind, run_underlying hu, Result.andThen_ok]
                  obtain ⟨n, rfl⟩ : ∃ n, len = n + 1 := ⟨len - 1, by omega⟩
                  simp only [Sem.run_bind, hz1, Result.andThen_ok, hst, Sem.run_pure]
                refine ⟨_, hrun, ?_⟩
                refine h.write hq hH ⟨Z, Z, Z⟩ (by simp) (fun b hb => setRow_other W l.b b _ hb) ⟨hw2, _, T', setRow_heap W l.b cur _ T' _ r1, ?_, ?_, r4, wide_append (wide_append (wide_take r5 _) (wide_rep len hc3 hz0)) (wide_drop r5 _), ?_⟩ (fun k hk => ownB_row hk)
                · rw [List.size_toArray, List.length_append, List.length_append, List.length_take, List.length_drop, hcl, hzcl]; omega
                · rw [splice_len xs _ off len hc2 (by simp)]; exact r3
                · rw [splice_len xs _ off len hc2 (by simp), flat_append, flat_append, flat_take r5, flat_drop r5, m3]
                  have key := ((r6.take (off * ei.size)).append hrep).append (r6.drop (off * ei.size + len * ei.size))
                  have e2 : (cur.toList.take (off * ei.size) ++ (Builtin.zeroCells z.cells len).toList ++ cur.toList.drop (off * ei.size + (Builtin.zeroCells z.cells len).toList.length)).take (xs.length * ei.size) = (cur.toList.take (xs.length * ei.size)).take (off * ei.size) ++ (Builtin.zeroCells z.cells len).toList ++ (cur.toList.take (xs.length * ei.size)).drop (off * ei.size + len * ei.size) := by
                    have a1 : (cur.toList.take (off * ei.size)).length = off * ei.size := by rw [List.length_take, hcl]; omega
                    rw [List.take_append, List.take_append, List.take_take, List.take_take, List.drop_take, a1, List.length_append, a1, hzcl]
                    have a2 : min (xs.length * ei.size) (off * ei.size) = off * ei.size := by omega
                    have a3 : min (off * ei.size) (xs.length * ei.size) = off * ei.size := by omega
                    rw [a2, a3, List.take_of_length_le (l := (Builtin.zeroCells z.cells len).toList) (by omega)]
                  simp only [List.toList_toArray]
                  rw [e2]; exact key
            · cases hl
          | map es => cases hl
          | bld s => cases hl
      | _ => cases hl
theorem ints_of {xs : List AVal} {l : List UInt8} (h : bytesOfElems xs = some l) : ∃ ns : List Int, xs = ns.map (AVal.int .u8) ∧ l = ns.map fun n => UInt8.ofNat n.toNat := by
  induction xs generalizing l with
  | nil => simp only [bytesOfElems] at h; obtain rfl := Option.some.inj h; exact ⟨[], rfl, rfl⟩
  | cons x xs ih =>
    unfold bytesOfElems at h
    split at h
    · rename_i he; cases he
    · rename_i n l' he
      obtain ⟨rfl, rfl⟩ := List.cons.inj he
      cases hb : bytesOfElems xs with
      | none => rw [hb] at h; cases h
      | some r =>
        rw [hb] at h
        obtain rfl := Option.some.inj h
        obtain ⟨ns, h1, h2⟩ := ih hb
        exact ⟨n :: ns, by rw [h1]; rfl, by rw [h2]; rfl⟩
    · cases h
theorem fold_bytes : ∀ (ns : List Int) (s : ByteArray), ns.foldl (fun r n => r.push (UInt8.ofNat n.toNat)) s = ⟨s.data ++ (ns.map fun n => UInt8.ofNat n.toNat).toArray⟩ := by
  intro ns
  induction ns with
  | nil => intro s; simp
  | cons x l ih =>
    intro s
    simp only [List.foldl_cons, ih, List.map_cons]
    congr 1
    apply Array.ext'
    simp [ByteArray.push]
theorem conv_sound {T : TT} (hT : TTok B P T) (h : R B G H W) {s d : TypeId} {x v : AVal} {x' : Value} (hl : aConv T H s d x = some v) (hx : VR G x x') :
    ∃ v', (convert s d x').run P W = .ok v' W ∧ VR G v v' := by
  unfold aConv at hl
  cases hsi : T s with
  | none => rw [hsi] at hl; cases hl
  | some si =>
    cases hdi : T d with
    | none => rw [hsi, hdi] at hl; cases hl
    | some di =>
      rw [hsi, hdi] at hl
      simp only at hl
      obtain ⟨ds, hds, hks⟩ := under_d (hT s si hsi)
      have hd := hT d di hdi
      cases hk : di.k <;> rw [hk] at hl <;> try (cases hl; done)
      · rename_i k
        have hdd := under_int hd hk
        cases hx with
        | int k' n =>
          obtain rfl := Option.some.inj hl
          refine ⟨.int k (k.wrap n), ?_, .int _ _⟩
          simp only [convert, Sem.run_bind, run_underlying hds, run_underlying hdd, Result.andThen_ok]
          rfl
        | _ => cases hl
      · have hdd := under_str hd hk
        by_cases hxs : ∃ b, x = .str b
        · obtain ⟨b, rfl⟩ := hxs
          obtain rfl := Option.some.inj hl
          cases hx
          refine ⟨.string b, ?_, .str _⟩
          simp only [convert, Sem.run_bind, run_underlying hds, run_underlying hdd, Result.andThen_ok]
          cases ds <;> rfl
        · have hl' : (match si.k with
            | .slice e => match T e with
              | some ei => match ei.k, elems H x with
                | .int .u8, some xs => match bytesOfElems xs with
                  | some l => some (AVal.str ⟨l.toArray⟩)
                  | none => none
                | _, _ => none
              | none => none
            | _ => none) = some v := by
            rw [← hl]
            cases x <;> first | exact absurd ⟨_, rfl⟩ hxs | rfl
          clear hl
          cases hk2 : si.k <;> rw [hk2] at hl' <;> try (cases hl'; done)
          rename_i e
          simp only at hl'
          have hus := under_slice (hT s si hsi) hk2
          cases hei : T e with
          | none => rw [hei] at hl'; cases hl'
          | some ei =>
            rw [hei] at hl'
            simp only at hl'
            split at hl'
            · rename_i xs hk3 hel
              cases hb : bytesOfElems xs with
              | none => rw [hb] at hl'; cases hl'
              | some l =>
                rw [hb] at hl'
                obtain rfl := Option.some.inj hl'
                have hue := under_int (hT e ei hei) hk3
                obtain ⟨ns, rfl, rfl⟩ := ints_of hb
                have hsz : ∀ v ∈ ns.map (AVal.int .u8), v.cells.length = 1 := by
                  intro v hv; obtain ⟨n, _, rfl⟩ := List.mem_map.1 hv; rfl
                obtain ⟨wd, hlen, news, hL, hones, hfc⟩ := source (P := P) h hx hel hsz
                have hnews : news = ns.map (Value.int .u8) := by
                  have hfl : flat (ns.map (AVal.int .u8)) = ns.map (AVal.int .u8) := by
                    clear hlen hL hfc wd hsz hel hb
                    induction ns with
                    | nil => rfl
                    | cons n ns ih => simp only [List.map_cons, flat_cons, ih]; rfl
                  rw [hfl] at hL
                  apply List.ext_getElem?
                  intro i
                  rcases Nat.lt_or_ge i ns.length with hi | hi
                  · have h1 : (ns.map (AVal.int .u8))[i]? = some (.int .u8 ns[i]) := by simp [hi]
                    obtain ⟨y, hy1, hy2⟩ := hL.get h1
                    rw [hy1]
                    cases hy2
                    simp [hi]
                  · rw [List.getElem?_eq_none (by rw [← hL.1]; simpa using hi), List.getElem?_eq_none (by simpa using hi)]
                refine ⟨.string ⟨(ns.map fun n => UInt8.ofNat n.toNat).toArray⟩, ?_, .str _⟩
                have hcv : (convert s d x').run P W = (Conv.bytesToString x').run P W := by
                  simp only [convert, Sem.run_bind, run_underlying hus, run_underlying hdd, Result.andThen_ok, run_underlying hue]
                  cases hx <;> first | (simp only [Sem.run_bind, run_underlying hue, Result.andThen_ok]; done) | (exact absurd ⟨_, rfl⟩ hxs) | (simp [elems] at hel; done)
                rw [hcv]
                have hfc1 := hfc ns.length (by simp) W rfl
                rw [Nat.mul_one, List.take_of_length_le (by rw [hnews]; simp), hnews] at hfc1
                have hll : (ns.map (AVal.int .u8)).length = ns.length := by simp
                rw [hll] at hlen
                have nil_of : some ([] : List AVal) = some (ns.map (AVal.int .u8)) → ns = [] := fun e => by have := Option.some.inj e; simpa using this.symm
                have empty : ns = [] → ∀ a c, (Conv.bytesToString (.slice a 0 c)).run P W = .ok (.string ⟨#[]⟩) W := by
                  rintro rfl a c
                  cases a with
                  | none => rfl
                  | some a =>
                    have := run_bytesToString (P := P) W a 0 c [] (by simp [loadCells, loadCellsFrom])
                    exact this
                cases hx with
                | str b => exact absurd ⟨_, rfl⟩ hxs
                | nls => rw [nil_of hel]; exact empty (nil_of hel) _ _
                | nne => rw [nil_of hel]; exact empty (nil_of hel) _ _
                | emp => rw [nil_of hel]; exact empty (nil_of hel) _ _
                | lst0 => rw [nil_of hel]; exact empty (nil_of hel) _ _
                | @lst xs b o w c cv n0 h1 h2 h3 h4 h5 =>
                  simp only [Builtin.firstCells, Nat.mul_one] at hfc1
                  have hxl : xs.length = ns.length := by simp only [elems] at hel; obtain rfl := Option.some.inj hel; simp
                  have := run_bytesToString (P := P) W ⟨b, o, none⟩ xs.length c ns (by rw [hxl]; exact hfc1)
                  rw [this, fold_bytes]
                  simp
                | @slc q w off len cap a l hq hw hcap hlc ha =>
                  simp only [Builtin.firstCells, Nat.mul_one] at hfc1
                  simp only [Builtin.lenOf, Sem.run_pure] at hlen
                  have hxl : len = ns.length := by injection hlen
                  have := run_bytesToString (P := P) W a len cap ns (by rw [hxl]; exact hfc1)
                  rw [this, fold_bytes]
                  simp
                | _ => cases hel
            · cases hl'
end Go.Proofs.YtfkgdlfponfimaaGreat.X
