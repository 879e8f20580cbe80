import Derived.Test.YtfkgdlfponfimaaGreatU30
import Derived.Test.YtfkgdlfponfimaaGreatU21
/- strings.Builder for the simple machine: what its WriteString and String do, told of the builder's own blocks alone. -/
set_option maxRecDepth 100000
namespace Go.Proofs.YtfkgdlfponfimaaGreat.X
open Go Go.RowKit
abbrev TBb : Nat := 123
abbrev TUb : Nat := 5
def BTG : BT := ⟨TBb, TUb⟩
structure Frm (S : Nat → Prop) (w w' : World) : Prop where
  sm : Same w w'
  sz : w.heap.size ≤ w'.heap.size
  bl : ∀ k, k < w.heap.size → ¬ S k → w'.heap[k]? = w.heap[k]?
theorem Frm.refl (S : Nat → Prop) (w : World) : Frm S w w := ⟨Same.refl w, Nat.le_refl _, fun _ _ _ => rfl⟩
theorem Frm.trans {S : Nat → Prop} {a b c : World} (h : Frm S a b) (k : Frm S b c) : Frm S a c := ⟨h.sm.trans k.sm, Nat.le_trans h.sz k.sz, fun i hi hn => (k.bl i (Nat.lt_of_lt_of_le hi h.sz) hn).trans (h.bl i hi hn)⟩
theorem Frm.setCell {S : Nat → Prop} {a w : World} (h : Frm S a w) {p : Addr} (hp : S p.block) (u : Value) : Frm S a (w.setCell p u) :=
  h.trans ⟨⟨rfl, rfl, rfl⟩, by simp [World.setCell], fun k _ hn => Below.heap_setCell w p u k (fun e => hn (e ▸ hp))⟩
theorem Frm.drew {S : Nat → Prop} {a w : World} (h : Frm S a w) : Frm S a w.drew := ⟨⟨h.sm.1, h.sm.2.1, h.sm.2.2⟩, h.sz, h.bl⟩
theorem Frm.alloc {S : Nat → Prop} {a w : World} (h : Frm S a w) (o : Obj) : Frm S a (w.alloc o) :=
  h.trans ⟨⟨rfl, rfl, rfl⟩, (Below.alloc (Below.refl 0 w) (Nat.zero_le _) o).size, fun k hk _ => Below.heap_alloc w o k hk⟩
theorem Frm.freeze {S : Nat → Prop} {a w : World} (h : Frm S a w) {p : Addr} (hp : S p.block) (n : Nat) : Frm S a (w.freeze p n) := by
  refine h.trans ?_
  unfold World.freeze
  split
  · exact Frm.refl S w
  · exact ⟨⟨rfl, rfl, rfl⟩, by simp, fun k _ hk => by
      simp only [Array.getElem?_modify]
      rw [if_neg (fun e => hk (by rw [← e]; exact hp))]⟩
theorem Frm.grown {S : Nat → Prop} {a w w' : World} {row : Option Nat} (h : Frm S a w) (hg : w.grownBy w' row) (hr : ∀ k, row = some k → S k) : Frm S a w' :=
  h.trans ⟨⟨hg.os, hg.tape, hg.output⟩, hg.size, fun k hk hn => hg.block k hk (fun e => hn (hr k e.symm))⟩
theorem ownsRow_base {w : World} {B : Nat} {e : TypeId} {v : Value} {n : Nat} {xs : List Value} (h : w.ownsRow B e 1 v n xs) : w.ownsRow 0 e 1 v n xs := ⟨h.1, h.2.imp id fun ⟨g, cap, cur, h1, h2, h3⟩ => ⟨g, cap, cur, h1, Nat.zero_le _, h3⟩⟩
theorem app_str {w : World} {t u ty e : TypeId} {i : TypeInfo} (ht : Tryz.prog.underlying t = some (.slice e)) (hu : Tryz.prog.underlying u = some .string) (hi : Tryz.prog.info? e = some i) (hz : i.zero = some (.int .u8 0)) (hsize : i.size = 1) (hby : i.bytes = 1)
    {v : Value} {n : Nat} {xs : List Value} (hown : w.ownsRow 0 e 1 v n xs) (s : ByteArray) (hb : n + s.size ≤ 2199023255552) :
    ∃ v' w', (Builtin.append_ #[t, u] ty #[v, .string s]).run Tryz.prog w = .ok v' w' ∧ w'.ownsRow 0 e 1 v' (n + s.size) (xs ++ Lib.strCells s) ∧ w.grownBy w' v.ownBlock ∧ (∀ k, v'.ownBlock = some k → v.ownBlock = some k ∨ w.heap.size ≤ k) := by
  have hmx : n + s.size ≤ maxLen := by unfold maxLen; omega
  rcases hown.2 with ⟨rfl, rfl⟩ | ⟨g, cap, cur, rfl, hbg, hg, hnc, hcm, hcs, htake⟩
  · have hx : xs = [] := List.eq_nil_of_length_eq_zero (by simpa using hown.1)
    subst hx
    obtain ⟨v', w', h1, h2, h3, _⟩ := Lib.run_append_own_string w w.heap.size t u ty e i ht hu hi hz hsize hby _ 0 [] (World.ownsRow_nil w w.heap.size e 1) s hmx (by omega) (Nat.le_refl _)
    refine ⟨v', w', h1, ownsRow_base h2, h3, fun k hk => .inr ?_⟩
    rcases h2.2 with ⟨rfl, _⟩ | ⟨g, cap, cur, rfl, hbg, _⟩
    · simp [Value.ownBlock] at hk
    · simp only [Value.ownBlock, Option.some.injEq] at hk; omega
  · obtain ⟨v', w', h1, h2, h3, _⟩ := Lib.run_append_own_string w 0 t u ty e i ht hu hi hz hsize hby _ n xs hown s hmx (by omega) (Nat.zero_le _)
    refine ⟨v', w', h1, h2, h3, fun k hk => ?_⟩
    have hcs' : cur.size = cap := by simpa using hcs
    by_cases hroom : n + s.size ≤ cap
    · have hr := Lib.run_append_room_string (P := Tryz.prog) w t u ty e i ht hu hi hsize g n cap cur hg s hroom (by omega)
      rw [h1] at hr
      injection hr with hr _
      subst hr
      exact .inl hk
    · have hxl : xs.length = n := by simpa using hown.1
      have hr := Lib.run_append_grow_string (P := Tryz.prog) w t u ty e i (.int .u8 0) ht hu hi hz ⟨g, 0, none⟩ n cap xs (by rw [hsize]; simpa using hxl) (hown.cells (g := g) rfl) s (by omega) (by omega) (by rw [hby]; exact growslice_fits (by omega) (by omega))
      rw [h1] at hr
      injection hr with hr _
      subst hr
      simp only [Value.ownBlock, Option.some.injEq] at hk
      exact .inr (by omega)
theorem wpList_app_str {ops : Array Oper} {rest : List Oper} {o : Oper} {a : Act} {Q : Exit → Act → World → Prop} {w : World} (hgd : o.guard = none) (sl x : Operand) (t u : TypeId)
    (ho : o.op = .call { callee := .builtin .append, args := #[sl, x], argTypes := #[t, u] }) (e : TypeId) (i : TypeInfo) (ht : Tryz.prog.underlying t = some (.slice e)) (hu : Tryz.prog.underlying u = some .string) (hi : Tryz.prog.info? e = some i) (hz : i.zero = some (.int .u8 0)) (hsize : i.size = 1) (hby : i.bytes = 1)
    (v : Value) (n : Nat) (xs : List Value) (hs : a.eval sl = v) (hown : w.ownsRow 0 e 1 v n xs) (s : ByteArray) (hx : a.eval x = .string s) (hb : n + s.size ≤ 2199023255552)
    (h : ∀ v' w', w'.ownsRow 0 e 1 v' (n + s.size) (xs ++ Lib.strCells s) → w.grownBy w' v.ownBlock → (∀ k, v'.ownBlock = some k → v.ownBlock = some k ∨ w.heap.size ≤ k) → wpList Tryz.prog ops Q rest (a.put o.dst v') w') : wpList Tryz.prog ops Q (o :: rest) a w := by
  refine wpList_plain hgd fun K hK => ?_
  obtain ⟨v', w', hr, h2, h3, h4⟩ := app_str (ty := o.type) ht hu hi hz hsize hby hown s hb
  unfold Oper.wp execOp
  simp only [ho, resolve, invoke, builtin, Sem.run_bind, Sem.run_pure, Result.andThen_ok, List.map_toArray, List.map_cons, List.map_nil, hs, hx, hr]
  exact hK _ _ (h v' w' h2 h3 h4)
structure Bl (w : World) (b : Nat) (p v : Value) (bs : List Value) : Prop where
  hp : p = .pointer none ∨ p = .pointer (some ⟨b, 0, none⟩)
  bk : w.heap[b]? = some (.cells #[p, v] TBb (0, 0))
  own : w.ownsRow 0 TUb 1 v bs.length bs
  ne : v.ownBlock ≠ some b
theorem copyCheckF {b : Nat} {p v : Value} {bs : List Value} {w : World} (h : Bl w b p v bs) :
    Calls Tryz.prog 114 #[.pointer (some ⟨b, 0, none⟩)] w fun e w' => e = .returned (.tuple #[]) ∧ Bl w' b (.pointer (some ⟨b, 0, none⟩)) v bs ∧ Frm (fun k => k = b ∨ v.ownBlock = some k) w w' := by
  have hat : Lib.BuilderAt TBb TUb 0 b p bs w := ⟨Nat.zero_le _, v, h.bk, h.own, h.ne⟩
  rcases h.hp with rfl | rfl
  · refine (Bld.copyCheck_fresh b w hat.cell0 hat.shape hat.frozen0).mono ?_
    rintro e w' ⟨rfl, rfl⟩
    refine ⟨Z, ⟨.inr Z, ?_, ?_, h.ne⟩, (Frm.refl _ w).setCell (.inl Z) _⟩
    · simp [World.setCell, Array.getElem?_modify, h.bk]
    · exact h.own.kept (row := some b) ⟨rfl, rfl, rfl, by simp [World.setCell], fun k _ hk => Below.heap_setCell _ _ _ _ (fun e => hk (by simp [e]))⟩ (.inr h.ne)
  · refine (Bld.copyCheck_used b w hat.cell0).mono ?_
    rintro e w' ⟨rfl, rfl⟩
    exact ⟨rfl, h, Frm.refl _ _⟩
set_option maxHeartbeats 2000000 in
theorem writeF {b : Nat} {p v : Value} {bs : List Value} {s : ByteArray} {w : World} (h : Bl w b p v bs) (hlen : bs.length + s.size ≤ 2199023255552) :
    Calls Tryz.prog 76 #[.pointer (some ⟨b, 0, none⟩), .string s] w fun e w' => e = .returned (.tuple #[.int .i64 s.size, .nilIface]) ∧
      ∃ v', Bl w' b (.pointer (some ⟨b, 0, none⟩)) v' (bs ++ Lib.strCells s) ∧ (∀ k, v'.ownBlock = some k → v.ownBlock = some k ∨ w.heap.size ≤ k) ∧ Frm (fun k => k = b ∨ v.ownBlock = some k) w w' := by
  obtain ⟨i0, hi, hz0, hz1, hz2⟩ := info_parts Bld.infoByte
  go_enter Tryz.func76, Tryz.ntmps76
  go_wp2_with (go_at_call 114; refine (copyCheckF h).mono ?_)
  rintro e w1 ⟨rfl, h1, hb1⟩
  have hbk := h1.bk
  have c0 : w1.cell? ⟨b, 0, none⟩ = some (.pointer (some ⟨b, 0, none⟩)) := by rw [Lib.cell_of_heap hbk]; rfl
  have c1 : w1.cell? ⟨b, 1, none⟩ = some v := by rw [Lib.cell_of_heap hbk]; rfl
  go_wp2_with (at_builtin; refine wpList_app_str rfl _ _ 121 9 rfl 5 i0 Tryz.underlying121 Tryz.underlying9 hi hz0 hz1 hz2 _ _ _ rfl h1.own s rfl hlen ?_)
  intro v' w2 hown' hgrow hnew
  have hlt : b < w1.heap.size := (Array.getElem?_eq_some_iff.1 hbk).1
  have hb2 : w2.heap[b]? = some (.cells #[.pointer (some ⟨b, 0, none⟩), v] 123 (0, 0)) := by
    rw [hgrow.block b hlt (fun e => h1.ne e.symm)]
    exact hbk
  have d0 : w2.cell? ⟨b, 0, none⟩ = some (.pointer (some ⟨b, 0, none⟩)) := by rw [Lib.cell_of_heap hb2]; rfl
  have d1 : w2.cell? ⟨b, 1, none⟩ = some v := by rw [Lib.cell_of_heap hb2]; rfl
  have f1 : w2.frozen? ⟨b, 1, none⟩ = false := Lib.frozen_of_heap hb2 1
  obtain ⟨ao, n', cap, rfl⟩ : ∃ ao n' cap, v' = .slice ao n' cap := by
    rcases hown'.2 with ⟨hv, _⟩ | ⟨g, cap, cur, hv, _⟩
    · exact ⟨_, _, _, hv⟩
    · exact ⟨_, _, _, hv⟩
  go_wp2
  go_ret2
  have hne := Lib.ownBlock_ne hown' hb2 (by decide)
  refine ⟨Z, _, ⟨.inr Z, ?_, ?_, hne⟩, fun k hk => (hnew k hk).imp id (fun h => Nat.le_trans hb1.sz h), (hb1.grown hgrow (fun k hk => .inr hk)).setCell (p := ⟨b, 1, none⟩) (.inl Z) _⟩
  · simp [World.setCell, Array.getElem?_modify, hb2]
  · have : w2.ownsRow 0 5 1 (.slice ao n' cap) (bs ++ Lib.strCells s).length (bs ++ Lib.strCells s) := by simpa [Lib.strCells_length] using hown'
    exact this.kept (row := some b) ⟨rfl, rfl, rfl, by simp [World.setCell], fun k _ hk => Below.heap_setCell _ _ _ _ (fun e => hk (by simp [e]))⟩ (.inr hne)
set_option maxHeartbeats 2000000 in
set_option maxRecDepth 100000 in
theorem stringF_some (b : Nat) (p v : Value) (l : List UInt8) (w : World) (h : Bl w b p v (Lib.byteCells l)) (h0 : l ≠ []) :
    Calls Tryz.prog 80 #[.pointer (some ⟨b, 0, none⟩)] w fun e w' => e = .returned (.string ⟨l.toArray⟩) ∧ Frm (fun k => v.ownBlock = some k) w w' := by
  obtain ⟨hp, hbk, hown, hne⟩ := h
  have hl0 : l.length ≠ 0 := by simpa using h0
  rw [Lib.byteCells_length] at hown
  obtain ⟨g, cap, cur, rfl, hbg, hg, hnc, hcm, hcs, htake⟩ : ∃ g cap cur, v = .slice (some ⟨g, 0, none⟩) l.length cap ∧ 0 ≤ g ∧ w.heap[g]? = some (.cells cur 5 (0, 0)) ∧ l.length ≤ cap ∧ cap ≤ maxLen ∧ cur.size = cap * 1 ∧ cur.toList.take (l.length * 1) = Lib.byteCells l := by
    rcases hown.2 with ⟨_, hz⟩ | ⟨g, cap, cur, hv, r⟩
    · exact absurd hz hl0
    · exact ⟨g, cap, cur, hv, r⟩
  have c1 : w.drew.cell? ⟨b, 1, none⟩ = some (.slice (some ⟨g, 0, none⟩) l.length cap) := by
    have : w.drew.heap[b]? = some (.cells #[p, .slice (some ⟨g, 0, none⟩) l.length cap] 123 (0, 0)) := hbk
    rw [Lib.cell_of_heap this]; rfl
  have hSD : (Builtin.unsafeSliceData_ #[121] 162 #[.slice (some ⟨g, 0, none⟩) l.length cap]).run Tryz.prog w.drew = .ok (.pointer (some ⟨g, 0, none⟩)) w.drew :=
    Lib.run_unsafeSliceData_row _ _ _ _ _ _ (by omega)
  have hUS : (Builtin.unsafeString_ #[162, 3] 9 #[.pointer (some ⟨g, 0, none⟩), .int .i64 l.length]).run Tryz.prog w.drew = .ok (.string ⟨l.toArray⟩) (w.drew.freeze ⟨g, 0, none⟩ l.length) := by
    refine Lib.run_unsafeString_row w.drew 162 3 9 5 Tryz.underlying162 Bld.cellsByte g cur.size (by have hg' : w.drew.heap[g]? = some (.cells cur 5 (0, 0)) := hg; simp [World.shape?, hg']) l h0 (by omega) (by unfold maxLen at hcm; omega) ?_
    intro j x hx
    have := hown.cells (g := g) rfl j (.int .u8 x.toNat) (by simp [Lib.byteCells, hx])
    exact this
  go_enter Tryz.func80, Tryz.ntmps80
  go_wp2
  go_region
  all_goals (go_wp2; go_ret; exact ⟨rfl, Frm.freeze (S := fun k => (Value.slice (some ⟨g, 0, none⟩) l.length cap).ownBlock = some k) (Frm.drew (Frm.refl _ w)) (p := ⟨g, 0, none⟩) rfl _⟩)
set_option maxHeartbeats 2000000 in
set_option maxRecDepth 100000 in
theorem stringF_nil (b : Nat) (p : Value) (w : World) (hbk : w.heap[b]? = some (.cells #[p, .slice none 0 0] 123 (0, 0))) :
    Calls Tryz.prog 80 #[.pointer (some ⟨b, 0, none⟩)] w fun e w' => e = .returned (.string ⟨#[]⟩) ∧ Frm (fun _ => False) w w' := by
  have hUS := Bld.unsafeString_none
  have c1 : w.drew.cell? ⟨b, 1, none⟩ = some (.slice none 0 0) := by
    have : w.drew.heap[b]? = some (.cells #[p, .slice none 0 0] 123 (0, 0)) := hbk
    rw [Lib.cell_of_heap this]; rfl
  have hSD : (Builtin.unsafeSliceData_ #[121] 162 #[.slice none 0 0]).run Tryz.prog w.drew = .ok (.pointer none) w.drew := rfl
  go_enter Tryz.func80, Tryz.ntmps80
  go_wp2
  go_region
  all_goals (go_wp2; go_ret; exact ⟨rfl, Frm.drew (Frm.refl _ w)⟩)
set_option maxHeartbeats 2000000 in
set_option maxRecDepth 100000 in
theorem stringF_noroom (b g : Nat) (p : Value) (cur : Array Value) (w : World) (hbk : w.heap[b]? = some (.cells #[p, .slice (some ⟨g, 0, none⟩) 0 0] 123 (0, 0))) (hg : w.heap[g]? = some (.cells cur 5 (0, 0))) :
    Calls Tryz.prog 80 #[.pointer (some ⟨b, 0, none⟩)] w fun e w' => e = .returned (.string ⟨#[]⟩) ∧ Frm (fun _ => False) w w' := by
  have hUS := Bld.unsafeString_none
  have hlt : b < w.heap.size := by
    rcases Nat.lt_or_ge b w.heap.size with h' | h'
    · exact h'
    · simp [Array.getElem?_eq_none h'] at hbk
  have c1 : w.drew.cell? ⟨b, 1, none⟩ = some (.slice (some ⟨g, 0, none⟩) 0 0) := by
    have : w.drew.heap[b]? = some (.cells #[p, .slice (some ⟨g, 0, none⟩) 0 0] 123 (0, 0)) := hbk
    rw [Lib.cell_of_heap this]; rfl
  have hSD : (Builtin.unsafeSliceData_ #[121] 162 #[.slice (some ⟨g, 0, none⟩) 0 0]).run Tryz.prog w.drew = .ok (.pointer (some ⟨w.drew.heap.size, 0, none⟩)) (w.drew.alloc (.view ⟨g, 0, none⟩ 5)) :=
    Lib.run_unsafeSliceData_zero w.drew _ _ 5 Tryz.underlying162 ⟨g, 0, none⟩ 0 (5, cur.size) (by have hg' : w.drew.heap[g]? = some (.cells cur 5 (0, 0)) := hg; simp [World.shape?, hg'])
  have c2 : (w.drew.alloc (.view ⟨g, 0, none⟩ 5)).cell? ⟨b, 1, none⟩ = some (.slice (some ⟨g, 0, none⟩) 0 0) := by
    have : (w.drew.alloc (.view ⟨g, 0, none⟩ 5)).heap[b]? = _ := (Lib.alloc_old w.drew _ b hlt).trans hbk
    rw [Lib.cell_of_heap this]; rfl
  have c3 : (w.alloc (.view ⟨g, 0, none⟩ 5)).drew.cell? ⟨b, 1, none⟩ = some (.slice (some ⟨g, 0, none⟩) 0 0) := c2
  have c0 : w.cell? ⟨b, 1, none⟩ = some (.slice (some ⟨g, 0, none⟩) 0 0) := c1
  go_enter Tryz.func80, Tryz.ntmps80
  go_wp2
  go_region
  all_goals (go_wp2; go_ret; exact ⟨rfl, (Frm.drew (Frm.refl _ w)).alloc _⟩)
set_option maxHeartbeats 2000000 in
set_option maxRecDepth 100000 in
theorem stringF_room (b g cap : Nat) (p : Value) (w : World) (hc0 : cap ≠ 0) (hbk : w.heap[b]? = some (.cells #[p, .slice (some ⟨g, 0, none⟩) 0 cap] 123 (0, 0))) :
    Calls Tryz.prog 80 #[.pointer (some ⟨b, 0, none⟩)] w fun e w' => e = .returned (.string ⟨#[]⟩) ∧ Frm (fun _ => False) w w' := by
  have hUS := Bld.unsafeString_none
  have c1 : w.drew.cell? ⟨b, 1, none⟩ = some (.slice (some ⟨g, 0, none⟩) 0 cap) := by
    have : w.drew.heap[b]? = some (.cells #[p, .slice (some ⟨g, 0, none⟩) 0 cap] 123 (0, 0)) := hbk
    rw [Lib.cell_of_heap this]; rfl
  have hSD : (Builtin.unsafeSliceData_ #[121] 162 #[.slice (some ⟨g, 0, none⟩) 0 cap]).run Tryz.prog w.drew = .ok (.pointer (some ⟨g, 0, none⟩)) w.drew :=
    Lib.run_unsafeSliceData_row _ _ _ _ _ _ hc0
  clear hc0
  go_enter Tryz.func80, Tryz.ntmps80
  go_wp2
  go_region
  all_goals (go_wp2; go_ret; exact ⟨rfl, Frm.drew (Frm.refl _ w)⟩)
theorem Frm.weak {S S' : Nat → Prop} {w w' : World} (h : Frm S w w') (hs : ∀ k, S k → S' k) : Frm S' w w' := ⟨h.sm, h.sz, fun k hk hn => h.bl k hk (fun e => hn (hs k e))⟩
theorem stringF {b : Nat} {p v : Value} {l : List UInt8} {w : World} (h : Bl w b p v (Lib.byteCells l)) :
    Calls Tryz.prog 80 #[.pointer (some ⟨b, 0, none⟩)] w fun e w' => e = .returned (.string ⟨l.toArray⟩) ∧ Frm (fun k => v.ownBlock = some k) w w' := by
  cases l with
  | cons x r => exact stringF_some b p v (x :: r) w h (by simp)
  | nil =>
    rcases h.own.2 with ⟨rfl, _⟩ | ⟨g, cap, cur, rfl, hbg, hg, _, _, _, _⟩
    · exact (stringF_nil b p w h.bk).mono fun e w' ⟨h1, h2⟩ => ⟨h1, h2.weak fun _ h => h.elim⟩
    · by_cases hc0 : cap = 0
      · subst hc0
        exact (stringF_noroom b g p cur w h.bk hg).mono fun e w' ⟨h1, h2⟩ => ⟨h1, h2.weak fun _ h => h.elim⟩
      · exact (stringF_room b g cap p w hc0 h.bk).mono fun e w' ⟨h1, h2⟩ => ⟨h1, h2.weak fun _ h => h.elim⟩
variable {B : BT} {P : Program} {ν : Nm} {G : Gh} {H H1 : Heap} {W W' : World}
theorem R.grow (h : R B G H W) {q : Nm} {l : Loc} {obj : AObj} {o' : Option AObj} (hq : G.mu q = some l) (hH : H q = some obj) (hsm : Same W W') (hsz : W.heap.size ≤ W'.heap.size) (hb : ∀ b, b < W.heap.size → ¬ ownB obj l W b → W'.heap[b]? = W.heap[b]?)
    (hok : ∀ ob, o' = some ob → OK B G ob l W') (hown : ∀ ob, o' = some ob → ∀ k, ownB ob l W' k → ownB obj l W k ∨ W.heap.size ≤ k) : R B G (H.put q o') W' ∧ St ν G G H (H.put q o') W W' := by
  have split : ∀ p l' ob, G.mu p = some l' → H.put q o' p = some ob → (p = q ∧ l' = l ∧ o' = some ob) ∨ (p ≠ q ∧ H p = some ob) := by
    intro p l' ob h1 h2
    by_cases e : p = q
    · left; subst e; rw [hq] at h1; rw [put_same] at h2
      exact ⟨rfl, (Option.some.inj h1).symm, h2⟩
    · right; rw [put_other H _ e] at h2; exact ⟨e, h2⟩
  have mine : ∀ k, ownB obj l W k → Ow G H W k := fun k hk => ⟨q, l, obj, hq, hH, hk⟩
  have ne : ∀ p l' ob, p ≠ q → G.mu p = some l' → H p = some ob → ∀ k, ownB ob l' W k → ¬ ownB obj l W k := by
    intro p l' ob e h1 h2 k h3 h4
    exact e (h.dj p q l' l ob obj k h1 h2 hq hH h3 h4)
  have keep : ∀ p l' ob, p ≠ q → G.mu p = some l' → H p = some ob → ∀ k, ownB ob l' W k → W'.heap[k]? = W.heap[k]? := fun p l' ob e h1 h2 k h3 => hb k (h3.lt (h.ob p l' ob h1 h2)) (ne p l' ob e h1 h2 k h3)
  have back : ∀ p l' ob k, p ≠ q → G.mu p = some l' → H p = some ob → ownB ob l' W' k → ownB ob l' W k := fun p l' ob k e h1 h2 h3 => h3.back (keep p l' ob e h1 h2 _ (.inl rfl))
  have ow : ∀ b, Ow G (H.put q o') W' b → W.heap.size ≤ b ∨ Ow G H W b := by
    rintro b ⟨p, l', ob, h1, h2, h3⟩
    rcases split p l' ob h1 h2 with ⟨rfl, rfl, h4⟩ | ⟨e, h4⟩
    · exact (hown ob h4 b h3).symm.imp id (mine b)
    · exact .inr ⟨p, l', ob, h1, h4, back _ _ _ _ e h1 h4 h3⟩
  refine ⟨⟨fun b o v e => ?_, fun b o v e e' => ?_, fun p l' ob h1 h2 => ?_, fun p p' l1 l2 o1 o2 k h1 h2 h3 h4 h5 h6 => ?_⟩, Gle.refl G, fun _ _ => Z, fun _ _ _ e => .inl e, fun p e e' => ?_, hsz, fun b hlt hn => hb b hlt (fun e => hn (mine b e)), ow, hsm, fun p _ e => put_other H _ (fun e'' => by subst e''; rw [hq] at e; cases e)⟩
  · rw [cell_block (hb b (h.flt e) (fun e' => h.fo b o v e (mine b e')))]; exact h.f b o v e
  · rcases ow b e' with h1 | h1
    · exact absurd (h.flt e) (by omega)
    · exact h.fo b o v e h1
  · rcases split p l' ob h1 h2 with ⟨rfl, rfl, h4⟩ | ⟨e, h4⟩
    · exact hok ob h4
    · exact (h.ob p l' ob h1 h4).congr (Gle.refl G) fun k hk => keep p l' ob e h1 h4 k hk
  · rcases split p l1 o1 h1 h2 with ⟨rfl, rfl, h7⟩ | ⟨e, h7⟩
    · rcases split p' l2 o2 h3 h4 with ⟨rfl, rfl, h8⟩ | ⟨e', h8⟩
      · rfl
      · have h9 := back _ _ _ _ e' h3 h8 h6
        rcases hown o1 h7 k h5 with h10 | h10
        · exact absurd h10 (ne p' l2 o2 e' h3 h8 k h9)
        · exact absurd (h9.lt (h.ob p' l2 o2 h3 h8)) (by omega)
    · rcases split p' l2 o2 h3 h4 with ⟨rfl, rfl, h8⟩ | ⟨e', h8⟩
      · have h9 := back _ _ _ _ e h1 h7 h5
        rcases hown o2 h8 k h6 with h10 | h10
        · exact absurd h10 (ne p l1 o1 e h1 h7 k h9)
        · exact absurd (h9.lt (h.ob p l1 o1 h1 h7)) (by omega)
      · exact h.dj p p' l1 l2 o1 o2 k h1 h7 h3 h8 (back _ _ _ _ e h1 h7 h5) (back _ _ _ _ e' h3 h8 h6)
  · by_cases e'' : p = q
    · subst e''; rw [hH] at e'; cases e'
    · rw [put_other H _ e'']; exact e'
theorem strCells_append (a b : ByteArray) : Lib.strCells (a ++ b) = Lib.strCells a ++ Lib.strCells b := by
  simp [Lib.strCells, ByteArray.data_append]
theorem bl_of {b : Nat} {s : ByteArray} {w : World} (h : Lib.IsBuilder TBb TUb 0 b (Lib.strCells s) w) : ∃ p v, Bl w b p v (Lib.strCells s) := by
  rcases h with ⟨_, v, h1, h2, h3⟩ | ⟨_, v, h1, h2, h3⟩
  · exact ⟨_, v, .inl rfl, h1, h2, h3⟩
  · exact ⟨_, v, .inr rfl, h1, h2, h3⟩
theorem ownB_bl {s : ByteArray} {l : Loc} {w : World} {p v : Value} {bs : List Value} (h : Bl w l.b p v bs) (k : Nat) : ownB (.bld s) l w k ↔ (k = l.b ∨ v.ownBlock = some k) := by
  constructor
  · rintro (h1 | ⟨s', p', v', T, _, h2, h3⟩)
    · exact .inl h1
    · rw [h.bk] at h2
      injection h2 with h2
      injection h2 with h2 _ _
      injection h2 with h2
      injection h2 with _ h2
      injection h2 with h2 _
      subst h2
      exact .inr h3
  · rintro (h1 | h1)
    · exact .inl h1
    · exact .inr ⟨s, p, v, _, rfl, h.bk, h1⟩
theorem given_bWrite : GivenOK BTG Tryz.prog .bWrite 76 := by
  refine ⟨⟨_, Tryz.func76, Z, by decide⟩, ?_⟩
  intro args H v H1 hg ν G W args' hR hF hargs
  obtain ⟨q, s, rfl⟩ : ∃ q s, args = [.ptr q 0 0, .str s] := by
    unfold aGiven at hg
    split at hg
    · exact ⟨_, _, rfl⟩
    · rename_i h; cases h
    · cases hg
  simp only [aGiven] at hg
  · cases hb : H q with
    | none => rw [hb] at hg; cases hg
    | some ob =>
      cases ob with
      | row w xs => rw [hb] at hg; cases hg
      | map es => rw [hb] at hg; cases hg
      | bld b =>
        rw [hb] at hg
        simp only at hg
        split at hg
        · rename_i hsz
          simp only [Option.some.injEq, Prod.mk.injEq] at hg
          obtain ⟨rfl, rfl⟩ := hg
          obtain ⟨v0, h0, hv0⟩ := hargs.get (i := 0) (x := .ptr q 0 0) rfl
          obtain ⟨v1, h1, hv1⟩ := hargs.get (i := 1) (x := .str s) rfl
          have hlen : args'.toList.length = 2 := hargs.1.symm
          obtain rfl : args' = #[v0, v1] := by
            apply Array.ext'
            apply List.ext_getElem? 
            intro n
            match n with
            | 0 => exact h0
            | 1 => exact h1
            | n + 2 => rw [List.getElem?_eq_none (by omega), List.getElem?_eq_none (by simp)]
          cases hv1
          cases hv0 with
          | @ptr _ _ _ l hmu =>
            rw [show (0 * l.w + 0) = 0 by omega]
            have hob := hR.ob q l (.bld b) hmu hb
            obtain ⟨p, u, hbl⟩ := bl_of hob
            have hbs : (Lib.strCells b).length + s.size ≤ 2199023255552 := by rw [Lib.strCells_length]; omega
            refine (writeF hbl hbs).mono ?_
            rintro e w' ⟨rfl, u', hbl', hnew, hfr⟩
            have hk : ∀ k, ownB (.bld (b ++ s)) l w' k → ownB (.bld b) l W k ∨ W.heap.size ≤ k := by
              intro k hk
              rcases (ownB_bl hbl' k).1 hk with h | h
              · exact .inl (.inl h)
              · exact (hnew k h).imp (fun h => (ownB_bl hbl k).2 (.inr h)) id
            obtain ⟨hR', hSt⟩ := hR.grow (ν := ν) (W' := w') (o' := some (.bld (b ++ s))) hmu hb hfr.sm hfr.sz (fun k hk hn => hfr.bl k hk (fun h => hn ((ownB_bl hbl k).2 h))) (fun ob e => by
              cases e
              refine .inr ⟨Nat.zero_le _, u', hbl'.bk, ?_, hbl'.ne⟩
              show w'.ownsRow 0 TUb 1 u' (Lib.strCells (b ++ s)).length (Lib.strCells (b ++ s))
              rw [strCells_append]; exact hbl'.own) (fun ob e => by cases e; exact hk)
            exact ⟨_, G, rfl, .tup rfl (fun i x y hx hy => by
              match i with
              | 0 => simp at hx hy; subst hx; subst hy; exact .int _ _
              | 1 => simp at hx hy; subst hx; subst hy; exact .nili
              | i + 2 => simp at hx), hR', hSt⟩
        · cases hg
theorem given_bString : GivenOK BTG Tryz.prog .bString 80 := by
  refine ⟨⟨_, Tryz.func80, Z, by decide⟩, ?_⟩
  intro args H v H1 hg ν G W args' hR hF hargs
  obtain ⟨q, rfl⟩ : ∃ q, args = [.ptr q 0 0] := by
    unfold aGiven at hg
    split at hg
    · rename_i h; cases h
    · exact ⟨_, rfl⟩
    · cases hg
  simp only [aGiven] at hg
  · cases hb : H q with
    | none => rw [hb] at hg; cases hg
    | some ob =>
      cases ob with
      | row w xs => rw [hb] at hg; cases hg
      | map es => rw [hb] at hg; cases hg
      | bld b =>
        rw [hb] at hg
        simp only [Option.some.injEq, Prod.mk.injEq] at hg
        obtain ⟨rfl, rfl⟩ := hg
        obtain ⟨v0, h0, hv0⟩ := hargs.get (i := 0) (x := .ptr q 0 0) rfl
        have hlen : args'.toList.length = 1 := hargs.1.symm
        obtain rfl : args' = #[v0] := by
          apply Array.ext'
          apply List.ext_getElem? 
          intro n
          match n with
          | 0 => exact h0
          | n + 1 => rw [List.getElem?_eq_none (by omega), List.getElem?_eq_none (by simp)]
        cases hv0 with
        | @ptr _ _ _ l hmu =>
          rw [show (0 * l.w + 0) = 0 by omega]
          have hob := hR.ob q l (.bld b) hmu hb
          obtain ⟨p, u, hbl⟩ := bl_of hob
          refine (stringF (l := b.data.toList) hbl).mono ?_
          rintro e w' ⟨rfl, hfr⟩
          obtain ⟨hR', hSt⟩ := hR.grow (ν := ν) (W' := w') (o' := none) hmu hb hfr.sm hfr.sz (fun k hk hn => hfr.bl k hk (fun h => hn ((ownB_bl hbl k).2 (.inr h)))) (fun ob e => by cases e) (fun ob e => by cases e)
          exact ⟨_, G, rfl, .str _, hR', hSt⟩
end Go.Proofs.YtfkgdlfponfimaaGreat.X
