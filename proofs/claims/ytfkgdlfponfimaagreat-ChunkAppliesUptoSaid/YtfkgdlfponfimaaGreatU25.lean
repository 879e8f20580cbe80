import Derived.Test.YtfkgdlfponfimaaGreatU24
import Derived.IntWalk
/- Slices that are one's own: rows of the heap from their beginning on. -/
namespace Go.Proofs.YtfkgdlfponfimaaGreat.X
open Go
variable {c : Cfg} {ν : Nm} {e : Env} {H H1 : Heap}
theorem put_same {q : Nm} {o : Option AObj} : (H.put q o) q = o := by simp [Heap.put]
theorem put_ne {p q : Nm} {o : Option AObj} (h : p ≠ q) : (H.put q o) p = H p := by simp [Heap.put, h]
theorem far {p q : Nm} (h : under ν p = false) (h2 : under ν q = true) : p ≠ q := by rintro rfl; rw [h] at h2; cases h2
theorem aLen {T : TT} {ts : List TypeId} {x : AVal} {n : Nat} (hk : lenKind T ts x = true) (hn : lenOf H x = some n) : aBuiltin T ν H .len ts [x] = some (.int .i64 n, H) := by
  simp only [aBuiltin, hk, if_true, hn]
inductive Sl (H : Heap) (w : Nat) (xs : List AVal) : AVal → List Nm → Prop
  | emp : xs = [] → Sl H w xs .emp []
  | nls : xs = [] → Sl H w xs .nls []
  | row {q : Nm} {n : Nat} {ys : List AVal} : H q = some (.row w ys) → n = xs.length → ys.take n = xs → Sl H w xs (.slc q w 0 n) [q]
namespace Sl
variable {w : Nat} {xs : List AVal} {S : AVal} {fp : List Nm}
theorem frame (h : Sl H w xs S fp) (hf : ∀ p ∈ fp, H1 p = H p) : Sl H1 w xs S fp := by
  cases h with
  | emp h => exact .emp h
  | nls h => exact .nls h
  | row h1 h2 h3 => exact .row (by rw [hf _ (by simp)]; exact h1) h2 h3
theorem cast {ys : List AVal} (h : Sl H w xs S fp) (he : xs = ys) : Sl H w ys S fp := he ▸ h
theorem len (h : Sl H w xs S fp) : lenOf H1 S = some xs.length := by
  cases h with
  | emp h => subst h; rfl
  | nls h => subst h; rfl
  | row h1 h2 h3 => rw [← h2]; rfl
theorem kind (h : Sl H w xs S fp) {T : TT} {t e : TypeId} {ti : TI} {r : List TypeId} (ht : T t = some ti) (hk : ti.k = .slice e) : lenKind T (t :: r) S = true := by
  cases h <;> simp only [lenKind, ht, hk]
theorem elems (h : Sl H w xs S fp) : elems H S = some xs := by
  cases h with
  | emp h => subst h; rfl
  | nls h => subst h; rfl
  | @row q n ys h1 h2 h3 =>
    have : n ≤ ys.length := by
      have := congrArg List.length h3
      rw [List.length_take, ← h2] at this; omega
    simp only [X.elems, h1, Nat.zero_add, if_pos this, List.drop_zero, h3]
theorem app (h : Sl H w xs S fp) {T : TT} {t el : TypeId} {ti ei : TI} (ht : T t = some ti) (hk : ti.k = .slice el) (he : T el = some ei) (hw : ei.size = w) {Y : AVal} {ys : List AVal} (hY : X.elems H Y = some ys) (hyw : ∀ y ∈ ys, y.cells.length = w)
    (hb : (xs.length + ys.length) * (ei.bytes + 1) ≤ 1099511627776) (hν : ν ∉ fp) :
    ∃ S' H', aAppend T ν H t S Y = some (S', H') ∧ ∃ fp', Sl H' w (xs ++ ys) S' fp' ∧ (∀ p ∈ fp', p ∈ fp ∨ p = ν) ∧ ∀ p, p ∉ fp → p ≠ ν → H' p = H p := by
  have hall : (ys.all fun v => v.cells.length == ei.size) = true := by
    rw [List.all_eq_true]; intro y hy; simp [hyw y hy, hw]
  subst hw
  cases h with
  | emp h =>
    subst h
    by_cases h0 : ys.length = 0
    · have : ys = [] := List.eq_nil_of_length_eq_zero h0
      exact ⟨.emp, H, by simp only [aAppend, ht, hk, he, hY, hall, if_true, if_pos h0], [], .emp (by simp [this]), by simp, fun _ _ _ => rfl⟩
    · have hb' : ys.length * (ei.bytes + 1) ≤ 1099511627776 := by simpa using hb
      exact ⟨.slc ν ei.size 0 ys.length, H.put ν (some (.row ei.size ys)), by simp only [aAppend, ht, hk, he, hY, hall, if_true, if_neg h0, if_pos hb'], [ν], .row (ys := ys) put_same (by simp) (by simp), by simp, fun p _ hp => put_ne hp⟩
  | nls h =>
    subst h
    by_cases h0 : ys.length = 0
    · have : ys = [] := List.eq_nil_of_length_eq_zero h0
      exact ⟨.nls, H, by simp only [aAppend, ht, hk, he, hY, hall, if_true, if_pos h0], [], .nls (by simp [this]), by simp, fun _ _ _ => rfl⟩
    · have hb' : ys.length * (ei.bytes + 1) ≤ 1099511627776 := by simpa using hb
      exact ⟨.slc ν ei.size 0 ys.length, H.put ν (some (.row ei.size ys)), by simp only [aAppend, ht, hk, he, hY, hall, if_true, if_neg h0, if_pos hb'], [ν], .row (ys := ys) put_same (by simp) (by simp), by simp, fun p _ hp => put_ne hp⟩
  | @row q n zs h1 h2 h3 =>
    have hn : n ≤ zs.length := by
      have := congrArg List.length h3
      rw [List.length_take, ← h2] at this; omega
    by_cases hl : n + ys.length ≤ zs.length
    · refine ⟨.slc q ei.size 0 (n + ys.length), H.put q (some (.row ei.size (zs.take n ++ ys ++ zs.drop (n + ys.length)))), by simp only [aAppend, ht, hk, he, hY, hall, if_true, and_self, h1, if_pos hl], [q], .row (ys := zs.take n ++ ys ++ zs.drop (n + ys.length)) put_same (by simp [h2]) ?_, by simp, fun p hp _ => put_ne (by simpa using hp)⟩
      rw [h3, List.take_append_of_le_length (by simp [h2]), List.take_of_length_le (by simp [h2])]
    · have hb' : n ≤ zs.length ∧ (n + ys.length) * (ei.bytes + 1) ≤ 1099511627776 := ⟨hn, by rw [h2]; exact hb⟩
      refine ⟨.slc ν ei.size 0 (n + ys.length), (H.put q none).put ν (some (.row ei.size (zs.take n ++ ys))), by simp only [aAppend, ht, hk, he, hY, hall, if_true, and_self, h1, if_neg hl, if_pos hb'], [ν], .row (ys := zs.take n ++ ys) put_same (by simp [h2]) ?_, by simp, fun p hp hp2 => by rw [put_ne hp2, put_ne (by simpa using hp)]⟩
      rw [h3, List.take_of_length_le (by simp [h2])]
end Sl
theorem add64 {T : TT} {t : TypeId} {a b : Int} (h : -9223372036854775808 ≤ a + b ∧ a + b ≤ 9223372036854775807) : aBin T .add t (.int .i64 a) (.int .i64 b) = some (.int .i64 (a + b)) := by
  show some (AVal.int .i64 (IntKind.i64.wrap (a + b))) = _
  rw [IntWalk.i64_in _ h]
theorem sub64 {T : TT} {t : TypeId} {a b : Int} (h : -9223372036854775808 ≤ a - b ∧ a - b ≤ 9223372036854775807) : aBin T .sub t (.int .i64 a) (.int .i64 b) = some (.int .i64 (a - b)) := by
  show some (AVal.int .i64 (IntKind.i64.wrap (a - b))) = _
  rw [IntWalk.i64_in _ h]
theorem addu64 {T : TT} {t : TypeId} {a b : Int} (h : 0 ≤ a + b ∧ a + b ≤ 18446744073709551615) : aBin T .add t (.int .u64 a) (.int .u64 b) = some (.int .u64 (a + b)) := by
  show some (AVal.int .u64 (IntKind.u64.wrap (a + b))) = _
  rw [IntWalk.u64_in _ h]
theorem subu64 {T : TT} {t : TypeId} {a b : Int} (h : 0 ≤ a - b ∧ a - b ≤ 18446744073709551615) : aBin T .sub t (.int .u64 a) (.int .u64 b) = some (.int .u64 (a - b)) := by
  show some (AVal.int .u64 (IntKind.u64.wrap (a - b))) = _
  rw [IntWalk.u64_in _ h]
section
variable {T : TT} {t el : TypeId} {ti ei : TI} {q : Nm} {w off len : Nat}
theorem slc_lo (ht : T t = some ti) (hk : ti.k = .slice el) (he : T el = some ei) (hw : ei.size = w) {i : Nat} (hi : i ≤ len) : aSlice T t (.slc q w off len) (some (.int .i64 i)) none none = some (.slc q w (off + i) (len - i)) := by
  have h1 : (0 : Int) ≤ i ∧ (i : Int) ≤ len := by omega
  simp only [aSlice, ht, hk, he, aBound, if_pos h1, Int.toNat_natCast, hw, if_true]
theorem slc_hi (ht : T t = some ti) (hk : ti.k = .slice el) (he : T el = some ei) (hw : ei.size = w) {i : Nat} (hi : i ≤ len) : aSlice T t (.slc q w off len) none (some (.int .i64 i)) none = some (.slc q w off i) := by
  have h1 : (0 : Int) ≤ i ∧ (i : Int) ≤ len := by omega
  simp only [aSlice, ht, hk, he, aBound, if_pos h1, Int.toNat_natCast, hw, if_true, Nat.add_zero, Nat.sub_zero]
theorem clear_slc (ht : T t = some ti) (hk : ti.k = .slice el) (he : T el = some ei) (hw : ei.size = w) {ys : List AVal} (hq : H q = some (.row w ys)) (hl : off + len ≤ ys.length) (hz : ei.zero.cells.length = w) :
    aBuiltin T ν H .clear [t] [.slc q w off len] = some (.tup [], H.put q (some (.row w (ys.take off ++ List.replicate len ei.zero ++ ys.drop (off + len))))) := by
  have h1 : w = ei.size ∧ off + len ≤ ys.length ∧ ei.zero.cells.length = ei.size := ⟨hw.symm, hl, by rw [hz, hw]⟩
  simp only [aBuiltin, aClear, ht, hk, he, hq, if_pos h1]
theorem app_bi {t2 : TypeId} {x y v : AVal} {H1 : Heap} (hs : srcOk T [t, t2] = true) (h : aAppend T ν H t x y = some (v, H1)) : aBuiltin T ν H .append [t, t2] [x, y] = some (v, H1) := by
  simp only [aBuiltin, hs, if_true, h]
theorem ia_slc (ht : T t = some ti) (hk : ti.k = .slice el) (he : T el = some ei) (hw : ei.size = w) {i : Nat} {k : IntKind} (hi : i < len) : aIndexAddr T t (.slc q w off len) (.int k i) = some (.ptr q (off + i) 0) := by
  have h1 : (0 : Int) ≤ i ∧ (i : Int) < len ∧ w = ei.size := ⟨by omega, by omega, hw.symm⟩
  simp only [aIndexAddr, ht, hk, he, if_pos h1, Int.toNat_natCast]
theorem ia_slc0 (ht : T t = some ti) (hk : ti.k = .slice el) (he : T el = some ei) (hw : ei.size = w) {i : Nat} {k : IntKind} (hi : i < len) : aIndexAddr T t (.slc q w 0 len) (.int k i) = some (.ptr q i 0) := by
  rw [ia_slc ht hk he hw hi, Nat.zero_add]
end
theorem rest_same (h : ∀ q, under ν q = false → H1 q = H q) : rest ν H H1 = H := by
  funext q
  unfold rest
  split
  · rfl
  · rename_i hq; exact h q (by simpa using hq)
theorem map_same {α : Type} {f : α → α} {l : List α} (h : ∀ x ∈ l, f x = x) : l.map f = l := by
  induction l with
  | nil => rfl
  | cons x l ih => rw [List.map_cons, h x (by simp), ih (fun y hy => h y (by simp [hy]))]
def plain : AVal → Bool
  | .bool _ | .int _ _ | .str _ | .nilp | .ptr _ _ _ | .nilm | .map _ | .nilf | .nili | .nne | .lst _ => true
  | .agg cs => cs.all fun c => match c with
    | .bool _ | .int _ _ | .str _ | .nilp | .ptr _ _ _ | .nilm | .map _ | .nilf | .nili | .nne | .lst _ => true
    | _ => false
  | _ => false
theorem Ae {n : Nat} {v : AVal} (h : plain v = true) : freeze ν H n v = v := by
  have leaf : ∀ (m : Nat) (c : AVal), (match c with
    | .bool _ | .int _ _ | .str _ | .nilp | .ptr _ _ _ | .nilm | .map _ | .nilf | .nili | .nne | .lst _ => true
    | _ => false) = true → freeze ν H m c = c := by
    intro m c hc
    cases m with
    | zero => rfl
    | succ m => cases c <;> first | rfl | (cases hc; done)
  cases n with
  | zero => rfl
  | succ n =>
    cases v with
    | agg cs =>
      simp only [plain, List.all_eq_true] at h
      simp only [freeze]
      congr 1
      exact map_same fun c hc => leaf n c (h c hc)
    | _ => first | rfl | (cases h; done)
theorem Sl.freeze {w : Nat} {xs : List AVal} {S : AVal} {fp : List Nm} (h : Sl H w xs S fp) (hu : ∀ q ∈ fp, under ν q = true) (hp : ∀ x ∈ xs, plain x = true) {n : Nat} : X.freeze ν H (n + 1) S = .lst xs := by
  cases h with
  | emp h => subst h; rfl
  | nls h => subst h; rfl
  | @row q m ys h1 h2 h3 =>
    have hm : 0 + m ≤ ys.length := by
      have := congrArg List.length h3
      simp only [List.length_take] at this; omega
    simp only [X.freeze, hu q (by simp), if_true, h1, if_pos hm, List.drop_zero, h3]
    congr 1
    exact map_same fun c hc => Ae (hp c hc)
theorem under_up {i : Nat} {q : Nm} (h : under (i :: ν) q = true) : under ν q = true := by
  simp only [under, List.isSuffixOf_iff_suffix] at *
  exact (List.suffix_cons i ν).trans h
theorem under_dn {i : Nat} {q : Nm} (h : under ν q = false) : under (i :: ν) q = false := by
  cases h' : under (i :: ν) q with
  | false => rfl
  | true => rw [under_up h'] at h; cases h
theorem AI : under ν ν = true := by simp [under]
theorem AM {i : Nat} {q : Nm} (h : under ν q = true) : under ν (i :: q) = true := by
  simp only [under, List.isSuffixOf_iff_suffix] at *
  exact h.trans (List.suffix_cons i q)
theorem CW_fullS {f : FuncId} {fi : FI} {args : List AVal} {Q : AVal → Heap → Prop} (hg : c.given f = none) (hf : c.fn f = some fi) (hm : fi.mode = .full) (h : XW c ν fi.body (start fi args) H (retW c.T fi fun v H1 => (∀ q, under ν q = false → H1 q = H q) ∧ Q (freeze ν H1 8 v) H)) : CW c ν f args H Q := by
  refine CW_full hg hf hm (h.mono ?_)
  intro o e1 H1 hq
  cases o with
  | exit id => exact hq
  | norm => obtain ⟨v, h1, h2, h3⟩ := hq; exact ⟨v, h1, by show Q _ (rest ν H H1); rw [rest_same h2]; exact h3⟩
  | ret => obtain ⟨v, h1, h2, h3⟩ := hq; exact ⟨v, h1, by show Q _ (rest ν H H1); rw [rest_same h2]; exact h3⟩
theorem AU {e : Env} {P : (Nat → AVal) → Env} (h : e = P (fun k => e.getD k .undef)) : ∃ g, e = P g := ⟨_, h⟩
def Out (ν : Nm) (H H1 : Heap) : Prop := ∀ p, under ν p = false → H1 p = H p
theorem Out.refl : Out ν H H := fun _ _ => rfl
theorem Out.put {q : Nm} {o : Option AObj} (h : Out ν H H1) (hq : under ν q = true) : Out ν H (H1.put q o) := fun p hp => by rw [put_ne (far hp hq)]; exact h p hp
theorem Ai {T : TT} {b : Tmp} {v : AVal} (h : e[b]? = some v) : rvOf T e H (.tmp b) = some v := by
  simp only [rvOf, List.getD_eq_getElem?_getD, h, Option.getD_some]
theorem rv_cell {T : TT} {b : Tmp} {t : TypeId} {p v : AVal} (h : e[b]? = some p) (hl : aLoad T H t p = some v) : rvOf T e H (.cell b t) = some v := by
  simp only [rvOf, List.getD_eq_getElem?_getD, h, Option.getD_some, hl]
theorem res1 {T : TT} {fi : FI} {r1 : RV} {v1 : AVal} (hr : fi.results = [r1]) (h1 : rvOf T e H r1 = some v1) : resOf T fi e H = some v1 := by
  simp only [resOf, hr, rvsOf, h1, oneOf]
theorem res2 {T : TT} {fi : FI} {r1 r2 : RV} {v1 v2 : AVal} (hr : fi.results = [r1, r2]) (h1 : rvOf T e H r1 = some v1) (h2 : rvOf T e H r2 = some v2) : resOf T fi e H = some (.tup [v1, v2]) := by
  simp only [resOf, hr, rvsOf, h1, h2, oneOf]
theorem res3 {T : TT} {fi : FI} {r1 r2 r3 : RV} {v1 v2 v3 : AVal} (hr : fi.results = [r1, r2, r3]) (h1 : rvOf T e H r1 = some v1) (h2 : rvOf T e H r2 = some v2) (h3 : rvOf T e H r3 = some v3) : resOf T fi e H = some (.tup [v1, v2, v3]) := by
  simp only [resOf, hr, rvsOf, h1, h2, h3, oneOf]
theorem Sl.one {w : Nat} {xs : List AVal} {S : AVal} {fp : List Nm} (h : Sl H w xs S fp) : S.isTup = false ∧ S.cells = [S] := by cases h <;> exact ⟨rfl, rfl⟩
theorem Bk {a b q : Nm} (h : under a b = true) (h2 : under b q = true) : under a q = true := by
  simp only [under, List.isSuffixOf_iff_suffix] at *
  exact h.trans h2
end Go.Proofs.YtfkgdlfponfimaaGreat.X
