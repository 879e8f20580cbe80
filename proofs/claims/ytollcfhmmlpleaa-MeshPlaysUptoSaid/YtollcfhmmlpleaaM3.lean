/- Layer 19: slices.IndexFunc and slices.DeleteFunc over letters. -/
import Derived.Test.YtollcfhmmlpleaaM2
set_option linter.unusedVariables false
set_option linter.unusedSimpArgs false
set_option maxRecDepth 100000
namespace Go.Proofs.Ytollcfhmmlpleaa.X
open Go Go.RowKit
variable {ν qm : Nm} {H : Heap} {Q : AVal → Heap → Prop} {ls : List Lt} {S : AVal} {fp : List Nm}
/-- A function's value that tests letters; bs: what it looks at. -/
def FnP (f : FuncId) (caps : List AVal) (bs : List Nm) (H0 : Heap) (p : Lt → Bool) : Prop :=
  ∀ ν x H Q, (∀ b ∈ bs, H b = H0 b ∧ under ν b = false) → Q (.bool (p x)) H → CW cfg ν f (x.enc :: caps) H Q
/-- Where the first one stands that p holds of, from i on. -/
def fst (p : Lt → Bool) : List Lt → Int → Int
  | [], _ => -1
  | x :: r, i => if p x then i else fst p r (i + 1)
theorem load_row {t : TypeId} {ti : TI} {H : Heap} {q : Nm} {w i : Nat} {xs : List AVal} {cs : List AVal} (hT : cfg.T t = some ti) (ha : ti.k.agg = true) (hq : H q = some (.row w xs)) (hi : xs[i]? = some (.agg cs)) (hs : cs.length = ti.size) : aLoad cfg.T H t (.ptr q i 0) = some (.agg cs) := by
  refine aLoad_ptr hT hq hi ?_
  simp only [part, ha, if_true, AVal.cells, Nat.zero_add, hs, Nat.le_refl, List.drop_zero]
  rw [← hs, List.take_length]
theorem Sl.at {w : Nat} {xs : List AVal} {S : AVal} {fp : List Nm} (h : Sl H w xs S fp) {i : Nat} {x : AVal} (hx : xs[i]? = some x) : ∃ q ys, S = .slc q w 0 xs.length ∧ fp = [q] ∧ H q = some (.row w ys) ∧ ys[i]? = some x ∧ i < xs.length ∧ ys.take xs.length = xs := by
  have hi := (List.getElem?_eq_some_iff.1 hx).1
  cases h with
  | emp h => subst h; simp at hi
  | nls h => subst h; simp at hi
  | @row q n ys h1 h2 h3 =>
    subst h2
    refine ⟨q, ys, rfl, rfl, h1, ?_, hi, h3⟩
    rw [← h3, List.getElem?_take] at hx
    rw [if_pos hi] at hx; exact hx
theorem idx {f : FuncId} {caps : List AVal} {bs : List Nm} {p : Lt → Bool} (hf : FnP f caps bs H p) (hbs : ∀ b ∈ bs, under ν b = false) (h : Sl H 3 (ls.map Lt.enc) S fp) (hn : ls.length ≤ 4611686018427387904) (hq : Q (.int .i64 (fst p ls 0)) H) : CW cfg ν 23 [S, .fn f caps] H Q := by
  have h2 : lenOf H S = some ls.length := by rw [h.len, List.length_map]
  have h3 : lenKind cfg.T [22] S = true := h.kind T22 rfl
  refine CW_fullS g23 F23 rfl ?_
  refine XW_sr ?_
  refine OW_as rfl rfl ?_
  refine OW_nilE (e' := [_, _, _, _, _, _, _, _, _, _, _, _, _, _, _, _, _, _, _]) rfl ?_
  refine XW_seq ?_
  refine XW_sr ?_
  refine OW_mv rfl rfl ?_
  refine OW_bi rfl rfl (aLen h3 h2) ?_
  refine OW_env (e' := [_, _, _, _, _, _, _, _, _, _, _, _, _, _, _, _, _, _, _]) rfl ?_
  refine OW_mv rfl rfl ?_
  refine OW_nilE (e' := [_, _, _, _, _, _, _, _, _, _, _, _, _, _, _, _, _, _, _]) rfl ?_
  refine XW_block ?_
  refine XW_whileN (I := fun ν' n e H' => H' = H ∧ (∀ p, under ν p = false → under ν' p = false) ∧ ∃ (i : Nat), n = ls.length - i ∧ i ≤ ls.length ∧ fst p ls 0 = fst p (ls.drop i) i ∧ ∃ g : Nat → AVal, e = [S, .fn f caps, g 2, g 3, .int .i64 0, g 5, g 6, .int .i64 ls.length, .int .i64 i, g 9, g 10, g 11, g 12, g 13, g 14, g 15, g 16, g 17, g 18]) ?_ _ _ _ _ ⟨rfl, fun p hp => by repeat (first | exact hp | apply under_dn), 0, rfl, by omega, rfl, env_g rfl⟩
  rintro ν' n e H' ⟨rfl, hsub, i, rfl, hi, hfs, g, rfl⟩
  refine XW_sr ?_
  first
    | refine OW_bin rfl rfl rfl rfl (lss_yes (by omega)) ?_
    | refine OW_bin rfl rfl rfl rfl (lss_no (by omega)) ?_
    | refine OW_bin rfl rfl rfl rfl rfl ?_
  refine OW_nilE (e' := [_, _, _, _, _, _, _, _, _, _, _, _, _, _, _, _, _, _, _]) rfl ?_
  refine XW_seq ?_
  refine XW_if rfl (fun ht => ?_) (fun ht => ?_)
  · have hlt : i < ls.length := by simpa using ht
    have hxi : (ls.map Lt.enc)[i]? = some (ls[i].enc) := by simp [hlt]
    obtain ⟨q, ys, rfl, rfl, k1, k2, k3, k4⟩ := h.at hxi
    refine XW_skip ?_
    refine then_norm ?_
    refine XW_seq ?_
    refine XW_block ?_
    refine XW_sr ?_
    refine OW_mv rfl rfl ?_
    refine OW_as rfl rfl ?_
    refine OW_nilE (e' := [_, _, _, _, _, _, _, _, _, _, _, _, _, _, _, _, _, _, _]) rfl ?_
    refine XW_sr ?_
    refine OW_mv rfl rfl ?_
    refine OW_mv rfl rfl ?_
    refine OW_mv rfl rfl ?_
    refine OW_ia rfl rfl rfl (ia_slc0 T22 rfl T30 rfl k3) ?_
    refine OW_load rfl rfl (load_row T30 rfl k1 k2 rfl) ?_
    refine OW_fv rfl rfl rfl (hf _ ls[i] _ _ (fun b hb => ⟨rfl, by have := hsub b (hbs b hb); repeat (first | exact this | apply under_dn)⟩) ?_)
    refine OW_nilE (e' := [_, _, _, _, _, _, _, _, _, _, _, _, _, _, _, _, _, _, _]) rfl ?_
    refine XW_if rfl (fun hp => ?_) (fun hp => ?_)
    · refine XW_sr ?_
      refine OW_mv rfl rfl ?_
      refine OW_as rfl rfl ?_
      refine OW_nilE (e' := [_, _, _, _, _, _, _, _, _, _, _, _, _, _, _, _, _, _, _]) rfl ?_
      refine XW_ret ?_
      refine block_ret ?_
      refine then_ret ?_
      refine block_ret ?_
      refine then_ret ?_
      refine ret_ret rfl ⟨fun _ _ => rfl, ?_⟩
      rw [List.drop_eq_getElem_cons hlt, fst, if_pos hp] at hfs
      rw [hfs] at hq; exact hq
    · refine XW_skip ?_
      refine block_norm ?_
      refine then_norm ?_
      refine XW_region ?_
      first
        | refine OW_bin rfl rfl rfl rfl (add64 (by omega)) ?_
        | refine OW_bin rfl rfl rfl rfl (addu64 (by omega)) ?_
        | refine OW_bin rfl rfl rfl rfl rfl ?_
      refine OW_mv rfl rfl ?_
      refine OW_nilE (e' := [_, _, _, _, _, _, _, _, _, _, _, _, _, _, _, _, _, _, _]) rfl ?_
      refine ⟨ls.length - (i + 1), by omega, rfl, fun p hp => under_dn (hsub p hp), i + 1, rfl, by omega, ?_, env_g rfl⟩
      rw [List.drop_eq_getElem_cons hlt, fst, if_neg (by simp [hp])] at hfs
      exact hfs
  · have hge : ls.length ≤ i := by simpa using ht
    refine XW_exit ?_
    refine then_exit ?_
    refine block_exit ?_
    refine then_norm ?_
    refine XW_sr ?_
    refine OW_as rfl rfl ?_
    refine OW_nilE (e' := [_, _, _, _, _, _, _, _, _, _, _, _, _, _, _, _, _, _, _]) rfl ?_
    refine XW_ret ?_
    refine ret_ret rfl ⟨fun _ _ => rfl, ?_⟩
    rw [List.drop_eq_nil_of_le hge, fst] at hfs
    rw [hfs] at hq; exact hq
end Go.Proofs.Ytollcfhmmlpleaa.X
