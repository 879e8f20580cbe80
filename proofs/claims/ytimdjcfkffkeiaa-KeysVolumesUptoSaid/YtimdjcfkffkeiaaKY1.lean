/- Layer 04: what deriving a key is; the functions of keys and of the reference, walked. -/
import Derived.Test.YtimdjcfkffkeiaaJ20
import Derived.Test.YtimdjcfkffkeiaaY3
set_option linter.unusedVariables false
set_option linter.unusedSimpArgs false
set_option maxRecDepth 100000
namespace Go.Proofs.Ytimdjcfkffkeiaa.X
open Go Go.RowKit WM
variable {ν β ps pos' : Nm} {H : Heap} {Q : AVal → Heap → Prop} {L : List Asr} {q : Nm} {k : Nat} {S T : Rf}
/-- The text of a key's step. -/
def ktx (n : Int) : ByteArray := (⟨#[107, 101, 121]⟩ : ByteArray) ++ ba (encU n.toNat)
abbrev U64 (n : Int) : Prop := 0 ≤ n ∧ n ≤ 18446744073709551615
theorem ktx_inj {n m : Int} (hn : U64 n) (hm : U64 m) (h : ktx n = ktx m) : n = m := by
  have h1 : encU n.toNat ++ [] = encU m.toNat ++ [] := by
    have := congrArg (fun b : ByteArray => b.data.toList) h
    simp only [ktx] at this
    have e : ∀ l : List UInt8, ((⟨#[107, 101, 121]⟩ : ByteArray) ++ ba l).data.toList = [107, 101, 121] ++ l := fun l => by
      rw [ByteArray.data_append, Array.toList_append]; rfl
    rw [e, e] at this
    simpa using this
  have := (encU_prefix (by omega) (by omega) [] h1).1
  omega
namespace Rf
def derive (S : Rf) (k : Int) : List Int → Int × Rf
  | [] => (k, S)
  | n :: l => (S.mac k (ktx n)).2.derive (S.mac k (ktx n)).1 l
theorem derive_app : ∀ (l m : List Int) {S : Rf} {k : Int}, S.derive k (l ++ m) = (S.derive k l).2.derive (S.derive k l).1 m
  | [], _, _, _ => rfl
  | n :: l, m, _, _ => by simp only [List.cons_append, derive]; exact derive_app l m
theorem derive_up : ∀ (l : List Int) {S : Rf} {k : Int}, S.Up (S.derive k l).2
  | [], _, _ => Up.refl
  | n :: l, _, _ => (value_up _).trans (derive_up l)
theorem derive_rows : ∀ (l : List Int) {S : Rf} {k : Int}, (S.derive k l).2.rows.length ≤ S.rows.length + l.length
  | [], _, _ => Nat.le_refl _
  | n :: l, S, k => by
    have h1 : (S.mac k (ktx n)).2.rows.length ≤ S.rows.length + 1 := value_rows _
    have h2 := derive_rows l (S := (S.mac k (ktx n)).2) (k := (S.mac k (ktx n)).1)
    simp only [derive, List.length_cons]; omega
theorem derive_again : ∀ (l : List Int) {S U : Rf} {k : Int}, U.Inv → (S.derive k l).2.Up U → U.derive k l = ((S.derive k l).1, U)
  | [], _, _, _, _, _ => rfl
  | n :: l, S, U, k, hi, hu => by
    have hr : ⟨2, k, 0, ktx n, ⟨#[]⟩, (S.mac k (ktx n)).1⟩ ∈ U.rows := hu.sub _ ((derive_up l).sub _ (mac_row rfl))
    have h1 := hi.macA hr
    simp only [derive]
    rw [h1]
    exact derive_again l hi hu
/-- How a key was derived. -/
inductive Path (S : Rf) (k : Int) : List Int → Int → Prop where
  | nil : Path S k [] k
  | snoc {l : List Int} {j n v : Int} : Path S k l j → U64 n → ⟨2, j, 0, ktx n, ⟨#[]⟩, v⟩ ∈ S.rows → Path S k (l ++ [n]) v
theorem Path.up (hu : S.Up T) {k v : Int} {l : List Int} (h : S.Path k l v) : T.Path k l v := by
  induction h with
  | nil => exact .nil
  | snoc h1 h2 h3 ih => exact .snoc ih h2 (hu.sub _ h3)
theorem derive_path : ∀ (l m : List Int) {S : Rf} {k j : Int}, S.Path k m j → (∀ n ∈ l, U64 n) → (S.derive j l).2.Path k (m ++ l) (S.derive j l).1
  | [], m, _, _, _, h, _ => by simpa [derive] using h
  | n :: l, m, S, k, j, h, hl => by
    have h1 : (S.mac j (ktx n)).2.Path k (m ++ [n]) (S.mac j (ktx n)).1 := .snoc (h.up (value_up _)) (hl n (by simp)) (mac_row rfl)
    have := derive_path l (m ++ [n]) h1 (fun x hx => hl x (by simp [hx]))
    simpa [derive] using this
theorem Path.last (hg : S.Good) {k v w : Int} (hk : k ∈ S.met) {l : List Int} (h : S.Path k l v) : ∀ {m : List Int}, S.Path k m w → v = w → l = m := by
  induction h generalizing w with
  | nil =>
    intro m h2 e
    cases h2 with
    | nil => rfl
    | snoc a b c =>
      have := hg.mt k hk
      subst e
      rw [issued_iff.2 ⟨_, c, rfl⟩] at this; cases this
  | snoc h1 h2 h3 ih =>
    intro m h4 e
    cases h4 with
    | nil =>
      have := hg.mt k hk
      rw [issued_iff.2 ⟨_, h3, e⟩] at this; cases this
    | snoc a b c =>
      have := hg.one h3 c e
      simp only [Rw.mk.injEq] at this
      rw [ih a this.2.1, ktx_inj h2 b this.2.2.2.1]
/-- What was met stays so. -/
theorem draw_met (x : Rw) : (S.draw x).met = S.met := rfl
theorem value_met (x : Rw) : (S.value x).2.met = S.met := by unfold value; split <;> rfl
theorem meet_met {h k : Int} (hk : k ∈ S.met) : k ∈ (S.meet h).met := by unfold meet; split <;> simp [hk]
theorem act_met (c : Ca) {k : Int} (hk : k ∈ S.met) : k ∈ (S.act c).2.2.2.met := by
  unfold act
  repeat' split
  all_goals first
    | exact hk
    | exact meet_met hk
    | (show k ∈ (S.value _).2.met; rw [value_met]; exact hk)
    | (simp only [verify]; repeat' split
       all_goals first | exact hk | exact meet_met hk)
    | (simp only [opens]; repeat' split
       all_goals first | exact hk | exact meet_met hk)
theorem run_met : ∀ (l : List Ca) {S : Rf} {k : Int}, k ∈ S.met → k ∈ (S.run l).met
  | [], _, _, h => h
  | c :: l, _, _, h => run_met l (act_met c h)
theorem derive_met : ∀ (l : List Int) {S : Rf} {k : Int}, (S.derive k l).2.met = S.met
  | [], _, _ => rfl
  | n :: l, _, _ => (derive_met l).trans (value_met _)
theorem derive_step {k : Int} {l : List Int} {i : Nat} (h : i < l.length) : (S.derive k (l.take i)).2.mac (S.derive k (l.take i)).1 (ktx l[i]) = S.derive k (l.take (i + 1)) := by
  rw [← List.take_append_getElem h, derive_app]; rfl
end Rf
theorem textW {n : Int} (hn : U64 n) (hq : Q (.str (ktx n)) H) : CW cfg ν 21 [.int .u64 n] H Q := by
  have he := encU_i hn
  refine CW_pure g21 F21 rfl ?_
  refine XW_sr ?_
  refine OW_as rfl rfl ?_
  refine OW_nilE (e' := [_, _, _, _, _, _]) rfl ?_
  refine XW_sr ?_
  refine OW_mv rfl rfl ?_
  refine OW_fn rfl rfl (putUi hn ?_) 
  refine OW_bin rfl rfl rfl rfl (cat (by show 3 + _ ≤ 9223372036854775807; omega)) ?_
  refine OW_env (e' := [_, _, _, _, _, _]) rfl ?_
  refine OW_as rfl rfl ?_
  refine OW_nilE (e' := [_, _, _, _, _, _]) rfl ?_
  refine XW_ret ?_
  -- outcome 1
  refine ret_ret (res1 rfl (rv_tmp rfl)) (frz1 (Q := Q) (by first | exact freeze_plain rfl | exact Ls.freeze (by assumption) | exact Ls.freeze Ls.of | exact Ls.freeze Ls.emp | exact Ls.freeze Ls.nls) ?_)
  exact hq
theorem eraseIdx_set_self {α : Type} : ∀ {L : List α} {k : Nat} {a : α}, (L.set k a).eraseIdx k = L.eraseIdx k
  | [], _, _ => rfl
  | _ :: _, 0, _ => rfl
  | b :: L, k + 1, a => by simp [eraseIdx_set_self]
theorem set_get_k {α : Type} {a b : α} {L : List α} {k : Nat} (h : L[k]? = some a) : (L.set k b)[k]? = some b := by
  have := (List.getElem?_eq_some_iff.1 h).1
  simp [this]
theorem deriveW (hS : Own β ps H L) (hL : L[k]? = some (orc q S.of)) (hle : le ps ν) (hβ : under β ν = true) (hp : before ν pos') {v : AVal} {l : List Int} (hv : Ls v (l.map Int.enc)) (hl : ∀ n ∈ l, U64 n) (hn : S.rows.length + l.length ≤ 4294967000) (kk : Int)
    (hq : ∀ H1, Own β pos' H1 (L.set k (orc q (S.derive kk l).2.of)) → Q (.int .u64 (S.derive kk l).1) H1) : CW cfg ν 9 [.ptr q 0 0, .int .u64 kk, v] H Q := by
  replace hS := hS.pick hL
  refine CW_keep g9 F9 rfl ?_
  replace hS := Own.mono hS hle
  refine XW_sr ?_
  refine OW_as rfl rfl ?_
  refine OW_nilE (e' := [_, _, _, _, _, _, _, _, _, _, _, _, _, _, _, _, _, _, _, _, _, _]) rfl ?_
  refine XW_seq ?_
  refine XW_sr ?_
  refine OW_mv rfl rfl ?_
  first
  | refine OW_lenL rfl rfl (by first | assumption | exact Ls.of | exact Ls.emp | exact Ls.nls) rfl rfl rfl (by first | exact List.length_map _ | rfl) ?_
  | refine OW_bi rfl rfl rfl ?_
  refine OW_mv rfl rfl ?_
  refine OW_nilE (e' := [_, _, _, _, _, _, _, _, _, _, _, _, _, _, _, _, _, _, _, _, _, _]) rfl ?_
  refine XW_block ?_
  refine XW_whileN (I := fun ν' mm ee H' => ∃ (i : Nat), mm = l.length - i ∧ under (1 :: 0 :: 1 :: ν) ν' = true ∧ Own β ν' H' (orc q (S.derive kk (l.take i)).2.of :: L.eraseIdx k) ∧ (i ≤ l.length) ∧ ∃ g : Nat → AVal, ee = [.ptr q 0 0, .int .u64 (S.derive kk (l.take i)).1, g 2, g 3, g 4, g 5, g 6, g 7, g 8, v, .int .i64 l.length, .int .i64 i, g 12, g 13, g 14, g 15, g 16, g 17, g 18, g 19, g 20, g 21]) ?_ _ _ _ _ ⟨0, rfl, under_me, Own.cast (Own.mono (hS) (le_app (p := ν) (b := [1, 0, 1]))) (rfl), (Nat.zero_le _), env_g rfl⟩
  rintro ν1 mm ee H1 ⟨i, rfl, hU1, hS1, hi, g1, rfl⟩
  have hr := Rf.derive_rows (l.take i) (S := S) (k := kk)
  rw [List.length_take] at hr
  refine XW_sr ?_
  refine OW_bin rfl rfl rfl rfl rfl ?_
  refine OW_nilE (e' := [_, _, _, _, _, _, _, _, _, _, _, _, _, _, _, _, _, _, _, _, _, _]) rfl ?_
  refine XW_seq ?_
  refine XW_if rfl (fun h2 => ?_) (fun h2 => ?_)
  · try simp only [decide_eq_true_eq, decide_eq_false_iff_not, Bool.not_eq_true', Bool.not_eq_false', Bool.and_eq_true, Bool.or_eq_true, Bool.not_eq_true, Bool.not_eq_false, Decidable.not_not, bne_iff_ne, beq_iff_eq, List.length_append, List.length_cons, List.length_nil, List.length_drop, List.length_take] at h2
    refine XW_skip ?_
    refine then_norm ?_
    refine XW_seq ?_
    refine XW_block ?_
    refine XW_sr ?_
    first
    | refine OW_iaL rfl rfl rfl Ls.of rfl rfl rfl (by first | rfl | exact (Int.toNat_of_nonneg (by omega)).symm) (by first | assumption | exact at_map (by first | assumption | omega) | exact at_lst (by omega) | rfl) rfl ?_
    | refine OW_iaL rfl rfl rfl (by assumption) rfl rfl rfl (by first | rfl | exact (Int.toNat_of_nonneg (by omega)).symm) (by first | assumption | exact at_map (by first | assumption | omega) | exact at_lst (by omega) | rfl) rfl ?_
    refine OW_loadE rfl rfl rfl (by first | exact part_whole rfl rfl rfl | rfl) ?_
    refine OW_as rfl rfl ?_
    refine OW_nilE (e' := [_, _, _, _, _, _, _, _, _, _, _, _, _, _, _, _, _, _, _, _, _, _]) rfl ?_
    refine XW_region ?_
    have hni := hl l[i] (List.getElem_mem (by omega))
    refine OW_mv rfl rfl ?_
    refine OW_mv rfl rfl ?_
    refine OW_mv rfl rfl ?_
    refine OW_env (e' := [_, _, _, _, _, _, _, _, _, _, _, _, _, _, _, _, _, _, _, _, _, _]) rfl ?_
    refine OW_fn rfl rfl (textW (by assumption) ?_) 
    refine OW_fn rfl rfl (oMac hS1 (k := 0) rfl (le_app (p := ν1) (b := [4, 1, 0, 1, 1, 0])) (under_app [4, 1, 0, 1, 1, 0] (under_trans (under_app [1, 0, 1] hβ) hU1)) (before_lit (ν := ν1) (a := [4, 1, 0, 1, 1, 0]) (b := [5, 1, 0, 1, 1, 0]) (by decide)) (by omega) _ _ fun H2 hS2 => ?_) 
    replace hS2 : Own _ _ _ (_ :: L.eraseIdx k) := hS2
    refine OW_as rfl rfl ?_
    refine OW_nilE (e' := [_, _, _, _, _, _, _, _, _, _, _, _, _, _, _, _, _, _, _, _, _, _]) rfl ?_
    refine block_norm ?_
    refine then_norm ?_
    refine XW_region ?_
    have hst := Rf.derive_step (S := S) (k := kk) (l := l) (i := i) (by omega)
    rw [hst]
    first
    | refine OW_bin rfl rfl rfl rfl (add_w64 (by first | omega | assumption | (simp only [ByteArray.size_append, ByteArray.size_extract, List.length_map, List.length_append, List.length_cons, List.length_nil, List.length_drop, List.length_take]; omega))) ?_
    | refine OW_bin rfl rfl rfl rfl rfl ?_
    refine OW_mv rfl rfl ?_
    refine OW_nilE (e' := [_, _, _, _, _, _, _, _, _, _, _, _, _, _, _, _, _, _, _, _, _, _]) rfl ?_
    -- round 0.1
    refine ⟨_, ?_, i + 1, rfl, under_in hU1, Own.cast (Own.mono (hS2) (le_lit (ν := ν1) (a := [5, 1, 0, 1, 1, 0]) (b := [1]) (by decide))) (by rw [Rf.derive_step (by omega)]), ?_, env_g rfl⟩
    · first | omega | (simp; omega)
    · omega
  · try simp only [decide_eq_true_eq, decide_eq_false_iff_not, Bool.not_eq_true', Bool.not_eq_false', Bool.and_eq_true, Bool.or_eq_true, Bool.not_eq_true, Bool.not_eq_false, Decidable.not_not, bne_iff_ne, beq_iff_eq, List.length_append, List.length_cons, List.length_nil, List.length_drop, List.length_take] at h2
    refine XW_exit ?_
    refine then_exit ?_
    refine block_exit ?_
    refine then_norm ?_
    refine XW_sr ?_
    refine OW_mv rfl rfl ?_
    refine OW_as rfl rfl ?_
    refine OW_nilE (e' := [_, _, _, _, _, _, _, _, _, _, _, _, _, _, _, _, _, _, _, _, _, _]) rfl ?_
    refine XW_ret ?_
    -- outcome 1
    refine ret_ret (res1 rfl (rv_tmp rfl)) ?_
    have he : l.take i = l := List.take_of_length_le (by omega)
    rw [he]
    exact hq _ (Own.unpick (Own.re (Own.mono hS1 (le_bef (bef_under (a := []) hU1 (bef_app (a := [1, 0, 1]) hp)))) (by rw [he])) hL)
end Go.Proofs.Ytimdjcfkffkeiaa.X
