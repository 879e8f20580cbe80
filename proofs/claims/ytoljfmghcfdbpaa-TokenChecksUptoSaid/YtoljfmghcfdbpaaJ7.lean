/- What the reference's oracle does: any call, a new one. -/
import Derived.Test.YtoljfmghcfdbpaaJ6
set_option linter.unusedVariables false
set_option linter.unusedSimpArgs false
set_option maxRecDepth 100000
namespace Go.Proofs.Ytoljfmghcfdbpaa.X
open Go Go.RowKit
variable {ν β ps pos' : Nm} {H : Heap} {Q : AVal → Heap → Prop} {L : List Asr} {q : Nm} {k : Nat} {S : Rf}
theorem rMac (hS : Own β ps H L) (hL : L[k]? = some (rorc q S)) (hle : le ps ν) (hβ : under β ν = true) (hp : before ν pos') (hn : S.le 4294967000) (kk : Int) (a : ByteArray) (hq : ∀ H1, Own β pos' H1 (L.set k (rorc q (S.mac kk a).2)) → Q (.int .u64 (S.mac kk a).1) H1) : CW cfg ν 32 [.ptr q 0 0, .int .u64 kk, .str a] H Q := by
  replace hS := hS.pick hL
  refine CW_keep g32 F32 rfl ?_
  replace hS := Own.mono hS hle
  refine XW_sr ?_
  refine OW_as rfl rfl ?_
  refine OW_nilE (e' := [_, _, _, _, _, _, _, _, _, _, _, _]) rfl ?_
  refine XW_sr ?_
  refine OW_mv rfl rfl ?_
  refine OW_mv rfl rfl ?_
  refine OW_mv rfl rfl ?_
  refine OW_env (e' := [_, _, _, _, _, _, _, _, _, _, _, _]) rfl ?_
  refine OW_bd rfl rfl (v := .agg [_, _, _, _, _, _]) rfl ?_
  refine OW_fn rfl rfl (rValue hS (k := 0) rfl (le_app (p := ν) (b := [4, 0, 1])) (under_app [4, 0, 1] hβ) (before_lit (ν := ν) (a := [4, 0, 1]) (b := [5, 0, 1]) (by decide)) hn ⟨2, kk, 0, a, ⟨#[]⟩, 0⟩ fun H1 hS1 => ?_) 
  replace hS1 : Own _ _ _ (_ :: L.eraseIdx k) := hS1
  refine OW_as rfl rfl ?_
  refine OW_nilE (e' := [_, _, _, _, _, _, _, _, _, _, _, _]) rfl ?_
  refine XW_ret ?_
  -- outcome 1
  refine ret_ret (res1 rfl (rv_tmp rfl)) ?_
  exact hq _ (Own.unpick (Own.mono hS1 (le_bef (bef_app (a := [5, 0, 1]) hp))) hL)
def Rf.act (S : Rf) (c : Ca) : Int × ByteArray × Bool × Rf :=
  if c.d = 0 then (S.next, ⟨#[]⟩, true, S.fresh)
  else if c.d = 1 then ((S.hash c.a).1, ⟨#[]⟩, true, (S.hash c.a).2)
  else if c.d = 2 then ((S.mac c.k c.a).1, ⟨#[]⟩, true, (S.mac c.k c.a).2)
  else if c.d = 3 then (0, ⟨#[]⟩, (S.verify c.k c.a c.h).1, (S.verify c.k c.a c.h).2)
  else if c.d = 4 then ((S.sealv c.k c.n c.a c.b).1, ⟨#[]⟩, true, (S.sealv c.k c.n c.a c.b).2)
  else if c.d = 5 then (0, (S.opens c.k c.n c.a c.h).1.1, (S.opens c.k c.n c.a c.h).1.2, (S.opens c.k c.n c.a c.h).2)
  else if c.d = 6 then (0, ⟨#[]⟩, false, S.meet c.h)
  else (0, ⟨#[]⟩, false, S)
theorem Rf.act0 {c : Ca} (h : c.d = 0) : S.act c = (S.next, ⟨#[]⟩, true, S.fresh) := by simp [Rf.act, h]
theorem Rf.act1 {c : Ca} (h : c.d = 1) : S.act c = ((S.hash c.a).1, ⟨#[]⟩, true, (S.hash c.a).2) := by simp [Rf.act, h]
theorem Rf.act2 {c : Ca} (h : c.d = 2) : S.act c = ((S.mac c.k c.a).1, ⟨#[]⟩, true, (S.mac c.k c.a).2) := by simp [Rf.act, h]
theorem Rf.act3 {c : Ca} (h : c.d = 3) : S.act c = (0, ⟨#[]⟩, (S.verify c.k c.a c.h).1, (S.verify c.k c.a c.h).2) := by simp [Rf.act, h]
theorem Rf.act4 {c : Ca} (h : c.d = 4) : S.act c = ((S.sealv c.k c.n c.a c.b).1, ⟨#[]⟩, true, (S.sealv c.k c.n c.a c.b).2) := by simp [Rf.act, h]
theorem Rf.act5 {c : Ca} (h : c.d = 5) : S.act c = (0, (S.opens c.k c.n c.a c.h).1.1, (S.opens c.k c.n c.a c.h).1.2, (S.opens c.k c.n c.a c.h).2) := by simp [Rf.act, h]
theorem Rf.act6 {c : Ca} (h : c.d = 6) : S.act c = (0, ⟨#[]⟩, false, S.meet c.h) := by simp [Rf.act, h]
theorem Rf.act7 {c : Ca} (h0 : ¬ c.d = 0) (h1 : ¬ c.d = 1) (h2 : ¬ c.d = 2) (h3 : ¬ c.d = 3) (h4 : ¬ c.d = 4) (h5 : ¬ c.d = 5) (h6 : ¬ c.d = 6) : S.act c = (0, ⟨#[]⟩, false, S) := by simp [Rf.act, h0, h1, h2, h3, h4, h5, h6]
def Rf.new (d : List Int) : Rf := ⟨d, [], [], 0⟩
theorem rNew (hS : Own β ps H L) (hle : le ps ν) (hβ : under β ν = true) (hp : before ν pos') {v : AVal} {d : List Int} (hv : Ls v (d.map Int.enc)) (hd : d.length ≤ 4294967000)
    (hq : ∀ q H1, Own β pos' H1 (rorc q (Rf.new d) :: L) → Q (.ptr q 0 0) H1) : CW cfg ν 18 [v] H Q := by
  refine CW_keep g18 F18 rfl ?_
  replace hS := Own.mono hS hle
  refine XW_sr ?_
  refine OW_as rfl rfl ?_
  refine OW_nilE (e' := [_, _, _, _, _, _, _, _]) rfl ?_
  refine XW_sr ?_
  refine OW_bs rfl rfl rfl ?_
  refine OW_mv rfl rfl ?_
  refine OW_appE hS (le_app (p := ν) (b := [2, 0, 1])) (under_app [2, 0, 1] hβ) rfl rfl rfl rfl rfl rfl rfl rfl (by first | rfl | exact Ls.elems (by assumption)) (by first | exact one_wide rfl | exact map_wide (fun _ => rfl) | assumption | (intro y hy; simp at hy; done)) (by first | omega | (simp only [List.length_map, List.length_append, List.length_singleton, List.length_cons, List.length_nil, List.length_take, List.length_drop]; omega) | (simp; omega)) (by decide) fun O1 H1 hS1 => ?_
  replace hS1 : Own _ _ _ (_ :: L) := hS1
  refine OW_env (e' := [_, _, _, _, _, _, _, _]) rfl ?_
  refine OW_bdP rfl (pcons rfl (hS1.one (k := 0) rfl).1 rfl) rfl rfl rfl (cs := [_, _, _, _]) (fill1 rfl (hS1.one (k := 0) rfl).2 rfl (Nat.le_of_ble_eq_true rfl) rfl rfl) ?_
  refine OW_boxR hS1 (le_lit (ν := ν) (a := [3, 0, 1]) (b := [4, 0, 1]) (by decide)) (under_app [4, 0, 1] hβ) rfl rfl rfl ⟨rfl, rfl⟩ fun H2 hS2 => ?_
  replace hS2 : Own _ _ _ (_ :: _ :: L) := hS2
  refine OW_as rfl rfl ?_
  refine OW_nilE (e' := [_, _, _, _, _, _, _, _]) rfl ?_
  refine XW_ret ?_
  -- outcome 1
  refine ret_ret (res1 rfl (rv_tmp rfl)) ?_
  exact hq _ _ (Own.mk_rorc (m := 0) (d := d) (rs := []) (mt := []) (Own.tor (A := [_, _, _]) (Own.tor (A := [_, _, _]) (Own.addE (w := 6) (Own.addE (w := 1) (Own.mono hS2 (le_bef (bef_app (a := [5, 0, 1]) hp))))))) rfl rfl rfl)
end Go.Proofs.Ytoljfmghcfdbpaa.X
