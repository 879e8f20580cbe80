/- Layer 19: the mesh: what its methods do. -/
import Derived.Test.YtollcfhmmlpleaaK
import Derived.Test.YtollcfhmmlpleaaS
set_option linter.unusedVariables false
set_option linter.unusedSimpArgs false
set_option maxRecDepth 100000
namespace Go.Proofs.Ytollcfhmmlpleaa.X
open Go Go.RowKit

structure Lt where
  f : Int
  t : Int
  s : ByteArray
  deriving DecidableEq
def Lt.enc (l : Lt) : AVal := .agg [.int .u64 l.f, .int .u64 l.t, .str l.s]
structure IsMesh (H : Heap) (qm : Nm) (ls : List Lt) (S : AVal) (fp : List Nm) : Prop where
  obj : H qm = some (.row 1 [.agg [S]])
  sl : Sl H 3 (ls.map Lt.enc) S fp
  ne : qm ∉ fp
variable {ν qm : Nm} {H : Heap} {Q : AVal → Heap → Prop} {ls : List Lt} {S : AVal} {fp : List Nm}
theorem many (h : IsMesh H qm ls S fp) (hq : Q (.int .i64 ls.length) H) : CW cfg ν 12 [.ptr qm 0 0] H Q := by
  have h1 := h.obj
  have h2 : lenOf H S = some ls.length := by rw [h.sl.len, List.length_map]
  have h3 : lenKind cfg.T [22] S = true := h.sl.kind T22 rfl
  refine CW_fullS g12 F12 rfl ?_
  refine XW_sr ?_
  refine OW_as rfl rfl ?_
  refine OW_nilE (e' := [_, _, _, _, _, _, _, _]) rfl ?_
  refine XW_sr ?_
  refine OW_mv rfl rfl ?_
  first
    | refine OW_nc rfl rfl ?_
    | refine OW_nce rfl rfl ?_
  refine OW_fa rfl rfl rfl ?_
  refine OW_env (e' := [_, _, _, _, _, _, _, _]) rfl ?_
  refine OW_load rfl rfl (by first | exact aLoad_ept rfl rfl | exact aLoad_ptr rfl (by first | rfl | assumption | exact put_same) rfl rfl) ?_
  refine OW_bi rfl rfl (aLen h3 h2) ?_
  refine OW_env (e' := [_, _, _, _, _, _, _, _]) rfl ?_
  refine OW_as rfl rfl ?_
  refine OW_nilE (e' := [_, _, _, _, _, _, _, _]) rfl ?_
  refine XW_ret ?_
  refine ret_ret rfl ⟨fun _ _ => rfl, hq⟩
theorem at_ (h : IsMesh H qm ls S fp) (pick : Int) (hn : ls.length ≤ 4611686018427387904) (hp : -9223372036854775808 ≤ pick ∧ pick ≤ 9223372036854775807)
    (h0 : ls = [] → Q (.tup [.int .i64 0, .bool false]) H) (h1 : ls ≠ [] → Q (.tup [.int .i64 ((pick.tmod ls.length + ls.length).tmod ls.length), .bool true]) H) : CW cfg ν 18 [.ptr qm 0 0, .int .i64 pick] H Q := by
  have hb := h.obj
  have h2 : lenOf H S = some ls.length := by rw [h.sl.len, List.length_map]
  have h3 : lenKind cfg.T [22] S = true := h.sl.kind T22 rfl
  refine CW_fullS g18 F18 rfl ?_
  refine XW_sr ?_
  refine OW_as rfl rfl ?_
  refine OW_as rfl rfl ?_
  refine OW_nilE (e' := [_, _, _, _, _, _, _, _, _, _, _, _, _, _, _, _, _, _, _, _, _]) rfl ?_
  refine XW_sr ?_
  refine OW_mv rfl rfl ?_
  first
    | refine OW_nc rfl rfl ?_
    | refine OW_nce rfl rfl ?_
  refine OW_fa rfl rfl rfl ?_
  refine OW_env (e' := [_, _, _, _, _, _, _, _, _, _, _, _, _, _, _, _, _, _, _, _, _]) rfl ?_
  refine OW_load rfl rfl (by first | exact aLoad_ept rfl rfl | exact aLoad_ptr rfl (by first | rfl | assumption | exact put_same) rfl rfl) ?_
  refine OW_bi rfl rfl (aLen h3 h2) ?_
  refine OW_env (e' := [_, _, _, _, _, _, _, _, _, _, _, _, _, _, _, _, _, _, _, _, _]) rfl ?_
  refine OW_as rfl rfl ?_
  refine OW_nilE (e' := [_, _, _, _, _, _, _, _, _, _, _, _, _, _, _, _, _, _, _, _, _]) rfl ?_
  refine XW_seq ?_
  refine XW_sr ?_
  refine OW_mv rfl rfl ?_
  first
    | refine OW_bin rfl rfl rfl rfl (eq_yes (by omega)) ?_
    | refine OW_bin rfl rfl rfl rfl (eq_no (by omega)) ?_
    | refine OW_bin rfl rfl rfl rfl rfl ?_
  refine OW_nilE (e' := [_, _, _, _, _, _, _, _, _, _, _, _, _, _, _, _, _, _, _, _, _]) rfl ?_
  refine XW_if rfl (fun ht => ?_) (fun ht => ?_)
  · refine XW_sr ?_
    refine OW_as rfl rfl ?_
    refine OW_as rfl rfl ?_
    refine OW_nilE (e' := [_, _, _, _, _, _, _, _, _, _, _, _, _, _, _, _, _, _, _, _, _]) rfl ?_
    refine XW_ret ?_
    refine then_ret ?_
    refine ret_ret rfl ⟨fun _ _ => rfl, h0 ?_⟩
    have : (ls.length : Int) = 0 := by simpa using ht
    exact List.eq_nil_of_length_eq_zero (by omega)
  · refine XW_skip ?_
    refine then_norm ?_
    have hl : (ls.length : Int) ≠ 0 := by simpa using ht
    have hm1 := Int.tmod_lt_of_pos pick (show (0 : Int) < ls.length by omega)
    have hm2 : -(ls.length : Int) < pick.tmod ls.length := by
      have := Int.lt_tmod_of_pos pick (show (0 : Int) < ls.length by omega)
      exact this
    refine XW_sr ?_
    refine OW_mv rfl rfl ?_
    refine OW_mv rfl rfl ?_
    first
      | refine OW_bin rfl rfl rfl rfl (rem64 (by omega)) ?_
      | refine OW_bin rfl rfl rfl rfl rfl ?_
    refine OW_env (e' := [_, _, _, _, _, _, _, _, _, _, _, _, _, _, _, _, _, _, _, _, _]) rfl ?_
    refine OW_mv rfl rfl ?_
    first
      | refine OW_bin rfl rfl rfl rfl (add64 (by omega)) ?_
      | refine OW_bin rfl rfl rfl rfl (addu64 (by omega)) ?_
      | refine OW_bin rfl rfl rfl rfl rfl ?_
    refine OW_mv rfl rfl ?_
    refine OW_env (e' := [_, _, _, _, _, _, _, _, _, _, _, _, _, _, _, _, _, _, _, _, _]) rfl ?_
    first
      | refine OW_bin rfl rfl rfl rfl (rem64 (by omega)) ?_
      | refine OW_bin rfl rfl rfl rfl rfl ?_
    refine OW_as rfl rfl ?_
    refine OW_as rfl rfl ?_
    refine OW_nilE (e' := [_, _, _, _, _, _, _, _, _, _, _, _, _, _, _, _, _, _, _, _, _]) rfl ?_
    refine XW_ret ?_
    refine ret_ret rfl ⟨fun _ _ => rfl, h1 ?_⟩
    rintro rfl; simp at hl
end Go.Proofs.Ytollcfhmmlpleaa.X
