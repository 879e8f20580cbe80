/- Numbers and texts as bytes: what the wire's functions, and the reference's, put. -/
import Derived.Test.YtealccnfnpkngaaK
import Derived.Test.YtealccnfnpkngaaZ
import Derived.Test.YtealccnfnpkngaaWM
set_option linter.unusedVariables false
set_option linter.unusedSimpArgs false
set_option maxRecDepth 100000
namespace Go.Proofs.Ytealccnfnpkngaa.X
open Go Go.RowKit WM
variable {ν β ps pos' : Nm} {H : Heap} {Q : AVal → Heap → Prop} {L : List Asr}
theorem or_128 {T : TT} {t : TypeId} (n : Nat) : aBin T .or t (.int .u8 (IntKind.u8.wrap (n : Int))) (.int .u8 128) = some (byt (UInt8.ofNat (n % 128 + 128))) := by
  have h := WM.or128 n
  have e : aBin T .or t (.int .u8 (IntKind.u8.wrap (n : Int))) (.int .u8 128) = some (.int .u8 (Go.bits .or .u8 (IntKind.u8.wrap (n : Int)) 128)) := rfl
  rw [e, show IntKind.u8.wrap (n : Int) = (n : Int) % 256 by rw [IntKind.wrap_u8], h, byt, u8_toNat (by omega)]
theorem small_u8 {n : Nat} (h : n < 128) : IntKind.u8.wrap (n : Int) = ((UInt8.ofNat n).toNat : Int) := by
  rw [IntKind.wrap_u8, u8_toNat (by omega)]; omega
theorem snoc_small {l : List UInt8} {m : Nat} (h : m < 256) : l.map byt ++ [.int .u8 (m : Int)] = (l ++ [UInt8.ofNat m]).map byt := by
  rw [List.map_append, List.map_cons, List.map_nil, byt, u8_toNat h]
theorem putW {O : AVal} {xs : List UInt8} {n : Nat} (hS : Own β ps H (sl O 1 (xs.map byt) :: L)) (hle : le ps ν) (hβ : under β ν = true) (hp : before ν pos') (hn : n < 18446744073709551616) (hx : xs.length ≤ 4294967000)
    (hq : ∀ v H1, Own β pos' H1 (sl v 1 ((xs ++ encU n).map byt) :: L) → Q v H1) : CW cfg ν 82 [O, .int .u64 (n : Int)] H Q := by
  have hlen := encU_le10 hn
  refine CW_keep g82 F82 rfl ?_
  replace hS := Own.mono hS hle
  refine XW_sr ?_
  refine OW_as rfl rfl ?_
  refine OW_nilE (e' := [_,_,_,_,_,_,_,_,_,_,_,_,_,_,_,_,_,_,_,_]) rfl ?_
  refine XW_seq ?_
  refine XW_block ?_
  refine XW_whileN (I := fun ν' mm ee H' => ∃ (m : Nat) (O : AVal) (pre : List UInt8), mm = m + 1 ∧ under (0 :: 1 :: ν) ν' = true ∧ Own β ν' H' (sl O 1 ((xs ++ pre).map byt) :: L) ∧ (encU n = pre ++ encU m ∧ m < 18446744073709551616) ∧ ∃ g : Nat → AVal, ee = [O, .int .u64 m, g 2, g 3, g 4, g 5, g 6, g 7, g 8, g 9, g 10, g 11, g 12, g 13, g 14, g 15, g 16, g 17, g 18, g 19]) ?_ _ _ _ _ ⟨n, O, [], rfl, under_me, Own.cast (Own.mono (hS) (le_app (p := ν) (b := [0, 1]))) (by simp), (⟨rfl, hn⟩), env_g rfl⟩
  rintro ν1 mm ee H1 ⟨m, O, pre, rfl, hU1, hS1, ⟨hI, hm⟩, g1, rfl⟩
  have hpl : pre.length + 1 ≤ 10 := by have := congrArg List.length hI; have := encU_pos m; simp at *; omega
  refine XW_seq ?_
  refine XW_sr ?_
  refine OW_mv rfl rfl ?_
  refine OW_bin rfl rfl rfl rfl rfl ?_
  refine OW_nilE (e' := [_,_,_,_,_,_,_,_,_,_,_,_,_,_,_,_,_,_,_,_]) rfl ?_
  refine XW_if rfl (fun h1 => ?_) (fun h1 => ?_)
  ·try simp only [bs] at h1
   refine XW_skip ?_
   refine then_norm ?_
   refine XW_block ?_
   refine XW_sr ?_
   refine OW_mv rfl rfl ?_
   refine OW_mv rfl rfl ?_
   first
   | refine OW_conv rfl rfl (conv_in rfl rfl rfl (IntWalk.u8_in _ (by omega))) ?_
   | refine OW_conv rfl rfl rfl ?_
   refine OW_env (e' := [_,_,_,_,_,_,_,_,_,_,_,_,_,_,_,_,_,_,_,_]) rfl ?_
   try rw [show IntKind.u8.wrap ((m : Nat) : Int) = IntKind.u8.wrap (m : Int) from rfl]
   first
   | refine OW_bin rfl rfl rfl rfl (or_128 _) ?_
   | refine OW_bin rfl rfl rfl rfl rfl ?_
   refine OW_bs rfl rfl (v := .lst [_]) rfl ?_
   refine OW_app hS1 (k := 0) rfl (le_app (p := ν1) (b := [5, 0, 1, 0])) (under_app [5, 0, 1, 0] (under_trans (under_app [0, 1] hβ) hU1)) rfl rfl rfl rfl rfl rfl rfl rfl (by first | rfl | exact Ls.elems (by assumption)) (by first | exact one_wide rfl | exact map_wide (fun _ => rfl) | assumption | (intro y hy; simp at hy; done)) (by first | omega | (simp only [ss]; omega) | (simp; omega)) (by decide) fun O1 H2 hS2 => ?_
   replace hS2 : Own _ _ _ (_ :: L) := hS2
   refine OW_env (e' := [_,_,_,_,_,_,_,_,_,_,_,_,_,_,_,_,_,_,_,_]) rfl ?_
   refine OW_as rfl rfl ?_
   refine OW_nilE (e' := [_,_,_,_,_,_,_,_,_,_,_,_,_,_,_,_,_,_,_,_]) rfl ?_
   refine XW_region ?_
   refine OW_mv rfl rfl ?_
   first
   | refine OW_bin rfl rfl rfl rfl (shr_u64 (m := 7) (by decide)) ?_
   | refine OW_bin rfl rfl rfl rfl rfl ?_
   refine OW_as rfl rfl ?_
   refine OW_nilE (e' := [_,_,_,_,_,_,_,_,_,_,_,_,_,_,_,_,_,_,_,_]) rfl ?_
   refine block_norm ?_
   -- round 0.1
   refine ⟨_, ?_, m / 128, O1, pre ++ [UInt8.ofNat (m % 128 + 128)], rfl, under_in hU1, Own.cast (Own.mono (hS2) (le_lit (ν := ν1) (a := [6, 0, 1, 0]) (b := [1]) (by decide))) (by simp), ?_, env_g rfl⟩
   · first | omega | (simp; omega)
   · exact ⟨by rw [hI, encU_big (by omega)]; simp, by omega⟩
  ·try simp only [bs] at h1
   refine XW_exit ?_
   refine then_exit ?_
   refine block_exit ?_
   refine then_norm ?_
   refine XW_sr ?_
   refine OW_mv rfl rfl ?_
   refine OW_mv rfl rfl ?_
   first
   | refine OW_conv rfl rfl (conv_in rfl rfl rfl (IntWalk.u8_in _ (by omega))) ?_
   | refine OW_conv rfl rfl rfl ?_
   refine OW_env (e' := [_,_,_,_,_,_,_,_,_,_,_,_,_,_,_,_,_,_,_,_]) rfl ?_
   refine OW_bs rfl rfl (v := .lst [_]) rfl ?_
   refine OW_app hS1 (k := 0) rfl (le_bef (bef_under (a := []) hU1 (before_lit (ν := ν) (a := [0, 1]) (b := [4, 0, 1, 1]) (by decide)))) (under_app [4, 0, 1, 1] hβ) rfl rfl rfl rfl rfl rfl rfl rfl (by first | rfl | exact Ls.elems (by assumption)) (by first | exact one_wide rfl | exact map_wide (fun _ => rfl) | assumption | (intro y hy; simp at hy; done)) (by first | omega | (simp only [ss]; omega) | (simp; omega)) (by decide) fun O2 H3 hS3 => ?_
   replace hS3 : Own _ _ _ (_ :: L) := hS3
   refine OW_as rfl rfl ?_
   refine OW_nilE (e' := [_,_,_,_,_,_,_,_,_,_,_,_,_,_,_,_,_,_,_,_]) rfl ?_
   refine XW_ret ?_
   -- outcome 1
   refine ret_ret (res1 rfl (rv_tmp rfl)) ?_
   refine hq _ _ (Own.cast (Own.mono hS3 (le_bef (bef_app (a := [5, 0, 1, 1]) hp))) ?_)
   rw [snoc_small (by omega), hI, encU_small (by omega), List.append_assoc]
theorem putU {n : Nat} (hn : n < 18446744073709551616) (hq : Q (.str (ba (encU n))) H) : CW cfg ν 59 [.int .u64 (n : Int)] H Q := by
  refine CW_pure g59 F59 rfl ?_
  have hS0 : Own ν ν (fun _ => none) [] := Own.nil
  refine XW_sr ?_
  refine OW_as rfl rfl ?_
  refine OW_nilE (e' := [_,_,_,_,_,_]) rfl ?_
  refine XW_sr ?_
  refine OW_mv rfl rfl ?_
  refine OW_fn rfl rfl (putW (xs := []) hS0.addN (le_app (p := ν) (b := [1, 0, 1])) (under_app [1, 0, 1] under_me) (before_lit (ν := ν) (a := [1, 0, 1]) (b := [2, 0, 1]) (by decide)) hn (by decide) fun O1 H1 hS1 => ?_) 
  replace hS1 : Own _ _ _ ([_]) := hS1
  refine OW_bytesO hS1 (k := 0) rfl rfl rfl rfl rfl rfl rfl rfl rfl rfl ?_
  refine OW_env (e' := [_,_,_,_,_,_]) rfl ?_
  refine OW_as rfl rfl ?_
  refine OW_nilE (e' := [_,_,_,_,_,_]) rfl ?_
  refine XW_ret ?_
  -- outcome 1
  refine ret_ret (res1 rfl (rv_tmp rfl)) (frz1 (Q := Q) (by first | exact freeze_plain rfl | exact Ls.freeze (by assumption) | exact Ls.freeze Ls.of | exact Ls.freeze Ls.emp | exact Ls.freeze Ls.nls) ?_)
  exact hq
theorem rputU {n : Nat} (hn : n < 18446744073709551616) (hq : Q (.str (ba (encU n))) H) : CW cfg ν 61 [.int .u64 (n : Int)] H Q := by
  have hlen := encU_le10 hn
  refine CW_pure g61 F61 rfl ?_
  have hS0 : Own ν ν (fun _ => none) [] := Own.nil
  refine XW_sr ?_
  refine OW_as rfl rfl ?_
  refine OW_nilE (e' := [_,_,_,_,_,_,_,_,_,_,_,_,_,_,_,_,_,_,_,_,_,_,_]) rfl ?_
  refine XW_sr ?_
  refine OW_bs rfl rfl rfl ?_
  refine OW_as rfl rfl ?_
  refine OW_nilE (e' := [_,_,_,_,_,_,_,_,_,_,_,_,_,_,_,_,_,_,_,_,_,_,_]) rfl ?_
  refine XW_seq ?_
  refine XW_block ?_
  refine XW_whileN (I := fun ν' mm ee H' => ∃ (m : Nat) (O : AVal) (pre : List UInt8), mm = m + 1 ∧ under (0 :: 1 :: 1 :: ν) ν' = true ∧ Own ν ν' H' ([sl O 1 (pre.map byt)]) ∧ (encU n = pre ++ encU m ∧ m < 18446744073709551616) ∧ ∃ g : Nat → AVal, ee = [.int .u64 m, g 1, g 2, O, g 4, g 5, g 6, g 7, g 8, g 9, g 10, g 11, g 12, g 13, g 14, g 15, g 16, g 17, g 18, g 19, g 20, g 21, g 22]) ?_ _ _ _ _ ⟨n, .emp, [], rfl, under_me, Own.cast (Own.mono (hS0.addE) (le_app (p := ν) (b := [0, 1, 1]))) (rfl), (⟨rfl, hn⟩), env_g rfl⟩
  rintro ν1 mm ee H1 ⟨m, O, pre, rfl, hU1, hS1, ⟨hI, hm⟩, g1, rfl⟩
  have hpl : pre.length + 1 ≤ 10 := by have := congrArg List.length hI; have := encU_pos m; simp at *; omega
  refine XW_seq ?_
  refine XW_sr ?_
  refine OW_mv rfl rfl ?_
  refine OW_bin rfl rfl rfl rfl rfl ?_
  refine OW_nilE (e' := [_,_,_,_,_,_,_,_,_,_,_,_,_,_,_,_,_,_,_,_,_,_,_]) rfl ?_
  refine XW_if rfl (fun h2 => ?_) (fun h2 => ?_)
  ·try simp only [bs] at h2
   refine XW_skip ?_
   refine then_norm ?_
   refine XW_block ?_
   refine XW_sr ?_
   refine OW_mv rfl rfl ?_
   refine OW_mv rfl rfl ?_
   first
   | refine OW_bin rfl rfl rfl rfl (rem_inu64 (by omega)) ?_
   | refine OW_bin rfl rfl rfl rfl (rem_in (by omega)) ?_
   | refine OW_bin rfl rfl rfl rfl rfl ?_
   refine OW_env (e' := [_,_,_,_,_,_,_,_,_,_,_,_,_,_,_,_,_,_,_,_,_,_,_]) rfl ?_
   first
   | refine OW_bin rfl rfl rfl rfl (add_wu64 (by first | omega | assumption | (simp only [ss]; omega))) ?_
   | refine OW_bin rfl rfl rfl rfl rfl ?_
   first
   | refine OW_conv rfl rfl (conv_in rfl rfl rfl (IntWalk.u8_in _ (by omega))) ?_
   | refine OW_conv rfl rfl rfl ?_
   rw [show ((m : Int) % 128 + 128) = ((UInt8.ofNat (m % 128 + 128)).toNat : Int) by rw [u8_toNat (by omega)]; omega]
   refine OW_bs rfl rfl (v := .lst [_]) rfl ?_
   refine OW_env (e' := [_,_,_,_,_,_,_,_,_,_,_,_,_,_,_,_,_,_,_,_,_,_,_]) rfl ?_
   refine OW_app hS1 (k := 0) rfl (le_app (p := ν1) (b := [6, 0, 1, 0])) (under_app [6, 0, 1, 0] (under_trans (under_app [0, 1, 1] under_me) hU1)) rfl rfl rfl rfl rfl rfl rfl rfl (by first | rfl | exact Ls.elems (by assumption)) (by first | exact one_wide rfl | exact map_wide (fun _ => rfl) | assumption | (intro y hy; simp at hy; done)) (by first | omega | (simp only [ss]; omega) | (simp; omega)) (by decide) fun O1 H2 hS2 => ?_
   replace hS2 : Own _ _ _ ([_]) := hS2
   refine OW_as rfl rfl ?_
   refine OW_nilE (e' := [_,_,_,_,_,_,_,_,_,_,_,_,_,_,_,_,_,_,_,_,_,_,_]) rfl ?_
   refine XW_region ?_
   replace hS2 := hS2.reS (k := 0) rfl (map_snoc (f := byt) (a := UInt8.ofNat (m % 128 + 128)))
   refine OW_mv rfl rfl ?_
   first
   | refine OW_bin rfl rfl rfl rfl (quo_inu64 (by omega)) ?_
   | refine OW_bin rfl rfl rfl rfl rfl ?_
   refine OW_as rfl rfl ?_
   refine OW_nilE (e' := [_,_,_,_,_,_,_,_,_,_,_,_,_,_,_,_,_,_,_,_,_,_,_]) rfl ?_
   refine block_norm ?_
   -- round 0.1
   refine ⟨_, ?_, m / 128, O1, pre ++ [UInt8.ofNat (m % 128 + 128)], rfl, under_in hU1, Own.cast (Own.mono (hS2) (le_lit (ν := ν1) (a := [7, 0, 1, 0]) (b := [1]) (by decide))) (rfl), ?_, env_g rfl⟩
   · first | omega | (simp; omega)
   · exact ⟨by rw [hI, encU_big (by omega)]; simp, by omega⟩
  ·try simp only [bs] at h2
   refine XW_exit ?_
   refine then_exit ?_
   refine block_exit ?_
   refine then_norm ?_
   refine XW_sr ?_
   refine OW_mv rfl rfl ?_
   refine OW_mv rfl rfl ?_
   first
   | refine OW_conv rfl rfl (conv_in rfl rfl rfl (IntWalk.u8_in _ (by omega))) ?_
   | refine OW_conv rfl rfl rfl ?_
   refine OW_env (e' := [_,_,_,_,_,_,_,_,_,_,_,_,_,_,_,_,_,_,_,_,_,_,_]) rfl ?_
   refine OW_bs rfl rfl (v := .lst [_]) rfl ?_
   refine OW_app hS1 (k := 0) rfl (le_bef (bef_under (a := []) hU1 (before_lit (ν := ν) (a := [0, 1, 1]) (b := [4, 0, 1, 1, 1]) (by decide)))) (under_app [4, 0, 1, 1, 1] under_me) rfl rfl rfl rfl rfl rfl rfl rfl (by first | rfl | exact Ls.elems (by assumption)) (by first | exact one_wide rfl | exact map_wide (fun _ => rfl) | assumption | (intro y hy; simp at hy; done)) (by first | omega | (simp only [ss]; omega) | (simp; omega)) (by decide) fun O2 H3 hS3 => ?_
   replace hS3 : Own _ _ _ ([_]) := hS3
   refine OW_as rfl rfl ?_
   refine OW_nilE (e' := [_,_,_,_,_,_,_,_,_,_,_,_,_,_,_,_,_,_,_,_,_,_,_]) rfl ?_
   refine XW_sr ?_
   replace hS3 := hS3.reS (k := 0) rfl (snoc_small (by omega))
   refine OW_mv rfl rfl ?_
   refine OW_bytesO hS3 (k := 0) rfl rfl rfl rfl rfl rfl rfl rfl rfl rfl ?_
   refine OW_as rfl rfl ?_
   refine OW_nilE (e' := [_,_,_,_,_,_,_,_,_,_,_,_,_,_,_,_,_,_,_,_,_,_,_]) rfl ?_
   refine XW_ret ?_
   -- outcome 1
   refine ret_ret (res1 rfl (rv_tmp rfl)) (frz1 (Q := Q) (by first | exact freeze_plain rfl | exact Ls.freeze (by assumption) | exact Ls.freeze Ls.of | exact Ls.freeze Ls.emp | exact Ls.freeze Ls.nls) ?_)
   rw [hI, encU_small (by omega)] at hq; exact hq
end Go.Proofs.Ytealccnfnpkngaa.X
