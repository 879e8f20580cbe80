/- Methods reached through interfaces. -/
import Derived.Test.YtealccnfnpkngaaL
set_option linter.unusedVariables false
set_option linter.unusedSimpArgs false
namespace Go.Proofs.Ytealccnfnpkngaa.X
open Go
theorem run_typeInfo {P : Program} {t : TypeId} {ti : TypeInfo} (h : P.info? t = some ti) (W : World) : (typeInfo t).run P W = .ok ti W := by
  unfold typeInfo
  simp only [Sem.run_bind, run_program, Result.andThen_ok, h, Sem.run_pure]
theorem run_underlying {P : Program} {t : TypeId} {d : TypeDesc} (h : P.underlying t = some d) (W : World) : (underlying t).run P W = .ok d W := by
  unfold underlying
  simp only [Sem.run_bind, run_program, Result.andThen_ok, h, Sem.run_pure]
theorem meth_deref {N : Nat} {P : Program} {t el : TypeId} {m : String} {f : FuncId} {ti : TypeInfo} {nm : String} {sg : TypeId} (hN : 0 < N) (h1 : P.info? t = some ti) (h2 : ti.methods.find? (·.name == m) = some ⟨nm, sg, #[], some (f, false)⟩) (h5 : P.underlying t = some (.pointer el)) (v : Value) (W : World) (u : Value) (h : Handed P W (some el) v u) : (method N t v m).run P W = .ok (f, u) W := by
  obtain ⟨n, rfl⟩ : ∃ n, N = n + 1 := ⟨N - 1, by omega⟩
  unfold Handed Instr.loadAt at h
  cases v with
  | pointer a =>
    cases a with
    | none => exact absurd h (by intro h; cases h)
    | some a =>
      simp only [Instr.sureAddr, Sem.run_bind, Sem.run_pure, Result.andThen_ok] at h
      have hw : ∀ s, (Builtin.ssaWrapNilChk_ #[t] t #[.pointer (some a), strVal "", strVal s]).run P W = .ok (.pointer (some a)) W := fun s => rfl
      have ha : (asAddr (.pointer (some a))).run P W = .ok a W := rfl
      simp only [method, Sem.run_bind, run_typeInfo h1, Result.andThen_ok, h2, follow, Sem.run_pure, receiverAt, run_underlying h5, Place.get, hw, ha, h, Array.isEmpty_empty, if_true]
  | _ => exact absurd h (by intro h; cases h)
theorem meth_ptr {N : Nat} {P : Program} {t el : TypeId} {m : String} {f : FuncId} {ti : TypeInfo} {nm : String} {sg : TypeId} (hN : 0 < N) (h1 : P.info? t = some ti) (h2 : ti.methods.find? (·.name == m) = some ⟨nm, sg, #[], some (f, true)⟩) (h5 : P.underlying t = some (.pointer el)) (v : Value) (W : World) (u : Value) (h : Handed P W none v u) : (method N t v m).run P W = .ok (f, u) W := by
  obtain ⟨n, rfl⟩ : ∃ n, N = n + 1 := ⟨N - 1, by omega⟩
  obtain rfl : u = v := h
  simp only [method, Sem.run_bind, run_typeInfo h1, Result.andThen_ok, h2, follow, Sem.run_pure, receiverAt, run_underlying h5, Place.get]
def methOK (P : Program) (t : TypeId) (m : String) (f : FuncId) (ptr : Bool) (el : TypeId) : Bool := match P.info? t, P.underlying t with
  | some ti, some (.pointer e) => (match ti.methods.find? (·.name == m) with
    | some ⟨_, _, ⟨[]⟩, some (g, p)⟩ => g == f && p == ptr && e == el
    | _ => false)
  | _, _ => false
theorem methOK_ex {P : Program} {t : TypeId} {m : String} {f : FuncId} {ptr : Bool} {el : TypeId} (h : methOK P t m f ptr el = true) : ∃ ti nm sg, P.info? t = some ti ∧ ti.methods.find? (·.name == m) = some ⟨nm, sg, #[], some (f, ptr)⟩ ∧ P.underlying t = some (.pointer el) := by
  unfold methOK at h
  split at h
  · rename_i ti e h1 h2
    split at h
    · rename_i nm sg g p h3
      simp only [Bool.and_eq_true, beq_iff_eq] at h
      obtain ⟨⟨rfl, rfl⟩, rfl⟩ := h
      exact ⟨ti, nm, sg, h1, h3, h2⟩
    · cases h
  · cases h
theorem methOK_deref {N : Nat} {P : Program} {t el : TypeId} {m : String} {f : FuncId} (hN : 0 < N) (hk : methOK P t m f false el = true) (v : Value) (W : World) (u : Value) (h : Handed P W (some el) v u) : (method N t v m).run P W = .ok (f, u) W := by
  obtain ⟨ti, nm, sg, h1, h2, h3⟩ := methOK_ex hk
  exact meth_deref hN h1 h2 h3 v W u h
theorem methOK_ptr {N : Nat} {P : Program} {t el : TypeId} {m : String} {f : FuncId} (hN : 0 < N) (hk : methOK P t m f true el = true) (v : Value) (W : World) (u : Value) (h : Handed P W none v u) : (method N t v m).run P W = .ok (f, u) W := by
  obtain ⟨ti, nm, sg, h1, h2, h3⟩ := methOK_ex hk
  exact meth_ptr hN h1 h2 h3 v W u h
theorem FOK.fn_ex {P : Program} {c : Cfg} {f : FuncId} {fi : FI} (h : FOK P c f fi) : ∃ fn, P.funcs[f]? = some fn ∧ fn.body.isSome = true ∧ fn.name ≠ "runtime.NumGoroutine" := by
  obtain ⟨fn, h1, h2, _, _, _, h3⟩ := h.ex
  exact ⟨fn, h1, by rw [h2]; rfl, h3⟩
end Go.Proofs.Ytealccnfnpkngaa.X
