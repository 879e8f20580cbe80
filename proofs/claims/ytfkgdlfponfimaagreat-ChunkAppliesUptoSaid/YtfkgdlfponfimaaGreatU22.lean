import Derived.Test.YtfkgdlfponfimaaGreatU21
/- Methods reached through interfaces. -/
namespace Go.Proofs.YtfkgdlfponfimaaGreat.X
open Go
theorem run_underlying {P : Program} {t : TypeId} {d : TypeDesc} (h : P.underlying t = some d) (W : World) : (underlying t).run P W = .ok d W := by
  unfold underlying
  simp only [Sem.run_bind, run_program, Result.andThen_ok, h, Sem.run_pure]
def methOK (P : Program) (t : TypeId) (m : String) (f : FuncId) (ptr : Bool) (el : TypeId) : Bool := match P.info? t, P.underlying t with
  | some ti, some (.pointer e) => (match ti.methods.find? (·.name == m) with
    | some ⟨_, _, ⟨[]⟩, some (g, p)⟩ => g == f && p == ptr && e == el
    | _ => false)
  | _, _ => false
end Go.Proofs.YtfkgdlfponfimaaGreat.X
