/- The law RationalEdge's plain function answers true at every byte: its remainder by 4 is one of four numbers, and at each the plain function is run. -/
import Derived.Test.YtgepdnoaemeofaaDoorE18
import Derived.KernelRfl
namespace Go.Proofs.YtgepdnoaemeofaaDoor.Pure
open Go.RowKit Go.Proofs.YtgepdnoaemeofaaDoor.E Go.Proofs.YtgepdnoaemeofaaDoorW.PrintWords Go.Proofs.YtgepdnoaemeofaaDoorW.PrintLast
set_option maxRecDepth 100000
theorem four (a0 : Int) (h : (Lit.int .u8 a0).wf = true) : wrap64 (Int.tmod a0 4) = 0 ∨ wrap64 (Int.tmod a0 4) = 1 ∨ wrap64 (Int.tmod a0 4) = 2 ∨ wrap64 (Int.tmod a0 4) = 3 := by
  simp [Lit.wf, IntKind.min, IntKind.max, IntKind.signed, IntKind.bits] at h
  rw [Int.tmod_eq_emod_of_nonneg h.1]
  have h1 := Int.emod_nonneg a0 (show (4 : Int) ≠ 0 by decide)
  have h2 := Int.emod_lt_of_pos a0 (show (0 : Int) < 4 by decide)
  have h3 : wrap64 (a0 % 4) = a0 % 4 := by unfold wrap64; omega
  rw [h3]; omega
theorem RationalEdge : insolvencylaw2_RationalEdge.Pure := by
  intro a0 h
  refine ⟨40, ?_⟩
  unfold insolvencylaw2_RationalEdge.f
  rcases four a0 h with e | e | e | e <;> simp only [e] <;> kernel_rfl
end Go.Proofs.YtgepdnoaemeofaaDoor.Pure
