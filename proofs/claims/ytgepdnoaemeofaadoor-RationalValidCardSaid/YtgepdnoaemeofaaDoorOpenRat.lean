/- A rational number's three parts, as an argument: laid open, and put together. -/
import Derived.Test.YtgepdnoaemeofaaDoorRows
import Derived.WalkKit
import Derived.ProofKit
import Derived.OpenShut
import Derived.ShutString
import Derived.ChangeOld
import Derived.ChangeArms
import Derived.ChangeSame
import Derived.JoinedOf
import Derived.JoinedAt
import Derived.RowKit3
import Derived.Lib.SmallJoins
namespace Go.Proofs.YtgepdnoaemeofaaDoor.Arg
open Go.ChangeShapes Go.WideShapes Go.ChangeAt Go.RowKit Go.Joins
open Go.ChangeMaps (open_string shut_string)
set_option linter.constructorNameAsVariable false
theorem cells23 : Tryd.prog.cellsOf 23 = 3 := by kernel_rfl
section
variable {H : Type} {enc : TypeId × Value → H} {W : World} {base : Nat} {sp : Nat → Bool} {held : Bool}
set_option maxRecDepth 100000 in
theorem open_rat {r : Reach} {b0 : Nat} {v : Value} {d : DataW H} {p : List MemPlace} (hv : Value.okWide Tryd.prog W r b0 23 v) (h : DataW.Trod enc Tryd.prog W base sp held 23 v d p) :
    ∃ (n : Bool) (a b : ByteArray), v = .agg #[.bool n, .string a, .string b] ∧ d = .agg [.lit (.bool n), .lit (.string a.data.toList), .lit (.string b.data.toList)] ∧ p = [] ∧ a.size ≤ maxLen ∧ b.size ≤ maxLen := by
  obtain ⟨c0, c1, c2, y0, y1, y2, m, rfl, rfl, rfl, hy0, hy1, hy2⟩ := open_agg3 Tryd.underlying23 (by kernel_rfl) cells23 hv h
  obtain ⟨n, e0, rfl⟩ := DataW.trod_bool Tryd.underlying4 hy0
  obtain ⟨a, e1, rfl, wa⟩ := DataW.trod_string Tryd.underlying9 hy1
  obtain ⟨b, e2, rfl, wb⟩ := DataW.trod_string Tryd.underlying9 hy2
  simp only [List.cons.injEq, and_true] at e0 e1 e2
  subst e0 e1 e2
  exact ⟨n, a, b, rfl, rfl, rfl, wa, wb⟩
set_option maxRecDepth 100000 in
theorem shut_rat (n : Bool) {a b : ByteArray} (wa : a.size ≤ maxLen) (wb : b.size ≤ maxLen) :
    DataW.Trod enc Tryd.prog W base sp held 23 (.agg #[.bool n, .string a, .string b]) (.agg [.lit (.bool n), .lit (.string a.data.toList), .lit (.string b.data.toList)]) [] :=
  shut_agg3 (y0 := (.lit (.bool n), [])) (y1 := (.lit (.string a.data.toList), [])) (y2 := (.lit (.string b.data.toList), [])) Tryd.underlying23 (by kernel_rfl) cells23
    ⟨1, by simp [DataW.trod, Tryd.underlying4]⟩ ⟨1, by simp [DataW.trod, Tryd.underlying9, wa]⟩ ⟨1, by simp [DataW.trod, Tryd.underlying9, wb]⟩
end
end Go.Proofs.YtgepdnoaemeofaaDoor.Arg
