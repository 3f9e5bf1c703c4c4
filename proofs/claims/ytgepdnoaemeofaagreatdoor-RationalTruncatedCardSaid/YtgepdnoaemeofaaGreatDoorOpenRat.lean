/- A rational number's three parts, as an argument: laid open, and put together. -/
import Derived.Test.YtgepdnoaemeofaaGreatDoorRows
import Derived.WalkKit
import Derived.ProofKit
import Derived.OpenShut
import Derived.ShutString
import Derived.ChangeOld
import Derived.ChangeArms
import Derived.ChangeSame
import Derived.JoinedOf
import Derived.JoinedAt
import Derived.RowKit3
import Derived.Lib.SmallJoins
namespace Go.Proofs.YtgepdnoaemeofaaGreatDoor.Arg
open Go.ChangeShapes Go.WideShapes Go.ChangeAt Go.RowKit Go.Joins
open Go.ChangeMaps (open_string shut_string)
set_option linter.constructorNameAsVariable false
theorem cells24 : Tryz.prog.cellsOf 24 = 3 := by kernel_rfl
section
variable {H : Type} {enc : TypeId × Value → H} {W : World} {base : Nat} {sp : Nat → Bool} {held : Bool}
set_option maxRecDepth 100000 in
theorem open_rat {r : Reach} {b0 : Nat} {v : Value} {d : DataW H} {p : List MemPlace} (hv : Value.okWide Tryz.prog W r b0 24 v) (h : DataW.Trod enc Tryz.prog W base sp held 24 v d p) :
    ∃ (n : Bool) (a b : ByteArray), v = .agg #[.bool n, .string a, .string b] ∧ d = .agg [.lit (.bool n), .lit (.string a.data.toList), .lit (.string b.data.toList)] ∧ p = [] ∧ a.size ≤ maxLen ∧ b.size ≤ maxLen := by
  obtain ⟨c0, c1, c2, y0, y1, y2, m, rfl, rfl, rfl, hy0, hy1, hy2⟩ := open_agg3 Tryz.underlying24 (by kernel_rfl) cells24 hv h
  obtain ⟨n, e0, rfl⟩ := DataW.trod_bool Tryz.underlying4 hy0
  obtain ⟨a, e1, rfl, wa⟩ := DataW.trod_string Tryz.underlying9 hy1
  obtain ⟨b, e2, rfl, wb⟩ := DataW.trod_string Tryz.underlying9 hy2
  simp only [List.cons.injEq, and_true] at e0 e1 e2
  subst e0 e1 e2
  exact ⟨n, a, b, rfl, rfl, rfl, wa, wb⟩
set_option maxRecDepth 100000 in
theorem shut_rat (n : Bool) {a b : ByteArray} (wa : a.size ≤ maxLen) (wb : b.size ≤ maxLen) :
    DataW.Trod enc Tryz.prog W base sp held 24 (.agg #[.bool n, .string a, .string b]) (.agg [.lit (.bool n), .lit (.string a.data.toList), .lit (.string b.data.toList)]) [] :=
  shut_agg3 (y0 := (.lit (.bool n), [])) (y1 := (.lit (.string a.data.toList), [])) (y2 := (.lit (.string b.data.toList), [])) Tryz.underlying24 (by kernel_rfl) cells24
    ⟨1, by simp [DataW.trod, Tryz.underlying4]⟩ ⟨1, by simp [DataW.trod, Tryz.underlying9, wa]⟩ ⟨1, by simp [DataW.trod, Tryz.underlying9, wb]⟩
end
end Go.Proofs.YtgepdnoaemeofaaGreatDoor.Arg
