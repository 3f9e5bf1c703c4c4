/- RationalInt64: the closed facts of its row, one by one, and all of them. -/
import Derived.Test.YtgepdnoaemeofaaGreatDoorRows
import Derived.JoinedOf
import Derived.KernelRfl
namespace Go.Proofs.YtgepdnoaemeofaaGreatDoor.rationalInt64J
open Go
set_option maxRecDepth 100000
theorem both {a b : Bool} (ha : a = true) (hb : b = true) : (a && b) = true := by rw [ha, hb]; rfl
theorem e0 : (Rows.rationalInt64Row.wf (OpenSpec.ofChange Rows.rationalInt64Spec)) = true := by kernel_rfl
theorem e1 : (laidOutB Tryz.pinned.checked.prog) = true := by kernel_rfl
theorem e2 : (mapsRowed Tryz.pinned.checked.prog) = true := by kernel_rfl
theorem e3 : (Tryz.f8.params.all (Tryz.pinned.checked.prog.readableRec ·)) = true := by kernel_rfl
theorem e4 : (namedTie Tryz.pinned.checked.prog Rows.rationalInt64Row.named Rows.rationalInt64Spec.vars) = true := by kernel_rfl
theorem e5 : ((Rows.rationalInt64Row.stops == [])) = true := by kernel_rfl
theorem e6 : ((Tryz.pinned.checked.prog.stops == [])) = true := by kernel_rfl
theorem e7 : ((Rows.rationalInt64Row.knobs == [])) = true := by kernel_rfl
theorem e8 : ((Tryz.pinned.checked.prog.stopKnobs == [])) = true := by kernel_rfl
theorem e9 : ((Rows.rationalInt64Row.inPlace == Tryz.pinned.checked.prog.inPlace 8)) = true := by kernel_rfl
theorem e10 : ((Rows.rationalInt64Row.unfollowed == Tryz.pinned.checked.prog.unfollowed 8)) = true := by kernel_rfl
theorem e11 : ((Rows.rationalInt64Row.recurses == Tryz.pinned.checked.prog.recurses 8)) = true := by kernel_rfl
theorem e12 : ((Rows.rationalInt64Row.named == Tryz.pinned.checked.prog.varsNamed 8)) = true := by kernel_rfl
theorem e13 : ((Rows.rationalInt64Row.maps == (Tryz.f8.params.toList ++ Rows.rationalInt64Spec.plain.varTypes Tryz.pinned.checked.prog).any (Tryz.pinned.checked.prog.mapsRec ·))) = true := by kernel_rfl
theorem e14 : ((Rows.rationalInt64Row.ifaces == (Tryz.f8.params.toList ++ Rows.rationalInt64Spec.plain.varTypes Tryz.pinned.checked.prog).any (Tryz.pinned.checked.prog.ifacesRec ·))) = true := by kernel_rfl
theorem e15 : ((Rows.rationalInt64Row.mapsOut == Tryz.pinned.checked.prog.mapsAmong Tryz.f8.resultTypes.toList)) = true := by kernel_rfl
theorem e16 : ((Rows.rationalInt64Row.loops == (Tryz.f8.params.toList ++ Rows.rationalInt64Spec.plain.varTypes Tryz.pinned.checked.prog).any (Tryz.pinned.checked.prog.loopsFrom ·))) = true := by kernel_rfl
theorem e17 : ((Rows.rationalInt64Row.wideKeys == (Tryz.f8.params.toList ++ Rows.rationalInt64Spec.plain.varTypes Tryz.pinned.checked.prog ++ Tryz.f8.resultTypes.toList).any (Tryz.pinned.checked.prog.wideKeysFrom ·))) = true := by kernel_rfl
theorem e18 : (Rows.rationalInt64Spec.vars.all (Tryz.pinned.checked.prog.varReadable ·)) = true := by kernel_rfl
theorem e19 : (Tryz.f8.resultTypes.all (fun t => Tryz.pinned.checked.prog.readableRec t && decide (t < Tryz.pinned.checked.prog.types.size))) = true := by kernel_rfl
theorem e20 : ((Rows.rationalInt64Row.ifacesOut == Tryz.f8.resultTypes.toList.any (Tryz.pinned.checked.prog.ifacesRec ·))) = true := by kernel_rfl
theorem e21 : ((Rows.rationalInt64Row.loopsOut == Tryz.f8.resultTypes.toList.any (Tryz.pinned.checked.prog.loopsFrom ·))) = true := by kernel_rfl
theorem e22 : ((Rows.rationalInt64Row.plainKeys == Tryz.pinned.checked.prog.plainKeys)) = true := by kernel_rfl
theorem e23 : (Rows.rationalInt64Row.shortTexts.isNone) = true := by kernel_rfl
theorem e24 : (Tryz.pinned.checked.prog.stopsHeard) = true := by kernel_rfl
theorem e25 : (Tryz.pinned.checked.prog.mayEnter) = true := by kernel_rfl
theorem e26 : ((Rows.rationalInt64Row.lifted == Tryz.pinned.checked.prog.liftsFinal)) = true := by kernel_rfl
theorem e27 : ((Tryz.pinned.checked.prog.make == some Rows.rationalInt64Row.make)) = true := by kernel_rfl
theorem e28 : ((Rows.rationalInt64Row.kinds == (if Rows.rationalInt64Row.domain.isEmpty then [] else Tryz.f8.params.toList.map fun t => match Tryz.pinned.checked.prog.underlying t with | some (.int k) => some k | _ => none))) = true := by kernel_rfl
theorem e29 : ((Rows.rationalInt64Row.pinned == Rows.rationalInt64Row.pinnedBy)) = true := by kernel_rfl
theorem e30 : ((Rows.rationalInt64Row.veiled == (Tryz.f8.params.toList ++ Rows.rationalInt64Spec.plain.varTypes Tryz.pinned.checked.prog ++ Tryz.f8.resultTypes.toList).any (Tryz.pinned.checked.prog.veiledRec ·))) = true := by kernel_rfl
theorem e31 : (Rows.rationalInt64Row.veiledFits Tryz.pinned.checked.prog Tryz.f8.params.toList (Tryz.f8.params.toList ++ Rows.rationalInt64Spec.plain.varTypes Tryz.pinned.checked.prog ++ Tryz.f8.resultTypes.toList)) = true := by kernel_rfl
theorem joined : joinedFacts Tryz.pinned.checked.prog 8 Tryz.f8 Rows.rationalInt64Spec Rows.rationalInt64Row = true := by
  unfold joinedFacts
  exact (both (both (both (both (both (both (both (both (both (both (both (both (both (both (both (both (both (both (both (both (both (both (both (both (both (both (both (both (both (both (both e0 e1) e2) e3) e4) e5) e6) e7) e8) e9) e10) e11) e12) e13) e14) e15) e16) e17) e18) e19) e20) e21) e22) e23) e24) e25) e26) e27) e28) e29) e30) e31)
end Go.Proofs.YtgepdnoaemeofaaGreatDoor.rationalInt64J
