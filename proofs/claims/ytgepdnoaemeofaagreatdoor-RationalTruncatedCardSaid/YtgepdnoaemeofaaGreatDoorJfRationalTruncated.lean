/- RationalTruncated: the closed facts of its row, one by one, and all of them. -/
import Derived.Test.YtgepdnoaemeofaaGreatDoorRows
import Derived.JoinedOf
import Derived.KernelRfl
namespace Go.Proofs.YtgepdnoaemeofaaGreatDoor.rationalTruncatedJ
open Go
set_option maxRecDepth 100000
theorem both {a b : Bool} (ha : a = true) (hb : b = true) : (a && b) = true := by rw [ha, hb]; rfl
theorem e0 : (Rows.rationalTruncatedRow.wf (OpenSpec.ofChange Rows.rationalTruncatedSpec)) = true := by kernel_rfl
theorem e1 : (laidOutB Tryz.pinned.checked.prog) = true := by kernel_rfl
theorem e2 : (mapsRowed Tryz.pinned.checked.prog) = true := by kernel_rfl
theorem e3 : (Tryz.f15.params.all (Tryz.pinned.checked.prog.readableRec ·)) = true := by kernel_rfl
theorem e4 : (namedTie Tryz.pinned.checked.prog Rows.rationalTruncatedRow.named Rows.rationalTruncatedSpec.vars) = true := by kernel_rfl
theorem e5 : ((Rows.rationalTruncatedRow.stops == [])) = true := by kernel_rfl
theorem e6 : ((Tryz.pinned.checked.prog.stops == [])) = true := by kernel_rfl
theorem e7 : ((Rows.rationalTruncatedRow.knobs == [])) = true := by kernel_rfl
theorem e8 : ((Tryz.pinned.checked.prog.stopKnobs == [])) = true := by kernel_rfl
theorem e9 : ((Rows.rationalTruncatedRow.inPlace == Tryz.pinned.checked.prog.inPlace 15)) = true := by kernel_rfl
theorem e10 : ((Rows.rationalTruncatedRow.unfollowed == Tryz.pinned.checked.prog.unfollowed 15)) = true := by kernel_rfl
theorem e11 : ((Rows.rationalTruncatedRow.recurses == Tryz.pinned.checked.prog.recurses 15)) = true := by kernel_rfl
theorem e12 : ((Rows.rationalTruncatedRow.named == Tryz.pinned.checked.prog.varsNamed 15)) = true := by kernel_rfl
theorem e13 : ((Rows.rationalTruncatedRow.maps == (Tryz.f15.params.toList ++ Rows.rationalTruncatedSpec.plain.varTypes Tryz.pinned.checked.prog).any (Tryz.pinned.checked.prog.mapsRec ·))) = true := by kernel_rfl
theorem e14 : ((Rows.rationalTruncatedRow.ifaces == (Tryz.f15.params.toList ++ Rows.rationalTruncatedSpec.plain.varTypes Tryz.pinned.checked.prog).any (Tryz.pinned.checked.prog.ifacesRec ·))) = true := by kernel_rfl
theorem e15 : ((Rows.rationalTruncatedRow.mapsOut == Tryz.pinned.checked.prog.mapsAmong Tryz.f15.resultTypes.toList)) = true := by kernel_rfl
theorem e16 : ((Rows.rationalTruncatedRow.loops == (Tryz.f15.params.toList ++ Rows.rationalTruncatedSpec.plain.varTypes Tryz.pinned.checked.prog).any (Tryz.pinned.checked.prog.loopsFrom ·))) = true := by kernel_rfl
theorem e17 : ((Rows.rationalTruncatedRow.wideKeys == (Tryz.f15.params.toList ++ Rows.rationalTruncatedSpec.plain.varTypes Tryz.pinned.checked.prog ++ Tryz.f15.resultTypes.toList).any (Tryz.pinned.checked.prog.wideKeysFrom ·))) = true := by kernel_rfl
theorem e18 : (Rows.rationalTruncatedSpec.vars.all (Tryz.pinned.checked.prog.varReadable ·)) = true := by kernel_rfl
theorem e19 : (Tryz.f15.resultTypes.all (fun t => Tryz.pinned.checked.prog.readableRec t && decide (t < Tryz.pinned.checked.prog.types.size))) = true := by kernel_rfl
theorem e20 : ((Rows.rationalTruncatedRow.ifacesOut == Tryz.f15.resultTypes.toList.any (Tryz.pinned.checked.prog.ifacesRec ·))) = true := by kernel_rfl
theorem e21 : ((Rows.rationalTruncatedRow.loopsOut == Tryz.f15.resultTypes.toList.any (Tryz.pinned.checked.prog.loopsFrom ·))) = true := by kernel_rfl
theorem e22 : ((Rows.rationalTruncatedRow.plainKeys == Tryz.pinned.checked.prog.plainKeys)) = true := by kernel_rfl
theorem e23 : (Rows.rationalTruncatedRow.shortTexts.isNone) = true := by kernel_rfl
theorem e24 : (Tryz.pinned.checked.prog.stopsHeard) = true := by kernel_rfl
theorem e25 : (Tryz.pinned.checked.prog.mayEnter) = true := by kernel_rfl
theorem e26 : ((Rows.rationalTruncatedRow.lifted == Tryz.pinned.checked.prog.liftsFinal)) = true := by kernel_rfl
theorem e27 : ((Tryz.pinned.checked.prog.make == some Rows.rationalTruncatedRow.make)) = true := by kernel_rfl
theorem e28 : ((Rows.rationalTruncatedRow.kinds == (if Rows.rationalTruncatedRow.domain.isEmpty then [] else Tryz.f15.params.toList.map fun t => match Tryz.pinned.checked.prog.underlying t with | some (.int k) => some k | _ => none))) = true := by kernel_rfl
theorem e29 : ((Rows.rationalTruncatedRow.pinned == Rows.rationalTruncatedRow.pinnedBy)) = true := by kernel_rfl
theorem e30 : ((Rows.rationalTruncatedRow.veiled == (Tryz.f15.params.toList ++ Rows.rationalTruncatedSpec.plain.varTypes Tryz.pinned.checked.prog ++ Tryz.f15.resultTypes.toList).any (Tryz.pinned.checked.prog.veiledRec ·))) = true := by kernel_rfl
theorem e31 : (Rows.rationalTruncatedRow.veiledFits Tryz.pinned.checked.prog Tryz.f15.params.toList (Tryz.f15.params.toList ++ Rows.rationalTruncatedSpec.plain.varTypes Tryz.pinned.checked.prog ++ Tryz.f15.resultTypes.toList)) = true := by kernel_rfl
theorem joined : joinedFacts Tryz.pinned.checked.prog 15 Tryz.f15 Rows.rationalTruncatedSpec Rows.rationalTruncatedRow = true := by
  unfold joinedFacts
  exact (both (both (both (both (both (both (both (both (both (both (both (both (both (both (both (both (both (both (both (both (both (both (both (both (both (both (both (both (both (both (both e0 e1) e2) e3) e4) e5) e6) e7) e8) e9) e10) e11) e12) e13) e14) e15) e16) e17) e18) e19) e20) e21) e22) e23) e24) e25) e26) e27) e28) e29) e30) e31)
end Go.Proofs.YtgepdnoaemeofaaGreatDoor.rationalTruncatedJ
