/- RationalDivide: the closed facts of its row, one by one, and all of them. -/
import Derived.Test.YtgepdnoaemeofaaGreatDoorRows
import Derived.JoinedOf
import Derived.KernelRfl
namespace Go.Proofs.YtgepdnoaemeofaaGreatDoor.rationalDivideJ
open Go
set_option maxRecDepth 100000
theorem both {a b : Bool} (ha : a = true) (hb : b = true) : (a && b) = true := by rw [ha, hb]; rfl
theorem e0 : (Rows.rationalDivideRow.wf (OpenSpec.ofChange Rows.rationalDivideSpec)) = true := by kernel_rfl
theorem e1 : (laidOutB Tryz.pinned.checked.prog) = true := by kernel_rfl
theorem e2 : (mapsRowed Tryz.pinned.checked.prog) = true := by kernel_rfl
theorem e3 : (Tryz.f7.params.all (Tryz.pinned.checked.prog.readableRec ·)) = true := by kernel_rfl
theorem e4 : (namedTie Tryz.pinned.checked.prog Rows.rationalDivideRow.named Rows.rationalDivideSpec.vars) = true := by kernel_rfl
theorem e5 : ((Rows.rationalDivideRow.stops == [])) = true := by kernel_rfl
theorem e6 : ((Tryz.pinned.checked.prog.stops == [])) = true := by kernel_rfl
theorem e7 : ((Rows.rationalDivideRow.knobs == [])) = true := by kernel_rfl
theorem e8 : ((Tryz.pinned.checked.prog.stopKnobs == [])) = true := by kernel_rfl
theorem e9 : ((Rows.rationalDivideRow.inPlace == Tryz.pinned.checked.prog.inPlace 7)) = true := by kernel_rfl
theorem e10 : ((Rows.rationalDivideRow.unfollowed == Tryz.pinned.checked.prog.unfollowed 7)) = true := by kernel_rfl
theorem e11 : ((Rows.rationalDivideRow.recurses == Tryz.pinned.checked.prog.recurses 7)) = true := by kernel_rfl
theorem e12 : ((Rows.rationalDivideRow.named == Tryz.pinned.checked.prog.varsNamed 7)) = true := by kernel_rfl
theorem e13 : ((Rows.rationalDivideRow.maps == (Tryz.f7.params.toList ++ Rows.rationalDivideSpec.plain.varTypes Tryz.pinned.checked.prog).any (Tryz.pinned.checked.prog.mapsRec ·))) = true := by kernel_rfl
theorem e14 : ((Rows.rationalDivideRow.ifaces == (Tryz.f7.params.toList ++ Rows.rationalDivideSpec.plain.varTypes Tryz.pinned.checked.prog).any (Tryz.pinned.checked.prog.ifacesRec ·))) = true := by kernel_rfl
theorem e15 : ((Rows.rationalDivideRow.mapsOut == Tryz.pinned.checked.prog.mapsAmong Tryz.f7.resultTypes.toList)) = true := by kernel_rfl
theorem e16 : ((Rows.rationalDivideRow.loops == (Tryz.f7.params.toList ++ Rows.rationalDivideSpec.plain.varTypes Tryz.pinned.checked.prog).any (Tryz.pinned.checked.prog.loopsFrom ·))) = true := by kernel_rfl
theorem e17 : ((Rows.rationalDivideRow.wideKeys == (Tryz.f7.params.toList ++ Rows.rationalDivideSpec.plain.varTypes Tryz.pinned.checked.prog ++ Tryz.f7.resultTypes.toList).any (Tryz.pinned.checked.prog.wideKeysFrom ·))) = true := by kernel_rfl
theorem e18 : (Rows.rationalDivideSpec.vars.all (Tryz.pinned.checked.prog.varReadable ·)) = true := by kernel_rfl
theorem e19 : (Tryz.f7.resultTypes.all (fun t => Tryz.pinned.checked.prog.readableRec t && decide (t < Tryz.pinned.checked.prog.types.size))) = true := by kernel_rfl
theorem e20 : ((Rows.rationalDivideRow.ifacesOut == Tryz.f7.resultTypes.toList.any (Tryz.pinned.checked.prog.ifacesRec ·))) = true := by kernel_rfl
theorem e21 : ((Rows.rationalDivideRow.loopsOut == Tryz.f7.resultTypes.toList.any (Tryz.pinned.checked.prog.loopsFrom ·))) = true := by kernel_rfl
theorem e22 : ((Rows.rationalDivideRow.plainKeys == Tryz.pinned.checked.prog.plainKeys)) = true := by kernel_rfl
theorem e23 : (Rows.rationalDivideRow.shortTexts.isNone) = true := by kernel_rfl
theorem e24 : (Tryz.pinned.checked.prog.stopsHeard) = true := by kernel_rfl
theorem e25 : (Tryz.pinned.checked.prog.mayEnter) = true := by kernel_rfl
theorem e26 : ((Rows.rationalDivideRow.lifted == Tryz.pinned.checked.prog.liftsFinal)) = true := by kernel_rfl
theorem e27 : ((Tryz.pinned.checked.prog.make == some Rows.rationalDivideRow.make)) = true := by kernel_rfl
theorem e28 : ((Rows.rationalDivideRow.kinds == (if Rows.rationalDivideRow.domain.isEmpty then [] else Tryz.f7.params.toList.map fun t => match Tryz.pinned.checked.prog.underlying t with | some (.int k) => some k | _ => none))) = true := by kernel_rfl
theorem e29 : ((Rows.rationalDivideRow.pinned == Rows.rationalDivideRow.pinnedBy)) = true := by kernel_rfl
theorem e30 : ((Rows.rationalDivideRow.veiled == (Tryz.f7.params.toList ++ Rows.rationalDivideSpec.plain.varTypes Tryz.pinned.checked.prog ++ Tryz.f7.resultTypes.toList).any (Tryz.pinned.checked.prog.veiledRec ·))) = true := by kernel_rfl
theorem e31 : (Rows.rationalDivideRow.veiledFits Tryz.pinned.checked.prog Tryz.f7.params.toList (Tryz.f7.params.toList ++ Rows.rationalDivideSpec.plain.varTypes Tryz.pinned.checked.prog ++ Tryz.f7.resultTypes.toList)) = true := by kernel_rfl
theorem joined : joinedFacts Tryz.pinned.checked.prog 7 Tryz.f7 Rows.rationalDivideSpec Rows.rationalDivideRow = true := by
  unfold joinedFacts
  exact (both (both (both (both (both (both (both (both (both (both (both (both (both (both (both (both (both (both (both (both (both (both (both (both (both (both (both (both (both (both (both e0 e1) e2) e3) e4) e5) e6) e7) e8) e9) e10) e11) e12) e13) e14) e15) e16) e17) e18) e19) e20) e21) e22) e23) e24) e25) e26) e27) e28) e29) e30) e31)
end Go.Proofs.YtgepdnoaemeofaaGreatDoor.rationalDivideJ
