/- RationalFraction: the closed facts of its row, one by one, and all of them. -/
import Derived.Test.YtgepdnoaemeofaaGreatDoorRows
import Derived.JoinedOf
import Derived.KernelRfl
namespace Go.Proofs.YtgepdnoaemeofaaGreatDoor.rationalFractionJ
open Go
set_option maxRecDepth 100000
theorem both {a b : Bool} (ha : a = true) (hb : b = true) : (a && b) = true := by rw [ha, hb]; rfl
theorem e0 : (Rows.rationalFractionRow.wf (OpenSpec.ofChange Rows.rationalFractionSpec)) = true := by kernel_rfl
theorem e1 : (laidOutB Tryz.pinned.checked.prog) = true := by kernel_rfl
theorem e2 : (mapsRowed Tryz.pinned.checked.prog) = true := by kernel_rfl
theorem e3 : (Tryz.f6.params.all (Tryz.pinned.checked.prog.readableRec ·)) = true := by kernel_rfl
theorem e4 : (namedTie Tryz.pinned.checked.prog Rows.rationalFractionRow.named Rows.rationalFractionSpec.vars) = true := by kernel_rfl
theorem e5 : ((Rows.rationalFractionRow.stops == [])) = true := by kernel_rfl
theorem e6 : ((Tryz.pinned.checked.prog.stops == [])) = true := by kernel_rfl
theorem e7 : ((Rows.rationalFractionRow.knobs == [])) = true := by kernel_rfl
theorem e8 : ((Tryz.pinned.checked.prog.stopKnobs == [])) = true := by kernel_rfl
theorem e9 : ((Rows.rationalFractionRow.inPlace == Tryz.pinned.checked.prog.inPlace 6)) = true := by kernel_rfl
theorem e10 : ((Rows.rationalFractionRow.unfollowed == Tryz.pinned.checked.prog.unfollowed 6)) = true := by kernel_rfl
theorem e11 : ((Rows.rationalFractionRow.recurses == Tryz.pinned.checked.prog.recurses 6)) = true := by kernel_rfl
theorem e12 : ((Rows.rationalFractionRow.named == Tryz.pinned.checked.prog.varsNamed 6)) = true := by kernel_rfl
theorem e13 : ((Rows.rationalFractionRow.maps == (Tryz.f6.params.toList ++ Rows.rationalFractionSpec.plain.varTypes Tryz.pinned.checked.prog).any (Tryz.pinned.checked.prog.mapsRec ·))) = true := by kernel_rfl
theorem e14 : ((Rows.rationalFractionRow.ifaces == (Tryz.f6.params.toList ++ Rows.rationalFractionSpec.plain.varTypes Tryz.pinned.checked.prog).any (Tryz.pinned.checked.prog.ifacesRec ·))) = true := by kernel_rfl
theorem e15 : ((Rows.rationalFractionRow.mapsOut == Tryz.pinned.checked.prog.mapsAmong Tryz.f6.resultTypes.toList)) = true := by kernel_rfl
theorem e16 : ((Rows.rationalFractionRow.loops == (Tryz.f6.params.toList ++ Rows.rationalFractionSpec.plain.varTypes Tryz.pinned.checked.prog).any (Tryz.pinned.checked.prog.loopsFrom ·))) = true := by kernel_rfl
theorem e17 : ((Rows.rationalFractionRow.wideKeys == (Tryz.f6.params.toList ++ Rows.rationalFractionSpec.plain.varTypes Tryz.pinned.checked.prog ++ Tryz.f6.resultTypes.toList).any (Tryz.pinned.checked.prog.wideKeysFrom ·))) = true := by kernel_rfl
theorem e18 : (Rows.rationalFractionSpec.vars.all (Tryz.pinned.checked.prog.varReadable ·)) = true := by kernel_rfl
theorem e19 : (Tryz.f6.resultTypes.all (fun t => Tryz.pinned.checked.prog.readableRec t && decide (t < Tryz.pinned.checked.prog.types.size))) = true := by kernel_rfl
theorem e20 : ((Rows.rationalFractionRow.ifacesOut == Tryz.f6.resultTypes.toList.any (Tryz.pinned.checked.prog.ifacesRec ·))) = true := by kernel_rfl
theorem e21 : ((Rows.rationalFractionRow.loopsOut == Tryz.f6.resultTypes.toList.any (Tryz.pinned.checked.prog.loopsFrom ·))) = true := by kernel_rfl
theorem e22 : ((Rows.rationalFractionRow.plainKeys == Tryz.pinned.checked.prog.plainKeys)) = true := by kernel_rfl
theorem e23 : (Rows.rationalFractionRow.shortTexts.isNone) = true := by kernel_rfl
theorem e24 : (Tryz.pinned.checked.prog.stopsHeard) = true := by kernel_rfl
theorem e25 : (Tryz.pinned.checked.prog.mayEnter) = true := by kernel_rfl
theorem e26 : ((Rows.rationalFractionRow.lifted == Tryz.pinned.checked.prog.liftsFinal)) = true := by kernel_rfl
theorem e27 : ((Tryz.pinned.checked.prog.make == some Rows.rationalFractionRow.make)) = true := by kernel_rfl
theorem e28 : ((Rows.rationalFractionRow.kinds == (if Rows.rationalFractionRow.domain.isEmpty then [] else Tryz.f6.params.toList.map fun t => match Tryz.pinned.checked.prog.underlying t with | some (.int k) => some k | _ => none))) = true := by kernel_rfl
theorem e29 : ((Rows.rationalFractionRow.pinned == Rows.rationalFractionRow.pinnedBy)) = true := by kernel_rfl
theorem e30 : ((Rows.rationalFractionRow.veiled == (Tryz.f6.params.toList ++ Rows.rationalFractionSpec.plain.varTypes Tryz.pinned.checked.prog ++ Tryz.f6.resultTypes.toList).any (Tryz.pinned.checked.prog.veiledRec ·))) = true := by kernel_rfl
theorem e31 : (Rows.rationalFractionRow.veiledFits Tryz.pinned.checked.prog Tryz.f6.params.toList (Tryz.f6.params.toList ++ Rows.rationalFractionSpec.plain.varTypes Tryz.pinned.checked.prog ++ Tryz.f6.resultTypes.toList)) = true := by kernel_rfl
theorem joined : joinedFacts Tryz.pinned.checked.prog 6 Tryz.f6 Rows.rationalFractionSpec Rows.rationalFractionRow = true := by
  unfold joinedFacts
  exact (both (both (both (both (both (both (both (both (both (both (both (both (both (both (both (both (both (both (both (both (both (both (both (both (both (both (both (both (both (both (both e0 e1) e2) e3) e4) e5) e6) e7) e8) e9) e10) e11) e12) e13) e14) e15) e16) e17) e18) e19) e20) e21) e22) e23) e24) e25) e26) e27) e28) e29) e30) e31)
end Go.Proofs.YtgepdnoaemeofaaGreatDoor.rationalFractionJ
